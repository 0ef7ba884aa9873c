/- Part Ph of the proof: an abstract machine over the model, and what the functions of the program hand back in its terms. No condition. -/
import Derived.Test.YtjmkolhkojgjpaaGreatDoorPg
import Derived.Test.YtjmkolhkojgjpaaGreatDoorPc
import Derived.Test.YtjmkolhkojgjpaaGreatDoorPd
import Derived.Test.YtjmkolhkojgjpaaGreatDoorPf
import Derived.Test.YtjmkolhkojgjpaaGreatDoorPe
set_option linter.all false
open List renaming range→yD,take_length→zZ,getElem?_eq_getElem→zD,take_succ_eq_append_getElem→zJ,foldl_append→xP,range_succ→wZ,length_cons→yB,length_take→yP,length_append→zW,mem_of_getElem?→zF,mem_append→zO,mem_singleton→zI,mem_or_eq_of_mem_set→vL,mem_of_mem_take→yW,getD→yT,getElem_mem→zG,getElem?_append_right→zC,getElem?_set_self→zH,getElem?_set_ne→zB,append_assoc→xV,getElem?_append_left→zE,mem_cons→zT,not_mem_nil→vM,map_append→yF,length_map→zV,append_nil→xO,mem_append_left→xB,take_of_length_le→zM,flatMap_append→wY,length_drop→yS,map→yX,mem_map→zK,mem_of_mem_drop→wD,map_take→yQ,map_drop→yR,map_cons→yJ,drop_eq_getElem_cons→uv,map_nil→xI,nodup_append→vP,getElem?_eq_some_iff→zA,mergeSort_perm→wG,all_eq_true→zP,mem_append_right→vA
open Nat renaming le_trans→yO,zero_le→xA,le_refl→zL,mul_le_mul→vw
open Prod renaming ext→tg
open Int renaming le_refl→yI
open Bool renaming not_eq_false→t6
set_option maxHeartbeats 16000000
set_option linter.unusedSimpArgs false
set_option maxRecDepth 100000
namespace Go.Abs
open Go Go.Proofs Go.Maps Go.RowKit
theorem v0a{a:Aut}(h:(Ol a).1=0):OkA a∧∃cl Q,Ol a=(0,cl,Q)∧G9 a cl=some Q∧Cls a cl∧Sub a cl Q∧cl.length≤256∧∀c∈cl,Hi [c]=0∧Wk c=false∧Ww a (Qn c)∧PWf a.types.toNat c∧∀s∈c,s.length≤256:=by
 have h0:Wj a=0:=by
  by_cases h0:Wj a=0
  ·exact h0
  ·rw[v0c h0]at h;exact absurd h h0
 have z1:=(Ob a).1 h0;have hm:(R0 a.types (onA a)).1=0:=by
  by_cases hm:(R0 a.types (onA a)).1=0
  ·exact hm
  ·rw[Ol,if_neg (fun k=>k h0),if_pos hm]at h;exact absurd h hm
 obtain⟨cl,h1,h2,h3,h4⟩:=X2 z1 hm;refine⟨z1,cl,?_⟩;rcases Xy z1 with h5|⟨Q,h5,h6,h7,h8⟩
 ·rw[h5]at h;simp at h
 ·have z6:Qx a.types.toNat (onA a)=cl:=by
   have h9:(Ol a).2.1=cl:=by
    rw[Ol,if_neg (fun k=>k h0),if_neg (fun k=>k hm),h1];split
    ·rename_i hn;rw[Ol,if_neg (fun k=>k h0),if_neg (fun k=>k hm),h1]at h;simp only[hn]at h;simp at h
    ·rfl
   rw[h5]at h9;exact h9
  rw[z6]at h5 h6 h7 h8;exact⟨Q,h5,h6,h2,h7,h3,h4⟩
theorem u1r(H:List AObj)(id:Nat)(a:Aut)(hid:H[id]? =some (.vars (Qo a)))(s:Int)(h0:0≤s)(h1:s<a.fin.length):FC Tryz.prog 48 [.i s,.vptr id 0] H (fun r H'=>r= .bool (a.fin.getD s.toNat false)∧H'=H):=by
 refine Eg tOk Tryz.func48 rfl Tryz.results48 rfl (by simp[Tryz.ntmps48]) ?_;rw[Tryz.ntmps48];simp only[Qe];have h2:s.toNat<a.fin.length:=by omega
 repeat first|(refine r_ ?_;simp[hid,h0,h1,h2])|refine q_ ?_
def stepG(a:Aut)(Q:List (List Int))(n:Nat)(l:List Int)(g:List Mv)(c:Prd):List Mv:=match x0l Q (Q0 a l (Qn c))with|some t=>U2 n g t c|none=>g
def Ew(a:Aut)(cl:List Prd)(Q:List (List Int))(n:Nat)(l:List Int)(k:Nat):List Mv:=(cl.take k).foldl (stepG a Q n l) []
def Dn(a:Aut)(cl:List Prd)(Q:List (List Int))(n:Nat):List Mv:=(yD n).flatMap fun n=>Ve a cl Q n (Q.getD n [])
theorem Fi(a:Aut)(cl:List Prd)(Q:List (List Int))(n:Nat)(l:List Int):Ew a cl Q n l cl.length=Ve a cl Q n l:=by rw[Ew,zZ];rfl
theorem B9(a:Aut)(cl:List Prd)(Q:List (List Int))(n:Nat)(l:List Int){k:Nat}{c:Prd}(h:cl[k]? =some c):Ew a cl Q n l (k+1)=stepG a Q n l (Ew a cl Q n l k) c:=by
 have hk:=Tr h;have hc:cl[k]=c:=by rw[zD hk]at h;exact Option.some.inj h
 rw[Ew,zJ hk,xP,hc];rfl
theorem Vm(a:Aut)(cl:List Prd)(Q:List (List Int))(n:Nat):Dn a cl Q (n+1)=Dn a cl Q n++Ve a cl Q n (Q.getD n []):=by simp[Dn,wZ]
theorem f02(n:Nat)(g:List Mv)(to:Nat)(c:Prd):(U2 n g to c).length≤g.length+1:=by
 unfold U2;split
 ·simp
 ·split<;>simp
theorem Xq(a:Aut)(Q:List (List Int))(n:Nat)(l:List Int):∀(cl:List Prd) (g:List Mv),(cl.foldl (stepG a Q n l) g).length≤g.length+cl.length
 |[],g=>by simp
 |c::cl,g=>by
  have h1:=Xq a Q n l cl (stepG a Q n l g c);have h2:(stepG a Q n l g c).length≤g.length+1:=by
   unfold stepG;split
   ·exact f02 _ _ _ _
   ·omega
  rw[List.foldl_cons,yB];omega
theorem F5(a:Aut)(cl:List Prd)(Q:List (List Int))(n:Nat)(l:List Int)(hc:cl.length≤256)(k:Nat):(Ew a cl Q n l k).length≤256:=by have:=Xq a Q n l (cl.take k) [];rw[yP]at this;rw[Ew];simp at this;omega
theorem d0v(a:Aut)(cl:List Prd)(Q:List (List Int))(hq:Q.length≤256)(hc:cl.length≤256):∀n,n<Q.length→(Dn a cl Q n).length≤n * 256∧(Dn a cl Q n).length≤65536:=by
 have:∀n,(Dn a cl Q n).length≤n * 256:=fun n=>by
  induction n with
  |zero=>simp[Dn]
  |succ n ih=>
   have h:=F5 a cl Q n (Q.getD n []) hc cl.length;rw[Fi]at h;have:Dn a cl Q (n+1)=Dn a cl Q n++Ve a cl Q n (Q.getD n []):=by simp[Dn,wZ]
   rw[this,zW];omega
 exact fun n hn=>⟨this n,by have:=this n;omega⟩
theorem z0h(a:Aut)(cl:List Prd)(Q:List (List Int))(n:Nat)(l:List Int):Ew a cl Q n l 0=[]:=rfl
theorem c0y{a:Aut}{Q:List (List Int)}(z1:∀l∈Q,l≠[]){n:Nat}{l:List Int}{g:List Mv}{c:Prd}(h:Q0 a l (Qn c)=[]):stepG a Q n l g c=g:=by
 unfold stepG;rw[h];cases hq:x0l Q []with
 |none=>rfl
 |some t=>exact absurd rfl (z1 _ (zF (Gi hq)))
theorem k0j{a:Aut}{Q:List (List Int)}(hn:Q.Nodup){n t:Nat}{l:List Int}{g:List Mv}{c:Prd}(h:Q[t]? =some (Q0 a l (Qn c))):stepG a Q n l g c=U2 n g t c:=by unfold stepG;rw[f0j hn h]
theorem w1z{T n to:Nat}{g:List Mv}{c:Prd}(hg:∀m∈g,PWf T m.on)(hc:PWf T c):∀m∈U2 n g to c,PWf T m.on:=by
 intro m hm;unfold U2 at hm;split at hm
 ·rcases zO.1 hm with hm|hm
  ·exact hg m hm
  ·rw[zI.1 hm];exact hc
 ·split at hm
  ·rename_i m2 z1;rcases vL hm with hm|rfl
   ·exact hg m hm
   ·exact Fy (hg _ (zF z1)) hc
  ·exact hg m hm
theorem z1e{a:Aut}{T:Nat}{Q:List (List Int)}{n:Nat}{l:List Int}{cl:List Prd}(z1:∀c∈cl,PWf T c):∀k,∀m∈Ew a cl Q n l k,PWf T m.on:=by
 have:∀(cl:List Prd) (g:List Mv),(∀c∈cl,PWf T c)→(∀m∈g,PWf T m.on)→∀m∈cl.foldl (stepG a Q n l) g,PWf T m.on:=by
  intro cl;induction cl with
  |nil=>intro g _ hg;exact hg
  |cons c cl ih=>
   intro g hc hg;refine ih _ (fun x hx=>hc x (by simp[hx])) fun m hm=> ?_;unfold stepG at hm;split at hm
   ·exact w1z hg (hc c (by simp)) m hm
   ·exact hg m hm
 exact fun k=>this _ _ (fun c hc=>z1 c (yW hc)) (fun m hm=>by simp at hm)
def AObj.isLp:AObj→Bool
 | .lp .. =>true
 |_=>false
theorem v1t{T:Nat}{c:Prd}(hw:PWf T c)(hz:∀s∈c,s.length≤256){i:Nat}(hi:i<T):(Q8 [c] i).length≤1000000:=by
 have h:i<c.length:=by rw[hw.1];exact hi
 have:Q8 [c] i=c[i]:=by simp[Q8,yT,h]
 rw[this];have:=hz _ (zG h);omega
theorem u1p{T:Nat}{p c:Prd}(hp:PWf T p)(hw:PWf T c)(h1:∀s∈p,s.length≤65536)(hz:∀s∈c,s.length≤256){i:Nat}(hi:i<T):(Q8 [p,c] i).length≤1000000:=by
 have h:i<c.length:=by rw[hw.1];exact hi
 have h2:i<p.length:=by rw[hp.1];exact hi
 have:Q8 [p,c] i=p[i]++c[i]:=by simp[Q8,yT,h,h2]
 rw[this,zW];have:=hz _ (zG h);have:=h1 _ (zG h2);omega
theorem w1m(a:Aut)(cl:List Prd)(Q:List (List Int)):Dn a cl Q Q.length=(Y4 a cl Q).mv:=rfl
theorem q02(a:Aut)(cl:List Prd)(Q:List (List Int)):(Y4 a cl Q).fin=Q.map (Iu a):=rfl
theorem y00(a:Aut)(cl:List Prd)(Q:List (List Int)):(Y4 a cl Q).types=a.types:=rfl
theorem M8(d:Aut):d0b d=if Xx d then(5,Ou)else(0,d):=rfl
theorem f0n(a:Aut)(cl:List Prd)(Q:List (List Int))(hq:Q.length≤256)(hc:cl.length≤256):(Dn a cl Q Q.length).length≤65536:=by
 have:∀n,(Dn a cl Q n).length≤n * 256:=fun n=>by
  induction n with
  |zero=>simp[Dn]
  |succ n ih=>have h:=F5 a cl Q n (Q.getD n []) hc cl.length;rw[Fi]at h;rw[Vm,zW];omega
 have:=this Q.length;omega
theorem g0e{p c:Prd}{A B:Nat}(hp:∀s∈p,s.length≤A)(hc:∀s∈c,s.length≤B):∀s∈Rh p c,s.length≤A+B:=by intro s hs;obtain⟨i,hi,rfl⟩:=List.getElem_of_mem hs;simp only[Rh,List.length_zipWith]at hi;simp only[Rh,List.getElem_zipWith];refine yO (z1v _) ?_;rw[zW];have h1:=hp _ (zG (by omega:i<p.length));have h2:=hc _ (zG (by omega:i<c.length));omega
theorem c00{a:Aut}{Q:List (List Int)}{n:Nat}{l:List Int}{cl:List Prd}(z6:∀c∈cl,∀s∈c,s.length≤256)(z8:cl.length≤256):∀k,∀m∈Ew a cl Q n l k,∀s∈m.on,s.length≤65536:=by
 have key:∀(cl:List Prd) (g:List Mv) (B:Nat),(∀c∈cl,∀s∈c,s.length≤256)→(∀m∈g,∀s∈m.on,s.length≤B)→∀m∈cl.foldl (stepG a Q n l) g,∀s∈m.on,s.length≤B+cl.length * 256:=by
  intro cl;induction cl with
  |nil=>intro g B _ hg m hm s hs;have:=hg m hm s hs;simp;omega
  |cons c cl ih=>
   intro g B hc hg m hm s hs;have h1:∀m∈stepG a Q n l g c,∀s∈m.on,s.length≤B+256:=by
    intro m hm s hs;have z1:=hc c (by simp);unfold stepG U2 at hm;split at hm
    ·split at hm
     ·rcases zO.1 hm with hm|hm
      ·have:=hg m hm s hs;omega
      ·rw[zI.1 hm]at hs;have:=z1 s hs;omega
     ·split at hm
      ·rename_i m2 z7;rcases vL hm with hm|rfl
       ·have:=hg m hm s hs;omega
       ·exact g0e (hg _ (zF z7)) z1 s hs
      ·have:=hg m hm s hs;omega
    ·have:=hg m hm s hs;omega
   have:=ih (stepG a Q n l g c) (B+256) (fun x hx=>hc x (by simp[hx])) h1 m hm s hs;rw[yB];omega
 intro k m hm s hs;have:=key (cl.take k) [] 0 (fun c hc=>z6 c (yW hc)) (fun m hm=>by simp at hm) m hm s hs;rw[yP]at this;have:min k cl.length≤256:=by omega
 omega
theorem Cm(a:Aut)(cl:List Prd)(Q:List (List Int)):Dn a cl Q 0=[]:=rfl
attribute [local irreducible] Ol Q0 Qn mpT Rw d0b Y4 Dn Ew stepG Iu Xx
theorem Oi(a:Aut):PC Tryz.prog 15 [encA a] (fun r=>r= .tup [encA (Rz a).2,.i (Rz a).1]):=by
 refine Qh tOk Tryz.func15 rfl Tryz.results15 rfl (by simp[Tryz.ntmps15]) ?_;rw[Tryz.ntmps15];simp only[Qe];simp only[encA];repeat first|(refine r_ ?_;simp)|refine q_ ?_
 have yd:=y0v [.vars (Qo a),.vars [.i 0,.nils,.nils]] a;refine Wd rfl rfl yd rfl ?_;rintro res H' ⟨hk,⟨he,rfl⟩|⟨he,r,p,m,rfl,ht,hr,hp,hm⟩⟩
 ·have hd:Rz a=((Ol a).1,Ou):=by rw[Rz,if_pos he]
  rw[hd];have k0:=hk 0 (by simp);have k1:=hk 1 (by simp);simp at k0 k1;simp;repeat first|(refine r_ ?_;simp[Qc k1])|refine q_ ?_
  refine Qa rfl (fun _=> ?_) (fun h=>by simp at h;exact absurd h he);have k2:∀L Y,((H'++L).set 1 Y)[1]? =some Y:=fun L Y=>Qp (Qc k1 L) Y;repeat first|(refine r_ ?_;simp[Qc k1,k2])|refine q_ ?_
  exact⟨rfl,rfl,rfl⟩
 ·obtain⟨zn,cl,Q,x5,vp,xw,z8,zd,zo⟩:=v0a he;have hd:Rz a=d0b (Y4 a cl Q):=by rw[Rz,x5];simp
  rw[hd];rw[x5]at ht;simp only at ht;have k0:=hk 0 (by simp);have k1:=hk 1 (by simp);simp at k0 k1;have xx:=ht.t;have vq:=ht.s;simp;repeat first|(refine r_ ?_;simp[Qc k1])|refine q_ ?_
  refine Qa rfl (fun h=>by simp[he]at h) (fun _=> ?_);have k0a:∀(L:List AObj) hh,(H'++L)[0]'hh= .vars (Qo a):=fun L hh=>by have:=Qc k0 L;rw[zD hh]at this;exact Option.some.inj this
  have ye:=fun L=>Qc (G:=L) xx;repeat first|(refine r_ ?_;simp[Qc k0,k0a,ye])|refine q_ ?_
  have xy:=Qi ht.t;have xz:=Qi ht.s;have w8:=Qi ht.n;refine Q1 (sl':=[(1,.vptr 0 0),(2,.vptr 1 0),(3,.i 0),(4,.vptr H'.length 0),(6,.vptr (H'.length+1) 0),(30,.sl p 1 0 Q.length),(31,.i Q.length),(32,.i (0:Nat))]) ?_ (by simp);refine R8 (H'.length+1) 1 4 1 (xs:=[.i a.types,.nils,.nils]) (by rw[zC (by omega)];simp) rfl ?_;refine Ru fun Z1 zp=> ?_;have z1l:Z1.length=H'.length+3:=by rw[zp];simp
  have z1c:Z1[H'.length+1]? =some (.vars [.i a.types,.sl (H'.length+2) 1 0 0,.nils]):=by rw[zp,zH (by simp)];simp
  have z1f:Z1[H'.length+2]? =some (.arr 4 1 []):=by rw[zp,zB (by omega),zC (by simp)];simp
  have z1b:Z1[H'.length]? =some (.vars [.vptr r 0]):=by rw[zp,zB (by omega),xV,zC (by omega)];simp
  have z1k:∀i,i<H'.length→Z1[i]? =H'[i]? :=fun i hi=>by rw[zp,zB (by omega),xV,zE hi]
  clear zp;refine R8 (H'.length+1) 2 73 3 z1c rfl ?_;refine Ru fun Z2 y6=> ?_;have z2c:Z2[H'.length+1]? =some (.vars [.i a.types,.sl (H'.length+2) 1 0 0,.sl (H'.length+3) 3 0 0]):=by rw[y6,zH (by simp;omega)];simp[z1l]
  have z2v:Z2[H'.length+3]? =some (.arr 73 3 []):=by rw[y6,zB (by omega),zC (by omega)];simp[z1l]
  have z2k:∀i,i<Z1.length→i≠H'.length+1→Z2[i]? =Z1[i]? :=fun i hi wa=>by rw[y6,zB (Ne.symm wa),zE hi]
  clear y6;have hb:=(z2k _ (by omega) (by omega)).trans z1b;have x6:=(z2k _ (by omega) (by omega)).trans z1f;have hold:∀i,i<H'.length→Z2[i]? =H'[i]? :=fun i hi=>(z2k i (by omega) (by omega)).trans (z1k i hi);have x7:=(hold 0 (Qi k0)).trans k0;have x8:=(hold 1 (Qi k1)).trans k1;obtain⟨zh,z7⟩:∃zh:List (Nat×AObj),zh=[(0,.vars (Qo a)),(1,.vars [.i 0,.nils,.nils]),(H'.length,.vars [.vptr r 0]),(r,.vars [.i a.types,.list (a.fin.map .bool),.list (a.mv.map encMv),LP cl,.sl p 1 0 Q.length,.mref m]),(p,.arr 47 1 (LQ Q)),(m,mpT (Q.map Rw))]:=⟨_,rfl⟩
  have x9:Fx zh Z2:=by
   rw[z7];intro x hx;simp only[zT,vM,or_false]at hx;rcases hx with rfl|rfl|rfl|rfl|rfl|rfl
   ·exact x7
   ·exact x8
   ·exact hb
   ·exact(hold r xy).trans ht.t
   ·exact(hold p xz).trans ht.s
   ·exact(hold m w8).trans ht.n
  have wb:=z8.lim;have xa:∀x∈Q,O9 x:=fun x hx=>by have he:=z8.elem x hx;have:=V8 he.1 he.2;have:=zn.fin;exact⟨z8.ne x hx,by omega,fun z hz=>by have:=he.2 z hz;omega⟩
  have we:=zn.fin;generalize H'.length+1=c at *;generalize H'.length=b at *;refine Qm (Qb (sl':=[(1,.vptr 0 0),(2,.vptr 1 0),(3,.i 0),(4,.vptr b 0),(6,.vptr c 0),(30,.sl p 1 0 Q.length),(31,.i Q.length),(32,.i (0:Nat))]) ?_ (by simp))
  refine Ql (F:=fun(u:Nat×Nat×Nat×List AObj)=>⟨[(1,.vptr 0 0),(2,.vptr 1 0),(3,.i 0),(4,.vptr b 0),(6,.vptr c 0),(30,.sl p 1 0 Q.length),(31,.i Q.length),(32,.i u.1)],u.2.2.2⟩)
   (fun u=>u.1≤Q.length∧Fx zh u.2.2.2∧u.2.2.2[c]? =some (.vars [.i a.types,.sl u.2.1 1 0 u.1,.sl u.2.2.1 3 0 (Dn a cl Q u.1).length])∧u.2.2.2[u.2.1]? =some (.arr 4 1 (((Q.take u.1).map (Iu a)).map .bool))∧u.2.2.2[u.2.2.1]? =some (.arr 73 3 ((Dn a cl Q u.1).map encMv))) (fun u=>Q.length - u.1) ?_ (0,_,_,Z2) ⟨by simp,x9,by rw[Cm];exact z2c,by simpa using x6,by rw[Cm];exact z2v⟩
  clear x9 z2c x6 z2v hb x7 x8 hold z2k z1k z1b z1f z1c z1l;clear Z2 Z1;rintro⟨n,f,v,G⟩ ⟨hn,hF,gc,gf,gv⟩ ih;simp only at hn hF gc gf gv ih ⊢;repeat first|(refine r_ ?_;simp)|refine q_ ?_
  refine Qa rfl (fun wg=> ?_) (fun y8=> ?_)
  ·have ze:n<Q.length:=by simpa using wg
   have hw:IntKind.i64.wrap ((n:Int)+1)=n+1:=wrap_i64 _ (by omega) (by omega);have gs:G[p]? =some (.arr 47 1 (LQ Q)):=hF (p,_) (by rw[z7];simp);repeat first|(refine r_ ?_;simp[gs,ze])|refine q_ ?_
   have xb:=zG ze;have hle:=z8.elem _ xb;have wh:Q.getD n []=Q[n]:=by simp[yT,ze]
   have xc:=Vm a cl Q n;have wi:(Q.take (n+1)).map (Iu a)=(Q.take n).map (Iu a)++[Iu a Q[n]]:=by rw[zJ ze,yF];rfl
   rw[wh]at xc;have wj:=(d0v a cl Q (z8.lim) zd n ze).2;have zq:=z8.closed _ xb;have vr:=V8 hle.1 hle.2;have wk:=fun L=>Qc (G:=L) gc;have g0:∀L,(G++L)[0]? =some (.vars (Qo a)):=fun L=>Qc (hF (0,_) (by rw[z7];simp)) L;have wm:((Q.take n).map (Iu a)).length=n:=by simp;omega
   generalize Q[n]=l at *
   have wF:=hF.app [.vars [.i n]];have wc:=Qc gc [.vars [.i n]];have wf:=Qc gf [.vars [.i n]];have wv:=Qc gv [.vars [.i n]];have w7:(G++[AObj.vars [.i n]])[G.length]? =some (.vars [.i n]):=by simp
   have w0:=g0 [.vars [.i n]];refine Q1 (sl':=[(1,.vptr 0 0),(2,.vptr 1 0),(3,.i 0),(4,.vptr b 0),(6,.vptr c 0),(7,.vptr G.length 0),(8,LI l),(30,.sl p 1 0 Q.length),(31,.i Q.length),(32,.i n)]) ?_ (by simp);generalize G.length=n7 at *;generalize G++[AObj.vars [.i n]]=W at *;clear g0 wk gs gc gf gv hF;clear G
   have yf:((Q.take (n+1)).map (Iu a)).map AV.bool=((Q.take n).map (Iu a)).map AV.bool++[.bool (Iu a l)]:=by rw[wi];simp
   have xd:(((Q.take n).map (Iu a)).map AV.bool).length=n:=by rw[zV];exact wm
   generalize ((Q.take n).map (Iu a)).map AV.bool=xs at *
   have zr:c≠f:=fun e=>by rw[e,wf]at wc;simp at wc
   have yg:c≠v:=fun e=>by rw[e,wv]at wc;simp at wc
   have zt:f≠v:=fun e=>by rw[e,wv]at wf;simp at wf
   have xe:c≠n7:=fun e=>by rw[e,w7]at wc;simp at wc
   have xf:f≠n7:=fun e=>by rw[e,w7]at wf;simp at wf
   have z6:∀p∈zh,p.2≠ .vars [.i a.types,.sl f 1 0 n,.sl v 3 0 (Dn a cl Q n).length]:=by rw[z7];simp[Ev]
   have zu:∀p∈zh,p.2≠ .arr 4 1 xs:=by rw[z7];simp[Ev]
   have wo:=Qi wc;have wq:=Qi wf;have zv:=Qi wv;have xg:=Qi w7;have xh:=wF.set wf zu .dead;have ya:∀L,(W.set f .dead++L)[c]? =some (.vars [.i a.types,.sl f 1 0 n,.sl v 3 0 (Dn a cl Q n).length]):=fun L=>Qc (Qg (Ne.symm zr) wc _) L;refine v0h (P:=Tryz.prog) tOk mixed [4,6,8] (.val 0 (.val 2 (.val 3 (.two 1 (.one 4 (.one 5 (.one 6 (.val 7 (.one 8 (.done)))))) 4 (.val 1 (.one 5 (.one 6 (.val 7 (.one 8 (.done)))))))))) (fun S'=>∃f',Fx zh S'.hp∧S'.hp[n7]? =some (.vars [.i n])∧S'.hp[c]? =some (.vars [.i a.types,.sl f' 1 0 (n+1),.sl v 3 0 (Dn a cl Q n).length])∧S'.hp[f']? =some (.arr 4 1 (xs++[.bool (Iu a l)]))∧S'.hp[v]? =some (.arr 73 3 ((Dn a cl Q n).map encMv))∧look S'.sl 1=some (.vptr 0 0)∧look S'.sl 2=some (.vptr 1 0)∧look S'.sl 3=some (.i 0)∧look S'.sl 4=some (.vptr b 0)∧look S'.sl 6=some (.vptr c 0)∧look S'.sl 7=some (.vptr n7 0)∧look S'.sl 8=some (LI l)∧look S'.sl 30=some (.sl p 1 0 Q.length)∧look S'.sl 31=some (.i Q.length)∧look S'.sl 32=some (.i n)) rfl (by kernel_rfl) ?_ ?_
   ·simp[wc];refine⟨?_,?_⟩;all_goals
     refine Wd rfl rfl (Z3 W l 48 (.vptr 0 0) (fun s=>a.fin.getD s.toNat false) (by omega) (fun z hz=>u1r W 0 a w0 z (hle.2 z hz).1 (hle.2 z hz).2)) rfl ?_;rintro _ H2 ⟨rfl,wu⟩;rw[wu];have wx:l.any (fun s=>a.fin.getD s.toNat false)=Iu a l:=by unfold Iu;rfl
     rw[wx];simp[wc];refine Qf tOk rfl rfl T22 rfl T4 rfl (by decide) (by decide) rfl rfl rfl ?_;simp[Qc wf,Qj wf,xd,ya,Qc wc];refine⟨by simp[Wp,Qc wf,Qj wf,xd,ya,Qc wc]<;>omega,?_⟩;refine⟨?_,?_,W.length+1,?_,?_,?_⟩
     ·exact(xh.app _).set (ya _) z6 _
     ·rw[zB xe,zE (by simpa using xg),zB xf];exact w7
     ·rw[zH (by simp;omega)]
     ·rw[zB (by omega),zC (by simp)];simp
     ·rw[zB yg,zE (by simpa using zv),zB zt];exact wv
   ·rintro⟨sl,E⟩ ⟨f',eF,e7,ec,ef,ev,s1,s2,s3,s4,s6,s7,s8,s30,s31,s32⟩;simp only at eF e7 ec ef ev s1 s2 s3 s4 s6 s7 s8 s30 s31 s32;refine Q1 (sl':=[(1,.vptr 0 0),(2,.vptr 1 0),(3,.i 0),(4,.vptr b 0),(6,.vptr c 0),(7,.vptr n7 0),(8,LI l),(30,.sl p 1 0 Q.length),(31,.i Q.length),(32,.i n)]) ?_ (by simp[s1,s2,s3,s4,s6,s7,s8,s30,s31,s32]);clear s1 s2 s3 s4 s6 s7 s8 s30 s31 s32 xh ya z6 zu wo wq zv xg zr yg zt xe xf w0 w7 wv wf wc wF;have eb:E[b]? =some (.vars [.vptr r 0]):=eF (b,_) (by rw[z7];simp);repeat first|(refine r_ ?_;simp[ec,Qc eb])|refine q_ ?_
    have yh:∀g c,Q0 a l (Qn c)=[]→stepG a Q n l g c=g:=fun g c hx=>c0y z8.ne hx;have yi:∀g c t,Q[t]? =some (Q0 a l (Qn c))→stepG a Q n l g c=U2 n g t c:=fun g c t hx=>k0j z8.nd hx;have xi:=fun k c hc=>B9 a cl Q n l (k:=k) (c:=c) hc;have wy:=fun k=>F5 a cl Q n l zd k;have xj:Ew a cl Q n l 0=[]:=z0h a cl Q n l;have wz:=Fi a cl Q n l;have v7:∀k,∀m∈Ew a cl Q n l k,PWf a.types.toNat m.on:=z1e (fun c hc=>(zo c hc).2.2.2.1);have v8:∀k,∀m∈Ew a cl Q n l k,∀s∈m.on,s.length≤65536:=c00 (fun c hc=>(zo c hc).2.2.2.2) zd;have xk:=fun f v G=>ih (n+1,f,v,G);simp only[xc,←wz,yf]at xk;clear ih;generalize Dn a cl Q n=pre at *;refine Wd rfl rfl (P7 _ r l) rfl ?_
    rintro _ _ ⟨rfl,rfl⟩;simp;repeat first|(refine r_ ?_;simp)|refine q_ ?_
    obtain⟨zg,z6⟩:∃zg:List (Nat×AObj),zg=zh++[(n7,.vars [.i n]),(E.length,.vars [.i pre.length]),(E.length+1,.vars [.vptr r 0]),(E.length+2,.vars [LI l]),(f',.arr 4 1 (xs++[.bool (Iu a l)]))]:=⟨_,rfl⟩
    refine Ex rfl (Rf:=fun _ H'=>∃v,Fx zg H'∧H'[c]? =some (.vars [.i a.types,.sl f' 1 0 (n+1),.sl v 3 0 (pre++Ew a cl Q n l cl.length).length])∧H'[v]? =some (.arr 73 3 ((pre++Ew a cl Q n l cl.length).map encMv))∧∃sl' ps' a' b',H'[E.length+3]? =some (.lp true none 100 sl' ps' a' b')) ?_ ?_
    ·simp;refine J9 fun H1 zw=> ?_;have vb:Fx zg H1:=by
      rw[z6,zw];intro x hx;rcases zO.1 hx with hx|hx
      ·exact(eF.app _) x hx
      ·simp only[zT,vM,or_false]at hx;rcases hx with rfl|rfl|rfl|rfl|rfl
       ·exact Qc e7 _
       ·rw[zC (by simp)];simp
       ·rw[zC (by simp)];simp
       ·rw[zC (by simp)];simp
       ·exact Qc ef _
     have fc:H1[c]? =some (.vars [.i a.types,.sl f' 1 0 (n+1),.sl v 3 0 pre.length]):=by rw[zw];exact Qc ec _
     have fv:H1[v]? =some (.arr 73 3 (pre.map encMv)):=by rw[zw];exact Qc ev _
     have fq:=congrArg (fun h:List AObj=>h[E.length+3]?) zw;simp at fq;clear zw;refine FC.mono (Ny a zn cl l (fun c hc=>⟨(zo c hc).1,(zo c hc).2.1,(zo c hc).2.2.1⟩) zd (E.length+3) (E.length+1) (E.length+2) r (by rfl) (by rfl)
      (fun k H'=>∃v,Fx zg H'∧H'[c]? =some (.vars [.i a.types,.sl f' 1 0 (n+1),.sl v 3 0 (pre++Ew a cl Q n l k).length])∧H'[v]? =some (.arr 73 3 ((pre++Ew a cl Q n l k).map encMv))∧H'[E.length+3]? =H1[E.length+3]?)
      (fun k H' ⟨v',h1,h2,h3,h4⟩=>⟨h4.trans fq,h1 (E.length+1,_) (by rw[z6];simp),h1 (E.length+2,_) (by rw[z6];simp),[.sl p 1 0 Q.length,.mref m],h1 (r,_) (by rw[z6,z7];simp)⟩) ?_ ?_ ?_ H1 ⟨v,vb,by rw[xj,xO];exact fc,by rw[xj,xO];exact fv,rfl⟩) ?_
     ·rintro k H' L ⟨v',h1,h2,h3,h4⟩;exact⟨v',h1.app L,Qc h2 L,Qc h3 L,by rw[←h4,zE (by rw[fq]at h4;exact Qi h4)]⟩
     ·rintro k cc H' hc yj ⟨v',h1,h2,h3,h4⟩;have:=yh (Ew a cl Q n l k) cc yj;rw[←xi k cc hc]at this;exact⟨v',h1,by rw[this];exact h2,by rw[this];exact h3,h4⟩
     ·rintro k cc H' hc yj ⟨v',h1,h2,h3,h4⟩;rw[xi k cc hc];have zx:=zF hc;have yk:Q0 a l (Qn cc)∈Q:=(zq cc zx).resolve_left yj;have yl:=yi (Ew a cl Q n l k) cc;have vc:=wy k;have zj:=v7 k;have ym:=v8 k;have zi:=zo cc zx;generalize Q0 a l (Qn cc)=nx at *;generalize stepG a Q n l (Ew a cl Q n l k) cc=g2 at *;generalize Ew a cl Q n l k=g at *
      simp[Tg];have h8:=h4.trans fq;obtain⟨LP0,zk⟩:∃LP0,H1[E.length+3]? =some LP0:=⟨_,fq⟩
      have za:LP0.isLp=true:=by rw[fq]at zk;injection zk with e;rw[←e];rfl
      have zb:H'[E.length+3]? =some LP0:=h4.trans zk;have yn:∀p∈zg,p.2≠LP0:=fun p hp e=>by rw[←e]at za;rw[z6,z7]at hp;simp only[zO,zT,vM,or_false]at hp;rcases hp with(rfl|rfl|rfl|rfl|rfl|rfl)|(rfl|rfl|rfl|rfl|rfl)<;>simp[AObj.isLp,Ev]at za
      have y1:=h1.set zb yn .dead;have yo:E.length+3≠c:=fun e=>by rw[e,h2]at zb;injection zb with e2;rw[←e2]at za;simp[AObj.isLp]at za
      have yp:E.length+3≠v':=fun e=>by rw[e,h3]at zb;injection zb with e2;rw[←e2]at za;simp[AObj.isLp]at za
      have y2:=Qg yo h2 .dead;have y3:=Qg yp h3 .dead;have y4:=Qp zb .dead;generalize H'.set (E.length+3) .dead=Y at *
      have yb:Y[b]? =some (.vars [.vptr r 0]):=y1 (b,_) (by rw[z6,z7];simp);have y0:Y[0]? =some (.vars (Qo a)):=y1 (0,_) (by rw[z6,z7];simp);have y7:Y[n7]? =some (.vars [.i n]):=y1 (n7,_) (by rw[z6];simp);have y9:Y[E.length]? =some (.vars [.i pre.length]):=y1 (E.length,_) (by rw[z6];simp);have yt:TB r p m a cl Q Y:=⟨y1 (r,_) (by rw[z6,z7];simp),y1 (p,_) (by rw[z6,z7];simp),y1 (m,_) (by rw[z6,z7];simp)⟩
      repeat first|(refine r_ ?_;simp[Qc yb])|refine q_ ?_
      refine Wd rfl rfl (Bs _ r p m a cl Q nx (yt.keep fun j hj=> ?_) (xa nx yk) xa (by omega)) rfl ?_
      ·have:j<Y.length:=by
        rcases hj with rfl|rfl|rfl
        ·exact Qi yt.t
        ·exact Qi yt.s
        ·exact Qi yt.n
       exact zE this
      rintro res Z ⟨t,p2,rfl,xl,-,-,-,hZ,-⟩;rw[hZ yk];have yq:x0j Q nx=Q:=by rw[x0j,if_pos yk]
      rw[yq]at xl;rw[yl t xl];clear hZ;simp;repeat first|(refine r_ ?_;simp[Qc y2,Qc y9])|refine q_ ?_
      have xm:∀M,(Y++M)[v']? =some (.arr 73 3 ((pre++g).map encMv)):=fun M=>Qc y3 M;refine Wd rfl rfl (g00 (Y++[AObj.vars [.list (cc.map encL)],.vars [.i t]]) v' pre.length t (Y.length+1) pre g (by rw[zC (by omega)];simp) (xm _) (by omega) rfl) rfl ?_;rintro _ _ ⟨rfl,L,rfl⟩;simp;repeat first|(refine r_ ?_;simp)|refine q_ ?_
      have w1:=y1.app ([AObj.vars [.list (cc.map encL)],.vars [.i t]]++L);have w2:=Qc y2 ([AObj.vars [.list (cc.map encL)],.vars [.i t]]++L);have w3:=xm ([AObj.vars [.list (cc.map encL)],.vars [.i t]]++L);have w4:=Qc y4 ([AObj.vars [.list (cc.map encL)],.vars [.i t]]++L);have w5:(Y++([AObj.vars [.list (cc.map encL)],.vars [.i t]]++L))[Y.length]? =some (.vars [.list (cc.map encL)]):=by rw[zC (by omega)];simp
      have w6:(Y++([AObj.vars [.list (cc.map encL)],.vars [.i t]]++L))[Y.length+1]? =some (.vars [.i t]):=by rw[zC (by omega)];simp
      have w7:=Qc y7 ([AObj.vars [.list (cc.map encL)],.vars [.i t]]++L);have w0:=Qc y0 ([AObj.vars [.list (cc.map encL)],.vars [.i t]]++L);have w9:=Qc y9 ([AObj.vars [.list (cc.map encL)],.vars [.i t]]++L);have xn:((a.types.toNat:Nat):Int)=a.types:=by have:=zn.types;omega
      simp only[List.cons_append,List.nil_append]at w0 w1 w2 w3 w4 w5 w6 w7 w9;generalize Y++AObj.vars [.list (cc.map encL)]::AObj.vars [.i t]::L=W at *;generalize Y.length+1=i12 at *;generalize Y.length=i10 at *
      have xo:∀p∈zg,p.2≠ .dead:=by rw[z6,z7];simp[Ev]
      have yr:∀p∈zg,p.2≠ .vars [.i a.types,.sl f' 1 0 (n+1),.sl v' 3 0 (pre.length+g.length)]:=by rw[z6,z7];simp[Ev]
      have zy:∀p∈zg,p.2≠ .arr 73 3 ((pre++g).map encMv):=by rw[z6,z7];simp[Ev]
      rw[zW]at w2;have xp:v'≠c:=fun e=>by rw[e,w2]at w3;simp at w3
      have yu:v'≠E.length+3:=fun e=>by rw[e,w4]at w3;simp at w3
      have yv:c≠E.length+3:=fun e=>by rw[e,w4]at w2;simp at w2
      have lc:=Qi w2;have lv:=Qi w3;have lq:=Qi w4;refine Q1 (sl':=[(1,.vptr 0 0),(6,.vptr c 0),(7,.vptr n7 0),(9,.vptr E.length 0),(10,.vptr i10 0),(12,.vptr i12 0),(13,.i (j0v g t)),(63,.bool (decide (j0v g t<0)))]) ?_ (by simp);cases hfi:g.findIdx? fun m:Mv=>decide (m.dst=(t:Int))with
      |none=>
       have yw:j0v g t= -1:=by rw[j0v,hfi]
       have zl:U2 n g t cc=g++[⟨n,t,cc⟩]:=by rw[U2,hfi]
       rw[yw,zl];refine Qs rfl ?_;simp;repeat first|(refine r_ ?_;simp)|refine q_ ?_
       refine Qk tOk mixed [11,13] (.val 0 (.val 1 (.val 2 (.val 3 (.val 4 (.val 5 (.val 6 (.one 7 (.one 8 (.val 9 (.one 10 (.one 11 (.val 12 (.one 13 (.done))))))))))))))) rfl (by kernel_rfl) ?_;simp[w0,w2,w5,w6,w7];refine Wc W.length (e:=70) (c:=1) (xs:=[encP cc]) (by simp) ?_;simp;have xq:=N2 a.types.toNat [cc] (by have:=zn.types;omega) (fun p hp=>by rw[zI.1 hp];exact zi.2.2.2.1) (fun j hj=>v1t zi.2.2.2.1 zi.2.2.2.2 hj) (by simp);rw[xn,k1t zi.2.2.2.1]at xq;refine Qd rfl rfl (by simp) (xq) rfl ?_;rintro _ rfl;simp;have w2b:∀M,(W++M)[c]? =some (.vars [.i a.types,.sl f' 1 0 (n+1),.sl v' 3 0 (pre.length+g.length)]):=fun M=>Qc w2 M;have w2c:∀M,(W.set v' .dead++M)[c]? =some (.vars [.i a.types,.sl f' 1 0 (n+1),.sl v' 3 0 (pre.length+g.length)]):=fun M=>Qc (Qg xp w2 _) M;have zv:((pre++g).map encMv).length=pre.length+g.length:=by simp
       have vd:=(w1.set w3 zy .dead)
       generalize yx:(pre++g).map encMv=mm at *;refine Qf tOk rfl rfl T23 rfl T73 rfl (by decide) (by decide) rfl rfl rfl ?_
       simp[Qc w3,Qj w3,w2b,w2c,zv];refine⟨by simp[Wp,Qc w3,Qj w3,w2b,w2c,zv]<;>omega,?_⟩;repeat first|(refine r_ ?_;simp)|refine q_ ?_
       have zm:((W.set v' AObj.dead++[AObj.dead,AObj.arr 73 3 [.agg [.i n,.i t,.list (cc.map encL)]],AObj.arr 73 3 (mm++[.agg [.i n,.i t,.list (cc.map encL)]])]).set c (AObj.vars [.i a.types,.sl f' 1 0 (n+1),.sl (W.length+2) 3 0 (pre.length+g.length+1)]))[E.length+3]? =some .dead:=by rw[zB yv,zE (by simpa using lq),zB yu];exact w4
       refine⟨zm,rfl,((vd.app _).set (w2c _) yr _).set zm xo _,W.length+2,?_,?_,?_⟩
       ·rw[zB (Ne.symm yv),zH (by simp;omega)];simp[Nat.add_assoc]
       ·rw[zB (by omega),zB (by omega),zC (by simp)];rw[←yx];simp
       ·rw[fq,zH (Qi zm)]
      |some i=>
       have yw:j0v g t=i:=by rw[j0v,hfi]
       obtain⟨xr,hid,-⟩:=List.findIdx?_eq_some_iff_getElem.1 hfi;have xt:g[i]? =some g[i]:=zD xr;have zl:U2 n g t cc=g.set i { g[i]with on:=Rh g[i].on cc }:=by rw[U2,hfi];simp[xt]
       rw[yw,zl];refine Qa rfl (fun h=>by simp at h;omega) (fun _=> ?_);have ve:IntKind.i64.wrap ((pre.length:Int)+i)=pre.length+i:=wrap_i64 _ (by omega) (by omega);have yy:(pre.length:Int)+i<pre.length+g.length:=by omega
       have vf:(0:Int)≤(pre.length:Int)+i:=by omega
       have vg:((pre.length:Int)+i).toNat=pre.length+i:=by omega
       repeat first|(refine r_ ?_;simp[w2,w9,ve,yy,vf,vg])|refine q_ ?_
       have y8:((pre++g).map encMv)[pre.length+i]? =some (.agg [.i g[i].src,.i g[i].dst,.list (g[i].on.map encL)]):=by rw[yF,zC (by simp)];simp[xt]
       have yz:((pre++g).map encMv).length=pre.length+g.length:=by simp
       generalize yx:(pre++g).map encMv=mm at *
       have x0:yD 2=[0,1]:=rfl;refine Qk tOk mixed [12] (.val 0 (.val 1 (.val 2 (.val 3 (.val 4 (.val 5 (.val 6 (.val 7 (.one 8 (.one 9 (.val 10 (.val 11 (.one 12 (.done)))))))))))))) rfl (by kernel_rfl) ?_;simp[w0,w3,w5,y8,yz,x0];refine Wc W.length (e:=70) (c:=1) (xs:=[encP g[i].on,encP cc]) (by simp) ?_;simp;have yc:=zG xr;have xu:=N2 a.types.toNat [g[i].on,cc] (by have:=zn.types;omega) (fun p hp=>by
        simp only[zT,vM,or_false]at hp;rcases hp with rfl|rfl
        ·exact zj _ yc
        ·exact zi.2.2.2.1) (fun j hj=>u1p (zj _ yc) zi.2.2.2.1 (ym _ yc) zi.2.2.2.2 hj) (by simp)
       rw[xn,u1z (zj _ yc) zi.2.2.2.1]at xu;have w3b:∀M,(W++M)[v']? =some (.arr 73 3 mm):=fun M=>Qc w3 M;refine Qd rfl rfl (by simp) (xu) rfl ?_;rintro _ rfl;simp[w3b,y8,Qj w3];repeat first|(refine r_ ?_;simp)|refine q_ ?_
       have zm:(W.set v' (AObj.arr 73 3 (mm.set (pre.length+i) (.agg [.i g[i].src,.i g[i].dst,.list ((Rh g[i].on cc).map encL)])))++[AObj.dead])[E.length+3]? =some .dead:=by rw[zE (by simpa using lq),zB yu];exact w4
       refine⟨zm,rfl,(((w1.set w3 zy _).app _).set zm xo _),v',?_,?_,?_⟩
       ·rw[zB (Ne.symm yv),zE (by simpa using lc),zB xp];rw[w2]
       ·rw[zB (Ne.symm yu),zE (by simpa using lv),zH lv];rw[←yx,yF,List.set_append_right _ _ (by simp)];simp[List.map_set]
       ·rw[fq,zH (Qi zm)]
     ·rintro _ H' ⟨v',h1,h2,h3,h4⟩;exact⟨h1,v',by simpa using h2,by simpa using h3,_,_,_,_,h4.trans fq⟩
    ·rintro res H' ⟨v',h1,h2,h3,⟨sl',ps',a',b',h6⟩⟩;refine⟨true,none,100,sl',ps',a',b',by simpa using h6,?_⟩;simp;have yo:E.length+3≠c:=fun e=>by rw[e,h2]at h6;simp at h6
     have yp:E.length+3≠v':=fun e=>by rw[e,h3]at h6;simp at h6
     have y1:=h1.set h6 (by rw[z6,z7];simp[Ev]) .dead;have y2:=Qg yo h2 .dead;have y3:=Qg yp h3 .dead;generalize H'.set (E.length+3) .dead=Y at *
     repeat first|(refine r_ ?_;simp[hw])|refine q_ ?_
     refine Qb (sl':=[(1,.vptr 0 0),(2,.vptr 1 0),(3,.i 0),(4,.vptr b 0),(6,.vptr c 0),(30,.sl p 1 0 Q.length),(31,.i Q.length),(32,.i (n+1:Nat))]) ?_ (by simp);refine xk f' v' Y ⟨by omega,fun x hx=>y1 x (by rw[z6];exact xB _ hx),y2,y1 (f',_) (by rw[z6];simp),y3⟩ (by omega)
  ·have x2:n=Q.length:=by simp at y8;omega
   subst x2;have zz:Dn a cl Q Q.length=(Y4 a cl Q).mv:=w1m a cl Q;have x3:(Q.take Q.length).map (Iu a)=(Y4 a cl Q).fin:=by rw[zZ];exact(q02 a cl Q).symm
   have vh:(Y4 a cl Q).fin.length=Q.length:=by rw[q02];simp
   have vi:(Y4 a cl Q).mv.length≤65536:=by rw[←zz];exact f0n a cl Q wb zd
   rw[zz]at gc gv;rw[x3]at gf;rw[←vh]at gc;have vj:(Y4 a cl Q).types=a.types:=y00 a cl Q;have yy:d0b (Y4 a cl Q)=if Xx (Y4 a cl Q)then(5,Ou)else(0,Y4 a cl Q):=M8 _
   rw[yy];generalize Y4 a cl Q=d at *
   have g1:G[1]? =some (.vars [.i 0,.nils,.nils]):=hF (1,_) (by rw[z7];simp);have yg:v≠c:=fun e=>by rw[e,gc]at gv;simp at gv
   have zt:f≠v:=fun e=>by rw[e,gv]at gf;simp at gf
   have yd:f≠c:=fun e=>by rw[e,gc]at gf;simp at gf
   have vk:f≠1:=fun e=>by rw[e,g1]at gf;simp at gf
   have vl:v≠1:=fun e=>by rw[e,g1]at gv;simp at gv
   have vm:c≠1:=fun e=>by rw[e,g1]at gc;simp at gc
   refine Q1 (sl':=[(2,.vptr 1 0),(3,.i 0),(6,.vptr c 0)]) ?_ (by simp);refine Ws v gv c gc ?_;simp[zt];rw[zM (by simp)];have x4:=Qi gc;have vn:=Qi gf;refine Ru fun Z hZ=> ?_;have zc:Z[c]? =some (.vars [.i d.types,.sl f 1 0 d.fin.length,.list (d.mv.map encMv)]):=by rw[hZ,vj];exact zH (by simpa using x4)
   have zf:Z[f]? =some (.arr 4 1 (d.fin.map .bool)):=by rw[hZ,zB (Ne.symm yd),zB (Ne.symm zt)];exact gf
   have z1:Z[1]? =some (.vars [.i 0,.nils,.nils]):=by rw[hZ,zB vm,zB vl];exact g1
   clear hZ;repeat first|(refine r_ ?_;simp[zc])|refine q_ ?_
   refine Wd rfl rfl (Bq Z f d zf (by omega) (by omega)) rfl ?_;rintro res Y ⟨hr,xv⟩;have y5:=(xv 1 (Qi z1)).trans z1;have vo:=(xv f (Qi zf)).trans zf;have x0:∀X,(Y.set 1 X)[1]? =some X:=fun X=>Qp y5 X;rcases hr with⟨hb,rfl⟩|⟨hb,rfl⟩
   ·rw[hb];simp[y5];repeat first|(refine r_ ?_;simp[x0])|refine q_ ?_
    exact⟨rfl,rfl,rfl⟩
   ·rw[hb];simp[y5];refine Q1 (sl':=[(2,.vptr 1 0),(3,.i 0)]) ?_ (by simp);refine Ws f (Qg (Ne.symm vk) vo _) 1 (Qp y5 _) ?_;simp;rw[zM (by simp)];refine Ru fun X hX=> ?_;have x1:X[1]? =some (.vars [.i d.types,.list (d.fin.map .bool),.list (d.mv.map encMv)]):=by rw[hX];exact zH (by have:=Qi y5;simpa using this)
    repeat first|(refine r_ ?_;simp[x1])|refine q_ ?_
end Go.Abs
namespace Go.Abs
open Go Go.Proofs Go.Maps Go.RowKit
def q2t(l:List Bool)(i:Nat):List Bool:=l.mapIdx fun k b=>if k<i then !b else b
attribute [local irreducible] Rz x0o q2t
end Go.Abs
namespace Go.Abs
open Go Go.Proofs Go.Maps Go.RowKit
attribute [local irreducible] Wj
attribute [local irreducible] x0o Px Sk Dh y2k w25 Wf
end Go.Abs
namespace Go.Abs
open Go Go.Proofs Go.Maps Go.RowKit
section
variable {P:Program} [Env P] {T:TT} {nt k:Nat} {S:AS}
theorem G3 (hT:TOk P T) (hm:P.follows .mixedOrders=true) {Q:Exit→AS→Prop} {id:Nat} {l:List Oper} (Wr:List Nat) (p:PlanM) (Ph:AS→Prop) (hd:Yv nt l=true)
  (hp:(Region.noSelect l.toArray && p.size==l.length && Ym l.toArray (Uh l []) Wr p (Array.replicate l.length false))=true)
  (h:Ud P T nt k l.toArray Wr.contains Ph p S) (hn:∀S',Ph S'→Q .normal S'):AWP P nt k (.region id l.toArray true) Q S:=
 (Gb (Q:=fun e S=>e= .normal∧Ph S) hT hm Wr p hd hp (Ec (fun _ h=>⟨rfl,h⟩) p S h)).mono fun e S ⟨he,hr⟩=>by subst he;exact hn S hr
end
attribute [local irreducible] E6 upL
end Go.Abs
namespace Go.Abs
open Go Go.Proofs Go.Maps Go.RowKit
theorem g1m(p q:Prd):Bh (Qn p) (Qn q)=y0w (Qv p 0) (Qv q 0):=by
 have h1:decide (((Qv p 0).1:Int)<(Qv q 0).1)=decide ((Qv p 0).1<(Qv q 0).1):=by rw[decide_eq_decide];omega
 have h2:decide (((Qv p 0).1:Int)=(Qv q 0).1)=decide ((Qv p 0).1=(Qv q 0).1):=by rw[decide_eq_decide];omega
 unfold Bh y0w Qn;simp only[h1,h2]
def Oa(p:Prd)(L:List Prd)(k:Nat):List Prd:=Em p (L.take k)
theorem J5(p:Prd)(L:List Prd):Oa p L 0=[]:=by simp[Oa,Em]
theorem k0u(p:Prd)(L:List Prd):Oa p L L.length=Em p L:=by simp[Oa]
theorem q04(p:Prd)(L:List Prd)(k:Nat)(h:k<L.length):Oa p L (k+1)=Oa p L k++((if Wk (We L[k] p)then []else [We L[k] p])++(if Wk (We L[k] (W2 p))then []else [We L[k] (W2 p)])):=by unfold Oa Em;rw[zJ h,wY];simp
theorem f0u(p:Prd)(L:List Prd)(k:Nat):(Oa p L k).length≤(Em p L).length:=by
 have h:Em p L=Oa p L k++Em p (L.drop k):=by unfold Oa Em;rw[←wY,List.take_append_drop]
 rw[h,zW];omega
def Po(T:Nat)(l:List Prd)(i:Nat):List Prd:=Eh T (l.take i)
theorem Kg(T:Nat)(l:List Prd):Po T l 0=[Wf T]:=by simp[Po,Eh]
theorem j0x(T:Nat)(l:List Prd):Po T l l.length=Eh T l:=by simp[Po]
theorem z0a(T:Nat)(l:List Prd)(i:Nat)(h:i<l.length):Po T l (i+1)=Em l[i] (Po T l i):=by unfold Po Eh;rw[zJ h,xP];rfl
theorem f07{T:Nat}(h0:0<T)(hT:T≤16){l:List Prd}(hl:∀p∈l,PCk T p)(hn:l.length≤4096)(i:Nat):
  (Po T l i).length≤40000000∧∀c∈Po T l i,PWf T c∧Wk c=false∧∀s∈c,s.length≤40000000:=
 O1 h0 hT (fun p hp=>hl p (yW hp)) (by rw[yP];omega)
def Dk(L:List Prd)(i:Nat):List Prd:=(L.take i).foldl K5 []
theorem Sj(L:List Prd):Dk L 0=[]:=by simp[Dk]
theorem f04(L:List Prd):Dk L L.length=K4 L:=by simp[Dk,K4]
theorem Aw(L:List Prd)(i:Nat)(h:i<L.length):Dk L (i+1)=K5 (Dk L i) L[i]:=by unfold Dk;rw[zJ h,xP];rfl
theorem C5(L:List Prd):∀i,i≤L.length→(Dk L i).length=i
 |0,_=>by rw[Sj];rfl
 |i+1,h=>by rw[Aw L i (by omega),(Ao _ _).length_eq,yB,C5 L i (by omega)]
theorem Xa(L:List Prd):∀i,i≤L.length→∀c∈Dk L i,c∈L
 |0,_,c,hc=>by rw[Sj]at hc;cases hc
 |i+1,h,c,hc=>by
  rw[Aw L i (by omega)]at hc;rcases zT.1 ((Ao _ _).mem_iff.1 hc)with rfl|hc
  ·exact zG _
  ·exact Xa L i (by omega) c hc
theorem k05{s:List Prd}{x:Prd}{j:Nat}(h:j<s.length):Zt s x (j+1)=if y0w (Qv x 0) (Qv s[j] 0)=true then Zt s x j else j+1:=by rw[Zt,zD h]
theorem q0g{α:Type}{xs:List α}{k n:Nat}(hn:n=xs.length):(xs.drop k).take (n - k)=xs.drop k:=by rw[zM (by rw[yS];omega)]
attribute [local irreducible] Oa Po Dk Wf We W2 Wk Zt Eh Em Qv
theorem Zz(T:Int)(l:List Prd)(hT:1≤T∧T≤16)(hl:∀p∈l,PCk T.toNat p)(hn:l.length≤4096):PC Tryz.prog 205 [.i T,LP l] (fun r=>r=LP (Qx T.toNat l)):=by
 refine Qh tOk Tryz.func205 rfl Tryz.results205 rfl (by simp[Tryz.ntmps205]) ?_;rw[Tryz.ntmps205];simp only[Qe];simp only[LP];repeat first|(refine r_ ?_;simp)|refine q_ ?_
 refine Qd rfl rfl (by simp) (H6 T (by omega) (by omega)) rfl ?_;rintro _ rfl;simp;repeat first|(refine r_ ?_;simp)|refine q_ ?_
 refine Qm (Qb (sl':=[(0,.i T),(1,.list (l.map encP)),(5,.sl 0 1 0 (Po T.toNat l 0).length),(6,.i (0:Nat))]) ?_ (by simp[Kg]));have hg:=f07 (T:=T.toNat) (by omega) (by omega) hl hn;refine Ql (F:=fun(u:Nat×Nat×List AObj)=>⟨[(0,.i T),(1,.list (l.map encP)),(5,.sl u.2.1 1 0 (Po T.toNat l u.1).length),(6,.i u.1)],u.2.2⟩)
  (fun u=>u.1≤l.length∧u.2.2[u.2.1]? =some (.arr 70 1 ((Po T.toNat l u.1).map encP))) (fun u=>l.length - u.1) ?_ (0,0,_) ⟨xA _,by rw[Kg];rfl⟩
 rintro⟨i,q,H⟩ ⟨hi,hq⟩ ih;simp only at hi hq ih ⊢;repeat first|(refine r_ ?_;simp)|refine q_ ?_
 refine Qa rfl (fun ye=> ?_) (fun yf=> ?_)
 ·have z7:i<l.length:=by simpa using ye
  have hw:IntKind.i64.wrap ((i:Int)+1)=i+1:=wrap_i64 _ (by omega) (by omega);obtain⟨g1,g2⟩:=hg i;have zw:=z0a T.toNat l i z7;have yy:=(hg (i+1)).1;have zh:=hl _ (zG z7);have yr:=fun q' G'=>ih (i+1,q',G');simp only[zw]at yr;rw[zw]at yy;clear zw;have ze:(yX encP l)[i]? =some (encP l[i]):=by simp[z7]
  have zf:∀hh,(yX encP l)[i]'hh=encP l[i]:=fun hh=>by simp
  have zg:(yX encP l).length=l.length:=by simp
  generalize l[i]=p at *;generalize Po T.toNat l i=L at *
  repeat first|(refine r_ ?_;simp)|refine q_ ?_
  refine Q6 7 70 1 rfl ?_;simp;repeat first|(refine r_ ?_;simp)|refine q_ ?_
  have hst:=SL.start H 70 1;refine Qm (Qb (sl':=[(0,.i T),(1,.list (l.map encP)),(5,.sl q 1 0 L.length),(6,.i i),(7,.sl H.length 1 0 (Oa p L 0).length),(8,.i (0:Nat))]) ?_ (by simp[J5]));refine Ql (F:=fun(u:Nat×Nat×List AObj)=>⟨[(0,.i T),(1,.list (l.map encP)),(5,.sl q 1 0 L.length),(6,.i i),(7,.sl u.2.1 1 0 (Oa p L u.1).length),(8,.i u.1)],u.2.2⟩)
   (fun u=>u.1≤L.length∧SL H u.2.2 u.2.1 70 1 ((Oa p L u.1).map encP)) (fun u=>L.length - u.1) ?_ (0,H.length,_) ⟨xA _,by rw[J5];simpa using hst⟩
  rintro⟨k,q',G⟩ ⟨hk,hs⟩ ih2;simp only at hk hs ih2 ⊢;repeat first|(refine r_ ?_;simp)|refine q_ ?_
  refine Qa rfl (fun yg=> ?_) (fun yh=> ?_)
  ·have z8:k<L.length:=by simpa using yg
   have y8:IntKind.i64.wrap ((k:Int)+1)=k+1:=wrap_i64 _ (by omega) (by omega);have zy:=q04 p L k z8;have x9:=f0u p L k;have za:=fun q' G'=>ih2 (k+1,q',G');simp only[zy]at za;clear zy;obtain⟨w1,w2,w3⟩:=g2 _ (zG z8);have zz:(yX encP L)[k]? =some (encP L[k]):=by simp[z8]
   have y9:(yX encP L).length=L.length:=by simp
   have y0:∀hh,(yX encP L)[k]'hh=encP L[k]:=fun hh=>by simp
   generalize L[k]=c at *;generalize Oa p L k=S at *
   have cB:=An T.toNat c p w1 zh.wf (fun s hs t ht=>by have:=w3 s hs;have:=(zh.2 t ht).1;omega) (by omega);have cR:=Z6 T.toNat p zh.wf (fun s hs=>by have:=(zh.2 s hs).1;omega) (by omega);have cB2:=An T.toNat c (W2 p) w1 (Ic zh.wf) (fun s hs t ht=>by have:=w3 s hs;have:=Ly zh.wf (fun s hs=>(zh.2 s hs).1) t ht;omega) (by omega);have y4:=hs.kp hq;have ya:∀M:List AObj,(G++M)[q]? =some (.arr 70 1 (L.map encP)):=fun M=>Qc y4 M;simp only[encP]at zz y0 ze zf;simp only[encP]at cB cR cB2;repeat first|(refine r_ ?_;simp)|refine q_ ?_
   refine G3 (P:=Tryz.prog) tOk mixed [21,22] (.val 0 (.val 1 (.val 2 (.val 3 (.val 4 (.val 5 (.val 6 (.val 7 (.val 9 (.val 10 (.val 11 (.val 12 (.val 13 (.val 14 (.val 15 (.val 16 (.three 8 (.three 17 (.three 18 (.two 19 (.one 20 (.one 21 (.one 22 (.done)))) 20 (.one 19 (.one 21 (.one 22 (.done))))) 19 (.two 18 (.one 20 (.one 21 (.one 22 (.done)))) 20 (.one 18 (.one 21 (.one 22 (.done))))) 20 (.two 18 (.one 19 (.one 21 (.one 22 (.done)))) 19 (.one 18 (.one 21 (.one 22 (.done)))))) 19 (.two 17 (.two 18 (.one 20 (.one 21 (.one 22 (.done)))) 20 (.one 18 (.one 21 (.one 22 (.done))))) 20 (.one 17 (.one 18 (.one 21 (.one 22 (.done)))))) 20 (.two 17 (.two 18 (.one 19 (.one 21 (.one 22 (.done)))) 19 (.one 18 (.one 21 (.one 22 (.done))))) 19 (.one 17 (.one 18 (.one 21 (.one 22 (.done))))))) 19 (.two 8 (.two 17 (.two 18 (.one 20 (.one 21 (.one 22 (.done)))) 20 (.one 18 (.one 21 (.one 22 (.done))))) 20 (.one 17 (.one 18 (.one 21 (.one 22 (.done)))))) 20 (.one 8 (.one 17 (.one 18 (.one 21 (.one 22 (.done))))))) 20 (.two 8 (.two 17 (.two 18 (.one 19 (.one 21 (.one 22 (.done)))) 19 (.one 18 (.one 21 (.one 22 (.done))))) 19 (.one 17 (.one 18 (.one 21 (.one 22 (.done)))))) 19 (.one 8 (.one 17 (.one 18 (.one 21 (.one 22 (.done)))))))))))))))))))))))) (fun S'=>∃(u v:Nat) (E:List AObj),S'.hp=G++E∧look S'.sl 9=some (.vptr u 0)∧look S'.sl 10=some (.vptr v 0)∧(G++E)[u]? =some (.vars [.list ((We c p).map encL)])∧(G++E)[v]? =some (.vars [.list ((We c (W2 p)).map encL)])∧look S'.sl 0=some (.i T)∧look S'.sl 1=some (.list (l.map encP))∧look S'.sl 5=some (.sl q 1 0 L.length)∧look S'.sl 6=some (.i i)∧look S'.sl 7=some (.sl q' 1 0 S.length)∧look S'.sl 8=some (.i k)) rfl (by kernel_rfl) ?_ ?_
   ·simp[y4,ya,zz,y0,y9,z8,z7,ze,zf,zg]
    repeat' (first
     |refine And.intro ?_ ?_
     |(refine Qd rfl rfl (by simp) cB rfl ?_;rintro _ rfl;simp[y4,ya,zz,y0,y9,z8,z7,ze,zf,zg])
     |(refine Qd rfl rfl (by simp) cR rfl ?_;rintro _ rfl;simp[y4,ya,zz,y0,y9,z8,z7,ze,zf,zg])
     |(refine Qd rfl rfl (by simp) cB2 rfl ?_;rintro _ rfl;simp[y4,ya,zz,y0,y9,z8,z7,ze,zf,zg]))
   ·rintro⟨sl,E0⟩ ⟨u,v,E,rfl,s9,s10,hu,hv,s0,s1,s5,s6,s7,s8⟩;simp only at s9 s10 s0 s1 s5 s6 s7 s8;simp;refine Q1 (sl':=[(0,.i T),(1,.list (l.map encP)),(5,.sl q 1 0 L.length),(6,.i i),(7,.sl q' 1 0 S.length),(8,.i k),(9,.vptr u 0),(10,.vptr v 0)]) ?_ (by simp[s9,s10,s0,s1,s5,s6,s7,s8]);have zd:=hs.add E;have xa:=zd.kp hq;generalize G++E=G2 at *
    have yz:q'≠v:=fun e=>by have:=zd.arr;rw[e,hv]at this;simp at this
    have yt:∀M,(G2.set q' .dead++M)[v]? =some (.vars [.list ((We c (W2 p)).map encL)]):=fun M=>Qc (Qg yz hv _) M;repeat first|(refine r_ ?_;simp[hu])|refine q_ ?_
    refine Qd rfl rfl (by simp) (Uy (We c p)) rfl ?_;rintro _ rfl;simp;have zi:(yX encP S).length=S.length:=by simp
    cases hv1:Wk (We c p)with
    |true=>
     rw[hv1]at za;refine Qs rfl ?_;simp;repeat first|(refine r_ ?_;simp[hv])|refine q_ ?_
     refine Qd rfl rfl (by simp) (Uy (We c (W2 p))) rfl ?_;rintro _ rfl;simp;cases hv2:Wk (We c (W2 p))with
     |true=>
      rw[hv2]at za;refine Qs rfl ?_;simp;repeat first|(refine r_ ?_;simp[y8])|refine q_ ?_
      refine Qb (sl':=[(0,.i T),(1,.list (l.map encP)),(5,.sl q 1 0 L.length),(6,.i i),(7,.sl q' 1 0 S.length),(8,.i (k+1:Nat))]) ?_ (by simp);have:=za q' G2 ⟨by omega,by simpa using zd⟩ (by omega);simpa using this
     |false=>
      rw[hv2]at za;refine Qs rfl ?_;simp;repeat first|(refine r_ ?_;simp[hv])|refine q_ ?_
      refine Qf tOk rfl rfl T87 rfl T70 rfl (by decide) (by decide) rfl rfl rfl ?_;simp[Qc zd.arr,Qj zd.arr,zi];refine⟨by simp[Wp,Qc zd.arr,Qj zd.arr,zi]<;>omega,?_⟩;repeat first|(refine r_ ?_;simp[y8])|refine q_ ?_
      refine Qb (sl':=[(0,.i T),(1,.list (l.map encP)),(5,.sl q 1 0 L.length),(6,.i i),(7,.sl (G2.length+1) 1 0 (S.length+1)),(8,.i (k+1:Nat))]) ?_ (by simp);have:=za (G2.length+1) _ ⟨by omega,by simpa using zd.put [AObj.arr 70 1 [encP (We c (W2 p))]] ((S++[We c (W2 p)]).map encP) rfl⟩ (by omega);simpa using this
    |false=>
     rw[hv1]at za;refine Qs rfl ?_;simp;repeat first|(refine r_ ?_;simp[hu])|refine q_ ?_
     refine Qf tOk rfl rfl T87 rfl T70 rfl (by decide) (by decide) rfl rfl rfl ?_;simp[Qc zd.arr,Qj zd.arr,zi];refine⟨by simp[Wp,Qc zd.arr,Qj zd.arr,zi]<;>omega,?_⟩;repeat first|(refine r_ ?_;simp[yt])|refine q_ ?_
     have yu:=zd.put [AObj.arr 70 1 [encP (We c p)]] ((S++[We c p]).map encP) rfl;refine Yz fun Z hZ=> ?_;have zx:SL H Z (G2.length+1) 70 1 ((S++[We c p]).map encP):=by rw[hZ];simpa using yu
     have x0:Z[v]? =some (.vars [.list ((We c (W2 p)).map encL)]):=by rw[hZ];exact yt _
     clear hZ yu;have y5:((S++[We c p]).map encP).length=S.length+1:=by simp
     generalize G2.length+1=q3 at *;refine Qd rfl rfl (by simp) (Uy (We c (W2 p))) rfl ?_
     rintro _ rfl;simp;cases hv2:Wk (We c (W2 p))with
     |true=>
      rw[hv2]at za;refine Qs rfl ?_;simp;repeat first|(refine r_ ?_;simp[y8])|refine q_ ?_
      refine Qb (sl':=[(0,.i T),(1,.list (l.map encP)),(5,.sl q 1 0 L.length),(6,.i i),(7,.sl q3 1 0 (S.length+1)),(8,.i (k+1:Nat))]) ?_ (by simp);have:=za q3 Z ⟨by omega,by simpa using zx⟩ (by omega);simpa using this
     |false=>
      rw[hv2]at za;refine Qs rfl ?_;simp;repeat first|(refine r_ ?_;simp[x0])|refine q_ ?_
      generalize y6:(S++[We c p]).map encP=mm at *;refine Qf tOk rfl rfl T87 rfl T70 rfl (by decide) (by decide) rfl rfl rfl ?_
      simp[Qc zx.arr,Qj zx.arr,y5];refine⟨by simp[Wp,Qc zx.arr,Qj zx.arr,y5]<;>omega,?_⟩;repeat first|(refine r_ ?_;simp[y8])|refine q_ ?_
      refine Qb (sl':=[(0,.i T),(1,.list (l.map encP)),(5,.sl q 1 0 L.length),(6,.i i),(7,.sl (Z.length+1) 1 0 (S.length+2)),(8,.i (k+1:Nat))]) ?_ (by simp);have x1:=zx.put [AObj.arr 70 1 [encP (We c (W2 p))]] (mm++[encP (We c (W2 p))]) rfl;have:=za (Z.length+1) _ ⟨by omega,by
       have e:yX encP (S++((if false=true then []else [We c p])++if false=true then []else [We c (W2 p)]))=mm++[encP (We c (W2 p))]:=by rw[←y6];simp
       rw[e];simpa using x1⟩ (by omega)
      simpa using this
  ·have y7:k=L.length:=by simp at yh;omega
   have x2:Oa p L k=Em p L:=by rw[y7,k0u]
   rw[x2]at hs ⊢;repeat first|(refine r_ ?_;simp[hw])|refine q_ ?_
   refine Qb (sl':=[(0,.i T),(1,.list (l.map encP)),(5,.sl q' 1 0 (Em p L).length),(6,.i (i+1:Nat))]) ?_ (by simp);exact yr q' G ⟨by omega,hs.arr⟩ (by omega)
 ·have zj:i=l.length:=by simp at yf;omega
  subst zj;rw[j0x]at hq ⊢;obtain⟨xb,yv⟩:=O1 (T:=T.toNat) (by omega) (by omega) hl hn;have hR:Qx T.toNat l=K4 (Eh T.toNat l):=rfl;rw[hR];generalize Eh T.toNat l=C at *
  repeat first|(refine r_ ?_;simp)|refine q_ ?_
  refine Q1 (sl':=[(5,.sl q 1 0 C.length),(11,.nils),(12,.i (0:Nat))]) ?_ (by simp);refine Ei q hq ?_;simp;rw[zM (by simp)];refine Q6 11 70 1 rfl ?_;simp;clear hq;refine Qm (Qb (sl':=[(5,.list (C.map encP)),(11,.sl H.length 1 0 (0:Nat)),(12,.i (0:Nat))]) ?_ (by simp));refine Ql (F:=fun(u:Nat×Nat×List AObj)=>⟨[(5,.list (C.map encP)),(11,.sl u.2.1 1 0 u.1),(12,.i u.1)],u.2.2⟩)
   (fun u=>u.1≤C.length∧u.2.2[u.2.1]? =some (.arr 70 1 ((Dk C u.1).map encP))) (fun u=>C.length - u.1) ?_ (0,H.length,_) ⟨xA _,by rw[Sj];simp⟩
  rintro⟨i,q2,G⟩ ⟨x3,zc⟩ ih3;simp only at x3 zc ih3 ⊢;repeat first|(refine r_ ?_;simp)|refine q_ ?_
  refine Qa rfl (fun ye=> ?_) (fun yf=> ?_)
  ·have z7:i<C.length:=by simpa using ye
   have hw:IntKind.i64.wrap ((i:Int)+1)=i+1:=wrap_i64 _ (by omega) (by omega);have zi:=C5 C i (by omega);have x4:=Xa C i (by omega);have zw:=Aw C i z7;have zk:=fun q' G'=>ih3 (i+1,q',G');simp only[zw]at zk;clear zw;obtain⟨w1,w2,w3⟩:=yv _ (zG z7);have zm:(yX encP C)[i]? =some (encP C[i]):=by simp[z7]
   have zn:∀hh,(yX encP C)[i]'hh=encP C[i]:=fun hh=>by simp
   generalize C[i]=x at *;generalize Dk C i=S at *
   have zb:(S.map encP).length=i:=by simpa using zi
   repeat first|(refine r_ ?_;simp)|refine q_ ?_
   refine Qm (Qb (sl':=[(5,.list (C.map encP)),(11,.sl q2 1 0 i),(12,.i i),(13,.i i)]) ?_ (by simp));refine Ql (F:=fun(j:Nat)=>⟨[(5,.list (C.map encP)),(11,.sl q2 1 0 i),(12,.i i),(13,.i j)],G⟩)
    (fun j=>j≤i∧Zt S x j=Zt S x S.length) (fun j=>j) ?_ i ⟨zL _,by rw[zi]⟩
   rintro j ⟨hj,hJ⟩ ih4;try simp only at hj hJ ih4 ⊢
   by_cases hj0:0<j
   ·obtain⟨j',rfl⟩:∃j',j=j'+1:=⟨j - 1,by omega⟩
    have yi:j'<S.length:=by omega
    have yb:IntKind.i64.wrap (j':Int)=j':=wrap_i64 _ (by omega) (by omega);obtain⟨y1,y2,y3⟩:=yv _ (x4 _ (zG yi));rw[k05 yi]at hJ;have yc:(yX encP S)[j']? =some (encP S[j']):=by simp[yi]
    have yd:∀hh,(yX encP S)[j']'hh=encP S[j']:=fun hh=>by simp
    have zo:(0:Int)<(j':Int)+1:=by omega
    have yj:j'<i:=by omega
    simp only[encP]at zm zn yc yd;repeat first|(refine r_ ?_;simp)|refine q_ ?_
    refine Qk tOk mixed [] (.val 0 (.val 1 (.val 2 (.val 3 (.val 4 (.val 5 (.val 6 (.val 8 (.val 9 (.val 10 (.val 11 (.val 12 (.one 7 (.one 13 (.one 14 (.val 15 (.done))))))))))))))))) rfl (by kernel_rfl) ?_;simp[z7,zm,zn,zc,yc,yd,yb,zb,zo,yj];refine Qd rfl rfl (by simp) (A2 x w2) rfl ?_;rintro _ rfl;simp[z7,zm,zn,zc,yc,yd,yb,zb,zo,yj];refine Qd rfl rfl (by simp) (A2 S[j'] y2) rfl ?_;rintro _ rfl;simp[z7,zm,zn,zc,yc,yd,yb,zb,zo,yj];refine Qd rfl rfl (by simp) (Bz (Qn x) (Qn S[j'])) rfl ?_;rintro _ rfl;simp;rw[g1m];cases hb:y0w (Qv x 0) (Qv S[j'] 0)with
    |true=>
     rw[hb,if_pos rfl]at hJ;refine Qs rfl ?_;repeat first|(refine r_ ?_;simp[yb])|refine q_ ?_
     refine Qb (sl':=[(5,.list (C.map encP)),(11,.sl q2 1 0 i),(12,.i i),(13,.i j')]) ?_ (by simp);exact ih4 j' ⟨by omega,hJ⟩ (by omega)
    |false=>
     rw[hb,if_neg (by simp)]at hJ;refine Qs rfl ?_;obtain⟨k,hk⟩:∃k,k=j'+1:=⟨_,rfl⟩
     rw[←hk]at hJ;have yk:k=Zt S x S.length:=hJ;have zp:k≤i:=by omega
     refine Q1 (sl':=[(5,.list (C.map encP)),(11,.sl q2 1 0 i),(12,.i i),(13,.i (k:Nat))]) ?_ (by simp[hk]);have x5:(0:Int)≤(k:Int):=by omega
     have yl:(k:Int)≤(i:Int):=by omega
     have zq:K5 S x=S.take k++x::S.drop k:=by rw[K5,←yk]
     repeat first|(refine r_ ?_;simp[zp])|refine q_ ?_
     refine Qf tOk rfl rfl T87 rfl T70 rfl (by decide) (by decide) rfl rfl rfl ?_;simp[Qc zc,Qj zc,zb,zp];refine⟨⟨fun y hy=> ?_,by simp;omega⟩,?_⟩
     ·obtain⟨c',_,rfl⟩:=zK.1 (wD (yW hy));exact⟨rfl,rfl⟩
     rw[q0g zb.symm];refine Ru fun Z hZ=> ?_;have zr:=Qi zc;have z1:Z[q2]? =some (.arr 70 1 (S.map encP)):=by rw[hZ];simp[zE zr,zc]
     have z2:Z[G.length+1]? =some (.arr 70 1 ((S.map encP).drop k)):=by rw[hZ];simp
     have zl:Z.length=G.length+2:=by rw[hZ];simp
     clear hZ;refine Q1 (sl':=[(5,.list (C.map encP)),(11,.sl q2 1 0 i),(12,.i i),(13,.i (k:Nat)),(14,.sl (G.length+1) 1 0 (i - k))]) ?_ (by simp);refine F6 q2 k z1 ?_;have z3:(Z.set q2 (.arr 70 1 ((S.map encP).take k)))[q2]? =some (.arr 70 1 ((S.map encP).take k)):=Qp z1 _;have z4:(Z.set q2 (.arr 70 1 ((S.map encP).take k)))[G.length+1]? =some (.arr 70 1 ((S.map encP).drop k)):=Qg (by omega) z2 _;have x6:(Z.set q2 (.arr 70 1 ((S.map encP).take k))).length=G.length+2:=by simp[zl]
     generalize Z.set q2 (.arr 70 1 ((S.map encP).take k))=Y at *;clear z1 z2 zl;clear Z
     have zt:((S.map encP).take k).length=k:=by rw[yP];omega
     have ym:((S.map encP).drop k).length=i - k:=by rw[yS];omega
     have yn:(S.map encP).take k=(S.take k).map encP:=by rw[yQ]
     have yo:(S.map encP).drop k=(S.drop k).map encP:=by rw[yR]
     have zu:(K5 S x).map encP=(S.map encP).take k++(encP x::(S.map encP).drop k):=by rw[zq,yF,yJ,yn,yo]
     have yp:∀y∈(S.map encP).drop k,y.cells.length=1∧y.cells.all AV.leaf=true:=fun y hy=>by obtain⟨c',_,rfl⟩:=zK.1 (wD hy);exact⟨rfl,rfl⟩
     generalize (S.map encP).take k=tk at *;generalize (S.map encP).drop k=dk at *;refine Qk tOk mixed [8,10] (.val 0 (.val 1 (.val 2 (.val 3 (.val 4 (.val 5 (.val 6 (.val 9 (.one 7 (.one 8 (.one 10 (.val 11 (.done))))))))))))) rfl (by kernel_rfl) ?_
     simp[z7,zm,zn,zp];refine Qf tOk rfl rfl T87 rfl T70 rfl (by decide) (by decide) rfl rfl rfl ?_;simp[Qc z3,Qj z3,zt];refine⟨by simp[Wp,Qc z3,Qj z3,zt]<;>omega,?_⟩;refine Yz fun Z hZ=> ?_;have z5:Z[Y.length+1]? =some (.arr 70 1 (tk++[encP x])):=by rw[hZ,zC (by simp)];simp
     have z6:Z[G.length+1]? =some (.arr 70 1 dk):=by rw[hZ];exact Qc (Qg (by omega) z4 _) _
     clear hZ;have zv:(tk++[encP x]).length=k+1:=by simp[zt]
     have x7:i - k≤dk.length:=by omega
     have yq:dk.take (i - k)=dk:=zM (by omega);generalize y6:tk++[encP x]=mm at *;refine Qf tOk rfl rfl T87 rfl T70 rfl (by decide) (by decide) rfl rfl rfl ?_
     simp[Qc z5,Qj z5,Qc z6,zv,ym,yq,z5,z6];refine⟨⟨yp,by simp;omega⟩,?_⟩;repeat first|(refine r_ ?_;simp[hw])|refine q_ ?_
     refine Qb (sl':=[(5,.list (C.map encP)),(11,.sl Z.length 1 0 (i+1)),(12,.i (i+1:Nat))]) ?_ (by simp;omega);refine zk Z.length _ ⟨by omega,?_⟩ (by omega);rw[zu,zC (by simp),←y6];simp
   ·have x8:j=0:=by omega
    subst x8;have yw:IntKind.i64.wrap (-1)= -1:=by decide
    repeat first|(refine r_ ?_;simp)|refine q_ ?_
    refine Qk tOk mixed [] (.val 0 (.val 1 (.val 2 (.val 3 (.val 4 (.val 5 (.val 6 (.val 8 (.val 9 (.val 10 (.val 11 (.val 12 (.one 7 (.one 13 (.one 14 (.val 15 (.done))))))))))))))))) rfl (by kernel_rfl) ?_;simp[z7,zm,zn,zc,zb,yw];refine Q5 rfl rfl ?_;simp[zc,zb,yw];refine Q5 rfl rfl ?_;simp;refine Q5 rfl rfl ?_;simp;refine Qs rfl ?_;obtain⟨k,hk⟩:∃k,k=0:=⟨_,rfl⟩
    have yk:k=Zt S x S.length:=by rw[←hJ,hk];unfold Zt;rfl
    have zp:k≤i:=by omega
    refine Q1 (sl':=[(5,.list (C.map encP)),(11,.sl q2 1 0 i),(12,.i i),(13,.i (k:Nat))]) ?_ (by simp[hk]);have x5:(0:Int)≤(k:Int):=by omega
    have yl:(k:Int)≤(i:Int):=by omega
    have zq:K5 S x=S.take k++x::S.drop k:=by rw[K5,←yk]
    repeat first|(refine r_ ?_;simp[zp])|refine q_ ?_
    refine Qf tOk rfl rfl T87 rfl T70 rfl (by decide) (by decide) rfl rfl rfl ?_;simp[Qc zc,Qj zc,zb,zp];refine⟨⟨fun y hy=> ?_,by simp;omega⟩,?_⟩
    ·obtain⟨c',_,rfl⟩:=zK.1 (wD (yW hy));exact⟨rfl,rfl⟩
    rw[q0g zb.symm];refine Ru fun Z hZ=> ?_;have zr:=Qi zc;have z1:Z[q2]? =some (.arr 70 1 (S.map encP)):=by rw[hZ];simp[zE zr,zc]
    have z2:Z[G.length+1]? =some (.arr 70 1 ((S.map encP).drop k)):=by rw[hZ];simp
    have zl:Z.length=G.length+2:=by rw[hZ];simp
    clear hZ;refine Q1 (sl':=[(5,.list (C.map encP)),(11,.sl q2 1 0 i),(12,.i i),(13,.i (k:Nat)),(14,.sl (G.length+1) 1 0 (i - k))]) ?_ (by simp);refine F6 q2 k z1 ?_;have z3:(Z.set q2 (.arr 70 1 ((S.map encP).take k)))[q2]? =some (.arr 70 1 ((S.map encP).take k)):=Qp z1 _;have z4:(Z.set q2 (.arr 70 1 ((S.map encP).take k)))[G.length+1]? =some (.arr 70 1 ((S.map encP).drop k)):=Qg (by omega) z2 _;have x6:(Z.set q2 (.arr 70 1 ((S.map encP).take k))).length=G.length+2:=by simp[zl]
    generalize Z.set q2 (.arr 70 1 ((S.map encP).take k))=Y at *;clear z1 z2 zl;clear Z
    have zt:((S.map encP).take k).length=k:=by rw[yP];omega
    have ym:((S.map encP).drop k).length=i - k:=by rw[yS];omega
    have yn:(S.map encP).take k=(S.take k).map encP:=by rw[yQ]
    have yo:(S.map encP).drop k=(S.drop k).map encP:=by rw[yR]
    have zu:(K5 S x).map encP=(S.map encP).take k++(encP x::(S.map encP).drop k):=by rw[zq,yF,yJ,yn,yo]
    have yp:∀y∈(S.map encP).drop k,y.cells.length=1∧y.cells.all AV.leaf=true:=fun y hy=>by obtain⟨c',_,rfl⟩:=zK.1 (wD hy);exact⟨rfl,rfl⟩
    generalize (S.map encP).take k=tk at *;generalize (S.map encP).drop k=dk at *;refine Qk tOk mixed [8,10] (.val 0 (.val 1 (.val 2 (.val 3 (.val 4 (.val 5 (.val 6 (.val 9 (.one 7 (.one 8 (.one 10 (.val 11 (.done))))))))))))) rfl (by kernel_rfl) ?_
    simp[z7,zm,zn,zp];refine Qf tOk rfl rfl T87 rfl T70 rfl (by decide) (by decide) rfl rfl rfl ?_;simp[Qc z3,Qj z3,zt];refine⟨by simp[Wp,Qc z3,Qj z3,zt]<;>omega,?_⟩;refine Yz fun Z hZ=> ?_;have z5:Z[Y.length+1]? =some (.arr 70 1 (tk++[encP x])):=by rw[hZ,zC (by simp)];simp
    have z6:Z[G.length+1]? =some (.arr 70 1 dk):=by rw[hZ];exact Qc (Qg (by omega) z4 _) _
    clear hZ;have zv:(tk++[encP x]).length=k+1:=by simp[zt]
    have x7:i - k≤dk.length:=by omega
    have yq:dk.take (i - k)=dk:=zM (by omega);generalize y6:tk++[encP x]=mm at *;refine Qf tOk rfl rfl T87 rfl T70 rfl (by decide) (by decide) rfl rfl rfl ?_
    simp[Qc z5,Qj z5,Qc z6,zv,ym,yq,z5,z6];refine⟨⟨yp,by simp;omega⟩,?_⟩;repeat first|(refine r_ ?_;simp[hw])|refine q_ ?_
    refine Qb (sl':=[(5,.list (C.map encP)),(11,.sl Z.length 1 0 (i+1)),(12,.i (i+1:Nat))]) ?_ (by simp;omega);refine zk Z.length _ ⟨by omega,?_⟩ (by omega);rw[zu,zC (by simp),←y6];simp
  ·have zj:i=C.length:=by simp at yf;omega
   subst zj;rw[f04]at zc;have yx:=Zd C;refine Ei q2 zc ?_;simp[yx];rw[zM (by simp[yx])];repeat first|(refine r_ ?_;simp)|refine q_ ?_
end Go.Abs
namespace Go.Abs
open Go Go.Proofs Go.Maps Go.RowKit
def y2f(p:Prd):Bool:=p.any fun s=>decide (256<s.length)
def y23(p:Prd):Int×Prd:=if y2f p then(5,[])else(0,p)
attribute [local irreducible] Qx E8 y2f
attribute [local irreducible] Ye y23
end Go.Abs
namespace Go.Abs
open Go Go.Proofs Go.Maps Go.RowKit
attribute [local irreducible] Q0 Qn w0a y1p R6 R0 w1s nxB c1b g0o Wj
end Go.Abs
namespace Go.Abs
open Go Go.Proofs Go.Maps Go.RowKit
attribute [local irreducible] Ol Q0 Qn d0b Y4 Dn Ew stepG Iu Xx g0o w1s nxB c1b w25 Wj
end Go.Abs
namespace Go.Abs
open Go Go.Proofs Go.Maps Go.RowKit
attribute [local irreducible] Rz y2l x0o
end Go.Abs
namespace Go.Abs
open Go Go.Proofs Go.Maps Go.RowKit
attribute [local irreducible] Px K8 Wj
theorem N1(a:Aut):PC Tryz.prog 37 [encA a] (fun r=>r= .i (Tl a)):=by
 refine Qh tOk Tryz.func37 rfl Tryz.results37 rfl (by simp[Tryz.ntmps37]) ?_;rw[Tryz.ntmps37];simp only[Qe];simp only[encA];repeat first|(refine r_ ?_;simp)|refine q_ ?_
 refine Qd rfl rfl (by simp) (Sl a) rfl ?_;rintro _ rfl;simp;repeat first|(refine r_ ?_;simp)|refine q_ ?_
 refine Qa rfl (fun h=> ?_) (fun h=> ?_)
 ·repeat first|(refine r_ ?_;simp)|refine q_ ?_
  rw[Tl,if_pos (by simpa using h)]
 have h0:Wj a=0:=by simpa using h
 have z1:=(Ob a).1 h0;rw[Tl,if_neg (fun k=>k h0)];repeat first|(refine r_ ?_;simp)|refine q_ ?_
 refine Qd rfl rfl (by simp) (q06 a z1) rfl ?_;rintro _ rfl;simp;cases hs:K8 a with
 |false=>
  repeat first|(refine r_ ?_;simp[hs])|refine q_ ?_
  refine Q5 rfl rfl ?_;simp;refine Qs rfl ?_;repeat (first|(refine r_ ?_;simp)|refine q_ ?_)
 |true=>
  repeat first|(refine r_ ?_;simp[hs])|refine q_ ?_
  refine Qd rfl rfl (by simp) (c05 a z1) rfl ?_;rintro _ rfl;simp;cases hf:Px a with
  |false=>
   repeat first|(refine r_ ?_;simp[hf])|refine q_ ?_
   refine Qs rfl ?_;repeat (first|(refine r_ ?_;simp)|refine q_ ?_)
  |true=>
   repeat first|(refine r_ ?_;simp[hf])|refine q_ ?_
   refine Qs rfl ?_;repeat first|(refine r_ ?_;simp)|refine q_ ?_
attribute [local irreducible] Rc
def toD(a:Aut)(s:Int)(x:Sy)(j:Nat):Int:=match (a.mv.drop j).find? (fun m=>decide (m.src=s) && Rc m.on x)with|some m=>m.dst|none=> -1
theorem d09(a:Aut)(s:Int)(x:Sy):toD a s x 0=toL a s x:=rfl
theorem d0u(a:Aut)(s:Int)(x:Sy)(j:Nat)(h:j<a.mv.length):toD a s x j=if(decide (a.mv[j].src=s) && Rc a.mv[j].on x)=true then a.mv[j].dst else toD a s x (j+1):=by unfold toD;rw[uv h,List.find?_cons];cases hb:(decide (a.mv[j].src=s) && Rc a.mv[j].on x)<;>simp
theorem x1v(a:Aut)(s:Int)(x:Sy):toD a s x a.mv.length= -1:=by simp[toD]
attribute [local irreducible] toD toL
theorem q0p(a:Aut)(ha:OkA a)(s:Int)(x:Sy):PC Tryz.prog 147 [encA a,.i s,encSy x] (fun r=>r= .i (toL a s x)):=by
 refine Qh tOk Tryz.func147 rfl Tryz.results147 rfl (by simp[Tryz.ntmps147]) ?_;rw[Tryz.ntmps147];simp only[Qe];simp only[encA,encSy];have zc:=ha.mvs;repeat first|(refine r_ ?_;simp)|refine q_ ?_
 refine Qt a.mv.length (fun j=>toD a s x j=toL a s x) (fun j=>[(1,.i s),(3,.vptr 0 0),(5,.vptr 1 0),(7,.i j)]) (fun _=>[.vars (Qo a),.vars [.i x.ty,.i x.num]]) rfl (by simp) (by simp) (by simp) (by simp) (d09 a s x) ?_;intro j hj hI ih;repeat first|(refine r_ ?_;simp)|refine q_ ?_
 refine Qa rfl (fun za=> ?_) (fun zb=> ?_)
 ·have z1:j<a.mv.length:=by simpa using za
  have hw:IntKind.i64.wrap ((j:Int)+1)=j+1:=wrap_i64 _ (by omega) (by omega);have z6:=d0u a s x j z1;by_cases he:a.mv[j].src=s
  ·have z7:(a.mv[j].src==s)=true:=by simpa using he
   repeat first|(refine r_ ?_;simp)|refine q_ ?_
   refine Qk tOk mixed [] (.val 0 (.val 1 (.val 2 (.val 3 (.val 4 (.val 5 (.val 6 (.val 7 (.val 8 (.val 9 (.val 10 (.val 11 (.val 12 (.val 13 (.val 14 (.val 15 (.one 16 (.val 17 (.done))))))))))))))))))) rfl (by kernel_rfl) ?_;simp[z1,z7];refine Qd rfl rfl (by simp) (c09 a.mv[j].on x (fun t ht=>by have:=Su ha (zG z1) t ht;omega)) rfl ?_;rintro _ rfl;simp;rw[decide_eq_true he,Bool.true_and]at z6;cases hb:Rc a.mv[j].on x with
   |true=>
    rw[hb,if_pos rfl]at z6;repeat first|(refine r_ ?_;simp[hb])|refine q_ ?_
    refine Qs rfl ?_;repeat first|(refine r_ ?_;simp[z1])|refine q_ ?_
    rw[←hI,z6]
   |false=>
    rw[hb,if_neg (by simp)]at z6;repeat first|(refine r_ ?_;simp[hb])|refine q_ ?_
    refine Qs rfl ?_;repeat first|(refine r_ ?_;simp[hw])|refine q_ ?_
    refine Qq _ (ih z1 (by rw[←z6];exact hI)) rfl (by simp) ?_ (by simp) (by simp);simp
  ·have z7:(a.mv[j].src==s)=false:=by simpa using he
   rw[decide_eq_false he,Bool.false_and,if_neg (by simp)]at z6;repeat first|(refine r_ ?_;simp)|refine q_ ?_
   refine Qk tOk mixed [] (.val 0 (.val 1 (.val 2 (.val 3 (.val 4 (.val 5 (.val 6 (.val 7 (.val 8 (.val 9 (.val 10 (.val 11 (.val 12 (.val 13 (.val 14 (.val 15 (.one 16 (.val 17 (.done))))))))))))))))))) rfl (by kernel_rfl) ?_;simp[z1,z7];refine Q5 rfl rfl ?_;simp;repeat first|(refine r_ ?_;simp)|refine q_ ?_
   refine Qs rfl ?_;repeat first|(refine r_ ?_;simp[hw])|refine q_ ?_
   refine Qq _ (ih z1 (by rw[←z6];exact hI)) rfl (by simp) ?_ (by simp) (by simp);simp
 ·have z8:j=a.mv.length:=by simp at zb;omega
  subst z8;repeat first|(refine r_ ?_;simp)|refine q_ ?_
  rw[←hI,x1v]
end Go.Abs
namespace Go.Abs
open Go Go.Proofs Go.Maps Go.RowKit
theorem k0v{a b:Aut}(ha:OkA a)(hb:OkA b)(ht:b.types=a.types):(∀p∈onA a++onA b,PCk a.types.toNat p)∧(onA a++onA b).length≤4096:=by
 refine⟨fun p hp=> ?_,?_⟩
 ·rcases zO.1 hp with h|h
  ·exact Ja ha p h
  ·rw[←ht];exact Ja hb p h
 ·have h1:=ha.mvs;have h2:=hb.mvs;simp[onA];omega
attribute [local irreducible] Qn Qx
theorem Fe(a b:Aut)(ha:OkA a)(hb:OkA b)(ht:b.types=a.types):PC Tryz.prog 146 [encA a,encA b] (fun r=>r=LSy (Wg a b)):=by
 refine Qh tOk Tryz.func146 rfl Tryz.results146 rfl (by simp[Tryz.ntmps146]) ?_;rw[Tryz.ntmps146];simp only[Qe];simp only[encA];have zg:=ha.mvs;have zh:=hb.mvs;obtain⟨zc,za⟩:=k0v ha hb ht;have z6:=Da (T:=a.types.toNat) (by have:=ha.types;omega) (by have:=ha.types;omega) zc za;unfold Wg;repeat first|(refine r_ ?_;simp)|refine q_ ?_
 refine Qd rfl rfl (by simp) (Xu a (by omega)) rfl ?_;rintro _ rfl;simp;refine Qf tOk rfl rfl T87 rfl T70 rfl (by decide) (by decide) rfl rfl rfl ?_;simp;refine⟨⟨fun y hy=> ?_,by simp[onA];omega⟩,?_⟩
 ·obtain⟨c',_,rfl⟩:=zK.1 hy;exact⟨rfl,rfl⟩
 repeat first|(refine r_ ?_;simp)|refine q_ ?_
 refine Qd rfl rfl (by simp) (Xu b (by omega)) rfl ?_;rintro _ rfl;simp;refine Qf tOk rfl rfl T87 rfl T70 rfl (by decide) (by decide) rfl rfl rfl ?_;simp;refine⟨⟨fun y hy=> ?_,by simp[onA];omega⟩,?_⟩
 ·obtain⟨c',_,rfl⟩:=zK.1 hy;exact⟨rfl,rfl⟩
 repeat first|(refine r_ ?_;simp)|refine q_ ?_
 refine Wc 3 (e:=70) (c:=1) (xs:=(onA a).map encP++(onA b).map encP) rfl ?_;simp[AV.fz];rw[zM (by simp),←yF];refine Qd rfl rfl (by simp) (Zz a.types (onA a++onA b) ha.types zc za) rfl ?_;rintro _ rfl;simp;generalize Qx a.types.toNat (onA a++onA b)=cl at *;refine Q1 (sl':=[(6,.list (cl.map encP)),(4,.nils)]) ?_ (by simp)
 repeat first|(refine r_ ?_;simp)|refine q_ ?_
 refine Q6 7 52 2 rfl ?_;simp;refine Qm (Qb (sl':=[(6,.list (cl.map encP)),(7,.sl 4 2 0 0),(8,.i 0)]) ?_ (by simp));obtain⟨K,hK⟩:∃K,K=[AObj.vars [AV.i a.types,AV.list (yX AV.bool a.fin),AV.list (yX encMv a.mv)],AObj.vars [AV.i b.types,AV.list (yX AV.bool b.fin),AV.list (yX encMv b.mv)],AObj.dead,AObj.dead]:=⟨_,rfl⟩
 have hst:=SL.start K 52 2;refine Ql (F:=fun(u:Nat×Nat×List AObj)=>⟨[(6,.list (cl.map encP)),(7,.sl u.2.1 2 0 u.1),(8,.i u.1)],u.2.2⟩)
  (fun u=>u.1≤cl.length∧SL K u.2.2 u.2.1 52 2 (((cl.take u.1).map Qn).map encSy)) (fun u=>cl.length - u.1) ?_ (0,4,_) ⟨by simp,by rw[hK]at hst ⊢;exact hst⟩
 rintro⟨j,q,H2⟩ ⟨hj,g⟩ ih;simp only at hj g ih ⊢;repeat first|(refine r_ ?_;simp)|refine q_ ?_
 refine Qa rfl (fun zi=> ?_) (fun zj=> ?_)
 ·have z1:j<cl.length:=by simpa using zi
  have hw:IntKind.i64.wrap ((j:Int)+1)=j+1:=wrap_i64 _ (by omega) (by omega);have zk:((cl.take (j+1)).map Qn).map encSy=((cl.take j).map Qn).map encSy++[encSy (Qn cl[j])]:=by rw[zJ z1,yF,yF];rfl
  have z7:(((cl.take j).map Qn).map encSy).length=j:=by simp;omega
  have zd:=fun q' H'=>ih (j+1,q',H');simp only[zk]at zd;have zl:=z6.2 _ (zG z1);have za:=z6.1;have ze:(yX encP cl)[j]? =some (encP cl[j]):=by simp[z1]
  have zf:∀hh,(yX encP cl)[j]'hh=encP cl[j]:=fun hh=>by simp
  generalize ((cl.take j).map Qn).map encSy=acc at *;generalize cl[j]=c at *;simp only[encP]at ze zf
  repeat first|(refine r_ ?_;simp[z1,ze,zf])|refine q_ ?_
  refine Qd rfl rfl (by simp) (A2 c zl.2.1) rfl ?_;rintro _ rfl;simp;refine Qf tOk rfl rfl T26 rfl T52 rfl (by decide) (by decide) rfl rfl rfl ?_;simp[Qc g.arr,Qj g.arr,z7];refine⟨by simp[Wp,Qc g.arr,Qj g.arr,z7]<;>omega,?_⟩;repeat first|(refine r_ ?_;simp[hw])|refine q_ ?_
  exact Qb (sl':=[(6,.list (cl.map encP)),(7,.sl (H2.length+1) 2 0 (j+1)),(8,.i (j+1:Nat))]) (zd (H2.length+1) _ ⟨by omega,g.put [AObj.arr 52 2 [encSy (Qn c)]] _ rfl⟩ (by omega)) (by simp)
 ·have zb:j=cl.length:=by simp at zj;omega
  subst zb;have ga:=g.arr;rw[zZ]at ga;have z7:((cl.map Qn).map encSy).length=cl.length:=by simp
  obtain⟨acc,z8⟩:∃acc,acc=(cl.map Qn).map encSy:=⟨_,rfl⟩
  rw[←z8]at ga z7;repeat first|(refine r_ ?_;simp[ga,z7])|refine q_ ?_
  rw[zM (by omega),z8];simp
end Go.Abs
namespace Go.Abs
open Go Go.Proofs Go.Maps Go.RowKit
attribute [simp] y2g y2i
abbrev PQ:=(Int×Int)×List Sy
def Ap(e:PQ):AV:= .agg [.i e.1.1,.i e.1.2,.list (e.2.map encSy)]
def O5(L:List PQ)(s:Int×Int):Bool:=decide (s∈L.map (·.1))
theorem y0t{L:List PQ}{s:Int×Int}{j:Nat}(h:j<L.length):O5 (L.take (j+1)) s=(O5 (L.take j) s || decide (L[j].1=s)):=by unfold O5;rw[zJ h,yF,yJ,xI,Bool.eq_iff_iff,Bool.or_eq_true,decide_eq_true_eq,decide_eq_true_eq,decide_eq_true_eq,zO,zI];exact⟨fun k=>k.imp id Eq.symm,fun k=>k.imp id Eq.symm⟩
theorem z00{L:List PQ}{s:Int×Int}{j:Nat}(h:j<L.length)(e:L[j].1=s):O5 L s=true:=by unfold O5;rw[decide_eq_true_eq];exact zK.2 ⟨_,zG h,e⟩
theorem w1k(L:List PQ)(s:Int×Int)(hl:L.length≤1000000):PC Tryz.prog 148 [.list (L.map Ap),.i s.1,.i s.2] (fun r=>r= .bool (O5 L s)):=by
 refine Qh tOk Tryz.func148 rfl Tryz.results148 rfl (by simp[Tryz.ntmps148]) ?_;rw[Tryz.ntmps148];simp only[Qe];repeat first|(refine r_ ?_;simp)|refine q_ ?_
 refine Qt L.length (fun j=>O5 (L.take j) s=false) (fun j=>[(0,.list (L.map Ap)),(1,.i s.1),(2,.i s.2),(6,.bool false),(7,.i j)]) (fun _=>[]) rfl (by simp) (by simp) (by simp) (by simp) (by simp[O5]) ?_;intro j hj hI ih;repeat first|(refine r_ ?_;simp)|refine q_ ?_
 refine Qa rfl (fun zd=> ?_) (fun ze=> ?_)
 ·have z1:j<L.length:=by simpa using zd
  have hw:IntKind.i64.wrap ((j:Int)+1)=j+1:=wrap_i64 _ (by omega) (by omega);have z6:(yX Ap L)[j]? =some (Ap L[j]):=by simp[z1]
  have z7:∀hh,(yX Ap L)[j]'hh=Ap L[j]:=fun hh=>by simp
  have z8:=y0t (s:=s) z1;have zf:=z00 (s:=s) z1;rw[hI,Bool.false_or]at z8;generalize L[j]=e at *;simp only[Ap]at z6 z7
  by_cases h1:e.1.1=s.1
  ·have za:(e.1.1==s.1)=true:=by simpa using h1
   repeat first|(refine r_ ?_;simp[z1,z6,z7,za])|refine q_ ?_
   refine Qa rfl (fun h2=> ?_) (fun h2=> ?_)
   ·have:e.1=s:=tg h1 (by simpa using h2);rw[zf this];repeat first|(refine r_ ?_;simp)|refine q_ ?_
   ·have zb:e.1≠s:=fun k=>by simp[k]at h2
    repeat first|(refine r_ ?_;simp[hw])|refine q_ ?_
    refine Qq _ (ih z1 (by rw[z8,decide_eq_false zb])) rfl (by simp) ?_ (by simp) (by simp);simp
  ·have za:(e.1.1==s.1)=false:=by simpa using h1
   have zb:e.1≠s:=fun k=>h1 (by rw[k]);repeat first|(refine r_ ?_;simp[z1,z6,z7,za])|refine q_ ?_
   refine Qa rfl (fun h2=>by simp at h2) (fun h2=> ?_);repeat first|(refine r_ ?_;simp[hw])|refine q_ ?_
   refine Qq _ (ih z1 (by rw[z8,decide_eq_false zb])) rfl (by simp) ?_ (by simp) (by simp);simp
 ·have zc:j=L.length:=by simp at ze;omega
  subst zc;rw[zZ]at hI;rw[hI];repeat first|(refine r_ ?_;simp)|refine q_ ?_
structure PInv (a b:Aut) (L:List PQ):Prop where
 nd:(L.map (·.1)).Nodup
 rng:∀e∈L,inS a e.1.1∧inS b e.1.2
 wl:∀(i:Nat) (e:PQ),L[i]? =some e→e.2.length≤i
theorem PInv.len{a b:Aut}{L:List PQ}(h:PInv a b L):L.length≤a.fin.length * b.fin.length:=by
 have e:L.length=(L.map (·.1)).length:=by rw[zV]
 rw[←F4,e];refine Ys _ _ h.nd fun x hx=> ?_;obtain⟨e,he,rfl⟩:=zK.1 hx;exact G7 (h.rng e he).1 (h.rng e he).2
theorem PInv.add{a b:Aut}{L:List PQ}(h:PInv a b L){t:Int×Int}{w:List Sy}(ht:inS a t.1∧inS b t.2)(hw:w.length≤L.length)(hn:O5 L t=false):PInv a b (L++[(t,w)]):=by
 have z1:t∉L.map (·.1):=by simpa[O5]using hn
 refine⟨?_,fun e he=> ?_,fun i e he=> ?_⟩
 ·rw[yF,vP];refine⟨h.nd,by simp,fun x hx y hy e=> ?_⟩;simp only[yJ,xI,zI]at hy;exact z1 (by rw[←hy,←e];exact hx)
 ·rcases zO.1 he with he|he
  ·exact h.rng e he
  ·rw[zI.1 he];exact ht
 ·by_cases hi:i<L.length
  ·rw[zE hi]at he;exact h.wl i e he
  ·have z6:=zA.1 he |>.1;have:i=L.length:=by simp at z6;omega
   subst this;rw[zC (zL _)]at he;simp at he;rw[←he];exact hw
theorem k1r(L:List PQ)(t:Int×Int)(w:List Sy):Zv L t w=if O5 L t=true then L else L++[(t,w)]:=by
 unfold Zv;by_cases h:t∈L.map (·.1)
 ·rw[if_pos h,if_pos (by simpa[O5]using h)]
 ·rw[if_neg h,if_neg (by simpa[O5]using h)]
theorem Vp{good:Int×Int→Bool}{succ:Int×Int→List (Sy×(Int×Int))}{f n:Nat}{L:List PQ}(h:L[n]? =none):S9 good succ f n L=(none,L):=by
 cases f with
 |zero=>rw[S9]
 |succ f=>rw[S9,h]
theorem Zx{good:Int×Int→Bool}{succ:Int×Int→List (Sy×(Int×Int))}{f n:Nat}{L:List PQ}{s:Int×Int}{w:List Sy}(h:L[n]? =some (s,w)):S9 good succ (f+1) n L=if good s=true then(some w,L)else S9 good succ f (n+1) (W3 L w (succ s)):=by rw[S9,h]
theorem Vx(L:List PQ)(w:List Sy)(e:Sy×(Int×Int))(es:List (Sy×(Int×Int))):W3 L w (e::es)=W3 (Zv L e.2 (w++[e.1])) w es:=rfl
theorem w0h{a b:Aut}{s:Int×Int}{k:Nat}(h:k<(Wg a b).length):(R4 a b s).drop k=((Wg a b)[k],R3 a b s (Wg a b)[k])::(R4 a b s).drop (k+1):=by
 have hk:k<(R4 a b s).length:=by simpa[R4]using h
 rw[uv hk];simp[R4]
theorem j0c{a b:Aut}(s:Int×Int):(R4 a b s).length=(Wg a b).length:=by simp[R4]
theorem Kf(L:List PQ)(w:List Sy):W3 L w ([]:List (Sy×(Int×Int)))=L:=rfl
def k1g(r:Option (List Sy)):AV:= .tup [LSy (r.getD []),.bool r.isSome]
theorem k0k(a b:Aut)(p q:Int):Om a b p q=S9 (Oy a b) (R4 a b) (a.fin.length * b.fin.length+1) 0 [((p,q),[])]:=rfl
theorem w0w{a b:Aut}(ha:OkA a)(hb:OkA b)(ht:b.types=a.types){x:Sy}(hx:x∈Wg a b):Ww a x:=by have:=(Ow ha hb ht (0,0)).mem (x,R3 a b (0,0) x) (zK.2 ⟨x,hx,rfl⟩);exact this.1
theorem Fm{a b:Aut}(ha:OkA a)(hb:OkA b)(ht:b.types=a.types):(Wg a b).length≤40000000:=by obtain⟨z1,z6⟩:=k0v ha hb ht;have:=(Da (T:=a.types.toNat) (by have:=ha.types;omega) (by have:=ha.types;omega) z1 z6).1;unfold Wg;simpa using this
attribute [local irreducible] Wg toL S9 W3 R4 O5 Oy Om
theorem y0b(a b:Aut)(ha:Dfa a)(hb:Dfa b)(ht:b.types=a.types)(p q:Int)(hp:inS a p)(hq:inS b q):PC Tryz.prog 81 [encA a,encA b,.i p,.i q] (fun r=>r=k1g (Om a b p q).1):=by
 refine Qh tOk Tryz.func81 rfl Tryz.results81 rfl (by simp[Tryz.ntmps81]) ?_;rw[Tryz.ntmps81];simp only[Qe];simp only[encA];have zu:=ha.ok.fin;have zy:=hb.ok.fin;have yi:=ha.ok.mvs;have yj:=hb.ok.mvs;have zg:=fun x hx=>w0w ha.ok hb.ok ht (x:=x) hx;have y2:=Fm ha.ok hb.ok ht;rw[k0k];obtain⟨R,hR⟩:∃R,S9 (Oy a b) (R4 a b) (a.fin.length * b.fin.length+1) 0 [((p,q),[])]=R:=⟨_,rfl⟩
 rw[hR];have y3:∀s,(R4 a b s).length=(Wg a b).length:=fun s=>j0c s;have y4:=fun s k h=>w0h (a:=a) (b:=b) (s:=s) (k:=k) h;repeat first|(refine r_ ?_;simp)|refine q_ ?_
 refine Qd rfl rfl (by simp) (Fe a b ha.ok hb.ok ht) rfl ?_;rintro _ rfl;simp;generalize Wg a b=ls at *
 repeat first|(refine r_ ?_;simp)|refine q_ ?_
 have y5:PInv a b [((p,q),[])]:=⟨by simp,fun e he=>by rw[zI.1 he];exact⟨hp,hq⟩,fun i e he=>by
  have zf:=zA.1 he |>.1;have:i=0:=by simp at zf;omega
  subst this;simp at he;rw[←he];simp⟩
 refine x0g 2 rfl ?_;simp[AV.nrm];obtain⟨N,hN⟩:∃N,N=a.fin.length * b.fin.length:=⟨_,rfl⟩
 have yk:N≤65536:=by rw[hN];exact yO (vw zu.2 zy.2) (by decide)
 rw[←hN]at hR;have zh:=fun L h=>PInv.len (a:=a) (b:=b) (L:=L) h;rw[←hN]at zh;refine Qm (Qb (sl':=[(4,.vptr 0 0),(5,.vptr 1 0),(8,.nils),(9,.bool false),(10,.list (ls.map encSy)),(11,.sl 2 3 0 ([((p,q),[])]:List PQ).length),(12,.i (0:Nat))]) ?_ (by simp));refine Ql (F:=fun(u:Nat×Nat×List PQ×List AObj)=>⟨[(4,.vptr 0 0),(5,.vptr 1 0),(8,.nils),(9,.bool false),(10,.list (ls.map encSy)),(11,.sl u.2.1 3 0 u.2.2.1.length),(12,.i u.1)],u.2.2.2⟩)
  (fun u=>u.1≤u.2.2.1.length∧PInv a b u.2.2.1∧u.2.2.2[0]? =some (.vars (Qo a))∧u.2.2.2[1]? =some (.vars (Qo b))∧u.2.2.2[u.2.1]? =some (.arr 199 3 (u.2.2.1.map Ap))∧S9 (Oy a b) (R4 a b) (N+1 - u.1) u.1 u.2.2.1=R) (fun u=>N+1 - u.1) ?_ (0,2,[((p,q),[])],_) ⟨by simp,y5,rfl,rfl,rfl,hR⟩
 rintro⟨n,l,L,H⟩ ⟨hn,hP,h0,h1,hl,hB⟩ ih;simp only at hn hP h0 h1 hl hB ih ⊢;have y6:=zh L hP;repeat first|(refine r_ ?_;simp)|refine q_ ?_
 refine Qa rfl (fun zf=> ?_) (fun y7=> ?_)
 ·have z7:n<L.length:=by simpa using zf
  have hw:IntKind.i64.wrap ((n:Int)+1)=n+1:=wrap_i64 _ (by omega) (by omega);have zi:L[n]? =some L[n]:=zD z7;have zb:=hP.rng _ (zG z7);have y8:=hP.wl n _ zi;have z8:(yX Ap L)[n]? =some (Ap L[n]):=by simp[z7]
  have za:∀hh,(yX Ap L)[n]'hh=Ap L[n]:=fun hh=>by simp
  generalize L[n]=e at *
  obtain⟨⟨s,t⟩,w⟩:=e;simp only[Ap]at z8 za zb y8;rw[show N+1 - n=(N - n)+1 by omega,Zx zi]at hB;repeat first|(refine r_ ?_;simp[hl,z8,za,z7])|refine q_ ?_
  refine Ru fun Z hZ=> ?_;have z0:Z[0]? =some (.vars (Qo a)):=by rw[hZ];exact Qc h0 _
  have z1:Z[1]? =some (.vars (Qo b)):=by rw[hZ];exact Qc h1 _
  have zl:Z[l]? =some (.arr 199 3 (L.map Ap)):=by rw[hZ];exact Qc hl _
  have zx:Z[H.length]? =some (.vars [.i s,.i t,.list (w.map encSy)]):=by rw[hZ,zC (by simp)];simp
  clear hZ h0 h1 hl;generalize H.length=x at *;clear H
  obtain⟨zj,zk⟩:=zb;obtain⟨i,rfl⟩:∃i:Nat,s=i:=⟨s.toNat,(j0l zj).2.symm⟩
  obtain⟨j,rfl⟩:∃j:Nat,t=j:=⟨t.toNat,(j0l zk).2.symm⟩
  have hi:i<a.fin.length:=by have:=zj.2;omega
  have hj:j<b.fin.length:=by have:=zk.2;omega
  have zp:Oy a b ((i:Int),(j:Int))=(a.fin[i] != b.fin[j]):=by unfold Oy;simp[yT,hi,hj]
  rw[zp]at hB;refine Qk tOk mixed [] (.val 0 (.val 1 (.val 2 (.val 3 (.val 4 (.val 5 (.val 6 (.val 7 (.val 8 (.val 9 (.val 10 (.val 11 (.val 12 (.done)))))))))))))) rfl (by kernel_rfl) ?_;simp[z0,z1,zx,hi,hj];refine Qa rfl (fun hd=> ?_) (fun hd=> ?_)
  ·rw[if_pos (by simpa using hd)]at hB;rw[←hB];repeat first|(refine r_ ?_;simp[zx])|refine q_ ?_
   rfl
  ·rw[if_neg (by simpa using hd)]at hB;repeat first|(refine r_ ?_;simp)|refine q_ ?_
   refine Qm (Qb (sl':=[(4,.vptr 0 0),(5,.vptr 1 0),(8,.nils),(9,.bool false),(10,.list (ls.map encSy)),(11,.sl l 3 0 L.length),(12,.i n),(13,.vptr x 0),(14,.i (0:Nat))]) ?_ (by simp));refine Ql (F:=fun(u:Nat×Nat×List PQ×List AObj)=>⟨[(4,.vptr 0 0),(5,.vptr 1 0),(8,.nils),(9,.bool false),(10,.list (ls.map encSy)),(11,.sl u.2.1 3 0 u.2.2.1.length),(12,.i n),(13,.vptr x 0),(14,.i u.1)],u.2.2.2⟩)
    (fun u=>u.1≤ls.length∧n<u.2.2.1.length∧PInv a b u.2.2.1∧u.2.2.2[0]? =some (.vars (Qo a))∧u.2.2.2[1]? =some (.vars (Qo b))∧u.2.2.2[u.2.1]? =some (.arr 199 3 (u.2.2.1.map Ap))∧u.2.2.2[x]? =some (.vars [.i i,.i j,.list (w.map encSy)])∧S9 (Oy a b) (R4 a b) (N - n) (n+1) (W3 u.2.2.1 w ((R4 a b ((i:Int),(j:Int))).drop u.1))=R) (fun u=>ls.length - u.1) ?_ (0,l,L,Z) ⟨by simp,z7,hP,z0,z1,zl,zx,by rw[List.drop_zero];exact hB⟩
   clear z0 z1 zl zx hB hP z7 zi z8 za y6 zf hd zp hi hj;clear hn;rintro⟨k,l2,L2,G⟩ ⟨hk,zq,zc,g0,g1,gl,gx,hB⟩ ih2;simp only at hk zq zc g0 g1 gl gx hB ih2 ⊢;have y9:=zh L2 zc;repeat first|(refine r_ ?_;simp)|refine q_ ?_
   refine Qa rfl (fun zm=> ?_) (fun zn=> ?_)
   ·have z6:k<ls.length:=by simpa using zm
    have zr:IntKind.i64.wrap ((k:Int)+1)=k+1:=wrap_i64 _ (by omega) (by omega);rw[y4 _ k z6,Vx,k1r]at hB;have zt:=zg _ (zG z6);have z8:(yX encSy ls)[k]? =some (encSy ls[k]):=by simp[z6]
    have za:∀hh,(yX encSy ls)[k]'hh=encSy ls[k]:=fun hh=>by simp
    generalize ls[k]=y at *
    have hst:R3 a b ((i:Int),(j:Int)) y=(toL a i y,toL b j y):=rfl;simp only[hst]at hB;have ya:=(ha.next zj zt).1;have yb:=(hb.next zk (by unfold Ww at *;rw[ht];exact zt)).1;simp only[encSy]at z8 za;repeat first|(refine r_ ?_;simp)|refine q_ ?_
    refine Qk tOk mixed [] (.val 0 (.val 1 (.val 2 (.val 3 (.val 4 (.val 5 (.val 6 (.val 8 (.val 9 (.val 10 (.val 11 (.val 12 (.val 13 (.val 14 (.one 7 (.one 15 (.val 16 (.val 17 (.done))))))))))))))))))) rfl (by kernel_rfl) ?_;simp[g0,g1,gx,z6,z8,za];refine Qd rfl rfl (by simp) (q0p a ha.ok i y) rfl ?_;rintro _ rfl;simp[g0,g1,gx,z6,z8,za];refine Qd rfl rfl (by simp) (q0p b hb.ok j y) rfl ?_;rintro _ rfl;simp[g0,g1,gx,z6,z8,za];generalize toL a i y=s2 at *;generalize toL b j y=t2 at *
    have zd:(yX Ap L2).length=L2.length:=by simp
    have zo:List.take L2.length (yX Ap L2)=yX Ap L2:=zM (by simp);repeat first|(refine r_ ?_;simp)|refine q_ ?_
    refine Rn rfl rfl (by first|(simp[gl,zo,zd];done)|(simp[gl,zo,zd];rfl)) (w1k L2 (s2,t2) (by omega)) rfl ?_;rintro _ rfl;refine⟨by first|simp|rfl|trivial,?_⟩;simp[gl,zo,zd];cases hky:O5 L2 (s2,t2)with
    |true=>
     rw[if_pos hky]at hB;refine Qs rfl ?_;repeat first|(refine r_ ?_;simp[zr])|refine q_ ?_
     refine Qb (sl':=[(4,.vptr 0 0),(5,.vptr 1 0),(8,.nils),(9,.bool false),(10,.list (ls.map encSy)),(11,.sl l2 3 0 L2.length),(12,.i n),(13,.vptr x 0),(14,.i (k+1:Nat))]) ?_ (by simp);exact ih2 (k+1,l2,L2,G) ⟨by omega,zq,zc,g0,g1,gl,gx,hB⟩ (by omega)
    |false=>
     rw[if_neg (by rw[hky];simp)]at hB;have yc:=zc.add ⟨ya,yb⟩ (w:=w++[y]) (by simp;omega) hky;refine Qs rfl ?_;repeat first|(refine r_ ?_;simp[gx])|refine q_ ?_
     refine Qf tOk rfl rfl T26 rfl T52 rfl (by decide) (by decide) rfl rfl rfl ?_;simp;refine⟨⟨fun v hv=> ?_,by simp;omega⟩,?_⟩
     ·obtain⟨c',_,rfl⟩:=zK.1 hv;exact⟨rfl,rfl⟩
     repeat first|(refine r_ ?_;simp[z8,za,z6])|refine q_ ?_
     refine Qf tOk rfl rfl T26 rfl T52 rfl (by decide) (by decide) rfl rfl rfl ?_;simp;refine⟨by simp[Wp]<;>omega,?_⟩;refine Yz fun Z hZ=> ?_;have zz:Z.length=G.length+4:=by rw[hZ];simp
     have z0:Z[0]? =some (.vars (Qo a)):=by rw[hZ];exact Qc g0 _
     have z1:Z[1]? =some (.vars (Qo b)):=by rw[hZ];exact Qc g1 _
     have zl:Z[l2]? =some (.arr 199 3 (L2.map Ap)):=by rw[hZ];exact Qc gl _
     have zx:Z[x]? =some (.vars [.i i,.i j,.list (w.map encSy)]):=by rw[hZ];exact Qc gx _
     have zw:Z[G.length+2]? =some (.arr 52 2 (w.map encSy++[.agg [.i y.ty,.i y.num]])):=by rw[hZ,zC (by omega)];simp
     have zv:Z[G.length+3]? =some (.va 199 3 [.agg [.i s2,.i t2,.sl (G.length+2) 2 0 (w.length+1)]]):=by rw[hZ,zC (by omega)];simp
     have ym:=Qi gl;have yn:=Qi gx;have g1t:=Qi g1;clear hZ g0 g1 gl gx;generalize G.length=m at *;clear G;refine P4 (m+2) zw (m+3) zv (by omega) rfl ?_
     simp[AObj.fz,AV.fz];rw[zM (by simp)];refine Bc (m+3) (e:=199) (c:=3) (xs:=[Ap ((s2,t2),w++[y])]) (by rw[zH (by simp;omega)];simp[Ap]) (by simp[AV.cells,AV.pure,Ap]) ?_;refine Yz fun Y hY=> ?_;have yy:Y.length=m+4:=by rw[hY];simp[zz]
     have y0:Y[0]? =some (.vars (Qo a)):=by rw[hY,zB (by omega),zB (by omega),zB (by omega)];exact z0
     have y1:Y[1]? =some (.vars (Qo b)):=by rw[hY,zB (by omega),zB (by omega),zB (by omega)];exact z1
     have yl:Y[l2]? =some (.arr 199 3 (L2.map Ap)):=by rw[hY,zB (by omega),zB (by omega),zB (by omega)];exact zl
     have yx:Y[x]? =some (.vars [.i i,.i j,.list (w.map encSy)]):=by rw[hY,zB (by omega),zB (by omega),zB (by omega)];exact zx
     have yv:Y[m+3]? =some (.arr 199 3 [Ap ((s2,t2),w++[y])]):=by rw[hY,zH (by simp;omega)]
     have yo:l2≠m+3:=by omega
     have yd:l2≠0:=fun e=>by rw[e,y0]at yl;simp at yl
     have ye:l2≠1:=fun e=>by rw[e,y1]at yl;simp at yl
     have yf:l2≠x:=fun e=>by rw[e,yx]at yl;simp at yl
     clear hY z0 z1 zl zx zw zv zz;clear Z;generalize m+3=v at *;refine Qf tOk rfl rfl y2i rfl y2g rfl (by decide) (by decide) rfl rfl rfl ?_
     simp[Qc yl,Qj yl,yl,yv,zd,Ap];refine⟨by simp[Wp,Qc yl,Qj yl,yl,yv,zd,Ap]<;>omega,?_⟩;repeat first|(refine r_ ?_;simp[zr])|refine q_ ?_
     refine Qb (sl':=[(4,.vptr 0 0),(5,.vptr 1 0),(8,.nils),(9,.bool false),(10,.list (ls.map encSy)),(11,.sl Y.length 3 0 (L2.length+1)),(12,.i n),(13,.vptr x 0),(14,.i (k+1:Nat))]) ?_ (by simp);have:=ih2 (k+1,Y.length,L2++[((s2,t2),w++[y])],(Y.set l2 .dead)++[.arr 199 3 ((L2++[((s2,t2),w++[y])]).map Ap)]) ⟨by omega,by simp;omega,yc,Qc (Qg yd y0 _) _,Qc (Qg ye y1 _) _,by rw[zC (by simp)];simp,Qc (Qg yf yx _) _,hB⟩ (by simp only;omega);simpa[Ap]using this
   ·have ze:k=ls.length:=by simp at zn;omega
    subst ze;have yg:(R4 a b ((i:Int),(j:Int))).length=ls.length:=y3 _;rw[List.drop_eq_nil_of_le (Nat.le_of_eq yg),Kf]at hB;repeat first|(refine r_ ?_;simp[hw])|refine q_ ?_
    refine Qb (sl':=[(4,.vptr 0 0),(5,.vptr 1 0),(8,.nils),(9,.bool false),(10,.list (ls.map encSy)),(11,.sl l2 3 0 L2.length),(12,.i (n+1:Nat))]) ?_ (by simp);exact ih (n+1,l2,L2,G) ⟨by simp only;omega,zc,g0,g1,gl,by rw[show N+1 - (n+1)=N - n by omega];exact hB⟩ (by simp only;omega)
 ·have yh:n=L.length:=by simp at y7;omega
  rw[Vp (by rw[List.getElem?_eq_none_iff];omega)]at hB;rw[←hB];repeat first|(refine r_ ?_;simp)|refine q_ ?_
  rfl
end Go.Abs
namespace Go.Abs
open Go Go.Proofs Go.Maps Go.RowKit
instance inS_dec (a:Aut) (s:Int):Decidable (inS a s):=by unfold inS;exact inferInstance
def x29(a:Aut)(p q:Int):Option (List Sy)×Int:=if Tl a≠0 then(none,Tl a)else if inS a p∧inS a q then((Om a a p q).1,0)else(none,6)
def x2e(r:Option (List Sy)×Int):AV:= .tup [LSy (r.1.getD []),.bool r.1.isSome,.i r.2]
attribute [local irreducible] Tl Om
abbrev y2o (l:List Nat):List Int:=l.map fun x:Nat=>(x:Int)
attribute [local irreducible] eqS x20
def v2g(a:Aut):List Int×Int:=if Tl a≠0 then([],Tl a)else(y2o (clA a),0)
end Go.Abs
namespace Go.Abs
theorem Vi{a b:Aut}(ha:Dfa a)(hb:OkA b)(ht:b.types=a.types){w:List Sy}(hw:∀z∈w,Ww a z)(h1:Tx b w=true)(h2:Tx a w=false):∃v:List Sy,v.length+1≤b.fin.length * (a.fin.length+1)∧(∀z∈v,Ww a z)∧Tx b v=true∧Tx a v=false:=by
 have hz:inS b 0:=⟨yI _,by have:=hb.fin;omega⟩
 have z1:∀v,Tx b v=true↔q18 b 0 v:=fun v=>by unfold Tx;rw[Cg];simp
 have hst:∀l∈(Wt a.fin.length).map (fun i=>[i]),∀x,Ww a x→Q0 a l x=[]∨Q0 a l x∈(Wt a.fin.length).map (fun i=>[i]):=fun l hl x hx=>by obtain⟨i,hi,rfl⟩:=zK.1 hl;obtain⟨h3,h4⟩:=ha.next (Wz.1 hi) hx;rw[h4];exact .inr (zK.2 ⟨_,Wz.2 h3,rfl⟩)
 obtain⟨k,_,hk⟩:=d1h (a:=a) (b:=b) (s:=(0,[0])) w.length ⟨w,rfl,hw,(z1 w).1 h1,h2⟩;have z6:=w1u hst (b:=b) (s:=(0,[0])) ⟨hz,.inr (zK.2 ⟨0,Wz.2 ha.zero,rfl⟩)⟩ hk;obtain⟨⟨v,hv,z7,v1,v2⟩,_⟩:=hk;have hl:((Wt a.fin.length).map fun i=>[i]).length=a.fin.length:=by simp[Wt]
 rw[hl]at z6;exact⟨v,by rw[hv];exact z6,z7,(z1 v).2 v1,v2⟩
theorem v1a{a b:Aut}(ha:Dfa a)(hb:Dfa b)(ht:b.types=a.types)(z1:a.fin.length≤8)(z6:b.fin.length≤8){w:List Sy}(h:FirstP (Ww a) (wnd neB a b) w):w.length≤4096:=by
 have hh:=h.hit;unfold wnd neB at hh;cases h1:Tx a w with
 |true=>
  cases h2:Tx b w with
  |true=>rw[h1,h2]at hh;cases hh
  |false=>obtain⟨v,v1,v2,v3,v4⟩:=Vi hb ha.ok ht.symm (fun z hz=>(R7 ht).2 (h.okw z hz)) h1 h2;have:=g0t (h.least v (fun z hz=>(R7 ht).1 (v2 z hz)) (by unfold wnd neB;rw[v3,v4];rfl));have:=vw z1 (show b.fin.length+1≤9 by omega);omega
 |false=>
  cases h2:Tx b w with
  |false=>rw[h1,h2]at hh;cases hh
  |true=>obtain⟨v,v1,v2,v3,v4⟩:=Vi ha hb.ok ht h.okw h2 h1;have:=g0t (h.least v v2 (by unfold wnd neB;rw[v3,v4];rfl));have:=vw z6 (show a.fin.length+1≤9 by omega);omega
structure EqC where
 verdict:Int
 pairs:List (Int×Int)
 word:List Sy
def j1p:EqC:=⟨0,[],[]⟩
def Es(a b:Aut):Int:=if Wj a≠0 then Wj a else if Wj b≠0 then Wj b else if a.types≠b.types then 15 else 0
def E5(a b:Aut):Int:=if Es a b≠0 then Es a b else if Tl a≠0∨Tl b≠0 then 3 else 0
def C8(a b:Aut):EqC×Int:=if E5 a b≠0 then(j1p,E5 a b)else match (Hg a b neB).1 with
 |some w=>(⟨2,[],w⟩,0)
 |none=>if 2048<(T6 a b).length then(j1p,5)else(⟨1,En (T6 a b),[]⟩,0)
def inQ(a b:Aut)(s:Int×Int):Bool:=decide (inS a s.1∧inS b s.2)
instance (a:Aut) (s:Int):Decidable (inS a s):=inferInstanceAs (Decidable (0≤s∧s<(a.fin.length:Int)))
def Oq(a b:Aut)(x:EqC):Int:=if x.verdict≠1∧x.verdict≠2 then 1 else if(x.verdict=1∧0<x.word.length)∨(x.verdict=2∧0<x.pairs.length)then 3
 else if 2048<x.pairs.length∨4096<x.word.length then 5 else if x.pairs.all (fun s=>decide (inS a s.1∧inS b s.2))=false then 6 else Vv a.types x.word
def w0r(a b:Aut)(x:EqC):Int:=if E5 a b≠0 then E5 a b else if Oq a b x≠0 then Oq a b x else if(if x.verdict=1 then Hk a b x.pairs else Tx a x.word != Tx b x.word)=true then 0 else 18
def Th(a b:Aut):Int:=if Es a b≠0 then Es a b else if(Rz a).1≠0 then(Rz a).1 else(Rz b).1
def u10(a b:Aut):(List Sy×Bool)×Int:=if Th a b≠0 then(([],false),Th a b)else match (Hg (Rz a).2 (Rz b).2 x1l).1 with
 |some w=>((w,false),0)
 |none=>(([],true),0)
def u1s(a b:Aut):(List Sy×Bool)×Int:=if Th a b≠0 then(([],false),Th a b)else match (Hg (Rz a).2 (Rz b).2 neB).1 with
 |some w=>((w,true),0)
 |none=>(([],false),0)
theorem Y7{a b:Aut}:Es a b=0↔OkA a∧OkA b∧b.types=a.types:=by
 unfold Es;by_cases h1:Wj a≠0
 ·rw[if_pos h1];exact⟨fun h=>absurd h h1,fun h=>absurd ((Ob a).2 h.1) h1⟩
 rw[if_neg h1];by_cases h2:Wj b≠0
 ·rw[if_pos h2];exact⟨fun h=>absurd h h2,fun h=>absurd ((Ob b).2 h.2.1) h2⟩
 rw[if_neg h2];by_cases h3:a.types≠b.types
 ·rw[if_pos h3];exact⟨fun h=>(by cases h),fun h=>absurd h.2.2.symm h3⟩
 rw[if_neg h3];exact⟨fun _=>⟨(Ob a).1 (Decidable.not_not.1 h1),(Ob b).1 (Decidable.not_not.1 h2),(Decidable.not_not.1 h3).symm⟩,fun _=>rfl⟩
theorem T0{a b:Aut}:E5 a b=0↔Dfa a∧Dfa b∧b.types=a.types:=by
 unfold E5;by_cases h1:Es a b≠0
 ·rw[if_pos h1];exact⟨fun h=>absurd h h1,fun h=>absurd (Y7.2 ⟨h.1.ok,h.2.1.ok,h.2.2⟩) h1⟩
 rw[if_neg h1];have hb:=Y7.1 (Decidable.not_not.1 h1);by_cases h2:Tl a≠0∨Tl b≠0
 ·rw[if_pos h2];exact⟨fun h=>(by cases h),fun h=>h2.elim (fun k=>absurd ((Ug a).2 h.1) k) (fun k=>absurd ((Ug b).2 h.2.1) k)⟩
 rw[if_neg h2];exact⟨fun _=>⟨(Ug a).1 (Decidable.not_not.1 fun k=>h2 (.inl k)),(Ug b).1 (Decidable.not_not.1 fun k=>h2 (.inr k)),hb.2.2⟩,fun _=>rfl⟩
theorem q1d{a b:Aut}(ha:Dta a)(hb:Dta b)(ht:b.types=a.types){wn:Bool→Bool→Bool}{w:List Sy}(h:(Hg a b wn).1=some w):FirstP (Ww a) (wnd wn a b) w:=by
 rcases Tw ha hb ht wn with⟨v,L,h1,h2⟩|⟨L,h1,_⟩
 ·rw[h1]at h;obtain rfl:=Option.some.inj h;exact h2
 ·rw[h1]at h;cases h
theorem M9{a b:Aut}(ha:Dfa a)(hb:Dfa b)(ht:b.types=a.types)(hn:(Hg a b neB).1=none):(T6 a b).length≤a.fin.length * b.fin.length∧∀s∈T6 a b,inS a s.1∧inS b s.2:=by
 obtain⟨h1,_,h3⟩:=P3 ⟨ha.ok,ha.det⟩ ⟨hb.ok,hb.det⟩ ht hn;have z1:∀s∈T6 a b,inS a s.1∧inS b s.2:=fun s hs=>by
  obtain⟨v,hv,e⟩:=(h3 s).1 hs;rw[Yr]at e;rw[←e];have st:∀ {c:Aut},Dfa c→∀(w:List Sy) (s:Int),inS c s→(∀x∈w,Ww c x)→inS c (stF c s w):=fun {c} hc w=>by
   induction w with
   |nil=>intro s hs _;exact hs
   |cons x w ih=>intro s hs hw;exact ih _ (hc.next hs (hw x (by simp))).1 fun y hy=>hw y (by simp[hy])
  exact⟨st ha v 0 ha.zero hv,st hb v 0 hb.zero fun x hx=>(R7 ht).2 (hv x hx)⟩
 refine⟨?_,z1⟩;rw[←F4];exact Ys _ _ h1 fun s hs=>G7 (z1 s hs).1 (z1 s hs).2
theorem u0h{a b:Aut}(hf:E5 a b=0)(z1:a.fin.length≤8)(z6:b.fin.length≤8):(C8 a b).2=0∧w0r a b (C8 a b).1=0∧(((C8 a b).1.verdict=1∧∀w,(∀x∈w,Ww a x)→Tx a w=Tx b w)∨((C8 a b).1.verdict=2∧∃w,(∀x∈w,Ww a x)∧Tx a w≠Tx b w)):=by
 obtain⟨ha,hb,ht⟩:=T0.1 hf;have da:Dta a:=⟨ha.ok,ha.det⟩
 have db:Dta b:=⟨hb.ok,hb.det⟩
 unfold C8;rw[if_neg (fun k=>k hf)];cases hs:(Hg a b neB).1 with
 |some w=>
  have hw:=q1d da db ht hs;have hl:=v1a ha hb ht z1 z6 hw;have z7:(Tx a w != Tx b w)=true:=hw.hit;refine⟨rfl,?_,.inr ⟨rfl,w,hw.okw,by simpa using z7⟩⟩;have hp:Oq a b ⟨2,[],w⟩=0:=by unfold Oq;rw[if_neg (by simp),if_neg (by simp),if_neg (by simp;omega),if_neg (by simp)];exact(Kl w).2 fun x hx=>(D4 _ _).2 (hw.okw x hx)
  unfold w0r;rw[if_neg (fun k=>k hf),if_neg (fun k=>k hp)];simp only;rw[if_neg (by decide:¬(2:Int)=1),if_pos z7]
 |none=>
  obtain⟨hl,z8⟩:=M9 ha hb ht hs;have:=vw z1 z6;simp only;rw[if_neg (by omega)];refine⟨rfl,?_,.inl ⟨rfl,w0t ha hb ht (Vj ha hb ht hs)⟩⟩;have za:(En (T6 a b)).length=(T6 a b).length:=(wG _ _).length_eq;have hp:Oq a b ⟨1,En (T6 a b),[]⟩=0:=by
   unfold Oq;rw[if_neg (by simp),if_neg (by simp),if_neg (by simp;omega),if_neg]
   ·rfl
   ·simp only[t6];rw[zP];intro s hm;exact decide_eq_true (z8 s (W5.1 hm))
  unfold w0r;rw[if_neg (fun k=>k hf),if_neg (fun k=>k hp)];simp only;rw[if_pos trivial,if_pos (Vj ha hb ht hs)]
end Go.Abs
namespace Go.Abs
section
variable {a b:Aut}
theorem Xh(hb:Es a b=0):Th a b=0↔(Rz a).1=0∧(Rz b).1=0:=by
 unfold Th;rw[if_neg (fun k=>k hb)];by_cases h:(Rz a).1≠0
 ·rw[if_pos h];exact⟨fun k=>absurd k h,fun k=>absurd k.1 h⟩
 ·rw[if_neg h];exact⟨fun k=>⟨Decidable.not_not.1 h,k⟩,fun k=>k.2⟩
theorem N5{a:Aut}(h:(Rz a).1=0):Rz a=(0,(Rz a).2):=tg h rfl
structure IncW (a b:Aut) (n:Nat) (w:List Sy):Prop where
 okw:∀z∈w,Ww a z
 len:w.length≤4096
 yes:Tx b w=true
 no:Tx a w=false
 far:n≤w.length
end
end Go.Abs
namespace Go.Abs
theorem u0x{a b:Aut}(hf:E5 a b=0){l:List (Int×Int)}(hl:l.length≤2048)(z1:∀s∈l,inS a s.1∧inS b s.2):w0r a b ⟨1,l,[]⟩=if Hk a b l=true then 0 else 18:=by
 have hp:Oq a b ⟨1,l,[]⟩=0:=by
  unfold Oq;rw[if_neg (by simp),if_neg (by simp),if_neg (by simp;omega),if_neg]
  ·rfl
  ·simp only[t6];rw[zP];exact fun s hm=>decide_eq_true (z1 s hm)
 unfold w0r;rw[if_neg (fun k=>k hf),if_neg (fun k=>k hp)];simp only;rw[if_pos trivial]
def v2f(a b:Aut):List (Int×Int):=(Wt a.fin.length).flatMap fun i=>(Wt b.fin.length).map fun j=>(i,j)
end Go.Abs
namespace Go.Abs
def q20:Prd:=[[⟨-1099511627776,1099511627776⟩]]
def q22:Prd:=[[⟨-1099511627776,4⟩]]
def u19:Prd:=[[⟨5,1099511627776⟩]]
def exQ:Aut:=⟨1,[false,true],[⟨0,1,q20⟩,⟨1,0,q20⟩]⟩
def exR:Aut:=⟨1,[false,true],[⟨0,1,q22⟩,⟨0,0,u19⟩,⟨1,0,q22⟩,⟨1,1,u19⟩]⟩
theorem q2p:Tl exQ=0:=by decide+kernel
theorem w2o:Tl exR=0:=by decide+kernel
theorem Sr:Dfa exQ:=(Ug _).1 q2p
theorem f0c:Dfa exR:=(Ug _).1 w2o
theorem j15:Wj exQ=0:=by decide+kernel
theorem j13:Wj exR=0:=by decide+kernel
theorem x03:E5 exQ exR=0:=T0.2 ⟨Sr,f0c,rfl⟩
theorem Lx:E5 exQ exQ=0:=T0.2 ⟨Sr,Sr,rfl⟩
theorem v08:(Om exQ exR 0 0).1=some [⟨0,5⟩]:=by kernel_rfl
theorem q19:(Om exQ exQ 0 0).1=none:=by kernel_rfl
theorem d1f:(y1v exQ exR x1l).1=some [⟨0,-1099511627776⟩,⟨0,5⟩]:=by kernel_rfl
theorem u1f:G6 exQ exQ=[(0,0),(1,1)]:=by kernel_rfl
theorem k1n:Hk exQ exQ [(0,0)]=false:=by kernel_rfl
def xqC:List Prd:=[q20]
def xrC:List Prd:=[q22,u19]
def xqQ:List (List Int):=[[0],[1]]
theorem c0e:(Zk exQ.types (onA exQ)).1=0∧(Zk exQ.types (onA exQ)).2=xqC:=by decide+kernel
theorem c0s:(Zk exR.types (onA exR)).1=0∧(Zk exR.types (onA exR)).2=xrC:=by decide+kernel
theorem q1r:G9 exQ xqC=some xqQ:=by decide+kernel
theorem w1e:G9 exR xrC=some xqQ:=by decide+kernel
theorem d05:Y4 exQ xqC xqQ=exQ:=by kernel_rfl
theorem d0t:Y4 exR xrC xqQ=exR:=by kernel_rfl
theorem j1f:Xx exQ=false:=by decide+kernel
theorem j1j:Xx exR=false:=by decide+kernel
theorem x1k{a d:Aut}{C:List Prd}{Q:List (List Int)}(hk:Wj a=0)(hm:(Zk a.types (onA a)).1=0∧(Zk a.types (onA a)).2=C)(hs:G9 a C=some Q)(hd:Y4 a C Q=d)(hb:Xx d=false):Rz a=(0,d):=by
 have z6:R0 a.types (onA a)=(0,C):=by rw[←x0z];exact tg hm.1 hm.2
 have z1:Ol a=(0,C,Q):=by
  rw[Ol,if_neg (fun k=>k hk),z6];rw[if_neg (by simp)];split
  ·rename_i h;have h2:G9 a C=none:=h;rw[hs]at h2;cases h2
  ·rename_i R h;have h2:G9 a C=some R:=h;rw[hs]at h2;rw[←Option.some.inj h2]
 rw[Rz,z1,if_neg (by simp)];show d0b (Y4 a C Q)=_;rw[hd,M8,hb];rfl
theorem Ky:Rz exQ=(0,exQ):=x1k j15 c0e q1r d05 j1f
theorem Lp:Rz exR=(0,exR):=x1k j13 c0s w1e d0t j1j
theorem x1x:Es exQ exR=0:=Y7.2 ⟨Sr.ok,f0c.ok,rfl⟩
theorem k0m:Th exQ exR=0:=(Xh x1x).2 ⟨by rw[Ky],by rw[Lp]⟩
theorem x1m:C8 exQ exR=(⟨2,[],[⟨0,5⟩]⟩,0):=by rw[C8,if_neg (fun k=>k x03),←Ij Sr f0c rfl,v08]
theorem x08:(Hg exQ exQ neB).1=none:=by rw[←Ij Sr Sr rfl,q19]
theorem g0z:En (T6 exQ exQ)=[(0,0),(1,1)]:=by obtain⟨h1,h2,h3⟩:=P3 ⟨Sr.ok,Sr.det⟩ ⟨Sr.ok,Sr.det⟩ rfl x08;rw[h2,u1f];exact Yu (Tj (by decide)) (by simp[pLt]) fun s=>W5
theorem j0d:C8 exQ exQ=(⟨1,[(0,0),(1,1)],[]⟩,0):=by
 have hl:(T6 exQ exQ).length=2:=by rw[←(wG (T6 exQ exQ) pLe).length_eq];show(En (T6 exQ exQ)).length=2;rw[g0z];rfl
 rw[C8,if_neg (fun k=>k Lx),x08];simp only;rw[if_neg (by omega),g0z]
theorem f1t:u1s exQ exR=(([⟨0,5⟩],true),0):=by rw[u1s,if_neg (fun k=>k k0m),Ky,Lp,←Ij Sr f0c rfl,v08]
theorem j1g:u10 exQ exR=(([⟨0,-1099511627776⟩,⟨0,5⟩],false),0):=by rw[u10,if_neg (fun k=>k k0m)];have:=w0g Sr.ok f0c.ok rfl Ky Lp x1l;rw[Ky,Lp,←this,d1f]
theorem x1y:w0r exQ exR ⟨2,[],[⟨0,5⟩]⟩=0:=by have:=(u0h x03 (by decide) (by decide)).2.1;rw[x1m]at this;exact this
theorem v1c:w0r exQ exQ ⟨1,[(0,0),(1,1)],[]⟩=0:=by have:=(u0h Lx (by decide) (by decide)).2.1;rw[j0d]at this;exact this
theorem j1l:w0r exQ exQ ⟨1,[(0,0)],[]⟩=18:=by rw[u0x Lx (by decide) (fun s hs=>by rw[zI]at hs;subst hs;decide),k1n];rfl
end Go.Abs
namespace Go.Abs
end Go.Abs
namespace Go.Abs
end Go.Abs
namespace Go.Abs
def x0k:List Iv→Int→Option Int
 |[],_=>none
 |x::l,n=>if n≤x.hi then some (max x.lo n)else x0k l n
def Mq:List Iv→Int→Int
 |[],n=>n
 |x::l,n=>Mq l (if x.lo≤n∧n≤x.hi then x.hi+1 else n)
def u06:List (List Iv)→Int→Option Int
 |[],n=>some n
 |l::I,n=>match x0k l n with|some m=>u06 I m|none=>none
def g0k:List (List Iv)→Int→Int
 |[],n=>n
 |l::O,n=>g0k O (Mq l n)
theorem N6:∀(l:List Iv) (n:Int),Sep l→match x0k l n with|some m=>M l m∧n≤m∧∀k,M l k→n≤k→m≤k|none=>∀k,M l k→k<n
 |[],n,_=>fun k h=>absurd h u01
 |x::l,n,h=>by
  have hx:=h.1 x (by simp);have sx:=c1k h;rw[x0k];by_cases h1:n≤x.hi
  ·rw[if_pos h1];refine⟨Y8.2 (.inl (by omega)),by omega,fun k hk hn=> ?_⟩;rcases Y8.1 hk with k1|k1
   ·omega
   ·have:=sx k k1;omega
  ·rw[if_neg h1];have ih:=N6 l n (d01 h);cases hc:x0k l n with
   |some m=>
    rw[hc]at ih;obtain⟨i1,i2,i3⟩:=ih;refine⟨Y8.2 (.inr i1),i2,fun k hk hn=> ?_⟩;rcases Y8.1 hk with k1|k1
    ·omega
    ·exact i3 k k1 hn
   |none=>
    rw[hc]at ih;intro k hk;rcases Y8.1 hk with k1|k1
    ·omega
    ·exact ih k k1
theorem Kq:∀(l:List Iv) (n:Int),n≤Mq l n∧(∀k,n≤k→¬M l k→Mq l n≤k)∧(Mq l n=n→¬M l n)
 |[],n=>⟨yI _,fun k h _=>h,fun _=>u01⟩
 |x::l,n=>by
  rw[Mq];by_cases h:x.lo≤n∧n≤x.hi
  ·rw[if_pos h];obtain⟨i1,i2,i3⟩:=Kq l (x.hi+1);refine⟨by omega,fun k hk hn=>i2 k ?_ (fun hm=>hn (Y8.2 (.inr hm))),fun e=>by omega⟩;have:¬(x.lo≤k∧k≤x.hi):=fun hm=>hn (Y8.2 (.inl hm));omega
  ·rw[if_neg h];obtain⟨i1,i2,i3⟩:=Kq l n;exact⟨i1,fun k hk hn=>i2 k hk fun hm=>hn (Y8.2 (.inr hm)),fun e hm=>(Y8.1 hm).elim h (i3 e)⟩
theorem q0e:∀(I:List (List Iv)) (n:Int),(∀l∈I,Sep l)→match u06 I n with|some m=>n≤m∧(∀k,n≤k→(∀l∈I,M l k)→m≤k)∧(m=n→∀l∈I,M l n)|none=>∀k,n≤k→¬ ∀l∈I,M l k
 |[],n,_=>⟨yI _,fun k h _=>h,fun _ l h=>by cases h⟩
 |l::I,n,h=>by
  have h1:=N6 l n (h l (by simp));rw[u06];cases hc:x0k l n with
  |none=>rw[hc]at h1;intro k hk hm;have:=h1 k (hm l (by simp));omega
  |some m=>
   rw[hc]at h1;obtain⟨a1,a2,a3⟩:=h1;have ih:=q0e I m fun l hl=>h l (by simp[hl]);simp only;cases hd:u06 I m with
   |none=>rw[hd]at ih;intro k hk hm;exact ih k (a3 k (hm l (by simp)) hk) fun j hj=>hm j (by simp[hj])
   |some m'=>
    rw[hd]at ih;obtain⟨b1,b2,b3⟩:=ih;refine⟨by omega,fun k hk hm=>b2 k (a3 k (hm l (by simp)) hk) fun j hj=>hm j (by simp[hj]),fun e j hj=> ?_⟩;have e1:m=n:=by omega
    rcases zT.1 hj with rfl|hj
    ·rw[←e1];exact a1
    ·rw[←e1];exact b3 (by omega) j hj
theorem Md:∀(O:List (List Iv)) (n:Int),n≤g0k O n∧(∀k,n≤k→(∀l∈O,¬M l k)→g0k O n≤k)∧(g0k O n=n→∀l∈O,¬M l n)
 |[],n=>⟨yI _,fun k h _=>h,fun _ l h=>by cases h⟩
 |l::O,n=>by
  rw[g0k];obtain⟨h1,h2,h3⟩:=Kq l n;obtain⟨i1,i2,i3⟩:=Md O (Mq l n);refine⟨by omega,fun k hk hm=>i2 k (h2 k hk (hm l (by simp))) fun j hj=>hm j (by simp[hj]),fun e j hj=> ?_⟩;have e1:Mq l n=n:=by omega
  rcases zT.1 hj with rfl|hj
  ·exact h3 e1
  ·have:=i3 (by rw[e,e1]) j hj;rw[e1]at this;exact this
def x1n(I O:List (List Iv))(n:Int):Option Int:=match u06 I n with|some m=>some (g0k O m)|none=>none
def Fo(I O:List (List Iv))(k:Int):Prop:=(∀l∈I,M l k)∧∀l∈O,¬M l k
theorem d04(I O:List (List Iv))(n:Int)(h:∀l∈I,Sep l):match x1n I O n with|some m=>n≤m∧(∀k,n≤k→Fo I O k→m≤k)∧(m=n→Fo I O n)|none=>∀k,n≤k→¬Fo I O k:=by
 have h1:=q0e I n h;unfold x1n;cases hc:u06 I n with
 |none=>rw[hc]at h1;exact fun k hk hg=>h1 k hk hg.1
 |some m=>
  rw[hc]at h1;obtain⟨a1,a2,a3⟩:=h1;obtain⟨b1,b2,b3⟩:=Md O m;refine⟨by omega,fun k hk hg=>b2 k (a2 k hk hg.1) hg.2,fun e=> ?_⟩;have e1:m=n:=by omega
  refine⟨a3 e1,?_⟩;have:=b3 (by omega);rw[e1]at this;exact this
def Ar(t:Nat)(ps:List Prd):List (List Iv):=ps.map fun p=>p.getD t []
structure FitP (T:Nat) (ins outs:List Prd) (P:Prd):Prop where
 wf:PWf T P
 mem:∀t n,PM P t n↔t<T∧inR n∧(∀p∈ins,PM p t n)∧∀p∈outs,¬PM p t n
theorem Zl{ins outs:List Prd}{t:Nat}{n:Int}:Fo (Ar t ins) (Ar t outs) n↔(∀p∈ins,PM p t n)∧∀p∈outs,¬PM p t n:=by
 unfold Fo Ar;constructor
 ·rintro⟨h1,h2⟩;exact⟨fun p hp=>Kk.2 (h1 _ (zK.2 ⟨p,hp,rfl⟩)),fun p hp hm=>h2 _ (zK.2 ⟨p,hp,rfl⟩) (Kk.1 hm)⟩
 ·rintro⟨h1,h2⟩;refine⟨fun l hl=> ?_,fun l hl hm=> ?_⟩
  ·obtain⟨p,hp,rfl⟩:=zK.1 hl;exact Kk.1 (h1 p hp)
  ·obtain⟨p,hp,rfl⟩:=zK.1 hl;exact h2 p hp (Kk.2 hm)
def Zw(P:Prd):Option Sy:=if Wk P then none else some (Qn P)
theorem FitP.some{T:Nat}{ins outs:List Prd}{P:Prd}(h:FitP T ins outs P){t:Nat}{n:Int}(ht:t<T)(hb:∀t',t'<t→∀k,¬PM P t' k)(hn:inR n)(hg:Fo (Ar t ins) (Ar t outs) n)(hl:∀k,inR k→Fo (Ar t ins) (Ar t outs) k→n≤k):Zw P= .some ⟨t,n⟩:=by
 have hm:PM P t n:=(h.mem t n).2 ⟨ht,hn,Zl.1 hg⟩;obtain⟨g1,g2,g3⟩:=Gn h.wf ⟨t,n,hm⟩;unfold Zw;rw[if_neg (by rw[(Nk h.wf).2 ⟨t,n,hm⟩];simp)]
 congr 1
 rcases g3 ⟨t,n⟩ ⟨by simp,by simpa using ht,hn⟩ (by simpa using hm)with e|e
 ·exact e
 ·exfalso;have k:=(h.mem _ _).1 g2;rcases e with e|⟨e1,e2⟩
  ·simp only at e;exact hb _ (by have:=g1.1;omega) _ g2
  ·simp only at e1 e2;have e3:(Qn P).ty.toNat=t:=by omega
   rw[e3]at k;have:=hl _ k.2.1 (Zl.2 k.2.2);omega
theorem FitP.none{T:Nat}{ins outs:List Prd}{P:Prd}(h:FitP T ins outs P)(hb:∀t',t'<T→∀k,¬PM P t' k):Zw P= .none:=by unfold Zw;rw[if_pos ((E3 h.wf).2 fun t n hm=>hb t (h.wf.lt hm).1 n hm)]
theorem FitP.no{T:Nat}{ins outs:List Prd}{P:Prd}(h:FitP T ins outs P){t:Nat}(hb:∀k,inR k→¬Fo (Ar t ins) (Ar t outs) k)(k:Int):¬PM P t k:=fun hm=>by have:=(h.mem t k).1 hm;exact hb k this.2.1 (Zl.2 this.2.2)
end Go.Abs
namespace Go.Abs
def Jt:Option Mv→List Prd
 |some m=>[m.on]
 |none=>[]
def Am(a:Aut)(s:Int):Option Mv→List Prd
 |some _=>[]
 |none=>(mvS a s).map (·.on)
theorem Nr{a:Aut}(h:OkA a){s:Int}{o:Option Mv}(ho:o∈Wi a s):FitP a.types.toNat (Jt o) (Am a s o) (Vs a s o):=by
 have hw:=Lo h ho;refine⟨hw,fun t n=> ?_⟩;cases o with
 |some m=>
  constructor
  ·intro hm;exact⟨(hw.lt hm).1,(hw.lt hm).2,fun p hp=>by rw[zI.1 hp];exact hm,fun p hp=>by cases hp⟩
  ·rintro⟨_,_,h1,_⟩;exact h1 m.on (zI.2 rfl)
 |none=>
  unfold Vs Am Jt;rw[D1 (G4 (Fj h s)),H9 (Fj h s)];constructor
  ·rintro⟨⟨h1,h2⟩,h3⟩;exact⟨h1,h2,fun p hp=>(by cases hp),fun p hp hm=>h3 ⟨p,hp,hm⟩⟩
  ·rintro⟨h1,h2,_,h3⟩;exact⟨⟨h1,h2⟩,fun⟨p,hp,hm⟩=>h3 p hp hm⟩
theorem u17{a b:Aut}(ha:OkA a)(hb:OkA b)(ht:b.types=a.types){s:Int×Int}{o r:Option Mv}(ho:o∈Wi a s.1)(hr:r∈Wi b s.2):FitP a.types.toNat (Jt o++Jt r) (Am a s.1 o++Am b s.2 r) (Na a b s o r):=by
 have f1:=Nr ha ho;have f2:=Nr hb hr;rw[ht]at f2;refine⟨Yk f1.wf f2.wf.1,fun t n=> ?_⟩;unfold Na;rw[Re f1.wf.1 f2.wf.1,f1.mem,f2.mem];constructor
 ·rintro⟨⟨h1,h2,h3,h4⟩,_,_,h5,h6⟩;exact⟨h1,h2,fun p hp=>(zO.1 hp).elim (h3 p) (h5 p),fun p hp=>(zO.1 hp).elim (h4 p) (h6 p)⟩
 ·rintro⟨h1,h2,h3,h4⟩;exact⟨⟨h1,h2,fun p hp=>h3 p (xB _ hp),fun p hp=>h4 p (xB _ hp)⟩,h1,h2,fun p hp=>h3 p (vA _ hp),fun p hp=>h4 p (vA _ hp)⟩
theorem q15(a b:Aut)(s:Int×Int)(o r:Option Mv):c0v a b s o r=(Zw (Na a b s o r)).map fun x=>(x,(Aq o,Aq r)):=by
 unfold c0v Zw;by_cases h:Wk (Na a b s o r)=true
 ·rw[if_pos h,if_pos h];rfl
 ·rw[if_neg h,if_neg h];rfl
def Cv(a:Aut)(s:Int):Bool:=(Zw (Vs a s none)).isSome
def Hs(a:Aut):Bool:=K8 a && (Wt a.fin.length).all fun s=> !Cv a s
theorem M7{a:Aut}(h:OkA a)(s:Int):Cv a s=false↔∀x,Ww a x→∃m∈mvS a s,Rc m.on x=true:=by
 have hw:=Lo h (s:=s) (Ue.2 (.inl rfl));unfold Cv Zw;constructor
 ·intro hl x hx;have hv:Wk (Vs a s none)=true:=by
   by_cases hv:Wk (Vs a s none)=true
   ·exact hv
   ·rw[if_neg hv]at hl;cases hl
  have h1:=(E3 hw).1 hv x.ty.toNat x.num;have h2:¬ ∀m∈mvS a s,Rc m.on x=false:=fun k=>h1 ((U9 h s hx).2 k);simpa using h2
 ·intro z1;rw[if_pos]
  ·rfl
  ·refine(E3 hw).2 fun t n hm=> ?_;have z6:=hw.lt hm;have hx:Ww a ⟨t,n⟩:=Ih.1 ⟨by simp,by simpa using z6.1,z6.2⟩;obtain⟨m,h1,h2⟩:=z1 _ hx;have:=(U9 h s hx).1 (by unfold x0m;simpa using hm) m h1;rw[h2]at this;cases this
theorem j0z{a:Aut}(h:OkA a):Hs a=true↔Dfa a:=by
 unfold Hs;rw[Bool.and_eq_true,zP];constructor
 ·rintro⟨h1,h2⟩;refine⟨h,(Nh h.wfA).1 h1,fun s s0 s1 x hx=> ?_⟩;obtain⟨m,k1,k2⟩:=(M7 h s).1 (by have:=h2 s (Wz.2 ⟨s0,s1⟩);simpa using this) x hx;exact⟨m,(Ri.1 k1).1,(Ri.1 k1).2,k2⟩
 ·intro hd;refine⟨(Nh h.wfA).2 hd.det,fun s hs=> ?_⟩;have hs:=Wz.1 hs;have:=(M7 h s).2 fun x hx=>by obtain⟨m,k1,k2,k3⟩:=hd.full s hs.1 hs.2 x hx;exact⟨m,Ri.2 ⟨k1,k2⟩,k3⟩
  rw[this];rfl
theorem w0m(a b:Aut):E5 a b=if Es a b≠0 then Es a b else if Hs a=false∨Hs b=false then 3 else 0:=by
 unfold E5;by_cases h1:Es a b≠0
 ·rw[if_pos h1,if_pos h1]
 rw[if_neg h1,if_neg h1];obtain⟨ha,hb,_⟩:=Y7.1 (Decidable.not_not.1 h1);have e:∀ {c:Aut},OkA c→(Hs c=false↔Tl c≠0):=fun {c} hc=>by rw[←Bool.not_eq_true,j0z hc,←Ug]
 by_cases h2:Tl a≠0∨Tl b≠0
 ·rw[if_pos h2,if_pos (h2.imp (e ha).2 (e hb).2)]
 ·rw[if_neg h2,if_neg (fun k=>h2 (k.imp (e ha).1 (e hb).1))]
end Go.Abs
namespace Go.Abs
structure Vst where
 s:Int×Int
 fr:Nat
 on:Sy
 fst:Bool
structure VOk (V:List Vst) (L:List ((Int×Int)×List Sy)):Prop where
 len:V.length=L.length
 key:∀(i:Nat) (v:Vst) (e:(Int×Int)×List Sy),V[i]? =some v→L[i]? =some e→v.s=e.1
 way:∀(i:Nat) (v:Vst) (e:(Int×Int)×List Sy),V[i]? =some v→L[i]? =some e→(v.fst=true∧e.2=[])∨(v.fst=false∧v.fr<i∧∃e',L[v.fr]? =some e'∧e.2=e'.2++[v.on])
theorem VOk.start:VOk [⟨(0,0),0,⟨0,0⟩,true⟩] [((0,0),[])]:=by
 refine⟨rfl,fun i v e hv he=> ?_,fun i v e hv he=> ?_⟩
 ·have hi:i=0:=by have:=(zA.1 hv).1;simp at this;omega
  subst hi;simp at hv he;rw[←hv,←he]
 ·have hi:i=0:=by have:=(zA.1 hv).1;simp at this;omega
  subst hi;simp at hv he;rw[←hv,←he];exact .inl ⟨rfl,rfl⟩
theorem VOk.push{V:List Vst}{L:List ((Int×Int)×List Sy)}(h:VOk V L){n:Nat}{e:(Int×Int)×List Sy}(hn:L[n]? =some e)(t:Int×Int)(x:Sy):VOk (V++[⟨t,n,x,false⟩]) (L++[(t,e.2++[x])]):=by
 have z6:=(zA.1 hn).1;have hl:=h.len;refine⟨by simp[hl],fun i v d hv hd=> ?_,fun i v d hv hd=> ?_⟩
 ·by_cases hi:i<L.length
  ·rw[zE (by omega)]at hv hd;exact h.key i v d hv hd
  ·have z1:i=L.length:=by have:=(zA.1 hd).1;simp at this;omega
   rw[zC (by omega),z1]at hv hd;simp[hl]at hv hd;rw[←hv,←hd]
 ·by_cases hi:i<L.length
  ·rw[zE (by omega)]at hv hd;rcases h.way i v d hv hd with k|⟨k1,k2,e',k3,k4⟩
   ·exact .inl k
   ·exact .inr ⟨k1,k2,e',by rw[zE (by omega)];exact k3,k4⟩
  ·have z1:i=L.length:=by have:=(zA.1 hd).1;simp at this;omega
   rw[zC (by omega),z1]at hv hd;simp[hl]at hv hd;rw[←hv,←hd];exact .inr ⟨rfl,by simp;omega,e,by rw[zE z6];exact hn,rfl⟩
theorem VOk.pairs{V:List Vst}{L:List ((Int×Int)×List Sy)}(h:VOk V L):V.map (·.s)=L.map (·.1):=by
 refine List.ext_getElem (by simp[h.len]) fun i h1 h2=> ?_;have hl:i<L.length:=by simpa using h2
 have hv:i<V.length:=by rw[h.len];exact hl
 simp only[List.getElem_map];exact h.key i _ _ (zD hv) (zD hl)
structure DInv (a b:Aut) (L:List ((Int×Int)×List Sy)):Prop where
 nd:(L.map (·.1)).Nodup
 rng:∀e∈L,inD a e.1.1∧inD b e.1.2
theorem DInv.len{a b:Aut}{L:List ((Int×Int)×List Sy)}(h:DInv a b L):L.length≤(a.fin.length+1) * (b.fin.length+1):=by
 have e:L.length=(L.map (·.1)).length:=by rw[zV]
 rw[←Pm,e];refine Ys _ _ h.nd fun x hx=> ?_;obtain⟨e,he,rfl⟩:=zK.1 hx;exact Ps (h.rng e he).1 (h.rng e he).2
theorem DInv.add{a b:Aut}{L:List ((Int×Int)×List Sy)}(h:DInv a b L){t:Int×Int}{w:List Sy}(ht:inD a t.1∧inD b t.2)(hn:t∉L.map (·.1)):DInv a b (L++[(t,w)]):=by
 refine⟨?_,fun e he=> ?_⟩
 ·rw[yF,vP];refine⟨h.nd,by simp,fun x hx y hy e=> ?_⟩;simp only[yJ,xI,zI]at hy;exact hn (by rw[←hy,←e];exact hx)
 ·rcases zO.1 he with he|he
  ·exact h.rng e he
  ·rw[zI.1 he];exact ht
theorem DInv.start{a b:Aut}(ha:OkA a)(hb:OkA b):DInv a b [((0,0),[])]:=by have:=ha.fin;have:=hb.fin;exact⟨by simp,fun e he=>by rw[zI.1 he];exact⟨.inr ⟨yI _,by simp only;omega⟩,.inr ⟨yI _,by simp only;omega⟩⟩⟩
theorem u0r{a b:Aut}(ha:Dta a)(hb:Dta b)(ht:b.types=a.types){s:Int×Int}{e:Sy×(Int×Int)}(he:e∈Y1 a b s):inD a e.2.1∧inD b e.2.2:=by obtain⟨_,h2⟩:=(Ab ha hb ht s).mem e he;rw[h2];exact⟨Sw ha.ok _ _,Sw hb.ok _ _⟩
end Go.Abs
