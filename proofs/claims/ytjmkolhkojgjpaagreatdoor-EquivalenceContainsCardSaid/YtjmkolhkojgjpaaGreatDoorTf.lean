/- Part Tf of the proof: an abstract machine over the model, and what the functions of the program hand back in its terms. No condition. -/
import Derived.Test.YtjmkolhkojgjpaaGreatDoorTe
import Derived.Test.YtjmkolhkojgjpaaGreatDoorTc
import Derived.Test.YtjmkolhkojgjpaaGreatDoorTd
set_option linter.all false
open List renaming getElem?_eq_some_iff→zA,getElem?_set_self→zG,getElem?_set_ne→zB,getElem?_append_left→zD,getElem?_append_right→zE,range→yD,all_eq_false→vD,mem_range→yJ,all_eq_true→zM,getD→yP,getElem_mem→zH,getElem?_eq_getElem→zF,getElem_of_mem→yE,take→tq,findIdx?_eq_some_iff_getElem→xT,findIdx?_eq_none_iff→uh,any_eq_false→wJ,any_eq_true→wH,length_map→zY,take_succ_eq_append_getElem→zO,map_append→yU,take_zero→ws,length_take→xM,take_length→yF,replicate→zT,take_of_length_le→zS,flatMap_append→vZ,length_append→zX,mem_of_mem_take→yZ,replicate_succ→vR,ext_getElem→wK,take_append_drop→xK
open Nat renaming le_refl→zI,le_trans→yL
open Bool renaming eq_false_iff→wS,and_eq_true→zQ,eq_iff_iff→xE,or_eq_true→xU
open Int renaming le_refl→yI
set_option maxHeartbeats 4000000
set_option linter.unusedSimpArgs false
set_option maxRecDepth 100000
namespace Go.Abs
open Go Go.Proofs
structure GL (K G:List AObj) (S p:Nat) (pre post:List AV) (e sz:Nat) (xs:List AV):Prop where
 cell:G[S]? =some (.vars (pre++ .sl p sz 0 xs.length::post))
 arr:G[p]? =some (.arr e sz xs)
 ge:K.length≤p
 lt:S<K.length
 len:K.length≤G.length
 keep:∀j,j<K.length→j≠S→G[j]? =K[j]?
theorem GL.kp{K G:List AObj}{S p:Nat}{pre post:List AV}{e sz:Nat}{xs:List AV}(h:GL K G S p pre post e sz xs){j:Nat}{x:AObj}(hj:j≠S)(hx:K[j]? =some x):G[j]? =some x:=by rw[h.keep j (zA.1 hx).1 hj];exact hx
theorem GL.start{K:List AObj}{S:Nat}(pre post:List AV)(e sz:Nat)(h:S<K.length):GL K ((K++[AObj.arr e sz []]).set S (.vars (pre++ .sl K.length sz 0 0::post))) S K.length pre post e sz []:=
 ⟨zG (by simp;omega),by rw[zB (by omega)];simp,zI _,h,by simp,fun j hj z1=>by
  rw[zB (fun e=>z1 e.symm),zD hj]⟩
theorem GL.put{K G:List AObj}{S p:Nat}{pre post:List AV}{e sz:Nat}{xs:List AV}(h:GL K G S p pre post e sz xs)(A:AObj)(y:AV){n:Nat}(hn:n=xs.length):
  GL K ((G.set p .dead++[A,AObj.arr e sz (xs++[y])]).set S (.vars (pre++ .sl (G.length+1) sz 0 (n+1)::post))) S (G.length+1) pre post e sz (xs++[y]):=by
 have hl:=h.len;have z6:=h.lt;have z7:=h.ge;subst hn;refine⟨by rw[zG (by simp;omega)];simp,by rw[zB (by omega),zE (by simp)];simp,by omega,z6,by simp;omega,fun j hj z1=> ?_⟩;rw[zB (fun e=>z1 e.symm),zD (by simp;omega),zB (by omega)];exact h.keep j hj z1
theorem GL.at{K G:List AObj}{S p:Nat}{pre post:List AV}{e sz:Nat}{xs:List AV}(h:GL K G S p pre post e sz xs)(L:List AObj):(G.set p .dead++L)[S]? =some (.vars (pre++ .sl p sz 0 xs.length::post)):=by have hl:=h.len;have z1:=h.lt;have z6:=h.ge;rw[zD (by simp;omega),zB (by omega)];exact h.cell
def upL(F:Nat→List Iv)(j:Nat):List AV:=(yD j).map fun i=>encL (F i)
theorem g0j(F:Nat→List Iv)(j:Nat):upL F (j+1)=upL F j++[encL (F j)]:=by simp[upL,List.range_succ]
theorem D3(F:Nat→List Iv)(j:Nat):(upL F j).length=j:=by simp[upL]
theorem y1v(F:Nat→List Iv)(n:Nat):upL F n=((yD n).map F).map encL:=by simp[upL]
theorem g0u(F:Nat→List Iv):upL F 0=[]:=rfl
attribute [local irreducible] upL
end Go.Abs
namespace Go.Abs
open Go Go.Proofs
theorem c1d{T:Nat}{p:Prd}(h:PWf T p){s:List Iv}(hs:s∈p):∀x∈s,Ge x:=y0d (h.2 s hs).1 (h.2 s hs).2
attribute [local irreducible] D8 Rm
theorem D5:∀(p:Prd) (i:Nat),(∃s∈p,s≠[])→∃t x r,p[t]? =some (x::r)∧Qz p i=(i+t,x.lo)∧∀j,j<t→p[j]? =some []
 |[],i,h=>by obtain⟨s,hs,_⟩:=h;cases hs
 |[]::p,i,h=>by
  obtain⟨t,x,r,h1,h2,h3⟩:=D5 p (i+1) (by obtain⟨s,hs,hn⟩:=h;rcases List.mem_cons.1 hs with rfl|hs;exact absurd rfl hn;exact⟨s,hs,hn⟩);refine⟨t+1,x,r,by simpa using h1,by rw[Qz,h2];congr 1;omega,fun j hj=> ?_⟩;cases j with
  |zero=>rfl
  |succ j=>simpa using h3 j (by omega)
 |(x::r)::p,i,_=>⟨0,x,r,rfl,by simp[Qz],fun j hj=>by omega⟩
end Go.Abs
namespace Go.Abs
open Go Go.Proofs
attribute [local irreducible] D8 Rm upL Yv
end Go.Abs
namespace Go.Abs
open Go Go.Proofs
attribute [local irreducible] Se
def z0i(a:Aut)(i k:Nat):Bool:=decide ((a.mv.getD i default).src=(a.mv.getD k default).src) && z0m (a.mv.getD i default).on (a.mv.getD k default).on
theorem k0b{a:Aut}{i k:Nat}(hi:i<a.mv.length)(hk:k<i)(h:z0i a i k=true):Lp a=false:=by unfold Lp;rw[vD];refine⟨i,yJ.2 hi,?_⟩;rw[Bool.not_eq_true,vD];exact⟨k,yJ.2 hk,by unfold z0i at h;rw[h];simp⟩
theorem g0s{a:Aut}(h:∀i,i<a.mv.length→∀k,k<i→z0i a i k=false):Lp a=true:=by unfold Lp;rw[zM];intro i hi;rw[zM];intro k hk;have:=h i (yJ.1 hi) k (yJ.1 hk);unfold z0i at this;rw[this];rfl
theorem c09{a:Aut}{i k:Nat}(hi:i<a.mv.length)(hk:k<a.mv.length):z0i a i k=(decide (a.mv[i].src=a.mv[k].src) && z0m a.mv[i].on a.mv[k].on):=by simp[z0i,yP,hi,hk]
theorem q1h{a:Aut}(h:OkA a){m:Mv}(hm:m∈a.mv):∀s∈m.on,s.length≤256:=fun s hs=>((h.mv m hm).on.2 s hs).len
attribute [local irreducible] z0i z0m Ez W2
def q1w(a:Aut):Bool×Int:=if We a=0 then(Lp a,0)else(false,We a)
end Go.Abs
namespace Go.Abs
open Go Go.Proofs
def ovl(x y:Iv):Bool:=decide (x.lo≤y.hi) && decide (y.lo≤x.hi)
def noC(p q:Prd)(i:Nat):Prop:=∀x∈p.getD i [],∀y∈q.getD i [],ovl x y=false
theorem y08{T:Nat}{p q:Prd}(hp:PWf T p)(hq:PWf T q)(h:∀i,i<p.length→noC p q i):z0m p q=false:=by rw[wS,Ne,Kz hp hq];rintro⟨t,n,⟨s,hs,x,hx,h1,h2⟩,⟨s',z1,y,hy,h3,h4⟩⟩;have ht:=(zA.1 hs).1;have:=h t ht x (by rw[yP,hs];exact hx) y (by rw[yP,z1];exact hy);simp only[ovl,Bool.and_eq_false_iff,decide_eq_false_iff_not]at this;omega
theorem g0r{T:Nat}{p q:Prd}(hp:PWf T p)(hq:PWf T q){i:Nat}(hi:i<p.length)(z1:i<q.length){x y:Iv}(hx:x∈p[i])(hy:y∈q[i])(h:ovl x y=true):z0m p q=true:=by
 rw[Kz hp hq];simp only[ovl,zQ,decide_eq_true_eq]at h;have h1:=(hp.2 _ (zH hi)).1.1 x hx;have h2:=(hq.2 _ (zH z1)).1.1 y hy;by_cases hl:x.lo≤y.lo
 ·exact⟨i,y.lo,⟨p[i],zF hi,x,hx,hl,h.2⟩,⟨q[i],zF z1,y,hy,yI _,h2⟩⟩
 ·exact⟨i,x.lo,⟨p[i],zF hi,x,hx,yI _,h1⟩,⟨q[i],zF z1,y,hy,by omega,h.1⟩⟩
attribute [local irreducible] z0m
theorem u0o(T:Nat)(p q:Prd)(hp:PWf T p)(hq:PWf T q)(zj:∀s∈p,s.length≤1000000000)(zk:∀s∈q,s.length≤1000000000)(hT:T≤1000):PC Tryz.prog 136 [encP p,encP q] (fun r=>r= .bool (z0m p q)):=by
 refine Qh tOk Tryz.func136 rfl Tryz.results136 rfl (by simp[Tryz.ntmps136]) ?_;rw[Tryz.ntmps136];simp only[Qe];simp only[encP];have hlen:=hp.1;have zg:=hq.1;repeat first|(refine r_ ?_;simp)|refine q_ ?_
 refine Qv p.length (fun i=>∀i',i'<i→noC p q i') (fun i=>[(3,.vptr 1 0),(12,.list (p.map encL)),(13,.i p.length),(14,.i i)]) (fun _=>[.vars [.list (p.map encL)],.vars [.list (q.map encL)]]) rfl (by simp) (by simp) (by simp) (by simp) (by simp) ?_;intro i hi hI ih;repeat first|(refine r_ ?_;simp)|refine q_ ?_
 refine Qa rfl (fun zl=> ?_) (fun zm=> ?_)
 ·have z1:i<p.length:=by simpa using zl
  have z6:i<q.length:=by omega
  have hw:IntKind.i64.wrap ((i:Int)+1)=i+1:=wrap_i64 _ (by omega) (by omega);have zx:=zj _ (zH z1);have zy:=zk _ (zH z6);repeat first|(refine r_ ?_;simp[z1])|refine q_ ?_
  refine Qv p[i].length (fun u=>∀u',u'<u→∀h:u'<p[i].length,∀y∈q[i],ovl p[i][u'] y=false) (fun u=>[(3,.vptr 1 0),(5,.i i),(12,.list (p.map encL)),(13,.i p.length),(14,.i i),(19,LIv p[i]),(20,.i p[i].length),(21,.i u)]) (fun _=>[.vars [.list (p.map encL)],.vars [.list (q.map encL)]]) rfl (by simp) (by simp) (by simp) (by simp) (by simp) ?_;intro u hu zh zn;repeat first|(refine r_ ?_;simp)|refine q_ ?_
  refine Qa rfl (fun z7=> ?_) (fun z8=> ?_)
  ·have za:u<p[i].length:=by simpa using z7
   have zo:IntKind.i64.wrap ((u:Int)+1)=u+1:=wrap_i64 _ (by omega) (by omega);repeat first|(refine r_ ?_;simp[za,z6])|refine q_ ?_
   refine Qv q[i].length (fun v=>∀v',v'<v→∀h:v'<q[i].length,ovl p[i][u] q[i][v']=false) (fun v=>[(3,.vptr 1 0),(5,.i i),(8,.vptr 2 0),(12,.list (p.map encL)),(13,.i p.length),(14,.i i),(19,LIv p[i]),(20,.i p[i].length),(21,.i u),(29,LIv q[i]),(30,.i q[i].length),(31,.i v)]) (fun _=>[.vars [.list (p.map encL)],.vars [.list (q.map encL)],.vars [.i p[i][u].lo,.i p[i][u].hi]]) rfl (by simp) (by simp) (by simp) (by simp) (by simp) ?_;intro v hv zi zp;repeat first|(refine r_ ?_;simp)|refine q_ ?_
   refine Qa rfl (fun zb=> ?_) (fun zc=> ?_)
   ·have zd:v<q[i].length:=by simpa using zb
    have zq:IntKind.i64.wrap ((v:Int)+1)=v+1:=wrap_i64 _ (by omega) (by omega);repeat first|(refine r_ ?_;simp[zd])|refine q_ ?_
    refine Qa rfl (fun h=> ?_) (fun h=> ?_)
    ·repeat first|(refine r_ ?_;simp)|refine q_ ?_
     rw[g0r hp hq z1 z6 (zH za) (zH zd) (by simpa[ovl]using h)]
    ·repeat first|(refine r_ ?_;simp[zq])|refine q_ ?_
     refine Qs _ (zp zd (fun v' ze zr=> ?_)) rfl (by simp) ?_ (by simp) (by simp)
     ·by_cases e:v'=v
      ·subst e;simpa[ovl]using h
      ·exact zi v' (by omega) zr
     ·simp
   ·have zt:v=q[i].length:=by simp at zc;omega
    subst zt;repeat first|(refine r_ ?_;simp[zo])|refine q_ ?_
    refine Qs _ (zn za (fun u' zf zu y hy=> ?_)) rfl (by simp) ?_ (by simp) (by simp)
    ·by_cases e:u'=u
     ·subst e;obtain⟨v',ze,rfl⟩:=yE hy;exact zi v' ze ze
     ·exact zh u' (by omega) zu y hy
    ·simp
  ·have zv:u=p[i].length:=by simp at z8;omega
   subst zv;repeat first|(refine r_ ?_;simp[hw])|refine q_ ?_
   refine Qs _ (ih z1 (fun i' zz=> ?_)) rfl (by simp) ?_ (by simp) (by simp)
   ·by_cases e:i'=i
    ·subst e;intro x hx y hy;rw[W1 z1]at hx;rw[W1 z6]at hy;obtain⟨u',zf,rfl⟩:=yE hx;exact zh u' zf zf y hy
    ·exact hI i' (by omega)
   ·simp
 ·have zw:i=p.length:=by simp at zm;omega
  subst zw;repeat first|(refine r_ ?_;simp)|refine q_ ?_
  rw[y08 hp hq hI]
attribute [local irreducible] z0i
theorem j1i(a:Aut):PC Tryz.prog 73 [encA a] (fun r=>r= .tup [.bool (q1w a).1,.i (q1w a).2]):=by
 refine Qh tOk Tryz.func73 rfl Tryz.results73 rfl (by simp[Tryz.ntmps73]) ?_;rw[Tryz.ntmps73];simp only[Qe];simp only[encA];repeat first|(refine r_ ?_;simp)|refine q_ ?_
 refine Qc rfl rfl (by simp) (Ie a) rfl ?_;rintro _ rfl;simp;repeat first|(refine r_ ?_;simp)|refine q_ ?_
 refine Qa rfl (fun h=> ?_) (fun h=> ?_)
 ·repeat first|(refine r_ ?_;simp)|refine q_ ?_
  rw[q1w,if_neg (by simpa using h)];exact⟨rfl,rfl⟩
 have h0:We a=0:=by simpa using h
 have z8:=(I3 a).1 h0;have zt:=z8.mvs;rw[q1w,if_pos h0];repeat first|(refine r_ ?_;simp)|refine q_ ?_
 refine Qv a.mv.length (fun j=>∀i,i<j→∀k,k<i→z0i a i k=false) (fun j=>[(1,.vptr 0 0),(15,.list (a.mv.map encMv)),(16,.i a.mv.length),(17,.i j)]) (fun _=>[.vars (Qo a)]) rfl (by simp) (by simp) (by simp) (by simp) (by simp) ?_;intro j hj hI ih;repeat first|(refine r_ ?_;simp)|refine q_ ?_
 refine Qa rfl (fun zq=> ?_) (fun zr=> ?_)
 ·have z1:j<a.mv.length:=by simpa using zq
  have hw:IntKind.i64.wrap ((j:Int)+1)=j+1:=wrap_i64 _ (by omega) (by omega);have ze:j≤a.mv.length:=hj;have z7:min j a.mv.length=j:=by omega
  repeat first|(refine r_ ?_;simp[z1,ze,z7])|refine q_ ?_
  refine Qv j (fun k=>∀k',k'<k→z0i a j k'=false) (fun k=>[(1,.vptr 0 0),(6,.vptr 1 0),(15,.list (a.mv.map encMv)),(16,.i a.mv.length),(17,.i j),(25,.list (tq j (a.mv.map encMv))),(26,.i j),(27,.i k)]) (fun _=>[.vars (Qo a),.vars [.i a.mv[j].src,.i a.mv[j].dst,.list (a.mv[j].on.map encL)]]) rfl (by simp) (by simp) (by simp) (by simp) (by simp) ?_;intro k hk zj zk;repeat first|(refine r_ ?_;simp)|refine q_ ?_
  refine Qa rfl (fun zf=> ?_) (fun zg=> ?_)
  ·have za:k<j:=by simpa using zf
   have zb:k<a.mv.length:=by omega
   have zl:IntKind.i64.wrap ((k:Int)+1)=k+1:=wrap_i64 _ (by omega) (by omega);have z6:=c09 (a:=a) z1 zb;have zm:z0i a j k=false→∀k',k'<k+1→z0i a j k'=false:=fun hb k' zh=>by
    by_cases e:k'=k
    ·rw[e];exact hb
    ·exact zj k' (by omega)
   have zn:(tq j (a.mv.map encMv))[k]? =some (encMv a.mv[k]):=by rw[List.getElem?_take_of_lt za];simp[zb]
   by_cases he:a.mv[j].src=a.mv[k].src
   ·rw[decide_eq_true he,Bool.true_and]at z6;have zc:(a.mv[j].src==a.mv[k].src)=true:=by simpa using he
    repeat first|(refine r_ ?_;simp[zn,za,zb,z7,zc])|refine q_ ?_
    have zo:=zH z1;have zp:=zH zb;refine Qc rfl rfl (by simp) (u0o a.types.toNat a.mv[j].on a.mv[k].on (z8.mv _ zo).on.wf (z8.mv _ zp).on.wf (fun s hs=>by have:=q1h z8 zo s hs;omega) (fun s hs=>by have:=q1h z8 zp s hs;omega) (by have:=z8.types;omega)) rfl ?_;rintro _ rfl;simp;repeat first|(refine r_ ?_;simp)|refine q_ ?_
    refine Qa rfl (fun h3=> ?_) (fun h3=> ?_)
    ·repeat first|(refine r_ ?_;simp)|refine q_ ?_
     rw[k0b z1 za (by rw[z6];simpa using h3)]
    ·repeat first|(refine r_ ?_;simp[zl])|refine q_ ?_
     refine Qs _ (zk za (zm (by rw[z6];simpa using h3))) rfl (by simp) ?_ (by simp) (by simp);simp
   ·rw[decide_eq_false he,Bool.false_and]at z6;have zc:(a.mv[j].src==a.mv[k].src)=false:=beq_eq_false_iff_ne.2 he;repeat first|(refine r_ ?_;simp[zn,za,zb,z7,zc])|refine q_ ?_
    refine Wk rfl rfl ?_;simp[zc];repeat first|(refine r_ ?_;simp[zc])|refine q_ ?_
    refine Q7 rfl ?_;repeat first|(refine r_ ?_;simp[zl])|refine q_ ?_
    refine Qs _ (zk za (zm z6)) rfl (by simp) ?_ (by simp) (by simp);simp
  ·have zd:k=j:=by simp at zg;omega
   subst zd;repeat first|(refine r_ ?_;simp[hw])|refine q_ ?_
   refine Qs _ (ih z1 (fun i hi k' zh=> ?_)) rfl (by simp) ?_ (by simp) (by simp)
   ·by_cases e:i=k
    ·subst e;exact zj k' zh
    ·exact hI i (by omega) k' zh
   ·simp
 ·have zi:j=a.mv.length:=by simp at zr;omega
  subst zi;repeat first|(refine r_ ?_;simp)|refine q_ ?_
  rw[g0s hI]
end Go.Abs
namespace Go.Abs
open Go Go.Proofs
abbrev LI (l:List Int):AV:= .list (l.map (AV.int .i64))
def x0z{α:Type}(f:α→Bool)(l:List α):Int:=match l.findIdx? f with|some i=>i|none=> -1
theorem C6{α:Type}{f:α→Bool}{l:List α}{j:Nat}(hj:j<l.length)(h:f l[j]=true)(hb:∀i,∀hi:i<l.length,i<j→f l[i]=false):x0z f l=j:=by unfold x0z;rw[xT.2 ⟨hj,h,fun i hi=>by rw[hb i (by omega) hi];simp⟩]
theorem Jr{α:Type}{f:α→Bool}{l:List α}(hb:∀i,∀hi:i<l.length,i<l.length→f l[i]=false):x0z f l= -1:=by unfold x0z;rw[uh.2 (fun x hx=>by obtain⟨i,hi,rfl⟩:=yE hx;exact hb i hi hi)]
theorem y03{α:Type}(f:α→Bool)(l:List α):decide (0≤x0z f l)=l.any f:=by
 unfold x0z;cases h:l.findIdx? f with
 |none=>
  rw[uh]at h;have:l.any f=false:=by rw[wJ];intro x hx;rw[h x hx];simp
  rw[this];rfl
 |some i=>obtain⟨h1,h2,_⟩:=xT.1 h;have:l.any f=true:=wH.2 ⟨_,zH h1,h2⟩;rw[this];simp
theorem g0b(l:List Int)(v:Int):PC Tryz.prog 118 [LI l,.i v] (fun r=>r= .i (x0z (fun y=>v==y) l)):=by
 refine Qh tOk Tryz.func118 rfl Tryz.results118 rfl (by simp[Tryz.ntmps118]) ?_;rw[Tryz.ntmps118];simp only[Qe];refine Tt 0 rfl (fun hlen=> ?_);rw[zY]at hlen;repeat first|(refine r_ ?_;simp)|refine q_ ?_
 refine Qv l.length (fun j=>∀i,∀hi:i<l.length,i<j→(v==l[i])=false) (fun j=>[(0,LI l),(1,.i v),(7,.i l.length),(8,.i j)]) (fun _=>[]) rfl (by simp) (by simp) (by simp) (by simp) (by simp) ?_;intro j hj hI ih;repeat first|(refine r_ ?_;simp)|refine q_ ?_
 refine Qa rfl (fun z7=> ?_) (fun z8=> ?_)
 ·have z1:j<l.length:=by simpa using z7
  have hw:IntKind.i64.wrap ((j:Int)+1)=j+1:=wrap_i64 _ (by omega) (by omega);repeat first|(refine r_ ?_;simp[z1])|refine q_ ?_
  refine Qa rfl (fun h=> ?_) (fun h=> ?_)
  ·repeat first|(refine r_ ?_;simp)|refine q_ ?_
   rw[C6 (f:=fun y=>v==y) z1 h hI]
  ·repeat first|(refine r_ ?_;simp[hw])|refine q_ ?_
   refine Qs _ (ih z1 (fun i hi za=> ?_)) rfl (by simp) ?_ (by simp) (by simp)
   ·by_cases e:i=j
    ·subst e;exact h
    ·exact hI i hi (by omega)
   ·simp
 ·have z6:j=l.length:=by simp at z8;omega
  subst z6;repeat first|(refine r_ ?_;simp)|refine q_ ?_
  rw[Jr (f:=fun y=>v==y) hI]
theorem A5(l:List Int)(v:Int):PC Tryz.prog 169 [LI l,.i v] (fun r=>r= .bool (l.contains v)):=by
 refine Qh tOk Tryz.func169 rfl Tryz.results169 rfl (by simp[Tryz.ntmps169]) ?_;rw[Tryz.ntmps169];simp only[Qe];repeat first|(refine r_ ?_;simp)|refine q_ ?_
 refine Qc rfl rfl (by simp) (g0b l v) rfl ?_;rintro _ rfl;simp;repeat first|(refine r_ ?_;simp)|refine q_ ?_
 have:=y03 (fun y=>v==y) l;rw[xE]at this;simpa using this
structure SL (K G:List AObj) (p e sz:Nat) (xs:List AV):Prop where
 arr:G[p]? =some (.arr e sz xs)
 ge:K.length≤p
 keep:∀j,j<K.length→G[j]? =K[j]?
theorem SL.kp{K G:List AObj}{p e sz:Nat}{xs:List AV}(h:SL K G p e sz xs){j:Nat}{x:AObj}(hx:K[j]? =some x):G[j]? =some x:=by rw[h.keep j (zA.1 hx).1];exact hx
theorem SL.start(K:List AObj)(e sz:Nat):SL K (K++[AObj.arr e sz []]) K.length e sz []:=
 ⟨by simp,zI _,fun j hj=>zD hj⟩
theorem SL.add{K G:List AObj}{p e sz:Nat}{xs:List AV}(h:SL K G p e sz xs)(L:List AObj):SL K (G++L) p e sz xs:=
 ⟨by rw[zD (zA.1 h.arr).1];exact h.arr,h.ge,fun j hj=>by
  rw[zD (by have:=(zA.1 h.arr).1;have:=h.ge;omega)];exact h.keep j hj⟩
theorem SL.put{K G:List AObj}{p e sz:Nat}{xs:List AV}(h:SL K G p e sz xs)(L:List AObj)(ys:List AV){n:Nat}(hn:n=G.length+L.length):SL K (G.set p .dead++(L++[AObj.arr e sz ys])) n e sz ys:=by have hp:=(zA.1 h.arr).1;have z1:=h.ge;subst hn;refine⟨by rw[zE (by simp),zE (by simp)];simp,by omega,fun j hj=> ?_⟩;rw[zD (by simp;omega),zB (by omega)];exact h.keep j hj
theorem SL.at'{K G:List AObj}{p e sz:Nat}{xs:List AV}(h:SL K G p e sz xs){j:Nat}{x:AObj}(hx:K[j]? =some x)(L:List AObj):(G++L)[j]? =some x:=(h.add L).kp hx
def d0d(l:List Int)(x:Sy)(m:Mv):Bool:=l.contains m.src && Rj m.on x
def Ln(l:List Int)(x:Sy)(ms:List Mv):List Int:=(ms.filter (d0d l x)).map (·.dst)
theorem u02(l:List Int)(x:Sy)(ms:List Mv)(j:Nat)(h:j<ms.length):Ln l x (ms.take (j+1))=Ln l x (ms.take j)++(if d0d l x ms[j]then [ms[j].dst]else []):=by unfold Ln;rw[zO h,List.filter_append,yU];cases h:d0d l x ms[j]<;>simp[h]
theorem Nq(l:List Int)(x:Sy)(ms:List Mv):(Ln l x ms).length≤ms.length:=by unfold Ln;rw[zY];exact List.length_filter_le _ _
theorem d0f(a:Aut)(l:List Int)(x:Sy):Lib.compact (Rk (Ln l x a.mv))=y1t a l x:=rfl
theorem c0s(l:List Int)(x:Sy):Ln l x []=[]:=rfl
attribute [local irreducible] Ln Lj Rk Lib.compact
theorem L3(a:Aut)(ha:OkA a)(l:List Int)(x:Sy)(hx:Wj a x):PC Tryz.prog 108 [encA a,LI l,encSy x] (fun r=>r=LI (Qu a l x)):=by
 refine Qh tOk Tryz.func108 rfl Tryz.results108 rfl (by simp[Tryz.ntmps108]) ?_;rw[Tryz.ntmps108];simp only[Qe];simp only[encA,encSy];have zh:=ha.mvs;have hF:∀m∈a.mv,Lj m.on x=(Rj m.on x,0):=fun m hm=>by rw[C1 ((W7 a.types m.on).2 ⟨ha.types,(ha.mv m hm).on⟩),if_neg (fun k=>k ((O3 _ _).2 hx))]
 repeat first|(refine r_ ?_;simp)|refine q_ ?_
 refine Wm 7 3 1 rfl ?_;simp;refine Ql (Qb (sl':=[(1,LI l),(3,.vptr 0 0),(5,.vptr 1 0),(7,.sl 2 1 0 (Ln l x (a.mv.take 0)).length),(11,.list (a.mv.map encMv)),(12,.i a.mv.length),(13,.i 0)]) ?_ (by simp[Ln]));obtain⟨K,hK⟩:∃K,K=[AObj.vars (Qo a),AObj.vars [AV.i x.ty,AV.i x.num]]:=⟨_,rfl⟩
 have z8:K[1]? =some (AObj.vars [AV.i x.ty,AV.i x.num]):=by rw[hK];rfl
 have hst:=SL.start K 3 1;refine Qn (F:=fun(u:Nat×Nat×List AObj)=>⟨[(1,LI l),(3,.vptr 0 0),(5,.vptr 1 0),(7,.sl u.2.1 1 0 (Ln l x (a.mv.take u.1)).length),(11,.list (a.mv.map encMv)),(12,.i a.mv.length),(13,.i u.1)],u.2.2⟩)
  (fun u=>u.1≤a.mv.length∧SL K u.2.2 u.2.1 3 1 ((Ln l x (a.mv.take u.1)).map (AV.int .i64))) (fun u=>a.mv.length - u.1) ?_ (0,2,_) ⟨by simp,by rw[ws,c0s];rw[hK]at hst ⊢;exact hst⟩
 rintro⟨j,q,H2⟩ ⟨hj,g⟩ ih;simp only at hj g ih ⊢;have g1:=g.kp z8;repeat first|(refine r_ ?_;simp)|refine q_ ?_
 refine Qa rfl (fun zb=> ?_) (fun zc=> ?_)
 ·have z1:j<a.mv.length:=by simpa using zb
  have hw:IntKind.i64.wrap ((j:Int)+1)=j+1:=wrap_i64 _ (by omega) (by omega);have zd:=u02 l x a.mv j z1;have za:=Nq l x (a.mv.take j);rw[xM]at za;have ze:=hF _ (zH z1);have z6:=fun q' H'=>ih (j+1,q',H');simp only[zd]at z6;generalize Ln l x (a.mv.take j)=acc at *
  have gL:=fun L=>g.at' z8 L;repeat first|(refine r_ ?_;simp[z1])|refine q_ ?_
  by_cases hb:a.mv[j].src∈l
  ·have zf:l.contains a.mv[j].src=true:=by simpa using hb
   refine Qc rfl rfl (by simp) (A5 l a.mv[j].src) rfl ?_;rintro _ rfl;simp[hb,gL];repeat first|(refine r_ ?_;simp[gL])|refine q_ ?_
   refine Qc rfl rfl (by simp) (w17 a.mv[j].on x) rfl ?_;rintro _ rfl;simp[ze];repeat first|(refine r_ ?_;simp)|refine q_ ?_
   cases hb2:Rj a.mv[j].on x with
   |false=>
    have hh:d0d l x a.mv[j]=false:=by rw[d0d,hb2];simp
    refine Q7 rfl ?_;simp[hb2];repeat first|(refine r_ ?_;simp[hw])|refine q_ ?_
    refine Qb (sl':=[(1,LI l),(3,.vptr 0 0),(5,.vptr 1 0),(7,.sl q 1 0 acc.length),(11,.list (a.mv.map encMv)),(12,.i a.mv.length),(13,.i (j+1:Nat))]) ?_ (by simp);have:=z6 q _ ⟨by omega,by rw[hh];simpa using g.add [AObj.vars [AV.i a.mv[j].src,AV.i a.mv[j].dst,AV.list (a.mv[j].on.map encL)]]⟩ (by omega);rw[hh]at this;simpa using this
   |true=>
    have hh:d0d l x a.mv[j]=true:=by rw[d0d,zf,hb2];rfl
    refine Q7 rfl ?_;simp[hb2];repeat first|(refine r_ ?_;simp)|refine q_ ?_
    refine Qm tOk rfl rfl T47 rfl T3 rfl (by decide) (by decide) rfl rfl rfl ?_;simp[Qd g.arr,Qr g.arr];refine⟨by simp[Rl,Qd g.arr,Qr g.arr]<;>omega,?_⟩;repeat first|(refine r_ ?_;simp[hw])|refine q_ ?_
    refine Qb (sl':=[(1,LI l),(3,.vptr 0 0),(5,.vptr 1 0),(7,.sl (H2.length+2) 1 0 (acc.length+1)),(11,.list (a.mv.map encMv)),(12,.i a.mv.length),(13,.i (j+1:Nat))]) ?_ (by simp);have:=z6 (H2.length+2) _ ⟨by omega,by rw[hh];exact g.put [AObj.vars [AV.i a.mv[j].src,AV.i a.mv[j].dst,AV.list (a.mv[j].on.map encL)],AObj.arr 3 1 [AV.i a.mv[j].dst]] _ rfl⟩ (by omega);rw[hh]at this;simpa using this
  ·have hh:d0d l x a.mv[j]=false:=by simp[d0d,hb]
   refine Qc rfl rfl (by simp) (A5 l a.mv[j].src) rfl ?_;rintro _ rfl;simp[hb,gL];refine Wk rfl rfl ?_;simp[hb];refine Q7 rfl ?_;repeat first|(refine r_ ?_;simp[hw])|refine q_ ?_
   refine Qb (sl':=[(1,LI l),(3,.vptr 0 0),(5,.vptr 1 0),(7,.sl q 1 0 acc.length),(11,.list (a.mv.map encMv)),(12,.i a.mv.length),(13,.i (j+1:Nat))]) ?_ (by simp);have:=z6 q _ ⟨by omega,by rw[hh];simpa using g.add [AObj.vars [AV.i a.mv[j].src,AV.i a.mv[j].dst,AV.list (a.mv[j].on.map encL)]]⟩ (by omega);rw[hh]at this;simpa using this
 ·have z7:j=a.mv.length:=by simp at zc;omega
  subst z7;rw[yF]at g ⊢;have za:=Nq l x a.mv;repeat first|(refine r_ ?_;simp)|refine q_ ?_
  refine Q9 rfl rfl (Jg H2 q (Ln l x a.mv) g.arr (by omega)) rfl ?_;rintro r H' ⟨rfl,rfl⟩;simp;repeat first|(refine r_ ?_;simp)|refine q_ ?_
  have g2:=Qk g.arr (.arr 3 1 ((Rk (Ln l x a.mv)).map (AV.int .i64)));have zg:=O5 (Ln l x a.mv);rw[←zg];refine Q9 rfl rfl (O9 _ q (Rk (Ln l x a.mv)) g2 (by omega) (Ow _)) rfl ?_;rintro r H' ⟨rfl,G,rfl⟩;simp;have g3:=Qk g.arr (.arr 3 1 ((Lib.compact (Rk (Ln l x a.mv))++G).map (AV.int .i64)));rw[d0f,w1l (fun m hm=>(ha.mv m hm).dst)]at *
  repeat first|(refine r_ ?_;simp)|refine q_ ?_
  rw[yU]at g3;simp[g3]
end Go.Abs
namespace Go.Abs
open Go Go.Proofs
theorem k0h(H:List AObj)(l:List Int)(g:Nat)(cap:AV)(f:Int→Bool)(hl:l.length≤1000000000)(hg:∀z∈l,FC Tryz.prog g [.i z,cap] H (fun r H'=>r= .bool (f z)∧H'=H)):
  FC Tryz.prog 106 [LI l,.fn (.func g) [] [cap]] H (fun r H'=>r= .i (x0z f l)∧H'=H):=by
 refine W9 tOk Tryz.func106 rfl Tryz.results106 rfl (by simp[Tryz.ntmps106]) ?_;rw[Tryz.ntmps106];simp only[Qe];repeat first|(refine r_ ?_;simp)|refine q_ ?_
 refine Ql (Qb (sl':=[(0,LI l),(1,.fn (.func g) [] [cap]),(7,.i l.length),(8,.i 0)]) ?_ (by simp));refine Qn (F:=fun(j:Nat)=>⟨[(0,LI l),(1,.fn (.func g) [] [cap]),(7,.i l.length),(8,.i j)],H⟩)
  (fun j=>j≤l.length∧∀i,∀hi:i<l.length,i<j→f l[i]=false) (fun j=>l.length - j) ?_ 0 ⟨by simp,by simp⟩
 rintro j ⟨hj,hI⟩ ih;repeat first|(refine r_ ?_;simp)|refine q_ ?_
 refine Qa rfl (fun z7=> ?_) (fun z8=> ?_)
 ·have z1:j<l.length:=by simpa using z7
  have hw:IntKind.i64.wrap ((j:Int)+1)=j+1:=wrap_i64 _ (by omega) (by omega);repeat first|(refine r_ ?_;simp[z1])|refine q_ ?_
  refine Q9 rfl rfl (hg _ (zH z1)) rfl ?_;rintro r H' ⟨rfl,rfl⟩;simp;repeat first|(refine r_ ?_;simp)|refine q_ ?_
  refine Qa rfl (fun h=> ?_) (fun h=> ?_)
  ·repeat first|(refine r_ ?_;simp)|refine q_ ?_
   rw[C6 z1 h hI]
  ·repeat first|(refine r_ ?_;simp[hw])|refine q_ ?_
   refine Qb (sl':=[(0,LI l),(1,.fn (.func g) [] [cap]),(7,.i l.length),(8,.i (j+1:Nat))]) (ih (j+1) ⟨by omega,fun i hi za=> ?_⟩ (by omega)) (by simp);by_cases e:i=j
   ·subst e;exact h
   ·exact hI i hi (by omega)
 ·have z6:j=l.length:=by simp at z8;omega
  subst z6;repeat first|(refine r_ ?_;simp)|refine q_ ?_
  rw[Jr hI]
theorem Xf(H:List AObj)(l:List Int)(g:Nat)(cap:AV)(f:Int→Bool)(hl:l.length≤1000000000)(hg:∀z∈l,FC Tryz.prog g [.i z,cap] H (fun r H'=>r= .bool (f z)∧H'=H)):
  FC Tryz.prog 47 [LI l,.fn (.func g) [] [cap]] H (fun r H'=>r= .bool (l.any f)∧H'=H):=by
 refine W9 tOk Tryz.func47 rfl Tryz.results47 rfl (by simp[Tryz.ntmps47]) ?_;rw[Tryz.ntmps47];simp only[Qe];repeat first|(refine r_ ?_;simp)|refine q_ ?_
 refine Q9 rfl rfl (k0h H l g cap f hl hg) rfl ?_;rintro r H' ⟨rfl,rfl⟩;simp;repeat first|(refine r_ ?_;simp)|refine q_ ?_
 rw[←y03]
def q2s(a:Aut)(s:Int):Bool:=decide (s<0) || decide ((a.fin.length:Int)≤s)
attribute [local irreducible] q2s
end Go.Abs
namespace Go.Abs
open Go Go.Proofs
attribute [simp] T4
def j10(n:Nat)(f:Int→Bool):List AV:=(Wo n).map fun z=>AV.bool (f z)
attribute [local irreducible] j10
def f09(n:Nat)(f:Int→Bool):List Int:=(Wo n).filter f
attribute [local irreducible] f09
end Go.Abs
namespace Go.Abs
open Go Go.Proofs
def nxB(ms:List Mv)(f:Int→Bool)(x:Sy)(z:Int):Bool:=ms.any fun m=>f m.src && Rj m.on x && m.dst==z
attribute [local irreducible] Rj nxB
end Go.Abs
namespace Go.Abs
open Go Go.Proofs
attribute [local irreducible] nxB f09 Fc
attribute [local irreducible] Ew
end Go.Abs
namespace Go.Abs
open Go Go.Proofs
abbrev LLI (l:List (List Int)):AV:= .list (l.map fun x=>LI x)
end Go.Abs
namespace Go.Abs
open Go Go.Proofs
end Go.Abs
namespace Go.Abs
open Go Go.Proofs
def g1s(a:Aut)(s:Int)(j:Nat):Prd:=(x0n { a with mv:=a.mv.take j } s).foldl (fun r p=>Ez r (Ry p)) (Wg a.types.toNat)
attribute [local irreducible] g1s Ez Ry Wg W2
end Go.Abs
namespace Go.Abs
open Go Go.Proofs
attribute [local irreducible] q0c W2
end Go.Abs
namespace Go.Abs
open Go Go.Proofs
theorem w0i{p:Prd}{i:Nat}(h:i<p.length)(hv:¬(p[i].length≤12)):q1r p=false:=by rw[wS,Ne,J4];exact fun k=>hv (k.2 _ (zH h))
theorem d0u(p:Prd):PC Tryz.prog 78 [encP p] (fun r=>r= .bool (q1r p)):=by
 refine Qh tOk Tryz.func78 rfl Tryz.results78 rfl (by simp[Tryz.ntmps78]) ?_;rw[Tryz.ntmps78];simp only[Qe];simp only[encP];refine Wl 0 0 rfl rfl (fun hlen=> ?_);rw[zY]at hlen;repeat first|(refine r_ ?_;simp)|refine q_ ?_
 refine Qv p.length (fun j=>j≤5∧∀i,∀hi:i<p.length,i<j→p[i].length≤12) (fun j=>[(1,.vptr 0 0),(3,.i j)]) (fun _=>[.vars [.list (p.map encL)]]) rfl (by simp) (by simp) (by simp) (by simp) (by simp) ?_;rintro j hj ⟨za,hI⟩ ih;repeat first|(refine r_ ?_;simp)|refine q_ ?_
 refine Qa rfl (fun z6=> ?_) (fun z7=> ?_)
 ·have z1:j<p.length:=by simp at z6;omega
  have zb:j<5:=by simp at z6;omega
  have hw:IntKind.i64.wrap ((j:Int)+1)=j+1:=wrap_i64 _ (by omega) (by omega);repeat first|(refine r_ ?_;simp[z1])|refine q_ ?_
  refine Qc rfl rfl (by simp) (k1b p[j]) rfl ?_;rintro _ rfl;simp;repeat first|(refine r_ ?_;simp)|refine q_ ?_
  refine Qa rfl (fun he=> ?_) (fun he=> ?_)
  ·repeat first|(refine r_ ?_;simp)|refine q_ ?_
   rw[w0i z1 (by simp at he;omega)]
  ·repeat first|(refine r_ ?_;simp[hw])|refine q_ ?_
   refine Qs [] (ih z1 ⟨by omega,fun i hi zc=> ?_⟩) rfl (by simp) ?_ (by simp) (by simp)
   ·by_cases e:i=j
    ·subst e;simp at he;omega
    ·exact hI i hi (by omega)
   ·simp
 ·have z8:p.length≤j∨5≤j:=by simp at z7;omega
  repeat first|(refine r_ ?_;simp)|refine q_ ?_
  rw[xE,J4,decide_eq_true_eq];constructor
  ·intro h4;refine⟨by omega,fun s hs=> ?_⟩;obtain⟨i,hi,rfl⟩:=yE hs;exact hI i hi (by omega)
  ·intro h4;omega
end Go.Abs
namespace Go.Abs
open Go Go.Proofs
theorem Zx{a:Aut}:Ci a=true↔a.fin.length≤8∧a.mv.length≤16∧∀m∈a.mv,q1r m.on=true:=by simp only[Ci,zQ,decide_eq_true_eq,zM,and_assoc]
attribute [local irreducible] q1r
theorem k0w(a:Aut):PC Tryz.prog 27 [encA a] (fun r=>r= .bool (Ci a)):=by
 refine Qh tOk Tryz.func27 rfl Tryz.results27 rfl (by simp[Tryz.ntmps27]) ?_;rw[Tryz.ntmps27];simp only[Qe];simp only[encA];refine Wl 0 2 rfl rfl (fun hlen=> ?_);rw[zY]at hlen;repeat first|(refine r_ ?_;simp)|refine q_ ?_
 refine Qv a.mv.length (fun j=>j≤20∧∀i,∀hi:i<a.mv.length,i<j→q1r a.mv[i].on=true) (fun j=>[(1,.vptr 0 0),(3,.i j)]) (fun _=>[.vars (Qo a)]) rfl (by simp) (by simp) (by simp) (by simp) (by simp) ?_;rintro j hj ⟨za,hI⟩ ih;repeat first|(refine r_ ?_;simp)|refine q_ ?_
 refine Qa rfl (fun z6=> ?_) (fun z7=> ?_)
 ·have z1:j<a.mv.length:=by simp at z6;omega
  have zb:j<20:=by simp at z6;omega
  have hw:IntKind.i64.wrap ((j:Int)+1)=j+1:=wrap_i64 _ (by omega) (by omega);repeat first|(refine r_ ?_;simp[z1])|refine q_ ?_
  refine Qc rfl rfl (by simp) (d0u a.mv[j].on) rfl ?_;rintro _ rfl;simp;repeat first|(refine r_ ?_;simp)|refine q_ ?_
  refine Qa rfl (fun he=> ?_) (fun he=> ?_)
  ·repeat first|(refine r_ ?_;simp)|refine q_ ?_
   have:Ci a=false:=by rw[wS,Ne,Zx];intro k;have:=k.2.2 _ (zH z1);rw[this]at he;cases he
   rw[this]
  ·repeat first|(refine r_ ?_;simp[hw])|refine q_ ?_
   refine Qs [] (ih z1 ⟨by omega,fun i hi zc=> ?_⟩) rfl (by simp) ?_ (by simp) (by simp)
   ·by_cases e:i=j
    ·subst e;simpa using he
    ·exact hI i hi (by omega)
   ·simp
 ·have z8:a.mv.length≤j∨20≤j:=by simp at z7;omega
  repeat first|(refine r_ ?_;simp)|refine q_ ?_
  rw[xE,Zx];simp;constructor
  ·rintro⟨h4,h5⟩;refine⟨by omega,by omega,fun m hm=> ?_⟩;obtain⟨i,hi,rfl⟩:=yE hm;exact hI i hi (by omega)
  ·rintro⟨h4,h5,_⟩;omega
end Go.Abs
namespace Go.Abs
open Go Go.Proofs
end Go.Abs
namespace Go.Abs
open Go Go.Proofs
theorem k0k(p:Prd)(g:Nat)(f:List Iv→Bool)(hg:∀s,PC Tryz.prog g [LIv s] (fun r=>r= .bool (f s))):
  PC Tryz.prog 176 [.list (p.map encL),.fn (.func g) [] []] (fun r=>r= .i (x0z f p)):=by
 refine Qh tOk Tryz.func176 rfl Tryz.results176 rfl (by simp[Tryz.ntmps176]) ?_;rw[Tryz.ntmps176];simp only[Qe];refine Tt 0 rfl (fun hlen=> ?_);rw[zY]at hlen;repeat first|(refine r_ ?_;simp)|refine q_ ?_
 refine Qv p.length (fun j=>∀i,∀hi:i<p.length,i<j→f p[i]=false) (fun j=>[(0,.list (p.map encL)),(1,.fn (.func g) [] []),(7,.i p.length),(8,.i j)]) (fun _=>[]) rfl (by simp) (by simp) (by simp) (by simp) (by simp) ?_;intro j hj hI ih;repeat first|(refine r_ ?_;simp)|refine q_ ?_
 refine Qa rfl (fun z7=> ?_) (fun z8=> ?_)
 ·have z1:j<p.length:=by simpa using z7
  have hw:IntKind.i64.wrap ((j:Int)+1)=j+1:=wrap_i64 _ (by omega) (by omega);repeat first|(refine r_ ?_;simp[z1])|refine q_ ?_
  refine Qc rfl rfl (by simp) (hg p[j]) rfl ?_;rintro _ rfl;simp;repeat first|(refine r_ ?_;simp)|refine q_ ?_
  refine Qa rfl (fun h=> ?_) (fun h=> ?_)
  ·repeat first|(refine r_ ?_;simp)|refine q_ ?_
   rw[C6 z1 h hI]
  ·repeat first|(refine r_ ?_;simp[hw])|refine q_ ?_
   refine Qs [] (ih z1 (fun i hi za=> ?_)) rfl (by simp) ?_ (by simp) (by simp)
   ·by_cases e:i=j
    ·subst e;exact h
    ·exact hI i hi (by omega)
   ·simp
 ·have z6:j=p.length:=by simp at z8;omega
  subst z6;repeat first|(refine r_ ?_;simp)|refine q_ ?_
  rw[Jr hI]
theorem Zu(p:Prd)(g:Nat)(f:List Iv→Bool)(hg:∀s,PC Tryz.prog g [LIv s] (fun r=>r= .bool (f s))):
  PC Tryz.prog 111 [.list (p.map encL),.fn (.func g) [] []] (fun r=>r= .bool (p.any f)):=by
 refine Qh tOk Tryz.func111 rfl Tryz.results111 rfl (by simp[Tryz.ntmps111]) ?_;rw[Tryz.ntmps111];simp only[Qe];repeat first|(refine r_ ?_;simp)|refine q_ ?_
 refine Qc rfl rfl (by simp) (k0k p g f hg) rfl ?_;rintro _ rfl;simp;repeat first|(refine r_ ?_;simp)|refine q_ ?_
 rw[←y03]
theorem x1u(s:List Iv):PC Tryz.prog 112 [LIv s] (fun r=>r= .bool (decide (256<s.length))):=by
 refine Qh tOk Tryz.func112 rfl Tryz.results112 rfl (by simp[Tryz.ntmps112]) ?_;rw[Tryz.ntmps112];simp only[Qe];repeat first|(refine r_ ?_;simp)|refine q_ ?_
 omega
def q1v(m:Mv):Bool:=m.on.any fun s=>decide (256<s.length)
theorem V5(a:Aut):Xl a=(decide (256<a.fin.length) || decide (2048<a.mv.length) || a.mv.any q1v):=rfl
attribute [local irreducible] q1v
end Go.Abs
namespace Go.Abs
open Go Go.Proofs
abbrev LSy (w:List Sy):AV:= .list (w.map encSy)
def w20(a:Aut)(w:List Sy)(z:Int):Bool:=decide (z∈Is a [0] w)
attribute [local irreducible] j10 nxB
end Go.Abs
namespace Go.Abs
open Go Go.Proofs
def Cf(T:Int):List Sy→Int
 |[]=>0
 |x::r=>if Fc T x≠0 then Fc T x else Cf T r
def z0f(a:Aut)(w:List Sy):Int:=if We a≠0 then We a else if 4096<w.length then 5 else Cf a.types w
def Zf(a:Aut)(w:List Sy):Bool×Int:=if z0f a w≠0 then(false,z0f a w)else(En a w,0)
theorem Sr{T:Int}:∀(w:List Sy),Cf T w=0↔∀x∈w,Fc T x=0
 |[]=>by simp[Cf]
 |x::r=>by
  rw[Cf];by_cases h:Fc T x=0
  ·rw[if_neg (fun k=>k h),Sr r];simp[h]
  ·rw[if_pos h];exact⟨fun k=>absurd k h,fun k=>absurd (k x (by simp)) h⟩
attribute [local irreducible] Fc En
end Go.Abs
namespace Go.Abs
open Go Go.Proofs
def Ul:List Iv:=[⟨-1099511627776,1099511627776⟩]
theorem q02:Yv []=Ul:=by simp[Yv,Yh,Ul]
theorem j03:PC Tryz.prog 101 [] (fun r=>r=LIv Ul):=by
 refine Qh tOk Tryz.func101 rfl Tryz.results101 rfl (by simp[Tryz.ntmps101]) ?_;rw[Tryz.ntmps101];simp only[Qe];repeat first|(refine r_ ?_;simp)|refine q_ ?_
 simp[Ul]
theorem x1t(n:Int):PC Tryz.prog 100 [.i n] (fun r=>r= .tup [LIv Ul,.i 0]):=by
 refine Qh tOk Tryz.func100 rfl Tryz.results100 rfl (by simp[Tryz.ntmps100]) ?_;rw[Tryz.ntmps100];simp only[Qe];repeat first|(refine r_ ?_;simp)|refine q_ ?_
 refine Qc rfl rfl (by simp) (j03) rfl ?_;rintro _ rfl;simp;repeat first|(refine r_ ?_;simp)|refine q_ ?_
end Go.Abs
namespace Go.Abs
open Go Go.Proofs
attribute [local irreducible] upL Ul
theorem Mn(T:Nat)(hT:T≤1000):PC Tryz.prog 99 [.i T,.fn (.func 100) [] []] (fun r=>r= .tup [encP (zT T Ul),.i 0]):=by
 refine Qh tOk Tryz.func99 rfl Tryz.results99 rfl (by simp[Tryz.ntmps99]) ?_;rw[Tryz.ntmps99];simp only[Qe];simp only[encP];repeat first|(refine r_ ?_;simp)|refine q_ ?_
 refine Ol 1 0 145 1 rfl rfl ?_;simp;obtain⟨K,hK⟩:∃K,K=[AObj.vars [AV.nils],AObj.vars [AV.nils]]:=⟨_,rfl⟩
 have hst:=GL.start (K:=K) (S:=1) [] [] 145 1 (by rw[hK];simp);refine Ql (Qb (sl':=[(1,.fn (.func 100) [] []),(4,.vptr 0 0),(6,.vptr 1 0),(10,.i T),(11,.i 0)]) ?_ (by simp));refine Qn (F:=fun(u:Nat×Nat×List AObj)=>⟨[(1,.fn (.func 100) [] []),(4,.vptr 0 0),(6,.vptr 1 0),(10,.i T),(11,.i u.1)],u.2.2⟩)
  (fun u=>u.1≤T∧GL K u.2.2 1 u.2.1 [] [] 145 1 (upL (fun _=>Ul) u.1)) (fun u=>T - u.1) ?_ (0,K.length,_) ⟨by simp,by rw[g0u,hK]at *;exact hst⟩
 rintro⟨j,q,H2⟩ ⟨hj,g⟩ ih;simp only at hj g ih ⊢;have gR:H2[0]? =some (AObj.vars [AV.nils]):=g.kp (by decide) (by rw[hK];rfl);have g2:=g.cell;have g3:=g.arr;rw[D3]at g2;simp only[List.nil_append]at g2;repeat first|(refine r_ ?_;simp)|refine q_ ?_
 refine Qa rfl (fun zd=> ?_) (fun ze=> ?_)
 ·have zf:j<T:=by simpa using zd
  have hw:IntKind.i64.wrap ((j:Int)+1)=j+1:=wrap_i64 _ (by omega) (by omega);repeat first|(refine r_ ?_;simp)|refine q_ ?_
  refine Qc rfl rfl (by simp) (x1t j) rfl ?_;rintro _ rfl;simp;repeat first|(refine r_ ?_;simp)|refine q_ ?_
  refine Q7 rfl ?_;have z6:∀L:List AObj,(H2.set q .dead++L)[1]? =some (AObj.vars [AV.sl q 1 0 j]):=fun L=>by have:=g.at L;rw[D3]at this;exact this
  have z8:∀(L:List AObj) (h:1<(H2.set q .dead++L).length),(H2.set q .dead++L)[1]'h=AObj.vars [AV.sl q 1 0 j]:=fun L h=>by have:=z6 L;rw[zF h]at this;exact Option.some.inj this
  have za:=fun A y=>g.put A y (D3 _ _).symm;have zg:upL (fun _=>Ul) j++[encL Ul]=upL (fun _=>Ul) (j+1):=(g0j _ _).symm;have z1:=fun H=>ih (j+1,H2.length+1,H);have z7:=D3 (fun _=>Ul) j;simp only[←zg]at z1;repeat first|(refine r_ ?_;simp[g2])|refine q_ ?_
  generalize upL (fun _=>Ul) j=xs at *
  refine Qm tOk rfl rfl T68 rfl N1 rfl (by decide) (by decide) rfl rfl rfl ?_;simp[Qd g3,Qr g3,z7,z6,z8];refine⟨by simp[Rl,Qd g3,Qr g3,z7,z6,z8]<;>omega,?_⟩;repeat first|(refine r_ ?_;simp[g2,hw,z6,z8])|refine q_ ?_
  refine Qb (sl':=[(1,.fn (.func 100) [] []),(4,.vptr 0 0),(6,.vptr 1 0),(10,.i T),(11,.i (j+1:Nat))]) (z1 _ ⟨by omega,za _ _⟩ (by omega)) ?_;simp
 ·have zb:j=T:=by simp at ze;omega
  subst zb;have hS:=(zA.1 g2).1;have zh:q≠0∧q≠1:=by have:=g.ge;rw[hK]at this;simp at this;omega
  have z7:=D3 (fun _=>Ul) j;have zc: .list (upL (fun _=>Ul) j)=AV.list ((zT j Ul).map encL):=by rw[y1v];simp[Function.comp_def,List.map_const']
  generalize upL (fun _=>Ul) j=xs at *
  refine Ea q g3 1 g2 ?_;have k1:∀X,((H2.set q .dead).set 1 X)[0]? =some (AObj.vars [AV.nils]):=fun X=>Qf (by decide) (Qf zh.1 gR _) _;have k2:∀X,((H2.set q .dead).set 1 X)[1]? =some X:=fun X=>zG (by simpa using hS);have k3:∀X Y,(((H2.set q .dead).set 1 X).set 0 Y)[0]? =some Y:=fun X Y=>Qk (k1 X) _;simp[z7];rw[zS (by omega)];repeat first|(refine r_ ?_;simp[k1,k2,k3])|refine q_ ?_
  have h2:=AV.list.inj zc;rw[List.map_replicate]at h2;exact h2
theorem k0f(T:Int)(h1:1≤T)(h2:T≤16):PC Tryz.prog 42 [.i T] (fun r=>r= .tup [encP (Wg T.toNat),.i 0]):=by
 refine Qh tOk Tryz.func42 rfl Tryz.results42 rfl (by simp[Tryz.ntmps42]) ?_;rw[Tryz.ntmps42];simp only[Qe];simp only[encP];have hw:Wg T.toNat=zT T.toNat Ul:=by rw[Wg,q02]
 have hT:((T.toNat:Nat):Int)=T:=by omega
 have hc:=Mn T.toNat (by omega);rw[hT]at hc;have n1:¬T<1:=by omega
 have n2:¬16<T:=by omega
 rw[hw];repeat first|(refine r_ ?_;simp[n1,n2])|refine q_ ?_
 refine Qa rfl (fun h=> ?_) (fun h=> ?_)
 ·simp at h
 repeat first|(refine r_ ?_;simp)|refine q_ ?_
 refine Qc rfl rfl (by simp) (hc) rfl ?_;rintro _ rfl;simp;repeat first|(refine r_ ?_;simp)|refine q_ ?_
end Go.Abs
namespace Go.Abs
open Go Go.Proofs
attribute [local irreducible] Gc
theorem v0x(p:Prd):PC Tryz.prog 125 [encP p] (fun r=>r= .fn (.func 188) [] [.iptr [.list (p.map encL)]]):=by refine Qh tOk Tryz.func125 rfl Tryz.results125 rfl (by simp[Tryz.ntmps125]) ?_;rw[Tryz.ntmps125];simp only[Qe];simp only[encP];repeat first|(refine r_ ?_;simp)|refine q_ ?_
theorem M7(p:Prd)(h0:Gc [p]=0)(hv:W2 p=false):PC Tryz.prog 64 [encP p] (fun r=>r= .tup [encSy (Qi p),.i 0]):=by
 have hlen:p.length≤16:=by
  unfold Gc at h0;by_cases hc:Ew p.length p=0
  ·have:=((W7 _ p).1 hc).1;omega
  ·rw[if_pos hc]at h0;exact absurd h0 hc
 obtain⟨t,x,rr,h1,h2,h3⟩:∃t x r,p[t]? =some (x::r)∧Qz p 0=(0+t,x.lo)∧∀j,j<t→p[j]? =some []:=by refine D5 p 0 ?_;rw[W2,vD]at hv;obtain⟨s,hs,hn⟩:=hv;exact⟨s,hs,fun e=>hn (by rw[e];rfl)⟩
 rw[Nat.zero_add]at h2;have z8:Qi p=⟨t,x.lo⟩:=by rw[Qi,h2]
 rw[z8];obtain⟨zd,za⟩:=zA.1 h1;refine Qh tOk Tryz.func64 rfl Tryz.results64 rfl (by simp[Tryz.ntmps64]) ?_;rw[Tryz.ntmps64];simp only[Qe];simp only[encP,encSy];repeat first|(refine r_ ?_;simp)|refine q_ ?_
 refine A6 3 rfl ?_;simp;refine Qc rfl rfl (by simp) (Gv [p]) rfl ?_;rintro _ rfl;simp;repeat first|(refine r_ ?_;simp)|refine q_ ?_
 refine Qa rfl (fun h=>by rw[h0]at h;simp at h) (fun h=> ?_);repeat first|(refine r_ ?_;simp)|refine q_ ?_
 refine Qc rfl rfl (by simp) (v0x p) rfl ?_;rintro _ rfl;simp;repeat first|(refine r_ ?_;simp)|refine q_ ?_
 refine Es rfl (Rf:=fun _ H'=>4<H'.length∧(∃sl' ps' a' b',H'[4]? =some (.lp false (some Code.ret) 25 sl' ps' a' b'))∧H'[1]? =some (.vars [.i t,.i x.lo])∧H'[2]? =some (.vars [.i 0])) ?_ ?_
 ·simp;refine Hb fun H1 z6=> ?_;have f1:H1[1]? =some (.vars [.i 0,.i 0]):=by rw[z6];rfl
  have f2:H1[2]? =some (.vars [.i 0]):=by rw[z6];rfl
  have f4:=congrArg (fun h:List AObj=>h[4]?) z6;simp at f4;have zb:H1.length=5:=by rw[z6];simp
  clear z6;refine W9 tOk Tryz.func188 rfl Tryz.results188 rfl (by simp[Tryz.ntmps188]) ?_;rw[Tryz.ntmps188];simp only[Qe];repeat first|(refine r_ ?_;simp)|refine q_ ?_
  refine Ql (Qb (sl':=[(0,.yld 4),(6,.list (p.map encL)),(7,.i p.length),(8,.i (0:Nat))]) ?_ (by simp));refine Qn (F:=fun(u:Nat)=>⟨[(0,.yld 4),(6,.list (p.map encL)),(7,.i p.length),(8,.i u)],H1⟩) (fun u=>u≤t) (fun u=>t - u) ?_ 0 (by simp);rintro j hj ih;have z1:j<p.length:=by omega
  have hw:IntKind.i64.wrap ((j:Int)+1)=j+1:=wrap_i64 _ (by omega) (by omega);repeat first|(refine r_ ?_;simp)|refine q_ ?_
  refine Qa rfl (fun _=> ?_) (fun zc=>by simp at zc;omega);by_cases hjt:j=t
  ·subst hjt;repeat first|(refine r_ ?_;simp[z1,za])|refine q_ ?_
   refine Y4 rfl rfl (q:=4) rfl rfl f4 rfl rfl rfl (fun jm K2=>jm=some Code.ret∧5≤K2.length∧K2[1]? =some (.vars [.i j,.i x.lo])∧K2[2]? =some (.vars [.i 0])) ?_ ?_
   ·simp[R5];have e1:=Qf (j:=4) (by decide) f1 .dead;have e2:=Qf (j:=4) (by decide) f2 .dead;have e4:=Qk f4 .dead;have e6:(H1.set 4 .dead).length=5:=by simp[zb]
    generalize H1.set 4 .dead=E at *
    have e3:∀y,(E.set 1 y)[2]? =some (.vars [.i 0]):=fun y=>Qf (by decide) e2 y;repeat first|(refine r_ ?_;simp[e1,e2,e3])|refine q_ ?_
    exact⟨Qf (by decide) (Qf (by decide) e4 _) _,rfl,by simp[e6],Qf (by decide) (Qk e1 _) _,Qk (e3 _) _⟩
   ·rintro jm K2 ⟨rfl,v1,v2,v3⟩;simp;repeat first|(refine r_ ?_;simp)|refine q_ ?_
    have v6:4<K2.length:=by omega
    refine Qa rfl (fun _=> ?_) (fun h=>by cases h);repeat first|(refine r_ ?_;simp)|refine q_ ?_
    exact⟨by omega,⟨_,_,_,_,zG v6⟩,v2,v3⟩
  ·have z7:p[j]=[]:=by have:=h3 j (by omega);rw[zF z1]at this;exact Option.some.inj this
   repeat first|(refine r_ ?_;simp[z1,z7])|refine q_ ?_
   refine Wk rfl rfl ?_;simp;refine Q7 rfl ?_;simp;repeat first|(refine r_ ?_;simp[hw])|refine q_ ?_
   exact Qb (sl':=[(0,.yld 4),(6,.list (p.map encL)),(7,.i p.length),(8,.i (j+1:Nat))]) (ih (j+1) (by omega) (by omega)) (by simp)
 ·rintro r H' ⟨hl,⟨sl',ps',a',b',k4⟩,k1,k2⟩;refine⟨_,_,_,_,_,_,_,k4,?_⟩;simp;have u1:=Qf (j:=4) (by decide) k1 .dead;have u2:=Qf (j:=4) (by decide) k2 .dead;generalize H'.set 4 .dead=E at *
  repeat first|(refine r_ ?_;simp[u1,u2])|refine q_ ?_
end Go.Abs
namespace Go.Abs
open Go Go.Proofs
abbrev q2p:Iv:=⟨-1099511627776,1099511627776⟩
theorem Al(i:Nat):Q3 [] i=[]:=rfl
theorem Dd{l:List Prd}{j i:Nat}(hj:j<l.length)(hi:i<l[j].length):Q3 (l.take (j+1)) i=Q3 (l.take j) i++l[j][i]:=by unfold Q3;rw[zO hj,vZ];simp[yP,hi]
theorem De{T:Nat}{l:List Prd}(hl:∀p∈l,PCk T p)(i:Nat):(Q3 l i).length≤256 * l.length:=by
 induction l with
 |nil=>simp[Q3]
 |cons p r ih=>
  have h1:=ih (fun q hq=>hl q (by simp[hq]));have h2:(p.getD i []).length≤256:=by
   by_cases hi:i<p.length
   ·rw[W1 hi];exact((hl p (by simp)).2 _ (zH hi)).len
   ·simp[yP,hi]
  unfold Q3 at *;rw[List.flatMap_cons,zX,List.length_cons];omega
def Gr(xs:List Iv):List Int:=Cz (q2p::xs)
theorem y00(xs:List Iv)(x:Iv):Gr (xs++[x])=Gr xs++[x.lo,x.hi+1]:=by unfold Gr;rw[←List.cons_append,Md]
theorem K5(xs:List Iv):(Gr xs).length=2 * xs.length+2:=by rw[Gr,y0v];simp;omega
theorem Bt(l:List Prd)(i:Nat):Lib.compact (Rk (Gr (Q3 l i)))=Q6 l i:=rfl
attribute [local irreducible] Gr Rk Lib.compact Q3
theorem x1m(T:Nat)(l:List Prd)(i:Nat)(hi:i<T)(hT:T≤16)(hl:∀p∈l,PCk T p)(hn:l.length≤256):PC Tryz.prog 166 [LP l,.i i] (fun r=>r=LI (Q6 l i)):=by
 refine Qh tOk Tryz.func166 rfl Tryz.results166 rfl (by simp[Tryz.ntmps166]) ?_;rw[Tryz.ntmps166];simp only[Qe];repeat first|(refine r_ ?_;simp)|refine q_ ?_
 have h2:Gr (Q3 (l.take 0) i)=[-1099511627776,1099511627777]:=by rw[ws,Al,Gr];rfl
 have zi:=De hl i;refine Ql (Qb (sl':=[(0,LP l),(1,.i i),(5,.sl 0 1 0 (Gr (Q3 (l.take 0) i)).length),(11,LP l),(12,.i l.length),(13,.i (0:Nat))]) ?_ (by rw[h2];simp));refine Qn (F:=fun(u:Nat×Nat×List AObj)=>⟨[(0,LP l),(1,.i i),(5,.sl u.2.1 1 0 (Gr (Q3 (l.take u.1) i)).length),(11,LP l),(12,.i l.length),(13,.i u.1)],u.2.2⟩)
  (fun u=>u.1≤l.length∧SL [] u.2.2 u.2.1 3 1 ((Gr (Q3 (l.take u.1) i)).map (AV.int .i64))) (fun u=>l.length - u.1) ?_ (0,0,_) ⟨by simp,by rw[h2];exact⟨rfl,by simp,fun j hj=>by simp at hj⟩⟩
 rintro⟨j,q,H2⟩ ⟨hj,g⟩ ih;simp only at hj g ih ⊢;repeat first|(refine r_ ?_;simp)|refine q_ ?_
 refine Qa rfl (fun zj=> ?_) (fun zk=> ?_)
 ·have z6:j<l.length:=by simpa using zj
  have hw:IntKind.i64.wrap ((j:Int)+1)=j+1:=wrap_i64 _ (by omega) (by omega);have hp:=hl _ (zH z6);have z8:i<l[j].length:=by rw[hp.1];exact hi
  have hs:=hp.2 _ (zH z8);have hst:=Dd z6 z8;have za:=De (l:=l.take j) (fun p hp=>hl p (yZ hp)) i;rw[xM]at za;have zf:=hs.len;have zb:=fun k hk=>hs.iv (j:=k) hk;repeat first|(refine r_ ?_;simp[z6,z8])|refine q_ ?_
  generalize l[j][i]=s at *;generalize hA:Q3 (l.take j) i=A at *;refine Ql (Qb (sl':=[(0,LP l),(1,.i i),(5,.sl q 1 0 (Gr (A++s.take 0)).length),(11,LP l),(12,.i l.length),(13,.i j),(21,LIv s),(22,.i s.length),(23,.i (0:Nat))]) ?_ (by simp))
  refine Qn (F:=fun(u:Nat×Nat×List AObj)=>⟨[(0,LP l),(1,.i i),(5,.sl u.2.1 1 0 (Gr (A++s.take u.1)).length),(11,LP l),(12,.i l.length),(13,.i j),(21,LIv s),(22,.i s.length),(23,.i u.1)],u.2.2⟩)
   (fun u=>u.1≤s.length∧SL [] u.2.2 u.2.1 3 1 ((Gr (A++s.take u.1)).map (AV.int .i64))) (fun u=>s.length - u.1) ?_ (0,q,_) ⟨by simp,by rw[ws,List.append_nil];exact g.add _⟩
  rintro⟨m,q',H3⟩ ⟨hm,g'⟩ ih';simp only at hm g' ih' ⊢;repeat first|(refine r_ ?_;simp)|refine q_ ?_
  refine Qa rfl (fun zc=> ?_) (fun zd=> ?_)
  ·have z1:m<s.length:=by simpa using zc
   have zl:IntKind.i64.wrap ((m:Int)+1)=m+1:=wrap_i64 _ (by omega) (by omega);obtain⟨b1,b2,b3⟩:=zb m z1;have zm:IntKind.i64.wrap (s[m].hi+1)=s[m].hi+1:=wrap_i64 _ (by omega) (by omega);have zn:Gr (A++s.take (m+1))=Gr (A++s.take m)++[s[m].lo,s[m].hi+1]:=by rw[zO z1,←List.append_assoc,y00]
   have zg:=K5 (A++s.take m);rw[zX,xM]at zg;have zh:=fun q' H'=>ih' (m+1,q',H');simp only[zn]at zh;generalize Gr (A++s.take m)=acc at *
   repeat first|(refine r_ ?_;simp[z1,zm])|refine q_ ?_
   refine Qm tOk rfl rfl T47 rfl T3 rfl (by decide) (by decide) rfl rfl rfl ?_;simp[Qd g'.arr,Qr g'.arr];refine⟨by simp[Rl,Qd g'.arr,Qr g'.arr]<;>omega,?_⟩;repeat first|(refine r_ ?_;simp[zl])|refine q_ ?_
   refine Qb (sl':=[(0,LP l),(1,.i i),(5,.sl (H3.length+2) 1 0 (acc.length+2)),(11,LP l),(12,.i l.length),(13,.i j),(21,LIv s),(22,.i s.length),(23,.i (m+1:Nat))]) ?_ (by simp);have:=zh (H3.length+2) _ ⟨by omega,g'.put [AObj.vars [AV.i s[m].lo,AV.i s[m].hi],AObj.arr 3 1 [AV.i s[m].lo,AV.i (s[m].hi+1)]] _ rfl⟩ (by omega);simpa using this
  ·have z7:m=s.length:=by simp at zd;omega
   subst z7;rw[yF]at g' ⊢;repeat first|(refine r_ ?_;simp[hw])|refine q_ ?_
   refine Qb (sl':=[(0,LP l),(1,.i i),(5,.sl q' 1 0 (Gr (A++s)).length),(11,LP l),(12,.i l.length),(13,.i (j+1:Nat))]) ?_ (by simp);have:=ih (j+1,q',H3) ⟨by omega,by rw[hst];exact g'⟩ (by show l.length - (j+1)<l.length - j;omega);rw[hst]at this;exact this
 ·have ze:j=l.length:=by simp at zk;omega
  subst ze;rw[yF]at g ⊢;have zg:=K5 (Q3 l i);rw[←Bt];generalize Gr (Q3 l i)=acc at *
  repeat first|(refine r_ ?_;simp)|refine q_ ?_
  refine Q9 rfl rfl (Jg H2 q acc g.arr (by omega)) rfl ?_;rintro r H' ⟨rfl,rfl⟩;simp;repeat first|(refine r_ ?_;simp)|refine q_ ?_
  have g2:=Qk g.arr (.arr 3 1 ((Rk acc).map (AV.int .i64)));have zf:=O5 acc;rw[←zf];refine Q9 rfl rfl (O9 _ q (Rk acc) g2 (by omega) (Ow _)) rfl ?_;rintro r H' ⟨rfl,G,rfl⟩;simp;have g3:=Qk g.arr (.arr 3 1 ((Lib.compact (Rk acc)++G).map (AV.int .i64)));repeat first|(refine r_ ?_;simp)|refine q_ ?_
  rw[yU]at g3;simp[g3]
end Go.Abs
namespace Go.Abs
open Go Go.Proofs
attribute [simp] g1a T5 T9
def sb(b:Bool):UInt8:=if b then 1 else 0
def sgB(bs:List Bool):List UInt8:=bs.map sb
theorem k03:∀ {a b:List Bool},sgB a=sgB b→a=b
 |[],[],_=>rfl
 |[],_::_,h=>by simp[sgB]at h
 |_::_,[],h=>by simp[sgB]at h
 |x::a,y::b,h=>by simp only[sgB,List.map_cons,List.cons.injEq]at h;obtain⟨h1,h2⟩:=h;rw[k03 (a:=a) (b:=b) h2];cases x<;>cases y<;>simp[sb]at h1 ⊢
theorem Kf(bs:List Bool):(sgB bs).length=bs.length:=by simp[sgB]
def sgJ(bs:List Bool)(j:Nat):List AV:=(sgB (bs.take j)++zT (bs.length - j) 0).map byteAV
theorem y1p{bs:List Bool}{j:Nat}(h:j≤bs.length):(sgJ bs j).length=bs.length:=by simp[sgJ,sgB];omega
theorem d0i(bs:List Bool):zT bs.length (AV.int .u8 0)=sgJ bs 0:=by simp[sgJ,sgB]
theorem x1b(bs:List Bool):sgJ bs bs.length=(sgB bs).map byteAV:=by simp[sgJ]
theorem f1b{bs:List Bool}{j:Nat}(h:j<bs.length)(hb:bs[j]=true):(sgJ bs j).set j (AV.int .u8 1)=sgJ bs (j+1):=by
 have h1:(sgB (bs.take j)).length=j:=by simp[sgB];omega
 have e:bs.length - j=(bs.length - (j+1))+1:=by omega
 unfold sgJ;rw[yU,List.set_append_right (h:=by simp[h1]),zO h,e,vR];have hm:j - min j bs.length=0:=by omega
 simp[h1,sgB,hb,sb,byteAV,hm]
theorem x1o{bs:List Bool}{j:Nat}(h:j<bs.length):(sgJ bs j)[j]? =some (AV.int .u8 0):=by
 have h1:(sgB (bs.take j)).length=j:=by simp[sgB];omega
 unfold sgJ;have e:bs.length - j=(bs.length - (j+1))+1:=by omega
 rw[yU,zE (by simp[h1]),e,vR];simp[h1]
theorem d1k{bs:List Bool}{j:Nat}(h:j<bs.length)(hb:bs[j]=false):sgJ bs j=sgJ bs (j+1):=by
 have e:bs.length - j=(bs.length - (j+1))+1:=by omega
 unfold sgJ;rw[zO h,e,vR];simp[sgB,hb,sb]
theorem w1f{l:List Prd}{i j:Nat}(n:Int)(hj:j<l.length)(hi:i<l[j].length)(h:j<(Un l i n).length):(Un l i n)[j]=Se l[j][i] n:=by simp[Un,yP,hi]
attribute [local irreducible] sgJ sgB Se Un
theorem Zj(T:Nat)(l:List Prd)(i:Nat)(n:Int)(hi:i<T)(hT:T≤16)(hl:∀p∈l,PCk T p)(hn:l.length≤256):PC Tryz.prog 167 [LP l,.i i,.i n] (fun r=>r= .str (sgB (Un l i n))):=by
 refine Qh tOk Tryz.func167 rfl Tryz.results167 rfl (by simp[Tryz.ntmps167]) ?_;rw[Tryz.ntmps167];simp only[Qe];have z6:(Un l i n).length=l.length:=by simp[Un]
 repeat first|(refine r_ ?_;simp)|refine q_ ?_
 refine Tv tOk rfl rfl rfl g1a rfl T5 rfl rfl rfl (n:=l.length) (by simp;omega) (by unfold maxLen;omega) (.int .u8 0) rfl ?_;simp;rw[←z6,d0i];repeat first|(refine r_ ?_;simp)|refine q_ ?_
 refine Ql (Qb (sl':=[(1,.i i),(2,.i n),(7,.sl 0 1 0 l.length),(15,LP l),(16,.i l.length),(17,.i (0:Nat))]) ?_ (by simp[z6]));refine Qn (F:=fun(u:Nat×List AObj)=>⟨[(1,.i i),(2,.i n),(7,.sl 0 1 0 l.length),(15,LP l),(16,.i l.length),(17,.i u.1)],u.2⟩)
  (fun u=>u.1≤l.length∧u.2[0]? =some (.arr 5 1 (sgJ (Un l i n) u.1))) (fun u=>l.length - u.1) ?_ (0,_) ⟨by simp,rfl⟩
 rintro⟨j,H2⟩ ⟨hj,g⟩ ih;simp only at hj g ih ⊢;have ze:=y1p (bs:=Un l i n) (j:=j) (by omega);repeat first|(refine r_ ?_;simp)|refine q_ ?_
 refine Qa rfl (fun zg=> ?_) (fun zh=> ?_)
 ·have z1:j<l.length:=by simpa using zg
  have hw:IntKind.i64.wrap ((j:Int)+1)=j+1:=wrap_i64 _ (by omega) (by omega);have hp:=hl _ (zH z1);have za:i<l[j].length:=by rw[hp.1];exact hi
  have hs:=hp.2 _ (zH za);have zi:=w1f n z1 za (by omega);have hT:=f1b (bs:=Un l i n) (j:=j) (by omega);have hF:=d1k (bs:=Un l i n) (j:=j) (by omega);rw[zi]at hT hF;have zb:c0b l[j][i] n=(Se l[j][i] n,0):=by rw[c0b,if_pos ((L4 _).2 hs)]
  have z7:=fun H'=>ih (j+1,H');simp only at z7;repeat first|(refine r_ ?_;simp[z1,za])|refine q_ ?_
  refine Qc rfl rfl (by simp) (D4 l[j][i] n) rfl ?_;rintro _ rfl;simp;rw[zb];generalize Se l[j][i] n=b at *
  repeat first|(refine r_ ?_;simp)|refine q_ ?_
  have gL:∀L,(H2++L)[0]? =some (.arr 5 1 (sgJ (Un l i n) j)):=fun L=>Qd g L;cases b with
  |true=>
   rw[←hT rfl]at z7;clear hT hF;refine Qa rfl (fun _=> ?_) (fun h=>by cases h);have zc:=x1o (bs:=Un l i n) (j:=j) (by omega);have zj:∀hh,(sgJ (Un l i n) j)[j]'hh=AV.int .u8 0:=fun hh=>by rw[zF hh]at zc;exact Option.some.inj zc
   have gL1:∀L hh,(H2++L)[0]'hh= .arr 5 1 (sgJ (Un l i n) j):=fun L hh=>by have:=gL L;rw[zF hh]at this;exact Option.some.inj this
   repeat first|(refine r_ ?_;simp[gL,gL1,ze,z1,z6,zc,zj,hw])|refine q_ ?_
   refine Qb (sl':=[(1,.i i),(2,.i n),(7,.sl 0 1 0 l.length),(15,LP l),(16,.i l.length),(17,.i (j+1:Nat))]) ?_ (by simp);exact z7 _ ⟨by omega,Qk (gL _) _⟩ (by omega)
  |false=>
   rw[←hF rfl]at z7;refine Qa rfl (fun h=>by cases h) (fun _=> ?_);repeat first|(refine r_ ?_;simp[hw])|refine q_ ?_
   refine Qb (sl':=[(1,.i i),(2,.i n),(7,.sl 0 1 0 l.length),(15,LP l),(16,.i l.length),(17,.i (j+1:Nat))]) ?_ (by simp);exact z7 _ ⟨by omega,gL _⟩ (by omega)
 ·have zd:j=l.length:=by simp at zh;omega
  subst zd;have z8:=x1b (Un l i n);rw[z6]at z8;rw[z8]at g ze;have zf:=Kf (Un l i n);generalize sgB (Un l i n)=s at *
  repeat first|(refine r_ ?_;simp)|refine q_ ?_
  refine Vu tOk rfl rfl g1a rfl T5 rfl T9 rfl rfl (s:=s) (by simp[g,zf,z6];rw[zS (by simp[zf,z6])]) rfl ?_;simp;repeat first|(refine r_ ?_;simp)|refine q_ ?_
end Go.Abs
namespace Go.Abs
open Go Go.Proofs Go.RowKit Go.Shelf Go.Lib Go.Sort
theorem V0(x y:Iv)(W:World):Calls Tryz.prog 175 #[.agg #[.int .i64 x.lo,.int .i64 x.hi],.agg #[.int .i64 y.lo,.int .i64 y.hi]] W fun e w'=>e= .returned (.int .i64 (Lib.compareInt x.lo y.lo))∧∃q os',w'=grow (W.drewN q) os':=by
 have z1:=fun W'=>Tryz.cmp_Compare_int x.lo y.lo W';generalize Lib.compareInt x.lo y.lo=r at z1 ⊢
 go_enter Tryz.func175,Tryz.ntmps175
 go_wp2_with (go_at_call 133;refine(z1 _).mono ?_;rintro e w' ⟨rfl,rfl⟩)
 go_ret
 exact⟨rfl,0,_,by rw[alloc_eq_grow,alloc_eq_grow,grow_grow];rfl⟩
theorem f05(H:List AObj)(p:Nat)(l:List Iv)(hp:H[p]? =some (.arr 144 2 (l.map encIv)))(hl:l.length≤1000000):
  FC Tryz.prog 174 [.sl p 2 0 l.length,.fn (.func 175) [] []] H
   (fun r H'=>r= .tup []∧∃l':List Iv,l'.Perm l∧Vg l'∧H'=H.set p (.arr 144 2 (l'.map encIv))):=by
 refine(q1u (xs:=l.map encIv) (T6 Tryz.func174 rfl rfl) (by simp) hp (k17 l) [.func (.func 175) #[] #[]] (fun w I m vs a b=>Vm _ w I m _ vs a b) (fun z1=>∃l':List Iv,l'.Perm l∧Vg l'∧z1=l'.map encIv) ?_ ?_).mono ?_
 ·intro b cap w hH hb hc;have eg:∀args w,(callFunc 175 args).run Tryz.prog w= .ok (.enter 175 args) w:=enters_of Tryz.func175 (by kernel_rfl) rfl;have:=AnyQ.slices_SortFunc Tryz.sortIv 2 Tryz.isAgg144 Tryz.sizeOf144 N2 (fun _=>rfl) (fun x v hv=>by simp[N2]at hv;rcases hv with rfl|rfl<;>rfl) (fun x y=>Lib.compareInt x.lo y.lo) g1t 175 #[] b 0 cap l.toArray w eg (fun _ _ _ _ x y=>V0 x y _) hH hb (by simp;omega);change Calls Tryz.prog 174 _ _ _ at this;rw[show(l.toArray).size=l.length by simp]at this;refine Calls.mono (this) ?_;rintro e w' ⟨rfl,d',n,os,h1,h2,rfl⟩;obtain⟨s1,_,s3⟩:=h1;have hs:d'.toList.length=l.length:=by simpa using s1
  refine⟨rfl,d'.toList.map encIv,flatK N2 2 d',n,os,⟨d'.toList,?_,?_,rfl⟩,by simp[hs],by simpa using k17 d'.toList,rfl⟩
  ·rw[show d'.extract 0 l.length=d' by simp[←hs],show l.toArray.extract 0 l.length=l.toArray by simp]at s3;simpa using s3
  ·refine List.pairwise_iff_getElem.2 fun i j hi hj z6=> ?_;have:=h2 i j (Nat.zero_le _) z6 (by omega);rw[j17,getElem!_pos d' i (by simpa using hi),getElem!_pos d' j (by simpa using hj)]at this;simpa using this
 ·rintro h;have z7:l=[]:=by simpa using h
  subst z7;exact⟨⟨[],.refl _,.nil,rfl⟩,fun w=>AnyF.slices_SortFunc_none Tryz.sortIv none 0 _ w⟩
 ·rintro r H' ⟨rfl,z1,⟨l',h1,h2,rfl⟩,rfl⟩;exact⟨rfl,l',h1,h2,rfl⟩
end Go.Abs
namespace Go.Abs
open Go Go.Proofs
theorem Xd(l l':List Iv)(z1:∀y∈l,y.lo≤y.hi)(hp:l'.Perm l)(hl:Vg l'):Q0 [] l'=Rm l:=
 D6 l' (Oa l) [] (hp.trans (P1 l).1.symm) hl (P1 l).2 (fun y hy=>z1 y (hp.mem_iff.1 hy))
theorem SL.upd{K G:List AObj}{p e sz:Nat}{xs:List AV}(h:SL K G p e sz xs)(L:List AObj)(ys:List AV):SL K (G.set p (.arr e sz ys)++L) p e sz ys:=by have hp:=(zA.1 h.arr).1;have z1:=h.ge;refine⟨by rw[zD (by simpa using hp)];exact zG hp,z1,fun j hj=> ?_⟩;rw[zD (by simp;omega),zB (by omega)];exact h.keep j hj
attribute [local irreducible] Wy Q0 Rm
theorem Z6(H:List AObj)(q:Nat)(l:List Iv)(hq:H[q]? =some (.arr 144 2 (l.map encIv)))(hl:l.length≤1000000)(zf:∀y∈l,Ge y∧y.lo≤y.hi):
  FC Tryz.prog 110 [.sl q 2 0 l.length] H (fun r H'=>r=LIv (Rm l)∧H.length≤H'.length∧∀i,i<H.length→i≠q→H'[i]? =H[i]?):=by
 refine W9 tOk Tryz.func110 rfl Tryz.results110 rfl (by simp[Tryz.ntmps110]) ?_;rw[Tryz.ntmps110];simp only[Qe];repeat first|(refine r_ ?_;simp)|refine q_ ?_
 refine Q9 rfl rfl (f05 H q l hq hl) rfl ?_;rintro r H' ⟨rfl,l',h1,h2,rfl⟩;simp;have hl':l'.length≤1000000:=by rw[h1.length_eq];exact hl
 have zl:=h1.length_eq;have zc:∀y∈l',Ge y:=fun y hy=>(zf y (h1.mem_iff.1 hy)).1;rw[←Xd l l' (fun y hy=>(zf y hy).2) h1 h2,←zl];have g0:=Qk hq (.arr 144 2 (l'.map encIv));have z7:∀i,i≠q→(H.set q (.arr 144 2 (l'.map encIv)))[i]? =H[i]? :=fun i hi=>zB (fun e=>hi e.symm);have hlen:(H.set q (.arr 144 2 (l'.map encIv))).length=H.length:=by simp
 generalize H.set q (.arr 144 2 (l'.map encIv))=H1 at *
 repeat first|(refine r_ ?_;simp)|refine q_ ?_
 refine Wa (sl':=[(2,.nils),(3,.nils),(9,.sl q 2 0 l'.length),(10,.i l'.length),(11,.i (0:Nat))]) ?_ (by simp);refine E7 q g0 ?_;simp;rw[zS (by simp)];have z1:∀i,i<H.length→i≠q→(H1.set q .dead)[i]? =H[i]? :=fun i h1 h2=>by rw[zB (fun e=>h2 e.symm)];exact z7 i h2
 have z8:(H1.set q .dead).length=H.length:=by simp[hlen]
 generalize H1.set q .dead=K at *;refine Wm 3 144 2 rfl ?_
 simp;have hst:=SL.start K 144 2;refine Ql (Qb (sl':=[(3,.sl K.length 2 0 (Q0 [] (l'.take 0)).length),(9,LIv l'),(10,.i l'.length),(11,.i (0:Nat))]) ?_ (by simp[z8,Q0]));refine Qn (F:=fun(u:Nat×Nat×List AObj)=>⟨[(3,.sl u.2.1 2 0 (Q0 [] (l'.take u.1)).length),(9,LIv l'),(10,.i l'.length),(11,.i u.1)],u.2.2⟩)
  (fun u=>u.1≤l'.length∧SL K u.2.2 u.2.1 144 2 ((Q0 [] (l'.take u.1)).map encIv)) (fun u=>l'.length - u.1) ?_ (0,K.length,_) ⟨by simp,by rw[ws,Q0,List.foldl_nil];exact hst⟩
 rintro⟨j,p,G⟩ ⟨hj,g⟩ ih;simp only at hj g ih ⊢;repeat first|(refine r_ ?_;simp)|refine q_ ?_
 refine Qa rfl (fun zm=> ?_) (fun zg=> ?_)
 ·have za:j<l'.length:=by simpa using zm
  have hw:IntKind.i64.wrap ((j:Int)+1)=j+1:=wrap_i64 _ (by omega) (by omega);have zh:Q0 [] (l'.take (j+1))=Wy (Q0 [] (l'.take j)) l'[j]:=by rw[zO za,Fq]
  have zi:(Q0 [] (l'.take j)).length≤j:=yL (Yy _ _) (by simp;omega);have zd:∀y∈Q0 [] (l'.take j),Ge y:=Dr _ _ (by simp) (fun y hy=>zc y (yZ hy));have z6:=fun p' G'=>ih (j+1,p',G');simp only[zh]at z6;clear zh;generalize Q0 [] (l'.take j)=acc at *;generalize hx:l'[j]=x at *
  repeat first|(refine r_ ?_;simp[za,hx])|refine q_ ?_
  rcases List.eq_nil_or_concat acc with rfl|⟨ini,y,rfl⟩
  ·refine Qw tOk mixed [] (.val 0 (.val 1 (.val 2 (.val 3 (.val 4 (.val 5 (.val 6 (.val 7 (.val 8 (.val 9 (.val 10 (.val 11 (.val 12 (.val 13 (.done))))))))))))))) rfl (by kernel_rfl) ?_;simp;refine Q7 rfl ?_;simp;repeat first|(refine r_ ?_;simp)|refine q_ ?_
   refine Qm tOk rfl rfl N1 rfl u0z rfl (by decide) (by decide) rfl rfl rfl ?_;simp[Qd g.arr,Qr g.arr];refine⟨by simp[Rl,Qd g.arr,Qr g.arr]<;>omega,?_⟩;repeat first|(refine r_ ?_;simp[hw])|refine q_ ?_
   refine Qb (sl':=[(3,.sl (G.length+2) 2 0 1),(9,LIv l'),(10,.i l'.length),(11,.i (j+1:Nat))]) ?_ (by simp);have:=z6 (G.length+2) _ ⟨by omega,by rw[Wy];exact g.put [AObj.vars [AV.i x.lo,AV.i x.hi],AObj.arr 144 2 [encIv x]] _ rfl⟩ (by omega);rw[Wy]at this;simpa using this
  ·have zn:=(Eu _).1 (zd y (by simp)).2;have zj:IntKind.i64.wrap (y.hi+1)=y.hi+1:=wrap_i64 _ (by omega) (by omega);have gA:=g.arr;rw[List.concat_eq_append]at g gA z6 zi ⊢;have hlen:(ini++[y]).length=ini.length+1:=by simp
   rw[hlen]at zi ⊢;have zk:IntKind.i64.wrap (ini.length:Int)=ini.length:=wrap_i64 _ (by omega) (by omega);have hg:((ini++[y]).map encIv)[ini.length]? =some (encIv y):=by simp
   have zb:(ini.length:Int)<ini.length+1:=by omega
   refine Qw tOk mixed [] (.val 0 (.val 1 (.val 2 (.val 3 (.val 4 (.val 5 (.val 6 (.val 7 (.val 8 (.val 9 (.val 10 (.val 11 (.val 12 (.val 13 (.done))))))))))))))) rfl (by kernel_rfl) ?_;simp[Qd gA,zk,hg,zj,zb];refine Qa rfl (fun h1=> ?_) (fun h1=> ?_)
   ·repeat first|(refine r_ ?_;simp)|refine q_ ?_
    refine Qw tOk mixed [14] (.val 0 (.val 1 (.val 2 (.val 3 (.val 4 (.val 5 (.val 6 (.val 7 (.val 8 (.val 9 (.val 10 (.val 11 (.val 12 (.val 13 (.one 14 (.done)))))))))))))))) rfl (by kernel_rfl) ?_;simp[Qd gA,zk,hg,zj,zb,Qr gA];repeat first|(refine r_ ?_;simp[hw])|refine q_ ?_
    have hR:Wy (ini++[y]) x=ini++[⟨y.lo,if y.hi<x.hi then x.hi else y.hi⟩]:=by rw[El,if_pos (by simpa using h1)]
    rw[hR]at z6;refine Qb (sl':=[(3,.sl p 2 0 (ini.length+1)),(9,LIv l'),(10,.i l'.length),(11,.i (j+1:Nat))]) ?_ (by simp);have:=z6 p _ ⟨by omega,g.upd [AObj.vars [AV.i x.lo,AV.i x.hi]] _⟩ (by omega);simpa using this
   ·repeat first|(refine r_ ?_;simp)|refine q_ ?_
    refine Qm tOk rfl rfl N1 rfl u0z rfl (by decide) (by decide) rfl rfl rfl ?_;simp[Qd gA,Qr gA];refine⟨by simp[Rl,Qd gA,Qr gA]<;>omega,?_⟩;repeat first|(refine r_ ?_;simp[hw])|refine q_ ?_
    have hR:Wy (ini++[y]) x=ini++[y]++[x]:=by rw[El,if_neg (by simpa using h1)]
    rw[hR]at z6;refine Qb (sl':=[(3,.sl (G.length+2) 2 0 (ini.length+2)),(9,LIv l'),(10,.i l'.length),(11,.i (j+1:Nat))]) ?_ (by simp);have:=z6 (G.length+2) _ ⟨by omega,g.put [AObj.vars [AV.i x.lo,AV.i x.hi],AObj.arr 144 2 [encIv x]] _ rfl⟩ (by omega);simpa using this
 ·have ze:j=l'.length:=by simp at zg;omega
  subst ze;rw[yF]at g ⊢;refine E7 p g.arr ?_;simp;rw[zS (by simp)];repeat first|(refine r_ ?_;simp)|refine q_ ?_
  have zo:=(zA.1 g.arr).1;have zg:=g.ge;refine⟨by omega,fun i h1 h2=> ?_⟩;rw[zB (by omega),g.keep i (by omega)];exact z1 i h1 h2
end Go.Abs
namespace Go.Abs
open Go Go.Proofs
def Gj(F:Nat→List Iv)(T i:Nat):List AV:=(yD T).map fun k=>if k<i then encL (F k)else .nils
theorem g0m(F:Nat→List Iv)(T i:Nat):(Gj F T i).length=T:=by simp[Gj]
theorem k0n(F:Nat→List Iv)(T:Nat):zT T AV.nils=Gj F T 0:=by refine wK (by simp[Gj]) fun k h1 h2=>by simp[Gj]
theorem d0k(F:Nat→List Iv){T i:Nat}(h:i<T):(Gj F T i)[i]? =some .nils:=by simp[Gj,h]
theorem c0k(F:Nat→List Iv){T i:Nat}(h:i<T):(Gj F T i).set i (encL (F i))=Gj F T (i+1):=by
 refine wK (by simp[Gj]) fun k h1 h2=> ?_;have hk:k<T:=by simpa[Gj]using h2
 rw[List.getElem_set];by_cases e:i=k
 ·subst e;simp[Gj]
 ·rw[if_neg e];simp only[Gj,List.getElem_map,List.getElem_range];by_cases h3:k<i
  ·rw[if_pos h3,if_pos (by omega)]
  ·rw[if_neg h3,if_neg (by omega)]
theorem N0(F:Nat→List Iv)(T:Nat):Gj F T T=((yD T).map F).map encL:=by
 refine wK (by simp[Gj]) fun k h1 h2=> ?_;have hk:k<T:=by simpa[Gj]using h1
 simp[Gj,hk]
theorem k06(F:Nat→List Iv)(T:Nat):(Gj F T T).all (fun x=>x.cells.all AV.pure)=true:=by rw[N0,zM];intro x hx;obtain⟨s,_,rfl⟩:=List.mem_map.1 hx;simp[AV.cells,AV.pure]
theorem x0b{T:Nat}{l:List Prd}(hl:∀p∈l,PWf T p){i:Nat}{y:Iv}(hy:y∈Q3 l i):Ge y∧y.lo≤y.hi:=by
 obtain⟨p,hp,hx⟩:=Rn.1 hy;by_cases hi:i<p.length
 ·rw[W1 hi]at hx;exact⟨c1d (hl p hp) (zH hi) y hx,((hl p hp).2 _ (zH hi)).1.1 y hx⟩
 ·simp[yP,hi]at hx
theorem g0q(T:Nat)(l:List Prd):(Lk T l).length=T:=by simp[Lk]
attribute [local irreducible] Rm Q3 Lk Gj
theorem Bg(T:Nat)(l:List Prd)(hT:T≤16)(hl:∀p∈l,PWf T p)(hn:∀i,i<T→(Q3 l i).length≤1000000)(y1:l.length≤1000000):PC Tryz.prog 53 [.i T,LP l] (fun r=>r=encP (Lk T l)):=by
 refine Qh tOk Tryz.func53 rfl Tryz.results53 rfl (by simp[Tryz.ntmps53]) ?_;rw[Tryz.ntmps53];simp only[Qe];simp only[encP];repeat first|(refine r_ ?_;simp)|refine q_ ?_
 refine Tv tOk rfl rfl rfl T68 rfl N1 rfl rfl rfl (n:=T) (by simp;omega) (by unfold maxLen;omega) .nils rfl ?_;simp;repeat first|(refine r_ ?_;simp)|refine q_ ?_
 rw[k0n (fun k=>Rm (Q3 l k))];refine Ju 1 rfl ?_;simp;refine Ql (Qb (sl':=[(0,.i T),(1,LP l),(4,.vptr 0 0),(5,.vptr 2 0),(12,.i T),(13,.i (0:Nat))]) ?_ (by simp));refine Qn (F:=fun(u:Nat×List AObj)=>⟨[(0,.i T),(1,LP l),(4,.vptr 0 0),(5,.vptr 2 0),(12,.i T),(13,.i u.1)],u.2⟩)
  (fun u=>u.1≤T∧3≤u.2.length∧u.2[0]? =some (.vars [.nils])∧u.2[1]? =some (.va 145 1 (Gj (fun k=>Rm (Q3 l k)) T u.1))∧u.2[2]? =some (.vars [.sl 1 1 0 T])) (fun u=>T - u.1) ?_ (0,_) ⟨by simp,by simp,rfl,rfl,rfl⟩
 rintro⟨i,H2⟩ ⟨hi,hH,g0,g1,g2⟩ ih;simp only at hi hH g0 g1 g2 ih ⊢;repeat first|(refine r_ ?_;simp)|refine q_ ?_
 refine Qa rfl (fun zp=> ?_) (fun zq=> ?_)
 ·have z1:i<T:=by simpa using zp
  have hw:IntKind.i64.wrap ((i:Int)+1)=i+1:=wrap_i64 _ (by omega) (by omega);have zl:=c0k (fun k=>Rm (Q3 l k)) z1;have zr:=d0k (fun k=>Rm (Q3 l k)) z1;have z7:=g0m (fun k=>Rm (Q3 l k)) T i;have zd:=hn i z1;have ze:=fun H'=>ih (i+1,H');simp only[←zl]at ze;clear zl;generalize Gj (fun k=>Rm (Q3 l k)) T i=row at *
  repeat first|(refine r_ ?_;simp)|refine q_ ?_
  refine Pl 1 i 144 2 g1 zr ?_;refine Ql (Qb (sl':=[(0,.i T),(1,LP l),(4,.vptr 0 0),(5,.vptr 2 0),(6,.i i),(12,.i T),(13,.i i),(16,LP l),(17,.i l.length),(18,.i (0:Nat))]) ?_ (by simp));refine Qn (F:=fun(u:Nat×Nat×List AObj)=>⟨[(0,.i T),(1,LP l),(4,.vptr 0 0),(5,.vptr 2 0),(6,.i i),(12,.i T),(13,.i i),(16,LP l),(17,.i l.length),(18,.i u.1)],u.2.2⟩)
   (fun u=>u.1≤l.length∧3≤u.2.1∧u.2.2[0]? =some (.vars [.nils])∧u.2.2[1]? =some (.va 145 1 (row.set i (.sl u.2.1 2 0 (Q3 (l.take u.1) i).length)))∧u.2.2[2]? =some (.vars [.sl 1 1 0 T])∧u.2.2[u.2.1]? =some (.arr 144 2 ((Q3 (l.take u.1) i).map encIv))) (fun u=>l.length - u.1) ?_
   (0,H2.length,_) ⟨by simp,hH,Qf (by decide) (Qd g0 _) _,by rw[ws,Al];exact Qk (Qd g1 _) _,Qf (by decide) (Qd g2 _) _,by rw[ws,Al];simp only;rw[zB (i:=1) (j:=H2.length) (by omega)];simp⟩
  rintro⟨j,q,G⟩ ⟨hj,zt,k0,k1,k2,k3⟩ ih2;simp only at hj zt k0 k1 k2 k3 ih2 ⊢;repeat first|(refine r_ ?_;simp)|refine q_ ?_
  refine Qa rfl (fun zf=> ?_) (fun zg=> ?_)
  ·have z6:j<l.length:=by simpa using zf
   have zm:IntKind.i64.wrap ((j:Int)+1)=j+1:=wrap_i64 _ (by omega) (by omega);have hp:=hl _ (zH z6);have zh:i<l[j].length:=by rw[hp.1];exact z1
   have hst:=Dd z6 zh;have zi:(Q3 (l.take (j+1)) i).length≤1000000:=by refine yL ?_ zd;unfold Q3;rw[←xK (j+1) l,vZ,zX,xK];omega
   rw[hst,zX]at zi;have z8:=fun q' G'=>ih2 (j+1,q',G');simp only[hst]at z8;clear hst;repeat first|(refine r_ ?_;simp[z6,zh])|refine q_ ?_
   generalize hs:l[j][i]=s at *;generalize Q3 (l.take j) i=acc at *;refine Qw tOk mixed [13,15] (.val 0 (.val 2 (.val 3 (.val 4 (.val 5 (.val 6 (.val 7 (.val 8 (.val 9 (.val 10 (.val 11 (.val 12 (.two 1 (.one 13 (.val 14 (.one 15 (.done)))) 13 (.val 1 (.val 14 (.one 15 (.done))))))))))))))))) rfl (by kernel_rfl) ?_
   simp[Qd k1,Qd k2,z1,zh,z6,hs,z7];have zu:q≠0:=by omega
   have zv:q≠1:=by omega
   have zw:q≠2:=by omega
   have y2:=(zA.1 k3).1;have m0:∀L,(G.set q .dead++L)[0]? =some (AObj.vars [AV.nils]):=fun L=>Qd (Qf zu k0 _) L;have m1:∀L,(G.set q .dead++L)[1]? =some (.va 145 1 (row.set i (.sl q 2 0 acc.length))):=fun L=>Qd (Qf zv k1 _) L;have zc:∀L hh,(G.set q .dead++L)[1]'hh= .va 145 1 (row.set i (.sl q 2 0 acc.length)):=fun L hh=>by have:=m1 L;rw[zF hh]at this;exact Option.some.inj this
   have m2:∀L,(G.set q .dead++L)[2]? =some (AObj.vars [AV.sl 1 1 0 T]):=fun L=>Qd (Qf zw k2 _) L;have n2:∀L,(G++L)[2]? =some (AObj.vars [AV.sl 1 1 0 T]):=fun L=>Qd k2 L;refine⟨?_,?_⟩
   ·refine Qm tOk rfl rfl N1 rfl u0z rfl (by decide) (by decide) rfl rfl rfl ?_;simp[Qd k3,Qr k3,m0,m1,zc,m2,n2,z1,z7];refine⟨by simp[Rl,Qd k3,Qr k3,m0,m1,zc,m2,n2,z1,z7]<;>omega,?_⟩;repeat first|(refine r_ ?_;simp[zm])|refine q_ ?_
    refine Qb (sl':=[(0,.i T),(1,LP l),(4,.vptr 0 0),(5,.vptr 2 0),(6,.i i),(12,.i T),(13,.i i),(16,LP l),(17,.i l.length),(18,.i (j+1:Nat))]) ?_ (by simp);refine z8 (G.length+1) _ ⟨by omega,by omega,Qf (by decide) (m0 _) _,?_,Qf (by decide) (m2 _) _,?_⟩ (by omega)
    ·rw[Qk (m1 _) _];simp
    ·rw[zB (by omega),zE (by simp)];simp
   ·refine Qm tOk rfl rfl N1 rfl u0z rfl (by decide) (by decide) rfl rfl rfl ?_;simp[Qd k3,Qr k3,m0,m1,zc,m2,n2,z1,z7];refine⟨by simp[Rl,Qd k3,Qr k3,m0,m1,zc,m2,n2,z1,z7]<;>omega,?_⟩;repeat first|(refine r_ ?_;simp[zm])|refine q_ ?_
    refine Qb (sl':=[(0,.i T),(1,LP l),(4,.vptr 0 0),(5,.vptr 2 0),(6,.i i),(12,.i T),(13,.i i),(16,LP l),(17,.i l.length),(18,.i (j+1:Nat))]) ?_ (by simp);refine z8 (G.length+1) _ ⟨by omega,by omega,Qf (by decide) (m0 _) _,?_,Qf (by decide) (m2 _) _,?_⟩ (by omega)
    ·rw[Qk (m1 _) _];simp
    ·rw[zB (by omega),zE (by simp)];simp
  ·have zb:j=l.length:=by simp at zg;omega
   subst zb;rw[yF]at k1 k3;have zn:∀y∈Q3 l i,Ge y∧y.lo≤y.hi:=fun y hy=>x0b hl hy;have y3:∀L,(G++L)[2]? =some (AObj.vars [AV.sl 1 1 0 T]):=fun L=>Qd k2 L;have zx:∀hh,G[1]'hh= .va 145 1 (row.set i (.sl q 2 0 (Q3 l i).length)):=fun hh=>by rw[zF hh]at k1;exact Option.some.inj k1
   repeat first|(refine r_ ?_;simp)|refine q_ ?_
   refine Qw tOk mixed [8,10] (.val 0 (.val 2 (.val 3 (.val 4 (.val 5 (.val 6 (.val 7 (.two 1 (.one 8 (.val 9 (.one 10 (.done)))) 8 (.val 1 (.val 9 (.one 10 (.done)))))))))))) rfl (by kernel_rfl) ?_;simp[k1,zx,k2,z1,z7];refine⟨?_,?_⟩
   ·refine Q9 rfl rfl (Z6 G q (Q3 l i) k3 zd zn) rfl ?_;rintro r H' ⟨rfl,hl',za⟩;have zy:=(zA.1 k2).1;have u0:=(za 0 (by omega) (by omega)).trans k0;have u1:=(za 1 (by omega) (by omega)).trans k1;have u2:=(za 2 (by omega) (by omega)).trans k2;have zj:∀hh,H'[1]'hh= .va 145 1 (row.set i (.sl q 2 0 (Q3 l i).length)):=fun hh=>by rw[zF hh]at u1;exact Option.some.inj u1
    simp[u1,zj,u2,z1,z7];repeat first|(refine r_ ?_;simp[hw])|refine q_ ?_
    refine Qb (sl':=[(0,.i T),(1,LP l),(4,.vptr 0 0),(5,.vptr 2 0),(12,.i T),(13,.i (i+1:Nat))]) ?_ (by simp);exact ze _ ⟨by omega,by simp;omega,Qf (by decide) u0 _,Qk u1 _,Qf (by decide) u2 _⟩ (by omega)
   ·refine Q9 rfl rfl (Z6 G q (Q3 l i) k3 zd zn) rfl ?_;rintro r H' ⟨rfl,hl',za⟩;have zy:=(zA.1 k2).1;have u0:=(za 0 (by omega) (by omega)).trans k0;have u1:=(za 1 (by omega) (by omega)).trans k1;have u2:=(za 2 (by omega) (by omega)).trans k2;have zj:∀hh,H'[1]'hh= .va 145 1 (row.set i (.sl q 2 0 (Q3 l i).length)):=fun hh=>by rw[zF hh]at u1;exact Option.some.inj u1
    simp[u1,zj,u2,z1,z7];repeat first|(refine r_ ?_;simp[hw])|refine q_ ?_
    refine Qb (sl':=[(0,.i T),(1,LP l),(4,.vptr 0 0),(5,.vptr 2 0),(12,.i T),(13,.i (i+1:Nat))]) ?_ (by simp);exact ze _ ⟨by omega,by simp;omega,Qf (by decide) u0 _,Qk u1 _,Qf (by decide) u2 _⟩ (by omega)
 ·have zk:i=T:=by simp at zq;omega
  subst zk;refine Pe 1 g1 (k06 _ _) ?_;rw[N0]at *
  have zz:(yD i).map (fun k=>Rm (Q3 l k))=Lk i l:=by unfold Lk;rfl
  rw[zz]at *;refine Ea 1 (Qk g1 _) 2 (Qf (by decide) g2 _) ?_
  have zo:=g0q i l;have e0:∀Y,((H2.set 1 AObj.dead).set 2 Y)[0]? =some (AObj.vars [AV.nils]):=fun Y=>Qf (by decide) (Qf (by decide) g0 _) _;have y0:∀Y hh,((H2.set 1 AObj.dead).set 2 Y)[0]'hh=AObj.vars [AV.nils]:=fun Y hh=>by have:=e0 Y;rw[zF hh]at this;exact Option.some.inj this
  have e2:∀Y,((H2.set 1 AObj.dead).set 2 Y)[2]? =some Y:=fun Y=>Qk (Qf (by decide) g2 _) _;have e3:∀Y Z,(((H2.set 1 AObj.dead).set 2 Y).set 0 Z)[0]? =some Z:=fun Y Z=>Qk (e0 Y) _;simp[zo];rw[zS (by simp[zo])];repeat first|(refine r_ ?_;simp[e0,y0,e2,e3])|refine q_ ?_
end Go.Abs
namespace Go.Abs
open Go Go.Proofs
theorem SL.le{K G:List AObj}{p e sz:Nat}{xs:List AV}(h:SL K G p e sz xs):K.length≤G.length:=by have:=(zA.1 h.arr).1;have:=h.ge;omega
attribute [local irreducible] upL Yv Yh
end Go.Abs
namespace Go.Abs
open Go Go.Proofs
attribute [local irreducible] q1v
theorem Vk(H:List AObj)(f:Nat)(a:Aut)(hf:H[f]? =some (.arr 4 1 (a.fin.map .bool)))(zd:a.fin.length≤1000000)(ze:a.mv.length≤1000000):
  FC Tryz.prog 54 [.agg [.i a.types,.sl f 1 0 a.fin.length,.list (a.mv.map encMv)]] H
   (fun r H'=>((Xl a=true∧r= .tup [.agg [.i 0,.nils,.nils],.i 5])∨(Xl a=false∧r= .tup [.agg [.i a.types,.sl f 1 0 a.fin.length,.list (a.mv.map encMv)],.i 0]))∧∀i,i<H.length→H'[i]? =H[i]?):=by
 refine W9 tOk Tryz.func54 rfl Tryz.results54 rfl (by simp[Tryz.ntmps54]) ?_;rw[Tryz.ntmps54];simp only[Qe];repeat first|(refine r_ ?_;simp)|refine q_ ?_
 refine Qa rfl (fun h=> ?_) (fun h=> ?_)
 ·repeat first|(refine r_ ?_;simp)|refine q_ ?_
  have hb:Xl a=true:=by rw[V5,xU];left;simp at h ⊢;omega
  exact⟨hb,fun i hi=>zD hi⟩
 have hb:(decide (256<a.fin.length) || decide (2048<a.mv.length))=false:=by simp at h ⊢;omega
 repeat first|(refine r_ ?_;simp)|refine q_ ?_
 refine Ql (Qb (sl':=[(1,.vptr H.length 0),(2,.vptr (H.length+1) 0),(18,.list (a.mv.map encMv)),(19,.i a.mv.length),(20,.i (0:Nat))]) ?_ (by simp));refine Qn (F:=fun(u:Nat×List AObj)=>⟨[(1,.vptr H.length 0),(2,.vptr (H.length+1) 0),(18,.list (a.mv.map encMv)),(19,.i a.mv.length),(20,.i u.1)],u.2⟩)
  (fun u=>u.1≤a.mv.length∧H.length+2≤u.2.length∧(∀i,i<H.length→u.2[i]? =H[i]?)∧u.2[H.length]? =some (.vars [.i a.types,.sl f 1 0 a.fin.length,.list (a.mv.map encMv)])∧u.2[H.length+1]? =some (.vars [.i 0,.nils,.nils])∧∀i,∀hi:i<a.mv.length,i<u.1→q1v a.mv[i]=false) (fun u=>a.mv.length - u.1) ?_ (0,_)
  ⟨by simp,by simp,fun i hi=>zD hi,by simp,by simp,fun i hi h=>by omega⟩
 rintro⟨j,G⟩ ⟨hj,hG,k0,k1,k2,hI⟩ ih;simp only at hj hG k0 k1 k2 hI ih ⊢;repeat first|(refine r_ ?_;simp)|refine q_ ?_
 refine Qa rfl (fun za=> ?_) (fun zb=> ?_)
 ·have z1:j<a.mv.length:=by simpa using za
  have hw:IntKind.i64.wrap ((j:Int)+1)=j+1:=wrap_i64 _ (by omega) (by omega);repeat first|(refine r_ ?_;simp[z1])|refine q_ ?_
  refine Qc rfl rfl (by simp) (Zu a.mv[j].on 112 (fun s=>decide (256<s.length)) x1u) rfl ?_;rintro _ rfl;simp;repeat first|(refine r_ ?_;simp)|refine q_ ?_
  have z8:∀L,(G++L)[H.length+1]? =some (.vars [.i 0,.nils,.nils]):=fun L=>Qd k2 L;refine Qa rfl (fun h=> ?_) (fun h=> ?_)
  ·have k3:∀L Y,((G++L).set (H.length+1) Y)[H.length+1]? =some Y:=fun L Y=>Qk (z8 L) Y;repeat first|(refine r_ ?_;simp[z8,k3])|refine q_ ?_
   have hm:q1v a.mv[j]=true:=by unfold q1v;exact h
   have z6:Xl a=true:=by rw[V5,xU];right;exact wH.2 ⟨_,zH z1,hm⟩
   exact⟨z6,fun i hi=>by rw[zB (by omega),zD (by omega)];exact k0 i hi⟩
  ·have hm:q1v a.mv[j]=false:=by unfold q1v;exact h
   repeat first|(refine r_ ?_;simp[hw])|refine q_ ?_
   refine Qb (sl':=[(1,.vptr H.length 0),(2,.vptr (H.length+1) 0),(18,.list (a.mv.map encMv)),(19,.i a.mv.length),(20,.i (j+1:Nat))]) ?_ (by simp);refine ih (j+1,_) ⟨by simp only;omega,by simp;omega,fun i hi=>(zD (by omega)).trans (k0 i hi),Qd k1 _,Qd k2 _,fun i hi zc=> ?_⟩ (by simp only;omega);by_cases e:i=j
   ·subst e;exact hm
   ·exact hI i hi (by simp only at zc;omega)
 ·have z7:j=a.mv.length:=by simp at zb;omega
  subst z7;have z6:Xl a=false:=by rw[V5,hb,Bool.false_or,wJ];intro m hm;obtain⟨i,hi,rfl⟩:=yE hm;rw[hI i hi hi];simp
  have k3:∀Y,(G.set (H.length+1) Y)[H.length+1]? =some Y:=fun Y=>Qk k2 Y;repeat first|(refine r_ ?_;simp[k1,k2,k3])|refine q_ ?_
  exact⟨z6,fun i hi=>by rw[zB (by omega)];exact k0 i hi⟩
end Go.Abs
