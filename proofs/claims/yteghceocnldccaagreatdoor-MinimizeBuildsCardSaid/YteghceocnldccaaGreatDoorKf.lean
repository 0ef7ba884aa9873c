/- Part Kf of the proof: an abstract machine over the model, and what the functions of the program hand back in its terms. No condition. -/
import Derived.Test.YteghceocnldccaaGreatDoorKe
import Derived.Test.YteghceocnldccaaGreatDoorKc
import Derived.Shelf.Small.Bits
import Derived.Shelf.Strconv.Itoa0
import Derived.Shelf.Strconv.Itoa1
import Derived.Shelf.LaysM
import Derived.Shelf.Strconv.Itoa2
import Derived.Shelf.Strconv.AppendUint10
import Derived.Shelf.Strconv.AppendInt10
import Derived.Shelf.Strconv.AppendIntPublic10
import Derived.Test.YteghceocnldccaaGreatDoorProg
import Derived.Lib.AppendIntMem
import Derived.Lib.ItoaLen
import Derived.Lib.Slices
import Derived.Lib.Hide
import Derived.Laws.IdiomStrings
import Derived.OwnWalk
import Derived.WalkKit
import Derived.BigCall
set_option linter.all false
open List renaming getElem?_eq_some_iff→zE,getElem?_set_self→zL,getElem?_eq_getElem→zI,take_succ_eq_append_getElem→zP,flatMap_append→x_,getD→yV,getElem_mem→zK,flatMap_cons→td,length_append→yB,length_cons→yS,cons_append→vT,take_zero→ww,mem_of_mem_take→xK,length_take→xN,append_nil→xD,append_assoc→xW,take_length→yP,map_append→yF,map_cons→yY,replicate→yH,set_append_right→uR,replicate_succ→ue,getElem?_append_right→zH,take_of_length_le→zO,pairwise_iff_getElem→yR,getElem?_append_left→zF,getElem?_set_ne→zB,foldl_nil→uE,eq_nil_or_concat→wV,concat_eq_append→wW,range→yJ,ext_getElem→wK,getElem_set→tn,getElem_map→uq,getElem_range→ui,all_eq_true→zW,mem_map→zR,take_append_drop→xP,drop_length→xX,nil_append→xY,any_eq_true→wN,getElem_of_mem→y_,mem_range→yW,length_map→zZ,length_filter_le→xM,range_succ→wp,ext_getElem?→xO,length_set→wT,getElem?_eq_none→yZ,length_singleton→vL,map_congr_left→xT,map_map→vN,map_nil→wI,mem_append→zV,mem_singleton→zT,mem_mapIdx→tr,getElem?_mapIdx→vA,mem_of_getElem?→zJ,getElem?_cons_succ→uJ,mem_replicate→ta,foldl_append→wG,getElem?_map→zX,map_set→tE
open Nat renaming zero_le→wn,le_trans→yO,le_refl→zQ
open Int renaming le_refl→xH
open Bool renaming or_eq_true→vQ
open Option renaming map_eq_some_iff→zU
set_option maxHeartbeats 8000000
set_option linter.unusedSimpArgs false
set_option maxRecDepth 100000
namespace Go.Abs
open Go Go.Proofs
attribute [local irreducible] J0
theorem w1a(p:Prd):PC Tryz.prog 173 [encP p] (fun r=>r= .fn (.func 197) [] [.iptr [.list (p.map encL)]]):=by refine Ql tOk Tryz.func173 rfl Tryz.results173 rfl (by simp[Tryz.ntmps173]) ?_;rw[Tryz.ntmps173];simp only[Qg];simp only[encP];repeat first|(refine r_ ?_;simp)|refine q_ ?_
theorem y09(p:Prd)(h0:J0 [p]=0)(hv:Wd p=false):PC Tryz.prog 121 [encP p] (fun r=>r= .tup [encSy (Qm p),.i 0]):=by
 have hlen:p.length≤16:=by
  unfold J0 at h0;by_cases hc:Ej p.length p=0
  ·have:=((Ek _ p).1 hc).1;omega
  ·rw[if_pos hc]at h0;exact absurd h0 hc
 obtain⟨t,x,rr,h1,h2,h3⟩:∃t x r,p[t]? =some (x::r)∧Qw p 0=(0+t,x.lo)∧∀j,j<t→p[j]? =some []:=by refine Po p 0 ?_;rw[Wd,List.all_eq_false]at hv;obtain⟨s,hs,hn⟩:=hv;exact⟨s,hs,fun e=>hn (by rw[e];rfl)⟩
 rw[Nat.zero_add]at h2;have za:Qm p=⟨t,x.lo⟩:=by rw[Qm,h2]
 rw[za];obtain⟨ze,zb⟩:=zE.1 h1;refine Ql tOk Tryz.func121 rfl Tryz.results121 rfl (by simp[Tryz.ntmps121]) ?_;rw[Tryz.ntmps121];simp only[Qg];simp only[encP,encSy];repeat first|(refine r_ ?_;simp)|refine q_ ?_
 refine I7 3 rfl ?_;simp;refine Qf rfl rfl (by simp) (K7 [p]) rfl ?_;rintro _ rfl;simp;repeat first|(refine r_ ?_;simp)|refine q_ ?_
 refine Qb rfl (fun h=>by rw[h0]at h;simp at h) (fun h=> ?_);repeat first|(refine r_ ?_;simp)|refine q_ ?_
 refine Qf rfl rfl (by simp) (w1a p) rfl ?_;rintro _ rfl;simp;repeat first|(refine r_ ?_;simp)|refine q_ ?_
 refine R7 rfl (Rf:=fun _ H'=>4<H'.length∧(∃sl' z8 a' b',H'[4]? =some (.lp false (some Code.ret) 25 sl' z8 a' b'))∧H'[1]? =some (.vars [.i t,.i x.lo])∧H'[2]? =some (.vars [.i 0])) ?_ ?_
 ·simp;refine B1 fun H1 z6=> ?_;have f1:H1[1]? =some (.vars [.i 0,.i 0]):=by rw[z6];rfl
  have f2:H1[2]? =some (.vars [.i 0]):=by rw[z6];rfl
  have f4:=congrArg (fun h:List AObj=>h[4]?) z6;simp at f4;have zc:H1.length=5:=by rw[z6];simp
  clear z6;refine Ea tOk Tryz.func197 rfl Tryz.results197 rfl (by simp[Tryz.ntmps197]) ?_;rw[Tryz.ntmps197];simp only[Qg];repeat first|(refine r_ ?_;simp)|refine q_ ?_
  refine Qp (Qc (sl':=[(0,.yld 4),(6,.list (p.map encL)),(7,.i p.length),(8,.i (0:Nat))]) ?_ (by simp));refine Qo (F:=fun(u:Nat)=>⟨[(0,.yld 4),(6,.list (p.map encL)),(7,.i p.length),(8,.i u)],H1⟩) (fun u=>u≤t) (fun u=>t - u) ?_ 0 (by simp);rintro j hj ih;have z1:j<p.length:=by omega
  have hw:IntKind.i64.wrap ((j:Int)+1)=j+1:=wrap_i64 _ (by omega) (by omega);repeat first|(refine r_ ?_;simp)|refine q_ ?_
  refine Qb rfl (fun _=> ?_) (fun zd=>by simp at zd;omega);by_cases hjt:j=t
  ·subst hjt;repeat first|(refine r_ ?_;simp[z1,zb])|refine q_ ?_
   refine Pt rfl rfl (q:=4) rfl rfl f4 rfl rfl rfl (fun jm K2=>jm=some Code.ret∧5≤K2.length∧K2[1]? =some (.vars [.i j,.i x.lo])∧K2[2]? =some (.vars [.i 0])) ?_ ?_
   ·simp[T6];have e1:=Qd (j:=4) (by decide) f1 .dead;have e2:=Qd (j:=4) (by decide) f2 .dead;have e4:=Qj f4 .dead;have e6:(H1.set 4 .dead).length=5:=by simp[zc]
    generalize H1.set 4 .dead=E at *
    have e3:∀y,(E.set 1 y)[2]? =some (.vars [.i 0]):=fun y=>Qd (by decide) e2 y;repeat first|(refine r_ ?_;simp[e1,e2,e3])|refine q_ ?_
    exact⟨Qd (by decide) (Qd (by decide) e4 _) _,rfl,by simp[e6],Qd (by decide) (Qj e1 _) _,Qj (e3 _) _⟩
   ·rintro jm K2 ⟨rfl,v1,v2,v3⟩;simp;repeat first|(refine r_ ?_;simp)|refine q_ ?_
    have v6:4<K2.length:=by omega
    refine Qb rfl (fun _=> ?_) (fun h=>by cases h);repeat first|(refine r_ ?_;simp)|refine q_ ?_
    exact⟨by omega,⟨_,_,_,_,zL v6⟩,v2,v3⟩
  ·have z7:p[j]=[]:=by have:=h3 j (by omega);rw[zI z1]at this;exact Option.some.inj this
   repeat first|(refine r_ ?_;simp[z1,z7])|refine q_ ?_
   refine Q6 rfl rfl ?_;simp;refine Qk rfl ?_;simp;repeat first|(refine r_ ?_;simp[hw])|refine q_ ?_
   exact Qc (sl':=[(0,.yld 4),(6,.list (p.map encL)),(7,.i p.length),(8,.i (j+1:Nat))]) (ih (j+1) (by omega) (by omega)) (by simp)
 ·rintro r H' ⟨hl,⟨sl',z8,a',b',k4⟩,k1,k2⟩;refine⟨_,_,_,_,_,_,_,k4,?_⟩;simp;have u1:=Qd (j:=4) (by decide) k1 .dead;have u2:=Qd (j:=4) (by decide) k2 .dead;generalize H'.set 4 .dead=E at *
  repeat first|(refine r_ ?_;simp[u1,u2])|refine q_ ?_
end Go.Abs
namespace Go.Abs
open Go Go.Proofs
abbrev x20:Iv:=⟨-1099511627776,1099511627776⟩
theorem Uc(i:Nat):Qv [] i=[]:=rfl
theorem P3{l:List Prd}{j i:Nat}(hj:j<l.length)(hi:i<l[j].length):Qv (l.take (j+1)) i=Qv (l.take j) i++l[j][i]:=by unfold Qv;rw[zP hj,x_];simp[yV,hi]
theorem Uo{T:Nat}{l:List Prd}(hl:∀p∈l,PCk T p)(i:Nat):(Qv l i).length≤256 * l.length:=by
 induction l with
 |nil=>simp[Qv]
 |cons p r ih=>
  have h1:=ih (fun q hq=>hl q (by simp[hq]));have h2:(p.getD i []).length≤256:=by
   by_cases hi:i<p.length
   ·rw[Wo hi];exact((hl p (by simp)).2 _ (zK hi)).len
   ·simp[yV,hi]
  unfold Qv at *;rw[td,yB,yS];omega
def Jz(xs:List Iv):List Int:=N9 (x20::xs)
theorem d0h(xs:List Iv)(x:Iv):Jz (xs++[x])=Jz xs++[x.lo,x.hi+1]:=by unfold Jz;rw[←vT,y0f]
theorem Fs(xs:List Iv):(Jz xs).length=2 * xs.length+2:=by rw[Jz,d03];simp;omega
theorem Zx(l:List Prd)(i:Nat):Lib.compact (Rw (Jz (Qv l i)))=Wf l i:=rfl
attribute [local irreducible] Jz Rw Lib.compact Qv
theorem j1q(T:Nat)(l:List Prd)(i:Nat)(hi:i<T)(hT:T≤16)(hl:∀p∈l,PCk T p)(hn:l.length≤256):PC Tryz.prog 168 [LP l,.i i] (fun r=>r=LI (Wf l i)):=by
 refine Ql tOk Tryz.func168 rfl Tryz.results168 rfl (by simp[Tryz.ntmps168]) ?_;rw[Tryz.ntmps168];simp only[Qg];repeat first|(refine r_ ?_;simp)|refine q_ ?_
 have h2:Jz (Qv (l.take 0) i)=[-1099511627776,1099511627777]:=by rw[ww,Uc,Jz];rfl
 have zj:=Uo hl i;refine Qp (Qc (sl':=[(0,LP l),(1,.i i),(5,.sl 0 1 0 (Jz (Qv (l.take 0) i)).length),(11,LP l),(12,.i l.length),(13,.i (0:Nat))]) ?_ (by rw[h2];simp));refine Qo (F:=fun(u:Nat×Nat×List AObj)=>⟨[(0,LP l),(1,.i i),(5,.sl u.2.1 1 0 (Jz (Qv (l.take u.1) i)).length),(11,LP l),(12,.i l.length),(13,.i u.1)],u.2.2⟩)
  (fun u=>u.1≤l.length∧SL [] u.2.2 u.2.1 3 1 ((Jz (Qv (l.take u.1) i)).map (AV.int .i64))) (fun u=>l.length - u.1) ?_ (0,0,_) ⟨by simp,by rw[h2];exact⟨rfl,by simp,fun j hj=>by simp at hj⟩⟩
 rintro⟨j,q,H2⟩ ⟨hj,g⟩ ih;simp only at hj g ih ⊢;repeat first|(refine r_ ?_;simp)|refine q_ ?_
 refine Qb rfl (fun zk=> ?_) (fun zl=> ?_)
 ·have z6:j<l.length:=by simpa using zk
  have hw:IntKind.i64.wrap ((j:Int)+1)=j+1:=wrap_i64 _ (by omega) (by omega);have hp:=hl _ (zK z6);have z8:i<l[j].length:=by rw[hp.1];exact hi
  have hs:=hp.2 _ (zK z8);have zf:=P3 z6 z8;have za:=Uo (l:=l.take j) (fun p hp=>hl p (xK hp)) i;rw[xN]at za;have zg:=hs.len;have zb:=fun k hk=>hs.iv (j:=k) hk;repeat first|(refine r_ ?_;simp[z6,z8])|refine q_ ?_
  generalize l[j][i]=s at *;generalize hA:Qv (l.take j) i=A at *;refine Qp (Qc (sl':=[(0,LP l),(1,.i i),(5,.sl q 1 0 (Jz (A++s.take 0)).length),(11,LP l),(12,.i l.length),(13,.i j),(21,LIv s),(22,.i s.length),(23,.i (0:Nat))]) ?_ (by simp))
  refine Qo (F:=fun(u:Nat×Nat×List AObj)=>⟨[(0,LP l),(1,.i i),(5,.sl u.2.1 1 0 (Jz (A++s.take u.1)).length),(11,LP l),(12,.i l.length),(13,.i j),(21,LIv s),(22,.i s.length),(23,.i u.1)],u.2.2⟩)
   (fun u=>u.1≤s.length∧SL [] u.2.2 u.2.1 3 1 ((Jz (A++s.take u.1)).map (AV.int .i64))) (fun u=>s.length - u.1) ?_ (0,q,_) ⟨by simp,by rw[ww,xD];exact g.add _⟩
  rintro⟨m,q',H3⟩ ⟨hm,g'⟩ ih';simp only at hm g' ih' ⊢;repeat first|(refine r_ ?_;simp)|refine q_ ?_
  refine Qb rfl (fun zc=> ?_) (fun zd=> ?_)
  ·have z1:m<s.length:=by simpa using zc
   have zm:IntKind.i64.wrap ((m:Int)+1)=m+1:=wrap_i64 _ (by omega) (by omega);obtain⟨b1,b2,b3⟩:=zb m z1;have zn:IntKind.i64.wrap (s[m].hi+1)=s[m].hi+1:=wrap_i64 _ (by omega) (by omega);have zo:Jz (A++s.take (m+1))=Jz (A++s.take m)++[s[m].lo,s[m].hi+1]:=by rw[zP z1,←xW,d0h]
   have zh:=Fs (A++s.take m);rw[yB,xN]at zh;have zi:=fun q' H'=>ih' (m+1,q',H');simp only[zo]at zi;generalize Jz (A++s.take m)=acc at *
   repeat first|(refine r_ ?_;simp[z1,zn])|refine q_ ?_
   refine Qe tOk rfl rfl T40 rfl T3 rfl (by decide) (by decide) rfl rfl rfl ?_;simp[Qa g'.arr,Qi g'.arr];refine⟨by simp[Wa,Qa g'.arr,Qi g'.arr]<;>omega,?_⟩;repeat first|(refine r_ ?_;simp[zm])|refine q_ ?_
   refine Qc (sl':=[(0,LP l),(1,.i i),(5,.sl (H3.length+2) 1 0 (acc.length+2)),(11,LP l),(12,.i l.length),(13,.i j),(21,LIv s),(22,.i s.length),(23,.i (m+1:Nat))]) ?_ (by simp);have:=zi (H3.length+2) _ ⟨by omega,g'.put [AObj.vars [AV.i s[m].lo,AV.i s[m].hi],AObj.arr 3 1 [AV.i s[m].lo,AV.i (s[m].hi+1)]] _ rfl⟩ (by omega);simpa using this
  ·have z7:m=s.length:=by simp at zd;omega
   subst z7;rw[yP]at g' ⊢;repeat first|(refine r_ ?_;simp[hw])|refine q_ ?_
   refine Qc (sl':=[(0,LP l),(1,.i i),(5,.sl q' 1 0 (Jz (A++s)).length),(11,LP l),(12,.i l.length),(13,.i (j+1:Nat))]) ?_ (by simp);have:=ih (j+1,q',H3) ⟨by omega,by rw[zf];exact g'⟩ (by show l.length - (j+1)<l.length - j;omega);rw[zf]at this;exact this
 ·have ze:j=l.length:=by simp at zl;omega
  subst ze;rw[yP]at g ⊢;have zh:=Fs (Qv l i);rw[←Zx];generalize Jz (Qv l i)=acc at *
  repeat first|(refine r_ ?_;simp)|refine q_ ?_
  refine Q9 rfl rfl (Lt H2 q acc g.arr (by omega)) rfl ?_;rintro r H' ⟨rfl,rfl⟩;simp;repeat first|(refine r_ ?_;simp)|refine q_ ?_
  have g2:=Qj g.arr (.arr 3 1 ((Rw acc).map (AV.int .i64)));have zg:=I8 acc;rw[←zg];refine Q9 rfl rfl (P5 _ q (Rw acc) g2 (by omega) (Uv _)) rfl ?_;rintro r H' ⟨rfl,G,rfl⟩;simp;have g3:=Qj g.arr (.arr 3 1 ((Lib.compact (Rw acc)++G).map (AV.int .i64)));repeat first|(refine r_ ?_;simp)|refine q_ ?_
  rw[yF]at g3;simp[g3]
end Go.Abs
namespace Go.Abs
open Go Go.Proofs
attribute [simp] z2b T5 T9
def sb(b:Bool):UInt8:=if b then 1 else 0
def sgB(bs:List Bool):List UInt8:=bs.map sb
theorem f0k:∀ {a b:List Bool},sgB a=sgB b→a=b
 |[],[],_=>rfl
 |[],_::_,h=>by simp[sgB]at h
 |_::_,[],h=>by simp[sgB]at h
 |x::a,y::b,h=>by simp only[sgB,yY,List.cons.injEq]at h;obtain⟨h1,h2⟩:=h;rw[f0k (a:=a) (b:=b) h2];cases x<;>cases y<;>simp[sb]at h1 ⊢
theorem X8(bs:List Bool):(sgB bs).length=bs.length:=by simp[sgB]
def sgJ(bs:List Bool)(j:Nat):List AV:=(sgB (bs.take j)++yH (bs.length - j) 0).map byteAV
theorem j1r{bs:List Bool}{j:Nat}(h:j≤bs.length):(sgJ bs j).length=bs.length:=by simp[sgJ,sgB];omega
theorem x1v(bs:List Bool):yH bs.length (AV.int .u8 0)=sgJ bs 0:=by simp[sgJ,sgB]
theorem j1l(bs:List Bool):sgJ bs bs.length=(sgB bs).map byteAV:=by simp[sgJ]
theorem x2h{bs:List Bool}{j:Nat}(h:j<bs.length)(hb:bs[j]=true):(sgJ bs j).set j (AV.int .u8 1)=sgJ bs (j+1):=by
 have h1:(sgB (bs.take j)).length=j:=by simp[sgB];omega
 have e:bs.length - j=(bs.length - (j+1))+1:=by omega
 unfold sgJ;rw[yF,uR (h:=by simp[h1]),zP h,e,ue];have hm:j - min j bs.length=0:=by omega
 simp[h1,sgB,hb,sb,byteAV,hm]
theorem j1z{bs:List Bool}{j:Nat}(h:j<bs.length):(sgJ bs j)[j]? =some (AV.int .u8 0):=by
 have h1:(sgB (bs.take j)).length=j:=by simp[sgB];omega
 unfold sgJ;have e:bs.length - j=(bs.length - (j+1))+1:=by omega
 rw[yF,zH (by simp[h1]),e,ue];simp[h1]
theorem x2a{bs:List Bool}{j:Nat}(h:j<bs.length)(hb:bs[j]=false):sgJ bs j=sgJ bs (j+1):=by
 have e:bs.length - j=(bs.length - (j+1))+1:=by omega
 unfold sgJ;rw[zP h,e,ue];simp[sgB,hb,sb]
theorem j16{l:List Prd}{i j:Nat}(n:Int)(hj:j<l.length)(hi:i<l[j].length)(h:j<(Ij l i n).length):(Ij l i n)[j]=Pj l[j][i] n:=by simp[Ij,yV,hi]
attribute [local irreducible] sgJ sgB Pj Ij
theorem Bu(T:Nat)(l:List Prd)(i:Nat)(n:Int)(hi:i<T)(hT:T≤16)(hl:∀p∈l,PCk T p)(hn:l.length≤256):PC Tryz.prog 169 [LP l,.i i,.i n] (fun r=>r= .str (sgB (Ij l i n))):=by
 refine Ql tOk Tryz.func169 rfl Tryz.results169 rfl (by simp[Tryz.ntmps169]) ?_;rw[Tryz.ntmps169];simp only[Qg];have z6:(Ij l i n).length=l.length:=by simp[Ij]
 repeat first|(refine r_ ?_;simp)|refine q_ ?_
 refine Ec tOk rfl rfl rfl z2b rfl T5 rfl rfl rfl (n:=l.length) (by simp;omega) (by unfold maxLen;omega) (.int .u8 0) rfl ?_;simp;rw[←z6,x1v];repeat first|(refine r_ ?_;simp)|refine q_ ?_
 refine Qp (Qc (sl':=[(1,.i i),(2,.i n),(7,.sl 0 1 0 l.length),(15,LP l),(16,.i l.length),(17,.i (0:Nat))]) ?_ (by simp[z6]));refine Qo (F:=fun(u:Nat×List AObj)=>⟨[(1,.i i),(2,.i n),(7,.sl 0 1 0 l.length),(15,LP l),(16,.i l.length),(17,.i u.1)],u.2⟩)
  (fun u=>u.1≤l.length∧u.2[0]? =some (.arr 5 1 (sgJ (Ij l i n) u.1))) (fun u=>l.length - u.1) ?_ (0,_) ⟨by simp,rfl⟩
 rintro⟨j,H2⟩ ⟨hj,g⟩ ih;simp only at hj g ih ⊢;have ze:=j1r (bs:=Ij l i n) (j:=j) (by omega);repeat first|(refine r_ ?_;simp)|refine q_ ?_
 refine Qb rfl (fun zg=> ?_) (fun zh=> ?_)
 ·have z1:j<l.length:=by simpa using zg
  have hw:IntKind.i64.wrap ((j:Int)+1)=j+1:=wrap_i64 _ (by omega) (by omega);have hp:=hl _ (zK z1);have za:i<l[j].length:=by rw[hp.1];exact hi
  have hs:=hp.2 _ (zK za);have zi:=j16 n z1 za (by omega);have hT:=x2h (bs:=Ij l i n) (j:=j) (by omega);have hF:=x2a (bs:=Ij l i n) (j:=j) (by omega);rw[zi]at hT hF;have zb:x17 l[j][i] n=(Pj l[j][i] n,0):=by rw[x17,if_pos ((Bd _).2 hs)]
  have z7:=fun H'=>ih (j+1,H');simp only at z7;repeat first|(refine r_ ?_;simp[z1,za])|refine q_ ?_
  refine Qf rfl rfl (by simp) (Ht l[j][i] n) rfl ?_;rintro _ rfl;simp;rw[zb];generalize Pj l[j][i] n=b at *
  repeat first|(refine r_ ?_;simp)|refine q_ ?_
  have gL:∀L,(H2++L)[0]? =some (.arr 5 1 (sgJ (Ij l i n) j)):=fun L=>Qa g L;cases b with
  |true=>
   rw[←hT rfl]at z7;clear hT hF;refine Qb rfl (fun _=> ?_) (fun h=>by cases h);have zc:=j1z (bs:=Ij l i n) (j:=j) (by omega);have zj:∀hh,(sgJ (Ij l i n) j)[j]'hh=AV.int .u8 0:=fun hh=>by rw[zI hh]at zc;exact Option.some.inj zc
   have gL1:∀L hh,(H2++L)[0]'hh= .arr 5 1 (sgJ (Ij l i n) j):=fun L hh=>by have:=gL L;rw[zI hh]at this;exact Option.some.inj this
   repeat first|(refine r_ ?_;simp[gL,gL1,ze,z1,z6,zc,zj,hw])|refine q_ ?_
   refine Qc (sl':=[(1,.i i),(2,.i n),(7,.sl 0 1 0 l.length),(15,LP l),(16,.i l.length),(17,.i (j+1:Nat))]) ?_ (by simp);exact z7 _ ⟨by omega,Qj (gL _) _⟩ (by omega)
  |false=>
   rw[←hF rfl]at z7;refine Qb rfl (fun h=>by cases h) (fun _=> ?_);repeat first|(refine r_ ?_;simp[hw])|refine q_ ?_
   refine Qc (sl':=[(1,.i i),(2,.i n),(7,.sl 0 1 0 l.length),(15,LP l),(16,.i l.length),(17,.i (j+1:Nat))]) ?_ (by simp);exact z7 _ ⟨by omega,gL _⟩ (by omega)
 ·have zd:j=l.length:=by simp at zh;omega
  subst zd;have z8:=j1l (Ij l i n);rw[z6]at z8;rw[z8]at g ze;have zf:=X8 (Ij l i n);generalize sgB (Ij l i n)=s at *
  repeat first|(refine r_ ?_;simp)|refine q_ ?_
  refine M9 tOk rfl rfl z2b rfl T5 rfl T9 rfl rfl (s:=s) (by simp[g,zf,z6];rw[zO (by simp[zf,z6])]) rfl ?_;simp;repeat first|(refine r_ ?_;simp)|refine q_ ?_
end Go.Abs
namespace Go.Abs
open Go Go.Proofs Go.RowKit Go.Shelf Go.Lib Go.Sort
theorem N5(x y:Iv)(W:World):Calls Tryz.prog 180 #[.agg #[.int .i64 x.lo,.int .i64 x.hi],.agg #[.int .i64 y.lo,.int .i64 y.hi]] W fun e w'=>e= .returned (.int .i64 (Lib.compareInt x.lo y.lo))∧∃q os',w'=grow (W.drewN q) os':=by
 have z1:=fun W'=>Tryz.cmp_Compare_int x.lo y.lo W';generalize Lib.compareInt x.lo y.lo=r at z1 ⊢
 go_enter Tryz.func180,Tryz.ntmps180
 go_wp2_with (go_at_call 181;refine(z1 _).mono ?_;rintro e w' ⟨rfl,rfl⟩)
 go_ret
 exact⟨rfl,0,_,by rw[alloc_eq_grow,alloc_eq_grow,grow_grow];rfl⟩
theorem w17(H:List AObj)(p:Nat)(l:List Iv)(hp:H[p]? =some (.arr 187 2 (l.map encIv)))(hl:l.length≤1000000):
  FC Tryz.prog 179 [.sl p 2 0 l.length,.fn (.func 180) [] []] H
   (fun r H'=>r= .tup []∧∃l':List Iv,l'.Perm l∧Cl l'∧H'=H.set p (.arr 187 2 (l'.map encIv))):=by
 refine(d0z (xs:=l.map encIv) (Tw Tryz.func179 rfl rfl) (by simp) hp (w2d l) [.func (.func 180) #[] #[]] (fun w I m vs a b=>Ma _ w I m _ vs a b) (fun z1=>∃l':List Iv,l'.Perm l∧Cl l'∧z1=l'.map encIv) ?_ ?_).mono ?_
 ·intro b cap w hH hb hc;have eg:∀args w,(callFunc 180 args).run Tryz.prog w= .ok (.enter 180 args) w:=enters_of Tryz.func180 (by kernel_rfl) rfl;have:=AnyQ.slices_SortFunc Tryz.sortIv 2 Tryz.isAgg187 Tryz.sizeOf187 Lw (fun _=>rfl) (fun x v hv=>by simp[Lw]at hv;rcases hv with rfl|rfl<;>rfl) (fun x y=>Lib.compareInt x.lo y.lo) y2e 180 #[] b 0 cap l.toArray w eg (fun _ _ _ _ x y=>N5 x y _) hH hb (by simp;omega);change Calls Tryz.prog 179 _ _ _ at this;rw[show(l.toArray).size=l.length by simp]at this;refine Calls.mono (this) ?_;rintro e w' ⟨rfl,d',n,os,h1,h2,rfl⟩;obtain⟨s1,_,s3⟩:=h1;have hs:d'.toList.length=l.length:=by simpa using s1
  refine⟨rfl,d'.toList.map encIv,flatK Lw 2 d',n,os,⟨d'.toList,?_,?_,rfl⟩,by simp[hs],by simpa using w2d d'.toList,rfl⟩
  ·rw[show d'.extract 0 l.length=d' by simp[←hs],show l.toArray.extract 0 l.length=l.toArray by simp]at s3;simpa using s3
  ·refine yR.2 fun i j hi hj z6=> ?_;have:=h2 i j (wn _) z6 (by omega);rw[z2d,getElem!_pos d' i (by simpa using hi),getElem!_pos d' j (by simpa using hj)]at this;simpa using this
 ·rintro h;have z7:l=[]:=by simpa using h
  subst z7;exact⟨⟨[],.refl _,.nil,rfl⟩,fun w=>AnyF.slices_SortFunc_none Tryz.sortIv none 0 _ w⟩
 ·rintro r H' ⟨rfl,z1,⟨l',h1,h2,rfl⟩,rfl⟩;exact⟨rfl,l',h1,h2,rfl⟩
end Go.Abs
namespace Go.Abs
open Go Go.Proofs
theorem Dt(l l':List Iv)(z1:∀y∈l,y.lo≤y.hi)(hp:l'.Perm l)(hl:Cl l'):Qy [] l'=W4 l:=
 Jp l' (E4 l) [] (hp.trans (Ol l).1.symm) hl (Ol l).2 (fun y hy=>z1 y (hp.mem_iff.1 hy))
theorem SL.upd{K G:List AObj}{p e sz:Nat}{xs:List AV}(h:SL K G p e sz xs)(L:List AObj)(ys:List AV):SL K (G.set p (.arr e sz ys)++L) p e sz ys:=by have hp:=(zE.1 h.arr).1;have z1:=h.ge;refine⟨by rw[zF (by simpa using hp)];exact zL hp,z1,fun j hj=> ?_⟩;rw[zF (by simp;omega),zB (by omega)];exact h.keep j hj
attribute [local irreducible] W6 Qy W4
theorem Cq(H:List AObj)(q:Nat)(l:List Iv)(hq:H[q]? =some (.arr 187 2 (l.map encIv)))(hl:l.length≤1000000)(zf:∀y∈l,U7 y∧y.lo≤y.hi):
  FC Tryz.prog 124 [.sl q 2 0 l.length] H (fun r H'=>r=LIv (W4 l)∧H.length≤H'.length∧∀i,i<H.length→i≠q→H'[i]? =H[i]?):=by
 refine Ea tOk Tryz.func124 rfl Tryz.results124 rfl (by simp[Tryz.ntmps124]) ?_;rw[Tryz.ntmps124];simp only[Qg];repeat first|(refine r_ ?_;simp)|refine q_ ?_
 refine Q9 rfl rfl (w17 H q l hq hl) rfl ?_;rintro r H' ⟨rfl,l',h1,h2,rfl⟩;simp;have hl':l'.length≤1000000:=by rw[h1.length_eq];exact hl
 have zl:=h1.length_eq;have zc:∀y∈l',U7 y:=fun y hy=>(zf y (h1.mem_iff.1 hy)).1;rw[←Dt l l' (fun y hy=>(zf y hy).2) h1 h2,←zl];have g0:=Qj hq (.arr 187 2 (l'.map encIv));have z7:∀i,i≠q→(H.set q (.arr 187 2 (l'.map encIv)))[i]? =H[i]? :=fun i hi=>zB (fun e=>hi e.symm);have hlen:(H.set q (.arr 187 2 (l'.map encIv))).length=H.length:=by simp
 generalize H.set q (.arr 187 2 (l'.map encIv))=H1 at *
 repeat first|(refine r_ ?_;simp)|refine q_ ?_
 refine Qs (sl':=[(2,.nils),(3,.nils),(9,.sl q 2 0 l'.length),(10,.i l'.length),(11,.i (0:Nat))]) ?_ (by simp);refine Wh q g0 ?_;simp;rw[zO (by simp)];have z1:∀i,i<H.length→i≠q→(H1.set q .dead)[i]? =H[i]? :=fun i h1 h2=>by rw[zB (fun e=>h2 e.symm)];exact z7 i h2
 have z8:(H1.set q .dead).length=H.length:=by simp[hlen]
 generalize H1.set q .dead=K at *;refine Q3 3 187 2 rfl ?_
 simp;have zm:=SL.start K 187 2;refine Qp (Qc (sl':=[(3,.sl K.length 2 0 (Qy [] (l'.take 0)).length),(9,LIv l'),(10,.i l'.length),(11,.i (0:Nat))]) ?_ (by simp[z8,Qy]));refine Qo (F:=fun(u:Nat×Nat×List AObj)=>⟨[(3,.sl u.2.1 2 0 (Qy [] (l'.take u.1)).length),(9,LIv l'),(10,.i l'.length),(11,.i u.1)],u.2.2⟩)
  (fun u=>u.1≤l'.length∧SL K u.2.2 u.2.1 187 2 ((Qy [] (l'.take u.1)).map encIv)) (fun u=>l'.length - u.1) ?_ (0,K.length,_) ⟨by simp,by rw[ww,Qy,uE];exact zm⟩
 rintro⟨j,p,G⟩ ⟨hj,g⟩ ih;simp only at hj g ih ⊢;repeat first|(refine r_ ?_;simp)|refine q_ ?_
 refine Qb rfl (fun zn=> ?_) (fun zg=> ?_)
 ·have za:j<l'.length:=by simpa using zn
  have hw:IntKind.i64.wrap ((j:Int)+1)=j+1:=wrap_i64 _ (by omega) (by omega);have zh:Qy [] (l'.take (j+1))=W6 (Qy [] (l'.take j)) l'[j]:=by rw[zP za,Uu]
  have zi:(Qy [] (l'.take j)).length≤j:=yO (Rb _ _) (by simp;omega);have zd:∀y∈Qy [] (l'.take j),U7 y:=Iq _ _ (by simp) (fun y hy=>zc y (xK hy));have z6:=fun p' G'=>ih (j+1,p',G');simp only[zh]at z6;clear zh;generalize Qy [] (l'.take j)=acc at *;generalize hx:l'[j]=x at *
  repeat first|(refine r_ ?_;simp[za,hx])|refine q_ ?_
  rcases wV acc with rfl|⟨ini,y,rfl⟩
  ·refine Qn tOk mixed [] (.val 0 (.val 1 (.val 2 (.val 3 (.val 4 (.val 5 (.val 6 (.val 7 (.val 8 (.val 9 (.val 10 (.val 11 (.val 12 (.val 13 (.done))))))))))))))) rfl (by kernel_rfl) ?_;simp;refine Qk rfl ?_;simp;repeat first|(refine r_ ?_;simp)|refine q_ ?_
   refine Qe tOk rfl rfl U6 rfl Sl rfl (by decide) (by decide) rfl rfl rfl ?_;simp[Qa g.arr,Qi g.arr];refine⟨by simp[Wa,Qa g.arr,Qi g.arr]<;>omega,?_⟩;repeat first|(refine r_ ?_;simp[hw])|refine q_ ?_
   refine Qc (sl':=[(3,.sl (G.length+2) 2 0 1),(9,LIv l'),(10,.i l'.length),(11,.i (j+1:Nat))]) ?_ (by simp);have:=z6 (G.length+2) _ ⟨by omega,by rw[W6];exact g.put [AObj.vars [AV.i x.lo,AV.i x.hi],AObj.arr 187 2 [encIv x]] _ rfl⟩ (by omega);rw[W6]at this;simpa using this
  ·have zo:=(Eb _).1 (zd y (by simp)).2;have zj:IntKind.i64.wrap (y.hi+1)=y.hi+1:=wrap_i64 _ (by omega) (by omega);have gA:=g.arr;rw[wW]at g gA z6 zi ⊢;have hlen:(ini++[y]).length=ini.length+1:=by simp
   rw[hlen]at zi ⊢;have zk:IntKind.i64.wrap (ini.length:Int)=ini.length:=wrap_i64 _ (by omega) (by omega);have hg:((ini++[y]).map encIv)[ini.length]? =some (encIv y):=by simp
   have zb:(ini.length:Int)<ini.length+1:=by omega
   refine Qn tOk mixed [] (.val 0 (.val 1 (.val 2 (.val 3 (.val 4 (.val 5 (.val 6 (.val 7 (.val 8 (.val 9 (.val 10 (.val 11 (.val 12 (.val 13 (.done))))))))))))))) rfl (by kernel_rfl) ?_;simp[Qa gA,zk,hg,zj,zb];refine Qb rfl (fun h1=> ?_) (fun h1=> ?_)
   ·repeat first|(refine r_ ?_;simp)|refine q_ ?_
    refine Qn tOk mixed [14] (.val 0 (.val 1 (.val 2 (.val 3 (.val 4 (.val 5 (.val 6 (.val 7 (.val 8 (.val 9 (.val 10 (.val 11 (.val 12 (.val 13 (.one 14 (.done)))))))))))))))) rfl (by kernel_rfl) ?_;simp[Qa gA,zk,hg,zj,zb,Qi gA];repeat first|(refine r_ ?_;simp[hw])|refine q_ ?_
    have hR:W6 (ini++[y]) x=ini++[⟨y.lo,if y.hi<x.hi then x.hi else y.hi⟩]:=by rw[W9,if_pos (by simpa using h1)]
    rw[hR]at z6;refine Qc (sl':=[(3,.sl p 2 0 (ini.length+1)),(9,LIv l'),(10,.i l'.length),(11,.i (j+1:Nat))]) ?_ (by simp);have:=z6 p _ ⟨by omega,g.upd [AObj.vars [AV.i x.lo,AV.i x.hi]] _⟩ (by omega);simpa using this
   ·repeat first|(refine r_ ?_;simp)|refine q_ ?_
    refine Qe tOk rfl rfl U6 rfl Sl rfl (by decide) (by decide) rfl rfl rfl ?_;simp[Qa gA,Qi gA];refine⟨by simp[Wa,Qa gA,Qi gA]<;>omega,?_⟩;repeat first|(refine r_ ?_;simp[hw])|refine q_ ?_
    have hR:W6 (ini++[y]) x=ini++[y]++[x]:=by rw[W9,if_neg (by simpa using h1)]
    rw[hR]at z6;refine Qc (sl':=[(3,.sl (G.length+2) 2 0 (ini.length+2)),(9,LIv l'),(10,.i l'.length),(11,.i (j+1:Nat))]) ?_ (by simp);have:=z6 (G.length+2) _ ⟨by omega,g.put [AObj.vars [AV.i x.lo,AV.i x.hi],AObj.arr 187 2 [encIv x]] _ rfl⟩ (by omega);simpa using this
 ·have ze:j=l'.length:=by simp at zg;omega
  subst ze;rw[yP]at g ⊢;refine Wh p g.arr ?_;simp;rw[zO (by simp)];repeat first|(refine r_ ?_;simp)|refine q_ ?_
  have zp:=(zE.1 g.arr).1;have zg:=g.ge;refine⟨by omega,fun i h1 h2=> ?_⟩;rw[zB (by omega),g.keep i (by omega)];exact z1 i h1 h2
end Go.Abs
namespace Go.Abs
open Go Go.Proofs
def F3(F:Nat→List Iv)(T i:Nat):List AV:=(yJ T).map fun k=>if k<i then encL (F k)else .nils
theorem z01(F:Nat→List Iv)(T i:Nat):(F3 F T i).length=T:=by simp[F3]
theorem Cu(F:Nat→List Iv)(T:Nat):yH T AV.nils=F3 F T 0:=by refine wK (by simp[F3]) fun k h1 h2=>by simp[F3]
theorem w0z(F:Nat→List Iv){T i:Nat}(h:i<T):(F3 F T i)[i]? =some .nils:=by simp[F3,h]
theorem z0l(F:Nat→List Iv){T i:Nat}(h:i<T):(F3 F T i).set i (encL (F i))=F3 F T (i+1):=by
 refine wK (by simp[F3]) fun k h1 h2=> ?_;have hk:k<T:=by simpa[F3]using h2
 rw[tn];by_cases e:i=k
 ·subst e;simp[F3]
 ·rw[if_neg e];simp only[F3,uq,ui];by_cases h3:k<i
  ·rw[if_pos h3,if_pos (by omega)]
  ·rw[if_neg h3,if_neg (by omega)]
theorem Zv(F:Nat→List Iv)(T:Nat):F3 F T T=((yJ T).map F).map encL:=by
 refine wK (by simp[F3]) fun k h1 h2=> ?_;have hk:k<T:=by simpa[F3]using h1
 simp[F3,hk]
theorem d0b(F:Nat→List Iv)(T:Nat):(F3 F T T).all (fun x=>x.cells.all AV.pure)=true:=by rw[Zv,zW];intro x hx;obtain⟨s,_,rfl⟩:=zR.1 hx;simp[AV.cells,AV.pure]
theorem V9{T:Nat}{l:List Prd}(hl:∀p∈l,PWf T p){i:Nat}{y:Iv}(hy:y∈Qv l i):U7 y∧y.lo≤y.hi:=by
 obtain⟨p,hp,hx⟩:=Tc.1 hy;by_cases hi:i<p.length
 ·rw[Wo hi]at hx;exact⟨v1i (hl p hp) (zK hi) y hx,((hl p hp).2 _ (zK hi)).1.1 y hx⟩
 ·simp[yV,hi]at hx
theorem z0c(T:Nat)(l:List Prd):(U5 T l).length=T:=by simp[U5]
attribute [local irreducible] W4 Qv U5 F3
theorem Z8(T:Nat)(l:List Prd)(hT:T≤16)(hl:∀p∈l,PWf T p)(hn:∀i,i<T→(Qv l i).length≤1000000)(y2:l.length≤1000000):PC Tryz.prog 60 [.i T,LP l] (fun r=>r=encP (U5 T l)):=by
 refine Ql tOk Tryz.func60 rfl Tryz.results60 rfl (by simp[Tryz.ntmps60]) ?_;rw[Tryz.ntmps60];simp only[Qg];simp only[encP];repeat first|(refine r_ ?_;simp)|refine q_ ?_
 refine Ec tOk rfl rfl rfl T74 rfl U6 rfl rfl rfl (n:=T) (by simp;omega) (by unfold maxLen;omega) .nils rfl ?_;simp;repeat first|(refine r_ ?_;simp)|refine q_ ?_
 rw[Cu (fun k=>W4 (Qv l k))];refine F4 1 rfl ?_;simp;refine Qp (Qc (sl':=[(0,.i T),(1,LP l),(4,.vptr 0 0),(5,.vptr 2 0),(12,.i T),(13,.i (0:Nat))]) ?_ (by simp));refine Qo (F:=fun(u:Nat×List AObj)=>⟨[(0,.i T),(1,LP l),(4,.vptr 0 0),(5,.vptr 2 0),(12,.i T),(13,.i u.1)],u.2⟩)
  (fun u=>u.1≤T∧3≤u.2.length∧u.2[0]? =some (.vars [.nils])∧u.2[1]? =some (.va 171 1 (F3 (fun k=>W4 (Qv l k)) T u.1))∧u.2[2]? =some (.vars [.sl 1 1 0 T])) (fun u=>T - u.1) ?_ (0,_) ⟨by simp,by simp,rfl,rfl,rfl⟩
 rintro⟨i,H2⟩ ⟨hi,hH,g0,g1,g2⟩ ih;simp only at hi hH g0 g1 g2 ih ⊢;repeat first|(refine r_ ?_;simp)|refine q_ ?_
 refine Qb rfl (fun zq=> ?_) (fun zr=> ?_)
 ·have z1:i<T:=by simpa using zq
  have hw:IntKind.i64.wrap ((i:Int)+1)=i+1:=wrap_i64 _ (by omega) (by omega);have zm:=z0l (fun k=>W4 (Qv l k)) z1;have zt:=w0z (fun k=>W4 (Qv l k)) z1;have z7:=z01 (fun k=>W4 (Qv l k)) T i;have zd:=hn i z1;have ze:=fun H'=>ih (i+1,H');simp only[←zm]at ze;clear zm;generalize F3 (fun k=>W4 (Qv l k)) T i=row at *
  repeat first|(refine r_ ?_;simp)|refine q_ ?_
  refine Ak 1 i 187 2 g1 zt ?_;refine Qp (Qc (sl':=[(0,.i T),(1,LP l),(4,.vptr 0 0),(5,.vptr 2 0),(6,.i i),(12,.i T),(13,.i i),(16,LP l),(17,.i l.length),(18,.i (0:Nat))]) ?_ (by simp));refine Qo (F:=fun(u:Nat×Nat×List AObj)=>⟨[(0,.i T),(1,LP l),(4,.vptr 0 0),(5,.vptr 2 0),(6,.i i),(12,.i T),(13,.i i),(16,LP l),(17,.i l.length),(18,.i u.1)],u.2.2⟩)
   (fun u=>u.1≤l.length∧3≤u.2.1∧u.2.2[0]? =some (.vars [.nils])∧u.2.2[1]? =some (.va 171 1 (row.set i (.sl u.2.1 2 0 (Qv (l.take u.1) i).length)))∧u.2.2[2]? =some (.vars [.sl 1 1 0 T])∧u.2.2[u.2.1]? =some (.arr 187 2 ((Qv (l.take u.1) i).map encIv))) (fun u=>l.length - u.1) ?_
   (0,H2.length,_) ⟨by simp,hH,Qd (by decide) (Qa g0 _) _,by rw[ww,Uc];exact Qj (Qa g1 _) _,Qd (by decide) (Qa g2 _) _,by rw[ww,Uc];simp only;rw[zB (i:=1) (j:=H2.length) (by omega)];simp⟩
  rintro⟨j,q,G⟩ ⟨hj,zu,k0,k1,k2,k3⟩ ih2;simp only at hj zu k0 k1 k2 k3 ih2 ⊢;repeat first|(refine r_ ?_;simp)|refine q_ ?_
  refine Qb rfl (fun zf=> ?_) (fun zg=> ?_)
  ·have z6:j<l.length:=by simpa using zf
   have zn:IntKind.i64.wrap ((j:Int)+1)=j+1:=wrap_i64 _ (by omega) (by omega);have hp:=hl _ (zK z6);have zh:i<l[j].length:=by rw[hp.1];exact z1
   have zi:=P3 z6 zh;have zj:(Qv (l.take (j+1)) i).length≤1000000:=by refine yO ?_ zd;unfold Qv;rw[←xP (j+1) l,x_,yB,xP];omega
   rw[zi,yB]at zj;have z8:=fun q' G'=>ih2 (j+1,q',G');simp only[zi]at z8;clear zi;repeat first|(refine r_ ?_;simp[z6,zh])|refine q_ ?_
   generalize hs:l[j][i]=s at *;generalize Qv (l.take j) i=acc at *;refine Qn tOk mixed [13,15] (.val 0 (.val 2 (.val 3 (.val 4 (.val 5 (.val 6 (.val 7 (.val 8 (.val 9 (.val 10 (.val 11 (.val 12 (.two 1 (.one 13 (.val 14 (.one 15 (.done)))) 13 (.val 1 (.val 14 (.one 15 (.done))))))))))))))))) rfl (by kernel_rfl) ?_
   simp[Qa k1,Qa k2,z1,zh,z6,hs,z7];have zv:q≠0:=by omega
   have zw:q≠1:=by omega
   have zx:q≠2:=by omega
   have y3:=(zE.1 k3).1;have m0:∀L,(G.set q .dead++L)[0]? =some (AObj.vars [AV.nils]):=fun L=>Qa (Qd zv k0 _) L;have m1:∀L,(G.set q .dead++L)[1]? =some (.va 171 1 (row.set i (.sl q 2 0 acc.length))):=fun L=>Qa (Qd zw k1 _) L;have zc:∀L hh,(G.set q .dead++L)[1]'hh= .va 171 1 (row.set i (.sl q 2 0 acc.length)):=fun L hh=>by have:=m1 L;rw[zI hh]at this;exact Option.some.inj this
   have m2:∀L,(G.set q .dead++L)[2]? =some (AObj.vars [AV.sl 1 1 0 T]):=fun L=>Qa (Qd zx k2 _) L;have n2:∀L,(G++L)[2]? =some (AObj.vars [AV.sl 1 1 0 T]):=fun L=>Qa k2 L;refine⟨?_,?_⟩
   ·refine Qe tOk rfl rfl U6 rfl Sl rfl (by decide) (by decide) rfl rfl rfl ?_;simp[Qa k3,Qi k3,m0,m1,zc,m2,n2,z1,z7];refine⟨by simp[Wa,Qa k3,Qi k3,m0,m1,zc,m2,n2,z1,z7]<;>omega,?_⟩;repeat first|(refine r_ ?_;simp[zn])|refine q_ ?_
    refine Qc (sl':=[(0,.i T),(1,LP l),(4,.vptr 0 0),(5,.vptr 2 0),(6,.i i),(12,.i T),(13,.i i),(16,LP l),(17,.i l.length),(18,.i (j+1:Nat))]) ?_ (by simp);refine z8 (G.length+1) _ ⟨by omega,by omega,Qd (by decide) (m0 _) _,?_,Qd (by decide) (m2 _) _,?_⟩ (by omega)
    ·rw[Qj (m1 _) _];simp
    ·rw[zB (by omega),zH (by simp)];simp
   ·refine Qe tOk rfl rfl U6 rfl Sl rfl (by decide) (by decide) rfl rfl rfl ?_;simp[Qa k3,Qi k3,m0,m1,zc,m2,n2,z1,z7];refine⟨by simp[Wa,Qa k3,Qi k3,m0,m1,zc,m2,n2,z1,z7]<;>omega,?_⟩;repeat first|(refine r_ ?_;simp[zn])|refine q_ ?_
    refine Qc (sl':=[(0,.i T),(1,LP l),(4,.vptr 0 0),(5,.vptr 2 0),(6,.i i),(12,.i T),(13,.i i),(16,LP l),(17,.i l.length),(18,.i (j+1:Nat))]) ?_ (by simp);refine z8 (G.length+1) _ ⟨by omega,by omega,Qd (by decide) (m0 _) _,?_,Qd (by decide) (m2 _) _,?_⟩ (by omega)
    ·rw[Qj (m1 _) _];simp
    ·rw[zB (by omega),zH (by simp)];simp
  ·have zb:j=l.length:=by simp at zg;omega
   subst zb;rw[yP]at k1 k3;have zo:∀y∈Qv l i,U7 y∧y.lo≤y.hi:=fun y hy=>V9 hl hy;have y4:∀L,(G++L)[2]? =some (AObj.vars [AV.sl 1 1 0 T]):=fun L=>Qa k2 L;have zy:∀hh,G[1]'hh= .va 171 1 (row.set i (.sl q 2 0 (Qv l i).length)):=fun hh=>by rw[zI hh]at k1;exact Option.some.inj k1
   repeat first|(refine r_ ?_;simp)|refine q_ ?_
   refine Qn tOk mixed [8,10] (.val 0 (.val 2 (.val 3 (.val 4 (.val 5 (.val 6 (.val 7 (.two 1 (.one 8 (.val 9 (.one 10 (.done)))) 8 (.val 1 (.val 9 (.one 10 (.done)))))))))))) rfl (by kernel_rfl) ?_;simp[k1,zy,k2,z1,z7];refine⟨?_,?_⟩
   ·refine Q9 rfl rfl (Cq G q (Qv l i) k3 zd zo) rfl ?_;rintro r H' ⟨rfl,hl',za⟩;have zz:=(zE.1 k2).1;have u0:=(za 0 (by omega) (by omega)).trans k0;have u1:=(za 1 (by omega) (by omega)).trans k1;have u2:=(za 2 (by omega) (by omega)).trans k2;have zk:∀hh,H'[1]'hh= .va 171 1 (row.set i (.sl q 2 0 (Qv l i).length)):=fun hh=>by rw[zI hh]at u1;exact Option.some.inj u1
    simp[u1,zk,u2,z1,z7];repeat first|(refine r_ ?_;simp[hw])|refine q_ ?_
    refine Qc (sl':=[(0,.i T),(1,LP l),(4,.vptr 0 0),(5,.vptr 2 0),(12,.i T),(13,.i (i+1:Nat))]) ?_ (by simp);exact ze _ ⟨by omega,by simp;omega,Qd (by decide) u0 _,Qj u1 _,Qd (by decide) u2 _⟩ (by omega)
   ·refine Q9 rfl rfl (Cq G q (Qv l i) k3 zd zo) rfl ?_;rintro r H' ⟨rfl,hl',za⟩;have zz:=(zE.1 k2).1;have u0:=(za 0 (by omega) (by omega)).trans k0;have u1:=(za 1 (by omega) (by omega)).trans k1;have u2:=(za 2 (by omega) (by omega)).trans k2;have zk:∀hh,H'[1]'hh= .va 171 1 (row.set i (.sl q 2 0 (Qv l i).length)):=fun hh=>by rw[zI hh]at u1;exact Option.some.inj u1
    simp[u1,zk,u2,z1,z7];repeat first|(refine r_ ?_;simp[hw])|refine q_ ?_
    refine Qc (sl':=[(0,.i T),(1,LP l),(4,.vptr 0 0),(5,.vptr 2 0),(12,.i T),(13,.i (i+1:Nat))]) ?_ (by simp);exact ze _ ⟨by omega,by simp;omega,Qd (by decide) u0 _,Qj u1 _,Qd (by decide) u2 _⟩ (by omega)
 ·have zl:i=T:=by simp at zr;omega
  subst zl;refine Ue 1 g1 (d0b _ _) ?_;rw[Zv]at *
  have y0:(yJ i).map (fun k=>W4 (Qv l k))=U5 i l:=by unfold U5;rfl
  rw[y0]at *;refine Q1 1 (Qj g1 _) 2 (Qd (by decide) g2 _) ?_
  have zp:=z0c i l;have e0:∀Y,((H2.set 1 AObj.dead).set 2 Y)[0]? =some (AObj.vars [AV.nils]):=fun Y=>Qd (by decide) (Qd (by decide) g0 _) _;have y1:∀Y hh,((H2.set 1 AObj.dead).set 2 Y)[0]'hh=AObj.vars [AV.nils]:=fun Y hh=>by have:=e0 Y;rw[zI hh]at this;exact Option.some.inj this
  have e2:∀Y,((H2.set 1 AObj.dead).set 2 Y)[2]? =some Y:=fun Y=>Qj (Qd (by decide) g2 _) _;have e3:∀Y Z,(((H2.set 1 AObj.dead).set 2 Y).set 0 Z)[0]? =some Z:=fun Y Z=>Qj (e0 Y) _;simp[zp];rw[zO (by simp[zp])];repeat first|(refine r_ ?_;simp[e0,y1,e2,e3])|refine q_ ?_
end Go.Abs
namespace Go.Abs
open Go Go.Proofs
theorem GL.keepAll{K G G':List AObj}{S p:Nat}{pre post:List AV}{e sz:Nat}{xs:List AV}(h:GL K G S p pre post e sz xs)(hk:∀j,j<G.length→G'[j]? =G[j]?)(hl:G.length≤G'.length):GL K G' S p pre post e sz xs:=by have h1:=h.len;have h2:=h.lt;have h3:=(zE.1 h.arr).1;exact⟨(hk _ (by omega)).trans h.cell,(hk _ h3).trans h.arr,h.ge,h.lt,by omega,fun j hj z1=>(hk j (by omega)).trans (h.keep j hj z1)⟩
theorem SL.le{K G:List AObj}{p e sz:Nat}{xs:List AV}(h:SL K G p e sz xs):K.length≤G.length:=by have:=(zE.1 h.arr).1;have:=h.ge;omega
attribute [local irreducible] upL W2 Re
theorem v1d(T:Nat)(p:Prd)(hp:PWf T p)(hl:∀s∈p,s.length≤1000000)(hT:T≤1000):PC Tryz.prog 131 [encP p] (fun r=>r=encP (W8 p)):=by
 refine Ql tOk Tryz.func131 rfl Tryz.results131 rfl (by simp[Tryz.ntmps131]) ?_;rw[Tryz.ntmps131];simp only[Qg];simp only[encP];have hlen:=hp.1;repeat first|(refine r_ ?_;simp)|refine q_ ?_
 refine Wt 2 0 171 1 rfl rfl ?_;simp;obtain⟨K,hK⟩:∃K,K=[AObj.vars [.list (p.map encL)],AObj.vars [AV.nils],AObj.vars [AV.nils]]:=⟨_,rfl⟩
 have zn:=GL.start (K:=K) (S:=2) [] [] 171 1 (by rw[hK];simp);refine Qp (Qc (sl':=[(2,.vptr 1 0),(3,.vptr 2 0),(11,.list (p.map encL)),(12,.i p.length),(13,.i 0)]) ?_ (by simp));refine Qo (F:=fun(u:Nat×Nat×List AObj)=>⟨[(2,.vptr 1 0),(3,.vptr 2 0),(11,.list (p.map encL)),(12,.i p.length),(13,.i u.1)],u.2.2⟩)
  (fun u=>u.1≤p.length∧GL K u.2.2 2 u.2.1 [] [] 171 1 (upL (fun i=>W2 (p.getD i [])) u.1)) (fun u=>p.length - u.1) ?_ (0,K.length,_) ⟨by simp,by rw[Oi,hK]at *;exact zn⟩
 rintro⟨j,q,H2⟩ ⟨hj,g⟩ ih;simp only at hj g ih ⊢;repeat first|(refine r_ ?_;simp)|refine q_ ?_
 refine Qb rfl (fun zo=> ?_) (fun zp=> ?_)
 ·have z7:j<p.length:=by simpa using zo
  have hw:IntKind.i64.wrap ((j:Int)+1)=j+1:=wrap_i64 _ (by omega) (by omega);have hs:=hp.2 _ (zK z7);have zy:=hl _ (zK z7);have zz:=(Pm hs.1 hs.2).2.2;have zj:upL (fun i=>W2 (p.getD i [])) j++[encL (W2 p[j])]=upL (fun i=>W2 (p.getD i [])) (j+1):=by rw[Og,Wo z7]
  have z6:=Wy (fun i=>W2 (p.getD i [])) j;have zc:=fun q' H'=>ih (j+1,q',H');simp only[←zj]at zc;clear zj;generalize upL (fun i=>W2 (p.getD i [])) j=done at *
  repeat first|(refine r_ ?_;simp[z7])|refine q_ ?_
  generalize p[j]=l at *
  obtain⟨zk,hb⟩:=hs;refine Q3 6 187 2 rfl ?_;simp;have zd:=SL.start H2 187 2;refine Qp (Qc (sl':=[(2,.vptr 1 0),(3,.vptr 2 0),(6,.sl H2.length 2 0 0),(7,.i (-1099511627776)),(11,.list (p.map encL)),(12,.i p.length),(13,.i j),(17,LIv l),(18,.i l.length),(19,.i (0:Nat))]) ?_ (by simp));refine Qo (F:=fun(u:Nat×Nat×List Iv×Int×List AObj)=>⟨[(2,.vptr 1 0),(3,.vptr 2 0),(6,.sl u.2.1 2 0 u.2.2.1.length),(7,.i u.2.2.2.1),(11,.list (p.map encL)),(12,.i p.length),(13,.i j),(17,LIv l),(18,.i l.length),(19,.i u.1)],u.2.2.2.2⟩)
   (fun u=>u.1≤l.length∧SL H2 u.2.2.2.2 u.2.1 187 2 (u.2.2.1.map encIv)∧u.2.2.1++Re (l.drop u.1) u.2.2.2.1=W2 l) (fun u=>l.length - u.1) ?_ (0,H2.length,[],-1099511627776,_) ⟨by simp,zd,by simp[z0s]⟩
  rintro⟨k,p2,acc,n,G⟩ ⟨hk,s1,g2⟩ ih2;simp only at hk s1 g2 ih2 ⊢;have y0:acc.length≤1000001:=by have:=congrArg List.length g2;simp only[yB]at this;omega
  repeat first|(refine r_ ?_;simp)|refine q_ ?_
  refine Qb rfl (fun ze=> ?_) (fun zf=> ?_)
  ·have z1:k<l.length:=by simpa using ze
   have zq:=hb _ ⟨l[k],zK z1,xH _,zk.1 _ (zK z1)⟩;have zr:=hb _ ⟨l[k],zK z1,zk.1 _ (zK z1),xH _⟩;unfold inR at zq zr;have zl:IntKind.i64.wrap ((k:Int)+1)=k+1:=wrap_i64 _ (by omega) (by omega);have zt:IntKind.i64.wrap (l[k].lo - 1)=l[k].lo - 1:=wrap_i64 _ (by omega) (by omega);have zm:IntKind.i64.wrap (l[k].hi+1)=l[k].hi+1:=wrap_i64 _ (by omega) (by omega);rw[Ee z1,Aw]at g2;repeat first|(refine r_ ?_;simp[z1])|refine q_ ?_
   refine Qb rfl (fun h3=> ?_) (fun h3=> ?_)
   ·rw[if_pos (by simpa using h3)]at g2;repeat first|(refine r_ ?_;simp[z1,zt])|refine q_ ?_
    refine Qe tOk rfl rfl U6 rfl Sl rfl (by decide) (by decide) rfl rfl rfl ?_;simp[Qa s1.arr,Qi s1.arr];refine⟨by simp[Wa,Qa s1.arr,Qi s1.arr]<;>omega,?_⟩;repeat first|(refine r_ ?_;simp[z1,zl,zm])|refine q_ ?_
    refine Qc (sl':=[(2,.vptr 1 0),(3,.vptr 2 0),(6,.sl (G.length+2) 2 0 (acc.length+1)),(7,.i (l[k].hi+1)),(11,.list (p.map encL)),(12,.i p.length),(13,.i j),(17,LIv l),(18,.i l.length),(19,.i (k+1:Nat))]) ?_ (by simp);have:=ih2 (k+1,G.length+2,acc++[(⟨n,l[k].lo - 1⟩:Iv)],l[k].hi+1,_) ⟨by simp;omega,s1.put [AObj.vars [AV.i l[k].lo,AV.i l[k].hi],.arr 187 2 [encIv (⟨n,l[k].lo - 1⟩:Iv)]] ((acc++[(⟨n,l[k].lo - 1⟩:Iv)]).map encIv) rfl,by simpa using g2⟩ (by simp;omega);simpa using this
   ·rw[if_neg (by simpa using h3)]at g2;repeat first|(refine r_ ?_;simp[z1,zl,zm])|refine q_ ?_
    refine Qc (sl':=[(2,.vptr 1 0),(3,.vptr 2 0),(6,.sl p2 2 0 acc.length),(7,.i (l[k].hi+1)),(11,.list (p.map encL)),(12,.i p.length),(13,.i j),(17,LIv l),(18,.i l.length),(19,.i (k+1:Nat))]) ?_ (by simp);have:=ih2 (k+1,p2,acc,l[k].hi+1,_) ⟨by simp;omega,s1.add [AObj.vars [AV.i l[k].lo,AV.i l[k].hi]],by simpa using g2⟩ (by simp;omega);simpa using this
  ·have zb:k=l.length:=by simp at zf;omega
   subst zb;rw[xX,Dy]at g2;repeat first|(refine r_ ?_;simp)|refine q_ ?_
   refine Qb rfl (fun h3=> ?_) (fun h3=> ?_)
   ·rw[if_pos (by simpa using h3)]at g2;repeat first|(refine r_ ?_;simp)|refine q_ ?_
    refine Qe tOk rfl rfl U6 rfl Sl rfl (by decide) (by decide) rfl rfl rfl ?_;simp[Qa s1.arr,Qi s1.arr];refine⟨by simp[Wa,Qa s1.arr,Qi s1.arr]<;>omega,?_⟩;have s2:=s1.put [.arr 187 2 [encIv (⟨n,1099511627776⟩:Iv)]] ((acc++[(⟨n,1099511627776⟩:Iv)]).map encIv) rfl;have e1:(acc++[(⟨n,1099511627776⟩:Iv)]).length=acc.length+1:=by simp
    rw[g2]at s2 e1;rw[←e1];have e2:acc.map encIv++[AV.agg [AV.int IntKind.i64 n,AV.int IntKind.i64 1099511627776]]=(W2 l).map encIv:=by rw[←g2];simp
    rw[e2];refine Qs (sl':=[(2,.vptr 1 0),(3,.vptr 2 0),(6,.sl (G.length+1) 2 0 (W2 l).length),(11,.list (p.map encL)),(12,.i p.length),(13,.i j)]) ?_ (by simp);generalize zg:G.set p2 AObj.dead++[AObj.arr 187 2 [AV.agg [AV.int IntKind.i64 n,AV.int IntKind.i64 1099511627776]],AObj.arr 187 2 ((W2 l).map encIv)]=GE;have s3:SL H2 GE (G.length+1) 187 2 ((W2 l).map encIv):=by rw[←zg];simpa using s2
    clear s1 s2 zg;refine Wh (G.length+1) s3.arr ?_;simp;rw[zO (by simp)];have zu:=(zE.1 s3.arr).1;have zv:=s3.ge;have g':=g.keepAll (G':=GE.set (G.length+1) .dead) (fun j hj=>by rw[zB (by omega)];exact s3.keep j hj) (by simp;have:=s3.le;omega);generalize GE.set (G.length+1) .dead=E at *
    have c2:=g'.cell;have c3:=g'.arr;rw[z6]at c2;simp only[xY]at c2;have z8:∀L:List AObj,(E.set q .dead++L)[2]? =some (AObj.vars [AV.sl q 1 0 j]):=fun L=>by have:=g'.at L;rw[z6]at this;exact this
    have za:=fun A y=>g'.put A y z6.symm;repeat first|(refine r_ ?_;simp[c2])|refine q_ ?_
    refine Qe tOk rfl rfl T74 rfl U6 rfl (by decide) (by decide) rfl rfl rfl ?_;simp[Qa c3,Qi c3,z6,z8];refine⟨by simp[Wa,Qa c3,Qi c3,z6,z8]<;>omega,?_⟩;repeat first|(refine r_ ?_;simp[c2,hw,z8])|refine q_ ?_
    refine Qc (sl':=[(2,.vptr 1 0),(3,.vptr 2 0),(11,.list (p.map encL)),(12,.i p.length),(13,.i (j+1:Nat))]) ?_ (by simp);exact zc (E.length+1) _ ⟨by omega,za _ _⟩ (by omega)
   ·rw[if_neg (by simpa using h3),xD]at g2;subst g2;refine Qs (sl':=[(2,.vptr 1 0),(3,.vptr 2 0),(6,.sl p2 2 0 (W2 l).length),(11,.list (p.map encL)),(12,.i p.length),(13,.i j)]) ?_ (by simp);have s3:=s1;clear s1;generalize zg:G=GE at *;refine Wh p2 s3.arr ?_
    simp;rw[zO (by simp)];have zu:=(zE.1 s3.arr).1;have zv:=s3.ge;have g':=g.keepAll (G':=GE.set p2 .dead) (fun j hj=>by rw[zB (by omega)];exact s3.keep j hj) (by simp;have:=s3.le;omega);generalize GE.set p2 .dead=E at *
    have c2:=g'.cell;have c3:=g'.arr;rw[z6]at c2;simp only[xY]at c2;have z8:∀L:List AObj,(E.set q .dead++L)[2]? =some (AObj.vars [AV.sl q 1 0 j]):=fun L=>by have:=g'.at L;rw[z6]at this;exact this
    have za:=fun A y=>g'.put A y z6.symm;repeat first|(refine r_ ?_;simp[c2])|refine q_ ?_
    refine Qe tOk rfl rfl T74 rfl U6 rfl (by decide) (by decide) rfl rfl rfl ?_;simp[Qa c3,Qi c3,z6,z8];refine⟨by simp[Wa,Qa c3,Qi c3,z6,z8]<;>omega,?_⟩;repeat first|(refine r_ ?_;simp[c2,hw,z8])|refine q_ ?_
    refine Qc (sl':=[(2,.vptr 1 0),(3,.vptr 2 0),(11,.list (p.map encL)),(12,.i p.length),(13,.i (j+1:Nat))]) ?_ (by simp);exact zc (E.length+1) _ ⟨by omega,za _ _⟩ (by omega)
 ·have zh:j=p.length:=by simp at zp;omega
  subst zh;have g2:=g.cell;have g3:=g.arr;rw[Wy]at g2;simp only[xY]at g2;have gR:H2[1]? =some (AObj.vars [AV.nils]):=g.kp (by decide) (by rw[hK];rfl);have hS:=(zE.1 g2).1;have zw:q≠1∧q≠2:=by have:=g.ge;rw[hK]at this;simp at this;omega
  have z6:=Wy (fun i=>W2 (p.getD i [])) p.length;have zi: .list (upL (fun i=>W2 (p.getD i [])) p.length)=AV.list ((W8 p).map encL):=by rw[Dd,K3];rfl
  generalize upL (fun i=>W2 (p.getD i [])) p.length=xs at *
  refine Q1 q g3 2 g2 ?_;have k1:∀X,((H2.set q .dead).set 2 X)[1]? =some (AObj.vars [AV.nils]):=fun X=>Qd (by decide) (Qd zw.1 gR _) _;have zx:∀X hh,((H2.set q .dead).set 2 X)[1]'hh=AObj.vars [AV.nils]:=fun X hh=>by have:=k1 X;rw[zI hh]at this;exact Option.some.inj this
  have k2:∀X,((H2.set q .dead).set 2 X)[2]? =some X:=fun X=>zL (by simpa using hS);have k3:∀X Y,(((H2.set q .dead).set 2 X).set 1 Y)[1]? =some Y:=fun X Y=>Qj (k1 X) _;simp[z6];rw[zO (by omega)];repeat first|(refine r_ ?_;simp[k1,zx,k2,k3])|refine q_ ?_
  exact AV.list.inj zi
end Go.Abs
namespace Go.Abs
open Go Go.Proofs
theorem Ng(l:List Bool)(hb:l.length≤1000000):FR Tryz.prog 129 [.list (l.map .bool)] 4 1 (fun r=>r=l.map .bool):=by
 refine c0y tOk Tryz.func129 rfl Tryz.results129 rfl (by simp[Tryz.ntmps129]) ?_;rw[Tryz.ntmps129];simp only[Qg];repeat first|(refine r_ ?_;simp)|refine q_ ?_
 refine Hv tOk rfl rfl T22 rfl rfl rfl (fun b z1=> ?_);simp;refine Qb rfl (fun h=> ?_) (fun h=> ?_)
 ·subst h;have:l=[]:=by
   cases hx:l
   ·rfl
   ·have:=z1 (by simp[hx]);cases this
  rw[this];repeat first|(refine r_ ?_;simp)|refine q_ ?_
 ·repeat first|(refine r_ ?_;simp)|refine q_ ?_
  refine Qe tOk rfl rfl T22 rfl T4 rfl (by decide) (by decide) rfl rfl rfl ?_;simp;refine⟨⟨?_,by simp;omega⟩,?_⟩
  ·intro y hy;obtain⟨x,_,rfl⟩:=zR.1 hy;exact⟨rfl,by simp[AV.cells,AV.leaf]⟩
  repeat first|(refine r_ ?_;simp)|refine q_ ?_
theorem Gz(l:List Mv)(hb:l.length≤1000000):FR Tryz.prog 130 [.list (l.map encMv)] 78 3 (fun r=>r=l.map encMv):=by
 refine c0y tOk Tryz.func130 rfl Tryz.results130 rfl (by simp[Tryz.ntmps130]) ?_;rw[Tryz.ntmps130];simp only[Qg];repeat first|(refine r_ ?_;simp)|refine q_ ?_
 refine Hv tOk rfl rfl T23 rfl rfl rfl (fun b z1=> ?_);simp;refine Qb rfl (fun h=> ?_) (fun h=> ?_)
 ·subst h;have:l=[]:=by
   cases hx:l
   ·rfl
   ·have:=z1 (by simp[hx]);cases this
  rw[this];repeat first|(refine r_ ?_;simp)|refine q_ ?_
 ·repeat first|(refine r_ ?_;simp)|refine q_ ?_
  refine Qe tOk rfl rfl T23 rfl T78 rfl (by decide) (by decide) rfl rfl rfl ?_;simp;refine⟨⟨?_,by simp;omega⟩,?_⟩
  ·intro y hy;obtain⟨x,_,rfl⟩:=zR.1 hy;exact⟨rfl,by simp[AV.cells,AV.leaf]⟩
  repeat first|(refine r_ ?_;simp)|refine q_ ?_
attribute [local irreducible] u18
theorem Jo(H:List AObj)(f:Nat)(a:Aut)(hf:H[f]? =some (.arr 4 1 (a.fin.map .bool)))(zd:a.fin.length≤1000000)(ze:a.mv.length≤1000000):
  FC Tryz.prog 61 [.agg [.i a.types,.sl f 1 0 a.fin.length,.list (a.mv.map encMv)]] H
   (fun r H'=>((Ch a=true∧r= .tup [.agg [.i 0,.nils,.nils],.i 5])∨(Ch a=false∧r= .tup [.agg [.i a.types,.sl f 1 0 a.fin.length,.list (a.mv.map encMv)],.i 0]))∧∀i,i<H.length→H'[i]? =H[i]?):=by
 refine Ea tOk Tryz.func61 rfl Tryz.results61 rfl (by simp[Tryz.ntmps61]) ?_;rw[Tryz.ntmps61];simp only[Qg];repeat first|(refine r_ ?_;simp)|refine q_ ?_
 refine Qb rfl (fun h=> ?_) (fun h=> ?_)
 ·repeat first|(refine r_ ?_;simp)|refine q_ ?_
  have hb:Ch a=true:=by rw[q00,vQ];left;simp at h ⊢;omega
  exact⟨hb,fun i hi=>zF hi⟩
 have hb:(decide (256<a.fin.length) || decide (2048<a.mv.length))=false:=by simp at h ⊢;omega
 repeat first|(refine r_ ?_;simp)|refine q_ ?_
 refine Qp (Qc (sl':=[(1,.vptr H.length 0),(2,.vptr (H.length+1) 0),(18,.list (a.mv.map encMv)),(19,.i a.mv.length),(20,.i (0:Nat))]) ?_ (by simp));refine Qo (F:=fun(u:Nat×List AObj)=>⟨[(1,.vptr H.length 0),(2,.vptr (H.length+1) 0),(18,.list (a.mv.map encMv)),(19,.i a.mv.length),(20,.i u.1)],u.2⟩)
  (fun u=>u.1≤a.mv.length∧H.length+2≤u.2.length∧(∀i,i<H.length→u.2[i]? =H[i]?)∧u.2[H.length]? =some (.vars [.i a.types,.sl f 1 0 a.fin.length,.list (a.mv.map encMv)])∧u.2[H.length+1]? =some (.vars [.i 0,.nils,.nils])∧∀i,∀hi:i<a.mv.length,i<u.1→u18 a.mv[i]=false) (fun u=>a.mv.length - u.1) ?_ (0,_)
  ⟨by simp,by simp,fun i hi=>zF hi,by simp,by simp,fun i hi h=>by omega⟩
 rintro⟨j,G⟩ ⟨hj,hG,k0,k1,k2,hI⟩ ih;simp only at hj hG k0 k1 k2 hI ih ⊢;repeat first|(refine r_ ?_;simp)|refine q_ ?_
 refine Qb rfl (fun za=> ?_) (fun zb=> ?_)
 ·have z1:j<a.mv.length:=by simpa using za
  have hw:IntKind.i64.wrap ((j:Int)+1)=j+1:=wrap_i64 _ (by omega) (by omega);repeat first|(refine r_ ?_;simp[z1])|refine q_ ?_
  refine Qf rfl rfl (by simp) (D5 a.mv[j].on 126 (fun s=>decide (256<s.length)) g1a) rfl ?_;rintro _ rfl;simp;repeat first|(refine r_ ?_;simp)|refine q_ ?_
  have z8:∀L,(G++L)[H.length+1]? =some (.vars [.i 0,.nils,.nils]):=fun L=>Qa k2 L;refine Qb rfl (fun h=> ?_) (fun h=> ?_)
  ·have k3:∀L Y,((G++L).set (H.length+1) Y)[H.length+1]? =some Y:=fun L Y=>Qj (z8 L) Y;repeat first|(refine r_ ?_;simp[z8,k3])|refine q_ ?_
   have hm:u18 a.mv[j]=true:=by unfold u18;exact h
   have z6:Ch a=true:=by rw[q00,vQ];right;exact wN.2 ⟨_,zK z1,hm⟩
   exact⟨z6,fun i hi=>by rw[zB (by omega),zF (by omega)];exact k0 i hi⟩
  ·have hm:u18 a.mv[j]=false:=by unfold u18;exact h
   repeat first|(refine r_ ?_;simp[hw])|refine q_ ?_
   refine Qc (sl':=[(1,.vptr H.length 0),(2,.vptr (H.length+1) 0),(18,.list (a.mv.map encMv)),(19,.i a.mv.length),(20,.i (j+1:Nat))]) ?_ (by simp);refine ih (j+1,_) ⟨by simp only;omega,by simp;omega,fun i hi=>(zF (by omega)).trans (k0 i hi),Qa k1 _,Qa k2 _,fun i hi zc=> ?_⟩ (by simp only;omega);by_cases e:i=j
   ·subst e;exact hm
   ·exact hI i hi (by simp only at zc;omega)
 ·have z7:j=a.mv.length:=by simp at zb;omega
  subst z7;have z6:Ch a=false:=by rw[q00,hb,Bool.false_or,List.any_eq_false];intro m hm;obtain⟨i,hi,rfl⟩:=y_ hm;rw[hI i hi hi];simp
  have k3:∀Y,(G.set (H.length+1) Y)[H.length+1]? =some Y:=fun Y=>Qj k2 Y;repeat first|(refine r_ ?_;simp[k1,k2,k3])|refine q_ ?_
  exact⟨z6,fun i hi=>by rw[zB (by omega)];exact k0 i hi⟩
end Go.Abs
namespace Go.Abs
open Go Go.Proofs
structure CM (H:List AObj) (a:Aut) (G:List AObj) (f p c:Nat) (xs:List AV):Prop where
 b:G[H.length]? =some (.vars (Qu a))
 r:G[H.length+1]? =some (.vars [.i 0,.nils,.nils])
 k:∀i,i<H.length→G[i]? =H[i]?
 ce:G[c]? =some (.vars [.i a.types,.sl f 1 0 a.fin.length,.sl p 3 0 xs.length])
 fe:G[f]? =some (.arr 4 1 (a.fin.map .bool))
 m:G[p]? =some (.arr 78 3 xs)
 hf:H.length+2≤f
 hc:H.length+2≤c
 hp:H.length+2≤p
theorem CM.keepAll{H:List AObj}{a:Aut}{G G':List AObj}{f p c:Nat}{xs:List AV}(h:CM H a G f p c xs)(hk:∀j,j<G.length→G'[j]? =G[j]?):CM H a G' f p c xs:=by have l1:=(zE.1 h.b).1;have l2:=(zE.1 h.r).1;have l3:=(zE.1 h.ce).1;have l4:=(zE.1 h.fe).1;have l5:=(zE.1 h.m).1;exact⟨(hk _ l1).trans h.b,(hk _ l2).trans h.r,fun i hi=>(hk i (by omega)).trans (h.k i hi),(hk _ l3).trans h.ce,(hk _ l4).trans h.fe,(hk _ l5).trans h.m,h.hf,h.hc,h.hp⟩
theorem CM.ne1{H:List AObj}{a:Aut}{G:List AObj}{f p c:Nat}{xs:List AV}(h:CM H a G f p c xs):p≠c∧p≠f∧c≠f:=by
 refine⟨fun e=> ?_,fun e=> ?_,fun e=> ?_⟩
 ·have h1:=h.ce;have h2:=h.m;subst e;rw[h1]at h2;simp at h2
 ·have h1:=h.fe;have h2:=h.m;subst e;rw[h1]at h2;simp at h2
 ·have h1:=h.fe;have h2:=h.ce;subst e;rw[h1]at h2;simp at h2
theorem CM.put{H:List AObj}{a:Aut}{G:List AObj}{f p c:Nat}{xs:List AV}(h:CM H a G f p c xs)(A:AObj)(ys:List AV):
  CM H a ((G.set p .dead++[A,.arr 78 3 ys]).set c (.vars [.i a.types,.sl f 1 0 a.fin.length,.sl (G.length+1) 3 0 ys.length])) f (G.length+1) c ys:=by
 obtain⟨n1,n2,n3⟩:=h.ne1;have l3:=(zE.1 h.ce).1;have l5:=(zE.1 h.m).1;have hp:=h.hp;have hc:=h.hc;have hf:=h.hf;have low:∀i x,i≠p→i≠c→G[i]? =some x→((G.set p .dead++[A,.arr 78 3 ys]).set c (.vars [.i a.types,.sl f 1 0 a.fin.length,.sl (G.length+1) 3 0 ys.length]))[i]? =some x:=fun i x e1 e2 hx=>by rw[zB (fun e=>e2 e.symm),zF (by have:=(zE.1 hx).1;simpa using this),zB (fun e=>e1 e.symm)];exact hx
 refine⟨low _ _ (by omega) (by omega) h.b,low _ _ (by omega) (by omega) h.r,fun i hi=> ?_,zL (by simp;omega),low _ _ (by omega) (by omega) h.fe,?_,hf,hc,by omega⟩
 ·have hg:=h.k i hi;have z1:i<G.length:=by omega
  rw[zI z1]at hg;rw[low i _ (by omega) (by omega) (zI z1)];exact hg
 ·rw[zB (by omega),zH (by simp)];simp
theorem CM.cell{H:List AObj}{a:Aut}{G:List AObj}{f p c:Nat}{xs:List AV}(h:CM H a G f p c xs)(L:List AObj):(G.set p .dead++L)[c]? =some (.vars [.i a.types,.sl f 1 0 a.fin.length,.sl p 3 0 xs.length]):=
 Qa (Qd h.ne1.1 h.ce _) L
theorem CM.frz{H:List AObj}{a:Aut}{G:List AObj}{f p c:Nat}{xs:List AV}(h:CM H a G f p c xs)(X:AObj):
  ((G.set p .dead).set c X)[H.length]? =some (.vars (Qu a))∧((G.set p .dead).set c X)[H.length+1]? =some (.vars [.i 0,.nils,.nils])∧((G.set p .dead).set c X)[c]? =some X∧((G.set p .dead).set c X)[f]? =some (.arr 4 1 (a.fin.map .bool))∧∀i,i<H.length→((G.set p .dead).set c X)[i]? =H[i]? :=by
 obtain⟨n1,n2,n3⟩:=h.ne1;have hp:=h.hp;have hc:=h.hc;have hf:=h.hf;refine⟨Qd (by omega) (Qd (by omega) h.b _) _,Qd (by omega) (Qd (by omega) h.r _) _,Qj (Qd n1 h.ce _) _,Qd n3 (Qd n2 h.fe _) _,fun i hi=> ?_⟩;rw[zB (by omega),zB (by omega)];exact h.k i hi
theorem w0f(l:List Iv):(W4 l).length≤l.length:=by unfold W4;have:=Rb (E4 l) [];rw[Hm]at this;simpa using this
theorem f1x{T:Nat}{l:List Prd}{k:Nat}(h:∀i,i<T→(Qv l i).length≤k):∀s∈U5 T l,s.length≤k:=by intro s hs;obtain⟨i,hi,rfl⟩:=zR.1 hs;exact yO (w0f _) (h i (yW.1 hi))
theorem z0r{a:Aut}(h:OkA a)(s:Int)(i:Nat):(Qv (H6 a s) i).length≤1000000:=by
 have h1:(H6 a s).length≤2048:=by unfold H6;rw[zZ];exact yO (xM _ _) h.mvs
 have h2:∀p∈H6 a s,PCk a.types.toNat p:=fun p hp=>by obtain⟨m,hm,rfl⟩:=zR.1 hp;exact(h.mv m (List.mem_filter.1 hm).1).on
 have:=Uo h2 i;omega
def q0h(a:Aut)(k:Nat):List Mv:=(yJ k).filterMap fun s:Nat=>if Wd (Wl a s)then none else some ⟨s,a.fin.length,Wl a s⟩
theorem F1(a:Aut):q0h a a.fin.length=Es a (Wl a):=rfl
theorem C7(a:Aut)(k:Nat):q0h a (k+1)=q0h a k++(if Wd (Wl a k)then []else [⟨k,a.fin.length,Wl a k⟩]):=by unfold q0h;rw[wp,List.filterMap_append];cases h:Wd (Wl a k)<;>simp[h]
theorem Cd(a:Aut)(k:Nat):(q0h a k).length≤k:=by unfold q0h;exact yO (List.length_filterMap_le _ _) (by simp)
theorem Gl(a:Aut):q0h a 0=[]:=rfl
def w1p(a:Aut)(s:Int)(k:Nat):List Prd:=((a.mv.take k).filter fun m=>decide (m.src=s)).map (·.on)
theorem w0n(a:Aut)(s:Int):w1p a s a.mv.length=H6 a s:=by rw[w1p,yP];rfl
theorem j01(a:Aut)(s:Int)(k:Nat)(h:k<a.mv.length):w1p a s (k+1)=w1p a s k++(if a.mv[k].src=s then [a.mv[k].on]else []):=by unfold w1p;rw[zP h,List.filter_append,yF];by_cases hb:a.mv[k].src=s<;>simp[hb]
theorem w0j(a:Aut)(s:Int)(k:Nat):(w1p a s k).length≤a.mv.length:=by unfold w1p;rw[zZ];exact yO (xM _ _) (by simp;omega)
attribute [local irreducible] q0h Wl Wd U5 W8 H6
theorem C4(H:List AObj)(a:Aut)(ha:OkA a):FC Tryz.prog 71 [encA a] H
  (fun r H'=>((∃e,Pg a=(e,Ys)∧e≠0∧r= .tup [.agg [.i 0,.nils,.nils],.i e])∨
   (∃b f,Pg a=(0,b)∧r= .tup [.agg [.i b.types,.sl f 1 0 b.fin.length,.list (b.mv.map encMv)],.i 0]∧H'[f]? =some (.arr 4 1 (b.fin.map .bool))∧H.length≤f))∧∀i,i<H.length→H'[i]? =H[i]?):=by
 have zw:=ha.fin;have zx:=ha.mvs;refine Ea tOk Tryz.func71 rfl Tryz.results71 rfl (by simp[Tryz.ntmps71]) ?_;rw[Tryz.ntmps71];simp only[Qg];simp only[encA];repeat first|(refine r_ ?_;simp)|refine q_ ?_
 refine Vp (P:=Tryz.prog) tOk mixed [10] (.val 0 (.val 1 (.val 2 (.val 3 (.val 5 (.val 6 (.two 4 (.two 7 (.val 8 (.one 9 (.one 10 (.done)))) 9 (.one 7 (.val 8 (.one 10 (.done))))) 9 (.one 4 (.one 7 (.val 8 (.one 10 (.done)))))))))))) (fun S'=>∃f p c,CM H a S'.hp f p c (a.mv.map encMv)∧look S'.sl 1=some (.vptr H.length 0)∧look S'.sl 2=some (.vptr (H.length+1) 0)∧look S'.sl 3=some (.i 0)∧look S'.sl 4=some (.vptr c 0)) rfl (by kernel_rfl) ?_ ?_
 ·simp;refine⟨?_,?_⟩
  ·refine Ae rfl rfl (by simp) (Ng a.fin (by omega)) rfl ?_;rintro _ rfl;simp;refine⟨?_,?_⟩
   ·refine Ae rfl rfl (by simp) (Gz a.mv (by omega)) rfl ?_;rintro _ rfl;simp;exact⟨H.length+2,H.length+3,by simp,by simp,fun i hi=>zF hi,by simp,by simp,by simp,by omega,by omega,by omega⟩
   ·refine Ae rfl rfl (by simp) (Gz a.mv (by omega)) rfl ?_;rintro _ rfl;simp;exact⟨H.length+2,H.length+4,by simp,by simp,fun i hi=>zF hi,by simp,by simp,by simp,by omega,by omega,by omega⟩
  ·refine Ae rfl rfl (by simp) (Ng a.fin (by omega)) rfl ?_;rintro _ rfl;simp;refine Ae rfl rfl (by simp) (Gz a.mv (by omega)) rfl ?_;rintro _ rfl;simp;exact⟨H.length+3,H.length+4,by simp,by simp,fun i hi=>zF hi,by simp,by simp,by simp,by omega,by omega,by omega⟩
 ·rintro⟨sl,G⟩ ⟨f,p,c,g,e1,e2,e3,e4⟩;simp only at g e1 e2 e3 e4;refine Qs (sl':=[(1,.vptr H.length 0),(2,.vptr (H.length+1) 0),(3,.i 0),(4,.vptr c 0)]) ?_ (by simp[e1,e2,e3,e4]);have g1:=g.b;repeat first|(refine r_ ?_;simp[g1])|refine q_ ?_
  refine Qp (Qc (sl':=[(1,.vptr H.length 0),(2,.vptr (H.length+1) 0),(3,.i 0),(4,.vptr c 0),(5,.i a.fin.length),(27,.i a.fin.length),(28,.i (0:Nat))]) ?_ (by simp));refine Qo (F:=fun(u:Nat×Nat×List AObj)=>⟨[(1,.vptr H.length 0),(2,.vptr (H.length+1) 0),(3,.i 0),(4,.vptr c 0),(5,.i a.fin.length),(27,.i a.fin.length),(28,.i u.1)],u.2.2⟩)
   (fun u=>u.1≤a.fin.length∧CM H a u.2.2 f u.2.1 c ((a.mv++q0h a u.1).map encMv)) (fun u=>a.fin.length - u.1) ?_ (0,p,G) ⟨by simp,by rw[Gl,xD];exact g⟩
  clear g g1;rintro⟨s,p,G⟩ ⟨hs,g⟩ ih;simp only at hs g ih ⊢;repeat first|(refine r_ ?_;simp)|refine q_ ?_
  refine Qb rfl (fun zy=> ?_) (fun zz=> ?_)
  ·have y0:s<a.fin.length:=by simpa using zy
   have hw:IntKind.i64.wrap ((s:Int)+1)=s+1:=wrap_i64 _ (by omega) (by omega);have g1:∀L,(G++L)[H.length]? =some (.vars (Qu a)):=fun L=>Qa g.b L;repeat first|(refine r_ ?_;simp[g1])|refine q_ ?_
   have zp:=SL.start G 76 1;refine Qp (Qc (sl':=[(1,.vptr H.length 0),(2,.vptr (H.length+1) 0),(3,.i 0),(4,.vptr c 0),(5,.i a.fin.length),(6,.i s),(7,.sl G.length 1 0 0),(27,.i a.fin.length),(28,.i s),(33,.list (a.mv.map encMv)),(34,.i a.mv.length),(35,.i (0:Nat))]) ?_ (by simp));refine Qo (F:=fun(u:Nat×Nat×List AObj)=>⟨[(1,.vptr H.length 0),(2,.vptr (H.length+1) 0),(3,.i 0),(4,.vptr c 0),(5,.i a.fin.length),(6,.i s),(7,.sl u.2.1 1 0 (w1p a s u.1).length),(27,.i a.fin.length),(28,.i s),(33,.list (a.mv.map encMv)),(34,.i a.mv.length),(35,.i u.1)],u.2.2⟩)
    (fun u=>u.1≤a.mv.length∧SL G u.2.2 u.2.1 76 1 ((w1p a s u.1).map encP)) (fun u=>a.mv.length - u.1) ?_ (0,G.length,_) ⟨by simp,zp⟩
   rintro⟨k,q,E⟩ ⟨hk,s1⟩ ih2;simp only at hk s1 ih2 ⊢;repeat first|(refine r_ ?_;simp)|refine q_ ?_
   refine Qb rfl (fun zh=> ?_) (fun zi=> ?_)
   ·have z7:k<a.mv.length:=by simpa using zh
    have zq:IntKind.i64.wrap ((k:Int)+1)=k+1:=wrap_i64 _ (by omega) (by omega);have zb:=j01 a s k z7;have ya:=w0j a s k;have z6:=fun q' E'=>ih2 (k+1,q',E');simp only[zb]at z6;clear zb;generalize w1p a s k=acc at *
    repeat first|(refine r_ ?_;simp[z7])|refine q_ ?_
    by_cases hb:a.mv[k].src=s
    ·rw[if_pos hb]at z6;refine Qb rfl (fun _=> ?_) (fun h=>by simp[hb]at h);repeat first|(refine r_ ?_;simp)|refine q_ ?_
     refine Qe tOk rfl rfl T91 rfl T76 rfl (by decide) (by decide) rfl rfl rfl ?_;simp[Qa s1.arr,Qi s1.arr];refine⟨by simp[Wa,Qa s1.arr,Qi s1.arr]<;>omega,?_⟩;repeat first|(refine r_ ?_;simp[zq])|refine q_ ?_
     refine Qc (sl':=[(1,.vptr H.length 0),(2,.vptr (H.length+1) 0),(3,.i 0),(4,.vptr c 0),(5,.i a.fin.length),(6,.i s),(7,.sl (E.length+2) 1 0 (acc.length+1)),(27,.i a.fin.length),(28,.i s),(33,.list (a.mv.map encMv)),(34,.i a.mv.length),(35,.i (k+1:Nat))]) ?_ (by simp);have:=z6 (E.length+2) _ ⟨by omega,s1.put [AObj.vars [AV.i a.mv[k].src,AV.i a.mv[k].dst,AV.list (a.mv[k].on.map encL)],.arr 76 1 [encP a.mv[k].on]] ((acc++[a.mv[k].on]).map encP) rfl⟩ (by omega);simpa using this
    ·rw[if_neg hb,xD]at z6;refine Qb rfl (fun h=>by simp[hb]at h) (fun _=> ?_);repeat first|(refine r_ ?_;simp[zq])|refine q_ ?_
     refine Qc (sl':=[(1,.vptr H.length 0),(2,.vptr (H.length+1) 0),(3,.i 0),(4,.vptr c 0),(5,.i a.fin.length),(6,.i s),(7,.sl q 1 0 acc.length),(27,.i a.fin.length),(28,.i s),(33,.list (a.mv.map encMv)),(34,.i a.mv.length),(35,.i (k+1:Nat))]) ?_ (by simp);have:=z6 q _ ⟨by omega,s1.add [AObj.vars [AV.i a.mv[k].src,AV.i a.mv[k].dst,AV.list (a.mv[k].on.map encL)]]⟩ (by omega);simpa using this
   ·have zc:k=a.mv.length:=by simp at zi;omega
    subst zc;rw[w0n]at s1 ⊢;refine Wh q s1.arr ?_;simp;rw[zO (by simp)];have yb:=s1.ge;have yc:=s1.le;have g':=g.keepAll (G':=E.set q .dead) (fun j hj=>by rw[zB (by omega)];exact s1.keep j hj);generalize E.set q .dead=G2 at *;clear s1 zp g1
    have g1:=g'.b;repeat first|(refine r_ ?_;simp[g1])|refine q_ ?_
    have y1:((a.types.toNat:Nat):Int)=a.types:=by have:=ha.types;omega
    have zt:=Z8 a.types.toNat (H6 a s) (by have:=ha.types;omega) (Lj ha.wfA s) (fun i _=>z0r ha s i) (by have:=w0j a s a.mv.length;rw[w0n]at this;omega);rw[y1]at zt;refine Qf rfl rfl (by simp) (zt) rfl ?_;rintro _ rfl;simp;refine Qf rfl rfl (by simp) (v1d a.types.toNat (U5 a.types.toNat (H6 a s)) (Zd (Lj ha.wfA s)) (f1x (fun i _=>z0r ha s i)) (by have:=ha.types;omega)) rfl ?_;rintro _ rfl;simp;have y3:W8 (U5 a.types.toNat (H6 a s))=Wl a s:=by unfold Wl;rfl
    rw[y3];repeat first|(refine r_ ?_;simp)|refine q_ ?_
    refine Qf rfl rfl (by simp) (z19 (Wl a s)) rfl ?_;rintro _ rfl;simp;repeat first|(refine r_ ?_;simp)|refine q_ ?_
    have g3:=g'.keepAll (G':=G2++[AObj.vars [AV.list ((Wl a s).map encL)]]) (fun j hj=>zF hj);have y4:(G2++[AObj.vars [AV.list ((Wl a s).map encL)]])[G2.length]? =some (AObj.vars [AV.list ((Wl a s).map encL)]):=by simp
    generalize G2++[AObj.vars [AV.list ((Wl a s).map encL)]]=G3 at *
    have zb:=C7 a s;have y5:=Cd a s;have zd:=fun p' G'=>ih (s+1,p',G');simp only[zb]at zd;clear zb g';generalize q0h a s=new at *
    have y6:(a.mv++new).length=a.mv.length+new.length:=by simp
    obtain⟨d1,d2,d3⟩:=g3.ne1;have g3c:=g3.ce;have g3m:=g3.m;have g3cc:=g3.cell;rw[zZ,y6]at g3c g3cc;cases hv:Wd (Wl a s)with
    |true=>
     rw[hv]at zd;refine Qk rfl ?_;simp[hv];repeat first|(refine r_ ?_;simp[hw])|refine q_ ?_
     refine Qc (sl':=[(1,.vptr H.length 0),(2,.vptr (H.length+1) 0),(3,.i 0),(4,.vptr c 0),(5,.i a.fin.length),(27,.i a.fin.length),(28,.i (s+1:Nat))]) ?_ (by simp);have:=zd p G3 ⟨by omega,by simpa using g3⟩ (by omega);exact this
    |false=>
     rw[hv]at zd;refine Qk rfl ?_;simp[hv];repeat first|(refine r_ ?_;simp[g3c,y4])|refine q_ ?_
     refine Qe tOk rfl rfl T23 rfl T78 rfl (by decide) (by decide) rfl rfl rfl ?_;simp[Qa g3m,Qi g3m,g3cc,Qa g3c];refine⟨by simp[Wa,Qa g3m,Qi g3m,g3cc,Qa g3c]<;>omega,?_⟩;repeat first|(refine r_ ?_;simp[hw,g3cc])|refine q_ ?_
     refine Qc (sl':=[(1,.vptr H.length 0),(2,.vptr (H.length+1) 0),(3,.i 0),(4,.vptr c 0),(5,.i a.fin.length),(27,.i a.fin.length),(28,.i (s+1:Nat))]) ?_ (by simp);have y7:=g3.put (.arr 78 3 [encMv (⟨s,a.fin.length,Wl a s⟩:Mv)]) ((a.mv++(new++[(⟨s,a.fin.length,Wl a s⟩:Mv)])).map encMv);have:=zd (G3.length+1) _ ⟨by omega,y7⟩ (by omega);simpa[Nat.add_assoc]using this
  ·have zj:s=a.fin.length:=by simp at zz;omega
   subst zj;rw[F1]at g;have zm:Pg a=if(Es a (Wl a)).isEmpty then(0,a)else Zc (Ta a):=rfl
   obtain⟨d1,d2,d3⟩:=g.ne1;have yd:=g.hf;have ye:=g.hc;have yg:=g.hp;have y5:(Es a (Wl a)).length≤a.fin.length:=by rw[←F1];exact Cd a _
   by_cases hn:Es a (Wl a)=[]
   ·rw[hn]at zm;rw[hn,xD]at g;have gz:=g.frz (.vars [.i a.types,.sl f 1 0 a.fin.length,.list (a.mv.map encMv)]);refine Q1 p g.m c g.ce ?_;simp[d2.symm];rw[zO (by simp)];generalize (G.set p AObj.dead).set c (.vars [.i a.types,.sl f 1 0 a.fin.length,.list (a.mv.map encMv)])=E at *
    obtain⟨q1,q2,q3,q4,q5⟩:=gz;have q6:∀Y,(E.set (H.length+1) Y)[H.length+1]? =some Y:=fun Y=>Qj q2 Y;repeat first|(refine r_ ?_;simp[q1,q2,q3])|refine q_ ?_
    refine Qk rfl ?_;simp;repeat first|(refine r_ ?_;simp[q1,q2,q3,q6])|refine q_ ?_
    exact⟨⟨a,by simpa using zm,f,⟨rfl,⟨rfl,rfl⟩,rfl⟩,Qd (by omega) q4 _,by omega⟩,fun i hi=>by rw[zB (by omega)];exact q5 i hi⟩
   ·have ze:Pg a=Zc (Ta a):=by rw[zm,if_neg (by simpa using hn)]
    have gm:=g.ce;rw[zZ,yB]at gm;have gb:=g.b;repeat first|(refine r_ ?_;simp[gb,gm])|refine q_ ?_
    have yh:(Es a (Wl a)).length≠0:=by simpa using hn
    refine Qb rfl (fun h=>by simp at h;omega) (fun h=> ?_);repeat first|(refine r_ ?_;simp[gb])|refine q_ ?_
    refine Qf rfl rfl (by simp) (q26 a.types ha.types.1 ha.types.2) rfl ?_;rintro _ rfl;simp;repeat first|(refine r_ ?_;simp)|refine q_ ?_
    refine Qb rfl (fun h=>by simp at h) (fun _=> ?_);have g3:=g.keepAll (G':=G++[AObj.vars [AV.list ((W3 a.types.toNat).map encL)]]) (fun j hj=>zF hj);have za:(G++[AObj.vars [AV.list ((W3 a.types.toNat).map encL)]])[G.length]? =some (AObj.vars [AV.list ((W3 a.types.toNat).map encL)]):=by simp
    generalize G++[AObj.vars [AV.list ((W3 a.types.toNat).map encL)]]=G1 at *
    have k1:=g3.ce;rw[zZ,yB]at k1;have k2:=g3.fe;have k3:∀L,(G1.set f .dead++L)[c]? =some (.vars [.i a.types,.sl f 1 0 a.fin.length,.sl p 3 0 (a.mv.length+(Es a (Wl a)).length)]):=fun L=>Qa (Qd d3.symm k1 _) L;repeat first|(refine r_ ?_;simp[k1])|refine q_ ?_
    refine Qe tOk rfl rfl T22 rfl T4 rfl (by decide) (by decide) rfl rfl rfl ?_;simp[Qa k2,Qi k2,Qa k1,k3];refine⟨by simp[Wa,Qa k2,Qi k2,Qa k1,k3]<;>omega,?_⟩;have lf:=(zE.1 k2).1;have lc:=(zE.1 k1).1;have lp:=(zE.1 g3.m).1;have low:∀(X:AObj) i x,i≠f→i≠c→G1[i]? =some x→((G1.set f .dead++[AObj.arr 4 1 [AV.bool false],AObj.arr 4 1 (a.fin.map AV.bool++[AV.bool false])]).set c X)[i]? =some x:=fun X i x e1 e2 hx=>by rw[zB (fun e=>e2 e.symm),zF (by have:=(zE.1 hx).1;simpa using this),zB (fun e=>e1 e.symm)];exact hx
    have yi:=(zE.1 za).1;have r2:=low (.vars [.i a.types,.sl (G1.length+1) 1 0 (a.fin.length+1),.sl p 3 0 (a.mv.length+(Es a (Wl a)).length)]) _ _ (by omega) (by omega) g3.r;have m2:=low (.vars [.i a.types,.sl (G1.length+1) 1 0 (a.fin.length+1),.sl p 3 0 (a.mv.length+(Es a (Wl a)).length)]) _ _ d2 d1 g3.m;have w2:=low (.vars [.i a.types,.sl (G1.length+1) 1 0 (a.fin.length+1),.sl p 3 0 (a.mv.length+(Es a (Wl a)).length)]) _ _ (fun e=>by rw[e,k2]at za;simp at za) (fun e=>by rw[e,k1]at za;simp at za) za;have c2:((G1.set f .dead++[AObj.arr 4 1 [AV.bool false],AObj.arr 4 1 (a.fin.map AV.bool++[AV.bool false])]).set c (.vars [.i a.types,.sl (G1.length+1) 1 0 (a.fin.length+1),.sl p 3 0 (a.mv.length+(Es a (Wl a)).length)]))[c]? =some (.vars [.i a.types,.sl (G1.length+1) 1 0 (a.fin.length+1),.sl p 3 0 (a.mv.length+(Es a (Wl a)).length)]):=Qj (k3 _) _;have f2:((G1.set f .dead++[AObj.arr 4 1 [AV.bool false],AObj.arr 4 1 (a.fin.map AV.bool++[AV.bool false])]).set c (.vars [.i a.types,.sl (G1.length+1) 1 0 (a.fin.length+1),.sl p 3 0 (a.mv.length+(Es a (Wl a)).length)]))[G1.length+1]? =some (.arr 4 1 ((Ta a).fin.map AV.bool)):=by rw[zB (by omega),zH (by simp)];simp[Ta]
    have q2:∀i,i<H.length→((G1.set f .dead++[AObj.arr 4 1 [AV.bool false],AObj.arr 4 1 (a.fin.map AV.bool++[AV.bool false])]).set c (.vars [.i a.types,.sl (G1.length+1) 1 0 (a.fin.length+1),.sl p 3 0 (a.mv.length+(Es a (Wl a)).length)]))[i]? =H[i]? :=fun i hi=>by rw[zB (by omega),zF (by simp;omega),zB (by omega)];exact g3.k i hi
    generalize (G1.set f .dead++[AObj.arr 4 1 [AV.bool false],AObj.arr 4 1 (a.fin.map AV.bool++[AV.bool false])]).set c (.vars [.i a.types,.sl (G1.length+1) 1 0 (a.fin.length+1),.sl p 3 0 (a.mv.length+(Es a (Wl a)).length)])=E at *
    have k4:∀L,(E.set p .dead++L)[c]? =some (.vars [.i a.types,.sl (G1.length+1) 1 0 (a.fin.length+1),.sl p 3 0 (a.mv.length+(Es a (Wl a)).length)]):=fun L=>Qa (Qd d1 c2 _) L;have zu:(Ta a).mv.length=a.mv.length+(Es a (Wl a)).length+1:=by simp[Ta];omega
    have y8:(Ta a).fin.length=a.fin.length+1:=by simp[Ta]
    have yj:(a.mv++Es a (Wl a)).map encMv++[encMv ⟨a.fin.length,a.fin.length,W3 a.types.toNat⟩]=(Ta a).mv.map encMv:=by simp[Ta]
    have ym:=(zE.1 c2).1;have yn:=(zE.1 m2).1;have yo:=(zE.1 f2).1;repeat first|(refine r_ ?_;simp[c2,w2])|refine q_ ?_
    refine Qe tOk rfl rfl T23 rfl T78 rfl (by decide) (by decide) rfl rfl rfl ?_;simp[Qa m2,Qi m2,Qa c2,k4];refine⟨by simp[Wa,Qa m2,Qi m2,Qa c2,k4]<;>omega,?_⟩;have hB:a.mv.map encMv++((Es a (Wl a)).map encMv++[AV.agg [AV.int IntKind.i64 ↑a.fin.length,AV.int IntKind.i64 ↑a.fin.length,AV.list ((W3 a.types.toNat).map encL)]])=(Ta a).mv.map encMv:=by simp[Ta]
    rw[hB];refine Q4 fun Z hZ=> ?_;have z1:Z[E.length+1]? =some (.arr 78 3 ((Ta a).mv.map encMv)):=by rw[hZ,zB (by omega),zH (by simp)];simp
    have z2:Z[c]? =some (.vars [.i a.types,.sl (G1.length+1) 1 0 (a.fin.length+1),.sl (E.length+1) 3 0 (a.mv.length+(Es a (Wl a)).length+1)]):=by rw[hZ,zL (by simp;omega)]
    have zr:Z[H.length+1]? =some (.vars [.i 0,.nils,.nils]):=by rw[hZ,zB (by omega),zF (by simp;omega),zB (by omega)];exact r2
    have zf:Z[G1.length+1]? =some (.arr 4 1 ((Ta a).fin.map AV.bool)):=by rw[hZ,zB (by omega),zF (by simp;omega),zB (by omega)];exact f2
    have zk:∀i,i<H.length→Z[i]? =H[i]? :=fun i hi=>by rw[hZ,zB (by omega),zF (by simp;omega),zB (by omega)];exact q2 i hi
    have zl:E.length+2=Z.length:=by rw[hZ];simp
    clear hZ;refine Qs (sl':=[(2,.vptr (H.length+1) 0),(4,.vptr c 0)]) ?_ (by simp);refine Q1 (E.length+1) z1 c z2 ?_;have zn:G1.length+1≠E.length+1:=by omega
    simp[zn,zu];rw[zO (by simp[zu])];refine Q4 fun Y hY=> ?_;have y2:Y[c]? =some (.vars [.i a.types,.sl (G1.length+1) 1 0 (a.fin.length+1),.list ((Ta a).mv.map encMv)]):=by rw[hY,zL (by simp;omega)]
    have yr:Y[H.length+1]? =some (.vars [.i 0,.nils,.nils]):=by rw[hY,zB (by omega),zB (by omega)];exact zr
    have yf:Y[G1.length+1]? =some (.arr 4 1 ((Ta a).fin.map AV.bool)):=by rw[hY,zB (by omega),zB (by omega)];exact zf
    have yk:∀i,i<H.length→Y[i]? =H[i]? :=fun i hi=>by rw[hY,zB (by omega),zB (by omega)];exact zk i hi
    have yl:Y.length=Z.length:=by rw[hY];simp
    clear hY;repeat first|(refine r_ ?_;simp[y2])|refine q_ ?_
    rw[←y8];refine Q9 rfl rfl (Jo Y (G1.length+1) (Ta a) yf (by omega) (by omega)) rfl ?_;rintro r H' ⟨hr,zg⟩;have zo:=(zg (H.length+1) (by omega)).trans yr;have zv:∀X,(H'.set (H.length+1) X)[H.length+1]? =some X:=fun X=>Qj zo X;rcases hr with⟨hb,rfl⟩|⟨hb,rfl⟩
    ·have z8:Pg a=(5,Ys):=by rw[ze,Zc,if_pos hb]
     simp[zo];repeat first|(refine r_ ?_;simp[zv])|refine q_ ?_
     refine⟨z8,fun i hi=> ?_⟩;rw[zB (by omega),zg i (by omega)];exact yk i hi
    ·have z8:Pg a=(0,Ta a):=by rw[ze,Zc,hb,if_neg (by simp)]
     have y9:(Ta a).types=a.types:=rfl;simp[zo];repeat first|(refine r_ ?_;simp[zv])|refine q_ ?_
     refine⟨⟨Ta a,z8,G1.length+1,⟨by rw[y9],⟨rfl,rfl⟩,rfl⟩,?_,by omega⟩,fun i hi=> ?_⟩
     ·rw[zB (by omega),zg _ (by omega)];exact yf
     ·rw[zB (by omega),zg i (by omega)];exact yk i hi
end Go.Abs
namespace Go.Abs
open Go Go.Proofs
attribute [local irreducible] Pg Wq
theorem Hp(a:Aut):PC Tryz.prog 23 [encA a] (fun r=>r= .tup [encA (Ie a).2,.i (Ie a).1]):=by
 refine Ql tOk Tryz.func23 rfl Tryz.results23 rfl (by simp[Tryz.ntmps23]) ?_;rw[Tryz.ntmps23];simp only[Qg];simp only[encA];repeat first|(refine r_ ?_;simp)|refine q_ ?_
 refine Qf rfl rfl (by simp) (Is a) rfl ?_;rintro _ rfl;simp;repeat first|(refine r_ ?_;simp)|refine q_ ?_
 refine Qb rfl (fun h=> ?_) (fun h=> ?_)
 ·have h':Wq a≠0:=by simpa using h
  have hc:Ie a=(Wq a,Ys):=by rw[Ie,if_pos h']
  rw[hc];repeat first|(refine r_ ?_;simp)|refine q_ ?_
  exact⟨rfl,rfl,rfl⟩
 ·have h':Wq a=0:=by simpa using h
  have hc:Ie a=Pg a:=by rw[Ie,if_neg (by simp[h'])]
  rw[hc];repeat first|(refine r_ ?_;simp)|refine q_ ?_
  refine Q9 rfl rfl (C4 _ a ((O5 a).1 h')) rfl ?_;rintro r H' ⟨hr,hk⟩;have z6:=hk 1 (by simp);simp at z6;have z8:∀X,(H'.set 1 X)[1]? =some X:=fun X=>Qj z6 X;rcases hr with⟨e,he,zb,rfl⟩|⟨b,f,he,rfl,hf,za⟩
  ·rw[he];simp[z6];repeat first|(refine r_ ?_;simp[z8])|refine q_ ?_
   exact⟨rfl,rfl,rfl⟩
  ·rw[he];simp[z6];have z7:f≠1:=by simp at za;omega
   refine Qs (sl':=[(2,.vptr 1 0),(3,.i 0)]) ?_ (by simp);refine Q1 f (Qd (Ne.symm z7) hf _) 1 (Qj z6 _) ?_;simp;rw[zO (by simp)];have zc:∀X,((H'.set f X).set 1 X)[1]? =some X:=fun X=>Qj (Qd z7 z6 _) X;refine Q4 fun Z hZ=> ?_;have z1:Z[1]? =some (.vars [.i b.types,.list (b.fin.map AV.bool),.list (b.mv.map encMv)]):=by rw[hZ];exact zL (by have:=(zE.1 z6).1;simpa using this)
   repeat first|(refine r_ ?_;simp[z1])|refine q_ ?_
end Go.Abs
namespace Go.Abs
open Go Go.Proofs
def Ff(p:Nat)(xs:List Iv):AV:=if xs=[]then .nils else .sl p 2 0 xs.length
def c0c(L:Nat→Nat)(T:Nat)(p:Prd):List AV:=(yJ T).map fun k=>Ff (L k) (p.getD k [])
def Cg(Q:Nat→Nat)(T n:Nat):List AV:=(yJ n).map fun c=> .agg [.sl (Q c) 1 0 T]
theorem Oy(L:Nat→Nat)(T:Nat)(p:Prd):(c0c L T p).length=T:=by simp[c0c]
theorem Cf(Q:Nat→Nat)(T n:Nat):(Cg Q T n).length=n:=by simp[Cg]
theorem Sa(L:Nat→Nat){T k:Nat}(p:Prd)(h:k<T):(c0c L T p)[k]? =some (Ff (L k) (p.getD k [])):=by simp[c0c,h]
theorem y0t(Q:Nat→Nat)(T:Nat){n c:Nat}(h:c<n):(Cg Q T n)[c]? =some (.agg [.sl (Q c) 1 0 T]):=by simp[Cg,h]
theorem Zp{p:Prd}{i:Nat}(h:i<p.length)(y:List Iv):(p.set i y).getD i []=y:=by simp[yV,h]
theorem getD_set_ne{p:Prd}{i k:Nat}(h:i≠k)(y:List Iv):(p.set i y).getD k []=p.getD k []:=by simp only[yV];rw[zB h]
structure Rows (K:List AObj) (T o:Nat) (st:List Prd) (Q:Nat→Nat) (L:Nat→Nat→Nat) (tag:Nat→Nat×Nat) (H:List AObj):Prop where
 out:H[o]? =some (.va 76 1 (Cg Q T st.length))
 row:∀c p,st[c]? =some p→H[Q c]? =some (.va 171 1 (c0c (L c) T p))
 leaf:∀c p k,st[c]? =some p→k<T→p.getD k []≠[]→H[L c k]? =some (.arr 187 2 ((p.getD k []).map encIv))
 tQ:∀c,c<st.length→tag (Q c)=(c+1,0)
 tL:∀c p k,st[c]? =some p→k<T→p.getD k []≠[]→tag (L c k)=(c+1,k+1)
 to:tag o=(0,0)
 geo:K.length≤o
 geQ:∀c,c<st.length→K.length≤Q c
 geL:∀c p k,st[c]? =some p→k<T→p.getD k []≠[]→K.length≤L c k
 keep:∀i,i<K.length→H[i]? =K[i]?
 len:K.length≤H.length
 tK:∀i,i<K.length→tag i=(0,0)
section
variable {K:List AObj} {T o:Nat} {st:List Prd} {Q:Nat→Nat} {L:Nat→Nat→Nat} {tag:Nat→Nat×Nat} {H H':List AObj}
theorem H7{α:Type}{l:List α}{i:Nat}{x:α}(h:l[i]? =some x):i<l.length:=(zE.1 h).1
theorem Qh{H:List AObj}{i:Nat}{x:AObj}(h:H[i]? =some x):i<H.length:=(zE.1 h).1
theorem Rows.other(h:Rows K T o st Q L tag H)(hk:∀j,j<H.length→tag j≠(0,1)→H'[j]? =H[j]?)(hl:H.length≤H'.length)(hK:K=[]:=by rfl):Rows K T o st Q L tag H':=by
 subst hK;exact⟨(hk _ (Qh h.out) (by rw[h.to];simp)).trans h.out,fun c p hc=>(hk _ (Qh (h.row c p hc)) (by rw[h.tQ c (H7 hc)];simp)).trans (h.row c p hc),fun c p k hc z1 hn=>(hk _ (Qh (h.leaf c p k hc z1 hn)) (by rw[h.tL c p k hc z1 hn];simp)).trans (h.leaf c p k hc z1 hn),
  h.tQ,h.tL,h.to,h.geo,h.geQ,h.geL,fun i hi=>by simp at hi,by simp,h.tK⟩
theorem z00{l:List AV}{i:Nat}{x:AV}(h:l[i]? =some x):l.set i x=l:=by
 refine xO fun j=> ?_;by_cases e:i=j
 ·subst e;rw[h,zL (H7 h)]
 ·rw[zB e]
theorem Rows.put (h:Rows K T o st Q L tag H) {c:Nat} {p:Prd} (hc:st[c]? =some p) (zi:p.length=T) {i:Nat} (hi:i<T) {x:Iv} {np:Nat} (zj:H.length≤np)
  (zf:H'[Q c]? =some (.va 171 1 ((c0c (L c) T p).set i (.sl np 2 0 ((p.getD i []).length+1)))))
  (z8:H'[np]? =some (.arr 187 2 ((p.getD i []++[x]).map encIv)))
  (hk:∀j,j<H.length→j≠Q c→tag j≠(c+1,i+1)→H'[j]? =H[j]?):
  Rows K T o (st.set c (Uy p i x)) Q (fun c' k'=>if c'=c∧k'=i then np else L c' k') (fun j=>if j=np then(c+1,i+1)else tag j) H':=by
 have zd:=(zE.1 hc).1;have ze:∀c' p',(st.set c (Uy p i x))[c']? =some p'→(c'=c∧p'=Uy p i x)∨(c'≠c∧st[c']? =some p'):=fun c' p' e=>by
  by_cases zg:c'=c
  ·subst zg;rw[zL zd]at e;exact .inl ⟨rfl,(Option.some.inj e).symm⟩
  ·rw[zB (fun e=>zg e.symm)]at e;exact .inr ⟨zg,e⟩
 have za:(Uy p i x).getD i []=p.getD i []++[x]:=Zp (by omega) _;have z6:∀k,k≠i→(Uy p i x).getD k []=p.getD k []:=fun k hk=>getD_set_ne (fun e=>hk e.symm) _;have zh:o≠Q c:=fun e=>by have h1:=h.to;have h2:=h.tQ c zd;rw[e,h2]at h1;simp at h1
 have lo:=Qh h.out;have lQ:∀c',c'<st.length→Q c'<H.length:=fun c' zb=>Qh (h.row c' _ (zI zb));have geQ:=h.geQ;refine⟨?_,fun c' p' e=> ?_,fun c' p' k e z1 hn=> ?_,fun c' zb=> ?_,fun c' p' k e z1 hn=> ?_,?_,h.geo,fun c' zb=> ?_,fun c' p' k e z1 hn=> ?_,fun j hj=> ?_,?_,fun j hj=> ?_⟩
 ·rw[wT,hk o lo zh (by rw[h.to];simp)];exact h.out
 ·rcases ze c' p' e with⟨rfl,rfl⟩|⟨zc,e'⟩
  ·rw[zf]
   congr 2
   refine xO fun k=> ?_;by_cases hkT:k<T
   ·rw[Sa _ _ hkT];by_cases hki:k=i
    ·subst hki;rw[zL (by rw[Oy];exact hkT),za];simp[Ff]
    ·rw[zB (fun e=>hki e.symm),Sa _ _ hkT,z6 k hki];simp[hki]
   ·rw[yZ (by rw[wT,Oy];omega),yZ (by rw[Oy];omega)]
  ·have z7:=(zE.1 e').1;rw[hk _ (lQ c' z7) (fun e=>by have h1:=h.tQ c zd;have h2:=h.tQ c' z7;rw[e,h1]at h2;simp at h2;omega) (by rw[h.tQ c' z7];simp),h.row c' p' e'];simp[zc]
 ·rcases ze c' p' e with⟨rfl,rfl⟩|⟨zc,e'⟩
  ·by_cases hki:k=i
   ·subst hki;rw[za,if_pos ⟨rfl,rfl⟩];exact z8
   ·rw[z6 k hki]at hn ⊢;rw[if_neg (fun a=>hki a.2),hk _ (Qh (h.leaf _ _ k hc z1 hn)) (fun e=>by have h1:=h.tQ c' zd;have h2:=h.tL c' p k hc z1 hn;rw[e,h1]at h2;simp at h2) (by rw[h.tL c' p k hc z1 hn];simp;omega)];exact h.leaf _ _ k hc z1 hn
  ·have z7:=(zE.1 e').1;rw[if_neg (fun a=>zc a.1),hk _ (Qh (h.leaf _ _ k e' z1 hn)) (fun e=>by have h1:=h.tQ c zd;have h2:=h.tL c' p' k e' z1 hn;rw[e,h1]at h2;simp at h2) (by rw[h.tL c' p' k e' z1 hn];simp;omega)];exact h.leaf _ _ k e' z1 hn
 ·rw[wT]at zb;have:=lQ c' zb;rw[if_neg (by omega)];exact h.tQ c' zb
 ·rcases ze c' p' e with⟨rfl,rfl⟩|⟨zc,e'⟩
  ·by_cases hki:k=i
   ·subst hki;simp only[and_self,if_true]
   ·rw[z6 k hki]at hn;have:=Qh (h.leaf _ _ k hc z1 hn);simp only[hki,and_false,if_false];rw[if_neg (by omega)];exact h.tL _ _ k hc z1 hn
  ·have:=Qh (h.leaf _ _ k e' z1 hn);simp only[zc,false_and,if_false];rw[if_neg (by omega)];exact h.tL _ _ k e' z1 hn
 ·rw[if_neg (by omega)];exact h.to
 ·rw[wT]at zb;exact h.geQ c' zb
 ·rcases ze c' p' e with⟨rfl,rfl⟩|⟨zc,e'⟩
  ·by_cases hki:k=i
   ·subst hki;have:=h.len;rw[if_pos ⟨rfl,rfl⟩];omega
   ·rw[z6 k hki]at hn;rw[if_neg (fun a=>hki a.2)];exact h.geL _ _ k hc z1 hn
  ·rw[if_neg (fun a=>zc a.1)];exact h.geL _ _ k e' z1 hn
 ·have h1:=h.len;have h2:=geQ c zd;rw[hk j (by omega) (by omega) (by rw[h.tK j hj];simp)];exact h.keep j hj
 ·have:=Qh z8;have:=h.len;omega
 ·have:=h.len;rw[if_neg (by omega)];exact h.tK j hj
theorem Rows.new (h:Rows K T o st Q L tag H) {q o':Nat} (hq:H.length≤q) (ho:H.length≤o') (zd:q≠o')
  (zc:H'[q]? =some (.va 171 1 (yH T .nils))) (za:H'[o']? =some (.va 76 1 (Cg Q T st.length++[.agg [.sl q 1 0 T]])))
  (hk:∀j,j<H.length→j≠o→H'[j]? =H[j]?):
  Rows K T o' (st++[yH T []]) (fun c=>if c=st.length then q else Q c) L (fun j=>if j=q then(st.length+1,0)else if j=o' then(0,0)else tag j) H':=by
 have zb:∀c' p',(st++[yH T []])[c']? =some p'→(c'=st.length∧p'=yH T [])∨(c'<st.length∧st[c']? =some p'):=fun c' p' e=>by
  by_cases z1:c'<st.length
  ·rw[zF z1]at e;exact .inr ⟨z1,e⟩
  ·rw[zH (by omega)]at e;have h0:c' - st.length=0:=by have:=(zE.1 e).1;simpa using this
   rw[h0]at e;exact .inl ⟨by omega,(Option.some.inj e).symm⟩
 have z6:∀k,(yH T ([]:List Iv)).getD k []=[]:=fun k=>by by_cases hk:k<T<;>simp[yV,hk]
 have lQ:∀c',c'<st.length→Q c'<H.length:=fun c' z7=>Qh (h.row c' _ (zI z7));have lo:=Qh h.out;have hlen:=h.len;have ze:∀c',c'<st.length→Q c'≠o:=fun c' z7 e=>by have h1:=h.to;have h2:=h.tQ c' z7;rw[←e,h2]at h1;simp at h1
 refine⟨?_,fun c' p' e=> ?_,fun c' p' k e z8 hn=> ?_,fun c' z7=> ?_,fun c' p' k e z8 hn=> ?_,?_,by omega,fun c' z7=> ?_,fun c' p' k e z8 hn=> ?_,fun j hj=> ?_,by have:=Qh za;omega,fun j hj=> ?_⟩
 ·rw[za]
  congr 2
  rw[yB,vL,Cg,Cg,wp,yF]
  congr 1
  ·exact xT fun c hc=>by rw[if_neg (by have:=yW.1 hc;omega)]
  ·simp
 ·rcases zb c' p' e with⟨rfl,rfl⟩|⟨hc,e'⟩
  ·rw[if_pos rfl,zc]
   congr 2
   refine xO fun k=> ?_;by_cases hkT:k<T
   ·rw[Sa _ _ hkT,z6];simp[Ff,hkT]
   ·rw[yZ (by simp;omega),yZ (by rw[Oy];omega)]
  ·rw[if_neg (by omega),hk _ (lQ c' hc) (ze c' hc)];exact h.row _ _ e'
 ·rcases zb c' p' e with⟨rfl,rfl⟩|⟨hc,e'⟩
  ·exact absurd (z6 k) hn
  ·have hl:=h.leaf _ _ k e' z8 hn;rw[hk _ (Qh hl) (fun e=>by have h1:=h.to;have h2:=h.tL _ _ k e' z8 hn;rw[e,h1]at h2;simp at h2)];exact hl
 ·rw[yB,vL]at z7;by_cases z1:c'=st.length
  ·rw[if_pos z1,if_pos rfl,z1]
  ·have:=lQ c' (by omega);rw[if_neg z1,if_neg (by omega),if_neg (by omega)];exact h.tQ c' (by omega)
 ·rcases zb c' p' e with⟨rfl,rfl⟩|⟨hc,e'⟩
  ·exact absurd (z6 k) hn
  ·have:=Qh (h.leaf _ _ k e' z8 hn);rw[if_neg (by omega),if_neg (by omega)];exact h.tL _ _ k e' z8 hn
 ·rw[if_neg (fun e=>zd e.symm),if_pos rfl]
 ·rw[yB,vL]at z7;by_cases z1:c'=st.length
  ·rw[if_pos z1];omega
  ·rw[if_neg z1];exact h.geQ c' (by omega)
 ·rcases zb c' p' e with⟨rfl,rfl⟩|⟨hc,e'⟩
  ·exact absurd (z6 k) hn
  ·exact h.geL _ _ k e' z8 hn
 ·have zf:=h.geo;rw[hk j (by omega) (by omega)];exact h.keep j hj
 ·rw[if_neg (by omega),if_neg (by omega)];exact h.tK j hj
theorem Rows.start0(T o:Nat)(H:List AObj)(ho:H[o]? =some (.va 76 1 []))(tag:Nat→Nat×Nat)(ht:tag o=(0,0)):Rows [] T o [] (fun _=>0) (fun _ _=>0) tag H:=by refine⟨by simpa[Cg]using ho,fun c p hc=>by simp at hc,fun c p k hc=>by simp at hc,fun c hc=>by simp at hc,fun c p k hc=>by simp at hc,ht,by simp,fun c hc=>by simp at hc,fun c p k hc=>by simp at hc,fun i hi=>by simp at hi,by simp,fun i hi=>by simp at hi⟩
end
end Go.Abs
namespace Go.Abs
open Go Go.Proofs
def ascS(s:List Iv):Prop:=(∀x∈s,x.lo≤x.hi)∧s.Pairwise (fun x y=>x.hi<y.lo)
theorem ascS.take{s:List Iv}(h:ascS s)(k:Nat):ascS (s.take k):=⟨fun x hx=>h.1 x (xK hx),h.2.take⟩
theorem q0j{s ini:List Iv}{y x:Iv}{m:Nat}(h:ascS s)(hm:m<s.length)(hx:s[m]=x)(e:Qy [] (s.take m)=ini++[y]):y.hi<x.lo:=by
 have h1:=Oe (h.take m);have hy:y∈Qy [] (s.take m):=by rw[e];simp
 have z7:y.lo≤y.hi:=h1.1.1 y hy;obtain⟨z,hz,z1,z2⟩:=(h1.2 y.hi).1 ⟨y,hy,z7,xH _⟩;obtain⟨i,hi,z6⟩:=y_ hz;rw[xN]at hi;rw[List.getElem_take]at z6;have:=yR.1 h.2 i m (by omega) hm (by omega);rw[z6,hx]at this;omega
theorem g1w{ini:List Iv}{y x:Iv}(h1:y.hi<x.lo)(h2:x.lo≤x.hi):W6 (ini++[y]) x=if y.hi+1=x.lo then ini++[⟨y.lo,x.hi⟩]else ini++[y]++[x]:=by
 rw[W9];by_cases e:y.hi+1=x.lo
 ·rw[if_pos e,if_pos (by omega),if_pos (by omega)]
 ·rw[if_neg e,if_neg (by omega)]
theorem q2q{L:List Prd}{p:Prd}{s:List Iv}(hp:p∈L)(hs:s∈p)(h:256<s.length):Az L=true:=by simp only[Az,vQ,wN];exact .inr ⟨p,hp,s,hs,by simpa using h⟩
theorem g1c{L:List Prd}(hl:L.length≤256)(h:∀p∈L,∀s∈p,s.length≤256):Az L=false:=by
 rw[Bool.eq_false_iff];intro hb;simp only[Az,vQ,wN,decide_eq_true_eq]at hb;rcases hb with hb|⟨p,hp,s,hs,hb⟩
 ·omega
 ·have:=h p hp s hs;omega
def Nu(L:Nat→Nat)(T:Nat)(p:Prd)(k:Nat):List AV:=(yJ T).map fun i=>if i<k then encL (Qy [] (p.getD i []))else Ff (L i) (p.getD i [])
theorem x1e(L:Nat→Nat)(T:Nat)(p:Prd)(k:Nat):(Nu L T p k).length=T:=by simp[Nu]
theorem q1w(L:Nat→Nat)(T:Nat)(p:Prd):Nu L T p 0=c0c L T p:=xT fun i _=>by simp
theorem z1n(L:Nat→Nat){T k:Nat}(p:Prd)(h:k<T):(Nu L T p k)[k]? =some (Ff (L k) (p.getD k [])):=by simp[Nu,h]
theorem y1e(L:Nat→Nat){T k:Nat}(p:Prd)(h:k<T):(Nu L T p k).set k (encL (Qy [] (p.getD k [])))=Nu L T p (k+1):=by
 refine wK (by simp[Nu]) fun j h1 h2=> ?_;have hj:j<T:=by simpa[Nu]using h2
 rw[tn];by_cases e:k=j
 ·subst e;simp[Nu]
 ·rw[if_neg e];simp only[Nu,uq,ui];by_cases h3:j<k
  ·rw[if_pos h3,if_pos (by omega)]
  ·rw[if_neg h3,if_neg (by omega)]
theorem Mo{p:Prd}{T:Nat}(h:p.length=T)(f:List Iv→AV):(yJ T).map (fun i=>f (p.getD i []))=p.map f:=by
 subst h;refine wK (by simp) fun j h1 h2=> ?_;have hj:j<p.length:=by simpa using h1
 simp[hj]
theorem v1h(L:Nat→Nat){T:Nat}{p:Prd}(h:p.length=T):Nu L T p T=(Rl p).map encL:=by
 have:Nu L T p T=(yJ T).map (fun i=>(fun s=>encL (Qy [] s)) (p.getD i [])):=xT fun i hi=>by rw[if_pos (yW.1 hi)]
 rw[this,Mo h (fun s=>encL (Qy [] s)),Rl,vN];rfl
theorem d08(l:List (List Iv)):(l.map encL).all (fun x=>x.cells.all AV.pure)=true:=by rw[zW];intro x hx;obtain⟨s,_,rfl⟩:=zR.1 hx;simp[AV.cells,AV.pure]
def Bt(Q:Nat→Nat)(T:Nat)(st:List Prd)(c:Nat):List AV:=(yJ st.length).map fun j=>if j<c then encP (Rl (st.getD j []))else .agg [.sl (Q j) 1 0 T]
theorem y1j(Q:Nat→Nat)(T:Nat)(st:List Prd)(c:Nat):(Bt Q T st c).length=st.length:=by simp[Bt]
theorem j0i(Q:Nat→Nat)(T:Nat)(st:List Prd):Bt Q T st 0=Cg Q T st.length:=xT fun i _=>by simp
theorem v1v(Q:Nat→Nat)(T:Nat){st:List Prd}{c:Nat}(h:c<st.length):(Bt Q T st c)[c]? =some (.agg [.sl (Q c) 1 0 T]):=by simp[Bt,h]
theorem g1l{Q:Nat→Nat}{T:Nat}{st:List Prd}{c:Nat}(h:c<st.length)(z6:∀j,j<st.length→j≠c→Q j≠Q c)(hT:st[c].length=T):
  (Bt Q T st c).map (AV.fz (Q c) 1 ((Rl st[c]).map encL))=Bt Q T st (c+1):=by
 refine wK (by simp[Bt]) fun j h1 h2=> ?_;have hj:j<st.length:=by simpa[Bt]using h2
 have z1:(Rl st[c]).length=T:=by simp[Rl,hT]
 simp only[Bt,uq,ui];by_cases h3:j<c
 ·rw[if_pos h3,if_pos (by omega)];simp[Zh,f0q]
 ·rw[if_neg h3];by_cases e:j=c
  ·subst e;rw[if_pos (by omega),Zh];have:st.getD j []=st[j]:=by simp[yV,hj]
   rw[this];simp only[yY,wI,AV.fz,encP];rw[if_pos (by simp[z1]),List.drop_zero,zO (by simp[z1])]
  ·rw[if_neg (by omega),Zh];simp only[yY,wI,AV.fz];rw[if_neg (fun a=>z6 j hj e a.1)]
theorem z16(Q:Nat→Nat)(T:Nat)(st:List Prd):Bt Q T st st.length=(st.map Rl).map encP:=by
 refine wK (by simp[Bt]) fun j h1 h2=> ?_;have hj:j<st.length:=by simpa[Bt]using h1
 simp[Bt,hj]
theorem f0p(l:List Prd):(l.map encP).all (fun x=>x.cells.all AV.pure)=true:=by rw[zW];intro x hx;obtain⟨s,_,rfl⟩:=zR.1 hx;simp[AV.cells,AV.pure]
theorem d1e{l:List AV}{i:Nat}{x:AV}(h:l[i]? =some x):i<l.length:=(zE.1 h).1
theorem q0x{P:Program}[Env P]{nt k:Nat}{cd:Code}{Q:Exit→AS→Prop}{sl:List (Nat×AV)}{H:List AObj}(F:List AObj→Prop)(h1:(∀H1,F H1→AWP P nt k cd Q ⟨sl,H1⟩)→AWP P nt k cd Q ⟨sl,H⟩)(h2:∀H1,F H1→AWP P nt k cd Q ⟨sl,H1⟩):AWP P nt k cd Q ⟨sl,H⟩:=h1 h2
attribute [local irreducible] W6 Qy W4 c0c Nu Cg Bt
theorem j1p(T o:Nat)(st:List Prd)(Q:Nat→Nat)(L:Nat→Nat→Nat)(tag:Nat→Nat×Nat)(H:List AObj)(h:Rows [] T o st Q L tag H)(hT:T≤16)(hw:∀p∈st,p.length=T∧∀s∈p,ascS s∧s.length≤10000000∧∀x∈s,U7 x):
  FC Tryz.prog 170 [.sl o 1 0 st.length] H (fun r _=>(r= .tup [.nils,.i 5]∧Az (st.map Rl)=true)∨(r= .tup [LP (st.map Rl),.i 0]∧Az (st.map Rl)=false)):=by
 refine Ea tOk Tryz.func170 rfl Tryz.results170 rfl (by simp[Tryz.ntmps170]) ?_;rw[Tryz.ntmps170];simp only[Qg];repeat first|(refine r_ ?_;simp)|refine q_ ?_
 refine Qb rfl (fun zc=> ?_) (fun yb=> ?_)
 ·have hb:256<st.length:=by simp at zc;omega
  repeat first|(refine r_ ?_;simp)|refine q_ ?_
  simp[Az];omega
 have hn:st.length≤256:=by simp at yb;omega
 repeat first|(refine r_ ?_;simp)|refine q_ ?_
 have yq:=Qh h.out;have tagne:∀c c',c<st.length→c'<st.length→c≠c'→Q c≠Q c':=fun c c' h1 h2 za e=>by have a:=h.tQ c h1;have b:=h.tQ c' h2;rw[e,b]at a;simp at a;omega
 have y3:∀c,c<st.length→Q c≠o:=fun c hc e=>by have h1:=h.to;have h2:=h.tQ c hc;rw[←e,h2]at h1;simp at h1
 refine Qp (Qc (sl':=[(0,.sl o 1 0 st.length),(15,.sl o 1 0 st.length),(16,.i st.length),(17,.i (0:Nat))]) ?_ (by simp));refine Qo (F:=fun(u:Nat×List AObj)=>⟨[(0,.sl o 1 0 st.length),(15,.sl o 1 0 st.length),(16,.i st.length),(17,.i u.1)],u.2⟩)
  (fun u=>u.1≤st.length∧H.length≤u.2.length∧u.2[o]? =some (.va 76 1 (Bt Q T st u.1))∧(∀j,j<H.length→j≠o→(∀c,c<u.1→j≠Q c)→u.2[j]? =H[j]?)∧∀p∈(st.map Rl).take u.1,∀s∈p,s.length≤256) (fun u=>st.length - u.1) ?_ (0,H) ⟨by simp,by simp,by rw[j0i];exact h.out,fun _ _ _ _=>rfl,by simp⟩
 rintro⟨c,G⟩ ⟨hc,hG,go,gk,gs⟩ ih;simp only at hc hG go gk gs ih ⊢;repeat first|(refine r_ ?_;simp)|refine q_ ?_
 refine Qb rfl (fun yc=> ?_) (fun yd=> ?_)
 ·have z1:c<st.length:=by simpa using yc
  have ye:IntKind.i64.wrap ((c:Int)+1)=c+1:=wrap_i64 _ (by omega) (by omega);have zn:=v1v Q T z1;have yf:=y1j Q T st c;have hp:=hw _ (zK z1);have yg:=g1l z1 (fun j hj za=>tagne j c hj z1 za) hp.1;have yh:=(gk (Q c) (Qh (h.row c _ (zI z1))) (y3 c z1) (fun c' zj=>tagne c c' z1 (by omega) (by omega))).trans (h.row c _ (zI z1));have hle:∀k,k<T→st[c].getD k []≠[]→G[L c k]? =some (.arr 187 2 ((st[c].getD k []).map encIv))∧L c k≠Q c∧L c k≠o∧L c k<H.length:=fun k hk za=>by
   have hl:=h.leaf c _ k (zI z1) hk za;have ht:=h.tL c _ k (zI z1) hk za;have h1:L c k≠o:=fun e=>by have:=h.to;rw[←e,ht]at this;simp at this
   have h2:∀c',c'<st.length→L c k≠Q c':=fun c' zj e=>by have:=h.tQ c' zj;rw[←e,ht]at this;simp at this
   exact⟨(gk _ (Qh hl) h1 (fun c' zj=>h2 c' (by omega))).trans hl,h2 c z1,h1,Qh hl⟩
  have yr:=Qh (h.row c _ (zI z1));have zk:=y3 c z1;have yi:(st.map Rl).take (c+1)=(st.map Rl).take c++[Rl st[c]]:=by rw[zP (by simpa using z1)];simp
  have yj:Rl st[c]∈st.map Rl:=zR.2 ⟨_,zK z1,rfl⟩;generalize yt:st[c]=p at *;generalize Bt Q T st c=od at *
  have zo:∀hh,od[c]'hh= .agg [.sl (Q c) 1 0 T]:=fun hh=>by rw[zI hh]at zn;exact Option.some.inj zn
  repeat first|(refine r_ ?_;simp[go,zn,zo,yf,z1])|refine q_ ?_
  have yu:0<G.length:=by omega
  refine Qp (Qc (sl':=[(0,.sl o 1 0 st.length),(5,.vptr G.length 0),(15,.sl o 1 0 st.length),(16,.i st.length),(17,.i c),(22,.sl (Q c) 1 0 T),(23,.i T),(24,.i (0:Nat))]) ?_ (by simp));refine Qo (F:=fun(u:Nat×List AObj)=>⟨[(0,.sl o 1 0 st.length),(5,.vptr G.length 0),(15,.sl o 1 0 st.length),(16,.i st.length),(17,.i c),(22,.sl (Q c) 1 0 T),(23,.i T),(24,.i u.1)],u.2⟩)
   (fun u=>u.1≤T∧G.length+1≤u.2.length∧u.2[Q c]? =some (.va 171 1 (Nu (L c) T p u.1))∧(∀j,j<G.length→j≠Q c→u.2[j]? =G[j]?)∧u.2[G.length]? =some (.vars [.sl (Q c) 1 0 T])∧∀s∈(Rl p).take u.1,s.length≤256) (fun u=>T - u.1) ?_ (0,_) ⟨by simp,by simp,by rw[q1w];exact Qa yh _,fun j hj _=>zF hj,by simp,by simp⟩
  rintro⟨k,E⟩ ⟨hk,hE,eq,ek,e5,es⟩ ih2;simp only at hk hE eq ek e5 es ih2 ⊢;repeat first|(refine r_ ?_;simp)|refine q_ ?_
  refine Qb rfl (fun zp=> ?_) (fun zq=> ?_)
  ·have z6:k<T:=by simpa using zp
   have yk:IntKind.i64.wrap ((k:Int)+1)=k+1:=wrap_i64 _ (by omega) (by omega);have zd:=z1n (L c) p z6;have y4:=x1e (L c) T p k;have zr:=y1e (L c) p z6;have zl:k<p.length:=by rw[hp.1];exact z6
   have y5:p.getD k []=p[k]:=Wo zl;have y6:(Rl p).take (k+1)=(Rl p).take k++[Qy [] p[k]]:=by rw[zP (by simpa[Rl]using zl)];simp[Rl]
   have yl:Qy [] p[k]∈Rl p:=zR.2 ⟨_,zK zl,rfl⟩;have ze:=hp.2 _ (zK zl);have y7:=hle k z6;have zf:=fun E'=>ih2 (k+1,E');rw[y5]at zd y7 zr;simp only[←zr,y6]at zf;clear zr y6 y5;generalize Nu (L c) T p k=rd at *;generalize p[k]=s at *
   have yv:E[Q c]? =some (.va 171 1 rd):=eq;refine q0x (fun E1=>∃z,E1[Q c]? =some (.va 171 1 (rd.set k (.sl z 2 0 s.length)))∧E1[z]? =some (.arr 187 2 (s.map encIv))∧(∀j,j<G.length+1→j≠Q c→E1[j]? =E[j]?)∧E.length≤E1.length∧z≠Q c) (fun hm=> ?_) ?_
   ·by_cases hs0:s=[]
    ·subst hs0;simp only[Ff,if_true]at zd;refine Ak (Q c) k 187 2 eq zd ?_;have hl:=Qh eq;refine hm _ ⟨E.length,Qj (Qa eq _) _,?_,fun j hj za=> ?_,by simp,by omega⟩
     ·rw[zB (by omega)];simp
     ·rw[zB (Ne.symm za),zF (by omega)]
    ·simp only[Ff,if_neg hs0]at zd;obtain⟨k1,k2,k3,k4⟩:=y7 hs0;have zt:rd.set k (.sl (L c k) 2 0 s.length)=rd:=by
      refine xO fun j=> ?_;by_cases e:k=j
      ·subst e;rw[zd,zL (d1e zd)]
      ·rw[zB e]
     refine hm E ⟨L c k,by rw[zt];exact eq,?_,fun _ _ _=>rfl,zQ _,k2⟩;rw[ek _ (by omega) k2];exact k1
   ·rintro E1 ⟨z,f1,f2,f3,f4,f5⟩;have ym:∀hh,(rd.set k (.sl z 2 0 s.length))[k]'hh= .sl z 2 0 s.length:=fun hh=>by simp
    have f6:=f3 G.length (by omega) (by omega);rw[e5]at f6;have yw:=ze.2.1;repeat first|(refine r_ ?_;simp[f1,ym,y4,z6])|refine q_ ?_
    refine Q3 8 187 2 rfl ?_;simp;have yn:=SL.start E1 187 2;refine Qp (Qc (sl':=[(0,.sl o 1 0 st.length),(5,.vptr G.length 0),(6,.i k),(8,.sl E1.length 2 0 (Qy [] (s.take 0)).length),(15,.sl o 1 0 st.length),(16,.i st.length),(17,.i c),(22,.sl (Q c) 1 0 T),(23,.i T),(24,.i k),(29,.sl z 2 0 s.length),(30,.i s.length),(31,.i (0:Nat))]) ?_ (by simp[Qy]));refine Qo (F:=fun(u:Nat×Nat×List AObj)=>⟨[(0,.sl o 1 0 st.length),(5,.vptr G.length 0),(6,.i k),(8,.sl u.2.1 2 0 (Qy [] (s.take u.1)).length),(15,.sl o 1 0 st.length),(16,.i st.length),(17,.i c),(22,.sl (Q c) 1 0 T),(23,.i T),(24,.i k),(29,.sl z 2 0 s.length),(30,.i s.length),(31,.i u.1)],u.2.2⟩)
     (fun u=>u.1≤s.length∧SL E1 u.2.2 u.2.1 187 2 ((Qy [] (s.take u.1)).map encIv)) (fun u=>s.length - u.1) ?_ (0,E1.length,_) ⟨by simp,by rw[ww,Qy,uE];exact yn⟩
    rintro⟨j,p2,W⟩ ⟨hj,g⟩ ih3;simp only at hj g ih3 ⊢;repeat first|(refine r_ ?_;simp)|refine q_ ?_
    refine Qb rfl (fun zu=> ?_) (fun zv=> ?_)
    ·have z7:j<s.length:=by simpa using zu
     have zw:IntKind.i64.wrap ((j:Int)+1)=j+1:=wrap_i64 _ (by omega) (by omega);have y8:Qy [] (s.take (j+1))=W6 (Qy [] (s.take j)) s[j]:=by rw[zP z7,Uu]
     have zx:(Qy [] (s.take j)).length≤j:=yO (Rb _ _) (by simp;omega);have zy:∀y∈Qy [] (s.take j),U7 y:=Iq _ _ (by simp) (fun y hy=>ze.2.2 y (xK hy));have zb:=fun ini y=>q0j (ini:=ini) (y:=y) (x:=s[j]) ze.1 z7 rfl;have yo:=ze.1.1 _ (zK z7);have yx:=(Eb _).1 (ze.2.2 _ (zK z7)).2;have gz:=(g.keep z (Qh f2)).trans f2;have z8:=fun p' G'=>ih3 (j+1,p',G');simp only[y8]at z8;clear y8;generalize Qy [] (s.take j)=acc at *
     repeat first|(refine r_ ?_;simp[gz,z7])|refine q_ ?_
     generalize s[j]=x at *
     rcases wV acc with rfl|⟨ini,y,rfl⟩
     ·refine Qn tOk mixed [] (.val 0 (.val 1 (.val 2 (.val 3 (.val 4 (.val 5 (.val 6 (.val 7 (.val 8 (.val 9 (.val 10 (.val 11 (.val 12 (.val 13 (.done))))))))))))))) rfl (by kernel_rfl) ?_;simp[(by decide:IntKind.i64.wrap (-1)= -1)];refine Qk rfl ?_;simp;repeat first|(refine r_ ?_;simp)|refine q_ ?_
      refine Qe tOk rfl rfl U6 rfl Sl rfl (by decide) (by decide) rfl rfl rfl ?_;simp[Qa g.arr,Qi g.arr];refine⟨by simp[Wa,Qa g.arr,Qi g.arr]<;>omega,?_⟩;repeat first|(refine r_ ?_;simp[zw])|refine q_ ?_
      refine Qc (sl':=[(0,.sl o 1 0 st.length),(5,.vptr G.length 0),(6,.i k),(8,.sl (W.length+2) 2 0 1),(15,.sl o 1 0 st.length),(16,.i st.length),(17,.i c),(22,.sl (Q c) 1 0 T),(23,.i T),(24,.i k),(29,.sl z 2 0 s.length),(30,.i s.length),(31,.i (j+1:Nat))]) ?_ (by simp);have:=z8 (W.length+2) _ ⟨by omega,by rw[W6];exact g.put [AObj.vars [AV.i x.lo,AV.i x.hi],AObj.arr 187 2 [encIv x]] _ rfl⟩ (by omega);rw[W6]at this;simpa using this
     ·have yy:=(Eb _).1 (zy y (by simp)).2;have y9:IntKind.i64.wrap (y.hi+1)=y.hi+1:=wrap_i64 _ (by omega) (by omega);have gA:=g.arr;rw[wW]at g gA z8 zx zb ⊢;have hlen:(ini++[y]).length=ini.length+1:=by simp
      rw[hlen]at zx ⊢;have ya:IntKind.i64.wrap (ini.length:Int)=ini.length:=wrap_i64 _ (by omega) (by omega);have hg:((ini++[y]).map encIv)[ini.length]? =some (encIv y):=by simp
      have zg:(ini.length:Int)<ini.length+1:=by omega
      have zm:=g1w (ini:=ini) (zb ini y rfl) yo;refine Qn tOk mixed [] (.val 0 (.val 1 (.val 2 (.val 3 (.val 4 (.val 5 (.val 6 (.val 7 (.val 8 (.val 9 (.val 10 (.val 11 (.val 12 (.val 13 (.done))))))))))))))) rfl (by kernel_rfl) ?_;simp[Qa gA,ya,hg,y9,zg];refine Qb rfl (fun h1=> ?_) (fun h1=> ?_)
      ·repeat first|(refine r_ ?_;simp[Qa gA,ya,hg,y9,zg,Qi gA,zw])|refine q_ ?_
       have zz:y.hi+1=x.lo:=by simpa using h1
       rw[if_pos zz]at zm;rw[zm]at z8;refine Qc (sl':=[(0,.sl o 1 0 st.length),(5,.vptr G.length 0),(6,.i k),(8,.sl p2 2 0 (ini.length+1)),(15,.sl o 1 0 st.length),(16,.i st.length),(17,.i c),(22,.sl (Q c) 1 0 T),(23,.i T),(24,.i k),(29,.sl z 2 0 s.length),(30,.i s.length),(31,.i (j+1:Nat))]) ?_ (by simp);have:=z8 p2 _ ⟨by omega,g.upd [AObj.vars [AV.i x.lo,AV.i x.hi]] _⟩ (by omega);simpa using this
      ·repeat first|(refine r_ ?_;simp)|refine q_ ?_
       refine Qe tOk rfl rfl U6 rfl Sl rfl (by decide) (by decide) rfl rfl rfl ?_;simp[Qa gA,Qi gA];refine⟨by simp[Wa,Qa gA,Qi gA]<;>omega,?_⟩;repeat first|(refine r_ ?_;simp[zw])|refine q_ ?_
       have zz:¬y.hi+1=x.lo:=by simpa using h1
       rw[if_neg zz]at zm;rw[zm]at z8;refine Qc (sl':=[(0,.sl o 1 0 st.length),(5,.vptr G.length 0),(6,.i k),(8,.sl (W.length+2) 2 0 (ini.length+2)),(15,.sl o 1 0 st.length),(16,.i st.length),(17,.i c),(22,.sl (Q c) 1 0 T),(23,.i T),(24,.i k),(29,.sl z 2 0 s.length),(30,.i s.length),(31,.i (j+1:Nat))]) ?_ (by simp);have:=z8 (W.length+2) _ ⟨by omega,g.put [AObj.vars [AV.i x.lo,AV.i x.hi],AObj.arr 187 2 [encIv x]] _ rfl⟩ (by omega);simpa using this
    ·have zh:j=s.length:=by simp at zv;omega
     subst zh;rw[yP]at g ⊢;have zx:(Qy [] s).length≤s.length:=yO (Rb _ _) (by simp);repeat first|(refine r_ ?_;simp)|refine q_ ?_
     refine Wh p2 g.arr ?_;simp;rw[zO (by simp)];have yz:=(Qh g.arr)
     have x0:=g.ge;have w1:∀j,j<E1.length→(W.set p2 .dead)[j]? =E1[j]? :=fun j hj=>by rw[zB (by omega)];exact g.keep j hj
     have w2:(W.set p2 .dead).length=W.length:=by simp
     generalize W.set p2 .dead=V at *;refine Qb rfl (fun zc=> ?_) (fun y0=> ?_)
     ·repeat first|(refine r_ ?_;simp)|refine q_ ?_
      exact q2q yj yl (by simp at zc;omega)
     ·have v1:=(w1 _ (Qh f1)).trans f1;have v2:=(w1 _ (Qh f6)).trans f6;have v0:∀j,j<G.length+1→j≠Q c→V[j]? =E[j]? :=fun j hj za=>(w1 j (by omega)).trans (f3 j hj za);repeat first|(refine r_ ?_;simp[v1,v2,y4,z6,yk])|refine q_ ?_
      refine Qc (sl':=[(0,.sl o 1 0 st.length),(5,.vptr G.length 0),(15,.sl o 1 0 st.length),(16,.i st.length),(17,.i c),(22,.sl (Q c) 1 0 T),(23,.i T),(24,.i (k+1:Nat))]) ?_ (by simp);refine zf _ ⟨by omega,by simp;omega,Qj v1 _,fun j hj za=> ?_,?_,fun t ht=> ?_⟩ (by omega)
      ·rw[zB (Ne.symm za),v0 j (by omega) za];exact ek j hj za
      ·rw[zB (by omega)];exact v2
      ·rcases zV.1 ht with ht|ht
       ·exact es t ht
       ·rw[zT.1 ht];simp at y0;omega
  ·have zi:k=T:=by simp at zq;omega
   subst zi;rw[v1h (L c) hp.1]at eq;have x1:(Rl p).length=k:=by simp[Rl,hp.1]
   have eo:=(ek o (Qh go) (Ne.symm zk)).trans go;refine Ue (Q c) eq (d08 _) ?_;refine Yd (Q c) (Qj eq _) (o0:= .va 76 1 od) o (Qd zk eo _) (Ne.symm zk) rfl ?_;have y1:¬o=Q c:=Ne.symm zk;simp[AObj.fz,yg,y1];repeat first|(refine r_ ?_;simp[ye])|refine q_ ?_
   refine Qc (sl':=[(0,.sl o 1 0 st.length),(15,.sl o 1 0 st.length),(16,.i st.length),(17,.i (c+1:Nat))]) ?_ (by simp);have yp:=Qh eo;refine ih (c+1,_) ⟨by omega,by simp;omega,zL (by simpa using yp),fun j hj h1 h2=> ?_,fun P hP=> ?_⟩ (by omega)
   ·have h3:=h2 c (by omega);rw[zB (Ne.symm h1),zB (Ne.symm h3),ek j (by omega) h3];exact gk j hj h1 (fun c' zj=>h2 c' (by omega))
   ·rw[yi]at hP;rcases zV.1 hP with hP|hP
    ·exact gs P hP
    ·rw[zT.1 hP];rw[zO (by omega)]at es;exact es
 ·have y2:c=st.length:=by simp at yd;omega
  subst y2;rw[z16]at go;rw[zO (by simp)]at gs;refine Ue o go (f0p _) ?_;refine Wh o (Qj go _) ?_;simp;rw[zO (by simp)];repeat first|(refine r_ ?_;simp)|refine q_ ?_
  exact g1c (by simpa using hn) gs
end Go.Abs
namespace Go.Abs
open Go Go.Proofs Go.Maps
attribute [simp] v2f T92
def stM(l:List Int):AObj:= .mp (l.map fun z=>(.i z,.bool true))
theorem Sb:Keyed Tryz.prog 3:=int_keyed (q:= .i64) (by kernel_rfl)
theorem u1n{z:Int}(h:0≤z∧z≤1000000):(Lit.int .i64 z).wf=true:=by
 have h1:IntKind.i64.min= -9223372036854775808:=by decide
 have h2:IntKind.i64.max=9223372036854775807:=by decide
 simp only[Lit.wf,h1,h2,Bool.and_eq_true,decide_eq_true_eq];omega
theorem Ya{z:Int}(h:0≤z∧z≤1000000):isKey Tryz.prog 3 (.i z):=
 ⟨.int .i64 z,.int .i64 z,rfl,keyOf_int_mk (q:= .i64) (by kernel_rfl) (u1n h)⟩
section
variable {nt k:Nat} {S:AS} {ops:Array Oper} {o:Oper} {R:AS→Prop}
end
end Go.Abs
namespace Go.Abs
open Go Go.Proofs Go.Maps
theorem Nl:Keyed Tryz.prog 9:=string_keyed (by kernel_rfl)
theorem S0(s:List UInt8)(h:s.length≤1000000):isKey Tryz.prog 9 (.str s):=
 ⟨.string ⟨s.toArray⟩,.string s,rfl,by
  have:=Go.WideMaps.keyOf_string_mk (P:=Tryz.prog) (k:=9) (s:=⟨s.toArray⟩) (by kernel_rfl) (by show s.toArray.size≤maxLen;unfold maxLen;simp;omega);exact this⟩
def mpT(ks:List (List UInt8)):AObj:= .mp (ks.mapIdx fun c k=>(.str k,.i c))
section
variable {nt k:Nat} {S:AS} {ops:Array Oper} {o:Oper} {R:AS→Prop}
theorem f0r{ks:List (List UInt8)}(hl:∀m∈ks,m.length≤1000000):∀p∈ks.mapIdx (fun c k=>(AV.str k,AV.i (c:Nat))),isKey Tryz.prog 9 p.1:=fun p hp=>by obtain⟨i,h,rfl⟩:=tr.1 hp;exact S0 _ (hl _ (zK h))
theorem Ge {wr:Bool} (hw:Q7 ops S o=some true) (hd:W7 nt o=true) {x ix:Operand} (ho:o.op= .lookup 92 x ix true) {id:Nat} (hx:rho S.sl x=some (.mref id)) {n:List UInt8} (z1:rho S.sl ix=some (.str n))
  {ks:List (List UInt8)} (z6:S.hp[id]? =some (mpT ks)) (hl:∀m∈ks,m.length≤1000000) (hn:n.length≤1000000) (z7:∀j:Nat,ks[j]? =some n→R (S.putD o.dst (.tup [.i j,.bool true]))) (z8:n∉ks→R (S.putD o.dst (.tup [.i 0,.bool false]))):Wv Tryz.prog nt k wr ops o S R:=by
 refine Y2 tOk hw hd ho T92 rfl T3 Nl hx z1 z6 (S0 n hn) (f0r hl) (z:= .i 0) rfl (fun j p hp he=> ?_) (fun za=> ?_)
 ·rw[vA]at hp;obtain⟨m,hm,rfl⟩:=zU.1 hp;have zb:m=n:=by simpa using he
  rw[zb]at hm;exact z7 j hm
 ·refine z8 fun h=> ?_;obtain⟨i,hi,rfl⟩:=y_ h;exact za _ (tr.2 ⟨i,hi,rfl⟩) rfl
theorem L3 (hw:Q7 ops S o=some true) (hd:W7 nt o=true) {x ix y:Operand} (ho:o.op= .mapUpdate 92 x ix y) {id:Nat} (hx:rho S.sl x=some (.mref id)) {n:List UInt8} (z1:rho S.sl ix=some (.str n))
  {ks:List (List UInt8)} (hy:rho S.sl y=some (.i ks.length)) (z6:S.hp[id]? =some (mpT ks)) (hl:∀m∈ks,m.length≤1000000) (hn:n.length≤1000000) (z7:n∉ks) (hR:R (({ S with hp:=S.hp.set id (mpT (ks++[n])) }:AS).putD o.dst (.tup []))):Wv Tryz.prog nt k true ops o S R:=by
 refine T1 tOk hw hd ho T92 rfl Nl hx z1 hy (by simp[AV.pure]) z6 (S0 n hn) (f0r hl) (fun j p hp he=> ?_) (fun za=> ?_)
 ·rw[vA]at hp;obtain⟨m,hm,rfl⟩:=zU.1 hp;have z8:m=n:=by simpa using he
  exact absurd (by rw[←z8];exact zJ hm) z7
 ·have:ks.mapIdx (fun c k=>(AV.str k,AV.i (c:Nat)))++[(.str n,.i ks.length)]=(ks++[n]).mapIdx (fun c k=>(AV.str k,AV.i (c:Nat))):=by simp
  rw[this];exact hR
end
theorem P4:∀cs:List Int,(Tv cs).length=cs.length - 1
 |[]=>rfl
 |[_]=>rfl
 |a::b::r=>by rw[Tv,yS,P4 (b::r)];simp
theorem w0p:∀(cs:List Int) (k:Nat) (h:k+1<cs.length),(Tv cs)[k]? =some ⟨cs[k],cs[k+1] - 1⟩
 |[],k,h=>by simp at h
 |[_],k,h=>by simp at h
 |a::b::r,0,h=>rfl
 |a::b::r,k+1,h=>by
  have h':k+1<(b::r).length:=by simp at h ⊢;omega
  rw[Tv,uJ,w0p (b::r) k h'];rfl
theorem V8{T i:Nat}{sg:List Bool}{x:Iv}:∀ {st:List (List Bool×Prd)} {j:Nat} {p:Prd},(st.map (·.1)).Nodup→st[j]? =some (sg,p)→T8 T i sg x st=st.set j (sg,Uy p i x)
 |[],j,p,_,h=>by simp at h
 |(s,q)::r,0,p,hn,h=>by simp at h;obtain⟨rfl,rfl⟩:=h;rw[T8,if_pos rfl];rfl
 |(s,q)::r,j+1,p,hn,h=>by rw[yY,List.nodup_cons]at hn;rw[uJ]at h;rw[T8,if_neg (fun e=>hn.1 (by subst e;exact zR.2 ⟨_,zJ h,rfl⟩)),V8 hn.2 h];rfl
structure GB (T N n:Nat) (st:List (List Bool×Prd)):Prop where
 nd:(st.map (·.1)).Nodup
 le:st.length≤n
 len:∀g∈st,g.2.length=T
 sz:∀g∈st,∀s∈g.2,s.length≤n
 kl:∀g∈st,g.1.length=N
theorem c0t{T n:Nat}{p:Prd}(hp:p.length=T)(h:∀s∈p,s.length≤n)(i:Nat)(x:Iv):(Uy p i x).length=T∧∀s∈Uy p i x,s.length≤n+1:=by
 refine⟨by simp[Uy,hp],fun s hs=> ?_⟩;rcases List.mem_or_eq_of_mem_set hs with hs|rfl
 ·have:=h s hs;omega
 ·rw[yB];by_cases hi:i<p.length
  ·rw[Wo hi];have:=h _ (zK hi);simp;omega
  ·simp[yV,hi]
theorem GB.put{T N n:Nat}{st:List (List Bool×Prd)}(h:GB T N n st){sg:List Bool}(hs:sg.length=N)(i:Nat)(x:Iv):GB T N (n+1) (T8 T i sg x st):=by
 by_cases hm:∃g∈st,g.1=sg
 ·obtain⟨a,p,b,h1,h2,h3⟩:=Sz (T:=T) (i:=i) (x:=x) hm;rw[h3];subst h1;have hp:=c0t (h.len (sg,p) (by simp)) (h.sz (sg,p) (by simp)) i x;have z1:∀g∈a++(sg,Uy p i x)::b,g=(sg,Uy p i x)∨g∈a++(sg,p)::b:=fun g hg=>by
   rcases zV.1 hg with hg|hg
   ·exact .inr (List.mem_append_left _ hg)
   ·rcases List.mem_cons.1 hg with rfl|hg
    ·exact .inl rfl
    ·exact .inr (List.mem_append_right _ (List.mem_cons_of_mem _ hg))
  refine⟨by simpa using h.nd,by have:=h.le;simp at this ⊢;omega,fun g hg=> ?_,fun g hg s z6=> ?_,fun g hg=> ?_⟩
  ·rcases z1 g hg with rfl|hg
   ·exact hp.1
   ·exact h.len g hg
  ·rcases z1 g hg with rfl|hg
   ·exact hp.2 s z6
   ·have:=h.sz g hg s z6;omega
  ·rcases z1 g hg with rfl|hg
   ·exact hs
   ·exact h.kl g hg
 ·have z7:∀g∈st,g.1≠sg:=fun g hg e=>hm ⟨g,hg,e⟩;rw[Ov z7];have hp:=c0t (T:=T) (p:=yH T []) (n:=n) (by simp) (fun s z6=>by rw[(ta.1 z6).2];simp) i x;have z1:∀g∈st++[(sg,Uy (yH T []) i x)],g=(sg,Uy (yH T []) i x)∨g∈st:=fun g hg=>by
   rcases zV.1 hg with hg|hg
   ·exact .inr hg
   ·exact .inl (zT.1 hg)
  refine⟨?_,by have:=h.le;simp;omega,fun g hg=> ?_,fun g hg s z6=> ?_,fun g hg=> ?_⟩
  ·rw[yF,List.nodup_append];refine⟨h.nd,by simp,fun a ha b hb e=> ?_⟩;obtain⟨g,hg,rfl⟩:=zR.1 ha;simp at hb;exact z7 g hg (e.trans hb)
  ·rcases z1 g hg with rfl|hg
   ·exact hp.1
   ·exact h.len g hg
  ·rcases z1 g hg with rfl|hg
   ·exact hp.2 s z6
   ·have:=h.sz g hg s z6;omega
  ·rcases z1 g hg with rfl|hg
   ·exact hs
   ·exact h.kl g hg
end Go.Abs
/-
 DERIVED:THE SHELF's CONTRACTS AT THIS DUMP,IN PLAIN WORDS (tools/lay-plain.mjs out of 'TryzShelf.lean',which tools/lay-shelf.mjs wrote):THE SAME DECLARATIONS UNDER THE SAME NAMES:'import','namespace','open','def','theorem' AND NOTHING ELSE:no command of the shelf's:FOR A HAND-IN. Each laying:the table of numbers ('.._ren') and one theorem,a field a fact of the dump's own or the kernel's comparison;each contract:ONE APPLICATION.
-/
namespace Go.Proofs
open Go.Shelf
def Tryz.laysM176_ren:Go.Shelf.Ren:=⟨fun|176=>178|249=>200|288=>218|283=>240|284=>241|285=>242|286=>243|129=>217|317=>251|318=>252|319=>253|320=>254|337=>257|338=>258|n=>n,fun|37=>234|2=>2|3=>3|53=>250|4=>4|9=>9|171=>288|0=>0|173=>290|212=>300|51=>247|5=>5|20=>20|213=>301|46=>213|232=>304|233=>305|n=>n,fun|17=>0|18=>1|19=>2|n=>n⟩
theorem Tryz.laysM176:Go.Proofs.LaysM.n176 Tryz.prog Tryz.laysM176_ren:={
 mixed:=by kernel_rfl
 f129:=Tryz.func217.trans (congrArg some (by kernel_rfl))
 f176:=Tryz.func178.trans (congrArg some (by kernel_rfl))
 f249:=Tryz.func200.trans (congrArg some (by kernel_rfl))
 f283:=Tryz.func240.trans (congrArg some (by kernel_rfl))
 f284:=Tryz.func241.trans (congrArg some (by kernel_rfl))
 f285:=Tryz.func242.trans (congrArg some (by kernel_rfl))
 f286:=Tryz.func243.trans (congrArg some (by kernel_rfl))
 f288:=Tryz.func218.trans (congrArg some (by kernel_rfl))
 f317:=Tryz.func251.trans (congrArg some (by kernel_rfl))
 f318:=Tryz.func252.trans (congrArg some (by kernel_rfl))
 f319:=Tryz.func253.trans (congrArg some (by kernel_rfl))
 f320:=Tryz.func254.trans (congrArg some (by kernel_rfl))
 f337:=Tryz.func257.trans (congrArg some (by kernel_rfl))
 f338:=Tryz.func258.trans (congrArg some (by kernel_rfl))
 t0:=Tryz.underlying0
 a0:=Tryz.isAgg0
 z0:=Tryz.sizeOf0
 v0:=Tryz.zeroValue0
 t2:=Tryz.underlying2
 a2:=Tryz.isAgg2
 z2:=Tryz.sizeOf2
 v2:=Tryz.zeroValue2
 t3:=Tryz.underlying3
 a3:=Tryz.isAgg3
 z3:=Tryz.sizeOf3
 v3:=Tryz.zeroValue3
 t4:=Tryz.underlying4
 a4:=Tryz.isAgg4
 z4:=Tryz.sizeOf4
 v4:=Tryz.zeroValue4
 t5:=Tryz.underlying5
 a5:=Tryz.isAgg5
 z5:=Tryz.sizeOf5
 v5:=Tryz.zeroValue5
 t9:=Tryz.underlying9
 a9:=Tryz.isAgg9
 z9:=Tryz.sizeOf9
 v9:=Tryz.zeroValue9
 t20:=Tryz.underlying20
 a20:=Tryz.isAgg20
 z20:=Tryz.sizeOf20
 v20:=Tryz.zeroValue20
 t37:=Tryz.underlying234
 a37:=Tryz.isAgg234
 z37:=Tryz.sizeOf234
 v37:=Tryz.zeroValue234
 t46:=Tryz.underlying213
 a46:=Tryz.isAgg213
 z46:=Tryz.sizeOf213
 v46:=Tryz.zeroValue213
 t51:=Tryz.underlying247
 a51:=Tryz.isAgg247
 z51:=Tryz.sizeOf247
 v51:=Tryz.zeroValue247
 t53:=Tryz.underlying250
 a53:=Tryz.isAgg250
 z53:=Tryz.sizeOf250
 v53:=Tryz.zeroValue250
 t171:=Tryz.underlying288
 a171:=Tryz.isAgg288
 z171:=Tryz.sizeOf288
 v171:=Tryz.zeroValue288
 t173:=Tryz.underlying290
 a173:=Tryz.isAgg290
 z173:=Tryz.sizeOf290
 v173:=Tryz.zeroValue290
 t212:=Tryz.underlying300
 a212:=Tryz.isAgg300
 z212:=Tryz.sizeOf300
 v212:=Tryz.zeroValue300
 t213:=Tryz.underlying301
 a213:=Tryz.isAgg301
 z213:=Tryz.sizeOf301
 t232:=Tryz.underlying304
 a232:=Tryz.isAgg304
 z232:=Tryz.sizeOf304
 v232:=Tryz.zeroValue304
 t233:=Tryz.underlying305
 a233:=Tryz.isAgg305
 z233:=Tryz.sizeOf305
 v233:=Tryz.zeroValue305
 g17:=by kernel_rfl
 g18:=by kernel_rfl
 g19:=by kernel_rfl
 i0:=by kernel_rfl
 i2:=by kernel_rfl
 i3:=by kernel_rfl
 i4:=by kernel_rfl
 i5:=by kernel_rfl
 i9:=by kernel_rfl
 i20:=by kernel_rfl
 i37:=by kernel_rfl
 i46:=by kernel_rfl
 i51:=by kernel_rfl
 i53:=by kernel_rfl
 i171:=by kernel_rfl
 i173:=by kernel_rfl
 i212:=by kernel_rfl
 i232:=by kernel_rfl
 i233:=by kernel_rfl
 m17:=by kernel_rfl
 m18:=by kernel_rfl
 m19:=by kernel_rfl }
open Go.RowKit Go.Sort Go.Lib in
theorem Tryz.strconv_AppendInt_10 (B n:Nat) (i:Int) (h0: -9223372036854775808≤i) (h1:i≤9223372036854775807) (sv:Value) (xs:List Value) (w:World) (z1:w.ownsRow B 5 1 sv n xs) (z8:B≤w.heap.size) (z6:n+21≤140737488355328) (z7:Lib.TabBelow Tryz.prog B w "internal/strconv.uint64pow10" .u64 Lib.pow10Tab):
  Calls Tryz.prog 178 #[sv,.int .i64 i,.int .i64 10] w fun e w'=>∃v',e= .returned v'∧w'.ownsRow B 5 1 v' (n+(Lib.itoa i).length) (xs++Lib.byteCells (Lib.itoa i))∧Below B w w'∧Lib.OthersKept 5 none w w':=Any.strconv_AppendInt_10 Tryz.laysM176 B n i h0 h1 sv xs w z1 z8 z6 z7
end Go.Proofs
namespace Go.Proofs
open Go.Shelf Go.RowKit
def R9(zs:List Int):List UInt8:=zs.flatMap fun z=>32::Lib.itoa z
theorem q17(zs:List Int){k:Nat}(h:k<zs.length):R9 (zs.take (k+1))=R9 (zs.take k)++32::Lib.itoa (zs.getD k 0):=by
 have:zs.getD k 0=zs[k]:=by simp[yV,h]
 rw[zP h,this,R9,x_];simp[R9]
theorem q08{zs:List Int}(hz:∀z∈zs,-9223372036854775808≤z∧z≤9223372036854775807):(R9 zs).length≤zs.length * 22:=by
 induction zs with
 |nil=>simp[R9]
 |cons z r ih=>
  have h1:=Lib.itoa_length_le z (hz z (by simp)).1 (hz z (by simp)).2;have h2:=ih (fun y hy=>hz y (by simp[hy]));have e:R9 (z::r)=32::(Lib.itoa z++R9 r):=by simp[R9]
  rw[e,yS,yB,yS];omega
theorem f08:(Tryz.prog.info? 5).map (fun i=>(i.zero,i.size,i.bytes))=some (some (.int .u8 0),1,1):=by kernel_rfl
theorem z1r (ad:Addr) (cap:Nat) (zs:List Int) (w:World) (hb:ad.block<w.heap.size) (hz:∀z∈zs,-9223372036854775808≤z∧z≤9223372036854775807) (hl:zs.length≤1000) (zl:0<zs.length)
  (hc:∀j,j<zs.length→w.cell? (ad.add j)=some (.int .i64 (zs.getD j 0))) (zf:Lib.TabIs Tryz.prog w "internal/strconv.uint64pow10" .u64 Lib.pow10Tab):
  Calls Tryz.prog 123 #[.slice (some ad) zs.length cap] w fun e w'=>e= .returned (.string ⟨(R9 zs).toArray⟩)∧Below w.heap.size w w':=by
 obtain⟨i0,hi,zm,zn,zo⟩:=info_parts f08;have hT:=Lib.tabBelow_of_tabIs zf;have zg:∀k,(R9 (zs.take k)).length≤22000:=fun k=>by
  have:=q08 (zs:=zs.take k) (fun z zp=>hz z (xK zp));rw[xN]at this;have:min k zs.length≤1000:=by omega
  omega
 go_enter Tryz.func123,Tryz.ntmps123
 go_wp2
 go_loopw [3,8] (fun v i wr=>∃k:Nat,k≤zs.length∧i= .int .i64 k∧wr.ownsRow w.heap.size 5 1 v (R9 (zs.take k)).length (Lib.byteCells (R9 (zs.take k)))∧Below w.heap.size w wr)
  (fun _ i _=>zs.length - (intOf i).toNat)
 case atStart=>exact⟨0,wn _,rfl,World.ownsRow_nil _ _ _ _,Below.refl _ _⟩
 case round=>
  obtain⟨k,hk,rfl,z1,zb⟩:=hrel;have zq:k<zs.length→wr.cell? (ad.add k)=some (.int .i64 (zs.getD k 0)):=fun h=>(zb.cell (by unfold Addr.add;split<;>exact hb)).trans (hc k h)
  go_wp2_with (first
   |(at_builtin;refine wpList_append_own _ rfl _ _ 234 rfl w.heap.size 5 i0 (.int .u8 0) 1 1 Tryz.underlying234 hi zm zn zo rfl (by decide) _ _ _ rfl (z1.alloc _) ⟨wr.heap.size,0,none⟩ 1 1 [.int .u8 32] rfl rfl ?c1 ?c2 ?c3 ?c4 ?c5 ?_)
   |go_in)
  case c1=>
   intro j u hj
   match j,hj with
   |0,hj=>simp at hj;subst hj;simp[Addr.add]
  case c2=>intro u hu;simp at hu;subst hu;rfl
  case c3=>have:=zg k;unfold maxLen;omega
  case c4=>have:=zg k;omega
  case c5=>have:=zb.size;simp;omega
  ·intro v' w1 z8 za _;have zc:k<zs.length:=by assumption
   have z7:Below w.heap.size w w1:=(zb.alloc (by have:=zb.size;omega) _).grown za (by have:=zb.size;simp;omega) (fun k hk=>(z1.lt k hk).1);have zk:=hz _ (zK zc);have zr:zs.getD k 0=zs[k]:=by simp[yV,zc]
   have ze:=q17 zs zc;rw[zr]at ze
   go_wp2_with (go_at_call 178;refine(Tryz.strconv_AppendInt_10 w.heap.size _ zs[k] zk.1 zk.2 v' _ w1 z8 (by have:=z7.size;omega) (by have:=zg k;omega) (hT.on z7)).mono ?_;rintro e w3 ⟨v3,rfl,z6,zh,-⟩;refine Hid.out ?_)
   have zd:w3.ownsRow w.heap.size 5 1 v3 (R9 (zs.take (k+1))).length (Lib.byteCells (R9 (zs.take (k+1)))):=by
    have e1:Lib.byteCells (R9 (zs.take k))++[Value.int .u8 32]++Lib.byteCells (Lib.itoa zs[k])=Lib.byteCells (R9 (zs.take (k+1))):=by rw[ze];simp[Lib.byteCells]
    have e2:(R9 (zs.take k)).length+1+(Lib.itoa zs[k]).length=(R9 (zs.take (k+1))).length:=by rw[ze];simp;omega
    rw[e1,e2]at z6;exact z6
   have zi:=z7.trans zh;clear z6 z8 za z1 zb z7 zq ze;refine Lib.hid ?_
   go_wp2
   go_roundw
   case rel=>exact⟨k+1,by omega,by simp,zd,zi⟩
   case measure=>simp[intOf];omega
  ·have zw:¬k<zs.length:=by assumption
   have zt:k=zs.length:=by omega
   subst zt;rw[yP]at z1;have zj:0<(R9 zs).length:=by
    obtain⟨z,r,rfl⟩:∃z r,zs=z::r:=by cases zs with
     |nil=>simp at zl
     |cons z r=>exact⟨z,r,rfl⟩
    simp[R9]
   obtain⟨l,zc⟩:∃l,l=R9 zs:=⟨_,rfl⟩
   rw[←zc]at z1 zj;have HL:=Lib.hid zc;clear zc;rcases z1.2 with⟨-,h0⟩|⟨g,cap2,cur,rfl,-,-,-,-,-,-⟩
   ·omega
   ·have zu:=run_convert_bytes_back (P:=Tryz.prog) wr 234 9 5 ⟨g,0,none⟩ cap2 l Tryz.underlying234 Tryz.underlying5 Tryz.underlying9 (fun j hj=>z1.cells (g:=g) rfl j _ (by simp[Lib.byteCells,hj]));rw[zu]
    go_wp2
    go_ret
    have zv:=HL.out;subst zv;exact⟨rfl,zb⟩
end Go.Proofs
namespace Go.Abs
open Go Go.Proofs Go.RowKit
theorem g1u(zs:List Int)(hz:∀z∈zs,-9223372036854775808≤z∧z≤9223372036854775807)(hl:zs.length≤1000)(z7:zs≠[]):PC Tryz.prog 123 [.list (zs.map .i)] (fun r=>r= .str (R9 zs)):=by
 refine⟨Tw Tryz.func123 rfl rfl,fun w I vals hE hI hl' hv=> ?_⟩;rcases vals with⟨vals⟩
 match vals,hl' with
 |[v],_=>
  have z8:=hv 0 v _ rfl rfl;obtain⟨a,cap,c,u,rfl,hcap,hmax,hc,ha,hu⟩:=z8.list_inv;have z1:0<zs.length:=List.length_pos_iff.2 z7;have za:c=1:=by have:=hc (.i zs[0]) (zR.2 ⟨_,zK z1,rfl⟩);simpa[AV.cells]using this.symm
  subst za;obtain⟨ad,rfl,zb,hcell⟩:=ha (by simpa using z1);have zc:∀j,j<zs.length→w.cell? (ad.add j)=some (.int .i64 (zs.getD j 0)):=fun j hj=>by have h1:=hcell j 0 (by simpa using hj) (by omega);have h2:=hu j (.i zs[j]) (by simp[hj]) 0 (.i zs[j]) rfl;have h3:=h2.val (u:= .int .i64 zs[j]) rfl;rw[Nat.mul_one,Nat.add_zero,h3]at h1;rw[h1];simp[yV,hj]
  have:=z1r ad cap zs w (hI _ (zb (by omega))) hz hl z1 zc (k0x hE);rw[zZ];refine this.mono ?_;rintro e w' ⟨rfl,hb⟩;exact⟨_,I,_,rfl,rfl,hb,fun _ h=>h,fun b z6=>⟨Nat.lt_of_lt_of_le (hI b z6) hb.size,.inl z6⟩,.str _⟩
end Go.Abs
namespace Go.Proofs
open Go.Shelf Go.RowKit
def d1h(l:List UInt8):Nat:=l.foldl (fun v c=>v * 10+(c.toNat - 48)) 0
theorem j00(l:List UInt8)(c:UInt8):d1h (l++[c])=d1h l * 10+(c.toNat - 48):=by simp[d1h,wG]
theorem Hi{k:Nat}(h:k<10):(UInt8.ofNat (48+k)).toNat=48+k:=by rw[UInt8.toNat_ofNat'];omega
theorem F2(u:Nat):d1h (Lib.decDigits u)=u∧∀c∈Lib.decDigits u,c≠32:=by
 induction u using Nat.strongRecOn with
 |_ u ih=>
  rw[Lib.decDigits];by_cases h:u<10
  ·rw[dif_pos h];refine⟨?_,fun c hc e=> ?_⟩
   ·have:=Hi h;simp only[d1h,List.foldl_cons,uE,this];omega
   ·rw[zT.1 hc]at e;have:=Hi h;rw[e]at this;simp at this;omega
  ·rw[dif_neg h];obtain⟨h1,h2⟩:=ih (u / 10) (by omega);have hd:=Hi (Nat.mod_lt u (by decide:0<10));refine⟨?_,fun c hc e=> ?_⟩
   ·rw[j00,h1,hd];omega
   ·rcases zV.1 hc with hc|hc
    ·exact h2 c hc e
    ·rw[zT.1 hc]at e;rw[e]at hd;simp at hd;omega
theorem c0s{z:Int}(h:0≤z):Lib.itoa z=Lib.decDigits z.toNat:=by unfold Lib.itoa;rw[if_neg (by omega)]
theorem u1u:∀ {a b r s:List UInt8},(∀c∈a,c≠32)→(∀c∈b,c≠32)→(r=[]∨∃t,r=32::t)→(s=[]∨∃t,s=32::t)→a++r=b++s→a=b∧r=s
 |[],[],r,s,_,_,_,_,h=>⟨rfl,h⟩
 |[],y::b,r,s,_,hb,hr,_,h=>by
  rcases hr with rfl|⟨t,rfl⟩
  ·simp at h
  ·simp at h;exact absurd h.1.symm (hb y (by simp))
 |x::a,[],r,s,ha,_,_,hs,h=>by
  rcases hs with rfl|⟨t,rfl⟩
  ·simp at h
  ·simp at h;exact absurd h.1 (ha x (by simp))
 |x::a,y::b,r,s,ha,hb,hr,hs,h=>by simp only[vT,List.cons.injEq]at h;obtain⟨h1,h2⟩:=u1u (fun c hc=>ha c (by simp[hc])) (fun c hc=>hb c (by simp[hc])) hr hs h.2;exact⟨by rw[h.1,h1],h2⟩
theorem Nc(zs:List Int):R9 zs=[]∨∃t,R9 zs=32::t:=by
 cases zs with
 |nil=>exact .inl rfl
 |cons z r=>exact .inr ⟨Lib.itoa z++R9 r,by simp[R9]⟩
theorem X0:∀ {a b:List Int},(∀z∈a,0≤z)→(∀z∈b,0≤z)→R9 a=R9 b→a=b
 |[],[],_,_,_=>rfl
 |[],y::b,_,_,h=>by simp[R9]at h
 |x::a,[],_,_,h=>by simp[R9]at h
 |x::a,y::b,ha,hb,h=>by
  have e1:∀(z:Int) (r:List Int),R9 (z::r)=32::(Lib.itoa z++R9 r):=fun z r=>by simp[R9]
  rw[e1,e1,List.cons.injEq]at h;have hx:=ha x (by simp);have hy:=hb y (by simp);rw[c0s hx,c0s hy]at h;obtain⟨h1,h2⟩:=u1u (F2 _).2 (F2 _).2 (Nc a) (Nc b) h.2;have h3:=congrArg d1h h1;rw[(F2 _).1,(F2 _).1]at h3;have h4:=X0 (fun z hz=>ha z (by simp[hz])) (fun z hz=>hb z (by simp[hz])) h2;rw[h4,show x=y by omega]
end Go.Proofs
namespace Go.Abs
open Go Go.Proofs Go.Maps
structure Nx (a:Aut) (R:List Int) (x:Sy) (dn:Int→Prop) (nx:List Int):Prop where
 sub:∀z∈nx,z∈Wb a R x
 all:∀i,dn i→∀m∈a.mv,m.src=i→T0 m.on x=true→m.dst∈nx
theorem d0l{α β:Type}(f:α→β)(l:List α)(j:Nat):(l.map f).eraseIdx j=(l.eraseIdx j).map f:=by
 induction l generalizing j with
 |nil=>simp
 |cons x l ih=>cases j<;>simp[ih]
attribute [local irreducible] v07 Va M4 W3 Cm Wb
end Go.Abs
namespace Go.Abs
open Go Go.Proofs Go.Maps
def ksG(st:List (List Bool×Prd)):List (List UInt8):=st.map fun g=>sgB g.1
def prG(st:List (List Bool×Prd)):List Prd:=st.map (·.2)
def Tx(T:Nat)(l:List Prd)(A:List (Nat×Iv)):List (List Bool×Prd):=A.foldl (fun st a=>T8 T a.1 (Ij l a.1 a.2.lo) a.2 st) []
theorem Ld(T:Nat)(l:List Prd)(A:List (Nat×Iv))(a:Nat×Iv):Tx T l (A++[a])=T8 T a.1 (Ij l a.1 a.2.lo) a.2 (Tx T l A):=by unfold Tx;rw[wG];rfl
theorem Jl(T:Nat)(l:List Prd)(A:List (Nat×Iv)):GB T l.length A.length (Tx T l A):=by
 suffices h:∀n,∀A:List (Nat×Iv),A.length=n→GB T l.length n (Tx T l A) from h _ A rfl
 intro n;induction n with
 |zero=>intro A hA;have:=List.eq_nil_of_length_eq_zero hA;subst this;exact⟨by simp[Tx],by simp[Tx],fun g hg=>by simp[Tx]at hg,fun g hg=>by simp[Tx]at hg,fun g hg=>by simp[Tx]at hg⟩
 |succ n ih=>
  intro A hA;rcases wV A with rfl|⟨B,a,rfl⟩
  ·simp at hA
  ·rw[wW]at hA ⊢;rw[Ld];exact(ih B (by simp at hA;omega)).put (by simp[Ij]) _ _
def Tu(l:List Prd)(i:Nat):List (Nat×Iv):=(yJ i).flatMap fun i=>(Tv (Wf l i)).map fun x=>(i,x)
def Ia(l:List Prd)(i k:Nat):List (Nat×Iv):=Tu l i++((Tv (Wf l i)).take k).map fun x=>(i,x)
theorem S8(l:List Prd)(i:Nat):Ia l i 0=Tu l i:=by simp[Ia]
theorem q10(l:List Prd)(i:Nat):Ia l i (Tv (Wf l i)).length=Tu l (i+1):=by simp[Ia,Tu,wp,yP]
theorem x0v(l:List Prd)(i k:Nat)(h:k+1<(Wf l i).length):Ia l i (k+1)=Ia l i k++[(i,(⟨(Wf l i)[k],(Wf l i)[k+1] - 1⟩:Iv))]:=by have h1:=w0p (Wf l i) k h;obtain⟨h2,h3⟩:=zE.1 h1;rw[Ia,Ia,zP h2,h3,yF,xW];rfl
theorem q0w{T:Nat}{l:List Prd}(hl:∀p∈l,PCk T p)(hn:l.length≤256)(i:Nat):(Wf l i).length≤131074:=by rw[←Zx];have h1:=Uv (Rw (Jz (Qv l i)));have h2:=Fs (Qv l i);rw[I8,h2]at h1;have:=Uo hl i;omega
end Go.Abs
namespace Go.Abs
open Go Go.Proofs Go.Maps
theorem GInv.iv{T:Nat}{sig:Nat→Int→List Bool}{st:List (List Bool×Prd)}(h:GInv T sig (fun t n=>t<T∧inR n) st){g:List Bool×Prd}(hg:g∈st){s:List Iv}(hs:s∈g.2):ascS s∧∀x∈s,U7 x:=by have ha:=h.asc g hg s hs;refine⟨ha,fun x hx=> ?_⟩;obtain⟨t,ht,rfl⟩:=y_ hs;have h1:=((h.mem g hg t x.lo).1 ⟨_,zI ht,x,hx,xH _,ha.1 x hx⟩).1.2;have h2:=((h.mem g hg t x.hi).1 ⟨_,zI ht,x,hx,ha.1 x hx,xH _⟩).1.2;unfold inR at h1 h2;exact⟨(Eb _).2 h1,(Eb _).2 h2⟩
theorem Je{T:Nat}{l:List Prd}(hl:∀p∈l,PCk T p)(hn:l.length≤256):∀i,(Tu l i).length≤i * 131073
 |0=>by simp[Tu]
 |i+1=>by have:=Je hl hn i;have h2:=q0w hl hn i;have h3:=P4 (Wf l i);rw[Tu,wp,x_,yB];have h4:((yJ i).flatMap fun i=>(Tv (Wf l i)).map fun x=>(i,x)).length=(Tu l i).length:=rfl;rw[h4];simp only[td,List.flatMap_nil,xD,zZ];omega
theorem g0l{T:Nat}{l:List Prd}(hl:∀p∈l,PCk T p)(hn:l.length≤256){i k:Nat}(hi:i<16):(Ia l i k).length≤2097168:=by have:=Je hl hn i;have h2:=q0w hl hn i;have h3:=P4 (Wf l i);rw[Ia,yB,zZ,xN];omega
theorem w1u(l:List Prd)(i:Nat)(n:Int):(Ij l i n).length=l.length:=by simp[Ij]
theorem f0n(T:Nat)(l:List Prd):Tx T l (Tu l T)=I6 T l:=rfl
theorem Sr(l:List Prd):Tu l 0=[]:=rfl
theorem Jh(T:Nat)(l:List Prd):Tx T l []=[]:=rfl
theorem E7(ks:List (List UInt8)):mpT ks= .mp (ks.mapIdx fun c k=>(.str k,.i c)):=rfl
theorem w1t{T:Nat}{l:List Prd}(hl:∀p∈l,PCk T p)(i:Nat):∀z∈Wf l i,-1099511627776≤z∧z≤1099511627777:=(Tz hl i).2.2.2.1
attribute [local irreducible] c0c Cg Wf Ij Tx Tu Ia mpT
theorem q0b(T:Int)(l:List Prd):PC Tryz.prog 115 [.i T,LP l] (fun r=>r= .tup [LP (Rk T l).2,.i (Rk T l).1]):=by
 refine Ql tOk Tryz.func115 rfl Tryz.results115 rfl (by simp[Tryz.ntmps115]) ?_;rw[Tryz.ntmps115];simp only[Qg];repeat first|(refine r_ ?_;simp)|refine q_ ?_
 refine Qb rfl (fun hc=> ?_) (fun hc=> ?_)
 ·have yf:T<1∨16<T:=by simpa using hc
  have hm:Rk T l=(2,[]):=by rw[Rk,if_pos yf]
  rw[hm];repeat first|(refine r_ ?_;simp)|refine q_ ?_
 have yf:¬(T<1∨16<T):=by simpa using hc
 have xn:¬T<1:=fun h=>yf (.inl h);have xo:¬16<T:=fun h=>yf (.inr h);repeat first|(refine r_ ?_;simp)|refine q_ ?_
 refine Qb rfl (fun h=> ?_) (fun h=> ?_)
 ·have hm:Rk T l=(5,[]):=by rw[Rk,if_neg (by omega),if_pos (by simp at h;omega)]
  rw[hm];repeat first|(refine r_ ?_;simp)|refine q_ ?_
 have hn:l.length≤256:=by simp at h;omega
 repeat first|(refine r_ ?_;simp)|refine q_ ?_
 refine Qr l.length (fun j=>Tb T l=Tb T (l.drop j)) (fun j=>[(0,.i T),(1,LP l),(28,LP l),(29,.i l.length),(30,.i j)]) (fun _=>[]) rfl (by simp) (by simp) (by simp) (by simp) (by simp) ?_;intro j hj hI ih;repeat first|(refine r_ ?_;simp)|refine q_ ?_
 refine Qb rfl (fun yg=> ?_) (fun yh=> ?_)
 ·have z1:j<l.length:=by simpa using yg
  have hw:IntKind.i64.wrap ((j:Int)+1)=j+1:=wrap_i64 _ (by omega) (by omega);rw[Ee z1,Tb]at hI;repeat first|(refine r_ ?_;simp[z1])|refine q_ ?_
  refine Qf rfl rfl (by simp) (Ap T l[j]) rfl ?_;rintro _ rfl;simp;repeat first|(refine r_ ?_;simp)|refine q_ ?_
  refine Qb rfl (fun h3=> ?_) (fun h3=> ?_)
  ·repeat first|(refine r_ ?_;simp)|refine q_ ?_
   rw[if_pos (by simpa using h3)]at hI;have hm:Rk T l=(Ej T l[j],[]):=by rw[Rk,if_neg (by omega),if_neg (by omega),hI,if_pos (by simpa using h3)]
   rw[hm];exact⟨rfl,rfl⟩
  ·rw[if_neg (by simpa using h3)]at hI;repeat first|(refine r_ ?_;simp[hw])|refine q_ ?_
   refine Qq _ (ih z1 hI) rfl (by simp) ?_ (by simp) (by simp);simp
 ·have zr:j=l.length:=by simp at yh;omega
  subst zr;rw[xX]at hI;obtain⟨N,hN⟩:∃N:Nat,T=N:=⟨T.toNat,by omega⟩
  subst hN;have zp:∀p∈l,PCk N p:=fun p hp=>by simpa using((Ek (N:Int) p).1 ((Yc l).1 hI p hp)).2
  have hm:Rk N l=if Az (Eh N l)then(5,[])else(0,Eh N l):=by rw[Rk,if_neg (by omega),if_neg (by omega),hI,if_neg (by simp[Tb])];simp
  repeat first|(refine r_ ?_;simp)|refine q_ ?_
  refine Rz rfl rfl rfl ?_;simp;repeat first|(refine r_ ?_;simp)|refine q_ ?_
  refine Q3 9 76 1 rfl ?_;simp;refine F4 1 rfl ?_;simp;have xa:=Rows.start0 N 1 [.mp [],AObj.va 76 1 []] rfl (fun j=>if j=0 then(0,1)else(0,0)) rfl;refine Qp (Qc (sl':=[(0,.i N),(1,LP l),(9,.sl 1 1 0 (Tx N l (Tu l 0)).length),(10,.mref 0),(42,.i N),(43,.i (0:Nat))]) ?_ (by simp[Sr,Jh]));refine Qo (F:=fun(u:Nat×Nat×(Nat→Nat)×(Nat→Nat→Nat)×(Nat→Nat×Nat)×List AObj)=>⟨[(0,.i N),(1,LP l),(9,.sl u.2.1 1 0 (Tx N l (Tu l u.1)).length),(10,.mref 0),(42,.i N),(43,.i u.1)],u.2.2.2.2.2⟩)
   (fun u=>u.1≤N∧Rows [] N u.2.1 (prG (Tx N l (Tu l u.1))) u.2.2.1 u.2.2.2.1 u.2.2.2.2.1 u.2.2.2.2.2∧u.2.2.2.2.2[0]? =some (mpT (ksG (Tx N l (Tu l u.1))))∧u.2.2.2.2.1 0=(0,1)) (fun u=>N - u.1) ?_ (0,1,fun _=>0,fun _ _=>0,fun j=>if j=0 then(0,1)else(0,0),[.mp [],AObj.va 76 1 []]) ⟨by simp,by rw[Sr,Jh];exact xa,by rw[Sr,Jh,ksG,E7];rfl,rfl⟩
  rintro⟨i,o,Q,L,tag,G⟩ ⟨hi,hR,za,zb⟩ ih;simp only at hi hR za zb ih ⊢;repeat first|(refine r_ ?_;simp)|refine q_ ?_
  refine Qb rfl (fun yg=> ?_) (fun yh=> ?_)
  ·have z1:i<N:=by simpa using yg
   have hw:IntKind.i64.wrap ((i:Int)+1)=i+1:=wrap_i64 _ (by omega) (by omega);repeat first|(refine r_ ?_;simp)|refine q_ ?_
   refine Qf rfl rfl (by simp) (j1q N l i z1 (by omega) zp hn) rfl ?_;rintro _ rfl;simp;repeat first|(refine r_ ?_;simp)|refine q_ ?_
   have zg:=q0w zp hn i;have zt:0<(Wf l i).length:=by have h1:=(Tz zp i).2.1;exact List.length_pos_of_mem h1
   refine Qp (Qc (sl':=[(0,.i N),(1,LP l),(9,.sl o 1 0 (Tx N l (Ia l i 0)).length),(10,.mref 0),(11,.i i),(12,LI (Wf l i)),(13,.i (0:Nat)),(42,.i N),(43,.i i)]) ?_ (by simp[S8]));refine Qo (F:=fun(u:Nat×Nat×(Nat→Nat)×(Nat→Nat→Nat)×(Nat→Nat×Nat)×List AObj)=>⟨[(0,.i N),(1,LP l),(9,.sl u.2.1 1 0 (Tx N l (Ia l i u.1)).length),(10,.mref 0),(11,.i i),(12,LI (Wf l i)),(13,.i u.1),(42,.i N),(43,.i i)],u.2.2.2.2.2⟩)
    (fun u=>u.1<(Wf l i).length∧Rows [] N u.2.1 (prG (Tx N l (Ia l i u.1))) u.2.2.1 u.2.2.2.1 u.2.2.2.2.1 u.2.2.2.2.2∧u.2.2.2.2.2[0]? =some (mpT (ksG (Tx N l (Ia l i u.1))))∧u.2.2.2.2.1 0=(0,1)) (fun u=>(Wf l i).length - u.1) ?_ (0,o,Q,L,tag,G) ⟨zt,by rw[S8];exact hR,by rw[S8];exact za,zb⟩
   clear hR za zb;clear o Q L tag G;rintro⟨k,o,Q,L,tag,G⟩ ⟨hk,hR,za,zb⟩ ih2;simp only at hk hR za zb ih2 ⊢;have y2:IntKind.i64.wrap ((k:Int)+1)=k+1:=wrap_i64 _ (by omega) (by omega);repeat first|(refine r_ ?_;simp[y2])|refine q_ ?_
   refine Qb rfl (fun yi=> ?_) (fun yj=> ?_)
   ·have z8:k+1<(Wf l i).length:=by simp at yi;omega
    have zu:k<(Wf l i).length:=hk;have y3:=x0v l i k z8;have y4:=Jl N l (Ia l i k);have y5:=g0l (k:=k) zp hn (by omega:i<16);have yz:=fun x=>Ld N l (Ia l i k) x;have zh:=fun o' Q' L' yk G'=>ih2 (k+1,o',Q',L',yk,G');simp only[y3,yz]at zh;clear y3 yz;have xb:∀z∈Wf l i,-1099511627776≤z∧z≤1099511627777:=w1t zp i;have xp:=xb _ (zK z8);generalize Tx N l (Ia l i k)=st at *
    repeat first|(refine r_ ?_;simp[zu])|refine q_ ?_
    refine Qf rfl rfl (by simp) (Bu N l i (Wf l i)[k] z1 (by omega) zp hn) rfl ?_;rintro _ rfl;simp;repeat first|(refine r_ ?_;simp)|refine q_ ?_
    have xq:(Ij l i (Wf l i)[k]).length=l.length:=by rw[w1u]
    have x0:IntKind.i64.wrap ((Wf l i)[k+1] - 1)=(Wf l i)[k+1] - 1:=wrap_i64 _ (by omega) (by omega);generalize xr:Ij l i (Wf l i)[k]=sg at *
    have x1:∀m∈ksG st,m.length≤1000000:=fun m hm=>by obtain⟨g,hg,rfl⟩:=zR.1 hm;rw[X8,y4.kl g hg];omega
    refine Ge (n:=sgB sg) rfl rfl rfl rfl rfl za x1 (by rw[X8];omega) (fun c hc=> ?_) (fun x2=> ?_)
    ·obtain⟨p,hp⟩:∃p,st[c]? =some (sg,p):=by rw[ksG,zX]at hc;obtain⟨g,hg,he⟩:=zU.1 hc;have:=f0k he;exact⟨g.2,by rw[hg,←this]⟩
     simp;repeat first|(refine r_ ?_;simp)|refine q_ ?_
     refine Qk rfl ?_;simp;repeat first|(refine r_ ?_;simp)|refine q_ ?_
     have xc:=V8 (T:=N) (i:=i) (x:=⟨(Wf l i)[k],(Wf l i)[k+1] - 1⟩) y4.nd hp;rw[xc]at zh;have zg:=H7 hp;have y5:p.length=N:=y4.len _ (zJ hp);have yl:∀s∈p,s.length≤2097168:=fun s hs=>by have:=y4.sz _ (zJ hp) s hs;omega
     have zm:(prG st)[c]? =some p:=by rw[prG,zX,hp];rfl
     have zi:prG (st.set c (sg,Uy p i ⟨(Wf l i)[k],(Wf l i)[k+1] - 1⟩))=(prG st).set c (Uy p i ⟨(Wf l i)[k],(Wf l i)[k+1] - 1⟩):=by rw[prG,tE];rfl
     have zj:ksG (st.set c (sg,Uy p i ⟨(Wf l i)[k],(Wf l i)[k+1] - 1⟩))=ksG st:=by
      rw[ksG,tE];refine xO fun j=> ?_;by_cases e:c=j
      ·subst e;rw[zL (by simpa using zg)];exact hc.symm
      ·rw[zB e];rfl
     have zc:(st.set c (sg,Uy p i ⟨(Wf l i)[k],(Wf l i)[k+1] - 1⟩)).length=st.length:=by simp
     generalize st.set c (sg,Uy p i ⟨(Wf l i)[k],(Wf l i)[k+1] - 1⟩)=st' at *;refine Qs (sl':=[(0,.i N),(1,LP l),(9,.sl o 1 0 st.length),(10,.mref 0),(11,.i i),(12,LI (Wf l i)),(13,.i k),(15,.i c),(42,.i N),(43,.i i)]) ?_ (by simp)
     have z6:(prG st).length=st.length:=by simp[prG]
     generalize st.length=n at *;generalize ksG st=ks at *;generalize prG st=pr at *
     have z7:=hR.row c p zm;have zd:=hR.out;rw[z6]at zd;have zv:c<pr.length:=by omega
     have zw:=Qh za;have xd:=Qh z7;have zx:=Qh zd;have zn:=hR.tQ c zv;have zk:=hR.to;have ym:Q c≠o:=fun e=>by rw[←e,zn]at zk;simp at zk
     have y6:Q c≠0:=fun e=>by rw[e,zb]at zn;simp at zn
     have yn:o≠0:=fun e=>by rw[e,zb]at zk;simp at zk
     have y7:=fun hn=>hR.leaf c p i zm z1 hn;have y8:=fun hn=>hR.tL c p i zm z1 hn;have zo:=Oy (L c) N p;have zf:=Sa (L c) p z1;have zl:=y0t Q N zg;have zy:=Cf Q N n;have y9:i<p.length:=by omega
     have yo:(p.getD i []).length≤2097168:=by rw[Wo y9];exact yl _ (zK y9)
     obtain⟨s,hs⟩:∃s,p.getD i []=s:=⟨_,rfl⟩
     rw[hs]at zf yo y7 y8;obtain⟨row,ya⟩:∃row,c0c (L c) N p=row:=⟨_,rfl⟩
     rw[ya]at z7 zo zf;refine q0x (fun E1=>∃z,E1[Q c]? =some (.va 171 1 (row.set i (.sl z 2 0 s.length)))∧E1[z]? =some (.arr 187 2 (s.map encIv))∧(∀j,j<G.length→j≠Q c→E1[j]? =G[j]?)∧G.length≤E1.length∧(tag z=(c+1,i+1)∨G.length≤z)) (fun hm=> ?_) ?_
     ·by_cases hs0:s=[]
      ·rw[Ff,if_pos hs0]at zf;refine Ak (Q c) i 187 2 z7 zf ?_;refine hm _ ⟨G.length,by rw[hs0];exact Qj (Qa z7 _) _,?_,fun j hj zt=> ?_,by simp,.inr (zQ _)⟩
       ·rw[zB (by omega),hs0];simp
       ·rw[zB (Ne.symm zt),zF hj]
      ·rw[Ff,if_neg hs0]at zf;have zz:row.set i (.sl (L c i) 2 0 s.length)=row:=z00 zf;exact hm G ⟨L c i,by rw[zz];exact z7,y7 hs0,fun _ _ _=>rfl,zQ _,.inl (y8 hs0)⟩
     ·rintro E1 ⟨z,f1,f2,f3,f4,f5⟩;have yp:z≠Q c:=fun e=>by
       rcases f5 with h|h
       ·rw[e,zn]at h;simp at h
       ·omega
      have yq:z≠o:=fun e=>by
       rcases f5 with h|h
       ·rw[e,zk]at h;simp at h
       ·omega
      have yr:z≠0:=fun e=>by
       rcases f5 with h|h
       ·rw[e,zb]at h;simp at h
       ·omega
      have g1:=(f3 o zx (Ne.symm ym)).trans zd;have g0:=(f3 0 zw (Ne.symm y6)).trans za;have ze:∀hh,(Cg Q N n)[c]'hh= .agg [.sl (Q c) 1 0 N]:=fun hh=>by rw[zI hh]at zl;exact Option.some.inj zl
      have yt:∀hh,(row.set i (.sl z 2 0 s.length))[i]'hh= .sl z 2 0 s.length:=fun hh=>by simp
      have d1:∀M,(E1.set z .dead++M)[Q c]? =some (.va 171 1 (row.set i (.sl z 2 0 s.length))):=fun M=>Qa (Qd yp f1 _) M;have y0:∀M,M=(E1.set z .dead++[AObj.arr 187 2 [encIv ⟨(Wf l i)[k],(Wf l i)[k+1] - 1⟩],.arr 187 2 (s.map encIv++[encIv ⟨(Wf l i)[k],(Wf l i)[k+1] - 1⟩])]).set (Q c) (.va 171 1 (row.set i (.sl (E1.length+1) 2 0 (s.length+1))))→
        Rows [] N o (prG st') Q (fun c' k'=>if c'=c∧k'=i then E1.length+1 else L c' k') (fun j=>if j=E1.length+1 then(c+1,i+1)else tag j) M∧M[0]? =some (mpT (ksG st'))∧(if 0=E1.length+1 then(c+1,i+1)else tag 0)=(0,1):=fun M hM=>by
       rw[zi,zj];have xe:=Qh g0;have xf:=Qh f1;refine⟨hR.put zm y5 z1 (by omega) ?_ ?_ (fun j hj h1 h2=> ?_),?_,by rw[if_neg (by omega)];exact zb⟩
       ·rw[hM,ya,hs];exact zL (by simp;omega)
       ·rw[hM,hs,zB (by omega),zH (by simp)];simp
       ·have yu:z≠j:=fun e=>by
         rcases f5 with h|h
         ·rw[e]at h;exact h2 h
         ·omega
        rw[hM,zB (Ne.symm h1),zF (by simp;omega),zB yu];exact f3 j hj h1
       ·rw[hM,zB y6,zF (by simp;omega),zB yr];exact g0
      have yv:(0:Int)≤(k:Int)+1:=by omega
      have yw:(k:Int)+1<(Wf l i).length:=by omega
      have dI:∀M,(E1++M)[z]? =some (.arr 187 2 (s.map encIv)):=fun M=>Qa f2 M;have d2:∀M,(E1++M)[Q c]? =some (.va 171 1 (row.set i (.sl z 2 0 s.length))):=fun M=>Qa f1 M;have yb:∀M hh,(E1.set z .dead++M)[Q c]'hh= .va 171 1 (row.set i (.sl z 2 0 s.length)):=fun M hh=>by have:=d1 M;rw[zI hh]at this;exact Option.some.inj this
      have d3:∀M,(E1.set z .dead++M)[o]? =some (.va 76 1 (Cg Q N n)):=fun M=>Qa (Qd yq g1 _) M;have d4:∀M,(E1++M)[o]? =some (.va 76 1 (Cg Q N n)):=fun M=>Qa g1 M;refine Qn tOk mixed [26,28] (.val 0 (.val 1 (.val 2 (.val 3 (.val 5 (.val 6 (.val 7 (.val 8 (.val 9 (.val 10 (.val 11 (.val 12 (.val 13 (.val 14 (.val 15 (.val 16 (.val 17 (.val 18 (.val 19 (.val 20 (.val 21 (.val 22 (.val 23 (.val 24 (.two 4 (.one 25 (.one 26 (.val 27 (.one 28 (.done))))) 25 (.two 4 (.one 26 (.val 27 (.one 28 (.done)))) 26 (.val 4 (.val 27 (.one 28 (.done)))))))))))))))))))))))))))))) rfl (by kernel_rfl) ?_;simp[g1,zl,ze,zy,zg,f1,yt,zo,z1,zu,z8,y2,x0,yv,yw,d4];refine⟨?_,?_⟩;all_goals
       refine Qe tOk rfl rfl U6 rfl Sl rfl (by decide) (by decide) rfl rfl rfl ?_;simp[dI,Qi f2,d1,yb,d2,d3,d4,z1,zo,zl,ze,zy,zg];refine⟨by simp[Wa,dI,Qi f2,d1,yb,d2,d3,d4,z1,zo,zl,ze,zy,zg]<;>omega,?_⟩;repeat first|(refine r_ ?_;simp[y2])|refine q_ ?_
       refine Qc (sl':=[(0,.i N),(1,LP l),(9,.sl o 1 0 n),(10,.mref 0),(11,.i i),(12,LI (Wf l i)),(13,.i (k+1:Nat)),(42,.i N),(43,.i i)]) ?_ (by simp);obtain⟨q1,q2,q3⟩:=y0 _ rfl;rw[←zc];have:=zh o Q _ _ _ ⟨z8,q1,q2,q3⟩ (by omega);simpa[zc]using this
    ·simp;repeat first|(refine r_ ?_;simp)|refine q_ ?_
     refine Qk rfl ?_;simp;repeat first|(refine r_ ?_;simp)|refine q_ ?_
     have xg:(ksG st).length=st.length:=by simp[ksG]
     have z6:(prG st).length=st.length:=by simp[prG]
     refine L3 (n:=sgB sg) rfl rfl rfl rfl rfl (ks:=ksG st) (by rw[xg];rfl) za x1 (by rw[X8];omega) x2 ?_;simp;repeat first|(refine r_ ?_;simp)|refine q_ ?_
     refine Ec tOk rfl rfl rfl T74 rfl U6 rfl rfl rfl (n:=N) (by simp;omega) (by unfold maxLen;omega) .nils rfl ?_;simp;have x3:(0:Nat)≠o:=fun e=>by subst e;rw[hR.out]at za;rw[E7]at za;simp at za
     have yx:=Qd x3 hR.out (mpT (ksG st++[sgB sg]));have xh:=Qj za (mpT (ksG st++[sgB sg]));have xi:∀j,j≠0→(G.set 0 (mpT (ksG st++[sgB sg])))[j]? =G[j]? :=fun j hj=>zB (Ne.symm hj);have xj:(G.set 0 (mpT (ksG st++[sgB sg]))).length=G.length:=by simp
     have yc:=Cf Q N st.length;rw[←xj];generalize G.set 0 (mpT (ksG st++[sgB sg]))=G1 at *
     have hle:=y4.le;refine J8 tOk rfl rfl T91 rfl T76 rfl (by decide) (by decide) rfl rfl rfl ?_;simp[Oq,Xp,Qa yx,yc,z6];refine⟨by simp[Wa,yc,z6]<;>omega,?_⟩;repeat first|(refine r_ ?_;simp)|refine q_ ?_
     refine F4 (e:=171) (c:=1) (xs:=yH N .nils) G1.length (by rw[zF (by simp),zB (by have:=Qh yx;omega)];simp) ?_;have xk:=Qh yx;have zt:∀g∈st,g.1≠sg:=fun g hg e=>x2 (zR.2 ⟨g,hg,by rw[e]⟩);rw[Ov zt]at zh;have x4:Rows [] N o (prG st) Q L tag G1:=hR.other (fun j hj ht=>xi j (fun e=>by subst e;exact ht zb)) (by omega);refine Q4 fun Z hZ=> ?_;have y1:=x4.new (H':=Z) (q:=G1.length) (o':=G1.length+2) (zQ _) (by omega) (by omega) (by rw[hZ];exact zL (by simp;omega)) (by rw[hZ,z6,zB (by omega),zH (by simp)];simp) (fun j hj xl=>by rw[hZ,zB (by omega),zF (by simp;omega),zB (Ne.symm xl),zF hj]);have x5:Z[0]? =some (mpT (ksG st++[sgB sg])):=by rw[hZ,zB (by omega),zF (by simp),zB (Ne.symm x3),zF (by omega)];exact xh
     clear hZ;have x6:(fun j=>if j=G1.length then(st.length+1,0)else if j=G1.length+2 then(0,0)else tag j) 0=((0,1):Nat×Nat):=by
      show(if 0=G1.length then(st.length+1,0)else if 0=G1.length+2 then(0,0)else tag 0)=((0,1):Nat×Nat)
      rw[if_neg (by omega),if_neg (by omega)];exact zb
     rw[z6]at y1;clear hR za zb x4;have zg:st.length<st.length+1:=by omega
     have zm:(prG st++[yH N []])[st.length]? =some (yH N ([]:List Iv)):=by rw[←z6];simp
     have zq:(prG st++[yH N []]).length=st.length+1:=by simp[z6]
     have yd:(yH N ([]:List Iv)).length=N:=by simp
     have yl:∀s∈yH N ([]:List Iv),s.length≤2097168:=fun s hs=>by rw[(ta.1 hs).2];simp
     have zi:prG (st++[(sg,Uy (yH N []) i ⟨(Wf l i)[k],(Wf l i)[k+1] - 1⟩)])=(prG st++[yH N []]).set st.length (Uy (yH N []) i ⟨(Wf l i)[k],(Wf l i)[k+1] - 1⟩):=by rw[uR _ _ (by omega),z6,Nat.sub_self,prG,yF];rfl
     have zj:ksG (st++[(sg,Uy (yH N []) i ⟨(Wf l i)[k],(Wf l i)[k+1] - 1⟩)])=ksG st++[sgB sg]:=by simp[ksG]
     have zc:(st++[(sg,Uy (yH N []) i ⟨(Wf l i)[k],(Wf l i)[k+1] - 1⟩)]).length=st.length+1:=by simp
     generalize st++[(sg,Uy (yH N []) i ⟨(Wf l i)[k],(Wf l i)[k+1] - 1⟩)]=st' at *;refine Qs (sl':=[(0,.i N),(1,LP l),(9,.sl (G1.length+2) 1 0 (st.length+1)),(10,.mref 0),(11,.i i),(12,LI (Wf l i)),(13,.i k),(15,.i st.length),(42,.i N),(43,.i i)]) ?_ (by simp)
     generalize prG st++[yH N []]=pr at *;generalize yH N ([]:List Iv)=p at *;generalize ksG st++[sgB sg]=ks at *;generalize (fun c=>if c=st.length then G1.length else Q c)=Q at *
     generalize (fun j=>if j=G1.length then(st.length+1,0)else if j=G1.length+2 then(0,0)else tag j)=tag at *
     generalize st.length+1=n at *;generalize st.length=c at *;generalize G1.length+2=o at *
     have hR:=y1;have za:=x5;have z6:=zq;have y5:=yd;have zb:=x6;clear y1 x5 zq yd x6;generalize xt:Z=G at *
     have z7:=hR.row c p zm;have zd:=hR.out;rw[z6]at zd;have zv:c<pr.length:=by omega
     have zw:=Qh za;have xd:=Qh z7;have zx:=Qh zd;have zn:=hR.tQ c zv;have zk:=hR.to;have ym:Q c≠o:=fun e=>by rw[←e,zn]at zk;simp at zk
     have y6:Q c≠0:=fun e=>by rw[e,zb]at zn;simp at zn
     have yn:o≠0:=fun e=>by rw[e,zb]at zk;simp at zk
     have y7:=fun hn=>hR.leaf c p i zm z1 hn;have y8:=fun hn=>hR.tL c p i zm z1 hn;have zo:=Oy (L c) N p;have zf:=Sa (L c) p z1;have zl:=y0t Q N zg;have zy:=Cf Q N n;have y9:i<p.length:=by omega
     have yo:(p.getD i []).length≤2097168:=by rw[Wo y9];exact yl _ (zK y9)
     obtain⟨s,hs⟩:∃s,p.getD i []=s:=⟨_,rfl⟩
     rw[hs]at zf yo y7 y8;obtain⟨row,ya⟩:∃row,c0c (L c) N p=row:=⟨_,rfl⟩
     rw[ya]at z7 zo zf;refine q0x (fun E1=>∃z,E1[Q c]? =some (.va 171 1 (row.set i (.sl z 2 0 s.length)))∧E1[z]? =some (.arr 187 2 (s.map encIv))∧(∀j,j<G.length→j≠Q c→E1[j]? =G[j]?)∧G.length≤E1.length∧(tag z=(c+1,i+1)∨G.length≤z)) (fun hm=> ?_) ?_
     ·by_cases hs0:s=[]
      ·rw[Ff,if_pos hs0]at zf;refine Ak (Q c) i 187 2 z7 zf ?_;refine hm _ ⟨G.length,by rw[hs0];exact Qj (Qa z7 _) _,?_,fun j hj zt=> ?_,by simp,.inr (zQ _)⟩
       ·rw[zB (by omega),hs0];simp
       ·rw[zB (Ne.symm zt),zF hj]
      ·rw[Ff,if_neg hs0]at zf;have zz:row.set i (.sl (L c i) 2 0 s.length)=row:=z00 zf;exact hm G ⟨L c i,by rw[zz];exact z7,y7 hs0,fun _ _ _=>rfl,zQ _,.inl (y8 hs0)⟩
     ·rintro E1 ⟨z,f1,f2,f3,f4,f5⟩;have yp:z≠Q c:=fun e=>by
       rcases f5 with h|h
       ·rw[e,zn]at h;simp at h
       ·omega
      have yq:z≠o:=fun e=>by
       rcases f5 with h|h
       ·rw[e,zk]at h;simp at h
       ·omega
      have yr:z≠0:=fun e=>by
       rcases f5 with h|h
       ·rw[e,zb]at h;simp at h
       ·omega
      have g1:=(f3 o zx (Ne.symm ym)).trans zd;have g0:=(f3 0 zw (Ne.symm y6)).trans za;have ze:∀hh,(Cg Q N n)[c]'hh= .agg [.sl (Q c) 1 0 N]:=fun hh=>by rw[zI hh]at zl;exact Option.some.inj zl
      have yt:∀hh,(row.set i (.sl z 2 0 s.length))[i]'hh= .sl z 2 0 s.length:=fun hh=>by simp
      have d1:∀M,(E1.set z .dead++M)[Q c]? =some (.va 171 1 (row.set i (.sl z 2 0 s.length))):=fun M=>Qa (Qd yp f1 _) M;have y0:∀M,M=(E1.set z .dead++[AObj.arr 187 2 [encIv ⟨(Wf l i)[k],(Wf l i)[k+1] - 1⟩],.arr 187 2 (s.map encIv++[encIv ⟨(Wf l i)[k],(Wf l i)[k+1] - 1⟩])]).set (Q c) (.va 171 1 (row.set i (.sl (E1.length+1) 2 0 (s.length+1))))→
        Rows [] N o (prG st') Q (fun c' k'=>if c'=c∧k'=i then E1.length+1 else L c' k') (fun j=>if j=E1.length+1 then(c+1,i+1)else tag j) M∧M[0]? =some (mpT (ksG st'))∧(if 0=E1.length+1 then(c+1,i+1)else tag 0)=(0,1):=fun M hM=>by
       rw[zi,zj];have xe:=Qh g0;have xf:=Qh f1;refine⟨hR.put zm y5 z1 (by omega) ?_ ?_ (fun j hj h1 h2=> ?_),?_,by rw[if_neg (by omega)];exact zb⟩
       ·rw[hM,ya,hs];exact zL (by simp;omega)
       ·rw[hM,hs,zB (by omega),zH (by simp)];simp
       ·have yu:z≠j:=fun e=>by
         rcases f5 with h|h
         ·rw[e]at h;exact h2 h
         ·omega
        rw[hM,zB (Ne.symm h1),zF (by simp;omega),zB yu];exact f3 j hj h1
       ·rw[hM,zB y6,zF (by simp;omega),zB yr];exact g0
      have yv:(0:Int)≤(k:Int)+1:=by omega
      have yw:(k:Int)+1<(Wf l i).length:=by omega
      have dI:∀M,(E1++M)[z]? =some (.arr 187 2 (s.map encIv)):=fun M=>Qa f2 M;have d2:∀M,(E1++M)[Q c]? =some (.va 171 1 (row.set i (.sl z 2 0 s.length))):=fun M=>Qa f1 M;have yb:∀M hh,(E1.set z .dead++M)[Q c]'hh= .va 171 1 (row.set i (.sl z 2 0 s.length)):=fun M hh=>by have:=d1 M;rw[zI hh]at this;exact Option.some.inj this
      have d3:∀M,(E1.set z .dead++M)[o]? =some (.va 76 1 (Cg Q N n)):=fun M=>Qa (Qd yq g1 _) M;have d4:∀M,(E1++M)[o]? =some (.va 76 1 (Cg Q N n)):=fun M=>Qa g1 M;refine Qn tOk mixed [26,28] (.val 0 (.val 1 (.val 2 (.val 3 (.val 5 (.val 6 (.val 7 (.val 8 (.val 9 (.val 10 (.val 11 (.val 12 (.val 13 (.val 14 (.val 15 (.val 16 (.val 17 (.val 18 (.val 19 (.val 20 (.val 21 (.val 22 (.val 23 (.val 24 (.two 4 (.one 25 (.one 26 (.val 27 (.one 28 (.done))))) 25 (.two 4 (.one 26 (.val 27 (.one 28 (.done)))) 26 (.val 4 (.val 27 (.one 28 (.done)))))))))))))))))))))))))))))) rfl (by kernel_rfl) ?_;simp[g1,zl,ze,zy,zg,f1,yt,zo,z1,zu,z8,y2,x0,yv,yw,d4];refine⟨?_,?_⟩;all_goals
       refine Qe tOk rfl rfl U6 rfl Sl rfl (by decide) (by decide) rfl rfl rfl ?_;simp[dI,Qi f2,d1,yb,d2,d3,d4,z1,zo,zl,ze,zy,zg];refine⟨by simp[Wa,dI,Qi f2,d1,yb,d2,d3,d4,z1,zo,zl,ze,zy,zg]<;>omega,?_⟩;repeat first|(refine r_ ?_;simp[y2])|refine q_ ?_
       refine Qc (sl':=[(0,.i N),(1,LP l),(9,.sl o 1 0 n),(10,.mref 0),(11,.i i),(12,LI (Wf l i)),(13,.i (k+1:Nat)),(42,.i N),(43,.i i)]) ?_ (by simp);obtain⟨q1,q2,q3⟩:=y0 _ rfl;rw[←zc];have:=zh o Q _ _ _ ⟨z8,q1,q2,q3⟩ (by omega);simpa[zc]using this
   ·have ye:k=(Tv (Wf l i)).length:=by rw[P4];simp at yj;omega
    subst ye;rw[q10]at hR za ⊢;repeat first|(refine r_ ?_;simp[hw])|refine q_ ?_
    refine Qc (sl':=[(0,.i N),(1,LP l),(9,.sl o 1 0 (Tx N l (Tu l (i+1))).length),(10,.mref 0),(42,.i N),(43,.i (i+1:Nat))]) ?_ (by simp);exact ih (i+1,o,Q,L,tag,G) ⟨by omega,hR,za,zb⟩ (by omega)
  ·have zr:i=N:=by simp at yh;omega
   subst zr;have x7:Tx i l (Tu l i)=I6 i l:=f0n i l;rw[x7]at hR ⊢;have x8:=g0v zp;have yy:=Jl i l (Tu l i);rw[x7]at yy;have y5:=Je zp hn i;have xm:Eh i l=(prG (I6 i l)).map Rl:=by rw[Eh,prG,vN];rfl
   rw[xm]at hm;have z6:(prG (I6 i l)).length=(I6 i l).length:=by simp[prG]
   repeat first|(refine r_ ?_;simp)|refine q_ ?_
   have x9:=j1p i o (prG (I6 i l)) Q L tag G hR (by omega) (fun p hp=>by
    obtain⟨g,hg,rfl⟩:=zR.1 hp;exact⟨yy.len g hg,fun s hs=>⟨(x8.iv hg hs).1,by have:=yy.sz g hg s hs;omega,(x8.iv hg hs).2⟩⟩)
   rw[z6]at x9;refine Q9 rfl rfl x9 rfl ?_;rintro r H' (⟨rfl,hb⟩|⟨rfl,hb⟩)
   ·rw[if_pos hb]at hm;rw[hm];simp;repeat first|(refine r_ ?_;simp)|refine q_ ?_
   ·rw[if_neg (by simp[hb])]at hm;rw[hm];simp;repeat first|(refine r_ ?_;simp)|refine q_ ?_
end Go.Abs
