/- Part Lf of the proof: an abstract machine over the model, and what the functions of the program hand back in its terms. No condition. -/
import Derived.Test.YteghceocnldccaaGreatDoorLe
import Derived.Test.YteghceocnldccaaGreatDoorLc
import Derived.Shelf.Small.Bits
import Derived.Shelf.Strconv.Itoa0
import Derived.Shelf.Strconv.Itoa1
import Derived.Shelf.LaysM
import Derived.Shelf.Strconv.Itoa2
import Derived.Shelf.Strconv.AppendUint10
import Derived.Shelf.Strconv.AppendInt10
import Derived.Shelf.Strconv.AppendIntPublic10
import Derived.Test.YteghceocnldccaaGreatDoorProg
import Derived.Lib.AppendIntMem
import Derived.Lib.ItoaLen
import Derived.Lib.Slices
import Derived.Lib.Hide
import Derived.Laws.IdiomStrings
import Derived.OwnWalk
import Derived.WalkKit
import Derived.BigCall
set_option linter.all false
open List renaming getElem?_eq_some_iff→zB,getElem?_set_self→zO,getElem?_eq_getElem→zJ,take_succ_eq_append_getElem→zV,flatMap_append→wA,getD→yS,getElem_mem→zL,flatMap_cons→tr,length_append→z_,length_cons→yW,cons_append→uG,take_zero→wd,mem_of_mem_take→x_,length_take→ww,append_nil→xK,append_assoc→xP,take_length→y_,map_append→yZ,map_cons→xE,replicate→yF,set_append_right→u_,replicate_succ→uh,getElem?_append_right→zK,take_of_length_le→zY,pairwise_iff_getElem→yQ,getElem?_append_left→zF,getElem?_set_ne→zE,foldl_nil→uo,eq_nil_or_concat→wO,concat_eq_append→wP,range→yL,ext_getElem→wD,getElem_set→tB,getElem_map→u9,getElem_range→up,all_eq_true→zX,mem_map→zT,take_append_drop→xW,drop_length→xS,nil_append→vJ,any_eq_true→wS,getElem_of_mem→xB,mem_range→yV,length_map→yK,length_filter_le→xR,range_succ→wH,ext_getElem?→xT,length_set→wM,getElem?_eq_none→xA,length_singleton→vM,map_congr_left→xL,map_map→vB,map_nil→wL,mem_append→zU,mem_singleton→zP,getElem?_map→zW,mem_of_getElem?→zH,mem_mapIdx→tD,getElem?_mapIdx→vC,getElem?_cons_succ→uQ,mem_append_left→yY,mem_replicate→ur,foldl_append→wp,mem_of_mem_eraseIdx→uN,length_eraseIdx→un,map_set→tU
open Nat renaming zero_le→xY,le_trans→yO,le_refl→zR
open Int renaming le_refl→xO
open Bool renaming or_eq_true→vQ,eq_false_iff→wT
open Option renaming map_eq_some_iff→zQ
set_option maxHeartbeats 8000000
set_option linter.unusedSimpArgs false
set_option maxRecDepth 100000
namespace Go.Abs
open Go Go.Proofs
attribute [local irreducible] H6
theorem j0o(p:Prd):PC Tryz.prog 173 [encP p] (fun r=>r= .fn (.func 197) [] [.iptr [.list (p.map encL)]]):=by refine Qk tOk Tryz.func173 rfl Tryz.results173 rfl (by simp[Tryz.ntmps173]) ?_;rw[Tryz.ntmps173];simp only[Qg];simp only[encP];repeat first|(refine r_ ?_;simp)|refine q_ ?_
theorem z0t(p:Prd)(h0:H6 [p]=0)(hv:Wp p=false):PC Tryz.prog 121 [encP p] (fun r=>r= .tup [encSy (Qm p),.i 0]):=by
 have hlen:p.length≤16:=by
  unfold H6 at h0;by_cases hc:Ey p.length p=0
  ·have:=((W5 _ p).1 hc).1;omega
  ·rw[if_pos hc]at h0;exact absurd h0 hc
 obtain⟨t,x,rr,h1,h2,h3⟩:∃t x r,p[t]? =some (x::r)∧Qx p 0=(0+t,x.lo)∧∀j,j<t→p[j]? =some []:=by refine Gg p 0 ?_;rw[Wp,List.all_eq_false]at hv;obtain⟨s,hs,hn⟩:=hv;exact⟨s,hs,fun e=>hn (by rw[e];rfl)⟩
 rw[Nat.zero_add]at h2;have za:Qm p=⟨t,x.lo⟩:=by rw[Qm,h2]
 rw[za];obtain⟨ze,zb⟩:=zB.1 h1;refine Qk tOk Tryz.func121 rfl Tryz.results121 rfl (by simp[Tryz.ntmps121]) ?_;rw[Tryz.ntmps121];simp only[Qg];simp only[encP,encSy];repeat first|(refine r_ ?_;simp)|refine q_ ?_
 refine Dk 3 rfl ?_;simp;refine Qe rfl rfl (by simp) (K3 [p]) rfl ?_;rintro _ rfl;simp;repeat first|(refine r_ ?_;simp)|refine q_ ?_
 refine Qb rfl (fun h=>by rw[h0]at h;simp at h) (fun h=> ?_);repeat first|(refine r_ ?_;simp)|refine q_ ?_
 refine Qe rfl rfl (by simp) (j0o p) rfl ?_;rintro _ rfl;simp;repeat first|(refine r_ ?_;simp)|refine q_ ?_
 refine Ed rfl (Rf:=fun _ H'=>4<H'.length∧(∃sl' z8 a' b',H'[4]? =some (.lp false (some Code.ret) 25 sl' z8 a' b'))∧H'[1]? =some (.vars [.i t,.i x.lo])∧H'[2]? =some (.vars [.i 0])) ?_ ?_
 ·simp;refine Du fun H1 z6=> ?_;have f1:H1[1]? =some (.vars [.i 0,.i 0]):=by rw[z6];rfl
  have f2:H1[2]? =some (.vars [.i 0]):=by rw[z6];rfl
  have f4:=congrArg (fun h:List AObj=>h[4]?) z6;simp at f4;have zc:H1.length=5:=by rw[z6];simp
  clear z6;refine Wy tOk Tryz.func197 rfl Tryz.results197 rfl (by simp[Tryz.ntmps197]) ?_;rw[Tryz.ntmps197];simp only[Qg];repeat first|(refine r_ ?_;simp)|refine q_ ?_
  refine Qo (Qc (sl':=[(0,.yld 4),(6,.list (p.map encL)),(7,.i p.length),(8,.i (0:Nat))]) ?_ (by simp));refine Qn (F:=fun(u:Nat)=>⟨[(0,.yld 4),(6,.list (p.map encL)),(7,.i p.length),(8,.i u)],H1⟩) (fun u=>u≤t) (fun u=>t - u) ?_ 0 (by simp);rintro j hj ih;have z1:j<p.length:=by omega
  have hw:IntKind.i64.wrap ((j:Int)+1)=j+1:=wrap_i64 _ (by omega) (by omega);repeat first|(refine r_ ?_;simp)|refine q_ ?_
  refine Qb rfl (fun _=> ?_) (fun zd=>by simp at zd;omega);by_cases hjt:j=t
  ·subst hjt;repeat first|(refine r_ ?_;simp[z1,zb])|refine q_ ?_
   refine Yb rfl rfl (q:=4) rfl rfl f4 rfl rfl rfl (fun jm K2=>jm=some Code.ret∧5≤K2.length∧K2[1]? =some (.vars [.i j,.i x.lo])∧K2[2]? =some (.vars [.i 0])) ?_ ?_
   ·simp[Rk];have e1:=Qd (j:=4) (by decide) f1 .dead;have e2:=Qd (j:=4) (by decide) f2 .dead;have e4:=Qh f4 .dead;have e6:(H1.set 4 .dead).length=5:=by simp[zc]
    generalize H1.set 4 .dead=E at *
    have e3:∀y,(E.set 1 y)[2]? =some (.vars [.i 0]):=fun y=>Qd (by decide) e2 y;repeat first|(refine r_ ?_;simp[e1,e2,e3])|refine q_ ?_
    exact⟨Qd (by decide) (Qd (by decide) e4 _) _,rfl,by simp[e6],Qd (by decide) (Qh e1 _) _,Qh (e3 _) _⟩
   ·rintro jm K2 ⟨rfl,v1,v2,v3⟩;simp;repeat first|(refine r_ ?_;simp)|refine q_ ?_
    have v6:4<K2.length:=by omega
    refine Qb rfl (fun _=> ?_) (fun h=>by cases h);repeat first|(refine r_ ?_;simp)|refine q_ ?_
    exact⟨by omega,⟨_,_,_,_,zO v6⟩,v2,v3⟩
  ·have z7:p[j]=[]:=by have:=h3 j (by omega);rw[zJ z1]at this;exact Option.some.inj this
   repeat first|(refine r_ ?_;simp[z1,z7])|refine q_ ?_
   refine We rfl rfl ?_;simp;refine Qj rfl ?_;simp;repeat first|(refine r_ ?_;simp[hw])|refine q_ ?_
   exact Qc (sl':=[(0,.yld 4),(6,.list (p.map encL)),(7,.i p.length),(8,.i (j+1:Nat))]) (ih (j+1) (by omega) (by omega)) (by simp)
 ·rintro r H' ⟨hl,⟨sl',z8,a',b',k4⟩,k1,k2⟩;refine⟨_,_,_,_,_,_,_,k4,?_⟩;simp;have u1:=Qd (j:=4) (by decide) k1 .dead;have u2:=Qd (j:=4) (by decide) k2 .dead;generalize H'.set 4 .dead=E at *
  repeat first|(refine r_ ?_;simp[u1,u2])|refine q_ ?_
end Go.Abs
namespace Go.Abs
open Go Go.Proofs
abbrev y2b:Iv:=⟨-1099511627776,1099511627776⟩
theorem Y6(i:Nat):Qu [] i=[]:=rfl
theorem Py{l:List Prd}{j i:Nat}(hj:j<l.length)(hi:i<l[j].length):Qu (l.take (j+1)) i=Qu (l.take j) i++l[j][i]:=by unfold Qu;rw[zV hj,wA];simp[yS,hi]
theorem Ig{T:Nat}{l:List Prd}(hl:∀p∈l,PCk T p)(i:Nat):(Qu l i).length≤256 * l.length:=by
 induction l with
 |nil=>simp[Qu]
 |cons p r ih=>
  have h1:=ih (fun q hq=>hl q (by simp[hq]));have h2:(p.getD i []).length≤256:=by
   by_cases hi:i<p.length
   ·rw[Wx hi];exact((hl p (by simp)).2 _ (zL hi)).len
   ·simp[yS,hi]
  unfold Qu at *;rw[tr,z_,yW];omega
def Jj(xs:List Iv):List Int:=Ns (y2b::xs)
theorem j03(xs:List Iv)(x:Iv):Jj (xs++[x])=Jj xs++[x.lo,x.hi+1]:=by unfold Jj;rw[←uG,q0h]
theorem L3(xs:List Iv):(Jj xs).length=2 * xs.length+2:=by rw[Jj,d0k];simp;omega
theorem Mr(l:List Prd)(i:Nat):Lib.compact (R9 (Jj (Qu l i)))=Wc l i:=rfl
attribute [local irreducible] Jj R9 Lib.compact Qu
theorem j1z(T:Nat)(l:List Prd)(i:Nat)(hi:i<T)(hT:T≤16)(hl:∀p∈l,PCk T p)(hn:l.length≤256):PC Tryz.prog 168 [LP l,.i i] (fun r=>r=LI (Wc l i)):=by
 refine Qk tOk Tryz.func168 rfl Tryz.results168 rfl (by simp[Tryz.ntmps168]) ?_;rw[Tryz.ntmps168];simp only[Qg];repeat first|(refine r_ ?_;simp)|refine q_ ?_
 have h2:Jj (Qu (l.take 0) i)=[-1099511627776,1099511627777]:=by rw[wd,Y6,Jj];rfl
 have zj:=Ig hl i;refine Qo (Qc (sl':=[(0,LP l),(1,.i i),(5,.sl 0 1 0 (Jj (Qu (l.take 0) i)).length),(11,LP l),(12,.i l.length),(13,.i (0:Nat))]) ?_ (by rw[h2];simp));refine Qn (F:=fun(u:Nat×Nat×List AObj)=>⟨[(0,LP l),(1,.i i),(5,.sl u.2.1 1 0 (Jj (Qu (l.take u.1) i)).length),(11,LP l),(12,.i l.length),(13,.i u.1)],u.2.2⟩)
  (fun u=>u.1≤l.length∧SL [] u.2.2 u.2.1 3 1 ((Jj (Qu (l.take u.1) i)).map (AV.int .i64))) (fun u=>l.length - u.1) ?_ (0,0,_) ⟨by simp,by rw[h2];exact⟨rfl,by simp,fun j hj=>by simp at hj⟩⟩
 rintro⟨j,q,H2⟩ ⟨hj,g⟩ ih;simp only at hj g ih ⊢;repeat first|(refine r_ ?_;simp)|refine q_ ?_
 refine Qb rfl (fun zk=> ?_) (fun zl=> ?_)
 ·have z6:j<l.length:=by simpa using zk
  have hw:IntKind.i64.wrap ((j:Int)+1)=j+1:=wrap_i64 _ (by omega) (by omega);have hp:=hl _ (zL z6);have z8:i<l[j].length:=by rw[hp.1];exact hi
  have hs:=hp.2 _ (zL z8);have zf:=Py z6 z8;have za:=Ig (l:=l.take j) (fun p hp=>hl p (x_ hp)) i;rw[ww]at za;have zg:=hs.len;have zb:=fun k hk=>hs.iv (j:=k) hk;repeat first|(refine r_ ?_;simp[z6,z8])|refine q_ ?_
  generalize l[j][i]=s at *;generalize hA:Qu (l.take j) i=A at *;refine Qo (Qc (sl':=[(0,LP l),(1,.i i),(5,.sl q 1 0 (Jj (A++s.take 0)).length),(11,LP l),(12,.i l.length),(13,.i j),(21,LIv s),(22,.i s.length),(23,.i (0:Nat))]) ?_ (by simp))
  refine Qn (F:=fun(u:Nat×Nat×List AObj)=>⟨[(0,LP l),(1,.i i),(5,.sl u.2.1 1 0 (Jj (A++s.take u.1)).length),(11,LP l),(12,.i l.length),(13,.i j),(21,LIv s),(22,.i s.length),(23,.i u.1)],u.2.2⟩)
   (fun u=>u.1≤s.length∧SL [] u.2.2 u.2.1 3 1 ((Jj (A++s.take u.1)).map (AV.int .i64))) (fun u=>s.length - u.1) ?_ (0,q,_) ⟨by simp,by rw[wd,xK];exact g.add _⟩
  rintro⟨m,q',H3⟩ ⟨hm,g'⟩ ih';simp only at hm g' ih' ⊢;repeat first|(refine r_ ?_;simp)|refine q_ ?_
  refine Qb rfl (fun zc=> ?_) (fun zd=> ?_)
  ·have z1:m<s.length:=by simpa using zc
   have zm:IntKind.i64.wrap ((m:Int)+1)=m+1:=wrap_i64 _ (by omega) (by omega);obtain⟨b1,b2,b3⟩:=zb m z1;have zn:IntKind.i64.wrap (s[m].hi+1)=s[m].hi+1:=wrap_i64 _ (by omega) (by omega);have zo:Jj (A++s.take (m+1))=Jj (A++s.take m)++[s[m].lo,s[m].hi+1]:=by rw[zV z1,←xP,j03]
   have zh:=L3 (A++s.take m);rw[z_,ww]at zh;have zi:=fun q' H'=>ih' (m+1,q',H');simp only[zo]at zi;generalize Jj (A++s.take m)=acc at *
   repeat first|(refine r_ ?_;simp[z1,zn])|refine q_ ?_
   refine Qi tOk rfl rfl T40 rfl T3 rfl (by decide) (by decide) rfl rfl rfl ?_;simp[Qa g'.arr,Ql g'.arr];refine⟨by simp[W8,Qa g'.arr,Ql g'.arr]<;>omega,?_⟩;repeat first|(refine r_ ?_;simp[zm])|refine q_ ?_
   refine Qc (sl':=[(0,LP l),(1,.i i),(5,.sl (H3.length+2) 1 0 (acc.length+2)),(11,LP l),(12,.i l.length),(13,.i j),(21,LIv s),(22,.i s.length),(23,.i (m+1:Nat))]) ?_ (by simp);have:=zi (H3.length+2) _ ⟨by omega,g'.put [AObj.vars [AV.i s[m].lo,AV.i s[m].hi],AObj.arr 3 1 [AV.i s[m].lo,AV.i (s[m].hi+1)]] _ rfl⟩ (by omega);simpa using this
  ·have z7:m=s.length:=by simp at zd;omega
   subst z7;rw[y_]at g' ⊢;repeat first|(refine r_ ?_;simp[hw])|refine q_ ?_
   refine Qc (sl':=[(0,LP l),(1,.i i),(5,.sl q' 1 0 (Jj (A++s)).length),(11,LP l),(12,.i l.length),(13,.i (j+1:Nat))]) ?_ (by simp);have:=ih (j+1,q',H3) ⟨by omega,by rw[zf];exact g'⟩ (by show l.length - (j+1)<l.length - j;omega);rw[zf]at this;exact this
 ·have ze:j=l.length:=by simp at zl;omega
  subst ze;rw[y_]at g ⊢;have zh:=L3 (Qu l i);rw[←Mr];generalize Jj (Qu l i)=acc at *
  repeat first|(refine r_ ?_;simp)|refine q_ ?_
  refine Q4 rfl rfl (Kp H2 q acc g.arr (by omega)) rfl ?_;rintro r H' ⟨rfl,rfl⟩;simp;repeat first|(refine r_ ?_;simp)|refine q_ ?_
  have g2:=Qh g.arr (.arr 3 1 ((R9 acc).map (AV.int .i64)));have zg:=Ag acc;rw[←zg];refine Q4 rfl rfl (A5 _ q (R9 acc) g2 (by omega) (Pn _)) rfl ?_;rintro r H' ⟨rfl,G,rfl⟩;simp;have g3:=Qh g.arr (.arr 3 1 ((Lib.compact (R9 acc)++G).map (AV.int .i64)));repeat first|(refine r_ ?_;simp)|refine q_ ?_
  rw[yZ]at g3;simp[g3]
end Go.Abs
namespace Go.Abs
open Go Go.Proofs
attribute [simp] q2g T5 T9
def sb(b:Bool):UInt8:=if b then 1 else 0
def sgB(bs:List Bool):List UInt8:=bs.map sb
theorem u09:∀ {a b:List Bool},sgB a=sgB b→a=b
 |[],[],_=>rfl
 |[],_::_,h=>by simp[sgB]at h
 |_::_,[],h=>by simp[sgB]at h
 |x::a,y::b,h=>by simp only[sgB,xE,List.cons.injEq]at h;obtain⟨h1,h2⟩:=h;rw[u09 (a:=a) (b:=b) h2];cases x<;>cases y<;>simp[sb]at h1 ⊢
theorem Xf(bs:List Bool):(sgB bs).length=bs.length:=by simp[sgB]
def sgJ(bs:List Bool)(j:Nat):List AV:=(sgB (bs.take j)++yF (bs.length - j) 0).map byteAV
theorem j1v{bs:List Bool}{j:Nat}(h:j≤bs.length):(sgJ bs j).length=bs.length:=by simp[sgJ,sgB];omega
theorem c07(bs:List Bool):yF bs.length (AV.int .u8 0)=sgJ bs 0:=by simp[sgJ,sgB]
theorem j1r(bs:List Bool):sgJ bs bs.length=(sgB bs).map byteAV:=by simp[sgJ]
theorem w2q{bs:List Bool}{j:Nat}(h:j<bs.length)(hb:bs[j]=true):(sgJ bs j).set j (AV.int .u8 1)=sgJ bs (j+1):=by
 have h1:(sgB (bs.take j)).length=j:=by simp[sgB];omega
 have e:bs.length - j=(bs.length - (j+1))+1:=by omega
 unfold sgJ;rw[yZ,u_ (h:=by simp[h1]),zV h,e,uh];have hm:j - min j bs.length=0:=by omega
 simp[h1,sgB,hb,sb,byteAV,hm]
theorem v18{bs:List Bool}{j:Nat}(h:j<bs.length):(sgJ bs j)[j]? =some (AV.int .u8 0):=by
 have h1:(sgB (bs.take j)).length=j:=by simp[sgB];omega
 unfold sgJ;have e:bs.length - j=(bs.length - (j+1))+1:=by omega
 rw[yZ,zK (by simp[h1]),e,uh];simp[h1]
theorem q2x{bs:List Bool}{j:Nat}(h:j<bs.length)(hb:bs[j]=false):sgJ bs j=sgJ bs (j+1):=by
 have e:bs.length - j=(bs.length - (j+1))+1:=by omega
 unfold sgJ;rw[zV h,e,uh];simp[sgB,hb,sb]
theorem k1g{l:List Prd}{i j:Nat}(n:Int)(hj:j<l.length)(hi:i<l[j].length)(h:j<(U6 l i n).length):(U6 l i n)[j]=O7 l[j][i] n:=by simp[U6,yS,hi]
attribute [local irreducible] sgJ sgB O7 U6
theorem Bd(T:Nat)(l:List Prd)(i:Nat)(n:Int)(hi:i<T)(hT:T≤16)(hl:∀p∈l,PCk T p)(hn:l.length≤256):PC Tryz.prog 169 [LP l,.i i,.i n] (fun r=>r= .str (sgB (U6 l i n))):=by
 refine Qk tOk Tryz.func169 rfl Tryz.results169 rfl (by simp[Tryz.ntmps169]) ?_;rw[Tryz.ntmps169];simp only[Qg];have z6:(U6 l i n).length=l.length:=by simp[U6]
 repeat first|(refine r_ ?_;simp)|refine q_ ?_
 refine W4 tOk rfl rfl rfl q2g rfl T5 rfl rfl rfl (n:=l.length) (by simp;omega) (by unfold maxLen;omega) (.int .u8 0) rfl ?_;simp;rw[←z6,c07];repeat first|(refine r_ ?_;simp)|refine q_ ?_
 refine Qo (Qc (sl':=[(1,.i i),(2,.i n),(7,.sl 0 1 0 l.length),(15,LP l),(16,.i l.length),(17,.i (0:Nat))]) ?_ (by simp[z6]));refine Qn (F:=fun(u:Nat×List AObj)=>⟨[(1,.i i),(2,.i n),(7,.sl 0 1 0 l.length),(15,LP l),(16,.i l.length),(17,.i u.1)],u.2⟩)
  (fun u=>u.1≤l.length∧u.2[0]? =some (.arr 5 1 (sgJ (U6 l i n) u.1))) (fun u=>l.length - u.1) ?_ (0,_) ⟨by simp,rfl⟩
 rintro⟨j,H2⟩ ⟨hj,g⟩ ih;simp only at hj g ih ⊢;have ze:=j1v (bs:=U6 l i n) (j:=j) (by omega);repeat first|(refine r_ ?_;simp)|refine q_ ?_
 refine Qb rfl (fun zg=> ?_) (fun zh=> ?_)
 ·have z1:j<l.length:=by simpa using zg
  have hw:IntKind.i64.wrap ((j:Int)+1)=j+1:=wrap_i64 _ (by omega) (by omega);have hp:=hl _ (zL z1);have za:i<l[j].length:=by rw[hp.1];exact hi
  have hs:=hp.2 _ (zL za);have zi:=k1g n z1 za (by omega);have hT:=w2q (bs:=U6 l i n) (j:=j) (by omega);have hF:=q2x (bs:=U6 l i n) (j:=j) (by omega);rw[zi]at hT hF;have zb:c0w l[j][i] n=(O7 l[j][i] n,0):=by rw[c0w,if_pos ((X0 _).2 hs)]
  have z7:=fun H'=>ih (j+1,H');simp only at z7;repeat first|(refine r_ ?_;simp[z1,za])|refine q_ ?_
  refine Qe rfl rfl (by simp) (Fz l[j][i] n) rfl ?_;rintro _ rfl;simp;rw[zb];generalize O7 l[j][i] n=b at *
  repeat first|(refine r_ ?_;simp)|refine q_ ?_
  have gL:∀L,(H2++L)[0]? =some (.arr 5 1 (sgJ (U6 l i n) j)):=fun L=>Qa g L;cases b with
  |true=>
   rw[←hT rfl]at z7;clear hT hF;refine Qb rfl (fun _=> ?_) (fun h=>by cases h);have zc:=v18 (bs:=U6 l i n) (j:=j) (by omega);have zj:∀hh,(sgJ (U6 l i n) j)[j]'hh=AV.int .u8 0:=fun hh=>by rw[zJ hh]at zc;exact Option.some.inj zc
   have gL1:∀L hh,(H2++L)[0]'hh= .arr 5 1 (sgJ (U6 l i n) j):=fun L hh=>by have:=gL L;rw[zJ hh]at this;exact Option.some.inj this
   repeat first|(refine r_ ?_;simp[gL,gL1,ze,z1,z6,zc,zj,hw])|refine q_ ?_
   refine Qc (sl':=[(1,.i i),(2,.i n),(7,.sl 0 1 0 l.length),(15,LP l),(16,.i l.length),(17,.i (j+1:Nat))]) ?_ (by simp);exact z7 _ ⟨by omega,Qh (gL _) _⟩ (by omega)
  |false=>
   rw[←hF rfl]at z7;refine Qb rfl (fun h=>by cases h) (fun _=> ?_);repeat first|(refine r_ ?_;simp[hw])|refine q_ ?_
   refine Qc (sl':=[(1,.i i),(2,.i n),(7,.sl 0 1 0 l.length),(15,LP l),(16,.i l.length),(17,.i (j+1:Nat))]) ?_ (by simp);exact z7 _ ⟨by omega,gL _⟩ (by omega)
 ·have zd:j=l.length:=by simp at zh;omega
  subst zd;have z8:=j1r (U6 l i n);rw[z6]at z8;rw[z8]at g ze;have zf:=Xf (U6 l i n);generalize sgB (U6 l i n)=s at *
  repeat first|(refine r_ ?_;simp)|refine q_ ?_
  refine B4 tOk rfl rfl q2g rfl T5 rfl T9 rfl rfl (s:=s) (by simp[g,zf,z6];rw[zY (by simp[zf,z6])]) rfl ?_;simp;repeat first|(refine r_ ?_;simp)|refine q_ ?_
end Go.Abs
namespace Go.Abs
open Go Go.Proofs Go.RowKit Go.Shelf Go.Lib Go.Sort
theorem N0(x y:Iv)(W:World):Calls Tryz.prog 180 #[.agg #[.int .i64 x.lo,.int .i64 x.hi],.agg #[.int .i64 y.lo,.int .i64 y.hi]] W fun e w'=>e= .returned (.int .i64 (Lib.compareInt x.lo y.lo))∧∃q os',w'=grow (W.drewN q) os':=by
 have z1:=fun W'=>Tryz.cmp_Compare_int x.lo y.lo W';generalize Lib.compareInt x.lo y.lo=r at z1 ⊢
 go_enter Tryz.func180,Tryz.ntmps180
 go_wp2_with (go_at_call 181;refine(z1 _).mono ?_;rintro e w' ⟨rfl,rfl⟩)
 go_ret
 exact⟨rfl,0,_,by rw[alloc_eq_grow,alloc_eq_grow,grow_grow];rfl⟩
theorem w1m(H:List AObj)(p:Nat)(l:List Iv)(hp:H[p]? =some (.arr 187 2 (l.map encIv)))(hl:l.length≤1000000):
  FC Tryz.prog 179 [.sl p 2 0 l.length,.fn (.func 180) [] []] H
   (fun r H'=>r= .tup []∧∃l':List Iv,l'.Perm l∧Xn l'∧H'=H.set p (.arr 187 2 (l'.map encIv))):=by
 refine(j0s (xs:=l.map encIv) (Tw Tryz.func179 rfl rfl) (by simp) hp (d1l l) [.func (.func 180) #[] #[]] (fun w I m vs a b=>Bs _ w I m _ vs a b) (fun z1=>∃l':List Iv,l'.Perm l∧Xn l'∧z1=l'.map encIv) ?_ ?_).mono ?_
 ·intro b cap w hH hb hc;have eg:∀args w,(callFunc 180 args).run Tryz.prog w= .ok (.enter 180 args) w:=enters_of Tryz.func180 (by kernel_rfl) rfl;have:=AnyQ.slices_SortFunc Tryz.sortIv 2 Tryz.isAgg187 Tryz.sizeOf187 Jm (fun _=>rfl) (fun x v hv=>by simp[Jm]at hv;rcases hv with rfl|rfl<;>rfl) (fun x y=>Lib.compareInt x.lo y.lo) w2i 180 #[] b 0 cap l.toArray w eg (fun _ _ _ _ x y=>N0 x y _) hH hb (by simp;omega);change Calls Tryz.prog 179 _ _ _ at this;rw[show(l.toArray).size=l.length by simp]at this;refine Calls.mono (this) ?_;rintro e w' ⟨rfl,d',n,os,h1,h2,rfl⟩;obtain⟨s1,_,s3⟩:=h1;have hs:d'.toList.length=l.length:=by simpa using s1
  refine⟨rfl,d'.toList.map encIv,flatK Jm 2 d',n,os,⟨d'.toList,?_,?_,rfl⟩,by simp[hs],by simpa using d1l d'.toList,rfl⟩
  ·rw[show d'.extract 0 l.length=d' by simp[←hs],show l.toArray.extract 0 l.length=l.toArray by simp]at s3;simpa using s3
  ·refine yQ.2 fun i j hi hj z6=> ?_;have:=h2 i j (xY _) z6 (by omega);rw[q2h,getElem!_pos d' i (by simpa using hi),getElem!_pos d' j (by simpa using hj)]at this;simpa using this
 ·rintro h;have z7:l=[]:=by simpa using h
  subst z7;exact⟨⟨[],.refl _,.nil,rfl⟩,fun w=>AnyF.slices_SortFunc_none Tryz.sortIv none 0 _ w⟩
 ·rintro r H' ⟨rfl,z1,⟨l',h1,h2,rfl⟩,rfl⟩;exact⟨rfl,l',h1,h2,rfl⟩
end Go.Abs
namespace Go.Abs
open Go Go.Proofs
theorem Dn(l l':List Iv)(z1:∀y∈l,y.lo≤y.hi)(hp:l'.Perm l)(hl:Xn l'):Q0 [] l'=Es l:=
 Fu l' (Iy l) [] (hp.trans (Od l).1.symm) hl (Od l).2 (fun y hy=>z1 y (hp.mem_iff.1 hy))
theorem SL.upd{K G:List AObj}{p e sz:Nat}{xs:List AV}(h:SL K G p e sz xs)(L:List AObj)(ys:List AV):SL K (G.set p (.arr e sz ys)++L) p e sz ys:=by have hp:=(zB.1 h.arr).1;have z1:=h.ge;refine⟨by rw[zF (by simpa using hp)];exact zO hp,z1,fun j hj=> ?_⟩;rw[zF (by simp;omega),zE (by omega)];exact h.keep j hj
attribute [local irreducible] W2 Q0 Es
theorem Vn(H:List AObj)(q:Nat)(l:List Iv)(hq:H[q]? =some (.arr 187 2 (l.map encIv)))(hl:l.length≤1000000)(zf:∀y∈l,Sb y∧y.lo≤y.hi):
  FC Tryz.prog 124 [.sl q 2 0 l.length] H (fun r H'=>r=LIv (Es l)∧H.length≤H'.length∧∀i,i<H.length→i≠q→H'[i]? =H[i]?):=by
 refine Wy tOk Tryz.func124 rfl Tryz.results124 rfl (by simp[Tryz.ntmps124]) ?_;rw[Tryz.ntmps124];simp only[Qg];repeat first|(refine r_ ?_;simp)|refine q_ ?_
 refine Q4 rfl rfl (w1m H q l hq hl) rfl ?_;rintro r H' ⟨rfl,l',h1,h2,rfl⟩;simp;have hl':l'.length≤1000000:=by rw[h1.length_eq];exact hl
 have zl:=h1.length_eq;have zc:∀y∈l',Sb y:=fun y hy=>(zf y (h1.mem_iff.1 hy)).1;rw[←Dn l l' (fun y hy=>(zf y hy).2) h1 h2,←zl];have g0:=Qh hq (.arr 187 2 (l'.map encIv));have z7:∀i,i≠q→(H.set q (.arr 187 2 (l'.map encIv)))[i]? =H[i]? :=fun i hi=>zE (fun e=>hi e.symm);have hlen:(H.set q (.arr 187 2 (l'.map encIv))).length=H.length:=by simp
 generalize H.set q (.arr 187 2 (l'.map encIv))=H1 at *
 repeat first|(refine r_ ?_;simp)|refine q_ ?_
 refine Q6 (sl':=[(2,.nils),(3,.nils),(9,.sl q 2 0 l'.length),(10,.i l'.length),(11,.i (0:Nat))]) ?_ (by simp);refine Ws q g0 ?_;simp;rw[zY (by simp)];have z1:∀i,i<H.length→i≠q→(H1.set q .dead)[i]? =H[i]? :=fun i h1 h2=>by rw[zE (fun e=>h2 e.symm)];exact z7 i h2
 have z8:(H1.set q .dead).length=H.length:=by simp[hlen]
 generalize H1.set q .dead=K at *;refine Wt 3 187 2 rfl ?_
 simp;have zm:=SL.start K 187 2;refine Qo (Qc (sl':=[(3,.sl K.length 2 0 (Q0 [] (l'.take 0)).length),(9,LIv l'),(10,.i l'.length),(11,.i (0:Nat))]) ?_ (by simp[z8,Q0]));refine Qn (F:=fun(u:Nat×Nat×List AObj)=>⟨[(3,.sl u.2.1 2 0 (Q0 [] (l'.take u.1)).length),(9,LIv l'),(10,.i l'.length),(11,.i u.1)],u.2.2⟩)
  (fun u=>u.1≤l'.length∧SL K u.2.2 u.2.1 187 2 ((Q0 [] (l'.take u.1)).map encIv)) (fun u=>l'.length - u.1) ?_ (0,K.length,_) ⟨by simp,by rw[wd,Q0,uo];exact zm⟩
 rintro⟨j,p,G⟩ ⟨hj,g⟩ ih;simp only at hj g ih ⊢;repeat first|(refine r_ ?_;simp)|refine q_ ?_
 refine Qb rfl (fun zn=> ?_) (fun zg=> ?_)
 ·have za:j<l'.length:=by simpa using zn
  have hw:IntKind.i64.wrap ((j:Int)+1)=j+1:=wrap_i64 _ (by omega) (by omega);have zh:Q0 [] (l'.take (j+1))=W2 (Q0 [] (l'.take j)) l'[j]:=by rw[zV za,Po]
  have zi:(Q0 [] (l'.take j)).length≤j:=yO (Tc _ _) (by simp;omega);have zd:∀y∈Q0 [] (l'.take j),Sb y:=Aa _ _ (by simp) (fun y hy=>zc y (x_ hy));have z6:=fun p' G'=>ih (j+1,p',G');simp only[zh]at z6;clear zh;generalize Q0 [] (l'.take j)=acc at *;generalize hx:l'[j]=x at *
  repeat first|(refine r_ ?_;simp[za,hx])|refine q_ ?_
  rcases wO acc with rfl|⟨ini,y,rfl⟩
  ·refine Qs tOk mixed [] (.val 0 (.val 1 (.val 2 (.val 3 (.val 4 (.val 5 (.val 6 (.val 7 (.val 8 (.val 9 (.val 10 (.val 11 (.val 12 (.val 13 (.done))))))))))))))) rfl (by kernel_rfl) ?_;simp;refine Qj rfl ?_;simp;repeat first|(refine r_ ?_;simp)|refine q_ ?_
   refine Qi tOk rfl rfl H4 rfl Bk rfl (by decide) (by decide) rfl rfl rfl ?_;simp[Qa g.arr,Ql g.arr];refine⟨by simp[W8,Qa g.arr,Ql g.arr]<;>omega,?_⟩;repeat first|(refine r_ ?_;simp[hw])|refine q_ ?_
   refine Qc (sl':=[(3,.sl (G.length+2) 2 0 1),(9,LIv l'),(10,.i l'.length),(11,.i (j+1:Nat))]) ?_ (by simp);have:=z6 (G.length+2) _ ⟨by omega,by rw[W2];exact g.put [AObj.vars [AV.i x.lo,AV.i x.hi],AObj.arr 187 2 [encIv x]] _ rfl⟩ (by omega);rw[W2]at this;simpa using this
  ·have zo:=(Em _).1 (zd y (by simp)).2;have zj:IntKind.i64.wrap (y.hi+1)=y.hi+1:=wrap_i64 _ (by omega) (by omega);have gA:=g.arr;rw[wP]at g gA z6 zi ⊢;have hlen:(ini++[y]).length=ini.length+1:=by simp
   rw[hlen]at zi ⊢;have zk:IntKind.i64.wrap (ini.length:Int)=ini.length:=wrap_i64 _ (by omega) (by omega);have hg:((ini++[y]).map encIv)[ini.length]? =some (encIv y):=by simp
   have zb:(ini.length:Int)<ini.length+1:=by omega
   refine Qs tOk mixed [] (.val 0 (.val 1 (.val 2 (.val 3 (.val 4 (.val 5 (.val 6 (.val 7 (.val 8 (.val 9 (.val 10 (.val 11 (.val 12 (.val 13 (.done))))))))))))))) rfl (by kernel_rfl) ?_;simp[Qa gA,zk,hg,zj,zb];refine Qb rfl (fun h1=> ?_) (fun h1=> ?_)
   ·repeat first|(refine r_ ?_;simp)|refine q_ ?_
    refine Qs tOk mixed [14] (.val 0 (.val 1 (.val 2 (.val 3 (.val 4 (.val 5 (.val 6 (.val 7 (.val 8 (.val 9 (.val 10 (.val 11 (.val 12 (.val 13 (.one 14 (.done)))))))))))))))) rfl (by kernel_rfl) ?_;simp[Qa gA,zk,hg,zj,zb,Ql gA];repeat first|(refine r_ ?_;simp[hw])|refine q_ ?_
    have hR:W2 (ini++[y]) x=ini++[⟨y.lo,if y.hi<x.hi then x.hi else y.hi⟩]:=by rw[Eb,if_pos (by simpa using h1)]
    rw[hR]at z6;refine Qc (sl':=[(3,.sl p 2 0 (ini.length+1)),(9,LIv l'),(10,.i l'.length),(11,.i (j+1:Nat))]) ?_ (by simp);have:=z6 p _ ⟨by omega,g.upd [AObj.vars [AV.i x.lo,AV.i x.hi]] _⟩ (by omega);simpa using this
   ·repeat first|(refine r_ ?_;simp)|refine q_ ?_
    refine Qi tOk rfl rfl H4 rfl Bk rfl (by decide) (by decide) rfl rfl rfl ?_;simp[Qa gA,Ql gA];refine⟨by simp[W8,Qa gA,Ql gA]<;>omega,?_⟩;repeat first|(refine r_ ?_;simp[hw])|refine q_ ?_
    have hR:W2 (ini++[y]) x=ini++[y]++[x]:=by rw[Eb,if_neg (by simpa using h1)]
    rw[hR]at z6;refine Qc (sl':=[(3,.sl (G.length+2) 2 0 (ini.length+2)),(9,LIv l'),(10,.i l'.length),(11,.i (j+1:Nat))]) ?_ (by simp);have:=z6 (G.length+2) _ ⟨by omega,g.put [AObj.vars [AV.i x.lo,AV.i x.hi],AObj.arr 187 2 [encIv x]] _ rfl⟩ (by omega);simpa using this
 ·have ze:j=l'.length:=by simp at zg;omega
  subst ze;rw[y_]at g ⊢;refine Ws p g.arr ?_;simp;rw[zY (by simp)];repeat first|(refine r_ ?_;simp)|refine q_ ?_
  have zp:=(zB.1 g.arr).1;have zg:=g.ge;refine⟨by omega,fun i h1 h2=> ?_⟩;rw[zE (by omega),g.keep i (by omega)];exact z1 i h1 h2
end Go.Abs
namespace Go.Abs
open Go Go.Proofs
def Fo(F:Nat→List Iv)(T i:Nat):List AV:=(yL T).map fun k=>if k<i then encL (F k)else .nils
theorem q0m(F:Nat→List Iv)(T i:Nat):(Fo F T i).length=T:=by simp[Fo]
theorem Vx(F:Nat→List Iv)(T:Nat):yF T AV.nils=Fo F T 0:=by refine wD (by simp[Fo]) fun k h1 h2=>by simp[Fo]
theorem w0j(F:Nat→List Iv){T i:Nat}(h:i<T):(Fo F T i)[i]? =some .nils:=by simp[Fo,h]
theorem M8(F:Nat→List Iv){T i:Nat}(h:i<T):(Fo F T i).set i (encL (F i))=Fo F T (i+1):=by
 refine wD (by simp[Fo]) fun k h1 h2=> ?_;have hk:k<T:=by simpa[Fo]using h2
 rw[tB];by_cases e:i=k
 ·subst e;simp[Fo]
 ·rw[if_neg e];simp only[Fo,u9,up];by_cases h3:k<i
  ·rw[if_pos h3,if_pos (by omega)]
  ·rw[if_neg h3,if_neg (by omega)]
theorem Zy(F:Nat→List Iv)(T:Nat):Fo F T T=((yL T).map F).map encL:=by
 refine wD (by simp[Fo]) fun k h1 h2=> ?_;have hk:k<T:=by simpa[Fo]using h1
 simp[Fo,hk]
theorem j07(F:Nat→List Iv)(T:Nat):(Fo F T T).all (fun x=>x.cells.all AV.pure)=true:=by rw[Zy,zX];intro x hx;obtain⟨s,_,rfl⟩:=zT.1 hx;simp[AV.cells,AV.pure]
theorem C8{T:Nat}{l:List Prd}(hl:∀p∈l,PWf T p){i:Nat}{y:Iv}(hy:y∈Qu l i):Sb y∧y.lo≤y.hi:=by
 obtain⟨p,hp,hx⟩:=Te.1 hy;by_cases hi:i<p.length
 ·rw[Wx hi]at hx;exact⟨w2x (hl p hp) (zL hi) y hx,((hl p hp).2 _ (zL hi)).1.1 y hx⟩
 ·simp[yS,hi]at hx
theorem w0m(T:Nat)(l:List Prd):(Uz T l).length=T:=by simp[Uz]
attribute [local irreducible] Es Qu Uz Fo
theorem Lr(T:Nat)(l:List Prd)(hT:T≤16)(hl:∀p∈l,PWf T p)(hn:∀i,i<T→(Qu l i).length≤1000000)(y2:l.length≤1000000):PC Tryz.prog 60 [.i T,LP l] (fun r=>r=encP (Uz T l)):=by
 refine Qk tOk Tryz.func60 rfl Tryz.results60 rfl (by simp[Tryz.ntmps60]) ?_;rw[Tryz.ntmps60];simp only[Qg];simp only[encP];repeat first|(refine r_ ?_;simp)|refine q_ ?_
 refine W4 tOk rfl rfl rfl T74 rfl H4 rfl rfl rfl (n:=T) (by simp;omega) (by unfold maxLen;omega) .nils rfl ?_;simp;repeat first|(refine r_ ?_;simp)|refine q_ ?_
 rw[Vx (fun k=>Es (Qu l k))];refine Fe 1 rfl ?_;simp;refine Qo (Qc (sl':=[(0,.i T),(1,LP l),(4,.vptr 0 0),(5,.vptr 2 0),(12,.i T),(13,.i (0:Nat))]) ?_ (by simp));refine Qn (F:=fun(u:Nat×List AObj)=>⟨[(0,.i T),(1,LP l),(4,.vptr 0 0),(5,.vptr 2 0),(12,.i T),(13,.i u.1)],u.2⟩)
  (fun u=>u.1≤T∧3≤u.2.length∧u.2[0]? =some (.vars [.nils])∧u.2[1]? =some (.va 171 1 (Fo (fun k=>Es (Qu l k)) T u.1))∧u.2[2]? =some (.vars [.sl 1 1 0 T])) (fun u=>T - u.1) ?_ (0,_) ⟨by simp,by simp,rfl,rfl,rfl⟩
 rintro⟨i,H2⟩ ⟨hi,hH,g0,g1,g2⟩ ih;simp only at hi hH g0 g1 g2 ih ⊢;repeat first|(refine r_ ?_;simp)|refine q_ ?_
 refine Qb rfl (fun zq=> ?_) (fun zr=> ?_)
 ·have z1:i<T:=by simpa using zq
  have hw:IntKind.i64.wrap ((i:Int)+1)=i+1:=wrap_i64 _ (by omega) (by omega);have zm:=M8 (fun k=>Es (Qu l k)) z1;have zt:=w0j (fun k=>Es (Qu l k)) z1;have z7:=q0m (fun k=>Es (Qu l k)) T i;have zd:=hn i z1;have ze:=fun H'=>ih (i+1,H');simp only[←zm]at ze;clear zm;generalize Fo (fun k=>Es (Qu l k)) T i=row at *
  repeat first|(refine r_ ?_;simp)|refine q_ ?_
  refine A3 1 i 187 2 g1 zt ?_;refine Qo (Qc (sl':=[(0,.i T),(1,LP l),(4,.vptr 0 0),(5,.vptr 2 0),(6,.i i),(12,.i T),(13,.i i),(16,LP l),(17,.i l.length),(18,.i (0:Nat))]) ?_ (by simp));refine Qn (F:=fun(u:Nat×Nat×List AObj)=>⟨[(0,.i T),(1,LP l),(4,.vptr 0 0),(5,.vptr 2 0),(6,.i i),(12,.i T),(13,.i i),(16,LP l),(17,.i l.length),(18,.i u.1)],u.2.2⟩)
   (fun u=>u.1≤l.length∧3≤u.2.1∧u.2.2[0]? =some (.vars [.nils])∧u.2.2[1]? =some (.va 171 1 (row.set i (.sl u.2.1 2 0 (Qu (l.take u.1) i).length)))∧u.2.2[2]? =some (.vars [.sl 1 1 0 T])∧u.2.2[u.2.1]? =some (.arr 187 2 ((Qu (l.take u.1) i).map encIv))) (fun u=>l.length - u.1) ?_
   (0,H2.length,_) ⟨by simp,hH,Qd (by decide) (Qa g0 _) _,by rw[wd,Y6];exact Qh (Qa g1 _) _,Qd (by decide) (Qa g2 _) _,by rw[wd,Y6];simp only;rw[zE (i:=1) (j:=H2.length) (by omega)];simp⟩
  rintro⟨j,q,G⟩ ⟨hj,zu,k0,k1,k2,k3⟩ ih2;simp only at hj zu k0 k1 k2 k3 ih2 ⊢;repeat first|(refine r_ ?_;simp)|refine q_ ?_
  refine Qb rfl (fun zf=> ?_) (fun zg=> ?_)
  ·have z6:j<l.length:=by simpa using zf
   have zn:IntKind.i64.wrap ((j:Int)+1)=j+1:=wrap_i64 _ (by omega) (by omega);have hp:=hl _ (zL z6);have zh:i<l[j].length:=by rw[hp.1];exact z1
   have zi:=Py z6 zh;have zj:(Qu (l.take (j+1)) i).length≤1000000:=by refine yO ?_ zd;unfold Qu;rw[←xW (j+1) l,wA,z_,xW];omega
   rw[zi,z_]at zj;have z8:=fun q' G'=>ih2 (j+1,q',G');simp only[zi]at z8;clear zi;repeat first|(refine r_ ?_;simp[z6,zh])|refine q_ ?_
   generalize hs:l[j][i]=s at *;generalize Qu (l.take j) i=acc at *;refine Qs tOk mixed [13,15] (.val 0 (.val 2 (.val 3 (.val 4 (.val 5 (.val 6 (.val 7 (.val 8 (.val 9 (.val 10 (.val 11 (.val 12 (.two 1 (.one 13 (.val 14 (.one 15 (.done)))) 13 (.val 1 (.val 14 (.one 15 (.done))))))))))))))))) rfl (by kernel_rfl) ?_
   simp[Qa k1,Qa k2,z1,zh,z6,hs,z7];have zv:q≠0:=by omega
   have zw:q≠1:=by omega
   have zx:q≠2:=by omega
   have y3:=(zB.1 k3).1;have m0:∀L,(G.set q .dead++L)[0]? =some (AObj.vars [AV.nils]):=fun L=>Qa (Qd zv k0 _) L;have m1:∀L,(G.set q .dead++L)[1]? =some (.va 171 1 (row.set i (.sl q 2 0 acc.length))):=fun L=>Qa (Qd zw k1 _) L;have zc:∀L hh,(G.set q .dead++L)[1]'hh= .va 171 1 (row.set i (.sl q 2 0 acc.length)):=fun L hh=>by have:=m1 L;rw[zJ hh]at this;exact Option.some.inj this
   have m2:∀L,(G.set q .dead++L)[2]? =some (AObj.vars [AV.sl 1 1 0 T]):=fun L=>Qa (Qd zx k2 _) L;have n2:∀L,(G++L)[2]? =some (AObj.vars [AV.sl 1 1 0 T]):=fun L=>Qa k2 L;refine⟨?_,?_⟩
   ·refine Qi tOk rfl rfl H4 rfl Bk rfl (by decide) (by decide) rfl rfl rfl ?_;simp[Qa k3,Ql k3,m0,m1,zc,m2,n2,z1,z7];refine⟨by simp[W8,Qa k3,Ql k3,m0,m1,zc,m2,n2,z1,z7]<;>omega,?_⟩;repeat first|(refine r_ ?_;simp[zn])|refine q_ ?_
    refine Qc (sl':=[(0,.i T),(1,LP l),(4,.vptr 0 0),(5,.vptr 2 0),(6,.i i),(12,.i T),(13,.i i),(16,LP l),(17,.i l.length),(18,.i (j+1:Nat))]) ?_ (by simp);refine z8 (G.length+1) _ ⟨by omega,by omega,Qd (by decide) (m0 _) _,?_,Qd (by decide) (m2 _) _,?_⟩ (by omega)
    ·rw[Qh (m1 _) _];simp
    ·rw[zE (by omega),zK (by simp)];simp
   ·refine Qi tOk rfl rfl H4 rfl Bk rfl (by decide) (by decide) rfl rfl rfl ?_;simp[Qa k3,Ql k3,m0,m1,zc,m2,n2,z1,z7];refine⟨by simp[W8,Qa k3,Ql k3,m0,m1,zc,m2,n2,z1,z7]<;>omega,?_⟩;repeat first|(refine r_ ?_;simp[zn])|refine q_ ?_
    refine Qc (sl':=[(0,.i T),(1,LP l),(4,.vptr 0 0),(5,.vptr 2 0),(6,.i i),(12,.i T),(13,.i i),(16,LP l),(17,.i l.length),(18,.i (j+1:Nat))]) ?_ (by simp);refine z8 (G.length+1) _ ⟨by omega,by omega,Qd (by decide) (m0 _) _,?_,Qd (by decide) (m2 _) _,?_⟩ (by omega)
    ·rw[Qh (m1 _) _];simp
    ·rw[zE (by omega),zK (by simp)];simp
  ·have zb:j=l.length:=by simp at zg;omega
   subst zb;rw[y_]at k1 k3;have zo:∀y∈Qu l i,Sb y∧y.lo≤y.hi:=fun y hy=>C8 hl hy;have y4:∀L,(G++L)[2]? =some (AObj.vars [AV.sl 1 1 0 T]):=fun L=>Qa k2 L;have zy:∀hh,G[1]'hh= .va 171 1 (row.set i (.sl q 2 0 (Qu l i).length)):=fun hh=>by rw[zJ hh]at k1;exact Option.some.inj k1
   repeat first|(refine r_ ?_;simp)|refine q_ ?_
   refine Qs tOk mixed [8,10] (.val 0 (.val 2 (.val 3 (.val 4 (.val 5 (.val 6 (.val 7 (.two 1 (.one 8 (.val 9 (.one 10 (.done)))) 8 (.val 1 (.val 9 (.one 10 (.done)))))))))))) rfl (by kernel_rfl) ?_;simp[k1,zy,k2,z1,z7];refine⟨?_,?_⟩
   ·refine Q4 rfl rfl (Vn G q (Qu l i) k3 zd zo) rfl ?_;rintro r H' ⟨rfl,hl',za⟩;have zz:=(zB.1 k2).1;have u0:=(za 0 (by omega) (by omega)).trans k0;have u1:=(za 1 (by omega) (by omega)).trans k1;have u2:=(za 2 (by omega) (by omega)).trans k2;have zk:∀hh,H'[1]'hh= .va 171 1 (row.set i (.sl q 2 0 (Qu l i).length)):=fun hh=>by rw[zJ hh]at u1;exact Option.some.inj u1
    simp[u1,zk,u2,z1,z7];repeat first|(refine r_ ?_;simp[hw])|refine q_ ?_
    refine Qc (sl':=[(0,.i T),(1,LP l),(4,.vptr 0 0),(5,.vptr 2 0),(12,.i T),(13,.i (i+1:Nat))]) ?_ (by simp);exact ze _ ⟨by omega,by simp;omega,Qd (by decide) u0 _,Qh u1 _,Qd (by decide) u2 _⟩ (by omega)
   ·refine Q4 rfl rfl (Vn G q (Qu l i) k3 zd zo) rfl ?_;rintro r H' ⟨rfl,hl',za⟩;have zz:=(zB.1 k2).1;have u0:=(za 0 (by omega) (by omega)).trans k0;have u1:=(za 1 (by omega) (by omega)).trans k1;have u2:=(za 2 (by omega) (by omega)).trans k2;have zk:∀hh,H'[1]'hh= .va 171 1 (row.set i (.sl q 2 0 (Qu l i).length)):=fun hh=>by rw[zJ hh]at u1;exact Option.some.inj u1
    simp[u1,zk,u2,z1,z7];repeat first|(refine r_ ?_;simp[hw])|refine q_ ?_
    refine Qc (sl':=[(0,.i T),(1,LP l),(4,.vptr 0 0),(5,.vptr 2 0),(12,.i T),(13,.i (i+1:Nat))]) ?_ (by simp);exact ze _ ⟨by omega,by simp;omega,Qd (by decide) u0 _,Qh u1 _,Qd (by decide) u2 _⟩ (by omega)
 ·have zl:i=T:=by simp at zr;omega
  subst zl;refine I3 1 g1 (j07 _ _) ?_;rw[Zy]at *
  have y0:(yL i).map (fun k=>Es (Qu l k))=Uz i l:=by unfold Uz;rfl
  rw[y0]at *;refine Wj 1 (Qh g1 _) 2 (Qd (by decide) g2 _) ?_
  have zp:=w0m i l;have e0:∀Y,((H2.set 1 AObj.dead).set 2 Y)[0]? =some (AObj.vars [AV.nils]):=fun Y=>Qd (by decide) (Qd (by decide) g0 _) _;have y1:∀Y hh,((H2.set 1 AObj.dead).set 2 Y)[0]'hh=AObj.vars [AV.nils]:=fun Y hh=>by have:=e0 Y;rw[zJ hh]at this;exact Option.some.inj this
  have e2:∀Y,((H2.set 1 AObj.dead).set 2 Y)[2]? =some Y:=fun Y=>Qh (Qd (by decide) g2 _) _;have e3:∀Y Z,(((H2.set 1 AObj.dead).set 2 Y).set 0 Z)[0]? =some Z:=fun Y Z=>Qh (e0 Y) _;simp[zp];rw[zY (by simp[zp])];repeat first|(refine r_ ?_;simp[e0,y1,e2,e3])|refine q_ ?_
end Go.Abs
namespace Go.Abs
open Go Go.Proofs
theorem GL.keepAll{K G G':List AObj}{S p:Nat}{pre post:List AV}{e sz:Nat}{xs:List AV}(h:GL K G S p pre post e sz xs)(hk:∀j,j<G.length→G'[j]? =G[j]?)(hl:G.length≤G'.length):GL K G' S p pre post e sz xs:=by have h1:=h.len;have h2:=h.lt;have h3:=(zB.1 h.arr).1;exact⟨(hk _ (by omega)).trans h.cell,(hk _ h3).trans h.arr,h.ge,h.lt,by omega,fun j hj z1=>(hk j (by omega)).trans (h.keep j hj z1)⟩
theorem SL.le{K G:List AObj}{p e sz:Nat}{xs:List AV}(h:SL K G p e sz xs):K.length≤G.length:=by have:=(zB.1 h.arr).1;have:=h.ge;omega
attribute [local irreducible] upL Ez Rh
theorem c0v(T:Nat)(p:Prd)(hp:PWf T p)(hl:∀s∈p,s.length≤1000000)(hT:T≤1000):PC Tryz.prog 131 [encP p] (fun r=>r=encP (R8 p)):=by
 refine Qk tOk Tryz.func131 rfl Tryz.results131 rfl (by simp[Tryz.ntmps131]) ?_;rw[Tryz.ntmps131];simp only[Qg];simp only[encP];have hlen:=hp.1;repeat first|(refine r_ ?_;simp)|refine q_ ?_
 refine Rj 2 0 171 1 rfl rfl ?_;simp;obtain⟨K,hK⟩:∃K,K=[AObj.vars [.list (p.map encL)],AObj.vars [AV.nils],AObj.vars [AV.nils]]:=⟨_,rfl⟩
 have zn:=GL.start (K:=K) (S:=2) [] [] 171 1 (by rw[hK];simp);refine Qo (Qc (sl':=[(2,.vptr 1 0),(3,.vptr 2 0),(11,.list (p.map encL)),(12,.i p.length),(13,.i 0)]) ?_ (by simp));refine Qn (F:=fun(u:Nat×Nat×List AObj)=>⟨[(2,.vptr 1 0),(3,.vptr 2 0),(11,.list (p.map encL)),(12,.i p.length),(13,.i u.1)],u.2.2⟩)
  (fun u=>u.1≤p.length∧GL K u.2.2 2 u.2.1 [] [] 171 1 (upL (fun i=>Ez (p.getD i [])) u.1)) (fun u=>p.length - u.1) ?_ (0,K.length,_) ⟨by simp,by rw[w0l,hK]at *;exact zn⟩
 rintro⟨j,q,H2⟩ ⟨hj,g⟩ ih;simp only at hj g ih ⊢;repeat first|(refine r_ ?_;simp)|refine q_ ?_
 refine Qb rfl (fun zo=> ?_) (fun zp=> ?_)
 ·have z7:j<p.length:=by simpa using zo
  have hw:IntKind.i64.wrap ((j:Int)+1)=j+1:=wrap_i64 _ (by omega) (by omega);have hs:=hp.2 _ (zL z7);have zy:=hl _ (zL z7);have zz:=(F7 hs.1 hs.2).2.2;have zj:upL (fun i=>Ez (p.getD i [])) j++[encL (Ez p[j])]=upL (fun i=>Ez (p.getD i [])) (j+1):=by rw[q0x,Wx z7]
  have z6:=Ij (fun i=>Ez (p.getD i [])) j;have zc:=fun q' H'=>ih (j+1,q',H');simp only[←zj]at zc;clear zj;generalize upL (fun i=>Ez (p.getD i [])) j=done at *
  repeat first|(refine r_ ?_;simp[z7])|refine q_ ?_
  generalize p[j]=l at *
  obtain⟨zk,hb⟩:=hs;refine Wt 6 187 2 rfl ?_;simp;have zd:=SL.start H2 187 2;refine Qo (Qc (sl':=[(2,.vptr 1 0),(3,.vptr 2 0),(6,.sl H2.length 2 0 0),(7,.i (-1099511627776)),(11,.list (p.map encL)),(12,.i p.length),(13,.i j),(17,LIv l),(18,.i l.length),(19,.i (0:Nat))]) ?_ (by simp));refine Qn (F:=fun(u:Nat×Nat×List Iv×Int×List AObj)=>⟨[(2,.vptr 1 0),(3,.vptr 2 0),(6,.sl u.2.1 2 0 u.2.2.1.length),(7,.i u.2.2.2.1),(11,.list (p.map encL)),(12,.i p.length),(13,.i j),(17,LIv l),(18,.i l.length),(19,.i u.1)],u.2.2.2.2⟩)
   (fun u=>u.1≤l.length∧SL H2 u.2.2.2.2 u.2.1 187 2 (u.2.2.1.map encIv)∧u.2.2.1++Rh (l.drop u.1) u.2.2.2.1=Ez l) (fun u=>l.length - u.1) ?_ (0,H2.length,[],-1099511627776,_) ⟨by simp,zd,by simp[y1o]⟩
  rintro⟨k,p2,acc,n,G⟩ ⟨hk,s1,g2⟩ ih2;simp only at hk s1 g2 ih2 ⊢;have y0:acc.length≤1000001:=by have:=congrArg List.length g2;simp only[z_]at this;omega
  repeat first|(refine r_ ?_;simp)|refine q_ ?_
  refine Qb rfl (fun ze=> ?_) (fun zf=> ?_)
  ·have z1:k<l.length:=by simpa using ze
   have zq:=hb _ ⟨l[k],zL z1,xO _,zk.1 _ (zL z1)⟩;have zr:=hb _ ⟨l[k],zL z1,zk.1 _ (zL z1),xO _⟩;unfold inR at zq zr;have zl:IntKind.i64.wrap ((k:Int)+1)=k+1:=wrap_i64 _ (by omega) (by omega);have zt:IntKind.i64.wrap (l[k].lo - 1)=l[k].lo - 1:=wrap_i64 _ (by omega) (by omega);have zm:IntKind.i64.wrap (l[k].hi+1)=l[k].hi+1:=wrap_i64 _ (by omega) (by omega);rw[W7 z1,Xb]at g2;repeat first|(refine r_ ?_;simp[z1])|refine q_ ?_
   refine Qb rfl (fun h3=> ?_) (fun h3=> ?_)
   ·rw[if_pos (by simpa using h3)]at g2;repeat first|(refine r_ ?_;simp[z1,zt])|refine q_ ?_
    refine Qi tOk rfl rfl H4 rfl Bk rfl (by decide) (by decide) rfl rfl rfl ?_;simp[Qa s1.arr,Ql s1.arr];refine⟨by simp[W8,Qa s1.arr,Ql s1.arr]<;>omega,?_⟩;repeat first|(refine r_ ?_;simp[z1,zl,zm])|refine q_ ?_
    refine Qc (sl':=[(2,.vptr 1 0),(3,.vptr 2 0),(6,.sl (G.length+2) 2 0 (acc.length+1)),(7,.i (l[k].hi+1)),(11,.list (p.map encL)),(12,.i p.length),(13,.i j),(17,LIv l),(18,.i l.length),(19,.i (k+1:Nat))]) ?_ (by simp);have:=ih2 (k+1,G.length+2,acc++[(⟨n,l[k].lo - 1⟩:Iv)],l[k].hi+1,_) ⟨by simp;omega,s1.put [AObj.vars [AV.i l[k].lo,AV.i l[k].hi],.arr 187 2 [encIv (⟨n,l[k].lo - 1⟩:Iv)]] ((acc++[(⟨n,l[k].lo - 1⟩:Iv)]).map encIv) rfl,by simpa using g2⟩ (by simp;omega);simpa using this
   ·rw[if_neg (by simpa using h3)]at g2;repeat first|(refine r_ ?_;simp[z1,zl,zm])|refine q_ ?_
    refine Qc (sl':=[(2,.vptr 1 0),(3,.vptr 2 0),(6,.sl p2 2 0 acc.length),(7,.i (l[k].hi+1)),(11,.list (p.map encL)),(12,.i p.length),(13,.i j),(17,LIv l),(18,.i l.length),(19,.i (k+1:Nat))]) ?_ (by simp);have:=ih2 (k+1,p2,acc,l[k].hi+1,_) ⟨by simp;omega,s1.add [AObj.vars [AV.i l[k].lo,AV.i l[k].hi]],by simpa using g2⟩ (by simp;omega);simpa using this
  ·have zb:k=l.length:=by simp at zf;omega
   subst zb;rw[xS,V2]at g2;repeat first|(refine r_ ?_;simp)|refine q_ ?_
   refine Qb rfl (fun h3=> ?_) (fun h3=> ?_)
   ·rw[if_pos (by simpa using h3)]at g2;repeat first|(refine r_ ?_;simp)|refine q_ ?_
    refine Qi tOk rfl rfl H4 rfl Bk rfl (by decide) (by decide) rfl rfl rfl ?_;simp[Qa s1.arr,Ql s1.arr];refine⟨by simp[W8,Qa s1.arr,Ql s1.arr]<;>omega,?_⟩;have s2:=s1.put [.arr 187 2 [encIv (⟨n,1099511627776⟩:Iv)]] ((acc++[(⟨n,1099511627776⟩:Iv)]).map encIv) rfl;have e1:(acc++[(⟨n,1099511627776⟩:Iv)]).length=acc.length+1:=by simp
    rw[g2]at s2 e1;rw[←e1];have e2:acc.map encIv++[AV.agg [AV.int IntKind.i64 n,AV.int IntKind.i64 1099511627776]]=(Ez l).map encIv:=by rw[←g2];simp
    rw[e2];refine Q6 (sl':=[(2,.vptr 1 0),(3,.vptr 2 0),(6,.sl (G.length+1) 2 0 (Ez l).length),(11,.list (p.map encL)),(12,.i p.length),(13,.i j)]) ?_ (by simp);generalize zg:G.set p2 AObj.dead++[AObj.arr 187 2 [AV.agg [AV.int IntKind.i64 n,AV.int IntKind.i64 1099511627776]],AObj.arr 187 2 ((Ez l).map encIv)]=GE;have s3:SL H2 GE (G.length+1) 187 2 ((Ez l).map encIv):=by rw[←zg];simpa using s2
    clear s1 s2 zg;refine Ws (G.length+1) s3.arr ?_;simp;rw[zY (by simp)];have zu:=(zB.1 s3.arr).1;have zv:=s3.ge;have g':=g.keepAll (G':=GE.set (G.length+1) .dead) (fun j hj=>by rw[zE (by omega)];exact s3.keep j hj) (by simp;have:=s3.le;omega);generalize GE.set (G.length+1) .dead=E at *
    have c2:=g'.cell;have c3:=g'.arr;rw[z6]at c2;simp only[vJ]at c2;have z8:∀L:List AObj,(E.set q .dead++L)[2]? =some (AObj.vars [AV.sl q 1 0 j]):=fun L=>by have:=g'.at L;rw[z6]at this;exact this
    have za:=fun A y=>g'.put A y z6.symm;repeat first|(refine r_ ?_;simp[c2])|refine q_ ?_
    refine Qi tOk rfl rfl T74 rfl H4 rfl (by decide) (by decide) rfl rfl rfl ?_;simp[Qa c3,Ql c3,z6,z8];refine⟨by simp[W8,Qa c3,Ql c3,z6,z8]<;>omega,?_⟩;repeat first|(refine r_ ?_;simp[c2,hw,z8])|refine q_ ?_
    refine Qc (sl':=[(2,.vptr 1 0),(3,.vptr 2 0),(11,.list (p.map encL)),(12,.i p.length),(13,.i (j+1:Nat))]) ?_ (by simp);exact zc (E.length+1) _ ⟨by omega,za _ _⟩ (by omega)
   ·rw[if_neg (by simpa using h3),xK]at g2;subst g2;refine Q6 (sl':=[(2,.vptr 1 0),(3,.vptr 2 0),(6,.sl p2 2 0 (Ez l).length),(11,.list (p.map encL)),(12,.i p.length),(13,.i j)]) ?_ (by simp);have s3:=s1;clear s1;generalize zg:G=GE at *;refine Ws p2 s3.arr ?_
    simp;rw[zY (by simp)];have zu:=(zB.1 s3.arr).1;have zv:=s3.ge;have g':=g.keepAll (G':=GE.set p2 .dead) (fun j hj=>by rw[zE (by omega)];exact s3.keep j hj) (by simp;have:=s3.le;omega);generalize GE.set p2 .dead=E at *
    have c2:=g'.cell;have c3:=g'.arr;rw[z6]at c2;simp only[vJ]at c2;have z8:∀L:List AObj,(E.set q .dead++L)[2]? =some (AObj.vars [AV.sl q 1 0 j]):=fun L=>by have:=g'.at L;rw[z6]at this;exact this
    have za:=fun A y=>g'.put A y z6.symm;repeat first|(refine r_ ?_;simp[c2])|refine q_ ?_
    refine Qi tOk rfl rfl T74 rfl H4 rfl (by decide) (by decide) rfl rfl rfl ?_;simp[Qa c3,Ql c3,z6,z8];refine⟨by simp[W8,Qa c3,Ql c3,z6,z8]<;>omega,?_⟩;repeat first|(refine r_ ?_;simp[c2,hw,z8])|refine q_ ?_
    refine Qc (sl':=[(2,.vptr 1 0),(3,.vptr 2 0),(11,.list (p.map encL)),(12,.i p.length),(13,.i (j+1:Nat))]) ?_ (by simp);exact zc (E.length+1) _ ⟨by omega,za _ _⟩ (by omega)
 ·have zh:j=p.length:=by simp at zp;omega
  subst zh;have g2:=g.cell;have g3:=g.arr;rw[Ij]at g2;simp only[vJ]at g2;have gR:H2[1]? =some (AObj.vars [AV.nils]):=g.kp (by decide) (by rw[hK];rfl);have hS:=(zB.1 g2).1;have zw:q≠1∧q≠2:=by have:=g.ge;rw[hK]at this;simp at this;omega
  have z6:=Ij (fun i=>Ez (p.getD i [])) p.length;have zi: .list (upL (fun i=>Ez (p.getD i [])) p.length)=AV.list ((R8 p).map encL):=by rw[d0x,z07];rfl
  generalize upL (fun i=>Ez (p.getD i [])) p.length=xs at *
  refine Wj q g3 2 g2 ?_;have k1:∀X,((H2.set q .dead).set 2 X)[1]? =some (AObj.vars [AV.nils]):=fun X=>Qd (by decide) (Qd zw.1 gR _) _;have zx:∀X hh,((H2.set q .dead).set 2 X)[1]'hh=AObj.vars [AV.nils]:=fun X hh=>by have:=k1 X;rw[zJ hh]at this;exact Option.some.inj this
  have k2:∀X,((H2.set q .dead).set 2 X)[2]? =some X:=fun X=>zO (by simpa using hS);have k3:∀X Y,(((H2.set q .dead).set 2 X).set 1 Y)[1]? =some Y:=fun X Y=>Qh (k1 X) _;simp[z6];rw[zY (by omega)];repeat first|(refine r_ ?_;simp[k1,zx,k2,k3])|refine q_ ?_
  exact AV.list.inj zi
end Go.Abs
namespace Go.Abs
open Go Go.Proofs
theorem Cv(l:List Bool)(hb:l.length≤1000000):FR Tryz.prog 129 [.list (l.map .bool)] 4 1 (fun r=>r=l.map .bool):=by
 refine j00 tOk Tryz.func129 rfl Tryz.results129 rfl (by simp[Tryz.ntmps129]) ?_;rw[Tryz.ntmps129];simp only[Qg];repeat first|(refine r_ ?_;simp)|refine q_ ?_
 refine Gp tOk rfl rfl T22 rfl rfl rfl (fun b z1=> ?_);simp;refine Qb rfl (fun h=> ?_) (fun h=> ?_)
 ·subst h;have:l=[]:=by
   cases hx:l
   ·rfl
   ·have:=z1 (by simp[hx]);cases this
  rw[this];repeat first|(refine r_ ?_;simp)|refine q_ ?_
 ·repeat first|(refine r_ ?_;simp)|refine q_ ?_
  refine Qi tOk rfl rfl T22 rfl T4 rfl (by decide) (by decide) rfl rfl rfl ?_;simp;refine⟨⟨?_,by simp;omega⟩,?_⟩
  ·intro y hy;obtain⟨x,_,rfl⟩:=zT.1 hy;exact⟨rfl,by simp[AV.cells,AV.leaf]⟩
  repeat first|(refine r_ ?_;simp)|refine q_ ?_
theorem Ht(l:List Mv)(hb:l.length≤1000000):FR Tryz.prog 130 [.list (l.map encMv)] 78 3 (fun r=>r=l.map encMv):=by
 refine j00 tOk Tryz.func130 rfl Tryz.results130 rfl (by simp[Tryz.ntmps130]) ?_;rw[Tryz.ntmps130];simp only[Qg];repeat first|(refine r_ ?_;simp)|refine q_ ?_
 refine Gp tOk rfl rfl T23 rfl rfl rfl (fun b z1=> ?_);simp;refine Qb rfl (fun h=> ?_) (fun h=> ?_)
 ·subst h;have:l=[]:=by
   cases hx:l
   ·rfl
   ·have:=z1 (by simp[hx]);cases this
  rw[this];repeat first|(refine r_ ?_;simp)|refine q_ ?_
 ·repeat first|(refine r_ ?_;simp)|refine q_ ?_
  refine Qi tOk rfl rfl T23 rfl T78 rfl (by decide) (by decide) rfl rfl rfl ?_;simp;refine⟨⟨?_,by simp;omega⟩,?_⟩
  ·intro y hy;obtain⟨x,_,rfl⟩:=zT.1 hy;exact⟨rfl,by simp[AV.cells,AV.leaf]⟩
  repeat first|(refine r_ ?_;simp)|refine q_ ?_
attribute [local irreducible] x1n
theorem Gj(H:List AObj)(f:Nat)(a:Aut)(hf:H[f]? =some (.arr 4 1 (a.fin.map .bool)))(zd:a.fin.length≤1000000)(ze:a.mv.length≤1000000):
  FC Tryz.prog 61 [.agg [.i a.types,.sl f 1 0 a.fin.length,.list (a.mv.map encMv)]] H
   (fun r H'=>((Vw a=true∧r= .tup [.agg [.i 0,.nils,.nils],.i 5])∨(Vw a=false∧r= .tup [.agg [.i a.types,.sl f 1 0 a.fin.length,.list (a.mv.map encMv)],.i 0]))∧∀i,i<H.length→H'[i]? =H[i]?):=by
 refine Wy tOk Tryz.func61 rfl Tryz.results61 rfl (by simp[Tryz.ntmps61]) ?_;rw[Tryz.ntmps61];simp only[Qg];repeat first|(refine r_ ?_;simp)|refine q_ ?_
 refine Qb rfl (fun h=> ?_) (fun h=> ?_)
 ·repeat first|(refine r_ ?_;simp)|refine q_ ?_
  have hb:Vw a=true:=by rw[Np,vQ];left;simp at h ⊢;omega
  exact⟨hb,fun i hi=>zF hi⟩
 have hb:(decide (256<a.fin.length) || decide (2048<a.mv.length))=false:=by simp at h ⊢;omega
 repeat first|(refine r_ ?_;simp)|refine q_ ?_
 refine Qo (Qc (sl':=[(1,.vptr H.length 0),(2,.vptr (H.length+1) 0),(18,.list (a.mv.map encMv)),(19,.i a.mv.length),(20,.i (0:Nat))]) ?_ (by simp));refine Qn (F:=fun(u:Nat×List AObj)=>⟨[(1,.vptr H.length 0),(2,.vptr (H.length+1) 0),(18,.list (a.mv.map encMv)),(19,.i a.mv.length),(20,.i u.1)],u.2⟩)
  (fun u=>u.1≤a.mv.length∧H.length+2≤u.2.length∧(∀i,i<H.length→u.2[i]? =H[i]?)∧u.2[H.length]? =some (.vars [.i a.types,.sl f 1 0 a.fin.length,.list (a.mv.map encMv)])∧u.2[H.length+1]? =some (.vars [.i 0,.nils,.nils])∧∀i,∀hi:i<a.mv.length,i<u.1→x1n a.mv[i]=false) (fun u=>a.mv.length - u.1) ?_ (0,_)
  ⟨by simp,by simp,fun i hi=>zF hi,by simp,by simp,fun i hi h=>by omega⟩
 rintro⟨j,G⟩ ⟨hj,hG,k0,k1,k2,hI⟩ ih;simp only at hj hG k0 k1 k2 hI ih ⊢;repeat first|(refine r_ ?_;simp)|refine q_ ?_
 refine Qb rfl (fun za=> ?_) (fun zb=> ?_)
 ·have z1:j<a.mv.length:=by simpa using za
  have hw:IntKind.i64.wrap ((j:Int)+1)=j+1:=wrap_i64 _ (by omega) (by omega);repeat first|(refine r_ ?_;simp[z1])|refine q_ ?_
  refine Qe rfl rfl (by simp) (Ds a.mv[j].on 126 (fun s=>decide (256<s.length)) v1v) rfl ?_;rintro _ rfl;simp;repeat first|(refine r_ ?_;simp)|refine q_ ?_
  have z8:∀L,(G++L)[H.length+1]? =some (.vars [.i 0,.nils,.nils]):=fun L=>Qa k2 L;refine Qb rfl (fun h=> ?_) (fun h=> ?_)
  ·have k3:∀L Y,((G++L).set (H.length+1) Y)[H.length+1]? =some Y:=fun L Y=>Qh (z8 L) Y;repeat first|(refine r_ ?_;simp[z8,k3])|refine q_ ?_
   have hm:x1n a.mv[j]=true:=by unfold x1n;exact h
   have z6:Vw a=true:=by rw[Np,vQ];right;exact wS.2 ⟨_,zL z1,hm⟩
   exact⟨z6,fun i hi=>by rw[zE (by omega),zF (by omega)];exact k0 i hi⟩
  ·have hm:x1n a.mv[j]=false:=by unfold x1n;exact h
   repeat first|(refine r_ ?_;simp[hw])|refine q_ ?_
   refine Qc (sl':=[(1,.vptr H.length 0),(2,.vptr (H.length+1) 0),(18,.list (a.mv.map encMv)),(19,.i a.mv.length),(20,.i (j+1:Nat))]) ?_ (by simp);refine ih (j+1,_) ⟨by simp only;omega,by simp;omega,fun i hi=>(zF (by omega)).trans (k0 i hi),Qa k1 _,Qa k2 _,fun i hi zc=> ?_⟩ (by simp only;omega);by_cases e:i=j
   ·subst e;exact hm
   ·exact hI i hi (by simp only at zc;omega)
 ·have z7:j=a.mv.length:=by simp at zb;omega
  subst z7;have z6:Vw a=false:=by rw[Np,hb,Bool.false_or,List.any_eq_false];intro m hm;obtain⟨i,hi,rfl⟩:=xB hm;rw[hI i hi hi];simp
  have k3:∀Y,(G.set (H.length+1) Y)[H.length+1]? =some Y:=fun Y=>Qh k2 Y;repeat first|(refine r_ ?_;simp[k1,k2,k3])|refine q_ ?_
  exact⟨z6,fun i hi=>by rw[zE (by omega)];exact k0 i hi⟩
end Go.Abs
namespace Go.Abs
open Go Go.Proofs
structure CM (H:List AObj) (a:Aut) (G:List AObj) (f p c:Nat) (xs:List AV):Prop where
 b:G[H.length]? =some (.vars (Q7 a))
 r:G[H.length+1]? =some (.vars [.i 0,.nils,.nils])
 k:∀i,i<H.length→G[i]? =H[i]?
 ce:G[c]? =some (.vars [.i a.types,.sl f 1 0 a.fin.length,.sl p 3 0 xs.length])
 fe:G[f]? =some (.arr 4 1 (a.fin.map .bool))
 m:G[p]? =some (.arr 78 3 xs)
 hf:H.length+2≤f
 hc:H.length+2≤c
 hp:H.length+2≤p
theorem CM.keepAll{H:List AObj}{a:Aut}{G G':List AObj}{f p c:Nat}{xs:List AV}(h:CM H a G f p c xs)(hk:∀j,j<G.length→G'[j]? =G[j]?):CM H a G' f p c xs:=by have l1:=(zB.1 h.b).1;have l2:=(zB.1 h.r).1;have l3:=(zB.1 h.ce).1;have l4:=(zB.1 h.fe).1;have l5:=(zB.1 h.m).1;exact⟨(hk _ l1).trans h.b,(hk _ l2).trans h.r,fun i hi=>(hk i (by omega)).trans (h.k i hi),(hk _ l3).trans h.ce,(hk _ l4).trans h.fe,(hk _ l5).trans h.m,h.hf,h.hc,h.hp⟩
theorem CM.ne1{H:List AObj}{a:Aut}{G:List AObj}{f p c:Nat}{xs:List AV}(h:CM H a G f p c xs):p≠c∧p≠f∧c≠f:=by
 refine⟨fun e=> ?_,fun e=> ?_,fun e=> ?_⟩
 ·have h1:=h.ce;have h2:=h.m;subst e;rw[h1]at h2;simp at h2
 ·have h1:=h.fe;have h2:=h.m;subst e;rw[h1]at h2;simp at h2
 ·have h1:=h.fe;have h2:=h.ce;subst e;rw[h1]at h2;simp at h2
theorem CM.put{H:List AObj}{a:Aut}{G:List AObj}{f p c:Nat}{xs:List AV}(h:CM H a G f p c xs)(A:AObj)(ys:List AV):
  CM H a ((G.set p .dead++[A,.arr 78 3 ys]).set c (.vars [.i a.types,.sl f 1 0 a.fin.length,.sl (G.length+1) 3 0 ys.length])) f (G.length+1) c ys:=by
 obtain⟨n1,n2,n3⟩:=h.ne1;have l3:=(zB.1 h.ce).1;have l5:=(zB.1 h.m).1;have hp:=h.hp;have hc:=h.hc;have hf:=h.hf;have low:∀i x,i≠p→i≠c→G[i]? =some x→((G.set p .dead++[A,.arr 78 3 ys]).set c (.vars [.i a.types,.sl f 1 0 a.fin.length,.sl (G.length+1) 3 0 ys.length]))[i]? =some x:=fun i x e1 e2 hx=>by rw[zE (fun e=>e2 e.symm),zF (by have:=(zB.1 hx).1;simpa using this),zE (fun e=>e1 e.symm)];exact hx
 refine⟨low _ _ (by omega) (by omega) h.b,low _ _ (by omega) (by omega) h.r,fun i hi=> ?_,zO (by simp;omega),low _ _ (by omega) (by omega) h.fe,?_,hf,hc,by omega⟩
 ·have hg:=h.k i hi;have z1:i<G.length:=by omega
  rw[zJ z1]at hg;rw[low i _ (by omega) (by omega) (zJ z1)];exact hg
 ·rw[zE (by omega),zK (by simp)];simp
theorem CM.cell{H:List AObj}{a:Aut}{G:List AObj}{f p c:Nat}{xs:List AV}(h:CM H a G f p c xs)(L:List AObj):(G.set p .dead++L)[c]? =some (.vars [.i a.types,.sl f 1 0 a.fin.length,.sl p 3 0 xs.length]):=
 Qa (Qd h.ne1.1 h.ce _) L
theorem CM.frz{H:List AObj}{a:Aut}{G:List AObj}{f p c:Nat}{xs:List AV}(h:CM H a G f p c xs)(X:AObj):
  ((G.set p .dead).set c X)[H.length]? =some (.vars (Q7 a))∧((G.set p .dead).set c X)[H.length+1]? =some (.vars [.i 0,.nils,.nils])∧((G.set p .dead).set c X)[c]? =some X∧((G.set p .dead).set c X)[f]? =some (.arr 4 1 (a.fin.map .bool))∧∀i,i<H.length→((G.set p .dead).set c X)[i]? =H[i]? :=by
 obtain⟨n1,n2,n3⟩:=h.ne1;have hp:=h.hp;have hc:=h.hc;have hf:=h.hf;refine⟨Qd (by omega) (Qd (by omega) h.b _) _,Qd (by omega) (Qd (by omega) h.r _) _,Qh (Qd n1 h.ce _) _,Qd n3 (Qd n2 h.fe _) _,fun i hi=> ?_⟩;rw[zE (by omega),zE (by omega)];exact h.k i hi
theorem q0j(l:List Iv):(Es l).length≤l.length:=by unfold Es;have:=Tc (Iy l) [];rw[f0x]at this;simpa using this
theorem k1y{T:Nat}{l:List Prd}{k:Nat}(h:∀i,i<T→(Qu l i).length≤k):∀s∈Uz T l,s.length≤k:=by intro s hs;obtain⟨i,hi,rfl⟩:=zT.1 hs;exact yO (q0j _) (h i (yV.1 hi))
theorem w0r{a:Aut}(h:OkA a)(s:Int)(i:Nat):(Qu (K7 a s) i).length≤1000000:=by
 have h1:(K7 a s).length≤2048:=by unfold K7;rw[yK];exact yO (xR _ _) h.mvs
 have h2:∀p∈K7 a s,PCk a.types.toNat p:=fun p hp=>by obtain⟨m,hm,rfl⟩:=zT.1 hp;exact(h.mv m (List.mem_filter.1 hm).1).on
 have:=Ig h2 i;omega
def f0g(a:Aut)(k:Nat):List Mv:=(yL k).filterMap fun s:Nat=>if Wp (Wq a s)then none else some ⟨s,a.fin.length,Wq a s⟩
theorem My(a:Aut):f0g a a.fin.length=Rl a (Wq a):=rfl
theorem k0o(a:Aut)(k:Nat):f0g a (k+1)=f0g a k++(if Wp (Wq a k)then []else [⟨k,a.fin.length,Wq a k⟩]):=by unfold f0g;rw[wH,List.filterMap_append];cases h:Wp (Wq a k)<;>simp[h]
theorem Mf(a:Aut)(k:Nat):(f0g a k).length≤k:=by unfold f0g;exact yO (List.length_filterMap_le _ _) (by simp)
theorem j0r(a:Aut):f0g a 0=[]:=rfl
def c0j(a:Aut)(s:Int)(k:Nat):List Prd:=((a.mv.take k).filter fun m=>decide (m.src=s)).map (·.on)
theorem q0q(a:Aut)(s:Int):c0j a s a.mv.length=K7 a s:=by rw[c0j,y_];rfl
theorem v0u(a:Aut)(s:Int)(k:Nat)(h:k<a.mv.length):c0j a s (k+1)=c0j a s k++(if a.mv[k].src=s then [a.mv[k].on]else []):=by unfold c0j;rw[zV h,List.filter_append,yZ];by_cases hb:a.mv[k].src=s<;>simp[hb]
theorem q0l(a:Aut)(s:Int)(k:Nat):(c0j a s k).length≤a.mv.length:=by unfold c0j;rw[yK];exact yO (xR _ _) (by simp;omega)
attribute [local irreducible] f0g Wq Wp Uz R8 K7
theorem Bf(H:List AObj)(a:Aut)(ha:OkA a):FC Tryz.prog 71 [encA a] H
  (fun r H'=>((∃e,O3 a=(e,Uo)∧e≠0∧r= .tup [.agg [.i 0,.nils,.nils],.i e])∨
   (∃b f,O3 a=(0,b)∧r= .tup [.agg [.i b.types,.sl f 1 0 b.fin.length,.list (b.mv.map encMv)],.i 0]∧H'[f]? =some (.arr 4 1 (b.fin.map .bool))∧H.length≤f))∧∀i,i<H.length→H'[i]? =H[i]?):=by
 have zw:=ha.fin;have zx:=ha.mvs;refine Wy tOk Tryz.func71 rfl Tryz.results71 rfl (by simp[Tryz.ntmps71]) ?_;rw[Tryz.ntmps71];simp only[Qg];simp only[encA];repeat first|(refine r_ ?_;simp)|refine q_ ?_
 refine Ce (P:=Tryz.prog) tOk mixed [10] (.val 0 (.val 1 (.val 2 (.val 3 (.val 5 (.val 6 (.two 4 (.two 7 (.val 8 (.one 9 (.one 10 (.done)))) 9 (.one 7 (.val 8 (.one 10 (.done))))) 9 (.one 4 (.one 7 (.val 8 (.one 10 (.done)))))))))))) (fun S'=>∃f p c,CM H a S'.hp f p c (a.mv.map encMv)∧look S'.sl 1=some (.vptr H.length 0)∧look S'.sl 2=some (.vptr (H.length+1) 0)∧look S'.sl 3=some (.i 0)∧look S'.sl 4=some (.vptr c 0)) rfl (by kernel_rfl) ?_ ?_
 ·simp;refine⟨?_,?_⟩
  ·refine A2 rfl rfl (by simp) (Cv a.fin (by omega)) rfl ?_;rintro _ rfl;simp;refine⟨?_,?_⟩
   ·refine A2 rfl rfl (by simp) (Ht a.mv (by omega)) rfl ?_;rintro _ rfl;simp;exact⟨H.length+2,H.length+3,by simp,by simp,fun i hi=>zF hi,by simp,by simp,by simp,by omega,by omega,by omega⟩
   ·refine A2 rfl rfl (by simp) (Ht a.mv (by omega)) rfl ?_;rintro _ rfl;simp;exact⟨H.length+2,H.length+4,by simp,by simp,fun i hi=>zF hi,by simp,by simp,by simp,by omega,by omega,by omega⟩
  ·refine A2 rfl rfl (by simp) (Cv a.fin (by omega)) rfl ?_;rintro _ rfl;simp;refine A2 rfl rfl (by simp) (Ht a.mv (by omega)) rfl ?_;rintro _ rfl;simp;exact⟨H.length+3,H.length+4,by simp,by simp,fun i hi=>zF hi,by simp,by simp,by simp,by omega,by omega,by omega⟩
 ·rintro⟨sl,G⟩ ⟨f,p,c,g,e1,e2,e3,e4⟩;simp only at g e1 e2 e3 e4;refine Q6 (sl':=[(1,.vptr H.length 0),(2,.vptr (H.length+1) 0),(3,.i 0),(4,.vptr c 0)]) ?_ (by simp[e1,e2,e3,e4]);have g1:=g.b;repeat first|(refine r_ ?_;simp[g1])|refine q_ ?_
  refine Qo (Qc (sl':=[(1,.vptr H.length 0),(2,.vptr (H.length+1) 0),(3,.i 0),(4,.vptr c 0),(5,.i a.fin.length),(27,.i a.fin.length),(28,.i (0:Nat))]) ?_ (by simp));refine Qn (F:=fun(u:Nat×Nat×List AObj)=>⟨[(1,.vptr H.length 0),(2,.vptr (H.length+1) 0),(3,.i 0),(4,.vptr c 0),(5,.i a.fin.length),(27,.i a.fin.length),(28,.i u.1)],u.2.2⟩)
   (fun u=>u.1≤a.fin.length∧CM H a u.2.2 f u.2.1 c ((a.mv++f0g a u.1).map encMv)) (fun u=>a.fin.length - u.1) ?_ (0,p,G) ⟨by simp,by rw[j0r,xK];exact g⟩
  clear g g1;rintro⟨s,p,G⟩ ⟨hs,g⟩ ih;simp only at hs g ih ⊢;repeat first|(refine r_ ?_;simp)|refine q_ ?_
  refine Qb rfl (fun zy=> ?_) (fun zz=> ?_)
  ·have y0:s<a.fin.length:=by simpa using zy
   have hw:IntKind.i64.wrap ((s:Int)+1)=s+1:=wrap_i64 _ (by omega) (by omega);have g1:∀L,(G++L)[H.length]? =some (.vars (Q7 a)):=fun L=>Qa g.b L;repeat first|(refine r_ ?_;simp[g1])|refine q_ ?_
   have zp:=SL.start G 76 1;refine Qo (Qc (sl':=[(1,.vptr H.length 0),(2,.vptr (H.length+1) 0),(3,.i 0),(4,.vptr c 0),(5,.i a.fin.length),(6,.i s),(7,.sl G.length 1 0 0),(27,.i a.fin.length),(28,.i s),(33,.list (a.mv.map encMv)),(34,.i a.mv.length),(35,.i (0:Nat))]) ?_ (by simp));refine Qn (F:=fun(u:Nat×Nat×List AObj)=>⟨[(1,.vptr H.length 0),(2,.vptr (H.length+1) 0),(3,.i 0),(4,.vptr c 0),(5,.i a.fin.length),(6,.i s),(7,.sl u.2.1 1 0 (c0j a s u.1).length),(27,.i a.fin.length),(28,.i s),(33,.list (a.mv.map encMv)),(34,.i a.mv.length),(35,.i u.1)],u.2.2⟩)
    (fun u=>u.1≤a.mv.length∧SL G u.2.2 u.2.1 76 1 ((c0j a s u.1).map encP)) (fun u=>a.mv.length - u.1) ?_ (0,G.length,_) ⟨by simp,zp⟩
   rintro⟨k,q,E⟩ ⟨hk,s1⟩ ih2;simp only at hk s1 ih2 ⊢;repeat first|(refine r_ ?_;simp)|refine q_ ?_
   refine Qb rfl (fun zh=> ?_) (fun zi=> ?_)
   ·have z7:k<a.mv.length:=by simpa using zh
    have zq:IntKind.i64.wrap ((k:Int)+1)=k+1:=wrap_i64 _ (by omega) (by omega);have zb:=v0u a s k z7;have ya:=q0l a s k;have z6:=fun q' E'=>ih2 (k+1,q',E');simp only[zb]at z6;clear zb;generalize c0j a s k=acc at *
    repeat first|(refine r_ ?_;simp[z7])|refine q_ ?_
    by_cases hb:a.mv[k].src=s
    ·rw[if_pos hb]at z6;refine Qb rfl (fun _=> ?_) (fun h=>by simp[hb]at h);repeat first|(refine r_ ?_;simp)|refine q_ ?_
     refine Qi tOk rfl rfl T91 rfl T76 rfl (by decide) (by decide) rfl rfl rfl ?_;simp[Qa s1.arr,Ql s1.arr];refine⟨by simp[W8,Qa s1.arr,Ql s1.arr]<;>omega,?_⟩;repeat first|(refine r_ ?_;simp[zq])|refine q_ ?_
     refine Qc (sl':=[(1,.vptr H.length 0),(2,.vptr (H.length+1) 0),(3,.i 0),(4,.vptr c 0),(5,.i a.fin.length),(6,.i s),(7,.sl (E.length+2) 1 0 (acc.length+1)),(27,.i a.fin.length),(28,.i s),(33,.list (a.mv.map encMv)),(34,.i a.mv.length),(35,.i (k+1:Nat))]) ?_ (by simp);have:=z6 (E.length+2) _ ⟨by omega,s1.put [AObj.vars [AV.i a.mv[k].src,AV.i a.mv[k].dst,AV.list (a.mv[k].on.map encL)],.arr 76 1 [encP a.mv[k].on]] ((acc++[a.mv[k].on]).map encP) rfl⟩ (by omega);simpa using this
    ·rw[if_neg hb,xK]at z6;refine Qb rfl (fun h=>by simp[hb]at h) (fun _=> ?_);repeat first|(refine r_ ?_;simp[zq])|refine q_ ?_
     refine Qc (sl':=[(1,.vptr H.length 0),(2,.vptr (H.length+1) 0),(3,.i 0),(4,.vptr c 0),(5,.i a.fin.length),(6,.i s),(7,.sl q 1 0 acc.length),(27,.i a.fin.length),(28,.i s),(33,.list (a.mv.map encMv)),(34,.i a.mv.length),(35,.i (k+1:Nat))]) ?_ (by simp);have:=z6 q _ ⟨by omega,s1.add [AObj.vars [AV.i a.mv[k].src,AV.i a.mv[k].dst,AV.list (a.mv[k].on.map encL)]]⟩ (by omega);simpa using this
   ·have zc:k=a.mv.length:=by simp at zi;omega
    subst zc;rw[q0q]at s1 ⊢;refine Ws q s1.arr ?_;simp;rw[zY (by simp)];have yb:=s1.ge;have yc:=s1.le;have g':=g.keepAll (G':=E.set q .dead) (fun j hj=>by rw[zE (by omega)];exact s1.keep j hj);generalize E.set q .dead=G2 at *;clear s1 zp g1
    have g1:=g'.b;repeat first|(refine r_ ?_;simp[g1])|refine q_ ?_
    have y1:((a.types.toNat:Nat):Int)=a.types:=by have:=ha.types;omega
    have zt:=Lr a.types.toNat (K7 a s) (by have:=ha.types;omega) (J0 ha.wfA s) (fun i _=>w0r ha s i) (by have:=q0l a s a.mv.length;rw[q0q]at this;omega);rw[y1]at zt;refine Qe rfl rfl (by simp) (zt) rfl ?_;rintro _ rfl;simp;refine Qe rfl rfl (by simp) (c0v a.types.toNat (Uz a.types.toNat (K7 a s)) (Jz (J0 ha.wfA s)) (k1y (fun i _=>w0r ha s i)) (by have:=ha.types;omega)) rfl ?_;rintro _ rfl;simp;have y3:R8 (Uz a.types.toNat (K7 a s))=Wq a s:=by unfold Wq;rfl
    rw[y3];repeat first|(refine r_ ?_;simp)|refine q_ ?_
    refine Qe rfl rfl (by simp) (y19 (Wq a s)) rfl ?_;rintro _ rfl;simp;repeat first|(refine r_ ?_;simp)|refine q_ ?_
    have g3:=g'.keepAll (G':=G2++[AObj.vars [AV.list ((Wq a s).map encL)]]) (fun j hj=>zF hj);have y4:(G2++[AObj.vars [AV.list ((Wq a s).map encL)]])[G2.length]? =some (AObj.vars [AV.list ((Wq a s).map encL)]):=by simp
    generalize G2++[AObj.vars [AV.list ((Wq a s).map encL)]]=G3 at *
    have zb:=k0o a s;have y5:=Mf a s;have zd:=fun p' G'=>ih (s+1,p',G');simp only[zb]at zd;clear zb g';generalize f0g a s=new at *
    have y6:(a.mv++new).length=a.mv.length+new.length:=by simp
    obtain⟨d1,d2,d3⟩:=g3.ne1;have g3c:=g3.ce;have g3m:=g3.m;have g3cc:=g3.cell;rw[yK,y6]at g3c g3cc;cases hv:Wp (Wq a s)with
    |true=>
     rw[hv]at zd;refine Qj rfl ?_;simp[hv];repeat first|(refine r_ ?_;simp[hw])|refine q_ ?_
     refine Qc (sl':=[(1,.vptr H.length 0),(2,.vptr (H.length+1) 0),(3,.i 0),(4,.vptr c 0),(5,.i a.fin.length),(27,.i a.fin.length),(28,.i (s+1:Nat))]) ?_ (by simp);have:=zd p G3 ⟨by omega,by simpa using g3⟩ (by omega);exact this
    |false=>
     rw[hv]at zd;refine Qj rfl ?_;simp[hv];repeat first|(refine r_ ?_;simp[g3c,y4])|refine q_ ?_
     refine Qi tOk rfl rfl T23 rfl T78 rfl (by decide) (by decide) rfl rfl rfl ?_;simp[Qa g3m,Ql g3m,g3cc,Qa g3c];refine⟨by simp[W8,Qa g3m,Ql g3m,g3cc,Qa g3c]<;>omega,?_⟩;repeat first|(refine r_ ?_;simp[hw,g3cc])|refine q_ ?_
     refine Qc (sl':=[(1,.vptr H.length 0),(2,.vptr (H.length+1) 0),(3,.i 0),(4,.vptr c 0),(5,.i a.fin.length),(27,.i a.fin.length),(28,.i (s+1:Nat))]) ?_ (by simp);have y7:=g3.put (.arr 78 3 [encMv (⟨s,a.fin.length,Wq a s⟩:Mv)]) ((a.mv++(new++[(⟨s,a.fin.length,Wq a s⟩:Mv)])).map encMv);have:=zd (G3.length+1) _ ⟨by omega,y7⟩ (by omega);simpa[Nat.add_assoc]using this
  ·have zj:s=a.fin.length:=by simp at zz;omega
   subst zj;rw[My]at g;have zm:O3 a=if(Rl a (Wq a)).isEmpty then(0,a)else Ji (Ug a):=rfl
   obtain⟨d1,d2,d3⟩:=g.ne1;have yd:=g.hf;have ye:=g.hc;have yg:=g.hp;have y5:(Rl a (Wq a)).length≤a.fin.length:=by rw[←My];exact Mf a _
   by_cases hn:Rl a (Wq a)=[]
   ·rw[hn]at zm;rw[hn,xK]at g;have gz:=g.frz (.vars [.i a.types,.sl f 1 0 a.fin.length,.list (a.mv.map encMv)]);refine Wj p g.m c g.ce ?_;simp[d2.symm];rw[zY (by simp)];generalize (G.set p AObj.dead).set c (.vars [.i a.types,.sl f 1 0 a.fin.length,.list (a.mv.map encMv)])=E at *
    obtain⟨q1,q2,q3,q4,q5⟩:=gz;have q6:∀Y,(E.set (H.length+1) Y)[H.length+1]? =some Y:=fun Y=>Qh q2 Y;repeat first|(refine r_ ?_;simp[q1,q2,q3])|refine q_ ?_
    refine Qj rfl ?_;simp;repeat first|(refine r_ ?_;simp[q1,q2,q3,q6])|refine q_ ?_
    exact⟨⟨a,by simpa using zm,f,⟨rfl,⟨rfl,rfl⟩,rfl⟩,Qd (by omega) q4 _,by omega⟩,fun i hi=>by rw[zE (by omega)];exact q5 i hi⟩
   ·have ze:O3 a=Ji (Ug a):=by rw[zm,if_neg (by simpa using hn)]
    have gm:=g.ce;rw[yK,z_]at gm;have gb:=g.b;repeat first|(refine r_ ?_;simp[gb,gm])|refine q_ ?_
    have yh:(Rl a (Wq a)).length≠0:=by simpa using hn
    refine Qb rfl (fun h=>by simp at h;omega) (fun h=> ?_);repeat first|(refine r_ ?_;simp[gb])|refine q_ ?_
    refine Qe rfl rfl (by simp) (j0e a.types ha.types.1 ha.types.2) rfl ?_;rintro _ rfl;simp;repeat first|(refine r_ ?_;simp)|refine q_ ?_
    refine Qb rfl (fun h=>by simp at h) (fun _=> ?_);have g3:=g.keepAll (G':=G++[AObj.vars [AV.list ((Wu a.types.toNat).map encL)]]) (fun j hj=>zF hj);have za:(G++[AObj.vars [AV.list ((Wu a.types.toNat).map encL)]])[G.length]? =some (AObj.vars [AV.list ((Wu a.types.toNat).map encL)]):=by simp
    generalize G++[AObj.vars [AV.list ((Wu a.types.toNat).map encL)]]=G1 at *
    have k1:=g3.ce;rw[yK,z_]at k1;have k2:=g3.fe;have k3:∀L,(G1.set f .dead++L)[c]? =some (.vars [.i a.types,.sl f 1 0 a.fin.length,.sl p 3 0 (a.mv.length+(Rl a (Wq a)).length)]):=fun L=>Qa (Qd d3.symm k1 _) L;repeat first|(refine r_ ?_;simp[k1])|refine q_ ?_
    refine Qi tOk rfl rfl T22 rfl T4 rfl (by decide) (by decide) rfl rfl rfl ?_;simp[Qa k2,Ql k2,Qa k1,k3];refine⟨by simp[W8,Qa k2,Ql k2,Qa k1,k3]<;>omega,?_⟩;have lf:=(zB.1 k2).1;have lc:=(zB.1 k1).1;have lp:=(zB.1 g3.m).1;have low:∀(X:AObj) i x,i≠f→i≠c→G1[i]? =some x→((G1.set f .dead++[AObj.arr 4 1 [AV.bool false],AObj.arr 4 1 (a.fin.map AV.bool++[AV.bool false])]).set c X)[i]? =some x:=fun X i x e1 e2 hx=>by rw[zE (fun e=>e2 e.symm),zF (by have:=(zB.1 hx).1;simpa using this),zE (fun e=>e1 e.symm)];exact hx
    have yi:=(zB.1 za).1;have r2:=low (.vars [.i a.types,.sl (G1.length+1) 1 0 (a.fin.length+1),.sl p 3 0 (a.mv.length+(Rl a (Wq a)).length)]) _ _ (by omega) (by omega) g3.r;have m2:=low (.vars [.i a.types,.sl (G1.length+1) 1 0 (a.fin.length+1),.sl p 3 0 (a.mv.length+(Rl a (Wq a)).length)]) _ _ d2 d1 g3.m;have w2:=low (.vars [.i a.types,.sl (G1.length+1) 1 0 (a.fin.length+1),.sl p 3 0 (a.mv.length+(Rl a (Wq a)).length)]) _ _ (fun e=>by rw[e,k2]at za;simp at za) (fun e=>by rw[e,k1]at za;simp at za) za;have c2:((G1.set f .dead++[AObj.arr 4 1 [AV.bool false],AObj.arr 4 1 (a.fin.map AV.bool++[AV.bool false])]).set c (.vars [.i a.types,.sl (G1.length+1) 1 0 (a.fin.length+1),.sl p 3 0 (a.mv.length+(Rl a (Wq a)).length)]))[c]? =some (.vars [.i a.types,.sl (G1.length+1) 1 0 (a.fin.length+1),.sl p 3 0 (a.mv.length+(Rl a (Wq a)).length)]):=Qh (k3 _) _;have f2:((G1.set f .dead++[AObj.arr 4 1 [AV.bool false],AObj.arr 4 1 (a.fin.map AV.bool++[AV.bool false])]).set c (.vars [.i a.types,.sl (G1.length+1) 1 0 (a.fin.length+1),.sl p 3 0 (a.mv.length+(Rl a (Wq a)).length)]))[G1.length+1]? =some (.arr 4 1 ((Ug a).fin.map AV.bool)):=by rw[zE (by omega),zK (by simp)];simp[Ug]
    have q2:∀i,i<H.length→((G1.set f .dead++[AObj.arr 4 1 [AV.bool false],AObj.arr 4 1 (a.fin.map AV.bool++[AV.bool false])]).set c (.vars [.i a.types,.sl (G1.length+1) 1 0 (a.fin.length+1),.sl p 3 0 (a.mv.length+(Rl a (Wq a)).length)]))[i]? =H[i]? :=fun i hi=>by rw[zE (by omega),zF (by simp;omega),zE (by omega)];exact g3.k i hi
    generalize (G1.set f .dead++[AObj.arr 4 1 [AV.bool false],AObj.arr 4 1 (a.fin.map AV.bool++[AV.bool false])]).set c (.vars [.i a.types,.sl (G1.length+1) 1 0 (a.fin.length+1),.sl p 3 0 (a.mv.length+(Rl a (Wq a)).length)])=E at *
    have k4:∀L,(E.set p .dead++L)[c]? =some (.vars [.i a.types,.sl (G1.length+1) 1 0 (a.fin.length+1),.sl p 3 0 (a.mv.length+(Rl a (Wq a)).length)]):=fun L=>Qa (Qd d1 c2 _) L;have zu:(Ug a).mv.length=a.mv.length+(Rl a (Wq a)).length+1:=by simp[Ug];omega
    have y8:(Ug a).fin.length=a.fin.length+1:=by simp[Ug]
    have yj:(a.mv++Rl a (Wq a)).map encMv++[encMv ⟨a.fin.length,a.fin.length,Wu a.types.toNat⟩]=(Ug a).mv.map encMv:=by simp[Ug]
    have ym:=(zB.1 c2).1;have yn:=(zB.1 m2).1;have yo:=(zB.1 f2).1;repeat first|(refine r_ ?_;simp[c2,w2])|refine q_ ?_
    refine Qi tOk rfl rfl T23 rfl T78 rfl (by decide) (by decide) rfl rfl rfl ?_;simp[Qa m2,Ql m2,Qa c2,k4];refine⟨by simp[W8,Qa m2,Ql m2,Qa c2,k4]<;>omega,?_⟩;have hB:a.mv.map encMv++((Rl a (Wq a)).map encMv++[AV.agg [AV.int IntKind.i64 ↑a.fin.length,AV.int IntKind.i64 ↑a.fin.length,AV.list ((Wu a.types.toNat).map encL)]])=(Ug a).mv.map encMv:=by simp[Ug]
    rw[hB];refine Wd fun Z hZ=> ?_;have z1:Z[E.length+1]? =some (.arr 78 3 ((Ug a).mv.map encMv)):=by rw[hZ,zE (by omega),zK (by simp)];simp
    have z2:Z[c]? =some (.vars [.i a.types,.sl (G1.length+1) 1 0 (a.fin.length+1),.sl (E.length+1) 3 0 (a.mv.length+(Rl a (Wq a)).length+1)]):=by rw[hZ,zO (by simp;omega)]
    have zr:Z[H.length+1]? =some (.vars [.i 0,.nils,.nils]):=by rw[hZ,zE (by omega),zF (by simp;omega),zE (by omega)];exact r2
    have zf:Z[G1.length+1]? =some (.arr 4 1 ((Ug a).fin.map AV.bool)):=by rw[hZ,zE (by omega),zF (by simp;omega),zE (by omega)];exact f2
    have zk:∀i,i<H.length→Z[i]? =H[i]? :=fun i hi=>by rw[hZ,zE (by omega),zF (by simp;omega),zE (by omega)];exact q2 i hi
    have zl:E.length+2=Z.length:=by rw[hZ];simp
    clear hZ;refine Q6 (sl':=[(2,.vptr (H.length+1) 0),(4,.vptr c 0)]) ?_ (by simp);refine Wj (E.length+1) z1 c z2 ?_;have zn:G1.length+1≠E.length+1:=by omega
    simp[zn,zu];rw[zY (by simp[zu])];refine Wd fun Y hY=> ?_;have y2:Y[c]? =some (.vars [.i a.types,.sl (G1.length+1) 1 0 (a.fin.length+1),.list ((Ug a).mv.map encMv)]):=by rw[hY,zO (by simp;omega)]
    have yr:Y[H.length+1]? =some (.vars [.i 0,.nils,.nils]):=by rw[hY,zE (by omega),zE (by omega)];exact zr
    have yf:Y[G1.length+1]? =some (.arr 4 1 ((Ug a).fin.map AV.bool)):=by rw[hY,zE (by omega),zE (by omega)];exact zf
    have yk:∀i,i<H.length→Y[i]? =H[i]? :=fun i hi=>by rw[hY,zE (by omega),zE (by omega)];exact zk i hi
    have yl:Y.length=Z.length:=by rw[hY];simp
    clear hY;repeat first|(refine r_ ?_;simp[y2])|refine q_ ?_
    rw[←y8];refine Q4 rfl rfl (Gj Y (G1.length+1) (Ug a) yf (by omega) (by omega)) rfl ?_;rintro r H' ⟨hr,zg⟩;have zo:=(zg (H.length+1) (by omega)).trans yr;have zv:∀X,(H'.set (H.length+1) X)[H.length+1]? =some X:=fun X=>Qh zo X;rcases hr with⟨hb,rfl⟩|⟨hb,rfl⟩
    ·have z8:O3 a=(5,Uo):=by rw[ze,Ji,if_pos hb]
     simp[zo];repeat first|(refine r_ ?_;simp[zv])|refine q_ ?_
     refine⟨z8,fun i hi=> ?_⟩;rw[zE (by omega),zg i (by omega)];exact yk i hi
    ·have z8:O3 a=(0,Ug a):=by rw[ze,Ji,hb,if_neg (by simp)]
     have y9:(Ug a).types=a.types:=rfl;simp[zo];repeat first|(refine r_ ?_;simp[zv])|refine q_ ?_
     refine⟨⟨Ug a,z8,G1.length+1,⟨by rw[y9],⟨rfl,rfl⟩,rfl⟩,?_,by omega⟩,fun i hi=> ?_⟩
     ·rw[zE (by omega),zg _ (by omega)];exact yf
     ·rw[zE (by omega),zg i (by omega)];exact yk i hi
end Go.Abs
namespace Go.Abs
open Go Go.Proofs
attribute [local irreducible] O3 Wk
theorem Hr(a:Aut):PC Tryz.prog 23 [encA a] (fun r=>r= .tup [encA (Sm a).2,.i (Sm a).1]):=by
 refine Qk tOk Tryz.func23 rfl Tryz.results23 rfl (by simp[Tryz.ntmps23]) ?_;rw[Tryz.ntmps23];simp only[Qg];simp only[encA];repeat first|(refine r_ ?_;simp)|refine q_ ?_
 refine Qe rfl rfl (by simp) (Y4 a) rfl ?_;rintro _ rfl;simp;repeat first|(refine r_ ?_;simp)|refine q_ ?_
 refine Qb rfl (fun h=> ?_) (fun h=> ?_)
 ·have h':Wk a≠0:=by simpa using h
  have hc:Sm a=(Wk a,Uo):=by rw[Sm,if_pos h']
  rw[hc];repeat first|(refine r_ ?_;simp)|refine q_ ?_
  exact⟨rfl,rfl,rfl⟩
 ·have h':Wk a=0:=by simpa using h
  have hc:Sm a=O3 a:=by rw[Sm,if_neg (by simp[h'])]
  rw[hc];repeat first|(refine r_ ?_;simp)|refine q_ ?_
  refine Q4 rfl rfl (Bf _ a ((U4 a).1 h')) rfl ?_;rintro r H' ⟨hr,hk⟩;have z6:=hk 1 (by simp);simp at z6;have z8:∀X,(H'.set 1 X)[1]? =some X:=fun X=>Qh z6 X;rcases hr with⟨e,he,zb,rfl⟩|⟨b,f,he,rfl,hf,za⟩
  ·rw[he];simp[z6];repeat first|(refine r_ ?_;simp[z8])|refine q_ ?_
   exact⟨rfl,rfl,rfl⟩
  ·rw[he];simp[z6];have z7:f≠1:=by simp at za;omega
   refine Q6 (sl':=[(2,.vptr 1 0),(3,.i 0)]) ?_ (by simp);refine Wj f (Qd (Ne.symm z7) hf _) 1 (Qh z6 _) ?_;simp;rw[zY (by simp)];have zc:∀X,((H'.set f X).set 1 X)[1]? =some X:=fun X=>Qh (Qd z7 z6 _) X;refine Wd fun Z hZ=> ?_;have z1:Z[1]? =some (.vars [.i b.types,.list (b.fin.map AV.bool),.list (b.mv.map encMv)]):=by rw[hZ];exact zO (by have:=(zB.1 z6).1;simpa using this)
   repeat first|(refine r_ ?_;simp[z1])|refine q_ ?_
end Go.Abs
namespace Go.Abs
open Go Go.Proofs
def D4(p:Nat)(xs:List Iv):AV:=if xs=[]then .nils else .sl p 2 0 xs.length
def v0s(L:Nat→Nat)(T:Nat)(p:Prd):List AV:=(yL T).map fun k=>D4 (L k) (p.getD k [])
def Xk(Q:Nat→Nat)(T n:Nat):List AV:=(yL n).map fun c=> .agg [.sl (Q c) 1 0 T]
theorem Oq(L:Nat→Nat)(T:Nat)(p:Prd):(v0s L T p).length=T:=by simp[v0s]
theorem Zf(Q:Nat→Nat)(T n:Nat):(Xk Q T n).length=n:=by simp[Xk]
theorem Sa(L:Nat→Nat){T k:Nat}(p:Prd)(h:k<T):(v0s L T p)[k]? =some (D4 (L k) (p.getD k [])):=by simp[v0s,h]
theorem q0n(Q:Nat→Nat)(T:Nat){n c:Nat}(h:c<n):(Xk Q T n)[c]? =some (.agg [.sl (Q c) 1 0 T]):=by simp[Xk,h]
theorem Lq{p:Prd}{i:Nat}(h:i<p.length)(y:List Iv):(p.set i y).getD i []=y:=by simp[yS,h]
theorem getD_set_ne{p:Prd}{i k:Nat}(h:i≠k)(y:List Iv):(p.set i y).getD k []=p.getD k []:=by simp only[yS];rw[zE h]
structure Rows (K:List AObj) (T o:Nat) (st:List Prd) (Q:Nat→Nat) (L:Nat→Nat→Nat) (tag:Nat→Nat×Nat) (H:List AObj):Prop where
 out:H[o]? =some (.va 76 1 (Xk Q T st.length))
 row:∀c p,st[c]? =some p→H[Q c]? =some (.va 171 1 (v0s (L c) T p))
 leaf:∀c p k,st[c]? =some p→k<T→p.getD k []≠[]→H[L c k]? =some (.arr 187 2 ((p.getD k []).map encIv))
 tQ:∀c,c<st.length→tag (Q c)=(c+1,0)
 tL:∀c p k,st[c]? =some p→k<T→p.getD k []≠[]→tag (L c k)=(c+1,k+1)
 to:tag o=(0,0)
 geo:K.length≤o
 geQ:∀c,c<st.length→K.length≤Q c
 geL:∀c p k,st[c]? =some p→k<T→p.getD k []≠[]→K.length≤L c k
 keep:∀i,i<K.length→H[i]? =K[i]?
 len:K.length≤H.length
 tK:∀i,i<K.length→tag i=(0,0)
section
variable {K:List AObj} {T o:Nat} {st:List Prd} {Q:Nat→Nat} {L:Nat→Nat→Nat} {tag:Nat→Nat×Nat} {H H':List AObj}
theorem Uj{α:Type}{l:List α}{i:Nat}{x:α}(h:l[i]? =some x):i<l.length:=(zB.1 h).1
theorem Qf{H:List AObj}{i:Nat}{x:AObj}(h:H[i]? =some x):i<H.length:=(zB.1 h).1
theorem Rows.other(h:Rows K T o st Q L tag H)(hk:∀j,j<H.length→tag j≠(0,1)→H'[j]? =H[j]?)(hl:H.length≤H'.length)(hK:K=[]:=by rfl):Rows K T o st Q L tag H':=by
 subst hK;exact⟨(hk _ (Qf h.out) (by rw[h.to];simp)).trans h.out,fun c p hc=>(hk _ (Qf (h.row c p hc)) (by rw[h.tQ c (Uj hc)];simp)).trans (h.row c p hc),fun c p k hc z1 hn=>(hk _ (Qf (h.leaf c p k hc z1 hn)) (by rw[h.tL c p k hc z1 hn];simp)).trans (h.leaf c p k hc z1 hn),
  h.tQ,h.tL,h.to,h.geo,h.geQ,h.geL,fun i hi=>by simp at hi,by simp,h.tK⟩
theorem w0q{l:List AV}{i:Nat}{x:AV}(h:l[i]? =some x):l.set i x=l:=by
 refine xT fun j=> ?_;by_cases e:i=j
 ·subst e;rw[h,zO (Uj h)]
 ·rw[zE e]
theorem Rows.put (h:Rows K T o st Q L tag H) {c:Nat} {p:Prd} (hc:st[c]? =some p) (zi:p.length=T) {i:Nat} (hi:i<T) {x:Iv} {np:Nat} (zj:H.length≤np)
  (zf:H'[Q c]? =some (.va 171 1 ((v0s (L c) T p).set i (.sl np 2 0 ((p.getD i []).length+1)))))
  (z8:H'[np]? =some (.arr 187 2 ((p.getD i []++[x]).map encIv)))
  (hk:∀j,j<H.length→j≠Q c→tag j≠(c+1,i+1)→H'[j]? =H[j]?):
  Rows K T o (st.set c (Uy p i x)) Q (fun c' k'=>if c'=c∧k'=i then np else L c' k') (fun j=>if j=np then(c+1,i+1)else tag j) H':=by
 have zd:=(zB.1 hc).1;have ze:∀c' p',(st.set c (Uy p i x))[c']? =some p'→(c'=c∧p'=Uy p i x)∨(c'≠c∧st[c']? =some p'):=fun c' p' e=>by
  by_cases zg:c'=c
  ·subst zg;rw[zO zd]at e;exact .inl ⟨rfl,(Option.some.inj e).symm⟩
  ·rw[zE (fun e=>zg e.symm)]at e;exact .inr ⟨zg,e⟩
 have za:(Uy p i x).getD i []=p.getD i []++[x]:=Lq (by omega) _;have z6:∀k,k≠i→(Uy p i x).getD k []=p.getD k []:=fun k hk=>getD_set_ne (fun e=>hk e.symm) _;have zh:o≠Q c:=fun e=>by have h1:=h.to;have h2:=h.tQ c zd;rw[e,h2]at h1;simp at h1
 have lo:=Qf h.out;have lQ:∀c',c'<st.length→Q c'<H.length:=fun c' zb=>Qf (h.row c' _ (zJ zb));have geQ:=h.geQ;refine⟨?_,fun c' p' e=> ?_,fun c' p' k e z1 hn=> ?_,fun c' zb=> ?_,fun c' p' k e z1 hn=> ?_,?_,h.geo,fun c' zb=> ?_,fun c' p' k e z1 hn=> ?_,fun j hj=> ?_,?_,fun j hj=> ?_⟩
 ·rw[wM,hk o lo zh (by rw[h.to];simp)];exact h.out
 ·rcases ze c' p' e with⟨rfl,rfl⟩|⟨zc,e'⟩
  ·rw[zf]
   congr 2
   refine xT fun k=> ?_;by_cases hkT:k<T
   ·rw[Sa _ _ hkT];by_cases hki:k=i
    ·subst hki;rw[zO (by rw[Oq];exact hkT),za];simp[D4]
    ·rw[zE (fun e=>hki e.symm),Sa _ _ hkT,z6 k hki];simp[hki]
   ·rw[xA (by rw[wM,Oq];omega),xA (by rw[Oq];omega)]
  ·have z7:=(zB.1 e').1;rw[hk _ (lQ c' z7) (fun e=>by have h1:=h.tQ c zd;have h2:=h.tQ c' z7;rw[e,h1]at h2;simp at h2;omega) (by rw[h.tQ c' z7];simp),h.row c' p' e'];simp[zc]
 ·rcases ze c' p' e with⟨rfl,rfl⟩|⟨zc,e'⟩
  ·by_cases hki:k=i
   ·subst hki;rw[za,if_pos ⟨rfl,rfl⟩];exact z8
   ·rw[z6 k hki]at hn ⊢;rw[if_neg (fun a=>hki a.2),hk _ (Qf (h.leaf _ _ k hc z1 hn)) (fun e=>by have h1:=h.tQ c' zd;have h2:=h.tL c' p k hc z1 hn;rw[e,h1]at h2;simp at h2) (by rw[h.tL c' p k hc z1 hn];simp;omega)];exact h.leaf _ _ k hc z1 hn
  ·have z7:=(zB.1 e').1;rw[if_neg (fun a=>zc a.1),hk _ (Qf (h.leaf _ _ k e' z1 hn)) (fun e=>by have h1:=h.tQ c zd;have h2:=h.tL c' p' k e' z1 hn;rw[e,h1]at h2;simp at h2) (by rw[h.tL c' p' k e' z1 hn];simp;omega)];exact h.leaf _ _ k e' z1 hn
 ·rw[wM]at zb;have:=lQ c' zb;rw[if_neg (by omega)];exact h.tQ c' zb
 ·rcases ze c' p' e with⟨rfl,rfl⟩|⟨zc,e'⟩
  ·by_cases hki:k=i
   ·subst hki;simp only[and_self,if_true]
   ·rw[z6 k hki]at hn;have:=Qf (h.leaf _ _ k hc z1 hn);simp only[hki,and_false,if_false];rw[if_neg (by omega)];exact h.tL _ _ k hc z1 hn
  ·have:=Qf (h.leaf _ _ k e' z1 hn);simp only[zc,false_and,if_false];rw[if_neg (by omega)];exact h.tL _ _ k e' z1 hn
 ·rw[if_neg (by omega)];exact h.to
 ·rw[wM]at zb;exact h.geQ c' zb
 ·rcases ze c' p' e with⟨rfl,rfl⟩|⟨zc,e'⟩
  ·by_cases hki:k=i
   ·subst hki;have:=h.len;rw[if_pos ⟨rfl,rfl⟩];omega
   ·rw[z6 k hki]at hn;rw[if_neg (fun a=>hki a.2)];exact h.geL _ _ k hc z1 hn
  ·rw[if_neg (fun a=>zc a.1)];exact h.geL _ _ k e' z1 hn
 ·have h1:=h.len;have h2:=geQ c zd;rw[hk j (by omega) (by omega) (by rw[h.tK j hj];simp)];exact h.keep j hj
 ·have:=Qf z8;have:=h.len;omega
 ·have:=h.len;rw[if_neg (by omega)];exact h.tK j hj
theorem Rows.new (h:Rows K T o st Q L tag H) {q o':Nat} (hq:H.length≤q) (ho:H.length≤o') (zd:q≠o')
  (zc:H'[q]? =some (.va 171 1 (yF T .nils))) (za:H'[o']? =some (.va 76 1 (Xk Q T st.length++[.agg [.sl q 1 0 T]])))
  (hk:∀j,j<H.length→j≠o→H'[j]? =H[j]?):
  Rows K T o' (st++[yF T []]) (fun c=>if c=st.length then q else Q c) L (fun j=>if j=q then(st.length+1,0)else if j=o' then(0,0)else tag j) H':=by
 have zb:∀c' p',(st++[yF T []])[c']? =some p'→(c'=st.length∧p'=yF T [])∨(c'<st.length∧st[c']? =some p'):=fun c' p' e=>by
  by_cases z1:c'<st.length
  ·rw[zF z1]at e;exact .inr ⟨z1,e⟩
  ·rw[zK (by omega)]at e;have h0:c' - st.length=0:=by have:=(zB.1 e).1;simpa using this
   rw[h0]at e;exact .inl ⟨by omega,(Option.some.inj e).symm⟩
 have z6:∀k,(yF T ([]:List Iv)).getD k []=[]:=fun k=>by by_cases hk:k<T<;>simp[yS,hk]
 have lQ:∀c',c'<st.length→Q c'<H.length:=fun c' z7=>Qf (h.row c' _ (zJ z7));have lo:=Qf h.out;have hlen:=h.len;have ze:∀c',c'<st.length→Q c'≠o:=fun c' z7 e=>by have h1:=h.to;have h2:=h.tQ c' z7;rw[←e,h2]at h1;simp at h1
 refine⟨?_,fun c' p' e=> ?_,fun c' p' k e z8 hn=> ?_,fun c' z7=> ?_,fun c' p' k e z8 hn=> ?_,?_,by omega,fun c' z7=> ?_,fun c' p' k e z8 hn=> ?_,fun j hj=> ?_,by have:=Qf za;omega,fun j hj=> ?_⟩
 ·rw[za]
  congr 2
  rw[z_,vM,Xk,Xk,wH,yZ]
  congr 1
  ·exact xL fun c hc=>by rw[if_neg (by have:=yV.1 hc;omega)]
  ·simp
 ·rcases zb c' p' e with⟨rfl,rfl⟩|⟨hc,e'⟩
  ·rw[if_pos rfl,zc]
   congr 2
   refine xT fun k=> ?_;by_cases hkT:k<T
   ·rw[Sa _ _ hkT,z6];simp[D4,hkT]
   ·rw[xA (by simp;omega),xA (by rw[Oq];omega)]
  ·rw[if_neg (by omega),hk _ (lQ c' hc) (ze c' hc)];exact h.row _ _ e'
 ·rcases zb c' p' e with⟨rfl,rfl⟩|⟨hc,e'⟩
  ·exact absurd (z6 k) hn
  ·have hl:=h.leaf _ _ k e' z8 hn;rw[hk _ (Qf hl) (fun e=>by have h1:=h.to;have h2:=h.tL _ _ k e' z8 hn;rw[e,h1]at h2;simp at h2)];exact hl
 ·rw[z_,vM]at z7;by_cases z1:c'=st.length
  ·rw[if_pos z1,if_pos rfl,z1]
  ·have:=lQ c' (by omega);rw[if_neg z1,if_neg (by omega),if_neg (by omega)];exact h.tQ c' (by omega)
 ·rcases zb c' p' e with⟨rfl,rfl⟩|⟨hc,e'⟩
  ·exact absurd (z6 k) hn
  ·have:=Qf (h.leaf _ _ k e' z8 hn);rw[if_neg (by omega),if_neg (by omega)];exact h.tL _ _ k e' z8 hn
 ·rw[if_neg (fun e=>zd e.symm),if_pos rfl]
 ·rw[z_,vM]at z7;by_cases z1:c'=st.length
  ·rw[if_pos z1];omega
  ·rw[if_neg z1];exact h.geQ c' (by omega)
 ·rcases zb c' p' e with⟨rfl,rfl⟩|⟨hc,e'⟩
  ·exact absurd (z6 k) hn
  ·exact h.geL _ _ k e' z8 hn
 ·have zf:=h.geo;rw[hk j (by omega) (by omega)];exact h.keep j hj
 ·rw[if_neg (by omega),if_neg (by omega)];exact h.tK j hj
theorem Rows.start0(T o:Nat)(H:List AObj)(ho:H[o]? =some (.va 76 1 []))(tag:Nat→Nat×Nat)(ht:tag o=(0,0)):Rows [] T o [] (fun _=>0) (fun _ _=>0) tag H:=by refine⟨by simpa[Xk]using ho,fun c p hc=>by simp at hc,fun c p k hc=>by simp at hc,fun c hc=>by simp at hc,fun c p k hc=>by simp at hc,ht,by simp,fun c hc=>by simp at hc,fun c p k hc=>by simp at hc,fun i hi=>by simp at hi,by simp,fun i hi=>by simp at hi⟩
end
end Go.Abs
namespace Go.Abs
open Go Go.Proofs
def ascS(s:List Iv):Prop:=(∀x∈s,x.lo≤x.hi)∧s.Pairwise (fun x y=>x.hi<y.lo)
theorem ascS.take{s:List Iv}(h:ascS s)(k:Nat):ascS (s.take k):=⟨fun x hx=>h.1 x (x_ hx),h.2.take⟩
theorem B3{s ini:List Iv}{y x:Iv}{m:Nat}(h:ascS s)(hm:m<s.length)(hx:s[m]=x)(e:Q0 [] (s.take m)=ini++[y]):y.hi<x.lo:=by
 have h1:=Ov (h.take m);have hy:y∈Q0 [] (s.take m):=by rw[e];simp
 have z7:y.lo≤y.hi:=h1.1.1 y hy;obtain⟨z,hz,z1,z2⟩:=(h1.2 y.hi).1 ⟨y,hy,z7,xO _⟩;obtain⟨i,hi,z6⟩:=xB hz;rw[ww]at hi;rw[List.getElem_take]at z6;have:=yQ.1 h.2 i m (by omega) hm (by omega);rw[z6,hx]at this;omega
theorem k1a{ini:List Iv}{y x:Iv}(h1:y.hi<x.lo)(h2:x.lo≤x.hi):W2 (ini++[y]) x=if y.hi+1=x.lo then ini++[⟨y.lo,x.hi⟩]else ini++[y]++[x]:=by
 rw[Eb];by_cases e:y.hi+1=x.lo
 ·rw[if_pos e,if_pos (by omega),if_pos (by omega)]
 ·rw[if_neg e,if_neg (by omega)]
theorem d1o{L:List Prd}{p:Prd}{s:List Iv}(hp:p∈L)(hs:s∈p)(h:256<s.length):S3 L=true:=by simp only[S3,vQ,wS];exact .inr ⟨p,hp,s,hs,by simpa using h⟩
theorem j1x{L:List Prd}(hl:L.length≤256)(h:∀p∈L,∀s∈p,s.length≤256):S3 L=false:=by
 rw[wT];intro hb;simp only[S3,vQ,wS,decide_eq_true_eq]at hb;rcases hb with hb|⟨p,hp,s,hs,hb⟩
 ·omega
 ·have:=h p hp s hs;omega
def Bj(L:Nat→Nat)(T:Nat)(p:Prd)(k:Nat):List AV:=(yL T).map fun i=>if i<k then encL (Q0 [] (p.getD i []))else D4 (L i) (p.getD i [])
theorem q1z(L:Nat→Nat)(T:Nat)(p:Prd)(k:Nat):(Bj L T p k).length=T:=by simp[Bj]
theorem u0n(L:Nat→Nat)(T:Nat)(p:Prd):Bj L T p 0=v0s L T p:=xL fun i _=>by simp
theorem q1e(L:Nat→Nat){T k:Nat}(p:Prd)(h:k<T):(Bj L T p k)[k]? =some (D4 (L k) (p.getD k [])):=by simp[Bj,h]
theorem q17(L:Nat→Nat){T k:Nat}(p:Prd)(h:k<T):(Bj L T p k).set k (encL (Q0 [] (p.getD k [])))=Bj L T p (k+1):=by
 refine wD (by simp[Bj]) fun j h1 h2=> ?_;have hj:j<T:=by simpa[Bj]using h2
 rw[tB];by_cases e:k=j
 ·subst e;simp[Bj]
 ·rw[if_neg e];simp only[Bj,u9,up];by_cases h3:j<k
  ·rw[if_pos h3,if_pos (by omega)]
  ·rw[if_neg h3,if_neg (by omega)]
theorem Bn{p:Prd}{T:Nat}(h:p.length=T)(f:List Iv→AV):(yL T).map (fun i=>f (p.getD i []))=p.map f:=by
 subst h;refine wD (by simp) fun j h1 h2=> ?_;have hj:j<p.length:=by simpa using h1
 simp[hj]
theorem z18(L:Nat→Nat){T:Nat}{p:Prd}(h:p.length=T):Bj L T p T=(Rc p).map encL:=by
 have:Bj L T p T=(yL T).map (fun i=>(fun s=>encL (Q0 [] s)) (p.getD i [])):=xL fun i hi=>by rw[if_pos (yV.1 hi)]
 rw[this,Bn h (fun s=>encL (Q0 [] s)),Rc,vB];rfl
theorem u00(l:List (List Iv)):(l.map encL).all (fun x=>x.cells.all AV.pure)=true:=by rw[zX];intro x hx;obtain⟨s,_,rfl⟩:=zT.1 hx;simp[AV.cells,AV.pure]
def Xz(Q:Nat→Nat)(T:Nat)(st:List Prd)(c:Nat):List AV:=(yL st.length).map fun j=>if j<c then encP (Rc (st.getD j []))else .agg [.sl (Q j) 1 0 T]
theorem y1i(Q:Nat→Nat)(T:Nat)(st:List Prd)(c:Nat):(Xz Q T st c).length=st.length:=by simp[Xz]
theorem f0i(Q:Nat→Nat)(T:Nat)(st:List Prd):Xz Q T st 0=Xk Q T st.length:=xL fun i _=>by simp
theorem w1i(Q:Nat→Nat)(T:Nat){st:List Prd}{c:Nat}(h:c<st.length):(Xz Q T st c)[c]? =some (.agg [.sl (Q c) 1 0 T]):=by simp[Xz,h]
theorem k1n{Q:Nat→Nat}{T:Nat}{st:List Prd}{c:Nat}(h:c<st.length)(z6:∀j,j<st.length→j≠c→Q j≠Q c)(hT:st[c].length=T):
  (Xz Q T st c).map (AV.fz (Q c) 1 ((Rc st[c]).map encL))=Xz Q T st (c+1):=by
 refine wD (by simp[Xz]) fun j h1 h2=> ?_;have hj:j<st.length:=by simpa[Xz]using h2
 have z1:(Rc st[c]).length=T:=by simp[Rc,hT]
 simp only[Xz,u9,up];by_cases h3:j<c
 ·rw[if_pos h3,if_pos (by omega)];simp[Jq,d08]
 ·rw[if_neg h3];by_cases e:j=c
  ·subst e;rw[if_pos (by omega),Jq];have:st.getD j []=st[j]:=by simp[yS,hj]
   rw[this];simp only[xE,wL,AV.fz,encP];rw[if_pos (by simp[z1]),List.drop_zero,zY (by simp[z1])]
  ·rw[if_neg (by omega),Jq];simp only[xE,wL,AV.fz];rw[if_neg (fun a=>z6 j hj e a.1)]
theorem y18(Q:Nat→Nat)(T:Nat)(st:List Prd):Xz Q T st st.length=(st.map Rc).map encP:=by
 refine wD (by simp[Xz]) fun j h1 h2=> ?_;have hj:j<st.length:=by simpa[Xz]using h1
 simp[Xz,hj]
theorem d0j(l:List Prd):(l.map encP).all (fun x=>x.cells.all AV.pure)=true:=by rw[zX];intro x hx;obtain⟨s,_,rfl⟩:=zT.1 hx;simp[AV.cells,AV.pure]
theorem u1r{l:List AV}{i:Nat}{x:AV}(h:l[i]? =some x):i<l.length:=(zB.1 h).1
theorem N6{P:Program}[Env P]{nt k:Nat}{cd:Code}{Q:Exit→AS→Prop}{sl:List (Nat×AV)}{H:List AObj}(F:List AObj→Prop)(h1:(∀H1,F H1→AWP P nt k cd Q ⟨sl,H1⟩)→AWP P nt k cd Q ⟨sl,H⟩)(h2:∀H1,F H1→AWP P nt k cd Q ⟨sl,H1⟩):AWP P nt k cd Q ⟨sl,H⟩:=h1 h2
attribute [local irreducible] W2 Q0 Es v0s Bj Xk Xz
theorem u15(T o:Nat)(st:List Prd)(Q:Nat→Nat)(L:Nat→Nat→Nat)(tag:Nat→Nat×Nat)(H:List AObj)(h:Rows [] T o st Q L tag H)(hT:T≤16)(hw:∀p∈st,p.length=T∧∀s∈p,ascS s∧s.length≤10000000∧∀x∈s,Sb x):
  FC Tryz.prog 170 [.sl o 1 0 st.length] H (fun r _=>(r= .tup [.nils,.i 5]∧S3 (st.map Rc)=true)∨(r= .tup [LP (st.map Rc),.i 0]∧S3 (st.map Rc)=false)):=by
 refine Wy tOk Tryz.func170 rfl Tryz.results170 rfl (by simp[Tryz.ntmps170]) ?_;rw[Tryz.ntmps170];simp only[Qg];repeat first|(refine r_ ?_;simp)|refine q_ ?_
 refine Qb rfl (fun zc=> ?_) (fun yb=> ?_)
 ·have hb:256<st.length:=by simp at zc;omega
  repeat first|(refine r_ ?_;simp)|refine q_ ?_
  simp[S3];omega
 have hn:st.length≤256:=by simp at yb;omega
 repeat first|(refine r_ ?_;simp)|refine q_ ?_
 have yq:=Qf h.out;have tagne:∀c c',c<st.length→c'<st.length→c≠c'→Q c≠Q c':=fun c c' h1 h2 za e=>by have a:=h.tQ c h1;have b:=h.tQ c' h2;rw[e,b]at a;simp at a;omega
 have y3:∀c,c<st.length→Q c≠o:=fun c hc e=>by have h1:=h.to;have h2:=h.tQ c hc;rw[←e,h2]at h1;simp at h1
 refine Qo (Qc (sl':=[(0,.sl o 1 0 st.length),(15,.sl o 1 0 st.length),(16,.i st.length),(17,.i (0:Nat))]) ?_ (by simp));refine Qn (F:=fun(u:Nat×List AObj)=>⟨[(0,.sl o 1 0 st.length),(15,.sl o 1 0 st.length),(16,.i st.length),(17,.i u.1)],u.2⟩)
  (fun u=>u.1≤st.length∧H.length≤u.2.length∧u.2[o]? =some (.va 76 1 (Xz Q T st u.1))∧(∀j,j<H.length→j≠o→(∀c,c<u.1→j≠Q c)→u.2[j]? =H[j]?)∧∀p∈(st.map Rc).take u.1,∀s∈p,s.length≤256) (fun u=>st.length - u.1) ?_ (0,H) ⟨by simp,by simp,by rw[f0i];exact h.out,fun _ _ _ _=>rfl,by simp⟩
 rintro⟨c,G⟩ ⟨hc,hG,go,gk,gs⟩ ih;simp only at hc hG go gk gs ih ⊢;repeat first|(refine r_ ?_;simp)|refine q_ ?_
 refine Qb rfl (fun yc=> ?_) (fun yd=> ?_)
 ·have z1:c<st.length:=by simpa using yc
  have ye:IntKind.i64.wrap ((c:Int)+1)=c+1:=wrap_i64 _ (by omega) (by omega);have zn:=w1i Q T z1;have yf:=y1i Q T st c;have hp:=hw _ (zL z1);have yg:=k1n z1 (fun j hj za=>tagne j c hj z1 za) hp.1;have yh:=(gk (Q c) (Qf (h.row c _ (zJ z1))) (y3 c z1) (fun c' zj=>tagne c c' z1 (by omega) (by omega))).trans (h.row c _ (zJ z1));have hle:∀k,k<T→st[c].getD k []≠[]→G[L c k]? =some (.arr 187 2 ((st[c].getD k []).map encIv))∧L c k≠Q c∧L c k≠o∧L c k<H.length:=fun k hk za=>by
   have hl:=h.leaf c _ k (zJ z1) hk za;have ht:=h.tL c _ k (zJ z1) hk za;have h1:L c k≠o:=fun e=>by have:=h.to;rw[←e,ht]at this;simp at this
   have h2:∀c',c'<st.length→L c k≠Q c':=fun c' zj e=>by have:=h.tQ c' zj;rw[←e,ht]at this;simp at this
   exact⟨(gk _ (Qf hl) h1 (fun c' zj=>h2 c' (by omega))).trans hl,h2 c z1,h1,Qf hl⟩
  have yr:=Qf (h.row c _ (zJ z1));have zk:=y3 c z1;have yi:(st.map Rc).take (c+1)=(st.map Rc).take c++[Rc st[c]]:=by rw[zV (by simpa using z1)];simp
  have yj:Rc st[c]∈st.map Rc:=zT.2 ⟨_,zL z1,rfl⟩;generalize yt:st[c]=p at *;generalize Xz Q T st c=od at *
  have zo:∀hh,od[c]'hh= .agg [.sl (Q c) 1 0 T]:=fun hh=>by rw[zJ hh]at zn;exact Option.some.inj zn
  repeat first|(refine r_ ?_;simp[go,zn,zo,yf,z1])|refine q_ ?_
  have yu:0<G.length:=by omega
  refine Qo (Qc (sl':=[(0,.sl o 1 0 st.length),(5,.vptr G.length 0),(15,.sl o 1 0 st.length),(16,.i st.length),(17,.i c),(22,.sl (Q c) 1 0 T),(23,.i T),(24,.i (0:Nat))]) ?_ (by simp));refine Qn (F:=fun(u:Nat×List AObj)=>⟨[(0,.sl o 1 0 st.length),(5,.vptr G.length 0),(15,.sl o 1 0 st.length),(16,.i st.length),(17,.i c),(22,.sl (Q c) 1 0 T),(23,.i T),(24,.i u.1)],u.2⟩)
   (fun u=>u.1≤T∧G.length+1≤u.2.length∧u.2[Q c]? =some (.va 171 1 (Bj (L c) T p u.1))∧(∀j,j<G.length→j≠Q c→u.2[j]? =G[j]?)∧u.2[G.length]? =some (.vars [.sl (Q c) 1 0 T])∧∀s∈(Rc p).take u.1,s.length≤256) (fun u=>T - u.1) ?_ (0,_) ⟨by simp,by simp,by rw[u0n];exact Qa yh _,fun j hj _=>zF hj,by simp,by simp⟩
  rintro⟨k,E⟩ ⟨hk,hE,eq,ek,e5,es⟩ ih2;simp only at hk hE eq ek e5 es ih2 ⊢;repeat first|(refine r_ ?_;simp)|refine q_ ?_
  refine Qb rfl (fun zp=> ?_) (fun zq=> ?_)
  ·have z6:k<T:=by simpa using zp
   have yk:IntKind.i64.wrap ((k:Int)+1)=k+1:=wrap_i64 _ (by omega) (by omega);have zd:=q1e (L c) p z6;have y4:=q1z (L c) T p k;have zr:=q17 (L c) p z6;have zl:k<p.length:=by rw[hp.1];exact z6
   have y5:p.getD k []=p[k]:=Wx zl;have y6:(Rc p).take (k+1)=(Rc p).take k++[Q0 [] p[k]]:=by rw[zV (by simpa[Rc]using zl)];simp[Rc]
   have yl:Q0 [] p[k]∈Rc p:=zT.2 ⟨_,zL zl,rfl⟩;have ze:=hp.2 _ (zL zl);have y7:=hle k z6;have zf:=fun E'=>ih2 (k+1,E');rw[y5]at zd y7 zr;simp only[←zr,y6]at zf;clear zr y6 y5;generalize Bj (L c) T p k=rd at *;generalize p[k]=s at *
   have yv:E[Q c]? =some (.va 171 1 rd):=eq;refine N6 (fun E1=>∃z,E1[Q c]? =some (.va 171 1 (rd.set k (.sl z 2 0 s.length)))∧E1[z]? =some (.arr 187 2 (s.map encIv))∧(∀j,j<G.length+1→j≠Q c→E1[j]? =E[j]?)∧E.length≤E1.length∧z≠Q c) (fun hm=> ?_) ?_
   ·by_cases hs0:s=[]
    ·subst hs0;simp only[D4,if_true]at zd;refine A3 (Q c) k 187 2 eq zd ?_;have hl:=Qf eq;refine hm _ ⟨E.length,Qh (Qa eq _) _,?_,fun j hj za=> ?_,by simp,by omega⟩
     ·rw[zE (by omega)];simp
     ·rw[zE (Ne.symm za),zF (by omega)]
    ·simp only[D4,if_neg hs0]at zd;obtain⟨k1,k2,k3,k4⟩:=y7 hs0;have zt:rd.set k (.sl (L c k) 2 0 s.length)=rd:=by
      refine xT fun j=> ?_;by_cases e:k=j
      ·subst e;rw[zd,zO (u1r zd)]
      ·rw[zE e]
     refine hm E ⟨L c k,by rw[zt];exact eq,?_,fun _ _ _=>rfl,zR _,k2⟩;rw[ek _ (by omega) k2];exact k1
   ·rintro E1 ⟨z,f1,f2,f3,f4,f5⟩;have ym:∀hh,(rd.set k (.sl z 2 0 s.length))[k]'hh= .sl z 2 0 s.length:=fun hh=>by simp
    have f6:=f3 G.length (by omega) (by omega);rw[e5]at f6;have yw:=ze.2.1;repeat first|(refine r_ ?_;simp[f1,ym,y4,z6])|refine q_ ?_
    refine Wt 8 187 2 rfl ?_;simp;have yn:=SL.start E1 187 2;refine Qo (Qc (sl':=[(0,.sl o 1 0 st.length),(5,.vptr G.length 0),(6,.i k),(8,.sl E1.length 2 0 (Q0 [] (s.take 0)).length),(15,.sl o 1 0 st.length),(16,.i st.length),(17,.i c),(22,.sl (Q c) 1 0 T),(23,.i T),(24,.i k),(29,.sl z 2 0 s.length),(30,.i s.length),(31,.i (0:Nat))]) ?_ (by simp[Q0]));refine Qn (F:=fun(u:Nat×Nat×List AObj)=>⟨[(0,.sl o 1 0 st.length),(5,.vptr G.length 0),(6,.i k),(8,.sl u.2.1 2 0 (Q0 [] (s.take u.1)).length),(15,.sl o 1 0 st.length),(16,.i st.length),(17,.i c),(22,.sl (Q c) 1 0 T),(23,.i T),(24,.i k),(29,.sl z 2 0 s.length),(30,.i s.length),(31,.i u.1)],u.2.2⟩)
     (fun u=>u.1≤s.length∧SL E1 u.2.2 u.2.1 187 2 ((Q0 [] (s.take u.1)).map encIv)) (fun u=>s.length - u.1) ?_ (0,E1.length,_) ⟨by simp,by rw[wd,Q0,uo];exact yn⟩
    rintro⟨j,p2,W⟩ ⟨hj,g⟩ ih3;simp only at hj g ih3 ⊢;repeat first|(refine r_ ?_;simp)|refine q_ ?_
    refine Qb rfl (fun zu=> ?_) (fun zv=> ?_)
    ·have z7:j<s.length:=by simpa using zu
     have zw:IntKind.i64.wrap ((j:Int)+1)=j+1:=wrap_i64 _ (by omega) (by omega);have y8:Q0 [] (s.take (j+1))=W2 (Q0 [] (s.take j)) s[j]:=by rw[zV z7,Po]
     have zx:(Q0 [] (s.take j)).length≤j:=yO (Tc _ _) (by simp;omega);have zy:∀y∈Q0 [] (s.take j),Sb y:=Aa _ _ (by simp) (fun y hy=>ze.2.2 y (x_ hy));have zb:=fun ini y=>B3 (ini:=ini) (y:=y) (x:=s[j]) ze.1 z7 rfl;have yo:=ze.1.1 _ (zL z7);have yx:=(Em _).1 (ze.2.2 _ (zL z7)).2;have gz:=(g.keep z (Qf f2)).trans f2;have z8:=fun p' G'=>ih3 (j+1,p',G');simp only[y8]at z8;clear y8;generalize Q0 [] (s.take j)=acc at *
     repeat first|(refine r_ ?_;simp[gz,z7])|refine q_ ?_
     generalize s[j]=x at *
     rcases wO acc with rfl|⟨ini,y,rfl⟩
     ·refine Qs tOk mixed [] (.val 0 (.val 1 (.val 2 (.val 3 (.val 4 (.val 5 (.val 6 (.val 7 (.val 8 (.val 9 (.val 10 (.val 11 (.val 12 (.val 13 (.done))))))))))))))) rfl (by kernel_rfl) ?_;simp[(by decide:IntKind.i64.wrap (-1)= -1)];refine Qj rfl ?_;simp;repeat first|(refine r_ ?_;simp)|refine q_ ?_
      refine Qi tOk rfl rfl H4 rfl Bk rfl (by decide) (by decide) rfl rfl rfl ?_;simp[Qa g.arr,Ql g.arr];refine⟨by simp[W8,Qa g.arr,Ql g.arr]<;>omega,?_⟩;repeat first|(refine r_ ?_;simp[zw])|refine q_ ?_
      refine Qc (sl':=[(0,.sl o 1 0 st.length),(5,.vptr G.length 0),(6,.i k),(8,.sl (W.length+2) 2 0 1),(15,.sl o 1 0 st.length),(16,.i st.length),(17,.i c),(22,.sl (Q c) 1 0 T),(23,.i T),(24,.i k),(29,.sl z 2 0 s.length),(30,.i s.length),(31,.i (j+1:Nat))]) ?_ (by simp);have:=z8 (W.length+2) _ ⟨by omega,by rw[W2];exact g.put [AObj.vars [AV.i x.lo,AV.i x.hi],AObj.arr 187 2 [encIv x]] _ rfl⟩ (by omega);rw[W2]at this;simpa using this
     ·have yy:=(Em _).1 (zy y (by simp)).2;have y9:IntKind.i64.wrap (y.hi+1)=y.hi+1:=wrap_i64 _ (by omega) (by omega);have gA:=g.arr;rw[wP]at g gA z8 zx zb ⊢;have hlen:(ini++[y]).length=ini.length+1:=by simp
      rw[hlen]at zx ⊢;have ya:IntKind.i64.wrap (ini.length:Int)=ini.length:=wrap_i64 _ (by omega) (by omega);have hg:((ini++[y]).map encIv)[ini.length]? =some (encIv y):=by simp
      have zg:(ini.length:Int)<ini.length+1:=by omega
      have zm:=k1a (ini:=ini) (zb ini y rfl) yo;refine Qs tOk mixed [] (.val 0 (.val 1 (.val 2 (.val 3 (.val 4 (.val 5 (.val 6 (.val 7 (.val 8 (.val 9 (.val 10 (.val 11 (.val 12 (.val 13 (.done))))))))))))))) rfl (by kernel_rfl) ?_;simp[Qa gA,ya,hg,y9,zg];refine Qb rfl (fun h1=> ?_) (fun h1=> ?_)
      ·repeat first|(refine r_ ?_;simp[Qa gA,ya,hg,y9,zg,Ql gA,zw])|refine q_ ?_
       have zz:y.hi+1=x.lo:=by simpa using h1
       rw[if_pos zz]at zm;rw[zm]at z8;refine Qc (sl':=[(0,.sl o 1 0 st.length),(5,.vptr G.length 0),(6,.i k),(8,.sl p2 2 0 (ini.length+1)),(15,.sl o 1 0 st.length),(16,.i st.length),(17,.i c),(22,.sl (Q c) 1 0 T),(23,.i T),(24,.i k),(29,.sl z 2 0 s.length),(30,.i s.length),(31,.i (j+1:Nat))]) ?_ (by simp);have:=z8 p2 _ ⟨by omega,g.upd [AObj.vars [AV.i x.lo,AV.i x.hi]] _⟩ (by omega);simpa using this
      ·repeat first|(refine r_ ?_;simp)|refine q_ ?_
       refine Qi tOk rfl rfl H4 rfl Bk rfl (by decide) (by decide) rfl rfl rfl ?_;simp[Qa gA,Ql gA];refine⟨by simp[W8,Qa gA,Ql gA]<;>omega,?_⟩;repeat first|(refine r_ ?_;simp[zw])|refine q_ ?_
       have zz:¬y.hi+1=x.lo:=by simpa using h1
       rw[if_neg zz]at zm;rw[zm]at z8;refine Qc (sl':=[(0,.sl o 1 0 st.length),(5,.vptr G.length 0),(6,.i k),(8,.sl (W.length+2) 2 0 (ini.length+2)),(15,.sl o 1 0 st.length),(16,.i st.length),(17,.i c),(22,.sl (Q c) 1 0 T),(23,.i T),(24,.i k),(29,.sl z 2 0 s.length),(30,.i s.length),(31,.i (j+1:Nat))]) ?_ (by simp);have:=z8 (W.length+2) _ ⟨by omega,g.put [AObj.vars [AV.i x.lo,AV.i x.hi],AObj.arr 187 2 [encIv x]] _ rfl⟩ (by omega);simpa using this
    ·have zh:j=s.length:=by simp at zv;omega
     subst zh;rw[y_]at g ⊢;have zx:(Q0 [] s).length≤s.length:=yO (Tc _ _) (by simp);repeat first|(refine r_ ?_;simp)|refine q_ ?_
     refine Ws p2 g.arr ?_;simp;rw[zY (by simp)];have yz:=(Qf g.arr)
     have x0:=g.ge;have w1:∀j,j<E1.length→(W.set p2 .dead)[j]? =E1[j]? :=fun j hj=>by rw[zE (by omega)];exact g.keep j hj
     have w2:(W.set p2 .dead).length=W.length:=by simp
     generalize W.set p2 .dead=V at *;refine Qb rfl (fun zc=> ?_) (fun y0=> ?_)
     ·repeat first|(refine r_ ?_;simp)|refine q_ ?_
      exact d1o yj yl (by simp at zc;omega)
     ·have v1:=(w1 _ (Qf f1)).trans f1;have v2:=(w1 _ (Qf f6)).trans f6;have v0:∀j,j<G.length+1→j≠Q c→V[j]? =E[j]? :=fun j hj za=>(w1 j (by omega)).trans (f3 j hj za);repeat first|(refine r_ ?_;simp[v1,v2,y4,z6,yk])|refine q_ ?_
      refine Qc (sl':=[(0,.sl o 1 0 st.length),(5,.vptr G.length 0),(15,.sl o 1 0 st.length),(16,.i st.length),(17,.i c),(22,.sl (Q c) 1 0 T),(23,.i T),(24,.i (k+1:Nat))]) ?_ (by simp);refine zf _ ⟨by omega,by simp;omega,Qh v1 _,fun j hj za=> ?_,?_,fun t ht=> ?_⟩ (by omega)
      ·rw[zE (Ne.symm za),v0 j (by omega) za];exact ek j hj za
      ·rw[zE (by omega)];exact v2
      ·rcases zU.1 ht with ht|ht
       ·exact es t ht
       ·rw[zP.1 ht];simp at y0;omega
  ·have zi:k=T:=by simp at zq;omega
   subst zi;rw[z18 (L c) hp.1]at eq;have x1:(Rc p).length=k:=by simp[Rc,hp.1]
   have eo:=(ek o (Qf go) (Ne.symm zk)).trans go;refine I3 (Q c) eq (u00 _) ?_;refine Uq (Q c) (Qh eq _) (o0:= .va 76 1 od) o (Qd zk eo _) (Ne.symm zk) rfl ?_;have y1:¬o=Q c:=Ne.symm zk;simp[AObj.fz,yg,y1];repeat first|(refine r_ ?_;simp[ye])|refine q_ ?_
   refine Qc (sl':=[(0,.sl o 1 0 st.length),(15,.sl o 1 0 st.length),(16,.i st.length),(17,.i (c+1:Nat))]) ?_ (by simp);have yp:=Qf eo;refine ih (c+1,_) ⟨by omega,by simp;omega,zO (by simpa using yp),fun j hj h1 h2=> ?_,fun P hP=> ?_⟩ (by omega)
   ·have h3:=h2 c (by omega);rw[zE (Ne.symm h1),zE (Ne.symm h3),ek j (by omega) h3];exact gk j hj h1 (fun c' zj=>h2 c' (by omega))
   ·rw[yi]at hP;rcases zU.1 hP with hP|hP
    ·exact gs P hP
    ·rw[zP.1 hP];rw[zY (by omega)]at es;exact es
 ·have y2:c=st.length:=by simp at yd;omega
  subst y2;rw[y18]at go;rw[zY (by simp)]at gs;refine I3 o go (d0j _) ?_;refine Ws o (Qh go _) ?_;simp;rw[zY (by simp)];repeat first|(refine r_ ?_;simp)|refine q_ ?_
  exact j1x (by simpa using hn) gs
end Go.Abs
namespace Go.Abs
open Go Go.Proofs Go.Maps
attribute [simp] v1m T92
def stM(l:List Int):AObj:= .mp (l.map fun z=>(.i z,.bool true))
theorem Ys:Keyed Tryz.prog 3:=int_keyed (q:= .i64) (by kernel_rfl)
theorem x19{z:Int}(h:0≤z∧z≤1000000):(Lit.int .i64 z).wf=true:=by
 have h1:IntKind.i64.min= -9223372036854775808:=by decide
 have h2:IntKind.i64.max=9223372036854775807:=by decide
 simp only[Lit.wf,h1,h2,Bool.and_eq_true,decide_eq_true_eq];omega
theorem Eu{z:Int}(h:0≤z∧z≤1000000):isKey Tryz.prog 3 (.i z):=
 ⟨.int .i64 z,.int .i64 z,rfl,keyOf_int_mk (q:= .i64) (by kernel_rfl) (x19 h)⟩
section
variable {nt k:Nat} {S:AS} {ops:Array Oper} {o:Oper} {R:AS→Prop}
theorem Hk {wr:Bool} (hw:Q1 ops S o=some true) (hd:Ww nt o=true) {x ix:Operand} (ho:o.op= .lookup 165 x ix false) {id:Nat} (hx:rho S.sl x=some (.mref id)) {z:Int} (z1:rho S.sl ix=some (.i z))
  {l:List Int} (z6:S.hp[id]? =some (stM l)) (hl:∀m∈l,0≤m∧m≤1000000) (hn:0≤z∧z≤1000000) (hR:R (S.putD o.dst (.bool (decide (z∈l))))):Wl Tryz.prog nt k wr ops o S R:=by
 refine Dj tOk hw hd ho v1m rfl T4 Ys hx z1 z6 (Eu hn) (fun p hp=> ?_) (z:= .bool false) rfl (fun j p hp he=> ?_) (fun z7=> ?_)
 ·obtain⟨m,hm,rfl⟩:=zT.1 hp;exact Eu (hl m hm)
 ·rw[zW]at hp;obtain⟨m,hm,rfl⟩:=zQ.1 hp;have z8:m=z:=by simpa using he
  rw[decide_eq_true (by rw[←z8];exact zH hm)]at hR;exact hR
 ·rw[decide_eq_false (fun h=>z7 (.i z,.bool true) (zT.2 ⟨z,h,rfl⟩) rfl)]at hR;exact hR
theorem J2 (hw:Q1 ops S o=some true) (hd:Ww nt o=true) {x ix y:Operand} (ho:o.op= .mapUpdate 165 x ix y) {id:Nat} (hx:rho S.sl x=some (.mref id)) {z:Int} (z1:rho S.sl ix=some (.i z)) (hy:rho S.sl y=some (.bool true))
  {l:List Int} (z6:S.hp[id]? =some (stM l)) (hl:∀m∈l,0≤m∧m≤1000000) (hn:0≤z∧z≤1000000) (z7:z∉l) (hR:R (({ S with hp:=S.hp.set id (stM (l++[z])) }:AS).putD o.dst (.tup []))):Wl Tryz.prog nt k true ops o S R:=by
 refine Rs tOk hw hd ho v1m rfl Ys hx z1 hy (by simp[AV.pure]) z6 (Eu hn) (fun p hp=> ?_) (fun j p hp he=> ?_) (fun za=> ?_)
 ·obtain⟨m,hm,rfl⟩:=zT.1 hp;exact Eu (hl m hm)
 ·rw[zW]at hp;obtain⟨m,hm,rfl⟩:=zQ.1 hp;have z8:m=z:=by simpa using he
  exact absurd (by rw[←z8];exact zH hm) z7
 ·have:l.map (fun z=>(AV.i z,AV.bool true))++[(.i z,.bool true)]=(l++[z]).map fun z=>(.i z,.bool true):=by simp
  rw[this];exact hR
theorem Ku (hw:Q1 ops S o=some true) (hd:Ww nt o=true) {x ix y:Operand} (ho:o.op= .insert 165 x ix y) {id:Nat} (hx:rho S.sl x=some (.mref id)) {z:Int} (z1:rho S.sl ix=some (.i z)) (hy:rho S.sl y=some (.bool true))
  (z6:S.hp[id]? =some (.mp [])) (hn:0≤z∧z≤1000000) (hR:R (({ S with hp:=S.hp.set id (stM [z]) }:AS).putD o.dst (.tup []))):Wl Tryz.prog nt k true ops o S R:=by
 refine Dp tOk hw hd ho v1m rfl Ys hx z1 hy (by simp[AV.pure]) z6 (Eu hn) (fun p hp=>by cases hp) (fun j p hp he=>by cases hp) (fun z7=> ?_);exact hR
end
end Go.Abs
namespace Go.Abs
open Go Go.Proofs Go.Maps
theorem X8:Keyed Tryz.prog 9:=string_keyed (by kernel_rfl)
theorem S8(s:List UInt8)(h:s.length≤1000000):isKey Tryz.prog 9 (.str s):=
 ⟨.string ⟨s.toArray⟩,.string s,rfl,by
  have:=Go.WideMaps.keyOf_string_mk (P:=Tryz.prog) (k:=9) (s:=⟨s.toArray⟩) (by kernel_rfl) (by show s.toArray.size≤maxLen;unfold maxLen;simp;omega);exact this⟩
def mpT(ks:List (List UInt8)):AObj:= .mp (ks.mapIdx fun c k=>(.str k,.i c))
section
variable {nt k:Nat} {S:AS} {ops:Array Oper} {o:Oper} {R:AS→Prop}
theorem j0t{ks:List (List UInt8)}(hl:∀m∈ks,m.length≤1000000):∀p∈ks.mapIdx (fun c k=>(AV.str k,AV.i (c:Nat))),isKey Tryz.prog 9 p.1:=fun p hp=>by obtain⟨i,h,rfl⟩:=tD.1 hp;exact S8 _ (hl _ (zL h))
theorem Gt {wr:Bool} (hw:Q1 ops S o=some true) (hd:Ww nt o=true) {x ix:Operand} (ho:o.op= .lookup 92 x ix true) {id:Nat} (hx:rho S.sl x=some (.mref id)) {n:List UInt8} (z1:rho S.sl ix=some (.str n))
  {ks:List (List UInt8)} (z6:S.hp[id]? =some (mpT ks)) (hl:∀m∈ks,m.length≤1000000) (hn:n.length≤1000000) (z7:∀j:Nat,ks[j]? =some n→R (S.putD o.dst (.tup [.i j,.bool true]))) (z8:n∉ks→R (S.putD o.dst (.tup [.i 0,.bool false]))):Wl Tryz.prog nt k wr ops o S R:=by
 refine Yx tOk hw hd ho T92 rfl T3 X8 hx z1 z6 (S8 n hn) (j0t hl) (z:= .i 0) rfl (fun j p hp he=> ?_) (fun za=> ?_)
 ·rw[vC]at hp;obtain⟨m,hm,rfl⟩:=zQ.1 hp;have zb:m=n:=by simpa using he
  rw[zb]at hm;exact z7 j hm
 ·refine z8 fun h=> ?_;obtain⟨i,hi,rfl⟩:=xB h;exact za _ (tD.2 ⟨i,hi,rfl⟩) rfl
theorem Jy (hw:Q1 ops S o=some true) (hd:Ww nt o=true) {x ix y:Operand} (ho:o.op= .mapUpdate 92 x ix y) {id:Nat} (hx:rho S.sl x=some (.mref id)) {n:List UInt8} (z1:rho S.sl ix=some (.str n))
  {ks:List (List UInt8)} (hy:rho S.sl y=some (.i ks.length)) (z6:S.hp[id]? =some (mpT ks)) (hl:∀m∈ks,m.length≤1000000) (hn:n.length≤1000000) (z7:n∉ks) (hR:R (({ S with hp:=S.hp.set id (mpT (ks++[n])) }:AS).putD o.dst (.tup []))):Wl Tryz.prog nt k true ops o S R:=by
 refine Rs tOk hw hd ho T92 rfl X8 hx z1 hy (by simp[AV.pure]) z6 (S8 n hn) (j0t hl) (fun j p hp he=> ?_) (fun za=> ?_)
 ·rw[vC]at hp;obtain⟨m,hm,rfl⟩:=zQ.1 hp;have z8:m=n:=by simpa using he
  exact absurd (by rw[←z8];exact zH hm) z7
 ·have:ks.mapIdx (fun c k=>(AV.str k,AV.i (c:Nat)))++[(.str n,.i ks.length)]=(ks++[n]).mapIdx (fun c k=>(AV.str k,AV.i (c:Nat))):=by simp
  rw[this];exact hR
end
theorem Fb:∀cs:List Int,(T7 cs).length=cs.length - 1
 |[]=>rfl
 |[_]=>rfl
 |a::b::r=>by rw[T7,yW,Fb (b::r)];simp
theorem Ml:∀(cs:List Int) (k:Nat) (h:k+1<cs.length),(T7 cs)[k]? =some ⟨cs[k],cs[k+1] - 1⟩
 |[],k,h=>by simp at h
 |[_],k,h=>by simp at h
 |a::b::r,0,h=>rfl
 |a::b::r,k+1,h=>by
  have h':k+1<(b::r).length:=by simp at h ⊢;omega
  rw[T7,uQ,Ml (b::r) k h'];rfl
theorem Cr{T i:Nat}{sg:List Bool}{x:Iv}:∀ {st:List (List Bool×Prd)} {j:Nat} {p:Prd},(st.map (·.1)).Nodup→st[j]? =some (sg,p)→Yj T i sg x st=st.set j (sg,Uy p i x)
 |[],j,p,_,h=>by simp at h
 |(s,q)::r,0,p,hn,h=>by simp at h;obtain⟨rfl,rfl⟩:=h;rw[Yj,if_pos rfl];rfl
 |(s,q)::r,j+1,p,hn,h=>by rw[xE,List.nodup_cons]at hn;rw[uQ]at h;rw[Yj,if_neg (fun e=>hn.1 (by subst e;exact zT.2 ⟨_,zH h,rfl⟩)),Cr hn.2 h];rfl
structure GB (T N n:Nat) (st:List (List Bool×Prd)):Prop where
 nd:(st.map (·.1)).Nodup
 le:st.length≤n
 len:∀g∈st,g.2.length=T
 sz:∀g∈st,∀s∈g.2,s.length≤n
 kl:∀g∈st,g.1.length=N
theorem f0z{T n:Nat}{p:Prd}(hp:p.length=T)(h:∀s∈p,s.length≤n)(i:Nat)(x:Iv):(Uy p i x).length=T∧∀s∈Uy p i x,s.length≤n+1:=by
 refine⟨by simp[Uy,hp],fun s hs=> ?_⟩;rcases List.mem_or_eq_of_mem_set hs with hs|rfl
 ·have:=h s hs;omega
 ·rw[z_];by_cases hi:i<p.length
  ·rw[Wx hi];have:=h _ (zL hi);simp;omega
  ·simp[yS,hi]
theorem GB.put{T N n:Nat}{st:List (List Bool×Prd)}(h:GB T N n st){sg:List Bool}(hs:sg.length=N)(i:Nat)(x:Iv):GB T N (n+1) (Yj T i sg x st):=by
 by_cases hm:∃g∈st,g.1=sg
 ·obtain⟨a,p,b,h1,h2,h3⟩:=S7 (T:=T) (i:=i) (x:=x) hm;rw[h3];subst h1;have hp:=f0z (h.len (sg,p) (by simp)) (h.sz (sg,p) (by simp)) i x;have z1:∀g∈a++(sg,Uy p i x)::b,g=(sg,Uy p i x)∨g∈a++(sg,p)::b:=fun g hg=>by
   rcases zU.1 hg with hg|hg
   ·exact .inr (yY _ hg)
   ·rcases List.mem_cons.1 hg with rfl|hg
    ·exact .inl rfl
    ·exact .inr (List.mem_append_right _ (List.mem_cons_of_mem _ hg))
  refine⟨by simpa using h.nd,by have:=h.le;simp at this ⊢;omega,fun g hg=> ?_,fun g hg s z6=> ?_,fun g hg=> ?_⟩
  ·rcases z1 g hg with rfl|hg
   ·exact hp.1
   ·exact h.len g hg
  ·rcases z1 g hg with rfl|hg
   ·exact hp.2 s z6
   ·have:=h.sz g hg s z6;omega
  ·rcases z1 g hg with rfl|hg
   ·exact hs
   ·exact h.kl g hg
 ·have z7:∀g∈st,g.1≠sg:=fun g hg e=>hm ⟨g,hg,e⟩;rw[Ot z7];have hp:=f0z (T:=T) (p:=yF T []) (n:=n) (by simp) (fun s z6=>by rw[(ur.1 z6).2];simp) i x;have z1:∀g∈st++[(sg,Uy (yF T []) i x)],g=(sg,Uy (yF T []) i x)∨g∈st:=fun g hg=>by
   rcases zU.1 hg with hg|hg
   ·exact .inr hg
   ·exact .inl (zP.1 hg)
  refine⟨?_,by have:=h.le;simp;omega,fun g hg=> ?_,fun g hg s z6=> ?_,fun g hg=> ?_⟩
  ·rw[yZ,List.nodup_append];refine⟨h.nd,by simp,fun a ha b hb e=> ?_⟩;obtain⟨g,hg,rfl⟩:=zT.1 ha;simp at hb;exact z7 g hg (e.trans hb)
  ·rcases z1 g hg with rfl|hg
   ·exact hp.1
   ·exact h.len g hg
  ·rcases z1 g hg with rfl|hg
   ·exact hp.2 s z6
   ·have:=h.sz g hg s z6;omega
  ·rcases z1 g hg with rfl|hg
   ·exact hs
   ·exact h.kl g hg
end Go.Abs
/-
 DERIVED:THE SHELF's CONTRACTS AT THIS DUMP,IN PLAIN WORDS (tools/lay-plain.mjs out of 'TryzShelf.lean',which tools/lay-shelf.mjs wrote):THE SAME DECLARATIONS UNDER THE SAME NAMES:'import','namespace','open','def','theorem' AND NOTHING ELSE:no command of the shelf's:FOR A HAND-IN. Each laying:the table of numbers ('.._ren') and one theorem,a field a fact of the dump's own or the kernel's comparison;each contract:ONE APPLICATION.
-/
namespace Go.Proofs
open Go.Shelf
def Tryz.laysM176_ren:Go.Shelf.Ren:=⟨fun|176=>178|249=>200|288=>218|283=>240|284=>241|285=>242|286=>243|129=>217|317=>251|318=>252|319=>253|320=>254|337=>257|338=>258|n=>n,fun|37=>234|2=>2|3=>3|53=>250|4=>4|9=>9|171=>288|0=>0|173=>290|212=>300|51=>247|5=>5|20=>20|213=>301|46=>213|232=>304|233=>305|n=>n,fun|17=>0|18=>1|19=>2|n=>n⟩
theorem Tryz.laysM176:Go.Proofs.LaysM.n176 Tryz.prog Tryz.laysM176_ren:={
 mixed:=by kernel_rfl
 f129:=Tryz.func217.trans (congrArg some (by kernel_rfl))
 f176:=Tryz.func178.trans (congrArg some (by kernel_rfl))
 f249:=Tryz.func200.trans (congrArg some (by kernel_rfl))
 f283:=Tryz.func240.trans (congrArg some (by kernel_rfl))
 f284:=Tryz.func241.trans (congrArg some (by kernel_rfl))
 f285:=Tryz.func242.trans (congrArg some (by kernel_rfl))
 f286:=Tryz.func243.trans (congrArg some (by kernel_rfl))
 f288:=Tryz.func218.trans (congrArg some (by kernel_rfl))
 f317:=Tryz.func251.trans (congrArg some (by kernel_rfl))
 f318:=Tryz.func252.trans (congrArg some (by kernel_rfl))
 f319:=Tryz.func253.trans (congrArg some (by kernel_rfl))
 f320:=Tryz.func254.trans (congrArg some (by kernel_rfl))
 f337:=Tryz.func257.trans (congrArg some (by kernel_rfl))
 f338:=Tryz.func258.trans (congrArg some (by kernel_rfl))
 t0:=Tryz.underlying0
 a0:=Tryz.isAgg0
 z0:=Tryz.sizeOf0
 v0:=Tryz.zeroValue0
 t2:=Tryz.underlying2
 a2:=Tryz.isAgg2
 z2:=Tryz.sizeOf2
 v2:=Tryz.zeroValue2
 t3:=Tryz.underlying3
 a3:=Tryz.isAgg3
 z3:=Tryz.sizeOf3
 v3:=Tryz.zeroValue3
 t4:=Tryz.underlying4
 a4:=Tryz.isAgg4
 z4:=Tryz.sizeOf4
 v4:=Tryz.zeroValue4
 t5:=Tryz.underlying5
 a5:=Tryz.isAgg5
 z5:=Tryz.sizeOf5
 v5:=Tryz.zeroValue5
 t9:=Tryz.underlying9
 a9:=Tryz.isAgg9
 z9:=Tryz.sizeOf9
 v9:=Tryz.zeroValue9
 t20:=Tryz.underlying20
 a20:=Tryz.isAgg20
 z20:=Tryz.sizeOf20
 v20:=Tryz.zeroValue20
 t37:=Tryz.underlying234
 a37:=Tryz.isAgg234
 z37:=Tryz.sizeOf234
 v37:=Tryz.zeroValue234
 t46:=Tryz.underlying213
 a46:=Tryz.isAgg213
 z46:=Tryz.sizeOf213
 v46:=Tryz.zeroValue213
 t51:=Tryz.underlying247
 a51:=Tryz.isAgg247
 z51:=Tryz.sizeOf247
 v51:=Tryz.zeroValue247
 t53:=Tryz.underlying250
 a53:=Tryz.isAgg250
 z53:=Tryz.sizeOf250
 v53:=Tryz.zeroValue250
 t171:=Tryz.underlying288
 a171:=Tryz.isAgg288
 z171:=Tryz.sizeOf288
 v171:=Tryz.zeroValue288
 t173:=Tryz.underlying290
 a173:=Tryz.isAgg290
 z173:=Tryz.sizeOf290
 v173:=Tryz.zeroValue290
 t212:=Tryz.underlying300
 a212:=Tryz.isAgg300
 z212:=Tryz.sizeOf300
 v212:=Tryz.zeroValue300
 t213:=Tryz.underlying301
 a213:=Tryz.isAgg301
 z213:=Tryz.sizeOf301
 t232:=Tryz.underlying304
 a232:=Tryz.isAgg304
 z232:=Tryz.sizeOf304
 v232:=Tryz.zeroValue304
 t233:=Tryz.underlying305
 a233:=Tryz.isAgg305
 z233:=Tryz.sizeOf305
 v233:=Tryz.zeroValue305
 g17:=by kernel_rfl
 g18:=by kernel_rfl
 g19:=by kernel_rfl
 i0:=by kernel_rfl
 i2:=by kernel_rfl
 i3:=by kernel_rfl
 i4:=by kernel_rfl
 i5:=by kernel_rfl
 i9:=by kernel_rfl
 i20:=by kernel_rfl
 i37:=by kernel_rfl
 i46:=by kernel_rfl
 i51:=by kernel_rfl
 i53:=by kernel_rfl
 i171:=by kernel_rfl
 i173:=by kernel_rfl
 i212:=by kernel_rfl
 i232:=by kernel_rfl
 i233:=by kernel_rfl
 m17:=by kernel_rfl
 m18:=by kernel_rfl
 m19:=by kernel_rfl }
open Go.RowKit Go.Sort Go.Lib in
theorem Tryz.strconv_AppendInt_10 (B n:Nat) (i:Int) (h0: -9223372036854775808≤i) (h1:i≤9223372036854775807) (sv:Value) (xs:List Value) (w:World) (z1:w.ownsRow B 5 1 sv n xs) (z8:B≤w.heap.size) (z6:n+21≤140737488355328) (z7:Lib.TabBelow Tryz.prog B w "internal/strconv.uint64pow10" .u64 Lib.pow10Tab):
  Calls Tryz.prog 178 #[sv,.int .i64 i,.int .i64 10] w fun e w'=>∃v',e= .returned v'∧w'.ownsRow B 5 1 v' (n+(Lib.itoa i).length) (xs++Lib.byteCells (Lib.itoa i))∧Below B w w'∧Lib.OthersKept 5 none w w':=Any.strconv_AppendInt_10 Tryz.laysM176 B n i h0 h1 sv xs w z1 z8 z6 z7
end Go.Proofs
namespace Go.Proofs
open Go.Shelf Go.RowKit
def Rv(zs:List Int):List UInt8:=zs.flatMap fun z=>32::Lib.itoa z
theorem k0f(zs:List Int){k:Nat}(h:k<zs.length):Rv (zs.take (k+1))=Rv (zs.take k)++32::Lib.itoa (zs.getD k 0):=by
 have:zs.getD k 0=zs[k]:=by simp[yS,h]
 rw[zV h,this,Rv,wA];simp[Rv]
theorem q0b{zs:List Int}(hz:∀z∈zs,-9223372036854775808≤z∧z≤9223372036854775807):(Rv zs).length≤zs.length * 22:=by
 induction zs with
 |nil=>simp[Rv]
 |cons z r ih=>
  have h1:=Lib.itoa_length_le z (hz z (by simp)).1 (hz z (by simp)).2;have h2:=ih (fun y hy=>hz y (by simp[hy]));have e:Rv (z::r)=32::(Lib.itoa z++Rv r):=by simp[Rv]
  rw[e,yW,z_,yW];omega
theorem k0r:(Tryz.prog.info? 5).map (fun i=>(i.zero,i.size,i.bytes))=some (some (.int .u8 0),1,1):=by kernel_rfl
theorem q1y (ad:Addr) (cap:Nat) (zs:List Int) (w:World) (hb:ad.block<w.heap.size) (hz:∀z∈zs,-9223372036854775808≤z∧z≤9223372036854775807) (hl:zs.length≤1000) (zl:0<zs.length)
  (hc:∀j,j<zs.length→w.cell? (ad.add j)=some (.int .i64 (zs.getD j 0))) (zf:Lib.TabIs Tryz.prog w "internal/strconv.uint64pow10" .u64 Lib.pow10Tab):
  Calls Tryz.prog 123 #[.slice (some ad) zs.length cap] w fun e w'=>e= .returned (.string ⟨(Rv zs).toArray⟩)∧Below w.heap.size w w':=by
 obtain⟨i0,hi,zm,zn,zo⟩:=info_parts k0r;have hT:=Lib.tabBelow_of_tabIs zf;have zg:∀k,(Rv (zs.take k)).length≤22000:=fun k=>by
  have:=q0b (zs:=zs.take k) (fun z zp=>hz z (x_ zp));rw[ww]at this;have:min k zs.length≤1000:=by omega
  omega
 go_enter Tryz.func123,Tryz.ntmps123
 go_wp2
 go_loopw [3,8] (fun v i wr=>∃k:Nat,k≤zs.length∧i= .int .i64 k∧wr.ownsRow w.heap.size 5 1 v (Rv (zs.take k)).length (Lib.byteCells (Rv (zs.take k)))∧Below w.heap.size w wr)
  (fun _ i _=>zs.length - (intOf i).toNat)
 case atStart=>exact⟨0,xY _,rfl,World.ownsRow_nil _ _ _ _,Below.refl _ _⟩
 case round=>
  obtain⟨k,hk,rfl,z1,zb⟩:=hrel;have zq:k<zs.length→wr.cell? (ad.add k)=some (.int .i64 (zs.getD k 0)):=fun h=>(zb.cell (by unfold Addr.add;split<;>exact hb)).trans (hc k h)
  go_wp2_with (first
   |(at_builtin;refine wpList_append_own _ rfl _ _ 234 rfl w.heap.size 5 i0 (.int .u8 0) 1 1 Tryz.underlying234 hi zm zn zo rfl (by decide) _ _ _ rfl (z1.alloc _) ⟨wr.heap.size,0,none⟩ 1 1 [.int .u8 32] rfl rfl ?c1 ?c2 ?c3 ?c4 ?c5 ?_)
   |go_in)
  case c1=>
   intro j u hj
   match j,hj with
   |0,hj=>simp at hj;subst hj;simp[Addr.add]
  case c2=>intro u hu;simp at hu;subst hu;rfl
  case c3=>have:=zg k;unfold maxLen;omega
  case c4=>have:=zg k;omega
  case c5=>have:=zb.size;simp;omega
  ·intro v' w1 z8 za _;have zc:k<zs.length:=by assumption
   have z7:Below w.heap.size w w1:=(zb.alloc (by have:=zb.size;omega) _).grown za (by have:=zb.size;simp;omega) (fun k hk=>(z1.lt k hk).1);have zk:=hz _ (zL zc);have zr:zs.getD k 0=zs[k]:=by simp[yS,zc]
   have ze:=k0f zs zc;rw[zr]at ze
   go_wp2_with (go_at_call 178;refine(Tryz.strconv_AppendInt_10 w.heap.size _ zs[k] zk.1 zk.2 v' _ w1 z8 (by have:=z7.size;omega) (by have:=zg k;omega) (hT.on z7)).mono ?_;rintro e w3 ⟨v3,rfl,z6,zh,-⟩;refine Hid.out ?_)
   have zd:w3.ownsRow w.heap.size 5 1 v3 (Rv (zs.take (k+1))).length (Lib.byteCells (Rv (zs.take (k+1)))):=by
    have e1:Lib.byteCells (Rv (zs.take k))++[Value.int .u8 32]++Lib.byteCells (Lib.itoa zs[k])=Lib.byteCells (Rv (zs.take (k+1))):=by rw[ze];simp[Lib.byteCells]
    have e2:(Rv (zs.take k)).length+1+(Lib.itoa zs[k]).length=(Rv (zs.take (k+1))).length:=by rw[ze];simp;omega
    rw[e1,e2]at z6;exact z6
   have zi:=z7.trans zh;clear z6 z8 za z1 zb z7 zq ze;refine Lib.hid ?_
   go_wp2
   go_roundw
   case rel=>exact⟨k+1,by omega,by simp,zd,zi⟩
   case measure=>simp[intOf];omega
  ·have zw:¬k<zs.length:=by assumption
   have zt:k=zs.length:=by omega
   subst zt;rw[y_]at z1;have zj:0<(Rv zs).length:=by
    obtain⟨z,r,rfl⟩:∃z r,zs=z::r:=by cases zs with
     |nil=>simp at zl
     |cons z r=>exact⟨z,r,rfl⟩
    simp[Rv]
   obtain⟨l,zc⟩:∃l,l=Rv zs:=⟨_,rfl⟩
   rw[←zc]at z1 zj;have HL:=Lib.hid zc;clear zc;rcases z1.2 with⟨-,h0⟩|⟨g,cap2,cur,rfl,-,-,-,-,-,-⟩
   ·omega
   ·have zu:=run_convert_bytes_back (P:=Tryz.prog) wr 234 9 5 ⟨g,0,none⟩ cap2 l Tryz.underlying234 Tryz.underlying5 Tryz.underlying9 (fun j hj=>z1.cells (g:=g) rfl j _ (by simp[Lib.byteCells,hj]));rw[zu]
    go_wp2
    go_ret
    have zv:=HL.out;subst zv;exact⟨rfl,zb⟩
end Go.Proofs
namespace Go.Abs
open Go Go.Proofs Go.RowKit
theorem u1u(zs:List Int)(hz:∀z∈zs,-9223372036854775808≤z∧z≤9223372036854775807)(hl:zs.length≤1000)(z7:zs≠[]):PC Tryz.prog 123 [.list (zs.map .i)] (fun r=>r= .str (Rv zs)):=by
 refine⟨Tw Tryz.func123 rfl rfl,fun w I vals hE hI hl' hv=> ?_⟩;rcases vals with⟨vals⟩
 match vals,hl' with
 |[v],_=>
  have z8:=hv 0 v _ rfl rfl;obtain⟨a,cap,c,u,rfl,hcap,hmax,hc,ha,hu⟩:=z8.list_inv;have z1:0<zs.length:=List.length_pos_iff.2 z7;have za:c=1:=by have:=hc (.i zs[0]) (zT.2 ⟨_,zL z1,rfl⟩);simpa[AV.cells]using this.symm
  subst za;obtain⟨ad,rfl,zb,hcell⟩:=ha (by simpa using z1);have zc:∀j,j<zs.length→w.cell? (ad.add j)=some (.int .i64 (zs.getD j 0)):=fun j hj=>by have h1:=hcell j 0 (by simpa using hj) (by omega);have h2:=hu j (.i zs[j]) (by simp[hj]) 0 (.i zs[j]) rfl;have h3:=h2.val (u:= .int .i64 zs[j]) rfl;rw[Nat.mul_one,Nat.add_zero,h3]at h1;rw[h1];simp[yS,hj]
  have:=q1y ad cap zs w (hI _ (zb (by omega))) hz hl z1 zc (g0g hE);rw[yK];refine this.mono ?_;rintro e w' ⟨rfl,hb⟩;exact⟨_,I,_,rfl,rfl,hb,fun _ h=>h,fun b z6=>⟨Nat.lt_of_lt_of_le (hI b z6) hb.size,.inl z6⟩,.str _⟩
end Go.Abs
namespace Go.Proofs
open Go.Shelf Go.RowKit
def j16(l:List UInt8):Nat:=l.foldl (fun v c=>v * 10+(c.toNat - 48)) 0
theorem u0k(l:List UInt8)(c:UInt8):j16 (l++[c])=j16 l * 10+(c.toNat - 48):=by simp[j16,wp]
theorem Gd{k:Nat}(h:k<10):(UInt8.ofNat (48+k)).toNat=48+k:=by rw[UInt8.toNat_ofNat'];omega
theorem Fg(u:Nat):j16 (Lib.decDigits u)=u∧∀c∈Lib.decDigits u,c≠32:=by
 induction u using Nat.strongRecOn with
 |_ u ih=>
  rw[Lib.decDigits];by_cases h:u<10
  ·rw[dif_pos h];refine⟨?_,fun c hc e=> ?_⟩
   ·have:=Gd h;simp only[j16,List.foldl_cons,uo,this];omega
   ·rw[zP.1 hc]at e;have:=Gd h;rw[e]at this;simp at this;omega
  ·rw[dif_neg h];obtain⟨h1,h2⟩:=ih (u / 10) (by omega);have hd:=Gd (Nat.mod_lt u (by decide:0<10));refine⟨?_,fun c hc e=> ?_⟩
   ·rw[u0k,h1,hd];omega
   ·rcases zU.1 hc with hc|hc
    ·exact h2 c hc e
    ·rw[zP.1 hc]at e;rw[e]at hd;simp at hd;omega
theorem c0b{z:Int}(h:0≤z):Lib.itoa z=Lib.decDigits z.toNat:=by unfold Lib.itoa;rw[if_neg (by omega)]
theorem x1k:∀ {a b r s:List UInt8},(∀c∈a,c≠32)→(∀c∈b,c≠32)→(r=[]∨∃t,r=32::t)→(s=[]∨∃t,s=32::t)→a++r=b++s→a=b∧r=s
 |[],[],r,s,_,_,_,_,h=>⟨rfl,h⟩
 |[],y::b,r,s,_,hb,hr,_,h=>by
  rcases hr with rfl|⟨t,rfl⟩
  ·simp at h
  ·simp at h;exact absurd h.1.symm (hb y (by simp))
 |x::a,[],r,s,ha,_,_,hs,h=>by
  rcases hs with rfl|⟨t,rfl⟩
  ·simp at h
  ·simp at h;exact absurd h.1 (ha x (by simp))
 |x::a,y::b,r,s,ha,hb,hr,hs,h=>by simp only[uG,List.cons.injEq]at h;obtain⟨h1,h2⟩:=x1k (fun c hc=>ha c (by simp[hc])) (fun c hc=>hb c (by simp[hc])) hr hs h.2;exact⟨by rw[h.1,h1],h2⟩
theorem V9(zs:List Int):Rv zs=[]∨∃t,Rv zs=32::t:=by
 cases zs with
 |nil=>exact .inl rfl
 |cons z r=>exact .inr ⟨Lib.itoa z++Rv r,by simp[Rv]⟩
theorem Ll:∀ {a b:List Int},(∀z∈a,0≤z)→(∀z∈b,0≤z)→Rv a=Rv b→a=b
 |[],[],_,_,_=>rfl
 |[],y::b,_,_,h=>by simp[Rv]at h
 |x::a,[],_,_,h=>by simp[Rv]at h
 |x::a,y::b,ha,hb,h=>by
  have e1:∀(z:Int) (r:List Int),Rv (z::r)=32::(Lib.itoa z++Rv r):=fun z r=>by simp[Rv]
  rw[e1,e1,List.cons.injEq]at h;have hx:=ha x (by simp);have hy:=hb y (by simp);rw[c0b hx,c0b hy]at h;obtain⟨h1,h2⟩:=x1k (Fg _).2 (Fg _).2 (V9 a) (V9 b) h.2;have h3:=congrArg j16 h1;rw[(Fg _).1,(Fg _).1]at h3;have h4:=Ll (fun z hz=>ha z (by simp[hz])) (fun z hz=>hb z (by simp[hz])) h2;rw[h4,show x=y by omega]
end Go.Proofs
namespace Go.Abs
open Go Go.Proofs Go.Maps
theorem k1w(a:Aut)(s:Int):PC Tryz.prog 110 [encA a,.i s] (fun r=>r= .fn (.func 167) [] [.iptr (Q7 a),.iptr [.i s]]):=by refine Qk tOk Tryz.func110 rfl Tryz.results110 rfl (by simp[Tryz.ntmps110]) ?_;rw[Tryz.ntmps110];simp only[Qg];simp only[encA];repeat first|(refine r_ ?_;simp)|refine q_ ?_
theorem c0n(T:Int)(hT:1≤T∧T≤16):Ey T (Wu T.toNat)=0:=
 (W5 T _).2 ⟨hT,by simp[Wu],fun s hs=>by
  have:s=Ez []:=(ur.1 hs).2;rw[this,show Ez []=[(⟨-1099511627776,1099511627776⟩:Iv)] from rfl];exact⟨by simp,fun x hx=>by simp at hx;subst hx;decide,fun j h=>by simp at h⟩⟩
theorem Ki(T:Int)(hT:1≤T∧T≤16)(x:Sy):(Kj (Wu T.toNat) x).2=Sq T x:=by
 rw[Zs (c0n T hT)];by_cases h:Sq T x=0
 ·rw[if_neg (fun k=>k h),h]
 ·rw[if_pos h]
structure Nx (a:Aut) (R:List Int) (x:Sy) (dn:Int→Prop) (nx:List Int):Prop where
 sub:∀z∈nx,z∈Wa a R x
 all:∀i,dn i→∀m∈a.mv,m.src=i→E8 m.on x=true→m.dst∈nx
theorem y10(a:Aut)(l:List Int):O2 a l []=l:=rfl
theorem f0l(a:Aut)(l:List Int)(w:List Sy)(x:Sy):O2 a l (w++[x])=Wa a (O2 a l w) x:=by unfold O2;rw[wp];rfl
theorem q0y(a:Aut)(w:List Sy):Uk a w=true↔∃s∈O2 a [0] w,a.fin.getD s.toNat false=true:=by unfold Uk;exact Ad
theorem mem_erase{α:Type}{l:List α}{j:Nat}{p q:α}(h:l[j]? =some p)(hq:q∈l)(hn:q∉l.eraseIdx j):q=p:=by
 obtain⟨i,hi,rfl⟩:=xB hq;by_cases e:i=j
 ·subst e;rw[zJ hi]at h;exact Option.some.inj h
 ·exact absurd (List.mem_eraseIdx_iff_getElem?.2 ⟨i,e,zJ hi⟩) hn
theorem Hp{α β:Type}(f:α→β)(l:List α)(j:Nat):(l.map f).eraseIdx j=(l.eraseIdx j).map f:=by
 induction l generalizing j with
 |nil=>simp
 |cons x l ih=>cases j<;>simp[ih]
attribute [local irreducible] Kj Sq Uk Wu O2 Wa
theorem Km(a:Aut)(w:List Sy):PC Tryz.prog 45 [encA a,LSy w] (fun r=>r= .tup [.bool (Ke a w).1,.i (Ke a w).2]):=by
 refine Qk tOk Tryz.func45 rfl Tryz.results45 rfl (by simp[Tryz.ntmps45]) ?_;rw[Tryz.ntmps45];simp only[Qg];simp only[encA];repeat first|(refine r_ ?_;simp)|refine q_ ?_
 refine Qe rfl rfl (by simp) (Y4 a) rfl ?_;rintro _ rfl;simp;repeat first|(refine r_ ?_;simp)|refine q_ ?_
 refine Qb rfl (fun h=> ?_) (fun h=> ?_)
 ·repeat first|(refine r_ ?_;simp)|refine q_ ?_
  have hE:Xp a w=Wk a:=by rw[Xp,if_pos (by simpa using h)]
  rw[Ke,hE,if_pos (by simpa using h)];exact⟨rfl,rfl⟩
 have h0:Wk a=0:=by simpa using h
 have zc:=(U4 a).1 h0;repeat first|(refine r_ ?_;simp)|refine q_ ?_
 refine Qb rfl (fun h=> ?_) (fun h=> ?_)
 ·repeat first|(refine r_ ?_;simp)|refine q_ ?_
  have hE:Xp a w=5:=by rw[Xp,if_neg (fun k=>k h0),if_pos (by simp at h;omega)]
  rw[Ke,hE];exact⟨rfl,rfl⟩
 have hl:w.length≤4096:=by simp at h;omega
 have hE:Xp a w=Hz a.types w:=by rw[Xp,if_neg (fun k=>k h0),if_neg (by omega)]
 repeat first|(refine r_ ?_;simp)|refine q_ ?_
 refine Qe rfl rfl (by simp) (j0e a.types zc.types.1 zc.types.2) rfl ?_;rintro _ rfl;simp;repeat first|(refine r_ ?_;simp)|refine q_ ?_
 refine Qy w.length (fun j=>Hz a.types w=Hz a.types (w.drop j)) (fun j=>[(1,LSy w),(2,.vptr 0 0),(7,.vptr 1 0),(34,LSy w),(35,.i w.length),(36,.i j)]) (fun _=>[.vars (Q7 a),.vars [.list ((Wu a.types.toNat).map encL)]]) rfl (by simp) (by simp) (by simp) (by simp) (by simp) ?_;intro j hj hI ih;repeat first|(refine r_ ?_;simp)|refine q_ ?_
 refine Qb rfl (fun zv=> ?_) (fun zw=> ?_)
 ·have z1:j<w.length:=by simpa using zv
  have hw:IntKind.i64.wrap ((j:Int)+1)=j+1:=wrap_i64 _ (by omega) (by omega);rw[W7 z1,Hz]at hI;repeat first|(refine r_ ?_;simp[z1])|refine q_ ?_
  refine Qe rfl rfl (by simp) (Ro (Wu a.types.toNat) w[j]) rfl ?_;rintro _ rfl;simp[Ki a.types zc.types];repeat first|(refine r_ ?_;simp)|refine q_ ?_
  refine Qb rfl (fun h3=> ?_) (fun h3=> ?_)
  ·repeat first|(refine r_ ?_;simp)|refine q_ ?_
   rw[if_pos (by simpa using h3)]at hI;rw[Ke,hE,hI,if_pos (by simpa using h3)];exact⟨rfl,rfl⟩
  ·rw[if_neg (by simpa using h3)]at hI;repeat first|(refine r_ ?_;simp[hw])|refine q_ ?_
   refine Qz _ (ih z1 hI) rfl (by simp) ?_ (by simp) (by simp);simp
 ·have zg:j=w.length:=by simp at zw;omega
  subst zg;rw[xS]at hI;have hW:∀x∈w,Wv a x:=fun x hx=>(Yo _ _).1 ((Ax w).1 hI x hx);have hR:Ke a w=(Uk a w,0):=by rw[Ke,hE,hI];rfl
  rw[hR];repeat first|(refine r_ ?_;simp)|refine q_ ?_
  refine Ec rfl rfl rfl ?_;simp;refine Ku rfl rfl rfl rfl rfl rfl rfl (by decide) ?_;simp;repeat first|(refine r_ ?_;simp)|refine q_ ?_
  refine Qo (Qc (sl':=[(1,LSy w),(2,.vptr 0 0),(13,.mref 2),(52,LSy w),(53,.i w.length),(54,.i (0:Nat))]) ?_ (by simp));refine Qn (F:=fun(u:Nat×Nat×List Int×List AObj)=>⟨[(1,LSy w),(2,.vptr 0 0),(13,.mref u.2.1),(52,LSy w),(53,.i w.length),(54,.i u.1)],u.2.2.2⟩)
   (fun u=>u.1≤w.length∧u.2.2.2[0]? =some (.vars (Q7 a))∧u.2.2.2[u.2.1]? =some (stM u.2.2.1)∧∀z,z∈u.2.2.1↔z∈O2 a [0] (w.take u.1)) (fun u=>w.length - u.1) ?_ (0,2,[0],_) ⟨by simp,rfl,rfl,by simp[y10]⟩
  rintro⟨j,q,l,G⟩ ⟨hj,g0,gq,hl⟩ ih;simp only at hj g0 gq hl ih ⊢;repeat first|(refine r_ ?_;simp)|refine q_ ?_
  have y9:∀z∈l,0≤z∧z<a.fin.length:=fun z hz=>runIn _ _ (Zh zc.wfA) z ((hl z).1 hz);have yo:=zc.fin;refine Qb rfl (fun zv=> ?_) (fun zw=> ?_)
  ·have z1:j<w.length:=by simpa using zv
   have hw:IntKind.i64.wrap ((j:Int)+1)=j+1:=wrap_i64 _ (by omega) (by omega);have hx:=hW _ (zL z1);have zd:O2 a [0] (w.take (j+1))=Wa a (O2 a [0] (w.take j)) w[j]:=by rw[zV z1,f0l]
   have ya:=fun q' l' G'=>ih (j+1,q',l',G');simp only[zd]at ya;clear zd;generalize O2 a [0] (w.take j)=R at *
   repeat first|(refine r_ ?_;simp[z1])|refine q_ ?_
   generalize w[j]=x at *;refine Ec rfl rfl rfl ?_
   simp;repeat first|(refine r_ ?_;simp[g0,gq])|refine q_ ?_
   refine Pm tOk rfl rfl rfl v1m rfl rfl (Qa gq _) ?_;simp;repeat first|(refine r_ ?_;simp)|refine q_ ?_
   have yp:=Qf gq;have yj:=Qf g0;have zx:q≠0:=fun e=>by subst e;rw[g0]at gq;unfold stM at gq;simp at gq
   refine Wd fun E hE=> ?_;have e0:E[0]? =some (.vars (Q7 a)):=by rw[hE];exact Qa (Qd zx (Qa g0 _) _) _
   have ex:E[G.length]? =some (.vars [.i x.ty,.i x.num]):=by rw[hE];exact Qa (Qd (by omega) (by simp) _) _
   have em:E[G.length+1]? =some (stM []):=by rw[hE];exact Qa (Qd (by omega) (by simp[stM]) _) _
   have ec:E[G.length+2]? =some (.vars [.mref (G.length+1)]):=by rw[hE];exact Qa (Qd (by omega) (by simp) _) _
   have ei:E[G.length+3]? =some (.it (l.map fun z=>(.i z,.bool true)) none):=by rw[hE];rw[zK (by simp)];simp
   have zq:E.length=G.length+4:=by rw[hE];simp
   clear hE;refine Qo (Qc (sl':=[(1,LSy w),(2,.vptr 0 0),(15,.vptr G.length 0),(16,.vptr (G.length+2) 0),(52,LSy w),(53,.i w.length),(54,.i j),(60,.vptr (G.length+3) 0)]) ?_ (by simp));refine Qn (F:=fun(u:List Int×Option (AV×AV)×List Int×List AObj)=>⟨[(1,LSy w),(2,.vptr 0 0),(15,.vptr G.length 0),(16,.vptr (G.length+2) 0),(52,LSy w),(53,.i w.length),(54,.i j),(60,.vptr (G.length+3) 0)],u.2.2.2⟩)
    (fun u=>u.2.2.2[0]? =some (.vars (Q7 a))∧u.2.2.2[G.length]? =some (.vars [.i x.ty,.i x.num])∧u.2.2.2[G.length+1]? =some (stM u.2.2.1)∧u.2.2.2[G.length+2]? =some (.vars [.mref (G.length+1)])∧u.2.2.2[G.length+3]? =some (.it (u.1.map fun z=>(.i z,.bool true)) u.2.1)∧G.length+4≤u.2.2.2.length∧
     (∀z∈u.1,z∈l)∧Nx a R x (fun i=>i∈l∧i∉u.1) u.2.2.1) (fun u=>u.1.length) ?_ (l,none,[],E) ⟨e0,ex,em,ec,ei,by simp[zq],fun z hz=>hz,⟨fun z hz=>by simp at hz,fun i hi=>absurd hi.1 hi.2⟩⟩
   clear e0 ex em ec ei zq;clear E;rintro⟨left,cur,nx,E⟩ ⟨e0,ex,em,ec,ei,zq,z6,zd⟩ ih2;simp only at e0 ex em ec ei zq z6 zd ih2 ⊢;repeat first|(refine r_ ?_;simp)|refine q_ ?_
   refine Db rfl rfl rfl rfl ei (fun zy=> ?_) (fun i p hp=> ?_)
   ·simp;have zr:left=[]:=by simpa using zy
    subst zr;repeat first|(refine r_ ?_;simp)|refine q_ ?_
    refine Qj rfl ?_;simp;repeat first|(refine r_ ?_;simp[ec,hw])|refine q_ ?_
    refine Qc (sl':=[(1,LSy w),(2,.vptr 0 0),(13,.mref (G.length+1)),(52,LSy w),(53,.i w.length),(54,.i (j+1:Nat))]) ?_ (by simp);refine ya (G.length+1) nx E ⟨by omega,e0,em,fun z=>⟨fun hz=>zd.sub z hz,fun hz=> ?_⟩⟩ (by omega);obtain⟨_,m,hm,h1,h2,h3⟩:=Ek.1 hz;rw[←h3];exact zd.all m.src ⟨(hl _).2 h1,by simp⟩ m hm rfl h2
   ·simp;rw[zW]at hp;obtain⟨s,hs,rfl⟩:=zQ.1 hp;rw[Hp];have zk:s∈l:=z6 s (zH hs);have zl:=y9 s zk;have z7:∀z∈left.eraseIdx i,z∈l:=fun z hz=>z6 z (uN hz);have zz:(left.eraseIdx i).length<left.length:=by rw[un,if_pos (Uj hs)];have:=Uj hs;omega
    have y0:∀z,z∈l∧z∉left.eraseIdx i→(z∈l∧z∉left)∨z=s:=fun z hz=>by
     by_cases zm:z∈left
     ·exact .inr (mem_erase hs zm hz.2)
     ·exact .inl ⟨hz.1,zm⟩
    generalize left.eraseIdx i=left' at *
    have k0:=Qd (j:=G.length+3) (by omega) e0 (.it (left'.map fun z=>(.i z,.bool true)) (some (.i s,.bool true)));have kx:=Qd (j:=G.length+3) (by omega) ex (.it (left'.map fun z=>(.i z,.bool true)) (some (.i s,.bool true)));have km:=Qd (j:=G.length+3) (by omega) em (.it (left'.map fun z=>(.i z,.bool true)) (some (.i s,.bool true)));have kc:=Qd (j:=G.length+3) (by omega) ec (.it (left'.map fun z=>(.i z,.bool true)) (some (.i s,.bool true)));have ki:=Qh ei (.it (left'.map fun z=>(.i z,.bool true)) (some (.i s,.bool true)));have kl:(E.set (G.length+3) (.it (left'.map fun z=>(.i z,.bool true)) (some (.i s,.bool true)))).length=E.length:=by simp
    generalize E.set (G.length+3) (.it (left'.map fun z=>(.i z,.bool true)) (some (.i s,.bool true)))=E1 at *
    repeat first|(refine r_ ?_;simp)|refine q_ ?_
    refine Qj rfl ?_;simp;repeat first|(refine r_ ?_;simp)|refine q_ ?_
    refine Pt rfl rfl rfl rfl ki ?_;simp;repeat first|(refine r_ ?_;simp[k0])|refine q_ ?_
    refine Qe rfl rfl (by simp) (k1w a s) rfl ?_;rintro _ rfl;simp;repeat first|(refine r_ ?_;simp)|refine q_ ?_
    have yb:∀z∈Wa a R x,0≤z∧z<a.fin.length:=Oc;refine Ed rfl (Rf:=fun _ H'=>∃zt,E1.length<H'.length∧(∃sl' yc a' b',H'[E1.length]? =some (.lp true none 96 sl' yc a' b'))∧H'[0]? =some (.vars (Q7 a))∧H'[G.length]? =some (.vars [.i x.ty,.i x.num])∧H'[G.length+1]? =some (stM zt)∧H'[G.length+2]? =some (.vars [.mref (G.length+1)])∧H'[G.length+3]? =some (.it (left'.map fun z=>(.i z,.bool true)) (some (.i s,.bool true)))∧
     Nx a R x (fun i=>i∈l∧i∉left') zt) ?_ ?_
    ·simp;refine Du fun H1 ze=> ?_;have f0:H1[0]? =some (.vars (Q7 a)):=by rw[ze];exact Qa k0 _
     have fx:H1[G.length]? =some (.vars [.i x.ty,.i x.num]):=by rw[ze];exact Qa kx _
     have fm:H1[G.length+1]? =some (stM nx):=by rw[ze];exact Qa km _
     have fc:H1[G.length+2]? =some (.vars [.mref (G.length+1)]):=by rw[ze];exact Qa kc _
     have fi:H1[G.length+3]? =some (.it (left'.map fun z=>(.i z,.bool true)) (some (.i s,.bool true))):=by rw[ze];exact Qa ki _
     have fq:=congrArg (fun h:List AObj=>h[E1.length]?) ze;simp at fq;have zr:H1.length=E1.length+1:=by rw[ze];simp
     clear ze;refine Wy tOk Tryz.func167 rfl Tryz.results167 rfl (by simp[Tryz.ntmps167]) ?_;rw[Tryz.ntmps167];simp only[Qg];repeat first|(refine r_ ?_;simp)|refine q_ ?_
     obtain⟨LP0,zh,yd⟩:∃X,X=_∧H1[E1.length]? =some X:=⟨_,rfl,fq⟩
     have yk:=Qf ki;refine Qo (Qc (sl':=[(0,.yld E1.length),(1,.iptr (Q7 a)),(2,.iptr [.i s]),(7,.list (a.mv.map encMv)),(8,.i a.mv.length),(9,.i (0:Nat))]) ?_ (by simp));refine Qn (F:=fun(u:Nat×List Int×List AObj)=>⟨[(0,.yld E1.length),(1,.iptr (Q7 a)),(2,.iptr [.i s]),(7,.list (a.mv.map encMv)),(8,.i a.mv.length),(9,.i u.1)],u.2.2⟩)
      (fun u=>u.1≤a.mv.length∧u.2.2[0]? =some (.vars (Q7 a))∧u.2.2[G.length]? =some (.vars [.i x.ty,.i x.num])∧u.2.2[G.length+1]? =some (stM u.2.1)∧u.2.2[G.length+2]? =some (.vars [.mref (G.length+1)])∧u.2.2[G.length+3]? =some (.it (left'.map fun z=>(.i z,.bool true)) (some (.i s,.bool true)))∧u.2.2[E1.length]? =some LP0∧
       (∀z∈nx,z∈u.2.1)∧(∀z∈u.2.1,z∈Wa a R x)∧(∀m∈a.mv.take u.1,m.src=s→E8 m.on x=true→m.dst∈u.2.1)) (fun u=>a.mv.length - u.1) ?_ (0,nx,H1) ⟨by simp,f0,fx,fm,fc,fi,yd,fun z hz=>hz,zd.sub,by simp⟩
     clear f0 fx fm fc fi yd fq;rintro⟨k,ny,J⟩ ⟨hk,f0,fx,fm,fc,fi,fq,zu,zf,zn⟩ ih3;simp only at hk f0 fx fm fc fi fq zu zf zn ih3 ⊢;repeat first|(refine r_ ?_;simp)|refine q_ ?_
     refine Qb rfl (fun y1=> ?_) (fun y2=> ?_)
     ·have z8:k<a.mv.length:=by simpa using y1
      have ye:IntKind.i64.wrap ((k:Int)+1)=k+1:=wrap_i64 _ (by have:=zc.mvs;omega) (by have:=zc.mvs;omega);have yf:∀m∈a.mv.take (k+1),m∈a.mv.take k∨m=a.mv[k]:=fun m hm=>by
       rw[zV z8]at hm;rcases zU.1 hm with h|h
       ·exact .inl h
       ·exact .inr (zP.1 h)
      have yg:=zL z8;have yh:=zc.mv _ yg;repeat first|(refine r_ ?_;simp[z8])|refine q_ ?_
      generalize a.mv[k]=m at *
      have yl:Kj m.on x=(E8 m.on x,0):=by rw[Zs ((W5 a.types m.on).2 ⟨zc.types,yh.on⟩),if_neg (fun k=>k ((Yo _ _).2 hx))]
      have j0:=Qa f0 [AObj.vars [.i m.src,.i m.dst,.list (m.on.map encL)]];have jx:=Qa fx [AObj.vars [.i m.src,.i m.dst,.list (m.on.map encL)]];have jm:=Qa fm [AObj.vars [.i m.src,.i m.dst,.list (m.on.map encL)]];have jc:=Qa fc [AObj.vars [.i m.src,.i m.dst,.list (m.on.map encL)]];have ji:=Qa fi [AObj.vars [.i m.src,.i m.dst,.list (m.on.map encL)]];have jq:=Qa fq [AObj.vars [.i m.src,.i m.dst,.list (m.on.map encL)]];have jl:(J++[AObj.vars [.i m.src,.i m.dst,.list (m.on.map encL)]]).length=J.length+1:=by simp
      have yq:E1.length<J.length:=Qf fq;generalize J++[AObj.vars [.i m.src,.i m.dst,.list (m.on.map encL)]]=J1 at *
      have y3:=yh.dst;by_cases hms:m.src=s
      ·have hb:(m.src==s)=true:=by simpa using hms
       obtain⟨zb,zi,yi,ym,yn⟩:∃zb,zb=(if m.dst∈ny then ny else if E8 m.on x then ny++[m.dst]else ny)∧(∀z∈ny,z∈zb)∧(∀z∈zb,z∈Wa a R x)∧(E8 m.on x=true→m.dst∈zb):=by
        refine⟨_,rfl,fun z hz=> ?_,fun z hz=> ?_,fun h2=> ?_⟩
        ·split
         ·exact hz
         ·split
          ·exact yY _ hz
          ·exact hz
        ·split at hz
         ·exact zf z hz
         ·split at hz
          ·rename_i hh;rcases zU.1 hz with hz|hz
           ·exact zf z hz
           ·rw[zP.1 hz];exact Ek.2 ⟨y3,m,yg,by rw[hms];exact(hl s).1 zk,hh,rfl⟩
          ·exact zf z hz
        ·split
         ·assumption
         ·simp[h2]
       simp only[hb];refine Yb rfl rfl (q:=E1.length) rfl rfl (by rw[←zh];exact jq) rfl rfl rfl (fun jm K2=>jm=none∧K2[0]? =some (.vars (Q7 a))∧K2[G.length]? =some (.vars [.i x.ty,.i x.num])∧K2[G.length+1]? =some (stM zb)∧K2[G.length+2]? =some (.vars [.mref (G.length+1)])∧K2[G.length+3]? =some (.it (left'.map fun z=>(.i z,.bool true)) (some (.i s,.bool true)))∧E1.length<K2.length) ?_ ?_
       ·simp[Rk];have r0:=Qd (j:=E1.length) (by omega) j0 .dead;have rx:=Qd (j:=E1.length) (by omega) jx .dead;have rm:=Qd (j:=E1.length) (by omega) jm .dead;have rc:=Qd (j:=E1.length) (by omega) jc .dead;have ri:=Qd (j:=E1.length) (by omega) ji .dead;have rd:=Qh jq .dead;have rl:(J1.set E1.length .dead).length=J.length+1:=by simp[jl]
        generalize J1.set E1.length .dead=Y at *
        have q0:=Qa r0 [AObj.vars [.i m.src,.i m.dst,.list (m.on.map encL)]];have qx:=Qa rx [AObj.vars [.i m.src,.i m.dst,.list (m.on.map encL)]];have qm:=Qa rm [AObj.vars [.i m.src,.i m.dst,.list (m.on.map encL)]];have zo:=Qa rc [AObj.vars [.i m.src,.i m.dst,.list (m.on.map encL)]];have qi:=Qa ri [AObj.vars [.i m.src,.i m.dst,.list (m.on.map encL)]];have zj:=Qa rd [AObj.vars [.i m.src,.i m.dst,.list (m.on.map encL)]];have ql:(Y++[AObj.vars [.i m.src,.i m.dst,.list (m.on.map encL)]]).length=J.length+2:=by simp[rl]
        have q5:(Y++[AObj.vars [.i m.src,.i m.dst,.list (m.on.map encL)]])[Y.length]? =some (.vars [.i m.src,.i m.dst,.list (m.on.map encL)]):=by simp
        repeat first|(refine r_ ?_;simp[zo])|refine q_ ?_
        generalize Y++[AObj.vars [.i m.src,.i m.dst,.list (m.on.map encL)]]=Z at *;refine Hk (z:=m.dst) rfl rfl rfl rfl rfl qm (fun z hz=>by have:=yb z (zf z hz);omega) (by omega) ?_
        by_cases hmem:m.dst∈ny
        ·have za:zb=ny:=by rw[zi,if_pos hmem]
         subst za;simp[hmem,q5,qx];refine We rfl rfl ?_;simp;repeat first|(refine r_ ?_;simp)|refine q_ ?_
         refine Qb rfl (fun h=>by cases h) (fun _=> ?_);repeat first|(refine r_ ?_;simp)|refine q_ ?_
         exact⟨zj,rfl,q0,qx,qm,zo,qi,Qf zj⟩
        ·simp[hmem,q5,qx];refine Qe rfl rfl (by simp) (Vu m.on x) rfl ?_;rintro _ rfl;simp[yl];repeat first|(refine r_ ?_;simp)|refine q_ ?_
         refine Qb rfl (fun hh=> ?_) (fun hh=> ?_)
         ·have za:zb=ny++[m.dst]:=by rw[zi,if_neg hmem,if_pos (by simpa using hh)]
          repeat first|(refine r_ ?_;simp[zo,q5])|refine q_ ?_
          refine J2 (z:=m.dst) rfl rfl rfl rfl rfl rfl qm (fun z hz=>by have:=yb z (zf z hz);omega) (by omega) hmem ?_;simp;repeat first|(refine r_ ?_;simp)|refine q_ ?_
          rw[←za];refine⟨Qd (by omega) zj _,rfl,Qd (by omega) q0 _,Qd (by omega) qx _,Qh qm _,Qd (by omega) zo _,Qd (by omega) qi _,by simpa using Qf zj⟩
         ·have za:zb=ny:=by rw[zi,if_neg hmem,if_neg (by simpa using hh)]
          subst za;repeat first|(refine r_ ?_;simp)|refine q_ ?_
          exact⟨zj,rfl,q0,qx,qm,zo,qi,Qf zj⟩
       ·rintro jm K2 ⟨rfl,v0,vx,vm,vc,vi,vl⟩;simp;repeat first|(refine r_ ?_;simp)|refine q_ ?_
        refine Qb rfl (fun h=>by cases h) (fun _=> ?_);repeat first|(refine r_ ?_;simp[ye])|refine q_ ?_
        have u0:=Qd (j:=E1.length) (by omega) v0 LP0;have ux:=Qd (j:=E1.length) (by omega) vx LP0;have um:=Qd (j:=E1.length) (by omega) vm LP0;have uc:=Qd (j:=E1.length) (by omega) vc LP0;have ui:=Qd (j:=E1.length) (by omega) vi LP0;have uq:(K2.set E1.length LP0)[E1.length]? =some LP0:=zO vl;rw[←zh];refine Qc (sl':=[(0,.yld E1.length),(1,.iptr (Q7 a)),(2,.iptr [.i s]),(7,.list (a.mv.map encMv)),(8,.i a.mv.length),(9,.i (k+1:Nat))]) ?_ (by simp);refine ih3 (k+1,zb,_) ⟨by omega,u0,ux,um,uc,ui,uq,fun z hz=>yi z (zu z hz),ym,fun m' y4 h1 h2=> ?_⟩ (by omega);rcases yf m' y4 with h3|rfl
        ·exact yi _ (zn m' h3 h1 h2)
        ·exact yn h2
      ·have hb:(m.src==s)=false:=by simpa using hms
       simp only[hb];refine We rfl rfl ?_;simp;repeat first|(refine r_ ?_;simp)|refine q_ ?_
       refine Qb rfl (fun h=>by cases h) (fun _=> ?_);repeat first|(refine r_ ?_;simp[ye])|refine q_ ?_
       refine Qc (sl':=[(0,.yld E1.length),(1,.iptr (Q7 a)),(2,.iptr [.i s]),(7,.list (a.mv.map encMv)),(8,.i a.mv.length),(9,.i (k+1:Nat))]) ?_ (by simp);refine ih3 (k+1,ny,J1) ⟨by omega,j0,jx,jm,jc,ji,jq,zu,zf,fun m' y4 h1 h2=> ?_⟩ (by omega);rcases yf m' y4 with h3|rfl
       ·exact zn m' h3 h1 h2
       ·exact absurd h1 hms
     ·have zp:k=a.mv.length:=by simp at y2;omega
      subst zp;repeat first|(refine r_ ?_;simp)|refine q_ ?_
      rw[y_]at zn;refine⟨Qf fq,⟨_,_,_,_,by rw[fq,zh]⟩,f0,fx,ny,fm,fc,fi,⟨zf,fun i hi m hm h1 h2=> ?_⟩⟩;rcases y0 i hi with h3|rfl
      ·exact zu _ (zd.all i h3 m hm h1 h2)
      ·exact zn m hm h1 h2
    ·rintro r H' ⟨zt,hl',⟨sl',yc,a',b',k4⟩,v0,vx,vm,vc,vi,y5⟩;refine⟨_,_,_,_,_,_,_,k4,?_⟩;simp;have w0:=Qd (j:=E1.length) (by have:=Qf k0;have:=Qf ki;omega) v0 .dead;have wx:=Qd (j:=E1.length) (by have:=Qf ki;omega) vx .dead;have wm:=Qd (j:=E1.length) (by have:=Qf ki;omega) vm .dead;have wc:=Qd (j:=E1.length) (by have:=Qf ki;omega) vc .dead;have wi:=Qd (j:=E1.length) (by have:=Qf ki;omega) vi .dead;have wl:(H'.set E1.length .dead).length=H'.length:=by simp
     generalize H'.set E1.length .dead=Y at *
     repeat first|(refine r_ ?_;simp)|refine q_ ?_
     refine Qc (sl':=[(1,LSy w),(2,.vptr 0 0),(15,.vptr G.length 0),(16,.vptr (G.length+2) 0),(52,LSy w),(53,.i w.length),(54,.i j),(60,.vptr (G.length+3) 0)]) ?_ (by simp);exact ih2 (left',some (.i s,.bool true),zt,Y) ⟨w0,wx,wm,wc,wi,by show G.length+4≤Y.length;have:=Qf wi;omega,z7,y5⟩ zz
  ·have zg:j=w.length:=by simp at zw;omega
   subst zg;rw[y_]at hl;repeat first|(refine r_ ?_;simp)|refine q_ ?_
   refine Pm tOk rfl rfl rfl v1m rfl rfl gq ?_;simp;repeat first|(refine r_ ?_;simp)|refine q_ ?_
   have zx:q≠0:=fun e=>by subst e;rw[g0]at gq;unfold stM at gq;simp at gq
   refine Wd fun E hE=> ?_;have e0:E[0]? =some (.vars (Q7 a)):=by rw[hE];exact Qa (Qd zx g0 _) _
   have ei:E[G.length]? =some (.it (l.map fun z=>(.i z,.bool true)) none):=by rw[hE];rw[zK (by simp)];simp
   clear hE;refine Qo (Qc (sl':=[(2,.vptr 0 0),(86,.vptr G.length 0)]) ?_ (by simp));refine Qn (F:=fun(u:List Int×Option (AV×AV)×List AObj)=>⟨[(2,.vptr 0 0),(86,.vptr G.length 0)],u.2.2⟩)
    (fun u=>u.2.2[0]? =some (.vars (Q7 a))∧u.2.2[G.length]? =some (.it (u.1.map fun z=>(.i z,.bool true)) u.2.1)∧(∀z∈u.1,z∈l)∧∀z∈l,z∉u.1→a.fin.getD z.toNat false=false) (fun u=>u.1.length) ?_ (l,none,E) ⟨e0,ei,fun z hz=>hz,fun z hz hn=>absurd hz hn⟩
   clear e0 ei;clear E;rintro⟨left,cur,E⟩ ⟨e0,ei,z6,y6⟩ ih2;simp only at e0 ei z6 y6 ih2 ⊢;repeat first|(refine r_ ?_;simp)|refine q_ ?_
   refine Db rfl rfl rfl rfl ei (fun zy=> ?_) (fun i p hp=> ?_)
   ·simp;have zr:left=[]:=by simpa using zy
    subst zr;repeat first|(refine r_ ?_;simp)|refine q_ ?_
    refine Qj rfl ?_;simp;repeat first|(refine r_ ?_;simp)|refine q_ ?_
    have:Uk a w=false:=by rw[wT,Ne,q0y];rintro⟨s,hs,hf⟩;rw[y6 s ((hl s).2 hs) (by simp)]at hf;cases hf
    rw[this]
   ·simp;rw[zW]at hp;obtain⟨s,hs,rfl⟩:=zQ.1 hp;rw[Hp];have zk:s∈l:=z6 s (zH hs);have zl:=y9 s zk;have z7:∀z∈left.eraseIdx i,z∈l:=fun z hz=>z6 z (uN hz);have zz:(left.eraseIdx i).length<left.length:=by rw[un,if_pos (Uj hs)];have:=Uj hs;omega
    have y0:∀z,z∈l→z∉left.eraseIdx i→(z∈l∧z∉left)∨z=s:=fun z hz y7=>by
     by_cases zm:z∈left
     ·exact .inr (mem_erase hs zm y7)
     ·exact .inl ⟨hz,zm⟩
    generalize left.eraseIdx i=left' at *
    have yj:=Qf g0;have k0:=Qd (j:=G.length) (by omega) e0 (.it (left'.map fun z=>(.i z,.bool true)) (some (.i s,.bool true)));have ki:=Qh ei (.it (left'.map fun z=>(.i z,.bool true)) (some (.i s,.bool true)));generalize E.set G.length (.it (left'.map fun z=>(.i z,.bool true)) (some (.i s,.bool true)))=E1 at *
    repeat first|(refine r_ ?_;simp)|refine q_ ?_
    refine Qj rfl ?_;simp;repeat first|(refine r_ ?_;simp)|refine q_ ?_
    refine Pt rfl rfl rfl rfl ki ?_;simp;have y8:s.toNat<a.fin.length:=by omega
    repeat first|(refine r_ ?_;simp[k0,zl,y8])|refine q_ ?_
    refine Qb rfl (fun hh=> ?_) (fun hh=> ?_)
    ·repeat first|(refine r_ ?_;simp)|refine q_ ?_
     have:Uk a w=true:=(q0y a w).2 ⟨s,(hl s).1 zk,by simp[yS,y8,hh]⟩;rw[this]
    ·repeat first|(refine r_ ?_;simp)|refine q_ ?_
     refine Qc (sl':=[(2,.vptr 0 0),(86,.vptr G.length 0)]) ?_ (by simp);refine ih2 (left',some (.i s,.bool true),E1) ⟨k0,ki,z7,fun z hz y7=> ?_⟩ zz;rcases y0 z hz y7 with h3|rfl
     ·exact y6 z h3.1 h3.2
     ·simp[yS,y8,hh]
end Go.Abs
namespace Go.Abs
open Go Go.Proofs Go.Maps
def ksG(st:List (List Bool×Prd)):List (List UInt8):=st.map fun g=>sgB g.1
def prG(st:List (List Bool×Prd)):List Prd:=st.map (·.2)
def Ty(T:Nat)(l:List Prd)(A:List (Nat×Iv)):List (List Bool×Prd):=A.foldl (fun st a=>Yj T a.1 (U6 l a.1 a.2.lo) a.2 st) []
theorem Jw(T:Nat)(l:List Prd)(A:List (Nat×Iv))(a:Nat×Iv):Ty T l (A++[a])=Yj T a.1 (U6 l a.1 a.2.lo) a.2 (Ty T l A):=by unfold Ty;rw[wp];rfl
theorem Vc(T:Nat)(l:List Prd)(A:List (Nat×Iv)):GB T l.length A.length (Ty T l A):=by
 suffices h:∀n,∀A:List (Nat×Iv),A.length=n→GB T l.length n (Ty T l A) from h _ A rfl
 intro n;induction n with
 |zero=>intro A hA;have:=List.eq_nil_of_length_eq_zero hA;subst this;exact⟨by simp[Ty],by simp[Ty],fun g hg=>by simp[Ty]at hg,fun g hg=>by simp[Ty]at hg,fun g hg=>by simp[Ty]at hg⟩
 |succ n ih=>
  intro A hA;rcases wO A with rfl|⟨B,a,rfl⟩
  ·simp at hA
  ·rw[wP]at hA ⊢;rw[Jw];exact(ih B (by simp at hA;omega)).put (by simp[U6]) _ _
def U1(l:List Prd)(i:Nat):List (Nat×Iv):=(yL i).flatMap fun i=>(T7 (Wc l i)).map fun x=>(i,x)
def U0(l:List Prd)(i k:Nat):List (Nat×Iv):=U1 l i++((T7 (Wc l i)).take k).map fun x=>(i,x)
theorem Sw(l:List Prd)(i:Nat):U0 l i 0=U1 l i:=by simp[U0]
theorem k0d(l:List Prd)(i:Nat):U0 l i (T7 (Wc l i)).length=U1 l (i+1):=by simp[U0,U1,wH,y_]
theorem x0q(l:List Prd)(i k:Nat)(h:k+1<(Wc l i).length):U0 l i (k+1)=U0 l i k++[(i,(⟨(Wc l i)[k],(Wc l i)[k+1] - 1⟩:Iv))]:=by have h1:=Ml (Wc l i) k h;obtain⟨h2,h3⟩:=zB.1 h1;rw[U0,U0,zV h2,h3,yZ,xP];rfl
theorem Na{T:Nat}{l:List Prd}(hl:∀p∈l,PCk T p)(hn:l.length≤256)(i:Nat):(Wc l i).length≤131074:=by rw[←Mr];have h1:=Pn (R9 (Jj (Qu l i)));have h2:=L3 (Qu l i);rw[Ag,h2]at h1;have:=Ig hl i;omega
end Go.Abs
namespace Go.Abs
open Go Go.Proofs Go.Maps
theorem GInv.iv{T:Nat}{sig:Nat→Int→List Bool}{st:List (List Bool×Prd)}(h:GInv T sig (fun t n=>t<T∧inR n) st){g:List Bool×Prd}(hg:g∈st){s:List Iv}(hs:s∈g.2):ascS s∧∀x∈s,Sb x:=by have ha:=h.asc g hg s hs;refine⟨ha,fun x hx=> ?_⟩;obtain⟨t,ht,rfl⟩:=xB hs;have h1:=((h.mem g hg t x.lo).1 ⟨_,zJ ht,x,hx,xO _,ha.1 x hx⟩).1.2;have h2:=((h.mem g hg t x.hi).1 ⟨_,zJ ht,x,hx,ha.1 x hx,xO _⟩).1.2;unfold inR at h1 h2;exact⟨(Em _).2 h1,(Em _).2 h2⟩
theorem Fw{T:Nat}{l:List Prd}(hl:∀p∈l,PCk T p)(hn:l.length≤256):∀i,(U1 l i).length≤i * 131073
 |0=>by simp[U1]
 |i+1=>by have:=Fw hl hn i;have h2:=Na hl hn i;have h3:=Fb (Wc l i);rw[U1,wH,wA,z_];have h4:((yL i).flatMap fun i=>(T7 (Wc l i)).map fun x=>(i,x)).length=(U1 l i).length:=rfl;rw[h4];simp only[tr,List.flatMap_nil,xK,yK];omega
theorem f0t{T:Nat}{l:List Prd}(hl:∀p∈l,PCk T p)(hn:l.length≤256){i k:Nat}(hi:i<16):(U0 l i k).length≤2097168:=by have:=Fw hl hn i;have h2:=Na hl hn i;have h3:=Fb (Wc l i);rw[U0,z_,yK,ww];omega
theorem q1q(l:List Prd)(i:Nat)(n:Int):(U6 l i n).length=l.length:=by simp[U6]
theorem v1w(T:Nat)(l:List Prd):Ty T l (U1 l T)=Pc T l:=rfl
theorem S1(l:List Prd):U1 l 0=[]:=rfl
theorem Gu(T:Nat)(l:List Prd):Ty T l []=[]:=rfl
theorem E0(ks:List (List UInt8)):mpT ks= .mp (ks.mapIdx fun c k=>(.str k,.i c)):=rfl
theorem y1e{T:Nat}{l:List Prd}(hl:∀p∈l,PCk T p)(i:Nat):∀z∈Wc l i,-1099511627776≤z∧z≤1099511627777:=(Tz hl i).2.2.2.1
attribute [local irreducible] v0s Xk Wc U6 Ty U1 U0 mpT
theorem Bp(T:Int)(l:List Prd):PC Tryz.prog 115 [.i T,LP l] (fun r=>r= .tup [LP (R0 T l).2,.i (R0 T l).1]):=by
 refine Qk tOk Tryz.func115 rfl Tryz.results115 rfl (by simp[Tryz.ntmps115]) ?_;rw[Tryz.ntmps115];simp only[Qg];repeat first|(refine r_ ?_;simp)|refine q_ ?_
 refine Qb rfl (fun hc=> ?_) (fun hc=> ?_)
 ·have yf:T<1∨16<T:=by simpa using hc
  have hm:R0 T l=(2,[]):=by rw[R0,if_pos yf]
  rw[hm];repeat first|(refine r_ ?_;simp)|refine q_ ?_
 have yf:¬(T<1∨16<T):=by simpa using hc
 have xn:¬T<1:=fun h=>yf (.inl h);have xo:¬16<T:=fun h=>yf (.inr h);repeat first|(refine r_ ?_;simp)|refine q_ ?_
 refine Qb rfl (fun h=> ?_) (fun h=> ?_)
 ·have hm:R0 T l=(5,[]):=by rw[R0,if_neg (by omega),if_pos (by simp at h;omega)]
  rw[hm];repeat first|(refine r_ ?_;simp)|refine q_ ?_
 have hn:l.length≤256:=by simp at h;omega
 repeat first|(refine r_ ?_;simp)|refine q_ ?_
 refine Qy l.length (fun j=>Yp T l=Yp T (l.drop j)) (fun j=>[(0,.i T),(1,LP l),(28,LP l),(29,.i l.length),(30,.i j)]) (fun _=>[]) rfl (by simp) (by simp) (by simp) (by simp) (by simp) ?_;intro j hj hI ih;repeat first|(refine r_ ?_;simp)|refine q_ ?_
 refine Qb rfl (fun yg=> ?_) (fun yh=> ?_)
 ·have z1:j<l.length:=by simpa using yg
  have hw:IntKind.i64.wrap ((j:Int)+1)=j+1:=wrap_i64 _ (by omega) (by omega);rw[W7 z1,Yp]at hI;repeat first|(refine r_ ?_;simp[z1])|refine q_ ?_
  refine Qe rfl rfl (by simp) (A0 T l[j]) rfl ?_;rintro _ rfl;simp;repeat first|(refine r_ ?_;simp)|refine q_ ?_
  refine Qb rfl (fun h3=> ?_) (fun h3=> ?_)
  ·repeat first|(refine r_ ?_;simp)|refine q_ ?_
   rw[if_pos (by simpa using h3)]at hI;have hm:R0 T l=(Ey T l[j],[]):=by rw[R0,if_neg (by omega),if_neg (by omega),hI,if_pos (by simpa using h3)]
   rw[hm];exact⟨rfl,rfl⟩
  ·rw[if_neg (by simpa using h3)]at hI;repeat first|(refine r_ ?_;simp[hw])|refine q_ ?_
   refine Qz _ (ih z1 hI) rfl (by simp) ?_ (by simp) (by simp);simp
 ·have zr:j=l.length:=by simp at yh;omega
  subst zr;rw[xS]at hI;obtain⟨N,hN⟩:∃N:Nat,T=N:=⟨T.toNat,by omega⟩
  subst hN;have zp:∀p∈l,PCk N p:=fun p hp=>by simpa using((W5 (N:Int) p).1 ((Ip l).1 hI p hp)).2
  have hm:R0 N l=if S3 (E3 N l)then(5,[])else(0,E3 N l):=by rw[R0,if_neg (by omega),if_neg (by omega),hI,if_neg (by simp[Yp])];simp
  repeat first|(refine r_ ?_;simp)|refine q_ ?_
  refine Ec rfl rfl rfl ?_;simp;repeat first|(refine r_ ?_;simp)|refine q_ ?_
  refine Wt 9 76 1 rfl ?_;simp;refine Fe 1 rfl ?_;simp;have xa:=Rows.start0 N 1 [.mp [],AObj.va 76 1 []] rfl (fun j=>if j=0 then(0,1)else(0,0)) rfl;refine Qo (Qc (sl':=[(0,.i N),(1,LP l),(9,.sl 1 1 0 (Ty N l (U1 l 0)).length),(10,.mref 0),(42,.i N),(43,.i (0:Nat))]) ?_ (by simp[S1,Gu]));refine Qn (F:=fun(u:Nat×Nat×(Nat→Nat)×(Nat→Nat→Nat)×(Nat→Nat×Nat)×List AObj)=>⟨[(0,.i N),(1,LP l),(9,.sl u.2.1 1 0 (Ty N l (U1 l u.1)).length),(10,.mref 0),(42,.i N),(43,.i u.1)],u.2.2.2.2.2⟩)
   (fun u=>u.1≤N∧Rows [] N u.2.1 (prG (Ty N l (U1 l u.1))) u.2.2.1 u.2.2.2.1 u.2.2.2.2.1 u.2.2.2.2.2∧u.2.2.2.2.2[0]? =some (mpT (ksG (Ty N l (U1 l u.1))))∧u.2.2.2.2.1 0=(0,1)) (fun u=>N - u.1) ?_ (0,1,fun _=>0,fun _ _=>0,fun j=>if j=0 then(0,1)else(0,0),[.mp [],AObj.va 76 1 []]) ⟨by simp,by rw[S1,Gu];exact xa,by rw[S1,Gu,ksG,E0];rfl,rfl⟩
  rintro⟨i,o,Q,L,tag,G⟩ ⟨hi,hR,za,zb⟩ ih;simp only at hi hR za zb ih ⊢;repeat first|(refine r_ ?_;simp)|refine q_ ?_
  refine Qb rfl (fun yg=> ?_) (fun yh=> ?_)
  ·have z1:i<N:=by simpa using yg
   have hw:IntKind.i64.wrap ((i:Int)+1)=i+1:=wrap_i64 _ (by omega) (by omega);repeat first|(refine r_ ?_;simp)|refine q_ ?_
   refine Qe rfl rfl (by simp) (j1z N l i z1 (by omega) zp hn) rfl ?_;rintro _ rfl;simp;repeat first|(refine r_ ?_;simp)|refine q_ ?_
   have zg:=Na zp hn i;have zt:0<(Wc l i).length:=by have h1:=(Tz zp i).2.1;exact List.length_pos_of_mem h1
   refine Qo (Qc (sl':=[(0,.i N),(1,LP l),(9,.sl o 1 0 (Ty N l (U0 l i 0)).length),(10,.mref 0),(11,.i i),(12,LI (Wc l i)),(13,.i (0:Nat)),(42,.i N),(43,.i i)]) ?_ (by simp[Sw]));refine Qn (F:=fun(u:Nat×Nat×(Nat→Nat)×(Nat→Nat→Nat)×(Nat→Nat×Nat)×List AObj)=>⟨[(0,.i N),(1,LP l),(9,.sl u.2.1 1 0 (Ty N l (U0 l i u.1)).length),(10,.mref 0),(11,.i i),(12,LI (Wc l i)),(13,.i u.1),(42,.i N),(43,.i i)],u.2.2.2.2.2⟩)
    (fun u=>u.1<(Wc l i).length∧Rows [] N u.2.1 (prG (Ty N l (U0 l i u.1))) u.2.2.1 u.2.2.2.1 u.2.2.2.2.1 u.2.2.2.2.2∧u.2.2.2.2.2[0]? =some (mpT (ksG (Ty N l (U0 l i u.1))))∧u.2.2.2.2.1 0=(0,1)) (fun u=>(Wc l i).length - u.1) ?_ (0,o,Q,L,tag,G) ⟨zt,by rw[Sw];exact hR,by rw[Sw];exact za,zb⟩
   clear hR za zb;clear o Q L tag G;rintro⟨k,o,Q,L,tag,G⟩ ⟨hk,hR,za,zb⟩ ih2;simp only at hk hR za zb ih2 ⊢;have y2:IntKind.i64.wrap ((k:Int)+1)=k+1:=wrap_i64 _ (by omega) (by omega);repeat first|(refine r_ ?_;simp[y2])|refine q_ ?_
   refine Qb rfl (fun yi=> ?_) (fun yj=> ?_)
   ·have z8:k+1<(Wc l i).length:=by simp at yi;omega
    have zu:k<(Wc l i).length:=hk;have y3:=x0q l i k z8;have y4:=Vc N l (U0 l i k);have y5:=f0t (k:=k) zp hn (by omega:i<16);have yz:=fun x=>Jw N l (U0 l i k) x;have zh:=fun o' Q' L' yk G'=>ih2 (k+1,o',Q',L',yk,G');simp only[y3,yz]at zh;clear y3 yz;have xb:∀z∈Wc l i,-1099511627776≤z∧z≤1099511627777:=y1e zp i;have xp:=xb _ (zL z8);generalize Ty N l (U0 l i k)=st at *
    repeat first|(refine r_ ?_;simp[zu])|refine q_ ?_
    refine Qe rfl rfl (by simp) (Bd N l i (Wc l i)[k] z1 (by omega) zp hn) rfl ?_;rintro _ rfl;simp;repeat first|(refine r_ ?_;simp)|refine q_ ?_
    have xq:(U6 l i (Wc l i)[k]).length=l.length:=by rw[q1q]
    have x0:IntKind.i64.wrap ((Wc l i)[k+1] - 1)=(Wc l i)[k+1] - 1:=wrap_i64 _ (by omega) (by omega);generalize xr:U6 l i (Wc l i)[k]=sg at *
    have x1:∀m∈ksG st,m.length≤1000000:=fun m hm=>by obtain⟨g,hg,rfl⟩:=zT.1 hm;rw[Xf,y4.kl g hg];omega
    refine Gt (n:=sgB sg) rfl rfl rfl rfl rfl za x1 (by rw[Xf];omega) (fun c hc=> ?_) (fun x2=> ?_)
    ·obtain⟨p,hp⟩:∃p,st[c]? =some (sg,p):=by rw[ksG,zW]at hc;obtain⟨g,hg,he⟩:=zQ.1 hc;have:=u09 he;exact⟨g.2,by rw[hg,←this]⟩
     simp;repeat first|(refine r_ ?_;simp)|refine q_ ?_
     refine Qj rfl ?_;simp;repeat first|(refine r_ ?_;simp)|refine q_ ?_
     have xc:=Cr (T:=N) (i:=i) (x:=⟨(Wc l i)[k],(Wc l i)[k+1] - 1⟩) y4.nd hp;rw[xc]at zh;have zg:=Uj hp;have y5:p.length=N:=y4.len _ (zH hp);have yl:∀s∈p,s.length≤2097168:=fun s hs=>by have:=y4.sz _ (zH hp) s hs;omega
     have zm:(prG st)[c]? =some p:=by rw[prG,zW,hp];rfl
     have zi:prG (st.set c (sg,Uy p i ⟨(Wc l i)[k],(Wc l i)[k+1] - 1⟩))=(prG st).set c (Uy p i ⟨(Wc l i)[k],(Wc l i)[k+1] - 1⟩):=by rw[prG,tU];rfl
     have zj:ksG (st.set c (sg,Uy p i ⟨(Wc l i)[k],(Wc l i)[k+1] - 1⟩))=ksG st:=by
      rw[ksG,tU];refine xT fun j=> ?_;by_cases e:c=j
      ·subst e;rw[zO (by simpa using zg)];exact hc.symm
      ·rw[zE e];rfl
     have zc:(st.set c (sg,Uy p i ⟨(Wc l i)[k],(Wc l i)[k+1] - 1⟩)).length=st.length:=by simp
     generalize st.set c (sg,Uy p i ⟨(Wc l i)[k],(Wc l i)[k+1] - 1⟩)=st' at *;refine Q6 (sl':=[(0,.i N),(1,LP l),(9,.sl o 1 0 st.length),(10,.mref 0),(11,.i i),(12,LI (Wc l i)),(13,.i k),(15,.i c),(42,.i N),(43,.i i)]) ?_ (by simp)
     have z6:(prG st).length=st.length:=by simp[prG]
     generalize st.length=n at *;generalize ksG st=ks at *;generalize prG st=pr at *
     have z7:=hR.row c p zm;have zd:=hR.out;rw[z6]at zd;have zv:c<pr.length:=by omega
     have zw:=Qf za;have xd:=Qf z7;have zx:=Qf zd;have zn:=hR.tQ c zv;have zk:=hR.to;have ym:Q c≠o:=fun e=>by rw[←e,zn]at zk;simp at zk
     have y6:Q c≠0:=fun e=>by rw[e,zb]at zn;simp at zn
     have yn:o≠0:=fun e=>by rw[e,zb]at zk;simp at zk
     have y7:=fun hn=>hR.leaf c p i zm z1 hn;have y8:=fun hn=>hR.tL c p i zm z1 hn;have zo:=Oq (L c) N p;have zf:=Sa (L c) p z1;have zl:=q0n Q N zg;have zy:=Zf Q N n;have y9:i<p.length:=by omega
     have yo:(p.getD i []).length≤2097168:=by rw[Wx y9];exact yl _ (zL y9)
     obtain⟨s,hs⟩:∃s,p.getD i []=s:=⟨_,rfl⟩
     rw[hs]at zf yo y7 y8;obtain⟨row,ya⟩:∃row,v0s (L c) N p=row:=⟨_,rfl⟩
     rw[ya]at z7 zo zf;refine N6 (fun E1=>∃z,E1[Q c]? =some (.va 171 1 (row.set i (.sl z 2 0 s.length)))∧E1[z]? =some (.arr 187 2 (s.map encIv))∧(∀j,j<G.length→j≠Q c→E1[j]? =G[j]?)∧G.length≤E1.length∧(tag z=(c+1,i+1)∨G.length≤z)) (fun hm=> ?_) ?_
     ·by_cases hs0:s=[]
      ·rw[D4,if_pos hs0]at zf;refine A3 (Q c) i 187 2 z7 zf ?_;refine hm _ ⟨G.length,by rw[hs0];exact Qh (Qa z7 _) _,?_,fun j hj zt=> ?_,by simp,.inr (zR _)⟩
       ·rw[zE (by omega),hs0];simp
       ·rw[zE (Ne.symm zt),zF hj]
      ·rw[D4,if_neg hs0]at zf;have zz:row.set i (.sl (L c i) 2 0 s.length)=row:=w0q zf;exact hm G ⟨L c i,by rw[zz];exact z7,y7 hs0,fun _ _ _=>rfl,zR _,.inl (y8 hs0)⟩
     ·rintro E1 ⟨z,f1,f2,f3,f4,f5⟩;have yp:z≠Q c:=fun e=>by
       rcases f5 with h|h
       ·rw[e,zn]at h;simp at h
       ·omega
      have yq:z≠o:=fun e=>by
       rcases f5 with h|h
       ·rw[e,zk]at h;simp at h
       ·omega
      have yr:z≠0:=fun e=>by
       rcases f5 with h|h
       ·rw[e,zb]at h;simp at h
       ·omega
      have g1:=(f3 o zx (Ne.symm ym)).trans zd;have g0:=(f3 0 zw (Ne.symm y6)).trans za;have ze:∀hh,(Xk Q N n)[c]'hh= .agg [.sl (Q c) 1 0 N]:=fun hh=>by rw[zJ hh]at zl;exact Option.some.inj zl
      have yt:∀hh,(row.set i (.sl z 2 0 s.length))[i]'hh= .sl z 2 0 s.length:=fun hh=>by simp
      have d1:∀M,(E1.set z .dead++M)[Q c]? =some (.va 171 1 (row.set i (.sl z 2 0 s.length))):=fun M=>Qa (Qd yp f1 _) M;have y0:∀M,M=(E1.set z .dead++[AObj.arr 187 2 [encIv ⟨(Wc l i)[k],(Wc l i)[k+1] - 1⟩],.arr 187 2 (s.map encIv++[encIv ⟨(Wc l i)[k],(Wc l i)[k+1] - 1⟩])]).set (Q c) (.va 171 1 (row.set i (.sl (E1.length+1) 2 0 (s.length+1))))→
        Rows [] N o (prG st') Q (fun c' k'=>if c'=c∧k'=i then E1.length+1 else L c' k') (fun j=>if j=E1.length+1 then(c+1,i+1)else tag j) M∧M[0]? =some (mpT (ksG st'))∧(if 0=E1.length+1 then(c+1,i+1)else tag 0)=(0,1):=fun M hM=>by
       rw[zi,zj];have xe:=Qf g0;have xf:=Qf f1;refine⟨hR.put zm y5 z1 (by omega) ?_ ?_ (fun j hj h1 h2=> ?_),?_,by rw[if_neg (by omega)];exact zb⟩
       ·rw[hM,ya,hs];exact zO (by simp;omega)
       ·rw[hM,hs,zE (by omega),zK (by simp)];simp
       ·have yu:z≠j:=fun e=>by
         rcases f5 with h|h
         ·rw[e]at h;exact h2 h
         ·omega
        rw[hM,zE (Ne.symm h1),zF (by simp;omega),zE yu];exact f3 j hj h1
       ·rw[hM,zE y6,zF (by simp;omega),zE yr];exact g0
      have yv:(0:Int)≤(k:Int)+1:=by omega
      have yw:(k:Int)+1<(Wc l i).length:=by omega
      have dI:∀M,(E1++M)[z]? =some (.arr 187 2 (s.map encIv)):=fun M=>Qa f2 M;have d2:∀M,(E1++M)[Q c]? =some (.va 171 1 (row.set i (.sl z 2 0 s.length))):=fun M=>Qa f1 M;have yb:∀M hh,(E1.set z .dead++M)[Q c]'hh= .va 171 1 (row.set i (.sl z 2 0 s.length)):=fun M hh=>by have:=d1 M;rw[zJ hh]at this;exact Option.some.inj this
      have d3:∀M,(E1.set z .dead++M)[o]? =some (.va 76 1 (Xk Q N n)):=fun M=>Qa (Qd yq g1 _) M;have d4:∀M,(E1++M)[o]? =some (.va 76 1 (Xk Q N n)):=fun M=>Qa g1 M;refine Qs tOk mixed [26,28] (.val 0 (.val 1 (.val 2 (.val 3 (.val 5 (.val 6 (.val 7 (.val 8 (.val 9 (.val 10 (.val 11 (.val 12 (.val 13 (.val 14 (.val 15 (.val 16 (.val 17 (.val 18 (.val 19 (.val 20 (.val 21 (.val 22 (.val 23 (.val 24 (.two 4 (.one 25 (.one 26 (.val 27 (.one 28 (.done))))) 25 (.two 4 (.one 26 (.val 27 (.one 28 (.done)))) 26 (.val 4 (.val 27 (.one 28 (.done)))))))))))))))))))))))))))))) rfl (by kernel_rfl) ?_;simp[g1,zl,ze,zy,zg,f1,yt,zo,z1,zu,z8,y2,x0,yv,yw,d4];refine⟨?_,?_⟩;all_goals
       refine Qi tOk rfl rfl H4 rfl Bk rfl (by decide) (by decide) rfl rfl rfl ?_;simp[dI,Ql f2,d1,yb,d2,d3,d4,z1,zo,zl,ze,zy,zg];refine⟨by simp[W8,dI,Ql f2,d1,yb,d2,d3,d4,z1,zo,zl,ze,zy,zg]<;>omega,?_⟩;repeat first|(refine r_ ?_;simp[y2])|refine q_ ?_
       refine Qc (sl':=[(0,.i N),(1,LP l),(9,.sl o 1 0 n),(10,.mref 0),(11,.i i),(12,LI (Wc l i)),(13,.i (k+1:Nat)),(42,.i N),(43,.i i)]) ?_ (by simp);obtain⟨q1,q2,q3⟩:=y0 _ rfl;rw[←zc];have:=zh o Q _ _ _ ⟨z8,q1,q2,q3⟩ (by omega);simpa[zc]using this
    ·simp;repeat first|(refine r_ ?_;simp)|refine q_ ?_
     refine Qj rfl ?_;simp;repeat first|(refine r_ ?_;simp)|refine q_ ?_
     have xg:(ksG st).length=st.length:=by simp[ksG]
     have z6:(prG st).length=st.length:=by simp[prG]
     refine Jy (n:=sgB sg) rfl rfl rfl rfl rfl (ks:=ksG st) (by rw[xg];rfl) za x1 (by rw[Xf];omega) x2 ?_;simp;repeat first|(refine r_ ?_;simp)|refine q_ ?_
     refine W4 tOk rfl rfl rfl T74 rfl H4 rfl rfl rfl (n:=N) (by simp;omega) (by unfold maxLen;omega) .nils rfl ?_;simp;have x3:(0:Nat)≠o:=fun e=>by subst e;rw[hR.out]at za;rw[E0]at za;simp at za
     have yx:=Qd x3 hR.out (mpT (ksG st++[sgB sg]));have xh:=Qh za (mpT (ksG st++[sgB sg]));have xi:∀j,j≠0→(G.set 0 (mpT (ksG st++[sgB sg])))[j]? =G[j]? :=fun j hj=>zE (Ne.symm hj);have xj:(G.set 0 (mpT (ksG st++[sgB sg]))).length=G.length:=by simp
     have yc:=Zf Q N st.length;rw[←xj];generalize G.set 0 (mpT (ksG st++[sgB sg]))=G1 at *
     have hle:=y4.le;refine H9 tOk rfl rfl T91 rfl T76 rfl (by decide) (by decide) rfl rfl rfl ?_;simp[Ow,Xi,Qa yx,yc,z6];refine⟨by simp[W8,yc,z6]<;>omega,?_⟩;repeat first|(refine r_ ?_;simp)|refine q_ ?_
     refine Fe (e:=171) (c:=1) (xs:=yF N .nils) G1.length (by rw[zF (by simp),zE (by have:=Qf yx;omega)];simp) ?_;have xk:=Qf yx;have zt:∀g∈st,g.1≠sg:=fun g hg e=>x2 (zT.2 ⟨g,hg,by rw[e]⟩);rw[Ot zt]at zh;have x4:Rows [] N o (prG st) Q L tag G1:=hR.other (fun j hj ht=>xi j (fun e=>by subst e;exact ht zb)) (by omega);refine Wd fun Z hZ=> ?_;have y1:=x4.new (H':=Z) (q:=G1.length) (o':=G1.length+2) (zR _) (by omega) (by omega) (by rw[hZ];exact zO (by simp;omega)) (by rw[hZ,z6,zE (by omega),zK (by simp)];simp) (fun j hj xl=>by rw[hZ,zE (by omega),zF (by simp;omega),zE (Ne.symm xl),zF hj]);have x5:Z[0]? =some (mpT (ksG st++[sgB sg])):=by rw[hZ,zE (by omega),zF (by simp),zE (Ne.symm x3),zF (by omega)];exact xh
     clear hZ;have x6:(fun j=>if j=G1.length then(st.length+1,0)else if j=G1.length+2 then(0,0)else tag j) 0=((0,1):Nat×Nat):=by
      show(if 0=G1.length then(st.length+1,0)else if 0=G1.length+2 then(0,0)else tag 0)=((0,1):Nat×Nat)
      rw[if_neg (by omega),if_neg (by omega)];exact zb
     rw[z6]at y1;clear hR za zb x4;have zg:st.length<st.length+1:=by omega
     have zm:(prG st++[yF N []])[st.length]? =some (yF N ([]:List Iv)):=by rw[←z6];simp
     have zq:(prG st++[yF N []]).length=st.length+1:=by simp[z6]
     have yd:(yF N ([]:List Iv)).length=N:=by simp
     have yl:∀s∈yF N ([]:List Iv),s.length≤2097168:=fun s hs=>by rw[(ur.1 hs).2];simp
     have zi:prG (st++[(sg,Uy (yF N []) i ⟨(Wc l i)[k],(Wc l i)[k+1] - 1⟩)])=(prG st++[yF N []]).set st.length (Uy (yF N []) i ⟨(Wc l i)[k],(Wc l i)[k+1] - 1⟩):=by rw[u_ _ _ (by omega),z6,Nat.sub_self,prG,yZ];rfl
     have zj:ksG (st++[(sg,Uy (yF N []) i ⟨(Wc l i)[k],(Wc l i)[k+1] - 1⟩)])=ksG st++[sgB sg]:=by simp[ksG]
     have zc:(st++[(sg,Uy (yF N []) i ⟨(Wc l i)[k],(Wc l i)[k+1] - 1⟩)]).length=st.length+1:=by simp
     generalize st++[(sg,Uy (yF N []) i ⟨(Wc l i)[k],(Wc l i)[k+1] - 1⟩)]=st' at *;refine Q6 (sl':=[(0,.i N),(1,LP l),(9,.sl (G1.length+2) 1 0 (st.length+1)),(10,.mref 0),(11,.i i),(12,LI (Wc l i)),(13,.i k),(15,.i st.length),(42,.i N),(43,.i i)]) ?_ (by simp)
     generalize prG st++[yF N []]=pr at *;generalize yF N ([]:List Iv)=p at *;generalize ksG st++[sgB sg]=ks at *;generalize (fun c=>if c=st.length then G1.length else Q c)=Q at *
     generalize (fun j=>if j=G1.length then(st.length+1,0)else if j=G1.length+2 then(0,0)else tag j)=tag at *
     generalize st.length+1=n at *;generalize st.length=c at *;generalize G1.length+2=o at *
     have hR:=y1;have za:=x5;have z6:=zq;have y5:=yd;have zb:=x6;clear y1 x5 zq yd x6;generalize xt:Z=G at *
     have z7:=hR.row c p zm;have zd:=hR.out;rw[z6]at zd;have zv:c<pr.length:=by omega
     have zw:=Qf za;have xd:=Qf z7;have zx:=Qf zd;have zn:=hR.tQ c zv;have zk:=hR.to;have ym:Q c≠o:=fun e=>by rw[←e,zn]at zk;simp at zk
     have y6:Q c≠0:=fun e=>by rw[e,zb]at zn;simp at zn
     have yn:o≠0:=fun e=>by rw[e,zb]at zk;simp at zk
     have y7:=fun hn=>hR.leaf c p i zm z1 hn;have y8:=fun hn=>hR.tL c p i zm z1 hn;have zo:=Oq (L c) N p;have zf:=Sa (L c) p z1;have zl:=q0n Q N zg;have zy:=Zf Q N n;have y9:i<p.length:=by omega
     have yo:(p.getD i []).length≤2097168:=by rw[Wx y9];exact yl _ (zL y9)
     obtain⟨s,hs⟩:∃s,p.getD i []=s:=⟨_,rfl⟩
     rw[hs]at zf yo y7 y8;obtain⟨row,ya⟩:∃row,v0s (L c) N p=row:=⟨_,rfl⟩
     rw[ya]at z7 zo zf;refine N6 (fun E1=>∃z,E1[Q c]? =some (.va 171 1 (row.set i (.sl z 2 0 s.length)))∧E1[z]? =some (.arr 187 2 (s.map encIv))∧(∀j,j<G.length→j≠Q c→E1[j]? =G[j]?)∧G.length≤E1.length∧(tag z=(c+1,i+1)∨G.length≤z)) (fun hm=> ?_) ?_
     ·by_cases hs0:s=[]
      ·rw[D4,if_pos hs0]at zf;refine A3 (Q c) i 187 2 z7 zf ?_;refine hm _ ⟨G.length,by rw[hs0];exact Qh (Qa z7 _) _,?_,fun j hj zt=> ?_,by simp,.inr (zR _)⟩
       ·rw[zE (by omega),hs0];simp
       ·rw[zE (Ne.symm zt),zF hj]
      ·rw[D4,if_neg hs0]at zf;have zz:row.set i (.sl (L c i) 2 0 s.length)=row:=w0q zf;exact hm G ⟨L c i,by rw[zz];exact z7,y7 hs0,fun _ _ _=>rfl,zR _,.inl (y8 hs0)⟩
     ·rintro E1 ⟨z,f1,f2,f3,f4,f5⟩;have yp:z≠Q c:=fun e=>by
       rcases f5 with h|h
       ·rw[e,zn]at h;simp at h
       ·omega
      have yq:z≠o:=fun e=>by
       rcases f5 with h|h
       ·rw[e,zk]at h;simp at h
       ·omega
      have yr:z≠0:=fun e=>by
       rcases f5 with h|h
       ·rw[e,zb]at h;simp at h
       ·omega
      have g1:=(f3 o zx (Ne.symm ym)).trans zd;have g0:=(f3 0 zw (Ne.symm y6)).trans za;have ze:∀hh,(Xk Q N n)[c]'hh= .agg [.sl (Q c) 1 0 N]:=fun hh=>by rw[zJ hh]at zl;exact Option.some.inj zl
      have yt:∀hh,(row.set i (.sl z 2 0 s.length))[i]'hh= .sl z 2 0 s.length:=fun hh=>by simp
      have d1:∀M,(E1.set z .dead++M)[Q c]? =some (.va 171 1 (row.set i (.sl z 2 0 s.length))):=fun M=>Qa (Qd yp f1 _) M;have y0:∀M,M=(E1.set z .dead++[AObj.arr 187 2 [encIv ⟨(Wc l i)[k],(Wc l i)[k+1] - 1⟩],.arr 187 2 (s.map encIv++[encIv ⟨(Wc l i)[k],(Wc l i)[k+1] - 1⟩])]).set (Q c) (.va 171 1 (row.set i (.sl (E1.length+1) 2 0 (s.length+1))))→
        Rows [] N o (prG st') Q (fun c' k'=>if c'=c∧k'=i then E1.length+1 else L c' k') (fun j=>if j=E1.length+1 then(c+1,i+1)else tag j) M∧M[0]? =some (mpT (ksG st'))∧(if 0=E1.length+1 then(c+1,i+1)else tag 0)=(0,1):=fun M hM=>by
       rw[zi,zj];have xe:=Qf g0;have xf:=Qf f1;refine⟨hR.put zm y5 z1 (by omega) ?_ ?_ (fun j hj h1 h2=> ?_),?_,by rw[if_neg (by omega)];exact zb⟩
       ·rw[hM,ya,hs];exact zO (by simp;omega)
       ·rw[hM,hs,zE (by omega),zK (by simp)];simp
       ·have yu:z≠j:=fun e=>by
         rcases f5 with h|h
         ·rw[e]at h;exact h2 h
         ·omega
        rw[hM,zE (Ne.symm h1),zF (by simp;omega),zE yu];exact f3 j hj h1
       ·rw[hM,zE y6,zF (by simp;omega),zE yr];exact g0
      have yv:(0:Int)≤(k:Int)+1:=by omega
      have yw:(k:Int)+1<(Wc l i).length:=by omega
      have dI:∀M,(E1++M)[z]? =some (.arr 187 2 (s.map encIv)):=fun M=>Qa f2 M;have d2:∀M,(E1++M)[Q c]? =some (.va 171 1 (row.set i (.sl z 2 0 s.length))):=fun M=>Qa f1 M;have yb:∀M hh,(E1.set z .dead++M)[Q c]'hh= .va 171 1 (row.set i (.sl z 2 0 s.length)):=fun M hh=>by have:=d1 M;rw[zJ hh]at this;exact Option.some.inj this
      have d3:∀M,(E1.set z .dead++M)[o]? =some (.va 76 1 (Xk Q N n)):=fun M=>Qa (Qd yq g1 _) M;have d4:∀M,(E1++M)[o]? =some (.va 76 1 (Xk Q N n)):=fun M=>Qa g1 M;refine Qs tOk mixed [26,28] (.val 0 (.val 1 (.val 2 (.val 3 (.val 5 (.val 6 (.val 7 (.val 8 (.val 9 (.val 10 (.val 11 (.val 12 (.val 13 (.val 14 (.val 15 (.val 16 (.val 17 (.val 18 (.val 19 (.val 20 (.val 21 (.val 22 (.val 23 (.val 24 (.two 4 (.one 25 (.one 26 (.val 27 (.one 28 (.done))))) 25 (.two 4 (.one 26 (.val 27 (.one 28 (.done)))) 26 (.val 4 (.val 27 (.one 28 (.done)))))))))))))))))))))))))))))) rfl (by kernel_rfl) ?_;simp[g1,zl,ze,zy,zg,f1,yt,zo,z1,zu,z8,y2,x0,yv,yw,d4];refine⟨?_,?_⟩;all_goals
       refine Qi tOk rfl rfl H4 rfl Bk rfl (by decide) (by decide) rfl rfl rfl ?_;simp[dI,Ql f2,d1,yb,d2,d3,d4,z1,zo,zl,ze,zy,zg];refine⟨by simp[W8,dI,Ql f2,d1,yb,d2,d3,d4,z1,zo,zl,ze,zy,zg]<;>omega,?_⟩;repeat first|(refine r_ ?_;simp[y2])|refine q_ ?_
       refine Qc (sl':=[(0,.i N),(1,LP l),(9,.sl o 1 0 n),(10,.mref 0),(11,.i i),(12,LI (Wc l i)),(13,.i (k+1:Nat)),(42,.i N),(43,.i i)]) ?_ (by simp);obtain⟨q1,q2,q3⟩:=y0 _ rfl;rw[←zc];have:=zh o Q _ _ _ ⟨z8,q1,q2,q3⟩ (by omega);simpa[zc]using this
   ·have ye:k=(T7 (Wc l i)).length:=by rw[Fb];simp at yj;omega
    subst ye;rw[k0d]at hR za ⊢;repeat first|(refine r_ ?_;simp[hw])|refine q_ ?_
    refine Qc (sl':=[(0,.i N),(1,LP l),(9,.sl o 1 0 (Ty N l (U1 l (i+1))).length),(10,.mref 0),(42,.i N),(43,.i (i+1:Nat))]) ?_ (by simp);exact ih (i+1,o,Q,L,tag,G) ⟨by omega,hR,za,zb⟩ (by omega)
  ·have zr:i=N:=by simp at yh;omega
   subst zr;have x7:Ty i l (U1 l i)=Pc i l:=v1w i l;rw[x7]at hR ⊢;have x8:=c0g zp;have yy:=Vc i l (U1 l i);rw[x7]at yy;have y5:=Fw zp hn i;have xm:E3 i l=(prG (Pc i l)).map Rc:=by rw[E3,prG,vB];rfl
   rw[xm]at hm;have z6:(prG (Pc i l)).length=(Pc i l).length:=by simp[prG]
   repeat first|(refine r_ ?_;simp)|refine q_ ?_
   have x9:=u15 i o (prG (Pc i l)) Q L tag G hR (by omega) (fun p hp=>by
    obtain⟨g,hg,rfl⟩:=zT.1 hp;exact⟨yy.len g hg,fun s hs=>⟨(x8.iv hg hs).1,by have:=yy.sz g hg s hs;omega,(x8.iv hg hs).2⟩⟩)
   rw[z6]at x9;refine Q4 rfl rfl x9 rfl ?_;rintro r H' (⟨rfl,hb⟩|⟨rfl,hb⟩)
   ·rw[if_pos hb]at hm;rw[hm];simp;repeat first|(refine r_ ?_;simp)|refine q_ ?_
   ·rw[if_neg (by simp[hb])]at hm;rw[hm];simp;repeat first|(refine r_ ?_;simp)|refine q_ ?_
end Go.Abs
