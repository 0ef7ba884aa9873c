/- Part Nf of the proof: an abstract machine over the model, and what the functions of the program hand back in its terms. No condition. -/
import Derived.Test.YteghceocnldccaaGreatDoorNe
import Derived.Test.YteghceocnldccaaGreatDoorNc
import Derived.Shelf.Small.Bits
import Derived.Shelf.Strconv.Itoa0
import Derived.Shelf.Strconv.Itoa1
import Derived.Shelf.LaysM
import Derived.Shelf.Strconv.Itoa2
import Derived.Shelf.Strconv.AppendUint10
import Derived.Shelf.Strconv.AppendInt10
import Derived.Shelf.Strconv.AppendIntPublic10
import Derived.Test.YteghceocnldccaaGreatDoorProg
import Derived.Lib.AppendIntMem
import Derived.Lib.ItoaLen
import Derived.Lib.Slices
import Derived.Lib.Hide
import Derived.Laws.IdiomStrings
import Derived.OwnWalk
import Derived.WalkKit
import Derived.BigCall
set_option linter.all false
open List renaming getElem?_eq_some_iff→zE,getElem?_set_self→zU,getElem?_eq_getElem→zP,take_succ_eq_append_getElem→zY,flatMap_append→ww,getD→y_,getElem_mem→zT,flatMap_cons→tD,length_append→yL,length_cons→yY,cons_append→vZ,take_zero→wM,mem_of_mem_take→xV,length_take→wp,append_nil→xO,append_assoc→wd,take_length→xB,map_append→yX,map_cons→xH,replicate→yB,set_append_right→th,replicate_succ→uz,getElem?_append_right→zL,take_of_length_le→zV,pairwise_iff_getElem→yU,getElem?_append_left→zI,getElem?_set_ne→zH,foldl_nil→uV,eq_nil_or_concat→wS,concat_eq_append→wT,range→yV,ext_getElem→wP,getElem_set→tM,getElem_map→uK,getElem_range→uC,all_eq_true→yE,mem_map→zX,take_append_drop→xY,drop_length→ws,nil_append→wC,any_eq_true→vK,getElem_of_mem→xE,mem_range→xJ,length_map→yO,length_filter_le→xX,range_succ→wQ,ext_getElem?→xW,length_set→wK,getElem?_eq_none→xI,length_singleton→u9,map_congr_left→xZ,map_map→v_,map_nil→vB,mem_append→yH,mem_singleton→z_,mem_mapIdx→tR,getElem?_mapIdx→vP,mem_of_getElem?→zO,getElem?_cons_succ→u_,mem_replicate→tB,foldl_append→vA,getElem?_map→yI,map_set→u6
open Nat renaming zero_le→wD,le_trans→yW,le_refl→zW
open Int renaming le_refl→xF
open Bool renaming or_eq_true→ue
open Option renaming map_eq_some_iff→zZ
set_option maxHeartbeats 8000000
set_option linter.unusedSimpArgs false
set_option maxRecDepth 100000
namespace Go.Abs
open Go Go.Proofs
attribute [local irreducible] Hz
theorem c0i(p:Prd):PC Tryz.prog 173 [encP p] (fun r=>r= .fn (.func 197) [] [.iptr [.list (p.map encL)]]):=by refine Ql tOk Tryz.func173 rfl Tryz.results173 rfl (by simp[Tryz.ntmps173]) ?_;rw[Tryz.ntmps173];simp only[Qg];simp only[encP];repeat first|(refine r_ ?_;simp)|refine q_ ?_
theorem x0y(p:Prd)(h0:Hz [p]=0)(hv:Wi p=false):PC Tryz.prog 121 [encP p] (fun r=>r= .tup [encSy (Qn p),.i 0]):=by
 have hlen:p.length≤16:=by
  unfold Hz at h0;by_cases hc:E8 p.length p=0
  ·have:=((Es _ p).1 hc).1;omega
  ·rw[if_pos hc]at h0;exact absurd h0 hc
 obtain⟨t,x,rr,h1,h2,h3⟩:∃t x r,p[t]? =some (x::r)∧Qz p 0=(0+t,x.lo)∧∀j,j<t→p[j]? =some []:=by refine Pa p 0 ?_;rw[Wi,List.all_eq_false]at hv;obtain⟨s,hs,hn⟩:=hv;exact⟨s,hs,fun e=>hn (by rw[e];rfl)⟩
 rw[Nat.zero_add]at h2;have za:Qn p=⟨t,x.lo⟩:=by rw[Qn,h2]
 rw[za];obtain⟨ze,zb⟩:=zE.1 h1;refine Ql tOk Tryz.func121 rfl Tryz.results121 rfl (by simp[Tryz.ntmps121]) ?_;rw[Tryz.ntmps121];simp only[Qg];simp only[encP,encSy];repeat first|(refine r_ ?_;simp)|refine q_ ?_
 refine I5 3 rfl ?_;simp;refine Qe rfl rfl (by simp) (Kt [p]) rfl ?_;rintro _ rfl;simp;repeat first|(refine r_ ?_;simp)|refine q_ ?_
 refine Qa rfl (fun h=>by rw[h0]at h;simp at h) (fun h=> ?_);repeat first|(refine r_ ?_;simp)|refine q_ ?_
 refine Qe rfl rfl (by simp) (c0i p) rfl ?_;rintro _ rfl;simp;repeat first|(refine r_ ?_;simp)|refine q_ ?_
 refine Rg rfl (Rf:=fun _ H'=>4<H'.length∧(∃sl' z8 a' b',H'[4]? =some (.lp false (some Code.ret) 25 sl' z8 a' b'))∧H'[1]? =some (.vars [.i t,.i x.lo])∧H'[2]? =some (.vars [.i 0])) ?_ ?_
 ·simp;refine Jh fun H1 z6=> ?_;have f1:H1[1]? =some (.vars [.i 0,.i 0]):=by rw[z6];rfl
  have f2:H1[2]? =some (.vars [.i 0]):=by rw[z6];rfl
  have f4:=congrArg (fun h:List AObj=>h[4]?) z6;simp at f4;have zc:H1.length=5:=by rw[z6];simp
  clear z6;refine W9 tOk Tryz.func197 rfl Tryz.results197 rfl (by simp[Tryz.ntmps197]) ?_;rw[Tryz.ntmps197];simp only[Qg];repeat first|(refine r_ ?_;simp)|refine q_ ?_
  refine Qo (Qc (sl':=[(0,.yld 4),(6,.list (p.map encL)),(7,.i p.length),(8,.i (0:Nat))]) ?_ (by simp));refine Qp (F:=fun(u:Nat)=>⟨[(0,.yld 4),(6,.list (p.map encL)),(7,.i p.length),(8,.i u)],H1⟩) (fun u=>u≤t) (fun u=>t - u) ?_ 0 (by simp);rintro j hj ih;have z1:j<p.length:=by omega
  have hw:IntKind.i64.wrap ((j:Int)+1)=j+1:=wrap_i64 _ (by omega) (by omega);repeat first|(refine r_ ?_;simp)|refine q_ ?_
  refine Qa rfl (fun _=> ?_) (fun zd=>by simp at zd;omega);by_cases hjt:j=t
  ·subst hjt;repeat first|(refine r_ ?_;simp[z1,zb])|refine q_ ?_
   refine O6 rfl rfl (q:=4) rfl rfl f4 rfl rfl rfl (fun jm K2=>jm=some Code.ret∧5≤K2.length∧K2[1]? =some (.vars [.i j,.i x.lo])∧K2[2]? =some (.vars [.i 0])) ?_ ?_
   ·simp[Tq];have e1:=Qd (j:=4) (by decide) f1 .dead;have e2:=Qd (j:=4) (by decide) f2 .dead;have e4:=Qh f4 .dead;have e6:(H1.set 4 .dead).length=5:=by simp[zc]
    generalize H1.set 4 .dead=E at *
    have e3:∀y,(E.set 1 y)[2]? =some (.vars [.i 0]):=fun y=>Qd (by decide) e2 y;repeat first|(refine r_ ?_;simp[e1,e2,e3])|refine q_ ?_
    exact⟨Qd (by decide) (Qd (by decide) e4 _) _,rfl,by simp[e6],Qd (by decide) (Qh e1 _) _,Qh (e3 _) _⟩
   ·rintro jm K2 ⟨rfl,v1,v2,v3⟩;simp;repeat first|(refine r_ ?_;simp)|refine q_ ?_
    have v6:4<K2.length:=by omega
    refine Qa rfl (fun _=> ?_) (fun h=>by cases h);repeat first|(refine r_ ?_;simp)|refine q_ ?_
    exact⟨by omega,⟨_,_,_,_,zU v6⟩,v2,v3⟩
  ·have z7:p[j]=[]:=by have:=h3 j (by omega);rw[zP z1]at this;exact Option.some.inj this
   repeat first|(refine r_ ?_;simp[z1,z7])|refine q_ ?_
   refine Q4 rfl rfl ?_;simp;refine Qm rfl ?_;simp;repeat first|(refine r_ ?_;simp[hw])|refine q_ ?_
   exact Qc (sl':=[(0,.yld 4),(6,.list (p.map encL)),(7,.i p.length),(8,.i (j+1:Nat))]) (ih (j+1) (by omega) (by omega)) (by simp)
 ·rintro r H' ⟨hl,⟨sl',z8,a',b',k4⟩,k1,k2⟩;refine⟨_,_,_,_,_,_,_,k4,?_⟩;simp;have u1:=Qd (j:=4) (by decide) k1 .dead;have u2:=Qd (j:=4) (by decide) k2 .dead;generalize H'.set 4 .dead=E at *
  repeat first|(refine r_ ?_;simp[u1,u2])|refine q_ ?_
end Go.Abs
namespace Go.Abs
open Go Go.Proofs
abbrev x2s:Iv:=⟨-1099511627776,1099511627776⟩
theorem Y9(i:Nat):Qx [] i=[]:=rfl
theorem Pj{l:List Prd}{j i:Nat}(hj:j<l.length)(hi:i<l[j].length):Qx (l.take (j+1)) i=Qx (l.take j) i++l[j][i]:=by unfold Qx;rw[zY hj,ww];simp[y_,hi]
theorem Yp{T:Nat}{l:List Prd}(hl:∀p∈l,PCk T p)(i:Nat):(Qx l i).length≤256 * l.length:=by
 induction l with
 |nil=>simp[Qx]
 |cons p r ih=>
  have h1:=ih (fun q hq=>hl q (by simp[hq]));have h2:(p.getD i []).length≤256:=by
   by_cases hi:i<p.length
   ·rw[Wq hi];exact((hl p (by simp)).2 _ (zT hi)).len
   ·simp[y_,hi]
  unfold Qx at *;rw[tD,yL,yY];omega
def Hv(xs:List Iv):List Int:=Mb (x2s::xs)
theorem k0j(xs:List Iv)(x:Iv):Hv (xs++[x])=Hv xs++[x.lo,x.hi+1]:=by unfold Hv;rw[←vZ,q0v]
theorem Fh(xs:List Iv):(Hv xs).length=2 * xs.length+2:=by rw[Hv,c0b];simp;omega
theorem Lr(l:List Prd)(i:Nat):Lib.compact (R8 (Hv (Qx l i)))=Wb l i:=rfl
attribute [local irreducible] Hv R8 Lib.compact Qx
theorem k14(T:Nat)(l:List Prd)(i:Nat)(hi:i<T)(hT:T≤16)(hl:∀p∈l,PCk T p)(hn:l.length≤256):PC Tryz.prog 168 [LP l,.i i] (fun r=>r=LI (Wb l i)):=by
 refine Ql tOk Tryz.func168 rfl Tryz.results168 rfl (by simp[Tryz.ntmps168]) ?_;rw[Tryz.ntmps168];simp only[Qg];repeat first|(refine r_ ?_;simp)|refine q_ ?_
 have h2:Hv (Qx (l.take 0) i)=[-1099511627776,1099511627777]:=by rw[wM,Y9,Hv];rfl
 have zj:=Yp hl i;refine Qo (Qc (sl':=[(0,LP l),(1,.i i),(5,.sl 0 1 0 (Hv (Qx (l.take 0) i)).length),(11,LP l),(12,.i l.length),(13,.i (0:Nat))]) ?_ (by rw[h2];simp));refine Qp (F:=fun(u:Nat×Nat×List AObj)=>⟨[(0,LP l),(1,.i i),(5,.sl u.2.1 1 0 (Hv (Qx (l.take u.1) i)).length),(11,LP l),(12,.i l.length),(13,.i u.1)],u.2.2⟩)
  (fun u=>u.1≤l.length∧SL [] u.2.2 u.2.1 3 1 ((Hv (Qx (l.take u.1) i)).map (AV.int .i64))) (fun u=>l.length - u.1) ?_ (0,0,_) ⟨by simp,by rw[h2];exact⟨rfl,by simp,fun j hj=>by simp at hj⟩⟩
 rintro⟨j,q,H2⟩ ⟨hj,g⟩ ih;simp only at hj g ih ⊢;repeat first|(refine r_ ?_;simp)|refine q_ ?_
 refine Qa rfl (fun zk=> ?_) (fun zl=> ?_)
 ·have z6:j<l.length:=by simpa using zk
  have hw:IntKind.i64.wrap ((j:Int)+1)=j+1:=wrap_i64 _ (by omega) (by omega);have hp:=hl _ (zT z6);have z8:i<l[j].length:=by rw[hp.1];exact hi
  have hs:=hp.2 _ (zT z8);have zf:=Pj z6 z8;have za:=Yp (l:=l.take j) (fun p hp=>hl p (xV hp)) i;rw[wp]at za;have zg:=hs.len;have zb:=fun k hk=>hs.iv (j:=k) hk;repeat first|(refine r_ ?_;simp[z6,z8])|refine q_ ?_
  generalize l[j][i]=s at *;generalize hA:Qx (l.take j) i=A at *;refine Qo (Qc (sl':=[(0,LP l),(1,.i i),(5,.sl q 1 0 (Hv (A++s.take 0)).length),(11,LP l),(12,.i l.length),(13,.i j),(21,LIv s),(22,.i s.length),(23,.i (0:Nat))]) ?_ (by simp))
  refine Qp (F:=fun(u:Nat×Nat×List AObj)=>⟨[(0,LP l),(1,.i i),(5,.sl u.2.1 1 0 (Hv (A++s.take u.1)).length),(11,LP l),(12,.i l.length),(13,.i j),(21,LIv s),(22,.i s.length),(23,.i u.1)],u.2.2⟩)
   (fun u=>u.1≤s.length∧SL [] u.2.2 u.2.1 3 1 ((Hv (A++s.take u.1)).map (AV.int .i64))) (fun u=>s.length - u.1) ?_ (0,q,_) ⟨by simp,by rw[wM,xO];exact g.add _⟩
  rintro⟨m,q',H3⟩ ⟨hm,g'⟩ ih';simp only at hm g' ih' ⊢;repeat first|(refine r_ ?_;simp)|refine q_ ?_
  refine Qa rfl (fun zc=> ?_) (fun zd=> ?_)
  ·have z1:m<s.length:=by simpa using zc
   have zm:IntKind.i64.wrap ((m:Int)+1)=m+1:=wrap_i64 _ (by omega) (by omega);obtain⟨b1,b2,b3⟩:=zb m z1;have zn:IntKind.i64.wrap (s[m].hi+1)=s[m].hi+1:=wrap_i64 _ (by omega) (by omega);have zo:Hv (A++s.take (m+1))=Hv (A++s.take m)++[s[m].lo,s[m].hi+1]:=by rw[zY z1,←wd,k0j]
   have zh:=Fh (A++s.take m);rw[yL,wp]at zh;have zi:=fun q' H'=>ih' (m+1,q',H');simp only[zo]at zi;generalize Hv (A++s.take m)=acc at *
   repeat first|(refine r_ ?_;simp[z1,zn])|refine q_ ?_
   refine Qf tOk rfl rfl T40 rfl T3 rfl (by decide) (by decide) rfl rfl rfl ?_;simp[Qb g'.arr,Qj g'.arr];refine⟨by simp[Wk,Qb g'.arr,Qj g'.arr]<;>omega,?_⟩;repeat first|(refine r_ ?_;simp[zm])|refine q_ ?_
   refine Qc (sl':=[(0,LP l),(1,.i i),(5,.sl (H3.length+2) 1 0 (acc.length+2)),(11,LP l),(12,.i l.length),(13,.i j),(21,LIv s),(22,.i s.length),(23,.i (m+1:Nat))]) ?_ (by simp);have:=zi (H3.length+2) _ ⟨by omega,g'.put [AObj.vars [AV.i s[m].lo,AV.i s[m].hi],AObj.arr 3 1 [AV.i s[m].lo,AV.i (s[m].hi+1)]] _ rfl⟩ (by omega);simpa using this
  ·have z7:m=s.length:=by simp at zd;omega
   subst z7;rw[xB]at g' ⊢;repeat first|(refine r_ ?_;simp[hw])|refine q_ ?_
   refine Qc (sl':=[(0,LP l),(1,.i i),(5,.sl q' 1 0 (Hv (A++s)).length),(11,LP l),(12,.i l.length),(13,.i (j+1:Nat))]) ?_ (by simp);have:=ih (j+1,q',H3) ⟨by omega,by rw[zf];exact g'⟩ (by show l.length - (j+1)<l.length - j;omega);rw[zf]at this;exact this
 ·have ze:j=l.length:=by simp at zl;omega
  subst ze;rw[xB]at g ⊢;have zh:=Fh (Qx l i);rw[←Lr];generalize Hv (Qx l i)=acc at *
  repeat first|(refine r_ ?_;simp)|refine q_ ?_
  refine Q8 rfl rfl (Km H2 q acc g.arr (by omega)) rfl ?_;rintro r H' ⟨rfl,rfl⟩;simp;repeat first|(refine r_ ?_;simp)|refine q_ ?_
  have g2:=Qh g.arr (.arr 3 1 ((R8 acc).map (AV.int .i64)));have zg:=Iz acc;rw[←zg];refine Q8 rfl rfl (Ag _ q (R8 acc) g2 (by omega) (U0 _)) rfl ?_;rintro r H' ⟨rfl,G,rfl⟩;simp;have g3:=Qh g.arr (.arr 3 1 ((Lib.compact (R8 acc)++G).map (AV.int .i64)));repeat first|(refine r_ ?_;simp)|refine q_ ?_
  rw[yX]at g3;simp[g3]
end Go.Abs
namespace Go.Abs
open Go Go.Proofs
attribute [simp] w2i T5 T9
def sb(b:Bool):UInt8:=if b then 1 else 0
def sgB(bs:List Bool):List UInt8:=bs.map sb
theorem f01:∀ {a b:List Bool},sgB a=sgB b→a=b
 |[],[],_=>rfl
 |[],_::_,h=>by simp[sgB]at h
 |_::_,[],h=>by simp[sgB]at h
 |x::a,y::b,h=>by simp only[sgB,xH,List.cons.injEq]at h;obtain⟨h1,h2⟩:=h;rw[f01 (a:=a) (b:=b) h2];cases x<;>cases y<;>simp[sb]at h1 ⊢
theorem Zh(bs:List Bool):(sgB bs).length=bs.length:=by simp[sgB]
def sgJ(bs:List Bool)(j:Nat):List AV:=(sgB (bs.take j)++yB (bs.length - j) 0).map byteAV
theorem k16{bs:List Bool}{j:Nat}(h:j≤bs.length):(sgJ bs j).length=bs.length:=by simp[sgJ,sgB];omega
theorem w17(bs:List Bool):yB bs.length (AV.int .u8 0)=sgJ bs 0:=by simp[sgJ,sgB]
theorem v1v(bs:List Bool):sgJ bs bs.length=(sgB bs).map byteAV:=by simp[sgJ]
theorem z2e{bs:List Bool}{j:Nat}(h:j<bs.length)(hb:bs[j]=true):(sgJ bs j).set j (AV.int .u8 1)=sgJ bs (j+1):=by
 have h1:(sgB (bs.take j)).length=j:=by simp[sgB];omega
 have e:bs.length - j=(bs.length - (j+1))+1:=by omega
 unfold sgJ;rw[yX,th (h:=by simp[h1]),zY h,e,uz];have hm:j - min j bs.length=0:=by omega
 simp[h1,sgB,hb,sb,byteAV,hm]
theorem k1v{bs:List Bool}{j:Nat}(h:j<bs.length):(sgJ bs j)[j]? =some (AV.int .u8 0):=by
 have h1:(sgB (bs.take j)).length=j:=by simp[sgB];omega
 unfold sgJ;have e:bs.length - j=(bs.length - (j+1))+1:=by omega
 rw[yX,zL (by simp[h1]),e,uz];simp[h1]
theorem z2b{bs:List Bool}{j:Nat}(h:j<bs.length)(hb:bs[j]=false):sgJ bs j=sgJ bs (j+1):=by
 have e:bs.length - j=(bs.length - (j+1))+1:=by omega
 unfold sgJ;rw[zY h,e,uz];simp[sgB,hb,sb]
theorem j1d{l:List Prd}{i j:Nat}(n:Int)(hj:j<l.length)(hi:i<l[j].length)(h:j<(U7 l i n).length):(U7 l i n)[j]=O0 l[j][i] n:=by simp[U7,y_,hi]
attribute [local irreducible] sgJ sgB O0 U7
theorem Xy(T:Nat)(l:List Prd)(i:Nat)(n:Int)(hi:i<T)(hT:T≤16)(hl:∀p∈l,PCk T p)(hn:l.length≤256):PC Tryz.prog 169 [LP l,.i i,.i n] (fun r=>r= .str (sgB (U7 l i n))):=by
 refine Ql tOk Tryz.func169 rfl Tryz.results169 rfl (by simp[Tryz.ntmps169]) ?_;rw[Tryz.ntmps169];simp only[Qg];have z6:(U7 l i n).length=l.length:=by simp[U7]
 repeat first|(refine r_ ?_;simp)|refine q_ ?_
 refine El tOk rfl rfl rfl w2i rfl T5 rfl rfl rfl (n:=l.length) (by simp;omega) (by unfold maxLen;omega) (.int .u8 0) rfl ?_;simp;rw[←z6,w17];repeat first|(refine r_ ?_;simp)|refine q_ ?_
 refine Qo (Qc (sl':=[(1,.i i),(2,.i n),(7,.sl 0 1 0 l.length),(15,LP l),(16,.i l.length),(17,.i (0:Nat))]) ?_ (by simp[z6]));refine Qp (F:=fun(u:Nat×List AObj)=>⟨[(1,.i i),(2,.i n),(7,.sl 0 1 0 l.length),(15,LP l),(16,.i l.length),(17,.i u.1)],u.2⟩)
  (fun u=>u.1≤l.length∧u.2[0]? =some (.arr 5 1 (sgJ (U7 l i n) u.1))) (fun u=>l.length - u.1) ?_ (0,_) ⟨by simp,rfl⟩
 rintro⟨j,H2⟩ ⟨hj,g⟩ ih;simp only at hj g ih ⊢;have ze:=k16 (bs:=U7 l i n) (j:=j) (by omega);repeat first|(refine r_ ?_;simp)|refine q_ ?_
 refine Qa rfl (fun zg=> ?_) (fun zh=> ?_)
 ·have z1:j<l.length:=by simpa using zg
  have hw:IntKind.i64.wrap ((j:Int)+1)=j+1:=wrap_i64 _ (by omega) (by omega);have hp:=hl _ (zT z1);have za:i<l[j].length:=by rw[hp.1];exact hi
  have hs:=hp.2 _ (zT za);have zi:=j1d n z1 za (by omega);have hT:=z2e (bs:=U7 l i n) (j:=j) (by omega);have hF:=z2b (bs:=U7 l i n) (j:=j) (by omega);rw[zi]at hT hF;have zb:y1o l[j][i] n=(O0 l[j][i] n,0):=by rw[y1o,if_pos ((Xj _).2 hs)]
  have z7:=fun H'=>ih (j+1,H');simp only at z7;repeat first|(refine r_ ?_;simp[z1,za])|refine q_ ?_
  refine Qe rfl rfl (by simp) (Hl l[j][i] n) rfl ?_;rintro _ rfl;simp;rw[zb];generalize O0 l[j][i] n=b at *
  repeat first|(refine r_ ?_;simp)|refine q_ ?_
  have gL:∀L,(H2++L)[0]? =some (.arr 5 1 (sgJ (U7 l i n) j)):=fun L=>Qb g L;cases b with
  |true=>
   rw[←hT rfl]at z7;clear hT hF;refine Qa rfl (fun _=> ?_) (fun h=>by cases h);have zc:=k1v (bs:=U7 l i n) (j:=j) (by omega);have zj:∀hh,(sgJ (U7 l i n) j)[j]'hh=AV.int .u8 0:=fun hh=>by rw[zP hh]at zc;exact Option.some.inj zc
   have gL1:∀L hh,(H2++L)[0]'hh= .arr 5 1 (sgJ (U7 l i n) j):=fun L hh=>by have:=gL L;rw[zP hh]at this;exact Option.some.inj this
   repeat first|(refine r_ ?_;simp[gL,gL1,ze,z1,z6,zc,zj,hw])|refine q_ ?_
   refine Qc (sl':=[(1,.i i),(2,.i n),(7,.sl 0 1 0 l.length),(15,LP l),(16,.i l.length),(17,.i (j+1:Nat))]) ?_ (by simp);exact z7 _ ⟨by omega,Qh (gL _) _⟩ (by omega)
  |false=>
   rw[←hF rfl]at z7;refine Qa rfl (fun h=>by cases h) (fun _=> ?_);repeat first|(refine r_ ?_;simp[hw])|refine q_ ?_
   refine Qc (sl':=[(1,.i i),(2,.i n),(7,.sl 0 1 0 l.length),(15,LP l),(16,.i l.length),(17,.i (j+1:Nat))]) ?_ (by simp);exact z7 _ ⟨by omega,gL _⟩ (by omega)
 ·have zd:j=l.length:=by simp at zh;omega
  subst zd;have z8:=v1v (U7 l i n);rw[z6]at z8;rw[z8]at g ze;have zf:=Zh (U7 l i n);generalize sgB (U7 l i n)=s at *
  repeat first|(refine r_ ?_;simp)|refine q_ ?_
  refine Bd tOk rfl rfl w2i rfl T5 rfl T9 rfl rfl (s:=s) (by simp[g,zf,z6];rw[zV (by simp[zf,z6])]) rfl ?_;simp;repeat first|(refine r_ ?_;simp)|refine q_ ?_
end Go.Abs
namespace Go.Abs
open Go Go.Proofs Go.RowKit Go.Shelf Go.Lib Go.Sort
theorem Bq(x y:Iv)(W:World):Calls Tryz.prog 180 #[.agg #[.int .i64 x.lo,.int .i64 x.hi],.agg #[.int .i64 y.lo,.int .i64 y.hi]] W fun e w'=>e= .returned (.int .i64 (Lib.compareInt x.lo y.lo))∧∃q os',w'=grow (W.drewN q) os':=by
 have z1:=fun W'=>Tryz.cmp_Compare_int x.lo y.lo W';generalize Lib.compareInt x.lo y.lo=r at z1 ⊢
 go_enter Tryz.func180,Tryz.ntmps180
 go_wp2_with (go_at_call 181;refine(z1 _).mono ?_;rintro e w' ⟨rfl,rfl⟩)
 go_ret
 exact⟨rfl,0,_,by rw[alloc_eq_grow,alloc_eq_grow,grow_grow];rfl⟩
theorem q1f(H:List AObj)(p:Nat)(l:List Iv)(hp:H[p]? =some (.arr 187 2 (l.map encIv)))(hl:l.length≤1000000):
  FC Tryz.prog 179 [.sl p 2 0 l.length,.fn (.func 180) [] []] H
   (fun r H'=>r= .tup []∧∃l':List Iv,l'.Perm l∧Z3 l'∧H'=H.set p (.arr 187 2 (l'.map encIv))):=by
 refine(f0n (xs:=l.map encIv) (T7 Tryz.func179 rfl rfl) (by simp) hp (d1o l) [.func (.func 180) #[] #[]] (fun w I m vs a b=>Me _ w I m _ vs a b) (fun z1=>∃l':List Iv,l'.Perm l∧Z3 l'∧z1=l'.map encIv) ?_ ?_).mono ?_
 ·intro b cap w hH hb hc;have eg:∀args w,(callFunc 180 args).run Tryz.prog w= .ok (.enter 180 args) w:=enters_of Tryz.func180 (by kernel_rfl) rfl;have:=AnyQ.slices_SortFunc Tryz.sortIv 2 Tryz.isAgg187 Tryz.sizeOf187 Jj (fun _=>rfl) (fun x v hv=>by simp[Jj]at hv;rcases hv with rfl|rfl<;>rfl) (fun x y=>Lib.compareInt x.lo y.lo) z2p 180 #[] b 0 cap l.toArray w eg (fun _ _ _ _ x y=>Bq x y _) hH hb (by simp;omega);change Calls Tryz.prog 179 _ _ _ at this;rw[show(l.toArray).size=l.length by simp]at this;refine Calls.mono (this) ?_;rintro e w' ⟨rfl,d',n,os,h1,h2,rfl⟩;obtain⟨s1,_,s3⟩:=h1;have hs:d'.toList.length=l.length:=by simpa using s1
  refine⟨rfl,d'.toList.map encIv,flatK Jj 2 d',n,os,⟨d'.toList,?_,?_,rfl⟩,by simp[hs],by simpa using d1o d'.toList,rfl⟩
  ·rw[show d'.extract 0 l.length=d' by simp[←hs],show l.toArray.extract 0 l.length=l.toArray by simp]at s3;simpa using s3
  ·refine yU.2 fun i j hi hj z6=> ?_;have:=h2 i j (wD _) z6 (by omega);rw[w2f,getElem!_pos d' i (by simpa using hi),getElem!_pos d' j (by simpa using hj)]at this;simpa using this
 ·rintro h;have z7:l=[]:=by simpa using h
  subst z7;exact⟨⟨[],.refl _,.nil,rfl⟩,fun w=>AnyF.slices_SortFunc_none Tryz.sortIv none 0 _ w⟩
 ·rintro r H' ⟨rfl,z1,⟨l',h1,h2,rfl⟩,rfl⟩;exact⟨rfl,l',h1,h2,rfl⟩
end Go.Abs
namespace Go.Abs
open Go Go.Proofs
theorem De(l l':List Iv)(z1:∀y∈l,y.lo≤y.hi)(hp:l'.Perm l)(hl:Z3 l'):Qy [] l'=Ej l:=
 Hb l' (E3 l) [] (hp.trans (Ol l).1.symm) hl (Ol l).2 (fun y hy=>z1 y (hp.mem_iff.1 hy))
theorem SL.upd{K G:List AObj}{p e sz:Nat}{xs:List AV}(h:SL K G p e sz xs)(L:List AObj)(ys:List AV):SL K (G.set p (.arr e sz ys)++L) p e sz ys:=by have hp:=(zE.1 h.arr).1;have z1:=h.ge;refine⟨by rw[zI (by simpa using hp)];exact zU hp,z1,fun j hj=> ?_⟩;rw[zI (by simp;omega),zH (by omega)];exact h.keep j hj
attribute [local irreducible] W2 Qy Ej
theorem Cv(H:List AObj)(q:Nat)(l:List Iv)(hq:H[q]? =some (.arr 187 2 (l.map encIv)))(hl:l.length≤1000000)(zf:∀y∈l,U5 y∧y.lo≤y.hi):
  FC Tryz.prog 124 [.sl q 2 0 l.length] H (fun r H'=>r=LIv (Ej l)∧H.length≤H'.length∧∀i,i<H.length→i≠q→H'[i]? =H[i]?):=by
 refine W9 tOk Tryz.func124 rfl Tryz.results124 rfl (by simp[Tryz.ntmps124]) ?_;rw[Tryz.ntmps124];simp only[Qg];repeat first|(refine r_ ?_;simp)|refine q_ ?_
 refine Q8 rfl rfl (q1f H q l hq hl) rfl ?_;rintro r H' ⟨rfl,l',h1,h2,rfl⟩;simp;have hl':l'.length≤1000000:=by rw[h1.length_eq];exact hl
 have zl:=h1.length_eq;have zc:∀y∈l',U5 y:=fun y hy=>(zf y (h1.mem_iff.1 hy)).1;rw[←De l l' (fun y hy=>(zf y hy).2) h1 h2,←zl];have g0:=Qh hq (.arr 187 2 (l'.map encIv));have z7:∀i,i≠q→(H.set q (.arr 187 2 (l'.map encIv)))[i]? =H[i]? :=fun i hi=>zH (fun e=>hi e.symm);have hlen:(H.set q (.arr 187 2 (l'.map encIv))).length=H.length:=by simp
 generalize H.set q (.arr 187 2 (l'.map encIv))=H1 at *
 repeat first|(refine r_ ?_;simp)|refine q_ ?_
 refine Qw (sl':=[(2,.nils),(3,.nils),(9,.sl q 2 0 l'.length),(10,.i l'.length),(11,.i (0:Nat))]) ?_ (by simp);refine Wl q g0 ?_;simp;rw[zV (by simp)];have z1:∀i,i<H.length→i≠q→(H1.set q .dead)[i]? =H[i]? :=fun i h1 h2=>by rw[zH (fun e=>h2 e.symm)];exact z7 i h2
 have z8:(H1.set q .dead).length=H.length:=by simp[hlen]
 generalize H1.set q .dead=K at *;refine Q6 3 187 2 rfl ?_
 simp;have zm:=SL.start K 187 2;refine Qo (Qc (sl':=[(3,.sl K.length 2 0 (Qy [] (l'.take 0)).length),(9,LIv l'),(10,.i l'.length),(11,.i (0:Nat))]) ?_ (by simp[z8,Qy]));refine Qp (F:=fun(u:Nat×Nat×List AObj)=>⟨[(3,.sl u.2.1 2 0 (Qy [] (l'.take u.1)).length),(9,LIv l'),(10,.i l'.length),(11,.i u.1)],u.2.2⟩)
  (fun u=>u.1≤l'.length∧SL K u.2.2 u.2.1 187 2 ((Qy [] (l'.take u.1)).map encIv)) (fun u=>l'.length - u.1) ?_ (0,K.length,_) ⟨by simp,by rw[wM,Qy,uV];exact zm⟩
 rintro⟨j,p,G⟩ ⟨hj,g⟩ ih;simp only at hj g ih ⊢;repeat first|(refine r_ ?_;simp)|refine q_ ?_
 refine Qa rfl (fun zn=> ?_) (fun zg=> ?_)
 ·have za:j<l'.length:=by simpa using zn
  have hw:IntKind.i64.wrap ((j:Int)+1)=j+1:=wrap_i64 _ (by omega) (by omega);have zh:Qy [] (l'.take (j+1))=W2 (Qy [] (l'.take j)) l'[j]:=by rw[zY za,Uj]
  have zi:(Qy [] (l'.take j)).length≤j:=yW (Rc _ _) (by simp;omega);have zd:∀y∈Qy [] (l'.take j),U5 y:=Iq _ _ (by simp) (fun y hy=>zc y (xV hy));have z6:=fun p' G'=>ih (j+1,p',G');simp only[zh]at z6;clear zh;generalize Qy [] (l'.take j)=acc at *;generalize hx:l'[j]=x at *
  repeat first|(refine r_ ?_;simp[za,hx])|refine q_ ?_
  rcases wS acc with rfl|⟨ini,y,rfl⟩
  ·refine Qk tOk mixed [] (.val 0 (.val 1 (.val 2 (.val 3 (.val 4 (.val 5 (.val 6 (.val 7 (.val 8 (.val 9 (.val 10 (.val 11 (.val 12 (.val 13 (.done))))))))))))))) rfl (by kernel_rfl) ?_;simp;refine Qm rfl ?_;simp;repeat first|(refine r_ ?_;simp)|refine q_ ?_
   refine Qf tOk rfl rfl U6 rfl A7 rfl (by decide) (by decide) rfl rfl rfl ?_;simp[Qb g.arr,Qj g.arr];refine⟨by simp[Wk,Qb g.arr,Qj g.arr]<;>omega,?_⟩;repeat first|(refine r_ ?_;simp[hw])|refine q_ ?_
   refine Qc (sl':=[(3,.sl (G.length+2) 2 0 1),(9,LIv l'),(10,.i l'.length),(11,.i (j+1:Nat))]) ?_ (by simp);have:=z6 (G.length+2) _ ⟨by omega,by rw[W2];exact g.put [AObj.vars [AV.i x.lo,AV.i x.hi],AObj.arr 187 2 [encIv x]] _ rfl⟩ (by omega);rw[W2]at this;simpa using this
  ·have zo:=(W7 _).1 (zd y (by simp)).2;have zj:IntKind.i64.wrap (y.hi+1)=y.hi+1:=wrap_i64 _ (by omega) (by omega);have gA:=g.arr;rw[wT]at g gA z6 zi ⊢;have hlen:(ini++[y]).length=ini.length+1:=by simp
   rw[hlen]at zi ⊢;have zk:IntKind.i64.wrap (ini.length:Int)=ini.length:=wrap_i64 _ (by omega) (by omega);have hg:((ini++[y]).map encIv)[ini.length]? =some (encIv y):=by simp
   have zb:(ini.length:Int)<ini.length+1:=by omega
   refine Qk tOk mixed [] (.val 0 (.val 1 (.val 2 (.val 3 (.val 4 (.val 5 (.val 6 (.val 7 (.val 8 (.val 9 (.val 10 (.val 11 (.val 12 (.val 13 (.done))))))))))))))) rfl (by kernel_rfl) ?_;simp[Qb gA,zk,hg,zj,zb];refine Qa rfl (fun h1=> ?_) (fun h1=> ?_)
   ·repeat first|(refine r_ ?_;simp)|refine q_ ?_
    refine Qk tOk mixed [14] (.val 0 (.val 1 (.val 2 (.val 3 (.val 4 (.val 5 (.val 6 (.val 7 (.val 8 (.val 9 (.val 10 (.val 11 (.val 12 (.val 13 (.one 14 (.done)))))))))))))))) rfl (by kernel_rfl) ?_;simp[Qb gA,zk,hg,zj,zb,Qj gA];repeat first|(refine r_ ?_;simp[hw])|refine q_ ?_
    have hR:W2 (ini++[y]) x=ini++[⟨y.lo,if y.hi<x.hi then x.hi else y.hi⟩]:=by rw[W5,if_pos (by simpa using h1)]
    rw[hR]at z6;refine Qc (sl':=[(3,.sl p 2 0 (ini.length+1)),(9,LIv l'),(10,.i l'.length),(11,.i (j+1:Nat))]) ?_ (by simp);have:=z6 p _ ⟨by omega,g.upd [AObj.vars [AV.i x.lo,AV.i x.hi]] _⟩ (by omega);simpa using this
   ·repeat first|(refine r_ ?_;simp)|refine q_ ?_
    refine Qf tOk rfl rfl U6 rfl A7 rfl (by decide) (by decide) rfl rfl rfl ?_;simp[Qb gA,Qj gA];refine⟨by simp[Wk,Qb gA,Qj gA]<;>omega,?_⟩;repeat first|(refine r_ ?_;simp[hw])|refine q_ ?_
    have hR:W2 (ini++[y]) x=ini++[y]++[x]:=by rw[W5,if_neg (by simpa using h1)]
    rw[hR]at z6;refine Qc (sl':=[(3,.sl (G.length+2) 2 0 (ini.length+2)),(9,LIv l'),(10,.i l'.length),(11,.i (j+1:Nat))]) ?_ (by simp);have:=z6 (G.length+2) _ ⟨by omega,g.put [AObj.vars [AV.i x.lo,AV.i x.hi],AObj.arr 187 2 [encIv x]] _ rfl⟩ (by omega);simpa using this
 ·have ze:j=l'.length:=by simp at zg;omega
  subst ze;rw[xB]at g ⊢;refine Wl p g.arr ?_;simp;rw[zV (by simp)];repeat first|(refine r_ ?_;simp)|refine q_ ?_
  have zp:=(zE.1 g.arr).1;have zg:=g.ge;refine⟨by omega,fun i h1 h2=> ?_⟩;rw[zH (by omega),g.keep i (by omega)];exact z1 i h1 h2
end Go.Abs
namespace Go.Abs
open Go Go.Proofs
def D7(F:Nat→List Iv)(T i:Nat):List AV:=(yV T).map fun k=>if k<i then encL (F k)else .nils
theorem w0d(F:Nat→List Iv)(T i:Nat):(D7 F T i).length=T:=by simp[D7]
theorem Vk(F:Nat→List Iv)(T:Nat):yB T AV.nils=D7 F T 0:=by refine wP (by simp[D7]) fun k h1 h2=>by simp[D7]
theorem q0p(F:Nat→List Iv){T i:Nat}(h:i<T):(D7 F T i)[i]? =some .nils:=by simp[D7,h]
theorem Ms(F:Nat→List Iv){T i:Nat}(h:i<T):(D7 F T i).set i (encL (F i))=D7 F T (i+1):=by
 refine wP (by simp[D7]) fun k h1 h2=> ?_;have hk:k<T:=by simpa[D7]using h2
 rw[tM];by_cases e:i=k
 ·subst e;simp[D7]
 ·rw[if_neg e];simp only[D7,uK,uC];by_cases h3:k<i
  ·rw[if_pos h3,if_pos (by omega)]
  ·rw[if_neg h3,if_neg (by omega)]
theorem Lx(F:Nat→List Iv)(T:Nat):D7 F T T=((yV T).map F).map encL:=by
 refine wP (by simp[D7]) fun k h1 h2=> ?_;have hk:k<T:=by simpa[D7]using h1
 simp[D7,hk]
theorem f0k(F:Nat→List Iv)(T:Nat):(D7 F T T).all (fun x=>x.cells.all AV.pure)=true:=by rw[Lx,yE];intro x hx;obtain⟨s,_,rfl⟩:=zX.1 hx;simp[AV.cells,AV.pure]
theorem C7{T:Nat}{l:List Prd}(hl:∀p∈l,PWf T p){i:Nat}{y:Iv}(hy:y∈Qx l i):U5 y∧y.lo≤y.hi:=by
 obtain⟨p,hp,hx⟩:=Td.1 hy;by_cases hi:i<p.length
 ·rw[Wq hi]at hx;exact⟨d1r (hl p hp) (zT hi) y hx,((hl p hp).2 _ (zT hi)).1.1 y hx⟩
 ·simp[y_,hi]at hx
theorem q0x(T:Nat)(l:List Prd):(Ud T l).length=T:=by simp[Ud]
attribute [local irreducible] Ej Qx Ud D7
theorem L3(T:Nat)(l:List Prd)(hT:T≤16)(hl:∀p∈l,PWf T p)(hn:∀i,i<T→(Qx l i).length≤1000000)(y2:l.length≤1000000):PC Tryz.prog 60 [.i T,LP l] (fun r=>r=encP (Ud T l)):=by
 refine Ql tOk Tryz.func60 rfl Tryz.results60 rfl (by simp[Tryz.ntmps60]) ?_;rw[Tryz.ntmps60];simp only[Qg];simp only[encP];repeat first|(refine r_ ?_;simp)|refine q_ ?_
 refine El tOk rfl rfl rfl T74 rfl U6 rfl rfl rfl (n:=T) (by simp;omega) (by unfold maxLen;omega) .nils rfl ?_;simp;repeat first|(refine r_ ?_;simp)|refine q_ ?_
 rw[Vk (fun k=>Ej (Qx l k))];refine Fb 1 rfl ?_;simp;refine Qo (Qc (sl':=[(0,.i T),(1,LP l),(4,.vptr 0 0),(5,.vptr 2 0),(12,.i T),(13,.i (0:Nat))]) ?_ (by simp));refine Qp (F:=fun(u:Nat×List AObj)=>⟨[(0,.i T),(1,LP l),(4,.vptr 0 0),(5,.vptr 2 0),(12,.i T),(13,.i u.1)],u.2⟩)
  (fun u=>u.1≤T∧3≤u.2.length∧u.2[0]? =some (.vars [.nils])∧u.2[1]? =some (.va 171 1 (D7 (fun k=>Ej (Qx l k)) T u.1))∧u.2[2]? =some (.vars [.sl 1 1 0 T])) (fun u=>T - u.1) ?_ (0,_) ⟨by simp,by simp,rfl,rfl,rfl⟩
 rintro⟨i,H2⟩ ⟨hi,hH,g0,g1,g2⟩ ih;simp only at hi hH g0 g1 g2 ih ⊢;repeat first|(refine r_ ?_;simp)|refine q_ ?_
 refine Qa rfl (fun zq=> ?_) (fun zr=> ?_)
 ·have z1:i<T:=by simpa using zq
  have hw:IntKind.i64.wrap ((i:Int)+1)=i+1:=wrap_i64 _ (by omega) (by omega);have zm:=Ms (fun k=>Ej (Qx l k)) z1;have zt:=q0p (fun k=>Ej (Qx l k)) z1;have z7:=w0d (fun k=>Ej (Qx l k)) T i;have zd:=hn i z1;have ze:=fun H'=>ih (i+1,H');simp only[←zm]at ze;clear zm;generalize D7 (fun k=>Ej (Qx l k)) T i=row at *
  repeat first|(refine r_ ?_;simp)|refine q_ ?_
  refine Aj 1 i 187 2 g1 zt ?_;refine Qo (Qc (sl':=[(0,.i T),(1,LP l),(4,.vptr 0 0),(5,.vptr 2 0),(6,.i i),(12,.i T),(13,.i i),(16,LP l),(17,.i l.length),(18,.i (0:Nat))]) ?_ (by simp));refine Qp (F:=fun(u:Nat×Nat×List AObj)=>⟨[(0,.i T),(1,LP l),(4,.vptr 0 0),(5,.vptr 2 0),(6,.i i),(12,.i T),(13,.i i),(16,LP l),(17,.i l.length),(18,.i u.1)],u.2.2⟩)
   (fun u=>u.1≤l.length∧3≤u.2.1∧u.2.2[0]? =some (.vars [.nils])∧u.2.2[1]? =some (.va 171 1 (row.set i (.sl u.2.1 2 0 (Qx (l.take u.1) i).length)))∧u.2.2[2]? =some (.vars [.sl 1 1 0 T])∧u.2.2[u.2.1]? =some (.arr 187 2 ((Qx (l.take u.1) i).map encIv))) (fun u=>l.length - u.1) ?_
   (0,H2.length,_) ⟨by simp,hH,Qd (by decide) (Qb g0 _) _,by rw[wM,Y9];exact Qh (Qb g1 _) _,Qd (by decide) (Qb g2 _) _,by rw[wM,Y9];simp only;rw[zH (i:=1) (j:=H2.length) (by omega)];simp⟩
  rintro⟨j,q,G⟩ ⟨hj,zu,k0,k1,k2,k3⟩ ih2;simp only at hj zu k0 k1 k2 k3 ih2 ⊢;repeat first|(refine r_ ?_;simp)|refine q_ ?_
  refine Qa rfl (fun zf=> ?_) (fun zg=> ?_)
  ·have z6:j<l.length:=by simpa using zf
   have zn:IntKind.i64.wrap ((j:Int)+1)=j+1:=wrap_i64 _ (by omega) (by omega);have hp:=hl _ (zT z6);have zh:i<l[j].length:=by rw[hp.1];exact z1
   have zi:=Pj z6 zh;have zj:(Qx (l.take (j+1)) i).length≤1000000:=by refine yW ?_ zd;unfold Qx;rw[←xY (j+1) l,ww,yL,xY];omega
   rw[zi,yL]at zj;have z8:=fun q' G'=>ih2 (j+1,q',G');simp only[zi]at z8;clear zi;repeat first|(refine r_ ?_;simp[z6,zh])|refine q_ ?_
   generalize hs:l[j][i]=s at *;generalize Qx (l.take j) i=acc at *;refine Qk tOk mixed [13,15] (.val 0 (.val 2 (.val 3 (.val 4 (.val 5 (.val 6 (.val 7 (.val 8 (.val 9 (.val 10 (.val 11 (.val 12 (.two 1 (.one 13 (.val 14 (.one 15 (.done)))) 13 (.val 1 (.val 14 (.one 15 (.done))))))))))))))))) rfl (by kernel_rfl) ?_
   simp[Qb k1,Qb k2,z1,zh,z6,hs,z7];have zv:q≠0:=by omega
   have zw:q≠1:=by omega
   have zx:q≠2:=by omega
   have y3:=(zE.1 k3).1;have m0:∀L,(G.set q .dead++L)[0]? =some (AObj.vars [AV.nils]):=fun L=>Qb (Qd zv k0 _) L;have m1:∀L,(G.set q .dead++L)[1]? =some (.va 171 1 (row.set i (.sl q 2 0 acc.length))):=fun L=>Qb (Qd zw k1 _) L;have zc:∀L hh,(G.set q .dead++L)[1]'hh= .va 171 1 (row.set i (.sl q 2 0 acc.length)):=fun L hh=>by have:=m1 L;rw[zP hh]at this;exact Option.some.inj this
   have m2:∀L,(G.set q .dead++L)[2]? =some (AObj.vars [AV.sl 1 1 0 T]):=fun L=>Qb (Qd zx k2 _) L;have n2:∀L,(G++L)[2]? =some (AObj.vars [AV.sl 1 1 0 T]):=fun L=>Qb k2 L;refine⟨?_,?_⟩
   ·refine Qf tOk rfl rfl U6 rfl A7 rfl (by decide) (by decide) rfl rfl rfl ?_;simp[Qb k3,Qj k3,m0,m1,zc,m2,n2,z1,z7];refine⟨by simp[Wk,Qb k3,Qj k3,m0,m1,zc,m2,n2,z1,z7]<;>omega,?_⟩;repeat first|(refine r_ ?_;simp[zn])|refine q_ ?_
    refine Qc (sl':=[(0,.i T),(1,LP l),(4,.vptr 0 0),(5,.vptr 2 0),(6,.i i),(12,.i T),(13,.i i),(16,LP l),(17,.i l.length),(18,.i (j+1:Nat))]) ?_ (by simp);refine z8 (G.length+1) _ ⟨by omega,by omega,Qd (by decide) (m0 _) _,?_,Qd (by decide) (m2 _) _,?_⟩ (by omega)
    ·rw[Qh (m1 _) _];simp
    ·rw[zH (by omega),zL (by simp)];simp
   ·refine Qf tOk rfl rfl U6 rfl A7 rfl (by decide) (by decide) rfl rfl rfl ?_;simp[Qb k3,Qj k3,m0,m1,zc,m2,n2,z1,z7];refine⟨by simp[Wk,Qb k3,Qj k3,m0,m1,zc,m2,n2,z1,z7]<;>omega,?_⟩;repeat first|(refine r_ ?_;simp[zn])|refine q_ ?_
    refine Qc (sl':=[(0,.i T),(1,LP l),(4,.vptr 0 0),(5,.vptr 2 0),(6,.i i),(12,.i T),(13,.i i),(16,LP l),(17,.i l.length),(18,.i (j+1:Nat))]) ?_ (by simp);refine z8 (G.length+1) _ ⟨by omega,by omega,Qd (by decide) (m0 _) _,?_,Qd (by decide) (m2 _) _,?_⟩ (by omega)
    ·rw[Qh (m1 _) _];simp
    ·rw[zH (by omega),zL (by simp)];simp
  ·have zb:j=l.length:=by simp at zg;omega
   subst zb;rw[xB]at k1 k3;have zo:∀y∈Qx l i,U5 y∧y.lo≤y.hi:=fun y hy=>C7 hl hy;have y4:∀L,(G++L)[2]? =some (AObj.vars [AV.sl 1 1 0 T]):=fun L=>Qb k2 L;have zy:∀hh,G[1]'hh= .va 171 1 (row.set i (.sl q 2 0 (Qx l i).length)):=fun hh=>by rw[zP hh]at k1;exact Option.some.inj k1
   repeat first|(refine r_ ?_;simp)|refine q_ ?_
   refine Qk tOk mixed [8,10] (.val 0 (.val 2 (.val 3 (.val 4 (.val 5 (.val 6 (.val 7 (.two 1 (.one 8 (.val 9 (.one 10 (.done)))) 8 (.val 1 (.val 9 (.one 10 (.done)))))))))))) rfl (by kernel_rfl) ?_;simp[k1,zy,k2,z1,z7];refine⟨?_,?_⟩
   ·refine Q8 rfl rfl (Cv G q (Qx l i) k3 zd zo) rfl ?_;rintro r H' ⟨rfl,hl',za⟩;have zz:=(zE.1 k2).1;have u0:=(za 0 (by omega) (by omega)).trans k0;have u1:=(za 1 (by omega) (by omega)).trans k1;have u2:=(za 2 (by omega) (by omega)).trans k2;have zk:∀hh,H'[1]'hh= .va 171 1 (row.set i (.sl q 2 0 (Qx l i).length)):=fun hh=>by rw[zP hh]at u1;exact Option.some.inj u1
    simp[u1,zk,u2,z1,z7];repeat first|(refine r_ ?_;simp[hw])|refine q_ ?_
    refine Qc (sl':=[(0,.i T),(1,LP l),(4,.vptr 0 0),(5,.vptr 2 0),(12,.i T),(13,.i (i+1:Nat))]) ?_ (by simp);exact ze _ ⟨by omega,by simp;omega,Qd (by decide) u0 _,Qh u1 _,Qd (by decide) u2 _⟩ (by omega)
   ·refine Q8 rfl rfl (Cv G q (Qx l i) k3 zd zo) rfl ?_;rintro r H' ⟨rfl,hl',za⟩;have zz:=(zE.1 k2).1;have u0:=(za 0 (by omega) (by omega)).trans k0;have u1:=(za 1 (by omega) (by omega)).trans k1;have u2:=(za 2 (by omega) (by omega)).trans k2;have zk:∀hh,H'[1]'hh= .va 171 1 (row.set i (.sl q 2 0 (Qx l i).length)):=fun hh=>by rw[zP hh]at u1;exact Option.some.inj u1
    simp[u1,zk,u2,z1,z7];repeat first|(refine r_ ?_;simp[hw])|refine q_ ?_
    refine Qc (sl':=[(0,.i T),(1,LP l),(4,.vptr 0 0),(5,.vptr 2 0),(12,.i T),(13,.i (i+1:Nat))]) ?_ (by simp);exact ze _ ⟨by omega,by simp;omega,Qd (by decide) u0 _,Qh u1 _,Qd (by decide) u2 _⟩ (by omega)
 ·have zl:i=T:=by simp at zr;omega
  subst zl;refine I7 1 g1 (f0k _ _) ?_;rw[Lx]at *
  have y0:(yV i).map (fun k=>Ej (Qx l k))=Ud i l:=by unfold Ud;rfl
  rw[y0]at *;refine We 1 (Qh g1 _) 2 (Qd (by decide) g2 _) ?_
  have zp:=q0x i l;have e0:∀Y,((H2.set 1 AObj.dead).set 2 Y)[0]? =some (AObj.vars [AV.nils]):=fun Y=>Qd (by decide) (Qd (by decide) g0 _) _;have y1:∀Y hh,((H2.set 1 AObj.dead).set 2 Y)[0]'hh=AObj.vars [AV.nils]:=fun Y hh=>by have:=e0 Y;rw[zP hh]at this;exact Option.some.inj this
  have e2:∀Y,((H2.set 1 AObj.dead).set 2 Y)[2]? =some Y:=fun Y=>Qh (Qd (by decide) g2 _) _;have e3:∀Y Z,(((H2.set 1 AObj.dead).set 2 Y).set 0 Z)[0]? =some Z:=fun Y Z=>Qh (e0 Y) _;simp[zp];rw[zV (by simp[zp])];repeat first|(refine r_ ?_;simp[e0,y1,e2,e3])|refine q_ ?_
end Go.Abs
namespace Go.Abs
open Go Go.Proofs
theorem GL.keepAll{K G G':List AObj}{S p:Nat}{pre post:List AV}{e sz:Nat}{xs:List AV}(h:GL K G S p pre post e sz xs)(hk:∀j,j<G.length→G'[j]? =G[j]?)(hl:G.length≤G'.length):GL K G' S p pre post e sz xs:=by have h1:=h.len;have h2:=h.lt;have h3:=(zE.1 h.arr).1;exact⟨(hk _ (by omega)).trans h.cell,(hk _ h3).trans h.arr,h.ge,h.lt,by omega,fun j hj z1=>(hk j (by omega)).trans (h.keep j hj z1)⟩
theorem SL.le{K G:List AObj}{p e sz:Nat}{xs:List AV}(h:SL K G p e sz xs):K.length≤G.length:=by have:=(zE.1 h.arr).1;have:=h.ge;omega
attribute [local irreducible] upL Wv Rj
theorem z1q(T:Nat)(p:Prd)(hp:PWf T p)(hl:∀s∈p,s.length≤1000000)(hT:T≤1000):PC Tryz.prog 131 [encP p] (fun r=>r=encP (W6 p)):=by
 refine Ql tOk Tryz.func131 rfl Tryz.results131 rfl (by simp[Tryz.ntmps131]) ?_;rw[Tryz.ntmps131];simp only[Qg];simp only[encP];have hlen:=hp.1;repeat first|(refine r_ ?_;simp)|refine q_ ?_
 refine Eo 2 0 171 1 rfl rfl ?_;simp;obtain⟨K,hK⟩:∃K,K=[AObj.vars [.list (p.map encL)],AObj.vars [AV.nils],AObj.vars [AV.nils]]:=⟨_,rfl⟩
 have zn:=GL.start (K:=K) (S:=2) [] [] 171 1 (by rw[hK];simp);refine Qo (Qc (sl':=[(2,.vptr 1 0),(3,.vptr 2 0),(11,.list (p.map encL)),(12,.i p.length),(13,.i 0)]) ?_ (by simp));refine Qp (F:=fun(u:Nat×Nat×List AObj)=>⟨[(2,.vptr 1 0),(3,.vptr 2 0),(11,.list (p.map encL)),(12,.i p.length),(13,.i u.1)],u.2.2⟩)
  (fun u=>u.1≤p.length∧GL K u.2.2 2 u.2.1 [] [] 171 1 (upL (fun i=>Wv (p.getD i [])) u.1)) (fun u=>p.length - u.1) ?_ (0,K.length,_) ⟨by simp,by rw[Pp,hK]at *;exact zn⟩
 rintro⟨j,q,H2⟩ ⟨hj,g⟩ ih;simp only at hj g ih ⊢;repeat first|(refine r_ ?_;simp)|refine q_ ?_
 refine Qa rfl (fun zo=> ?_) (fun zp=> ?_)
 ·have z7:j<p.length:=by simpa using zo
  have hw:IntKind.i64.wrap ((j:Int)+1)=j+1:=wrap_i64 _ (by omega) (by omega);have hs:=hp.2 _ (zT z7);have zy:=hl _ (zT z7);have zz:=(Pb hs.1 hs.2).2.2;have zj:upL (fun i=>Wv (p.getD i [])) j++[encL (Wv p[j])]=upL (fun i=>Wv (p.getD i [])) (j+1):=by rw[P3,Wq z7]
  have z6:=W8 (fun i=>Wv (p.getD i [])) j;have zc:=fun q' H'=>ih (j+1,q',H');simp only[←zj]at zc;clear zj;generalize upL (fun i=>Wv (p.getD i [])) j=done at *
  repeat first|(refine r_ ?_;simp[z7])|refine q_ ?_
  generalize p[j]=l at *
  obtain⟨zk,hb⟩:=hs;refine Q6 6 187 2 rfl ?_;simp;have zd:=SL.start H2 187 2;refine Qo (Qc (sl':=[(2,.vptr 1 0),(3,.vptr 2 0),(6,.sl H2.length 2 0 0),(7,.i (-1099511627776)),(11,.list (p.map encL)),(12,.i p.length),(13,.i j),(17,LIv l),(18,.i l.length),(19,.i (0:Nat))]) ?_ (by simp));refine Qp (F:=fun(u:Nat×Nat×List Iv×Int×List AObj)=>⟨[(2,.vptr 1 0),(3,.vptr 2 0),(6,.sl u.2.1 2 0 u.2.2.1.length),(7,.i u.2.2.2.1),(11,.list (p.map encL)),(12,.i p.length),(13,.i j),(17,LIv l),(18,.i l.length),(19,.i u.1)],u.2.2.2.2⟩)
   (fun u=>u.1≤l.length∧SL H2 u.2.2.2.2 u.2.1 187 2 (u.2.2.1.map encIv)∧u.2.2.1++Rj (l.drop u.1) u.2.2.2.1=Wv l) (fun u=>l.length - u.1) ?_ (0,H2.length,[],-1099511627776,_) ⟨by simp,zd,by simp[w0y]⟩
  rintro⟨k,p2,acc,n,G⟩ ⟨hk,s1,g2⟩ ih2;simp only at hk s1 g2 ih2 ⊢;have y0:acc.length≤1000001:=by have:=congrArg List.length g2;simp only[yL]at this;omega
  repeat first|(refine r_ ?_;simp)|refine q_ ?_
  refine Qa rfl (fun ze=> ?_) (fun zf=> ?_)
  ·have z1:k<l.length:=by simpa using ze
   have zq:=hb _ ⟨l[k],zT z1,xF _,zk.1 _ (zT z1)⟩;have zr:=hb _ ⟨l[k],zT z1,zk.1 _ (zT z1),xF _⟩;unfold inR at zq zr;have zl:IntKind.i64.wrap ((k:Int)+1)=k+1:=wrap_i64 _ (by omega) (by omega);have zt:IntKind.i64.wrap (l[k].lo - 1)=l[k].lo - 1:=wrap_i64 _ (by omega) (by omega);have zm:IntKind.i64.wrap (l[k].hi+1)=l[k].hi+1:=wrap_i64 _ (by omega) (by omega);rw[Ea z1,P9]at g2;repeat first|(refine r_ ?_;simp[z1])|refine q_ ?_
   refine Qa rfl (fun h3=> ?_) (fun h3=> ?_)
   ·rw[if_pos (by simpa using h3)]at g2;repeat first|(refine r_ ?_;simp[z1,zt])|refine q_ ?_
    refine Qf tOk rfl rfl U6 rfl A7 rfl (by decide) (by decide) rfl rfl rfl ?_;simp[Qb s1.arr,Qj s1.arr];refine⟨by simp[Wk,Qb s1.arr,Qj s1.arr]<;>omega,?_⟩;repeat first|(refine r_ ?_;simp[z1,zl,zm])|refine q_ ?_
    refine Qc (sl':=[(2,.vptr 1 0),(3,.vptr 2 0),(6,.sl (G.length+2) 2 0 (acc.length+1)),(7,.i (l[k].hi+1)),(11,.list (p.map encL)),(12,.i p.length),(13,.i j),(17,LIv l),(18,.i l.length),(19,.i (k+1:Nat))]) ?_ (by simp);have:=ih2 (k+1,G.length+2,acc++[(⟨n,l[k].lo - 1⟩:Iv)],l[k].hi+1,_) ⟨by simp;omega,s1.put [AObj.vars [AV.i l[k].lo,AV.i l[k].hi],.arr 187 2 [encIv (⟨n,l[k].lo - 1⟩:Iv)]] ((acc++[(⟨n,l[k].lo - 1⟩:Iv)]).map encIv) rfl,by simpa using g2⟩ (by simp;omega);simpa using this
   ·rw[if_neg (by simpa using h3)]at g2;repeat first|(refine r_ ?_;simp[z1,zl,zm])|refine q_ ?_
    refine Qc (sl':=[(2,.vptr 1 0),(3,.vptr 2 0),(6,.sl p2 2 0 acc.length),(7,.i (l[k].hi+1)),(11,.list (p.map encL)),(12,.i p.length),(13,.i j),(17,LIv l),(18,.i l.length),(19,.i (k+1:Nat))]) ?_ (by simp);have:=ih2 (k+1,p2,acc,l[k].hi+1,_) ⟨by simp;omega,s1.add [AObj.vars [AV.i l[k].lo,AV.i l[k].hi]],by simpa using g2⟩ (by simp;omega);simpa using this
  ·have zb:k=l.length:=by simp at zf;omega
   subst zb;rw[ws,Db]at g2;repeat first|(refine r_ ?_;simp)|refine q_ ?_
   refine Qa rfl (fun h3=> ?_) (fun h3=> ?_)
   ·rw[if_pos (by simpa using h3)]at g2;repeat first|(refine r_ ?_;simp)|refine q_ ?_
    refine Qf tOk rfl rfl U6 rfl A7 rfl (by decide) (by decide) rfl rfl rfl ?_;simp[Qb s1.arr,Qj s1.arr];refine⟨by simp[Wk,Qb s1.arr,Qj s1.arr]<;>omega,?_⟩;have s2:=s1.put [.arr 187 2 [encIv (⟨n,1099511627776⟩:Iv)]] ((acc++[(⟨n,1099511627776⟩:Iv)]).map encIv) rfl;have e1:(acc++[(⟨n,1099511627776⟩:Iv)]).length=acc.length+1:=by simp
    rw[g2]at s2 e1;rw[←e1];have e2:acc.map encIv++[AV.agg [AV.int IntKind.i64 n,AV.int IntKind.i64 1099511627776]]=(Wv l).map encIv:=by rw[←g2];simp
    rw[e2];refine Qw (sl':=[(2,.vptr 1 0),(3,.vptr 2 0),(6,.sl (G.length+1) 2 0 (Wv l).length),(11,.list (p.map encL)),(12,.i p.length),(13,.i j)]) ?_ (by simp);generalize zg:G.set p2 AObj.dead++[AObj.arr 187 2 [AV.agg [AV.int IntKind.i64 n,AV.int IntKind.i64 1099511627776]],AObj.arr 187 2 ((Wv l).map encIv)]=GE;have s3:SL H2 GE (G.length+1) 187 2 ((Wv l).map encIv):=by rw[←zg];simpa using s2
    clear s1 s2 zg;refine Wl (G.length+1) s3.arr ?_;simp;rw[zV (by simp)];have zu:=(zE.1 s3.arr).1;have zv:=s3.ge;have g':=g.keepAll (G':=GE.set (G.length+1) .dead) (fun j hj=>by rw[zH (by omega)];exact s3.keep j hj) (by simp;have:=s3.le;omega);generalize GE.set (G.length+1) .dead=E at *
    have c2:=g'.cell;have c3:=g'.arr;rw[z6]at c2;simp only[wC]at c2;have z8:∀L:List AObj,(E.set q .dead++L)[2]? =some (AObj.vars [AV.sl q 1 0 j]):=fun L=>by have:=g'.at L;rw[z6]at this;exact this
    have za:=fun A y=>g'.put A y z6.symm;repeat first|(refine r_ ?_;simp[c2])|refine q_ ?_
    refine Qf tOk rfl rfl T74 rfl U6 rfl (by decide) (by decide) rfl rfl rfl ?_;simp[Qb c3,Qj c3,z6,z8];refine⟨by simp[Wk,Qb c3,Qj c3,z6,z8]<;>omega,?_⟩;repeat first|(refine r_ ?_;simp[c2,hw,z8])|refine q_ ?_
    refine Qc (sl':=[(2,.vptr 1 0),(3,.vptr 2 0),(11,.list (p.map encL)),(12,.i p.length),(13,.i (j+1:Nat))]) ?_ (by simp);exact zc (E.length+1) _ ⟨by omega,za _ _⟩ (by omega)
   ·rw[if_neg (by simpa using h3),xO]at g2;subst g2;refine Qw (sl':=[(2,.vptr 1 0),(3,.vptr 2 0),(6,.sl p2 2 0 (Wv l).length),(11,.list (p.map encL)),(12,.i p.length),(13,.i j)]) ?_ (by simp);have s3:=s1;clear s1;generalize zg:G=GE at *;refine Wl p2 s3.arr ?_
    simp;rw[zV (by simp)];have zu:=(zE.1 s3.arr).1;have zv:=s3.ge;have g':=g.keepAll (G':=GE.set p2 .dead) (fun j hj=>by rw[zH (by omega)];exact s3.keep j hj) (by simp;have:=s3.le;omega);generalize GE.set p2 .dead=E at *
    have c2:=g'.cell;have c3:=g'.arr;rw[z6]at c2;simp only[wC]at c2;have z8:∀L:List AObj,(E.set q .dead++L)[2]? =some (AObj.vars [AV.sl q 1 0 j]):=fun L=>by have:=g'.at L;rw[z6]at this;exact this
    have za:=fun A y=>g'.put A y z6.symm;repeat first|(refine r_ ?_;simp[c2])|refine q_ ?_
    refine Qf tOk rfl rfl T74 rfl U6 rfl (by decide) (by decide) rfl rfl rfl ?_;simp[Qb c3,Qj c3,z6,z8];refine⟨by simp[Wk,Qb c3,Qj c3,z6,z8]<;>omega,?_⟩;repeat first|(refine r_ ?_;simp[c2,hw,z8])|refine q_ ?_
    refine Qc (sl':=[(2,.vptr 1 0),(3,.vptr 2 0),(11,.list (p.map encL)),(12,.i p.length),(13,.i (j+1:Nat))]) ?_ (by simp);exact zc (E.length+1) _ ⟨by omega,za _ _⟩ (by omega)
 ·have zh:j=p.length:=by simp at zp;omega
  subst zh;have g2:=g.cell;have g3:=g.arr;rw[W8]at g2;simp only[wC]at g2;have gR:H2[1]? =some (AObj.vars [AV.nils]):=g.kp (by decide) (by rw[hK];rfl);have hS:=(zE.1 g2).1;have zw:q≠1∧q≠2:=by have:=g.ge;rw[hK]at this;simp at this;omega
  have z6:=W8 (fun i=>Wv (p.getD i [])) p.length;have zi: .list (upL (fun i=>Wv (p.getD i [])) p.length)=AV.list ((W6 p).map encL):=by rw[Hd,J4];rfl
  generalize upL (fun i=>Wv (p.getD i [])) p.length=xs at *
  refine We q g3 2 g2 ?_;have k1:∀X,((H2.set q .dead).set 2 X)[1]? =some (AObj.vars [AV.nils]):=fun X=>Qd (by decide) (Qd zw.1 gR _) _;have zx:∀X hh,((H2.set q .dead).set 2 X)[1]'hh=AObj.vars [AV.nils]:=fun X hh=>by have:=k1 X;rw[zP hh]at this;exact Option.some.inj this
  have k2:∀X,((H2.set q .dead).set 2 X)[2]? =some X:=fun X=>zU (by simpa using hS);have k3:∀X Y,(((H2.set q .dead).set 2 X).set 1 Y)[1]? =some Y:=fun X Y=>Qh (k1 X) _;simp[z6];rw[zV (by omega)];repeat first|(refine r_ ?_;simp[k1,zx,k2,k3])|refine q_ ?_
  exact AV.list.inj zi
end Go.Abs
namespace Go.Abs
open Go Go.Proofs
theorem C5(l:List Bool)(hb:l.length≤1000000):FR Tryz.prog 129 [.list (l.map .bool)] 4 1 (fun r=>r=l.map .bool):=by
 refine N3 tOk Tryz.func129 rfl Tryz.results129 rfl (by simp[Tryz.ntmps129]) ?_;rw[Tryz.ntmps129];simp only[Qg];repeat first|(refine r_ ?_;simp)|refine q_ ?_
 refine Fq tOk rfl rfl T22 rfl rfl rfl (fun b z1=> ?_);simp;refine Qa rfl (fun h=> ?_) (fun h=> ?_)
 ·subst h;have:l=[]:=by
   cases hx:l
   ·rfl
   ·have:=z1 (by simp[hx]);cases this
  rw[this];repeat first|(refine r_ ?_;simp)|refine q_ ?_
 ·repeat first|(refine r_ ?_;simp)|refine q_ ?_
  refine Qf tOk rfl rfl T22 rfl T4 rfl (by decide) (by decide) rfl rfl rfl ?_;simp;refine⟨⟨?_,by simp;omega⟩,?_⟩
  ·intro y hy;obtain⟨x,_,rfl⟩:=zX.1 hy;exact⟨rfl,by simp[AV.cells,AV.leaf]⟩
  repeat first|(refine r_ ?_;simp)|refine q_ ?_
theorem Gz(l:List Mv)(hb:l.length≤1000000):FR Tryz.prog 130 [.list (l.map encMv)] 78 3 (fun r=>r=l.map encMv):=by
 refine N3 tOk Tryz.func130 rfl Tryz.results130 rfl (by simp[Tryz.ntmps130]) ?_;rw[Tryz.ntmps130];simp only[Qg];repeat first|(refine r_ ?_;simp)|refine q_ ?_
 refine Fq tOk rfl rfl T23 rfl rfl rfl (fun b z1=> ?_);simp;refine Qa rfl (fun h=> ?_) (fun h=> ?_)
 ·subst h;have:l=[]:=by
   cases hx:l
   ·rfl
   ·have:=z1 (by simp[hx]);cases this
  rw[this];repeat first|(refine r_ ?_;simp)|refine q_ ?_
 ·repeat first|(refine r_ ?_;simp)|refine q_ ?_
  refine Qf tOk rfl rfl T23 rfl T78 rfl (by decide) (by decide) rfl rfl rfl ?_;simp;refine⟨⟨?_,by simp;omega⟩,?_⟩
  ·intro y hy;obtain⟨x,_,rfl⟩:=zX.1 hy;exact⟨rfl,by simp[AV.cells,AV.leaf]⟩
  repeat first|(refine r_ ?_;simp)|refine q_ ?_
attribute [local irreducible] v1o
theorem Gt(H:List AObj)(f:Nat)(a:Aut)(hf:H[f]? =some (.arr 4 1 (a.fin.map .bool)))(zd:a.fin.length≤1000000)(ze:a.mv.length≤1000000):
  FC Tryz.prog 61 [.agg [.i a.types,.sl f 1 0 a.fin.length,.list (a.mv.map encMv)]] H
   (fun r H'=>((Mf a=true∧r= .tup [.agg [.i 0,.nils,.nils],.i 5])∨(Mf a=false∧r= .tup [.agg [.i a.types,.sl f 1 0 a.fin.length,.list (a.mv.map encMv)],.i 0]))∧∀i,i<H.length→H'[i]? =H[i]?):=by
 refine W9 tOk Tryz.func61 rfl Tryz.results61 rfl (by simp[Tryz.ntmps61]) ?_;rw[Tryz.ntmps61];simp only[Qg];repeat first|(refine r_ ?_;simp)|refine q_ ?_
 refine Qa rfl (fun h=> ?_) (fun h=> ?_)
 ·repeat first|(refine r_ ?_;simp)|refine q_ ?_
  have hb:Mf a=true:=by rw[N6,ue];left;simp at h ⊢;omega
  exact⟨hb,fun i hi=>zI hi⟩
 have hb:(decide (256<a.fin.length) || decide (2048<a.mv.length))=false:=by simp at h ⊢;omega
 repeat first|(refine r_ ?_;simp)|refine q_ ?_
 refine Qo (Qc (sl':=[(1,.vptr H.length 0),(2,.vptr (H.length+1) 0),(18,.list (a.mv.map encMv)),(19,.i a.mv.length),(20,.i (0:Nat))]) ?_ (by simp));refine Qp (F:=fun(u:Nat×List AObj)=>⟨[(1,.vptr H.length 0),(2,.vptr (H.length+1) 0),(18,.list (a.mv.map encMv)),(19,.i a.mv.length),(20,.i u.1)],u.2⟩)
  (fun u=>u.1≤a.mv.length∧H.length+2≤u.2.length∧(∀i,i<H.length→u.2[i]? =H[i]?)∧u.2[H.length]? =some (.vars [.i a.types,.sl f 1 0 a.fin.length,.list (a.mv.map encMv)])∧u.2[H.length+1]? =some (.vars [.i 0,.nils,.nils])∧∀i,∀hi:i<a.mv.length,i<u.1→v1o a.mv[i]=false) (fun u=>a.mv.length - u.1) ?_ (0,_)
  ⟨by simp,by simp,fun i hi=>zI hi,by simp,by simp,fun i hi h=>by omega⟩
 rintro⟨j,G⟩ ⟨hj,hG,k0,k1,k2,hI⟩ ih;simp only at hj hG k0 k1 k2 hI ih ⊢;repeat first|(refine r_ ?_;simp)|refine q_ ?_
 refine Qa rfl (fun za=> ?_) (fun zb=> ?_)
 ·have z1:j<a.mv.length:=by simpa using za
  have hw:IntKind.i64.wrap ((j:Int)+1)=j+1:=wrap_i64 _ (by omega) (by omega);repeat first|(refine r_ ?_;simp[z1])|refine q_ ?_
  refine Qe rfl rfl (by simp) (S3 a.mv[j].on 126 (fun s=>decide (256<s.length)) j10) rfl ?_;rintro _ rfl;simp;repeat first|(refine r_ ?_;simp)|refine q_ ?_
  have z8:∀L,(G++L)[H.length+1]? =some (.vars [.i 0,.nils,.nils]):=fun L=>Qb k2 L;refine Qa rfl (fun h=> ?_) (fun h=> ?_)
  ·have k3:∀L Y,((G++L).set (H.length+1) Y)[H.length+1]? =some Y:=fun L Y=>Qh (z8 L) Y;repeat first|(refine r_ ?_;simp[z8,k3])|refine q_ ?_
   have hm:v1o a.mv[j]=true:=by unfold v1o;exact h
   have z6:Mf a=true:=by rw[N6,ue];right;exact vK.2 ⟨_,zT z1,hm⟩
   exact⟨z6,fun i hi=>by rw[zH (by omega),zI (by omega)];exact k0 i hi⟩
  ·have hm:v1o a.mv[j]=false:=by unfold v1o;exact h
   repeat first|(refine r_ ?_;simp[hw])|refine q_ ?_
   refine Qc (sl':=[(1,.vptr H.length 0),(2,.vptr (H.length+1) 0),(18,.list (a.mv.map encMv)),(19,.i a.mv.length),(20,.i (j+1:Nat))]) ?_ (by simp);refine ih (j+1,_) ⟨by simp only;omega,by simp;omega,fun i hi=>(zI (by omega)).trans (k0 i hi),Qb k1 _,Qb k2 _,fun i hi zc=> ?_⟩ (by simp only;omega);by_cases e:i=j
   ·subst e;exact hm
   ·exact hI i hi (by simp only at zc;omega)
 ·have z7:j=a.mv.length:=by simp at zb;omega
  subst z7;have z6:Mf a=false:=by rw[N6,hb,Bool.false_or,List.any_eq_false];intro m hm;obtain⟨i,hi,rfl⟩:=xE hm;rw[hI i hi hi];simp
  have k3:∀Y,(G.set (H.length+1) Y)[H.length+1]? =some Y:=fun Y=>Qh k2 Y;repeat first|(refine r_ ?_;simp[k1,k2,k3])|refine q_ ?_
  exact⟨z6,fun i hi=>by rw[zH (by omega)];exact k0 i hi⟩
end Go.Abs
namespace Go.Abs
open Go Go.Proofs
structure CM (H:List AObj) (a:Aut) (G:List AObj) (f p c:Nat) (xs:List AV):Prop where
 b:G[H.length]? =some (.vars (Q7 a))
 r:G[H.length+1]? =some (.vars [.i 0,.nils,.nils])
 k:∀i,i<H.length→G[i]? =H[i]?
 ce:G[c]? =some (.vars [.i a.types,.sl f 1 0 a.fin.length,.sl p 3 0 xs.length])
 fe:G[f]? =some (.arr 4 1 (a.fin.map .bool))
 m:G[p]? =some (.arr 78 3 xs)
 hf:H.length+2≤f
 hc:H.length+2≤c
 hp:H.length+2≤p
theorem CM.keepAll{H:List AObj}{a:Aut}{G G':List AObj}{f p c:Nat}{xs:List AV}(h:CM H a G f p c xs)(hk:∀j,j<G.length→G'[j]? =G[j]?):CM H a G' f p c xs:=by have l1:=(zE.1 h.b).1;have l2:=(zE.1 h.r).1;have l3:=(zE.1 h.ce).1;have l4:=(zE.1 h.fe).1;have l5:=(zE.1 h.m).1;exact⟨(hk _ l1).trans h.b,(hk _ l2).trans h.r,fun i hi=>(hk i (by omega)).trans (h.k i hi),(hk _ l3).trans h.ce,(hk _ l4).trans h.fe,(hk _ l5).trans h.m,h.hf,h.hc,h.hp⟩
theorem CM.ne1{H:List AObj}{a:Aut}{G:List AObj}{f p c:Nat}{xs:List AV}(h:CM H a G f p c xs):p≠c∧p≠f∧c≠f:=by
 refine⟨fun e=> ?_,fun e=> ?_,fun e=> ?_⟩
 ·have h1:=h.ce;have h2:=h.m;subst e;rw[h1]at h2;simp at h2
 ·have h1:=h.fe;have h2:=h.m;subst e;rw[h1]at h2;simp at h2
 ·have h1:=h.fe;have h2:=h.ce;subst e;rw[h1]at h2;simp at h2
theorem CM.put{H:List AObj}{a:Aut}{G:List AObj}{f p c:Nat}{xs:List AV}(h:CM H a G f p c xs)(A:AObj)(ys:List AV):
  CM H a ((G.set p .dead++[A,.arr 78 3 ys]).set c (.vars [.i a.types,.sl f 1 0 a.fin.length,.sl (G.length+1) 3 0 ys.length])) f (G.length+1) c ys:=by
 obtain⟨n1,n2,n3⟩:=h.ne1;have l3:=(zE.1 h.ce).1;have l5:=(zE.1 h.m).1;have hp:=h.hp;have hc:=h.hc;have hf:=h.hf;have low:∀i x,i≠p→i≠c→G[i]? =some x→((G.set p .dead++[A,.arr 78 3 ys]).set c (.vars [.i a.types,.sl f 1 0 a.fin.length,.sl (G.length+1) 3 0 ys.length]))[i]? =some x:=fun i x e1 e2 hx=>by rw[zH (fun e=>e2 e.symm),zI (by have:=(zE.1 hx).1;simpa using this),zH (fun e=>e1 e.symm)];exact hx
 refine⟨low _ _ (by omega) (by omega) h.b,low _ _ (by omega) (by omega) h.r,fun i hi=> ?_,zU (by simp;omega),low _ _ (by omega) (by omega) h.fe,?_,hf,hc,by omega⟩
 ·have hg:=h.k i hi;have z1:i<G.length:=by omega
  rw[zP z1]at hg;rw[low i _ (by omega) (by omega) (zP z1)];exact hg
 ·rw[zH (by omega),zL (by simp)];simp
theorem CM.cell{H:List AObj}{a:Aut}{G:List AObj}{f p c:Nat}{xs:List AV}(h:CM H a G f p c xs)(L:List AObj):(G.set p .dead++L)[c]? =some (.vars [.i a.types,.sl f 1 0 a.fin.length,.sl p 3 0 xs.length]):=
 Qb (Qd h.ne1.1 h.ce _) L
theorem CM.frz{H:List AObj}{a:Aut}{G:List AObj}{f p c:Nat}{xs:List AV}(h:CM H a G f p c xs)(X:AObj):
  ((G.set p .dead).set c X)[H.length]? =some (.vars (Q7 a))∧((G.set p .dead).set c X)[H.length+1]? =some (.vars [.i 0,.nils,.nils])∧((G.set p .dead).set c X)[c]? =some X∧((G.set p .dead).set c X)[f]? =some (.arr 4 1 (a.fin.map .bool))∧∀i,i<H.length→((G.set p .dead).set c X)[i]? =H[i]? :=by
 obtain⟨n1,n2,n3⟩:=h.ne1;have hp:=h.hp;have hc:=h.hc;have hf:=h.hf;refine⟨Qd (by omega) (Qd (by omega) h.b _) _,Qd (by omega) (Qd (by omega) h.r _) _,Qh (Qd n1 h.ce _) _,Qd n3 (Qd n2 h.fe _) _,fun i hi=> ?_⟩;rw[zH (by omega),zH (by omega)];exact h.k i hi
theorem q0h(l:List Iv):(Ej l).length≤l.length:=by unfold Ej;have:=Rc (E3 l) [];rw[Ge]at this;simpa using this
theorem j1c{T:Nat}{l:List Prd}{k:Nat}(h:∀i,i<T→(Qx l i).length≤k):∀s∈Ud T l,s.length≤k:=by intro s hs;obtain⟨i,hi,rfl⟩:=zX.1 hs;exact yW (q0h _) (h i (xJ.1 hi))
theorem q02{a:Aut}(h:OkA a)(s:Int)(i:Nat):(Qx (Kp a s) i).length≤1000000:=by
 have h1:(Kp a s).length≤2048:=by unfold Kp;rw[yO];exact yW (xX _ _) h.mvs
 have h2:∀p∈Kp a s,PCk a.types.toNat p:=fun p hp=>by obtain⟨m,hm,rfl⟩:=zX.1 hp;exact(h.mv m (List.mem_filter.1 hm).1).on
 have:=Yp h2 i;omega
def v00(a:Aut)(k:Nat):List Mv:=(yV k).filterMap fun s:Nat=>if Wi (Wx a s)then none else some ⟨s,a.fin.length,Wx a s⟩
theorem q0l(a:Aut):v00 a a.fin.length=Rp a (Wx a):=rfl
theorem g02(a:Aut)(k:Nat):v00 a (k+1)=v00 a k++(if Wi (Wx a k)then []else [⟨k,a.fin.length,Wx a k⟩]):=by unfold v00;rw[wQ,List.filterMap_append];cases h:Wi (Wx a k)<;>simp[h]
theorem w0p(a:Aut)(k:Nat):(v00 a k).length≤k:=by unfold v00;exact yW (List.length_filterMap_le _ _) (by simp)
theorem j02(a:Aut):v00 a 0=[]:=rfl
def c0s(a:Aut)(s:Int)(k:Nat):List Prd:=((a.mv.take k).filter fun m=>decide (m.src=s)).map (·.on)
theorem q08(a:Aut)(s:Int):c0s a s a.mv.length=Kp a s:=by rw[c0s,xB];rfl
theorem v06(a:Aut)(s:Int)(k:Nat)(h:k<a.mv.length):c0s a s (k+1)=c0s a s k++(if a.mv[k].src=s then [a.mv[k].on]else []):=by unfold c0s;rw[zY h,List.filter_append,yX];by_cases hb:a.mv[k].src=s<;>simp[hb]
theorem w0r(a:Aut)(s:Int)(k:Nat):(c0s a s k).length≤a.mv.length:=by unfold c0s;rw[yO];exact yW (xX _ _) (by simp;omega)
attribute [local irreducible] v00 Wx Wi Ud W6 Kp
theorem Xw(H:List AObj)(a:Aut)(ha:OkA a):FC Tryz.prog 71 [encA a] H
  (fun r H'=>((∃e,P2 a=(e,Ul)∧e≠0∧r= .tup [.agg [.i 0,.nils,.nils],.i e])∨
   (∃b f,P2 a=(0,b)∧r= .tup [.agg [.i b.types,.sl f 1 0 b.fin.length,.list (b.mv.map encMv)],.i 0]∧H'[f]? =some (.arr 4 1 (b.fin.map .bool))∧H.length≤f))∧∀i,i<H.length→H'[i]? =H[i]?):=by
 have zw:=ha.fin;have zx:=ha.mvs;refine W9 tOk Tryz.func71 rfl Tryz.results71 rfl (by simp[Tryz.ntmps71]) ?_;rw[Tryz.ntmps71];simp only[Qg];simp only[encA];repeat first|(refine r_ ?_;simp)|refine q_ ?_
 refine Av (P:=Tryz.prog) tOk mixed [10] (.val 0 (.val 1 (.val 2 (.val 3 (.val 5 (.val 6 (.two 4 (.two 7 (.val 8 (.one 9 (.one 10 (.done)))) 9 (.one 7 (.val 8 (.one 10 (.done))))) 9 (.one 4 (.one 7 (.val 8 (.one 10 (.done)))))))))))) (fun S'=>∃f p c,CM H a S'.hp f p c (a.mv.map encMv)∧look S'.sl 1=some (.vptr H.length 0)∧look S'.sl 2=some (.vptr (H.length+1) 0)∧look S'.sl 3=some (.i 0)∧look S'.sl 4=some (.vptr c 0)) rfl (by kernel_rfl) ?_ ?_
 ·simp;refine⟨?_,?_⟩
  ·refine Uw rfl rfl (by simp) (C5 a.fin (by omega)) rfl ?_;rintro _ rfl;simp;refine⟨?_,?_⟩
   ·refine Uw rfl rfl (by simp) (Gz a.mv (by omega)) rfl ?_;rintro _ rfl;simp;exact⟨H.length+2,H.length+3,by simp,by simp,fun i hi=>zI hi,by simp,by simp,by simp,by omega,by omega,by omega⟩
   ·refine Uw rfl rfl (by simp) (Gz a.mv (by omega)) rfl ?_;rintro _ rfl;simp;exact⟨H.length+2,H.length+4,by simp,by simp,fun i hi=>zI hi,by simp,by simp,by simp,by omega,by omega,by omega⟩
  ·refine Uw rfl rfl (by simp) (C5 a.fin (by omega)) rfl ?_;rintro _ rfl;simp;refine Uw rfl rfl (by simp) (Gz a.mv (by omega)) rfl ?_;rintro _ rfl;simp;exact⟨H.length+3,H.length+4,by simp,by simp,fun i hi=>zI hi,by simp,by simp,by simp,by omega,by omega,by omega⟩
 ·rintro⟨sl,G⟩ ⟨f,p,c,g,e1,e2,e3,e4⟩;simp only at g e1 e2 e3 e4;refine Qw (sl':=[(1,.vptr H.length 0),(2,.vptr (H.length+1) 0),(3,.i 0),(4,.vptr c 0)]) ?_ (by simp[e1,e2,e3,e4]);have g1:=g.b;repeat first|(refine r_ ?_;simp[g1])|refine q_ ?_
  refine Qo (Qc (sl':=[(1,.vptr H.length 0),(2,.vptr (H.length+1) 0),(3,.i 0),(4,.vptr c 0),(5,.i a.fin.length),(27,.i a.fin.length),(28,.i (0:Nat))]) ?_ (by simp));refine Qp (F:=fun(u:Nat×Nat×List AObj)=>⟨[(1,.vptr H.length 0),(2,.vptr (H.length+1) 0),(3,.i 0),(4,.vptr c 0),(5,.i a.fin.length),(27,.i a.fin.length),(28,.i u.1)],u.2.2⟩)
   (fun u=>u.1≤a.fin.length∧CM H a u.2.2 f u.2.1 c ((a.mv++v00 a u.1).map encMv)) (fun u=>a.fin.length - u.1) ?_ (0,p,G) ⟨by simp,by rw[j02,xO];exact g⟩
  clear g g1;rintro⟨s,p,G⟩ ⟨hs,g⟩ ih;simp only at hs g ih ⊢;repeat first|(refine r_ ?_;simp)|refine q_ ?_
  refine Qa rfl (fun zy=> ?_) (fun zz=> ?_)
  ·have y0:s<a.fin.length:=by simpa using zy
   have hw:IntKind.i64.wrap ((s:Int)+1)=s+1:=wrap_i64 _ (by omega) (by omega);have g1:∀L,(G++L)[H.length]? =some (.vars (Q7 a)):=fun L=>Qb g.b L;repeat first|(refine r_ ?_;simp[g1])|refine q_ ?_
   have zp:=SL.start G 76 1;refine Qo (Qc (sl':=[(1,.vptr H.length 0),(2,.vptr (H.length+1) 0),(3,.i 0),(4,.vptr c 0),(5,.i a.fin.length),(6,.i s),(7,.sl G.length 1 0 0),(27,.i a.fin.length),(28,.i s),(33,.list (a.mv.map encMv)),(34,.i a.mv.length),(35,.i (0:Nat))]) ?_ (by simp));refine Qp (F:=fun(u:Nat×Nat×List AObj)=>⟨[(1,.vptr H.length 0),(2,.vptr (H.length+1) 0),(3,.i 0),(4,.vptr c 0),(5,.i a.fin.length),(6,.i s),(7,.sl u.2.1 1 0 (c0s a s u.1).length),(27,.i a.fin.length),(28,.i s),(33,.list (a.mv.map encMv)),(34,.i a.mv.length),(35,.i u.1)],u.2.2⟩)
    (fun u=>u.1≤a.mv.length∧SL G u.2.2 u.2.1 76 1 ((c0s a s u.1).map encP)) (fun u=>a.mv.length - u.1) ?_ (0,G.length,_) ⟨by simp,zp⟩
   rintro⟨k,q,E⟩ ⟨hk,s1⟩ ih2;simp only at hk s1 ih2 ⊢;repeat first|(refine r_ ?_;simp)|refine q_ ?_
   refine Qa rfl (fun zh=> ?_) (fun zi=> ?_)
   ·have z7:k<a.mv.length:=by simpa using zh
    have zq:IntKind.i64.wrap ((k:Int)+1)=k+1:=wrap_i64 _ (by omega) (by omega);have zb:=v06 a s k z7;have ya:=w0r a s k;have z6:=fun q' E'=>ih2 (k+1,q',E');simp only[zb]at z6;clear zb;generalize c0s a s k=acc at *
    repeat first|(refine r_ ?_;simp[z7])|refine q_ ?_
    by_cases hb:a.mv[k].src=s
    ·rw[if_pos hb]at z6;refine Qa rfl (fun _=> ?_) (fun h=>by simp[hb]at h);repeat first|(refine r_ ?_;simp)|refine q_ ?_
     refine Qf tOk rfl rfl T91 rfl T76 rfl (by decide) (by decide) rfl rfl rfl ?_;simp[Qb s1.arr,Qj s1.arr];refine⟨by simp[Wk,Qb s1.arr,Qj s1.arr]<;>omega,?_⟩;repeat first|(refine r_ ?_;simp[zq])|refine q_ ?_
     refine Qc (sl':=[(1,.vptr H.length 0),(2,.vptr (H.length+1) 0),(3,.i 0),(4,.vptr c 0),(5,.i a.fin.length),(6,.i s),(7,.sl (E.length+2) 1 0 (acc.length+1)),(27,.i a.fin.length),(28,.i s),(33,.list (a.mv.map encMv)),(34,.i a.mv.length),(35,.i (k+1:Nat))]) ?_ (by simp);have:=z6 (E.length+2) _ ⟨by omega,s1.put [AObj.vars [AV.i a.mv[k].src,AV.i a.mv[k].dst,AV.list (a.mv[k].on.map encL)],.arr 76 1 [encP a.mv[k].on]] ((acc++[a.mv[k].on]).map encP) rfl⟩ (by omega);simpa using this
    ·rw[if_neg hb,xO]at z6;refine Qa rfl (fun h=>by simp[hb]at h) (fun _=> ?_);repeat first|(refine r_ ?_;simp[zq])|refine q_ ?_
     refine Qc (sl':=[(1,.vptr H.length 0),(2,.vptr (H.length+1) 0),(3,.i 0),(4,.vptr c 0),(5,.i a.fin.length),(6,.i s),(7,.sl q 1 0 acc.length),(27,.i a.fin.length),(28,.i s),(33,.list (a.mv.map encMv)),(34,.i a.mv.length),(35,.i (k+1:Nat))]) ?_ (by simp);have:=z6 q _ ⟨by omega,s1.add [AObj.vars [AV.i a.mv[k].src,AV.i a.mv[k].dst,AV.list (a.mv[k].on.map encL)]]⟩ (by omega);simpa using this
   ·have zc:k=a.mv.length:=by simp at zi;omega
    subst zc;rw[q08]at s1 ⊢;refine Wl q s1.arr ?_;simp;rw[zV (by simp)];have yb:=s1.ge;have yc:=s1.le;have g':=g.keepAll (G':=E.set q .dead) (fun j hj=>by rw[zH (by omega)];exact s1.keep j hj);generalize E.set q .dead=G2 at *;clear s1 zp g1
    have g1:=g'.b;repeat first|(refine r_ ?_;simp[g1])|refine q_ ?_
    have y1:((a.types.toNat:Nat):Int)=a.types:=by have:=ha.types;omega
    have zt:=L3 a.types.toNat (Kp a s) (by have:=ha.types;omega) (J9 ha.wfA s) (fun i _=>q02 ha s i) (by have:=w0r a s a.mv.length;rw[q08]at this;omega);rw[y1]at zt;refine Qe rfl rfl (by simp) (zt) rfl ?_;rintro _ rfl;simp;refine Qe rfl rfl (by simp) (z1q a.types.toNat (Ud a.types.toNat (Kp a s)) (Gg (J9 ha.wfA s)) (j1c (fun i _=>q02 ha s i)) (by have:=ha.types;omega)) rfl ?_;rintro _ rfl;simp;have y3:W6 (Ud a.types.toNat (Kp a s))=Wx a s:=by unfold Wx;rfl
    rw[y3];repeat first|(refine r_ ?_;simp)|refine q_ ?_
    refine Qe rfl rfl (by simp) (y1t (Wx a s)) rfl ?_;rintro _ rfl;simp;repeat first|(refine r_ ?_;simp)|refine q_ ?_
    have g3:=g'.keepAll (G':=G2++[AObj.vars [AV.list ((Wx a s).map encL)]]) (fun j hj=>zI hj);have y4:(G2++[AObj.vars [AV.list ((Wx a s).map encL)]])[G2.length]? =some (AObj.vars [AV.list ((Wx a s).map encL)]):=by simp
    generalize G2++[AObj.vars [AV.list ((Wx a s).map encL)]]=G3 at *
    have zb:=g02 a s;have y5:=w0p a s;have zd:=fun p' G'=>ih (s+1,p',G');simp only[zb]at zd;clear zb g';generalize v00 a s=new at *
    have y6:(a.mv++new).length=a.mv.length+new.length:=by simp
    obtain⟨d1,d2,d3⟩:=g3.ne1;have g3c:=g3.ce;have g3m:=g3.m;have g3cc:=g3.cell;rw[yO,y6]at g3c g3cc;cases hv:Wi (Wx a s)with
    |true=>
     rw[hv]at zd;refine Qm rfl ?_;simp[hv];repeat first|(refine r_ ?_;simp[hw])|refine q_ ?_
     refine Qc (sl':=[(1,.vptr H.length 0),(2,.vptr (H.length+1) 0),(3,.i 0),(4,.vptr c 0),(5,.i a.fin.length),(27,.i a.fin.length),(28,.i (s+1:Nat))]) ?_ (by simp);have:=zd p G3 ⟨by omega,by simpa using g3⟩ (by omega);exact this
    |false=>
     rw[hv]at zd;refine Qm rfl ?_;simp[hv];repeat first|(refine r_ ?_;simp[g3c,y4])|refine q_ ?_
     refine Qf tOk rfl rfl T23 rfl T78 rfl (by decide) (by decide) rfl rfl rfl ?_;simp[Qb g3m,Qj g3m,g3cc,Qb g3c];refine⟨by simp[Wk,Qb g3m,Qj g3m,g3cc,Qb g3c]<;>omega,?_⟩;repeat first|(refine r_ ?_;simp[hw,g3cc])|refine q_ ?_
     refine Qc (sl':=[(1,.vptr H.length 0),(2,.vptr (H.length+1) 0),(3,.i 0),(4,.vptr c 0),(5,.i a.fin.length),(27,.i a.fin.length),(28,.i (s+1:Nat))]) ?_ (by simp);have y7:=g3.put (.arr 78 3 [encMv (⟨s,a.fin.length,Wx a s⟩:Mv)]) ((a.mv++(new++[(⟨s,a.fin.length,Wx a s⟩:Mv)])).map encMv);have:=zd (G3.length+1) _ ⟨by omega,y7⟩ (by omega);simpa[Nat.add_assoc]using this
  ·have zj:s=a.fin.length:=by simp at zz;omega
   subst zj;rw[q0l]at g;have zm:P2 a=if(Rp a (Wx a)).isEmpty then(0,a)else Z5 (Ug a):=rfl
   obtain⟨d1,d2,d3⟩:=g.ne1;have yd:=g.hf;have ye:=g.hc;have yg:=g.hp;have y5:(Rp a (Wx a)).length≤a.fin.length:=by rw[←q0l];exact w0p a _
   by_cases hn:Rp a (Wx a)=[]
   ·rw[hn]at zm;rw[hn,xO]at g;have gz:=g.frz (.vars [.i a.types,.sl f 1 0 a.fin.length,.list (a.mv.map encMv)]);refine We p g.m c g.ce ?_;simp[d2.symm];rw[zV (by simp)];generalize (G.set p AObj.dead).set c (.vars [.i a.types,.sl f 1 0 a.fin.length,.list (a.mv.map encMv)])=E at *
    obtain⟨q1,q2,q3,q4,q5⟩:=gz;have q6:∀Y,(E.set (H.length+1) Y)[H.length+1]? =some Y:=fun Y=>Qh q2 Y;repeat first|(refine r_ ?_;simp[q1,q2,q3])|refine q_ ?_
    refine Qm rfl ?_;simp;repeat first|(refine r_ ?_;simp[q1,q2,q3,q6])|refine q_ ?_
    exact⟨⟨a,by simpa using zm,f,⟨rfl,⟨rfl,rfl⟩,rfl⟩,Qd (by omega) q4 _,by omega⟩,fun i hi=>by rw[zH (by omega)];exact q5 i hi⟩
   ·have ze:P2 a=Z5 (Ug a):=by rw[zm,if_neg (by simpa using hn)]
    have gm:=g.ce;rw[yO,yL]at gm;have gb:=g.b;repeat first|(refine r_ ?_;simp[gb,gm])|refine q_ ?_
    have yh:(Rp a (Wx a)).length≠0:=by simpa using hn
    refine Qa rfl (fun h=>by simp at h;omega) (fun h=> ?_);repeat first|(refine r_ ?_;simp[gb])|refine q_ ?_
    refine Qe rfl rfl (by simp) (d1y a.types ha.types.1 ha.types.2) rfl ?_;rintro _ rfl;simp;repeat first|(refine r_ ?_;simp)|refine q_ ?_
    refine Qa rfl (fun h=>by simp at h) (fun _=> ?_);have g3:=g.keepAll (G':=G++[AObj.vars [AV.list ((Wz a.types.toNat).map encL)]]) (fun j hj=>zI hj);have za:(G++[AObj.vars [AV.list ((Wz a.types.toNat).map encL)]])[G.length]? =some (AObj.vars [AV.list ((Wz a.types.toNat).map encL)]):=by simp
    generalize G++[AObj.vars [AV.list ((Wz a.types.toNat).map encL)]]=G1 at *
    have k1:=g3.ce;rw[yO,yL]at k1;have k2:=g3.fe;have k3:∀L,(G1.set f .dead++L)[c]? =some (.vars [.i a.types,.sl f 1 0 a.fin.length,.sl p 3 0 (a.mv.length+(Rp a (Wx a)).length)]):=fun L=>Qb (Qd d3.symm k1 _) L;repeat first|(refine r_ ?_;simp[k1])|refine q_ ?_
    refine Qf tOk rfl rfl T22 rfl T4 rfl (by decide) (by decide) rfl rfl rfl ?_;simp[Qb k2,Qj k2,Qb k1,k3];refine⟨by simp[Wk,Qb k2,Qj k2,Qb k1,k3]<;>omega,?_⟩;have lf:=(zE.1 k2).1;have lc:=(zE.1 k1).1;have lp:=(zE.1 g3.m).1;have low:∀(X:AObj) i x,i≠f→i≠c→G1[i]? =some x→((G1.set f .dead++[AObj.arr 4 1 [AV.bool false],AObj.arr 4 1 (a.fin.map AV.bool++[AV.bool false])]).set c X)[i]? =some x:=fun X i x e1 e2 hx=>by rw[zH (fun e=>e2 e.symm),zI (by have:=(zE.1 hx).1;simpa using this),zH (fun e=>e1 e.symm)];exact hx
    have yi:=(zE.1 za).1;have r2:=low (.vars [.i a.types,.sl (G1.length+1) 1 0 (a.fin.length+1),.sl p 3 0 (a.mv.length+(Rp a (Wx a)).length)]) _ _ (by omega) (by omega) g3.r;have m2:=low (.vars [.i a.types,.sl (G1.length+1) 1 0 (a.fin.length+1),.sl p 3 0 (a.mv.length+(Rp a (Wx a)).length)]) _ _ d2 d1 g3.m;have w2:=low (.vars [.i a.types,.sl (G1.length+1) 1 0 (a.fin.length+1),.sl p 3 0 (a.mv.length+(Rp a (Wx a)).length)]) _ _ (fun e=>by rw[e,k2]at za;simp at za) (fun e=>by rw[e,k1]at za;simp at za) za;have c2:((G1.set f .dead++[AObj.arr 4 1 [AV.bool false],AObj.arr 4 1 (a.fin.map AV.bool++[AV.bool false])]).set c (.vars [.i a.types,.sl (G1.length+1) 1 0 (a.fin.length+1),.sl p 3 0 (a.mv.length+(Rp a (Wx a)).length)]))[c]? =some (.vars [.i a.types,.sl (G1.length+1) 1 0 (a.fin.length+1),.sl p 3 0 (a.mv.length+(Rp a (Wx a)).length)]):=Qh (k3 _) _;have f2:((G1.set f .dead++[AObj.arr 4 1 [AV.bool false],AObj.arr 4 1 (a.fin.map AV.bool++[AV.bool false])]).set c (.vars [.i a.types,.sl (G1.length+1) 1 0 (a.fin.length+1),.sl p 3 0 (a.mv.length+(Rp a (Wx a)).length)]))[G1.length+1]? =some (.arr 4 1 ((Ug a).fin.map AV.bool)):=by rw[zH (by omega),zL (by simp)];simp[Ug]
    have q2:∀i,i<H.length→((G1.set f .dead++[AObj.arr 4 1 [AV.bool false],AObj.arr 4 1 (a.fin.map AV.bool++[AV.bool false])]).set c (.vars [.i a.types,.sl (G1.length+1) 1 0 (a.fin.length+1),.sl p 3 0 (a.mv.length+(Rp a (Wx a)).length)]))[i]? =H[i]? :=fun i hi=>by rw[zH (by omega),zI (by simp;omega),zH (by omega)];exact g3.k i hi
    generalize (G1.set f .dead++[AObj.arr 4 1 [AV.bool false],AObj.arr 4 1 (a.fin.map AV.bool++[AV.bool false])]).set c (.vars [.i a.types,.sl (G1.length+1) 1 0 (a.fin.length+1),.sl p 3 0 (a.mv.length+(Rp a (Wx a)).length)])=E at *
    have k4:∀L,(E.set p .dead++L)[c]? =some (.vars [.i a.types,.sl (G1.length+1) 1 0 (a.fin.length+1),.sl p 3 0 (a.mv.length+(Rp a (Wx a)).length)]):=fun L=>Qb (Qd d1 c2 _) L;have zu:(Ug a).mv.length=a.mv.length+(Rp a (Wx a)).length+1:=by simp[Ug];omega
    have y8:(Ug a).fin.length=a.fin.length+1:=by simp[Ug]
    have yj:(a.mv++Rp a (Wx a)).map encMv++[encMv ⟨a.fin.length,a.fin.length,Wz a.types.toNat⟩]=(Ug a).mv.map encMv:=by simp[Ug]
    have ym:=(zE.1 c2).1;have yn:=(zE.1 m2).1;have yo:=(zE.1 f2).1;repeat first|(refine r_ ?_;simp[c2,w2])|refine q_ ?_
    refine Qf tOk rfl rfl T23 rfl T78 rfl (by decide) (by decide) rfl rfl rfl ?_;simp[Qb m2,Qj m2,Qb c2,k4];refine⟨by simp[Wk,Qb m2,Qj m2,Qb c2,k4]<;>omega,?_⟩;have hB:a.mv.map encMv++((Rp a (Wx a)).map encMv++[AV.agg [AV.int IntKind.i64 ↑a.fin.length,AV.int IntKind.i64 ↑a.fin.length,AV.list ((Wz a.types.toNat).map encL)]])=(Ug a).mv.map encMv:=by simp[Ug]
    rw[hB];refine Wf fun Z hZ=> ?_;have z1:Z[E.length+1]? =some (.arr 78 3 ((Ug a).mv.map encMv)):=by rw[hZ,zH (by omega),zL (by simp)];simp
    have z2:Z[c]? =some (.vars [.i a.types,.sl (G1.length+1) 1 0 (a.fin.length+1),.sl (E.length+1) 3 0 (a.mv.length+(Rp a (Wx a)).length+1)]):=by rw[hZ,zU (by simp;omega)]
    have zr:Z[H.length+1]? =some (.vars [.i 0,.nils,.nils]):=by rw[hZ,zH (by omega),zI (by simp;omega),zH (by omega)];exact r2
    have zf:Z[G1.length+1]? =some (.arr 4 1 ((Ug a).fin.map AV.bool)):=by rw[hZ,zH (by omega),zI (by simp;omega),zH (by omega)];exact f2
    have zk:∀i,i<H.length→Z[i]? =H[i]? :=fun i hi=>by rw[hZ,zH (by omega),zI (by simp;omega),zH (by omega)];exact q2 i hi
    have zl:E.length+2=Z.length:=by rw[hZ];simp
    clear hZ;refine Qw (sl':=[(2,.vptr (H.length+1) 0),(4,.vptr c 0)]) ?_ (by simp);refine We (E.length+1) z1 c z2 ?_;have zn:G1.length+1≠E.length+1:=by omega
    simp[zn,zu];rw[zV (by simp[zu])];refine Wf fun Y hY=> ?_;have y2:Y[c]? =some (.vars [.i a.types,.sl (G1.length+1) 1 0 (a.fin.length+1),.list ((Ug a).mv.map encMv)]):=by rw[hY,zU (by simp;omega)]
    have yr:Y[H.length+1]? =some (.vars [.i 0,.nils,.nils]):=by rw[hY,zH (by omega),zH (by omega)];exact zr
    have yf:Y[G1.length+1]? =some (.arr 4 1 ((Ug a).fin.map AV.bool)):=by rw[hY,zH (by omega),zH (by omega)];exact zf
    have yk:∀i,i<H.length→Y[i]? =H[i]? :=fun i hi=>by rw[hY,zH (by omega),zH (by omega)];exact zk i hi
    have yl:Y.length=Z.length:=by rw[hY];simp
    clear hY;repeat first|(refine r_ ?_;simp[y2])|refine q_ ?_
    rw[←y8];refine Q8 rfl rfl (Gt Y (G1.length+1) (Ug a) yf (by omega) (by omega)) rfl ?_;rintro r H' ⟨hr,zg⟩;have zo:=(zg (H.length+1) (by omega)).trans yr;have zv:∀X,(H'.set (H.length+1) X)[H.length+1]? =some X:=fun X=>Qh zo X;rcases hr with⟨hb,rfl⟩|⟨hb,rfl⟩
    ·have z8:P2 a=(5,Ul):=by rw[ze,Z5,if_pos hb]
     simp[zo];repeat first|(refine r_ ?_;simp[zv])|refine q_ ?_
     refine⟨z8,fun i hi=> ?_⟩;rw[zH (by omega),zg i (by omega)];exact yk i hi
    ·have z8:P2 a=(0,Ug a):=by rw[ze,Z5,hb,if_neg (by simp)]
     have y9:(Ug a).types=a.types:=rfl;simp[zo];repeat first|(refine r_ ?_;simp[zv])|refine q_ ?_
     refine⟨⟨Ug a,z8,G1.length+1,⟨by rw[y9],⟨rfl,rfl⟩,rfl⟩,?_,by omega⟩,fun i hi=> ?_⟩
     ·rw[zH (by omega),zg _ (by omega)];exact yf
     ·rw[zH (by omega),zg i (by omega)];exact yk i hi
end Go.Abs
namespace Go.Abs
open Go Go.Proofs
attribute [local irreducible] P2 Wg
theorem F2(a:Aut):PC Tryz.prog 23 [encA a] (fun r=>r= .tup [encA (A5 a).2,.i (A5 a).1]):=by
 refine Ql tOk Tryz.func23 rfl Tryz.results23 rfl (by simp[Tryz.ntmps23]) ?_;rw[Tryz.ntmps23];simp only[Qg];simp only[encA];repeat first|(refine r_ ?_;simp)|refine q_ ?_
 refine Qe rfl rfl (by simp) (Yh a) rfl ?_;rintro _ rfl;simp;repeat first|(refine r_ ?_;simp)|refine q_ ?_
 refine Qa rfl (fun h=> ?_) (fun h=> ?_)
 ·have h':Wg a≠0:=by simpa using h
  have hc:A5 a=(Wg a,Ul):=by rw[A5,if_pos h']
  rw[hc];repeat first|(refine r_ ?_;simp)|refine q_ ?_
  exact⟨rfl,rfl,rfl⟩
 ·have h':Wg a=0:=by simpa using h
  have hc:A5 a=P2 a:=by rw[A5,if_neg (by simp[h'])]
  rw[hc];repeat first|(refine r_ ?_;simp)|refine q_ ?_
  refine Q8 rfl rfl (Xw _ a ((Ut a).1 h')) rfl ?_;rintro r H' ⟨hr,hk⟩;have z6:=hk 1 (by simp);simp at z6;have z8:∀X,(H'.set 1 X)[1]? =some X:=fun X=>Qh z6 X;rcases hr with⟨e,he,zb,rfl⟩|⟨b,f,he,rfl,hf,za⟩
  ·rw[he];simp[z6];repeat first|(refine r_ ?_;simp[z8])|refine q_ ?_
   exact⟨rfl,rfl,rfl⟩
  ·rw[he];simp[z6];have z7:f≠1:=by simp at za;omega
   refine Qw (sl':=[(2,.vptr 1 0),(3,.i 0)]) ?_ (by simp);refine We f (Qd (Ne.symm z7) hf _) 1 (Qh z6 _) ?_;simp;rw[zV (by simp)];have zc:∀X,((H'.set f X).set 1 X)[1]? =some X:=fun X=>Qh (Qd z7 z6 _) X;refine Wf fun Z hZ=> ?_;have z1:Z[1]? =some (.vars [.i b.types,.list (b.fin.map AV.bool),.list (b.mv.map encMv)]):=by rw[hZ];exact zU (by have:=(zE.1 z6).1;simpa using this)
   repeat first|(refine r_ ?_;simp[z1])|refine q_ ?_
end Go.Abs
namespace Go.Abs
open Go Go.Proofs
def Dt(p:Nat)(xs:List Iv):AV:=if xs=[]then .nils else .sl p 2 0 xs.length
def g0a(L:Nat→Nat)(T:Nat)(p:Prd):List AV:=(yV T).map fun k=>Dt (L k) (p.getD k [])
def Z7(Q:Nat→Nat)(T n:Nat):List AV:=(yV n).map fun c=> .agg [.sl (Q c) 1 0 T]
theorem Oq(L:Nat→Nat)(T:Nat)(p:Prd):(g0a L T p).length=T:=by simp[g0a]
theorem Zs(Q:Nat→Nat)(T n:Nat):(Z7 Q T n).length=n:=by simp[Z7]
theorem Pu(L:Nat→Nat){T k:Nat}(p:Prd)(h:k<T):(g0a L T p)[k]? =some (Dt (L k) (p.getD k [])):=by simp[g0a,h]
theorem M5(Q:Nat→Nat)(T:Nat){n c:Nat}(h:c<n):(Z7 Q T n)[c]? =some (.agg [.sl (Q c) 1 0 T]):=by simp[Z7,h]
theorem Zg{p:Prd}{i:Nat}(h:i<p.length)(y:List Iv):(p.set i y).getD i []=y:=by simp[y_,h]
theorem getD_set_ne{p:Prd}{i k:Nat}(h:i≠k)(y:List Iv):(p.set i y).getD k []=p.getD k []:=by simp only[y_];rw[zH h]
structure Rows (K:List AObj) (T o:Nat) (st:List Prd) (Q:Nat→Nat) (L:Nat→Nat→Nat) (tag:Nat→Nat×Nat) (H:List AObj):Prop where
 out:H[o]? =some (.va 76 1 (Z7 Q T st.length))
 row:∀c p,st[c]? =some p→H[Q c]? =some (.va 171 1 (g0a (L c) T p))
 leaf:∀c p k,st[c]? =some p→k<T→p.getD k []≠[]→H[L c k]? =some (.arr 187 2 ((p.getD k []).map encIv))
 tQ:∀c,c<st.length→tag (Q c)=(c+1,0)
 tL:∀c p k,st[c]? =some p→k<T→p.getD k []≠[]→tag (L c k)=(c+1,k+1)
 to:tag o=(0,0)
 geo:K.length≤o
 geQ:∀c,c<st.length→K.length≤Q c
 geL:∀c p k,st[c]? =some p→k<T→p.getD k []≠[]→K.length≤L c k
 keep:∀i,i<K.length→H[i]? =K[i]?
 len:K.length≤H.length
 tK:∀i,i<K.length→tag i=(0,0)
section
variable {K:List AObj} {T o:Nat} {st:List Prd} {Q:Nat→Nat} {L:Nat→Nat→Nat} {tag:Nat→Nat×Nat} {H H':List AObj}
theorem Gq{α:Type}{l:List α}{i:Nat}{x:α}(h:l[i]? =some x):i<l.length:=(zE.1 h).1
theorem Qi{H:List AObj}{i:Nat}{x:AObj}(h:H[i]? =some x):i<H.length:=(zE.1 h).1
theorem Rows.other(h:Rows K T o st Q L tag H)(hk:∀j,j<H.length→tag j≠(0,1)→H'[j]? =H[j]?)(hl:H.length≤H'.length)(hK:K=[]:=by rfl):Rows K T o st Q L tag H':=by
 subst hK;exact⟨(hk _ (Qi h.out) (by rw[h.to];simp)).trans h.out,fun c p hc=>(hk _ (Qi (h.row c p hc)) (by rw[h.tQ c (Gq hc)];simp)).trans (h.row c p hc),fun c p k hc z1 hn=>(hk _ (Qi (h.leaf c p k hc z1 hn)) (by rw[h.tL c p k hc z1 hn];simp)).trans (h.leaf c p k hc z1 hn),
  h.tQ,h.tL,h.to,h.geo,h.geQ,h.geL,fun i hi=>by simp at hi,by simp,h.tK⟩
theorem q0d{l:List AV}{i:Nat}{x:AV}(h:l[i]? =some x):l.set i x=l:=by
 refine xW fun j=> ?_;by_cases e:i=j
 ·subst e;rw[h,zU (Gq h)]
 ·rw[zH e]
theorem Rows.put (h:Rows K T o st Q L tag H) {c:Nat} {p:Prd} (hc:st[c]? =some p) (zi:p.length=T) {i:Nat} (hi:i<T) {x:Iv} {np:Nat} (zj:H.length≤np)
  (zf:H'[Q c]? =some (.va 171 1 ((g0a (L c) T p).set i (.sl np 2 0 ((p.getD i []).length+1)))))
  (z8:H'[np]? =some (.arr 187 2 ((p.getD i []++[x]).map encIv)))
  (hk:∀j,j<H.length→j≠Q c→tag j≠(c+1,i+1)→H'[j]? =H[j]?):
  Rows K T o (st.set c (Uk p i x)) Q (fun c' k'=>if c'=c∧k'=i then np else L c' k') (fun j=>if j=np then(c+1,i+1)else tag j) H':=by
 have zd:=(zE.1 hc).1;have ze:∀c' p',(st.set c (Uk p i x))[c']? =some p'→(c'=c∧p'=Uk p i x)∨(c'≠c∧st[c']? =some p'):=fun c' p' e=>by
  by_cases zg:c'=c
  ·subst zg;rw[zU zd]at e;exact .inl ⟨rfl,(Option.some.inj e).symm⟩
  ·rw[zH (fun e=>zg e.symm)]at e;exact .inr ⟨zg,e⟩
 have za:(Uk p i x).getD i []=p.getD i []++[x]:=Zg (by omega) _;have z6:∀k,k≠i→(Uk p i x).getD k []=p.getD k []:=fun k hk=>getD_set_ne (fun e=>hk e.symm) _;have zh:o≠Q c:=fun e=>by have h1:=h.to;have h2:=h.tQ c zd;rw[e,h2]at h1;simp at h1
 have lo:=Qi h.out;have lQ:∀c',c'<st.length→Q c'<H.length:=fun c' zb=>Qi (h.row c' _ (zP zb));have geQ:=h.geQ;refine⟨?_,fun c' p' e=> ?_,fun c' p' k e z1 hn=> ?_,fun c' zb=> ?_,fun c' p' k e z1 hn=> ?_,?_,h.geo,fun c' zb=> ?_,fun c' p' k e z1 hn=> ?_,fun j hj=> ?_,?_,fun j hj=> ?_⟩
 ·rw[wK,hk o lo zh (by rw[h.to];simp)];exact h.out
 ·rcases ze c' p' e with⟨rfl,rfl⟩|⟨zc,e'⟩
  ·rw[zf]
   congr 2
   refine xW fun k=> ?_;by_cases hkT:k<T
   ·rw[Pu _ _ hkT];by_cases hki:k=i
    ·subst hki;rw[zU (by rw[Oq];exact hkT),za];simp[Dt]
    ·rw[zH (fun e=>hki e.symm),Pu _ _ hkT,z6 k hki];simp[hki]
   ·rw[xI (by rw[wK,Oq];omega),xI (by rw[Oq];omega)]
  ·have z7:=(zE.1 e').1;rw[hk _ (lQ c' z7) (fun e=>by have h1:=h.tQ c zd;have h2:=h.tQ c' z7;rw[e,h1]at h2;simp at h2;omega) (by rw[h.tQ c' z7];simp),h.row c' p' e'];simp[zc]
 ·rcases ze c' p' e with⟨rfl,rfl⟩|⟨zc,e'⟩
  ·by_cases hki:k=i
   ·subst hki;rw[za,if_pos ⟨rfl,rfl⟩];exact z8
   ·rw[z6 k hki]at hn ⊢;rw[if_neg (fun a=>hki a.2),hk _ (Qi (h.leaf _ _ k hc z1 hn)) (fun e=>by have h1:=h.tQ c' zd;have h2:=h.tL c' p k hc z1 hn;rw[e,h1]at h2;simp at h2) (by rw[h.tL c' p k hc z1 hn];simp;omega)];exact h.leaf _ _ k hc z1 hn
  ·have z7:=(zE.1 e').1;rw[if_neg (fun a=>zc a.1),hk _ (Qi (h.leaf _ _ k e' z1 hn)) (fun e=>by have h1:=h.tQ c zd;have h2:=h.tL c' p' k e' z1 hn;rw[e,h1]at h2;simp at h2) (by rw[h.tL c' p' k e' z1 hn];simp;omega)];exact h.leaf _ _ k e' z1 hn
 ·rw[wK]at zb;have:=lQ c' zb;rw[if_neg (by omega)];exact h.tQ c' zb
 ·rcases ze c' p' e with⟨rfl,rfl⟩|⟨zc,e'⟩
  ·by_cases hki:k=i
   ·subst hki;simp only[and_self,if_true]
   ·rw[z6 k hki]at hn;have:=Qi (h.leaf _ _ k hc z1 hn);simp only[hki,and_false,if_false];rw[if_neg (by omega)];exact h.tL _ _ k hc z1 hn
  ·have:=Qi (h.leaf _ _ k e' z1 hn);simp only[zc,false_and,if_false];rw[if_neg (by omega)];exact h.tL _ _ k e' z1 hn
 ·rw[if_neg (by omega)];exact h.to
 ·rw[wK]at zb;exact h.geQ c' zb
 ·rcases ze c' p' e with⟨rfl,rfl⟩|⟨zc,e'⟩
  ·by_cases hki:k=i
   ·subst hki;have:=h.len;rw[if_pos ⟨rfl,rfl⟩];omega
   ·rw[z6 k hki]at hn;rw[if_neg (fun a=>hki a.2)];exact h.geL _ _ k hc z1 hn
  ·rw[if_neg (fun a=>zc a.1)];exact h.geL _ _ k e' z1 hn
 ·have h1:=h.len;have h2:=geQ c zd;rw[hk j (by omega) (by omega) (by rw[h.tK j hj];simp)];exact h.keep j hj
 ·have:=Qi z8;have:=h.len;omega
 ·have:=h.len;rw[if_neg (by omega)];exact h.tK j hj
theorem Rows.new (h:Rows K T o st Q L tag H) {q o':Nat} (hq:H.length≤q) (ho:H.length≤o') (zd:q≠o')
  (zc:H'[q]? =some (.va 171 1 (yB T .nils))) (za:H'[o']? =some (.va 76 1 (Z7 Q T st.length++[.agg [.sl q 1 0 T]])))
  (hk:∀j,j<H.length→j≠o→H'[j]? =H[j]?):
  Rows K T o' (st++[yB T []]) (fun c=>if c=st.length then q else Q c) L (fun j=>if j=q then(st.length+1,0)else if j=o' then(0,0)else tag j) H':=by
 have zb:∀c' p',(st++[yB T []])[c']? =some p'→(c'=st.length∧p'=yB T [])∨(c'<st.length∧st[c']? =some p'):=fun c' p' e=>by
  by_cases z1:c'<st.length
  ·rw[zI z1]at e;exact .inr ⟨z1,e⟩
  ·rw[zL (by omega)]at e;have h0:c' - st.length=0:=by have:=(zE.1 e).1;simpa using this
   rw[h0]at e;exact .inl ⟨by omega,(Option.some.inj e).symm⟩
 have z6:∀k,(yB T ([]:List Iv)).getD k []=[]:=fun k=>by by_cases hk:k<T<;>simp[y_,hk]
 have lQ:∀c',c'<st.length→Q c'<H.length:=fun c' z7=>Qi (h.row c' _ (zP z7));have lo:=Qi h.out;have hlen:=h.len;have ze:∀c',c'<st.length→Q c'≠o:=fun c' z7 e=>by have h1:=h.to;have h2:=h.tQ c' z7;rw[←e,h2]at h1;simp at h1
 refine⟨?_,fun c' p' e=> ?_,fun c' p' k e z8 hn=> ?_,fun c' z7=> ?_,fun c' p' k e z8 hn=> ?_,?_,by omega,fun c' z7=> ?_,fun c' p' k e z8 hn=> ?_,fun j hj=> ?_,by have:=Qi za;omega,fun j hj=> ?_⟩
 ·rw[za]
  congr 2
  rw[yL,u9,Z7,Z7,wQ,yX]
  congr 1
  ·exact xZ fun c hc=>by rw[if_neg (by have:=xJ.1 hc;omega)]
  ·simp
 ·rcases zb c' p' e with⟨rfl,rfl⟩|⟨hc,e'⟩
  ·rw[if_pos rfl,zc]
   congr 2
   refine xW fun k=> ?_;by_cases hkT:k<T
   ·rw[Pu _ _ hkT,z6];simp[Dt,hkT]
   ·rw[xI (by simp;omega),xI (by rw[Oq];omega)]
  ·rw[if_neg (by omega),hk _ (lQ c' hc) (ze c' hc)];exact h.row _ _ e'
 ·rcases zb c' p' e with⟨rfl,rfl⟩|⟨hc,e'⟩
  ·exact absurd (z6 k) hn
  ·have hl:=h.leaf _ _ k e' z8 hn;rw[hk _ (Qi hl) (fun e=>by have h1:=h.to;have h2:=h.tL _ _ k e' z8 hn;rw[e,h1]at h2;simp at h2)];exact hl
 ·rw[yL,u9]at z7;by_cases z1:c'=st.length
  ·rw[if_pos z1,if_pos rfl,z1]
  ·have:=lQ c' (by omega);rw[if_neg z1,if_neg (by omega),if_neg (by omega)];exact h.tQ c' (by omega)
 ·rcases zb c' p' e with⟨rfl,rfl⟩|⟨hc,e'⟩
  ·exact absurd (z6 k) hn
  ·have:=Qi (h.leaf _ _ k e' z8 hn);rw[if_neg (by omega),if_neg (by omega)];exact h.tL _ _ k e' z8 hn
 ·rw[if_neg (fun e=>zd e.symm),if_pos rfl]
 ·rw[yL,u9]at z7;by_cases z1:c'=st.length
  ·rw[if_pos z1];omega
  ·rw[if_neg z1];exact h.geQ c' (by omega)
 ·rcases zb c' p' e with⟨rfl,rfl⟩|⟨hc,e'⟩
  ·exact absurd (z6 k) hn
  ·exact h.geL _ _ k e' z8 hn
 ·have zf:=h.geo;rw[hk j (by omega) (by omega)];exact h.keep j hj
 ·rw[if_neg (by omega),if_neg (by omega)];exact h.tK j hj
theorem Rows.start0(T o:Nat)(H:List AObj)(ho:H[o]? =some (.va 76 1 []))(tag:Nat→Nat×Nat)(ht:tag o=(0,0)):Rows [] T o [] (fun _=>0) (fun _ _=>0) tag H:=by refine⟨by simpa[Z7]using ho,fun c p hc=>by simp at hc,fun c p k hc=>by simp at hc,fun c hc=>by simp at hc,fun c p k hc=>by simp at hc,ht,by simp,fun c hc=>by simp at hc,fun c p k hc=>by simp at hc,fun i hi=>by simp at hi,by simp,fun i hi=>by simp at hi⟩
end
end Go.Abs
namespace Go.Abs
open Go Go.Proofs
def ascS(s:List Iv):Prop:=(∀x∈s,x.lo≤x.hi)∧s.Pairwise (fun x y=>x.hi<y.lo)
theorem ascS.take{s:List Iv}(h:ascS s)(k:Nat):ascS (s.take k):=⟨fun x hx=>h.1 x (xV hx),h.2.take⟩
theorem B5{s ini:List Iv}{y x:Iv}{m:Nat}(h:ascS s)(hm:m<s.length)(hx:s[m]=x)(e:Qy [] (s.take m)=ini++[y]):y.hi<x.lo:=by
 have h1:=Oa (h.take m);have hy:y∈Qy [] (s.take m):=by rw[e];simp
 have z7:y.lo≤y.hi:=h1.1.1 y hy;obtain⟨z,hz,z1,z2⟩:=(h1.2 y.hi).1 ⟨y,hy,z7,xF _⟩;obtain⟨i,hi,z6⟩:=xE hz;rw[wp]at hi;rw[List.getElem_take]at z6;have:=yU.1 h.2 i m (by omega) hm (by omega);rw[z6,hx]at this;omega
theorem j13{ini:List Iv}{y x:Iv}(h1:y.hi<x.lo)(h2:x.lo≤x.hi):W2 (ini++[y]) x=if y.hi+1=x.lo then ini++[⟨y.lo,x.hi⟩]else ini++[y]++[x]:=by
 rw[W5];by_cases e:y.hi+1=x.lo
 ·rw[if_pos e,if_pos (by omega),if_pos (by omega)]
 ·rw[if_neg e,if_neg (by omega)]
theorem d1k{L:List Prd}{p:Prd}{s:List Iv}(hp:p∈L)(hs:s∈p)(h:256<s.length):Sd L=true:=by simp only[Sd,ue,vK];exact .inr ⟨p,hp,s,hs,by simpa using h⟩
theorem g1j{L:List Prd}(hl:L.length≤256)(h:∀p∈L,∀s∈p,s.length≤256):Sd L=false:=by
 rw[Bool.eq_false_iff];intro hb;simp only[Sd,ue,vK,decide_eq_true_eq]at hb;rcases hb with hb|⟨p,hp,s,hs,hb⟩
 ·omega
 ·have:=h p hp s hs;omega
def V3(L:Nat→Nat)(T:Nat)(p:Prd)(k:Nat):List AV:=(yV T).map fun i=>if i<k then encL (Qy [] (p.getD i []))else Dt (L i) (p.getD i [])
theorem c00(L:Nat→Nat)(T:Nat)(p:Prd)(k:Nat):(V3 L T p k).length=T:=by simp[V3]
theorem k0g(L:Nat→Nat)(T:Nat)(p:Prd):V3 L T p 0=g0a L T p:=xZ fun i _=>by simp
theorem y1q(L:Nat→Nat){T k:Nat}(p:Prd)(h:k<T):(V3 L T p k)[k]? =some (Dt (L k) (p.getD k [])):=by simp[V3,h]
theorem x1p(L:Nat→Nat){T k:Nat}(p:Prd)(h:k<T):(V3 L T p k).set k (encL (Qy [] (p.getD k [])))=V3 L T p (k+1):=by
 refine wP (by simp[V3]) fun j h1 h2=> ?_;have hj:j<T:=by simpa[V3]using h2
 rw[tM];by_cases e:k=j
 ·subst e;simp[V3]
 ·rw[if_neg e];simp only[V3,uK,uC];by_cases h3:j<k
  ·rw[if_pos h3,if_pos (by omega)]
  ·rw[if_neg h3,if_neg (by omega)]
theorem Bc{p:Prd}{T:Nat}(h:p.length=T)(f:List Iv→AV):(yV T).map (fun i=>f (p.getD i []))=p.map f:=by
 subst h;refine wP (by simp) fun j h1 h2=> ?_;have hj:j<p.length:=by simpa using h1
 simp[hj]
theorem q1a(L:Nat→Nat){T:Nat}{p:Prd}(h:p.length=T):V3 L T p T=(Rl p).map encL:=by
 have:V3 L T p T=(yV T).map (fun i=>(fun s=>encL (Qy [] s)) (p.getD i [])):=xZ fun i hi=>by rw[if_pos (xJ.1 hi)]
 rw[this,Bc h (fun s=>encL (Qy [] s)),Rl,v_];rfl
theorem d0y(l:List (List Iv)):(l.map encL).all (fun x=>x.cells.all AV.pure)=true:=by rw[yE];intro x hx;obtain⟨s,_,rfl⟩:=zX.1 hx;simp[AV.cells,AV.pure]
def Vi(Q:Nat→Nat)(T:Nat)(st:List Prd)(c:Nat):List AV:=(yV st.length).map fun j=>if j<c then encP (Rl (st.getD j []))else .agg [.sl (Q j) 1 0 T]
theorem y14(Q:Nat→Nat)(T:Nat)(st:List Prd)(c:Nat):(Vi Q T st c).length=st.length:=by simp[Vi]
theorem k0l(Q:Nat→Nat)(T:Nat)(st:List Prd):Vi Q T st 0=Z7 Q T st.length:=xZ fun i _=>by simp
theorem y1g(Q:Nat→Nat)(T:Nat){st:List Prd}{c:Nat}(h:c<st.length):(Vi Q T st c)[c]? =some (.agg [.sl (Q c) 1 0 T]):=by simp[Vi,h]
theorem k1k{Q:Nat→Nat}{T:Nat}{st:List Prd}{c:Nat}(h:c<st.length)(z6:∀j,j<st.length→j≠c→Q j≠Q c)(hT:st[c].length=T):
  (Vi Q T st c).map (AV.fz (Q c) 1 ((Rl st[c]).map encL))=Vi Q T st (c+1):=by
 refine wP (by simp[Vi]) fun j h1 h2=> ?_;have hj:j<st.length:=by simpa[Vi]using h2
 have z1:(Rl st[c]).length=T:=by simp[Rl,hT]
 simp only[Vi,uK,uC];by_cases h3:j<c
 ·rw[if_pos h3,if_pos (by omega)];simp[Ku,j0m]
 ·rw[if_neg h3];by_cases e:j=c
  ·subst e;rw[if_pos (by omega),Ku];have:st.getD j []=st[j]:=by simp[y_,hj]
   rw[this];simp only[xH,vB,AV.fz,encP];rw[if_pos (by simp[z1]),List.drop_zero,zV (by simp[z1])]
  ·rw[if_neg (by omega),Ku];simp only[xH,vB,AV.fz];rw[if_neg (fun a=>z6 j hj e a.1)]
theorem z1d(Q:Nat→Nat)(T:Nat)(st:List Prd):Vi Q T st st.length=(st.map Rl).map encP:=by
 refine wP (by simp[Vi]) fun j h1 h2=> ?_;have hj:j<st.length:=by simpa[Vi]using h1
 simp[Vi,hj]
theorem d0p(l:List Prd):(l.map encP).all (fun x=>x.cells.all AV.pure)=true:=by rw[yE];intro x hx;obtain⟨s,_,rfl⟩:=zX.1 hx;simp[AV.cells,AV.pure]
theorem j1h{l:List AV}{i:Nat}{x:AV}(h:l[i]? =some x):i<l.length:=(zE.1 h).1
theorem Ma{P:Program}[Env P]{nt k:Nat}{cd:Code}{Q:Exit→AS→Prop}{sl:List (Nat×AV)}{H:List AObj}(F:List AObj→Prop)(h1:(∀H1,F H1→AWP P nt k cd Q ⟨sl,H1⟩)→AWP P nt k cd Q ⟨sl,H⟩)(h2:∀H1,F H1→AWP P nt k cd Q ⟨sl,H1⟩):AWP P nt k cd Q ⟨sl,H⟩:=h1 h2
attribute [local irreducible] W2 Qy Ej g0a V3 Z7 Vi
theorem k1g(T o:Nat)(st:List Prd)(Q:Nat→Nat)(L:Nat→Nat→Nat)(tag:Nat→Nat×Nat)(H:List AObj)(h:Rows [] T o st Q L tag H)(hT:T≤16)(hw:∀p∈st,p.length=T∧∀s∈p,ascS s∧s.length≤10000000∧∀x∈s,U5 x):
  FC Tryz.prog 170 [.sl o 1 0 st.length] H (fun r _=>(r= .tup [.nils,.i 5]∧Sd (st.map Rl)=true)∨(r= .tup [LP (st.map Rl),.i 0]∧Sd (st.map Rl)=false)):=by
 refine W9 tOk Tryz.func170 rfl Tryz.results170 rfl (by simp[Tryz.ntmps170]) ?_;rw[Tryz.ntmps170];simp only[Qg];repeat first|(refine r_ ?_;simp)|refine q_ ?_
 refine Qa rfl (fun zc=> ?_) (fun yb=> ?_)
 ·have hb:256<st.length:=by simp at zc;omega
  repeat first|(refine r_ ?_;simp)|refine q_ ?_
  simp[Sd];omega
 have hn:st.length≤256:=by simp at yb;omega
 repeat first|(refine r_ ?_;simp)|refine q_ ?_
 have yq:=Qi h.out;have tagne:∀c c',c<st.length→c'<st.length→c≠c'→Q c≠Q c':=fun c c' h1 h2 za e=>by have a:=h.tQ c h1;have b:=h.tQ c' h2;rw[e,b]at a;simp at a;omega
 have y3:∀c,c<st.length→Q c≠o:=fun c hc e=>by have h1:=h.to;have h2:=h.tQ c hc;rw[←e,h2]at h1;simp at h1
 refine Qo (Qc (sl':=[(0,.sl o 1 0 st.length),(15,.sl o 1 0 st.length),(16,.i st.length),(17,.i (0:Nat))]) ?_ (by simp));refine Qp (F:=fun(u:Nat×List AObj)=>⟨[(0,.sl o 1 0 st.length),(15,.sl o 1 0 st.length),(16,.i st.length),(17,.i u.1)],u.2⟩)
  (fun u=>u.1≤st.length∧H.length≤u.2.length∧u.2[o]? =some (.va 76 1 (Vi Q T st u.1))∧(∀j,j<H.length→j≠o→(∀c,c<u.1→j≠Q c)→u.2[j]? =H[j]?)∧∀p∈(st.map Rl).take u.1,∀s∈p,s.length≤256) (fun u=>st.length - u.1) ?_ (0,H) ⟨by simp,by simp,by rw[k0l];exact h.out,fun _ _ _ _=>rfl,by simp⟩
 rintro⟨c,G⟩ ⟨hc,hG,go,gk,gs⟩ ih;simp only at hc hG go gk gs ih ⊢;repeat first|(refine r_ ?_;simp)|refine q_ ?_
 refine Qa rfl (fun yc=> ?_) (fun yd=> ?_)
 ·have z1:c<st.length:=by simpa using yc
  have ye:IntKind.i64.wrap ((c:Int)+1)=c+1:=wrap_i64 _ (by omega) (by omega);have zn:=y1g Q T z1;have yf:=y14 Q T st c;have hp:=hw _ (zT z1);have yg:=k1k z1 (fun j hj za=>tagne j c hj z1 za) hp.1;have yh:=(gk (Q c) (Qi (h.row c _ (zP z1))) (y3 c z1) (fun c' zj=>tagne c c' z1 (by omega) (by omega))).trans (h.row c _ (zP z1));have hle:∀k,k<T→st[c].getD k []≠[]→G[L c k]? =some (.arr 187 2 ((st[c].getD k []).map encIv))∧L c k≠Q c∧L c k≠o∧L c k<H.length:=fun k hk za=>by
   have hl:=h.leaf c _ k (zP z1) hk za;have ht:=h.tL c _ k (zP z1) hk za;have h1:L c k≠o:=fun e=>by have:=h.to;rw[←e,ht]at this;simp at this
   have h2:∀c',c'<st.length→L c k≠Q c':=fun c' zj e=>by have:=h.tQ c' zj;rw[←e,ht]at this;simp at this
   exact⟨(gk _ (Qi hl) h1 (fun c' zj=>h2 c' (by omega))).trans hl,h2 c z1,h1,Qi hl⟩
  have yr:=Qi (h.row c _ (zP z1));have zk:=y3 c z1;have yi:(st.map Rl).take (c+1)=(st.map Rl).take c++[Rl st[c]]:=by rw[zY (by simpa using z1)];simp
  have yj:Rl st[c]∈st.map Rl:=zX.2 ⟨_,zT z1,rfl⟩;generalize yt:st[c]=p at *;generalize Vi Q T st c=od at *
  have zo:∀hh,od[c]'hh= .agg [.sl (Q c) 1 0 T]:=fun hh=>by rw[zP hh]at zn;exact Option.some.inj zn
  repeat first|(refine r_ ?_;simp[go,zn,zo,yf,z1])|refine q_ ?_
  have yu:0<G.length:=by omega
  refine Qo (Qc (sl':=[(0,.sl o 1 0 st.length),(5,.vptr G.length 0),(15,.sl o 1 0 st.length),(16,.i st.length),(17,.i c),(22,.sl (Q c) 1 0 T),(23,.i T),(24,.i (0:Nat))]) ?_ (by simp));refine Qp (F:=fun(u:Nat×List AObj)=>⟨[(0,.sl o 1 0 st.length),(5,.vptr G.length 0),(15,.sl o 1 0 st.length),(16,.i st.length),(17,.i c),(22,.sl (Q c) 1 0 T),(23,.i T),(24,.i u.1)],u.2⟩)
   (fun u=>u.1≤T∧G.length+1≤u.2.length∧u.2[Q c]? =some (.va 171 1 (V3 (L c) T p u.1))∧(∀j,j<G.length→j≠Q c→u.2[j]? =G[j]?)∧u.2[G.length]? =some (.vars [.sl (Q c) 1 0 T])∧∀s∈(Rl p).take u.1,s.length≤256) (fun u=>T - u.1) ?_ (0,_) ⟨by simp,by simp,by rw[k0g];exact Qb yh _,fun j hj _=>zI hj,by simp,by simp⟩
  rintro⟨k,E⟩ ⟨hk,hE,eq,ek,e5,es⟩ ih2;simp only at hk hE eq ek e5 es ih2 ⊢;repeat first|(refine r_ ?_;simp)|refine q_ ?_
  refine Qa rfl (fun zp=> ?_) (fun zq=> ?_)
  ·have z6:k<T:=by simpa using zp
   have yk:IntKind.i64.wrap ((k:Int)+1)=k+1:=wrap_i64 _ (by omega) (by omega);have zd:=y1q (L c) p z6;have y4:=c00 (L c) T p k;have zr:=x1p (L c) p z6;have zl:k<p.length:=by rw[hp.1];exact z6
   have y5:p.getD k []=p[k]:=Wq zl;have y6:(Rl p).take (k+1)=(Rl p).take k++[Qy [] p[k]]:=by rw[zY (by simpa[Rl]using zl)];simp[Rl]
   have yl:Qy [] p[k]∈Rl p:=zX.2 ⟨_,zT zl,rfl⟩;have ze:=hp.2 _ (zT zl);have y7:=hle k z6;have zf:=fun E'=>ih2 (k+1,E');rw[y5]at zd y7 zr;simp only[←zr,y6]at zf;clear zr y6 y5;generalize V3 (L c) T p k=rd at *;generalize p[k]=s at *
   have yv:E[Q c]? =some (.va 171 1 rd):=eq;refine Ma (fun E1=>∃z,E1[Q c]? =some (.va 171 1 (rd.set k (.sl z 2 0 s.length)))∧E1[z]? =some (.arr 187 2 (s.map encIv))∧(∀j,j<G.length+1→j≠Q c→E1[j]? =E[j]?)∧E.length≤E1.length∧z≠Q c) (fun hm=> ?_) ?_
   ·by_cases hs0:s=[]
    ·subst hs0;simp only[Dt,if_true]at zd;refine Aj (Q c) k 187 2 eq zd ?_;have hl:=Qi eq;refine hm _ ⟨E.length,Qh (Qb eq _) _,?_,fun j hj za=> ?_,by simp,by omega⟩
     ·rw[zH (by omega)];simp
     ·rw[zH (Ne.symm za),zI (by omega)]
    ·simp only[Dt,if_neg hs0]at zd;obtain⟨k1,k2,k3,k4⟩:=y7 hs0;have zt:rd.set k (.sl (L c k) 2 0 s.length)=rd:=by
      refine xW fun j=> ?_;by_cases e:k=j
      ·subst e;rw[zd,zU (j1h zd)]
      ·rw[zH e]
     refine hm E ⟨L c k,by rw[zt];exact eq,?_,fun _ _ _=>rfl,zW _,k2⟩;rw[ek _ (by omega) k2];exact k1
   ·rintro E1 ⟨z,f1,f2,f3,f4,f5⟩;have ym:∀hh,(rd.set k (.sl z 2 0 s.length))[k]'hh= .sl z 2 0 s.length:=fun hh=>by simp
    have f6:=f3 G.length (by omega) (by omega);rw[e5]at f6;have yw:=ze.2.1;repeat first|(refine r_ ?_;simp[f1,ym,y4,z6])|refine q_ ?_
    refine Q6 8 187 2 rfl ?_;simp;have yn:=SL.start E1 187 2;refine Qo (Qc (sl':=[(0,.sl o 1 0 st.length),(5,.vptr G.length 0),(6,.i k),(8,.sl E1.length 2 0 (Qy [] (s.take 0)).length),(15,.sl o 1 0 st.length),(16,.i st.length),(17,.i c),(22,.sl (Q c) 1 0 T),(23,.i T),(24,.i k),(29,.sl z 2 0 s.length),(30,.i s.length),(31,.i (0:Nat))]) ?_ (by simp[Qy]));refine Qp (F:=fun(u:Nat×Nat×List AObj)=>⟨[(0,.sl o 1 0 st.length),(5,.vptr G.length 0),(6,.i k),(8,.sl u.2.1 2 0 (Qy [] (s.take u.1)).length),(15,.sl o 1 0 st.length),(16,.i st.length),(17,.i c),(22,.sl (Q c) 1 0 T),(23,.i T),(24,.i k),(29,.sl z 2 0 s.length),(30,.i s.length),(31,.i u.1)],u.2.2⟩)
     (fun u=>u.1≤s.length∧SL E1 u.2.2 u.2.1 187 2 ((Qy [] (s.take u.1)).map encIv)) (fun u=>s.length - u.1) ?_ (0,E1.length,_) ⟨by simp,by rw[wM,Qy,uV];exact yn⟩
    rintro⟨j,p2,W⟩ ⟨hj,g⟩ ih3;simp only at hj g ih3 ⊢;repeat first|(refine r_ ?_;simp)|refine q_ ?_
    refine Qa rfl (fun zu=> ?_) (fun zv=> ?_)
    ·have z7:j<s.length:=by simpa using zu
     have zw:IntKind.i64.wrap ((j:Int)+1)=j+1:=wrap_i64 _ (by omega) (by omega);have y8:Qy [] (s.take (j+1))=W2 (Qy [] (s.take j)) s[j]:=by rw[zY z7,Uj]
     have zx:(Qy [] (s.take j)).length≤j:=yW (Rc _ _) (by simp;omega);have zy:∀y∈Qy [] (s.take j),U5 y:=Iq _ _ (by simp) (fun y hy=>ze.2.2 y (xV hy));have zb:=fun ini y=>B5 (ini:=ini) (y:=y) (x:=s[j]) ze.1 z7 rfl;have yo:=ze.1.1 _ (zT z7);have yx:=(W7 _).1 (ze.2.2 _ (zT z7)).2;have gz:=(g.keep z (Qi f2)).trans f2;have z8:=fun p' G'=>ih3 (j+1,p',G');simp only[y8]at z8;clear y8;generalize Qy [] (s.take j)=acc at *
     repeat first|(refine r_ ?_;simp[gz,z7])|refine q_ ?_
     generalize s[j]=x at *
     rcases wS acc with rfl|⟨ini,y,rfl⟩
     ·refine Qk tOk mixed [] (.val 0 (.val 1 (.val 2 (.val 3 (.val 4 (.val 5 (.val 6 (.val 7 (.val 8 (.val 9 (.val 10 (.val 11 (.val 12 (.val 13 (.done))))))))))))))) rfl (by kernel_rfl) ?_;simp[(by decide:IntKind.i64.wrap (-1)= -1)];refine Qm rfl ?_;simp;repeat first|(refine r_ ?_;simp)|refine q_ ?_
      refine Qf tOk rfl rfl U6 rfl A7 rfl (by decide) (by decide) rfl rfl rfl ?_;simp[Qb g.arr,Qj g.arr];refine⟨by simp[Wk,Qb g.arr,Qj g.arr]<;>omega,?_⟩;repeat first|(refine r_ ?_;simp[zw])|refine q_ ?_
      refine Qc (sl':=[(0,.sl o 1 0 st.length),(5,.vptr G.length 0),(6,.i k),(8,.sl (W.length+2) 2 0 1),(15,.sl o 1 0 st.length),(16,.i st.length),(17,.i c),(22,.sl (Q c) 1 0 T),(23,.i T),(24,.i k),(29,.sl z 2 0 s.length),(30,.i s.length),(31,.i (j+1:Nat))]) ?_ (by simp);have:=z8 (W.length+2) _ ⟨by omega,by rw[W2];exact g.put [AObj.vars [AV.i x.lo,AV.i x.hi],AObj.arr 187 2 [encIv x]] _ rfl⟩ (by omega);rw[W2]at this;simpa using this
     ·have yy:=(W7 _).1 (zy y (by simp)).2;have y9:IntKind.i64.wrap (y.hi+1)=y.hi+1:=wrap_i64 _ (by omega) (by omega);have gA:=g.arr;rw[wT]at g gA z8 zx zb ⊢;have hlen:(ini++[y]).length=ini.length+1:=by simp
      rw[hlen]at zx ⊢;have ya:IntKind.i64.wrap (ini.length:Int)=ini.length:=wrap_i64 _ (by omega) (by omega);have hg:((ini++[y]).map encIv)[ini.length]? =some (encIv y):=by simp
      have zg:(ini.length:Int)<ini.length+1:=by omega
      have zm:=j13 (ini:=ini) (zb ini y rfl) yo;refine Qk tOk mixed [] (.val 0 (.val 1 (.val 2 (.val 3 (.val 4 (.val 5 (.val 6 (.val 7 (.val 8 (.val 9 (.val 10 (.val 11 (.val 12 (.val 13 (.done))))))))))))))) rfl (by kernel_rfl) ?_;simp[Qb gA,ya,hg,y9,zg];refine Qa rfl (fun h1=> ?_) (fun h1=> ?_)
      ·repeat first|(refine r_ ?_;simp[Qb gA,ya,hg,y9,zg,Qj gA,zw])|refine q_ ?_
       have zz:y.hi+1=x.lo:=by simpa using h1
       rw[if_pos zz]at zm;rw[zm]at z8;refine Qc (sl':=[(0,.sl o 1 0 st.length),(5,.vptr G.length 0),(6,.i k),(8,.sl p2 2 0 (ini.length+1)),(15,.sl o 1 0 st.length),(16,.i st.length),(17,.i c),(22,.sl (Q c) 1 0 T),(23,.i T),(24,.i k),(29,.sl z 2 0 s.length),(30,.i s.length),(31,.i (j+1:Nat))]) ?_ (by simp);have:=z8 p2 _ ⟨by omega,g.upd [AObj.vars [AV.i x.lo,AV.i x.hi]] _⟩ (by omega);simpa using this
      ·repeat first|(refine r_ ?_;simp)|refine q_ ?_
       refine Qf tOk rfl rfl U6 rfl A7 rfl (by decide) (by decide) rfl rfl rfl ?_;simp[Qb gA,Qj gA];refine⟨by simp[Wk,Qb gA,Qj gA]<;>omega,?_⟩;repeat first|(refine r_ ?_;simp[zw])|refine q_ ?_
       have zz:¬y.hi+1=x.lo:=by simpa using h1
       rw[if_neg zz]at zm;rw[zm]at z8;refine Qc (sl':=[(0,.sl o 1 0 st.length),(5,.vptr G.length 0),(6,.i k),(8,.sl (W.length+2) 2 0 (ini.length+2)),(15,.sl o 1 0 st.length),(16,.i st.length),(17,.i c),(22,.sl (Q c) 1 0 T),(23,.i T),(24,.i k),(29,.sl z 2 0 s.length),(30,.i s.length),(31,.i (j+1:Nat))]) ?_ (by simp);have:=z8 (W.length+2) _ ⟨by omega,g.put [AObj.vars [AV.i x.lo,AV.i x.hi],AObj.arr 187 2 [encIv x]] _ rfl⟩ (by omega);simpa using this
    ·have zh:j=s.length:=by simp at zv;omega
     subst zh;rw[xB]at g ⊢;have zx:(Qy [] s).length≤s.length:=yW (Rc _ _) (by simp);repeat first|(refine r_ ?_;simp)|refine q_ ?_
     refine Wl p2 g.arr ?_;simp;rw[zV (by simp)];have yz:=(Qi g.arr)
     have x0:=g.ge;have w1:∀j,j<E1.length→(W.set p2 .dead)[j]? =E1[j]? :=fun j hj=>by rw[zH (by omega)];exact g.keep j hj
     have w2:(W.set p2 .dead).length=W.length:=by simp
     generalize W.set p2 .dead=V at *;refine Qa rfl (fun zc=> ?_) (fun y0=> ?_)
     ·repeat first|(refine r_ ?_;simp)|refine q_ ?_
      exact d1k yj yl (by simp at zc;omega)
     ·have v1:=(w1 _ (Qi f1)).trans f1;have v2:=(w1 _ (Qi f6)).trans f6;have v0:∀j,j<G.length+1→j≠Q c→V[j]? =E[j]? :=fun j hj za=>(w1 j (by omega)).trans (f3 j hj za);repeat first|(refine r_ ?_;simp[v1,v2,y4,z6,yk])|refine q_ ?_
      refine Qc (sl':=[(0,.sl o 1 0 st.length),(5,.vptr G.length 0),(15,.sl o 1 0 st.length),(16,.i st.length),(17,.i c),(22,.sl (Q c) 1 0 T),(23,.i T),(24,.i (k+1:Nat))]) ?_ (by simp);refine zf _ ⟨by omega,by simp;omega,Qh v1 _,fun j hj za=> ?_,?_,fun t ht=> ?_⟩ (by omega)
      ·rw[zH (Ne.symm za),v0 j (by omega) za];exact ek j hj za
      ·rw[zH (by omega)];exact v2
      ·rcases yH.1 ht with ht|ht
       ·exact es t ht
       ·rw[z_.1 ht];simp at y0;omega
  ·have zi:k=T:=by simp at zq;omega
   subst zi;rw[q1a (L c) hp.1]at eq;have x1:(Rl p).length=k:=by simp[Rl,hp.1]
   have eo:=(ek o (Qi go) (Ne.symm zk)).trans go;refine I7 (Q c) eq (d0y _) ?_;refine Ui (Q c) (Qh eq _) (o0:= .va 76 1 od) o (Qd zk eo _) (Ne.symm zk) rfl ?_;have y1:¬o=Q c:=Ne.symm zk;simp[AObj.fz,yg,y1];repeat first|(refine r_ ?_;simp[ye])|refine q_ ?_
   refine Qc (sl':=[(0,.sl o 1 0 st.length),(15,.sl o 1 0 st.length),(16,.i st.length),(17,.i (c+1:Nat))]) ?_ (by simp);have yp:=Qi eo;refine ih (c+1,_) ⟨by omega,by simp;omega,zU (by simpa using yp),fun j hj h1 h2=> ?_,fun P hP=> ?_⟩ (by omega)
   ·have h3:=h2 c (by omega);rw[zH (Ne.symm h1),zH (Ne.symm h3),ek j (by omega) h3];exact gk j hj h1 (fun c' zj=>h2 c' (by omega))
   ·rw[yi]at hP;rcases yH.1 hP with hP|hP
    ·exact gs P hP
    ·rw[z_.1 hP];rw[zV (by omega)]at es;exact es
 ·have y2:c=st.length:=by simp at yd;omega
  subst y2;rw[z1d]at go;rw[zV (by simp)]at gs;refine I7 o go (d0p _) ?_;refine Wl o (Qh go _) ?_;simp;rw[zV (by simp)];repeat first|(refine r_ ?_;simp)|refine q_ ?_
  exact g1j (by simpa using hn) gs
end Go.Abs
namespace Go.Abs
open Go Go.Proofs Go.Maps
attribute [simp] x2i T92
def stM(l:List Int):AObj:= .mp (l.map fun z=>(.i z,.bool true))
theorem Pr:Keyed Tryz.prog 3:=int_keyed (q:= .i64) (by kernel_rfl)
theorem v1h{z:Int}(h:0≤z∧z≤1000000):(Lit.int .i64 z).wf=true:=by
 have h1:IntKind.i64.min= -9223372036854775808:=by decide
 have h2:IntKind.i64.max=9223372036854775807:=by decide
 simp only[Lit.wf,h1,h2,Bool.and_eq_true,decide_eq_true_eq];omega
theorem Yk{z:Int}(h:0≤z∧z≤1000000):isKey Tryz.prog 3 (.i z):=
 ⟨.int .i64 z,.int .i64 z,rfl,keyOf_int_mk (q:= .i64) (by kernel_rfl) (v1h h)⟩
section
variable {nt k:Nat} {S:AS} {ops:Array Oper} {o:Oper} {R:AS→Prop}
end
end Go.Abs
namespace Go.Abs
open Go Go.Proofs Go.Maps
theorem Xh:Keyed Tryz.prog 9:=string_keyed (by kernel_rfl)
theorem A3(s:List UInt8)(h:s.length≤1000000):isKey Tryz.prog 9 (.str s):=
 ⟨.string ⟨s.toArray⟩,.string s,rfl,by
  have:=Go.WideMaps.keyOf_string_mk (P:=Tryz.prog) (k:=9) (s:=⟨s.toArray⟩) (by kernel_rfl) (by show s.toArray.size≤maxLen;unfold maxLen;simp;omega);exact this⟩
def mpT(ks:List (List UInt8)):AObj:= .mp (ks.mapIdx fun c k=>(.str k,.i c))
section
variable {nt k:Nat} {S:AS} {ops:Array Oper} {o:Oper} {R:AS→Prop}
theorem f0j{ks:List (List UInt8)}(hl:∀m∈ks,m.length≤1000000):∀p∈ks.mapIdx (fun c k=>(AV.str k,AV.i (c:Nat))),isKey Tryz.prog 9 p.1:=fun p hp=>by obtain⟨i,h,rfl⟩:=tR.1 hp;exact A3 _ (hl _ (zT h))
theorem Fw {wr:Bool} (hw:Q5 ops S o=some true) (hd:W3 nt o=true) {x ix:Operand} (ho:o.op= .lookup 92 x ix true) {id:Nat} (hx:rho S.sl x=some (.mref id)) {n:List UInt8} (z1:rho S.sl ix=some (.str n))
  {ks:List (List UInt8)} (z6:S.hp[id]? =some (mpT ks)) (hl:∀m∈ks,m.length≤1000000) (hn:n.length≤1000000) (z7:∀j:Nat,ks[j]? =some n→R (S.putD o.dst (.tup [.i j,.bool true]))) (z8:n∉ks→R (S.putD o.dst (.tup [.i 0,.bool false]))):Wt Tryz.prog nt k wr ops o S R:=by
 refine Yy tOk hw hd ho T92 rfl T3 Xh hx z1 z6 (A3 n hn) (f0j hl) (z:= .i 0) rfl (fun j p hp he=> ?_) (fun za=> ?_)
 ·rw[vP]at hp;obtain⟨m,hm,rfl⟩:=zZ.1 hp;have zb:m=n:=by simpa using he
  rw[zb]at hm;exact z7 j hm
 ·refine z8 fun h=> ?_;obtain⟨i,hi,rfl⟩:=xE h;exact za _ (tR.2 ⟨i,hi,rfl⟩) rfl
theorem Jw (hw:Q5 ops S o=some true) (hd:W3 nt o=true) {x ix y:Operand} (ho:o.op= .mapUpdate 92 x ix y) {id:Nat} (hx:rho S.sl x=some (.mref id)) {n:List UInt8} (z1:rho S.sl ix=some (.str n))
  {ks:List (List UInt8)} (hy:rho S.sl y=some (.i ks.length)) (z6:S.hp[id]? =some (mpT ks)) (hl:∀m∈ks,m.length≤1000000) (hn:n.length≤1000000) (z7:n∉ks) (hR:R (({ S with hp:=S.hp.set id (mpT (ks++[n])) }:AS).putD o.dst (.tup []))):Wt Tryz.prog nt k true ops o S R:=by
 refine Ym tOk hw hd ho T92 rfl Xh hx z1 hy (by simp[AV.pure]) z6 (A3 n hn) (f0j hl) (fun j p hp he=> ?_) (fun za=> ?_)
 ·rw[vP]at hp;obtain⟨m,hm,rfl⟩:=zZ.1 hp;have z8:m=n:=by simpa using he
  exact absurd (by rw[←z8];exact zO hm) z7
 ·have:ks.mapIdx (fun c k=>(AV.str k,AV.i (c:Nat)))++[(.str n,.i ks.length)]=(ks++[n]).mapIdx (fun c k=>(AV.str k,AV.i (c:Nat))):=by simp
  rw[this];exact hR
end
theorem Py:∀cs:List Int,(Tz cs).length=cs.length - 1
 |[]=>rfl
 |[_]=>rfl
 |a::b::r=>by rw[Tz,yY,Py (b::r)];simp
theorem q01:∀(cs:List Int) (k:Nat) (h:k+1<cs.length),(Tz cs)[k]? =some ⟨cs[k],cs[k+1] - 1⟩
 |[],k,h=>by simp at h
 |[_],k,h=>by simp at h
 |a::b::r,0,h=>rfl
 |a::b::r,k+1,h=>by
  have h':k+1<(b::r).length:=by simp at h ⊢;omega
  rw[Tz,u_,q01 (b::r) k h'];rfl
theorem X3{T i:Nat}{sg:List Bool}{x:Iv}:∀ {st:List (List Bool×Prd)} {j:Nat} {p:Prd},(st.map (·.1)).Nodup→st[j]? =some (sg,p)→Yn T i sg x st=st.set j (sg,Uk p i x)
 |[],j,p,_,h=>by simp at h
 |(s,q)::r,0,p,hn,h=>by simp at h;obtain⟨rfl,rfl⟩:=h;rw[Yn,if_pos rfl];rfl
 |(s,q)::r,j+1,p,hn,h=>by rw[xH,List.nodup_cons]at hn;rw[u_]at h;rw[Yn,if_neg (fun e=>hn.1 (by subst e;exact zX.2 ⟨_,zO h,rfl⟩)),X3 hn.2 h];rfl
structure GB (T N n:Nat) (st:List (List Bool×Prd)):Prop where
 nd:(st.map (·.1)).Nodup
 le:st.length≤n
 len:∀g∈st,g.2.length=T
 sz:∀g∈st,∀s∈g.2,s.length≤n
 kl:∀g∈st,g.1.length=N
theorem g05{T n:Nat}{p:Prd}(hp:p.length=T)(h:∀s∈p,s.length≤n)(i:Nat)(x:Iv):(Uk p i x).length=T∧∀s∈Uk p i x,s.length≤n+1:=by
 refine⟨by simp[Uk,hp],fun s hs=> ?_⟩;rcases List.mem_or_eq_of_mem_set hs with hs|rfl
 ·have:=h s hs;omega
 ·rw[yL];by_cases hi:i<p.length
  ·rw[Wq hi];have:=h _ (zT hi);simp;omega
  ·simp[y_,hi]
theorem GB.put{T N n:Nat}{st:List (List Bool×Prd)}(h:GB T N n st){sg:List Bool}(hs:sg.length=N)(i:Nat)(x:Iv):GB T N (n+1) (Yn T i sg x st):=by
 by_cases hm:∃g∈st,g.1=sg
 ·obtain⟨a,p,b,h1,h2,h3⟩:=A6 (T:=T) (i:=i) (x:=x) hm;rw[h3];subst h1;have hp:=g05 (h.len (sg,p) (by simp)) (h.sz (sg,p) (by simp)) i x;have z1:∀g∈a++(sg,Uk p i x)::b,g=(sg,Uk p i x)∨g∈a++(sg,p)::b:=fun g hg=>by
   rcases yH.1 hg with hg|hg
   ·exact .inr (List.mem_append_left _ hg)
   ·rcases List.mem_cons.1 hg with rfl|hg
    ·exact .inl rfl
    ·exact .inr (List.mem_append_right _ (List.mem_cons_of_mem _ hg))
  refine⟨by simpa using h.nd,by have:=h.le;simp at this ⊢;omega,fun g hg=> ?_,fun g hg s z6=> ?_,fun g hg=> ?_⟩
  ·rcases z1 g hg with rfl|hg
   ·exact hp.1
   ·exact h.len g hg
  ·rcases z1 g hg with rfl|hg
   ·exact hp.2 s z6
   ·have:=h.sz g hg s z6;omega
  ·rcases z1 g hg with rfl|hg
   ·exact hs
   ·exact h.kl g hg
 ·have z7:∀g∈st,g.1≠sg:=fun g hg e=>hm ⟨g,hg,e⟩;rw[Oh z7];have hp:=g05 (T:=T) (p:=yB T []) (n:=n) (by simp) (fun s z6=>by rw[(tB.1 z6).2];simp) i x;have z1:∀g∈st++[(sg,Uk (yB T []) i x)],g=(sg,Uk (yB T []) i x)∨g∈st:=fun g hg=>by
   rcases yH.1 hg with hg|hg
   ·exact .inr hg
   ·exact .inl (z_.1 hg)
  refine⟨?_,by have:=h.le;simp;omega,fun g hg=> ?_,fun g hg s z6=> ?_,fun g hg=> ?_⟩
  ·rw[yX,List.nodup_append];refine⟨h.nd,by simp,fun a ha b hb e=> ?_⟩;obtain⟨g,hg,rfl⟩:=zX.1 ha;simp at hb;exact z7 g hg (e.trans hb)
  ·rcases z1 g hg with rfl|hg
   ·exact hp.1
   ·exact h.len g hg
  ·rcases z1 g hg with rfl|hg
   ·exact hp.2 s z6
   ·have:=h.sz g hg s z6;omega
  ·rcases z1 g hg with rfl|hg
   ·exact hs
   ·exact h.kl g hg
end Go.Abs
/-
 DERIVED:THE SHELF's CONTRACTS AT THIS DUMP,IN PLAIN WORDS (tools/lay-plain.mjs out of 'TryzShelf.lean',which tools/lay-shelf.mjs wrote):THE SAME DECLARATIONS UNDER THE SAME NAMES:'import','namespace','open','def','theorem' AND NOTHING ELSE:no command of the shelf's:FOR A HAND-IN. Each laying:the table of numbers ('.._ren') and one theorem,a field a fact of the dump's own or the kernel's comparison;each contract:ONE APPLICATION.
-/
namespace Go.Proofs
open Go.Shelf
def Tryz.laysM176_ren:Go.Shelf.Ren:=⟨fun|176=>178|249=>200|288=>218|283=>240|284=>241|285=>242|286=>243|129=>217|317=>251|318=>252|319=>253|320=>254|337=>257|338=>258|n=>n,fun|37=>234|2=>2|3=>3|53=>250|4=>4|9=>9|171=>288|0=>0|173=>290|212=>300|51=>247|5=>5|20=>20|213=>301|46=>213|232=>304|233=>305|n=>n,fun|17=>0|18=>1|19=>2|n=>n⟩
theorem Tryz.laysM176:Go.Proofs.LaysM.n176 Tryz.prog Tryz.laysM176_ren:={
 mixed:=by kernel_rfl
 f129:=Tryz.func217.trans (congrArg some (by kernel_rfl))
 f176:=Tryz.func178.trans (congrArg some (by kernel_rfl))
 f249:=Tryz.func200.trans (congrArg some (by kernel_rfl))
 f283:=Tryz.func240.trans (congrArg some (by kernel_rfl))
 f284:=Tryz.func241.trans (congrArg some (by kernel_rfl))
 f285:=Tryz.func242.trans (congrArg some (by kernel_rfl))
 f286:=Tryz.func243.trans (congrArg some (by kernel_rfl))
 f288:=Tryz.func218.trans (congrArg some (by kernel_rfl))
 f317:=Tryz.func251.trans (congrArg some (by kernel_rfl))
 f318:=Tryz.func252.trans (congrArg some (by kernel_rfl))
 f319:=Tryz.func253.trans (congrArg some (by kernel_rfl))
 f320:=Tryz.func254.trans (congrArg some (by kernel_rfl))
 f337:=Tryz.func257.trans (congrArg some (by kernel_rfl))
 f338:=Tryz.func258.trans (congrArg some (by kernel_rfl))
 t0:=Tryz.underlying0
 a0:=Tryz.isAgg0
 z0:=Tryz.sizeOf0
 v0:=Tryz.zeroValue0
 t2:=Tryz.underlying2
 a2:=Tryz.isAgg2
 z2:=Tryz.sizeOf2
 v2:=Tryz.zeroValue2
 t3:=Tryz.underlying3
 a3:=Tryz.isAgg3
 z3:=Tryz.sizeOf3
 v3:=Tryz.zeroValue3
 t4:=Tryz.underlying4
 a4:=Tryz.isAgg4
 z4:=Tryz.sizeOf4
 v4:=Tryz.zeroValue4
 t5:=Tryz.underlying5
 a5:=Tryz.isAgg5
 z5:=Tryz.sizeOf5
 v5:=Tryz.zeroValue5
 t9:=Tryz.underlying9
 a9:=Tryz.isAgg9
 z9:=Tryz.sizeOf9
 v9:=Tryz.zeroValue9
 t20:=Tryz.underlying20
 a20:=Tryz.isAgg20
 z20:=Tryz.sizeOf20
 v20:=Tryz.zeroValue20
 t37:=Tryz.underlying234
 a37:=Tryz.isAgg234
 z37:=Tryz.sizeOf234
 v37:=Tryz.zeroValue234
 t46:=Tryz.underlying213
 a46:=Tryz.isAgg213
 z46:=Tryz.sizeOf213
 v46:=Tryz.zeroValue213
 t51:=Tryz.underlying247
 a51:=Tryz.isAgg247
 z51:=Tryz.sizeOf247
 v51:=Tryz.zeroValue247
 t53:=Tryz.underlying250
 a53:=Tryz.isAgg250
 z53:=Tryz.sizeOf250
 v53:=Tryz.zeroValue250
 t171:=Tryz.underlying288
 a171:=Tryz.isAgg288
 z171:=Tryz.sizeOf288
 v171:=Tryz.zeroValue288
 t173:=Tryz.underlying290
 a173:=Tryz.isAgg290
 z173:=Tryz.sizeOf290
 v173:=Tryz.zeroValue290
 t212:=Tryz.underlying300
 a212:=Tryz.isAgg300
 z212:=Tryz.sizeOf300
 v212:=Tryz.zeroValue300
 t213:=Tryz.underlying301
 a213:=Tryz.isAgg301
 z213:=Tryz.sizeOf301
 t232:=Tryz.underlying304
 a232:=Tryz.isAgg304
 z232:=Tryz.sizeOf304
 v232:=Tryz.zeroValue304
 t233:=Tryz.underlying305
 a233:=Tryz.isAgg305
 z233:=Tryz.sizeOf305
 v233:=Tryz.zeroValue305
 g17:=by kernel_rfl
 g18:=by kernel_rfl
 g19:=by kernel_rfl
 i0:=by kernel_rfl
 i2:=by kernel_rfl
 i3:=by kernel_rfl
 i4:=by kernel_rfl
 i5:=by kernel_rfl
 i9:=by kernel_rfl
 i20:=by kernel_rfl
 i37:=by kernel_rfl
 i46:=by kernel_rfl
 i51:=by kernel_rfl
 i53:=by kernel_rfl
 i171:=by kernel_rfl
 i173:=by kernel_rfl
 i212:=by kernel_rfl
 i232:=by kernel_rfl
 i233:=by kernel_rfl
 m17:=by kernel_rfl
 m18:=by kernel_rfl
 m19:=by kernel_rfl }
open Go.RowKit Go.Sort Go.Lib in
theorem Tryz.strconv_AppendInt_10 (B n:Nat) (i:Int) (h0: -9223372036854775808≤i) (h1:i≤9223372036854775807) (sv:Value) (xs:List Value) (w:World) (z1:w.ownsRow B 5 1 sv n xs) (z8:B≤w.heap.size) (z6:n+21≤140737488355328) (z7:Lib.TabBelow Tryz.prog B w "internal/strconv.uint64pow10" .u64 Lib.pow10Tab):
  Calls Tryz.prog 178 #[sv,.int .i64 i,.int .i64 10] w fun e w'=>∃v',e= .returned v'∧w'.ownsRow B 5 1 v' (n+(Lib.itoa i).length) (xs++Lib.byteCells (Lib.itoa i))∧Below B w w'∧Lib.OthersKept 5 none w w':=Any.strconv_AppendInt_10 Tryz.laysM176 B n i h0 h1 sv xs w z1 z8 z6 z7
end Go.Proofs
namespace Go.Proofs
open Go.Shelf Go.RowKit
def Ry(zs:List Int):List UInt8:=zs.flatMap fun z=>32::Lib.itoa z
theorem u0o(zs:List Int){k:Nat}(h:k<zs.length):Ry (zs.take (k+1))=Ry (zs.take k)++32::Lib.itoa (zs.getD k 0):=by
 have:zs.getD k 0=zs[k]:=by simp[y_,h]
 rw[zY h,this,Ry,ww];simp[Ry]
theorem q06{zs:List Int}(hz:∀z∈zs,-9223372036854775808≤z∧z≤9223372036854775807):(Ry zs).length≤zs.length * 22:=by
 induction zs with
 |nil=>simp[Ry]
 |cons z r ih=>
  have h1:=Lib.itoa_length_le z (hz z (by simp)).1 (hz z (by simp)).2;have h2:=ih (fun y hy=>hz y (by simp[hy]));have e:Ry (z::r)=32::(Lib.itoa z++Ry r):=by simp[Ry]
  rw[e,yY,yL,yY];omega
theorem f0s:(Tryz.prog.info? 5).map (fun i=>(i.zero,i.size,i.bytes))=some (some (.int .u8 0),1,1):=by kernel_rfl
theorem w1k (ad:Addr) (cap:Nat) (zs:List Int) (w:World) (hb:ad.block<w.heap.size) (hz:∀z∈zs,-9223372036854775808≤z∧z≤9223372036854775807) (hl:zs.length≤1000) (zl:0<zs.length)
  (hc:∀j,j<zs.length→w.cell? (ad.add j)=some (.int .i64 (zs.getD j 0))) (zf:Lib.TabIs Tryz.prog w "internal/strconv.uint64pow10" .u64 Lib.pow10Tab):
  Calls Tryz.prog 123 #[.slice (some ad) zs.length cap] w fun e w'=>e= .returned (.string ⟨(Ry zs).toArray⟩)∧Below w.heap.size w w':=by
 obtain⟨i0,hi,zm,zn,zo⟩:=info_parts f0s;have hT:=Lib.tabBelow_of_tabIs zf;have zg:∀k,(Ry (zs.take k)).length≤22000:=fun k=>by
  have:=q06 (zs:=zs.take k) (fun z zp=>hz z (xV zp));rw[wp]at this;have:min k zs.length≤1000:=by omega
  omega
 go_enter Tryz.func123,Tryz.ntmps123
 go_wp2
 go_loopw [3,8] (fun v i wr=>∃k:Nat,k≤zs.length∧i= .int .i64 k∧wr.ownsRow w.heap.size 5 1 v (Ry (zs.take k)).length (Lib.byteCells (Ry (zs.take k)))∧Below w.heap.size w wr)
  (fun _ i _=>zs.length - (intOf i).toNat)
 case atStart=>exact⟨0,wD _,rfl,World.ownsRow_nil _ _ _ _,Below.refl _ _⟩
 case round=>
  obtain⟨k,hk,rfl,z1,zb⟩:=hrel;have zq:k<zs.length→wr.cell? (ad.add k)=some (.int .i64 (zs.getD k 0)):=fun h=>(zb.cell (by unfold Addr.add;split<;>exact hb)).trans (hc k h)
  go_wp2_with (first
   |(at_builtin;refine wpList_append_own _ rfl _ _ 234 rfl w.heap.size 5 i0 (.int .u8 0) 1 1 Tryz.underlying234 hi zm zn zo rfl (by decide) _ _ _ rfl (z1.alloc _) ⟨wr.heap.size,0,none⟩ 1 1 [.int .u8 32] rfl rfl ?c1 ?c2 ?c3 ?c4 ?c5 ?_)
   |go_in)
  case c1=>
   intro j u hj
   match j,hj with
   |0,hj=>simp at hj;subst hj;simp[Addr.add]
  case c2=>intro u hu;simp at hu;subst hu;rfl
  case c3=>have:=zg k;unfold maxLen;omega
  case c4=>have:=zg k;omega
  case c5=>have:=zb.size;simp;omega
  ·intro v' w1 z8 za _;have zc:k<zs.length:=by assumption
   have z7:Below w.heap.size w w1:=(zb.alloc (by have:=zb.size;omega) _).grown za (by have:=zb.size;simp;omega) (fun k hk=>(z1.lt k hk).1);have zk:=hz _ (zT zc);have zr:zs.getD k 0=zs[k]:=by simp[y_,zc]
   have ze:=u0o zs zc;rw[zr]at ze
   go_wp2_with (go_at_call 178;refine(Tryz.strconv_AppendInt_10 w.heap.size _ zs[k] zk.1 zk.2 v' _ w1 z8 (by have:=z7.size;omega) (by have:=zg k;omega) (hT.on z7)).mono ?_;rintro e w3 ⟨v3,rfl,z6,zh,-⟩;refine Hid.out ?_)
   have zd:w3.ownsRow w.heap.size 5 1 v3 (Ry (zs.take (k+1))).length (Lib.byteCells (Ry (zs.take (k+1)))):=by
    have e1:Lib.byteCells (Ry (zs.take k))++[Value.int .u8 32]++Lib.byteCells (Lib.itoa zs[k])=Lib.byteCells (Ry (zs.take (k+1))):=by rw[ze];simp[Lib.byteCells]
    have e2:(Ry (zs.take k)).length+1+(Lib.itoa zs[k]).length=(Ry (zs.take (k+1))).length:=by rw[ze];simp;omega
    rw[e1,e2]at z6;exact z6
   have zi:=z7.trans zh;clear z6 z8 za z1 zb z7 zq ze;refine Lib.hid ?_
   go_wp2
   go_roundw
   case rel=>exact⟨k+1,by omega,by simp,zd,zi⟩
   case measure=>simp[intOf];omega
  ·have zw:¬k<zs.length:=by assumption
   have zt:k=zs.length:=by omega
   subst zt;rw[xB]at z1;have zj:0<(Ry zs).length:=by
    obtain⟨z,r,rfl⟩:∃z r,zs=z::r:=by cases zs with
     |nil=>simp at zl
     |cons z r=>exact⟨z,r,rfl⟩
    simp[Ry]
   obtain⟨l,zc⟩:∃l,l=Ry zs:=⟨_,rfl⟩
   rw[←zc]at z1 zj;have HL:=Lib.hid zc;clear zc;rcases z1.2 with⟨-,h0⟩|⟨g,cap2,cur,rfl,-,-,-,-,-,-⟩
   ·omega
   ·have zu:=run_convert_bytes_back (P:=Tryz.prog) wr 234 9 5 ⟨g,0,none⟩ cap2 l Tryz.underlying234 Tryz.underlying5 Tryz.underlying9 (fun j hj=>z1.cells (g:=g) rfl j _ (by simp[Lib.byteCells,hj]));rw[zu]
    go_wp2
    go_ret
    have zv:=HL.out;subst zv;exact⟨rfl,zb⟩
end Go.Proofs
namespace Go.Abs
open Go Go.Proofs Go.RowKit
theorem k19(zs:List Int)(hz:∀z∈zs,-9223372036854775808≤z∧z≤9223372036854775807)(hl:zs.length≤1000)(z7:zs≠[]):PC Tryz.prog 123 [.list (zs.map .i)] (fun r=>r= .str (Ry zs)):=by
 refine⟨T7 Tryz.func123 rfl rfl,fun w I vals hE hI hl' hv=> ?_⟩;rcases vals with⟨vals⟩
 match vals,hl' with
 |[v],_=>
  have z8:=hv 0 v _ rfl rfl;obtain⟨a,cap,c,u,rfl,hcap,hmax,hc,ha,hu⟩:=z8.list_inv;have z1:0<zs.length:=List.length_pos_iff.2 z7;have za:c=1:=by have:=hc (.i zs[0]) (zX.2 ⟨_,zT z1,rfl⟩);simpa[AV.cells]using this.symm
  subst za;obtain⟨ad,rfl,zb,hcell⟩:=ha (by simpa using z1);have zc:∀j,j<zs.length→w.cell? (ad.add j)=some (.int .i64 (zs.getD j 0)):=fun j hj=>by have h1:=hcell j 0 (by simpa using hj) (by omega);have h2:=hu j (.i zs[j]) (by simp[hj]) 0 (.i zs[j]) rfl;have h3:=h2.val (u:= .int .i64 zs[j]) rfl;rw[Nat.mul_one,Nat.add_zero,h3]at h1;rw[h1];simp[y_,hj]
  have:=w1k ad cap zs w (hI _ (zb (by omega))) hz hl z1 zc (g0z hE);rw[yO];refine this.mono ?_;rintro e w' ⟨rfl,hb⟩;exact⟨_,I,_,rfl,rfl,hb,fun _ h=>h,fun b z6=>⟨Nat.lt_of_lt_of_le (hI b z6) hb.size,.inl z6⟩,.str _⟩
end Go.Abs
namespace Go.Proofs
open Go.Shelf Go.RowKit
def g1r(l:List UInt8):Nat:=l.foldl (fun v c=>v * 10+(c.toNat - 48)) 0
theorem g0c(l:List UInt8)(c:UInt8):g1r (l++[c])=g1r l * 10+(c.toNat - 48):=by simp[g1r,vA]
theorem Hm{k:Nat}(h:k<10):(UInt8.ofNat (48+k)).toNat=48+k:=by rw[UInt8.toNat_ofNat'];omega
theorem Ff(u:Nat):g1r (Lib.decDigits u)=u∧∀c∈Lib.decDigits u,c≠32:=by
 induction u using Nat.strongRecOn with
 |_ u ih=>
  rw[Lib.decDigits];by_cases h:u<10
  ·rw[dif_pos h];refine⟨?_,fun c hc e=> ?_⟩
   ·have:=Hm h;simp only[g1r,List.foldl_cons,uV,this];omega
   ·rw[z_.1 hc]at e;have:=Hm h;rw[e]at this;simp at this;omega
  ·rw[dif_neg h];obtain⟨h1,h2⟩:=ih (u / 10) (by omega);have hd:=Hm (Nat.mod_lt u (by decide:0<10));refine⟨?_,fun c hc e=> ?_⟩
   ·rw[g0c,h1,hd];omega
   ·rcases yH.1 hc with hc|hc
    ·exact h2 c hc e
    ·rw[z_.1 hc]at e;rw[e]at hd;simp at hd;omega
theorem f05{z:Int}(h:0≤z):Lib.itoa z=Lib.decDigits z.toNat:=by unfold Lib.itoa;rw[if_neg (by omega)]
theorem v1a:∀ {a b r s:List UInt8},(∀c∈a,c≠32)→(∀c∈b,c≠32)→(r=[]∨∃t,r=32::t)→(s=[]∨∃t,s=32::t)→a++r=b++s→a=b∧r=s
 |[],[],r,s,_,_,_,_,h=>⟨rfl,h⟩
 |[],y::b,r,s,_,hb,hr,_,h=>by
  rcases hr with rfl|⟨t,rfl⟩
  ·simp at h
  ·simp at h;exact absurd h.1.symm (hb y (by simp))
 |x::a,[],r,s,ha,_,_,hs,h=>by
  rcases hs with rfl|⟨t,rfl⟩
  ·simp at h
  ·simp at h;exact absurd h.1 (ha x (by simp))
 |x::a,y::b,r,s,ha,hb,hr,hs,h=>by simp only[vZ,List.cons.injEq]at h;obtain⟨h1,h2⟩:=v1a (fun c hc=>ha c (by simp[hc])) (fun c hc=>hb c (by simp[hc])) hr hs h.2;exact⟨by rw[h.1,h1],h2⟩
theorem Xo(zs:List Int):Ry zs=[]∨∃t,Ry zs=32::t:=by
 cases zs with
 |nil=>exact .inl rfl
 |cons z r=>exact .inr ⟨Lib.itoa z++Ry r,by simp[Ry]⟩
theorem Zn:∀ {a b:List Int},(∀z∈a,0≤z)→(∀z∈b,0≤z)→Ry a=Ry b→a=b
 |[],[],_,_,_=>rfl
 |[],y::b,_,_,h=>by simp[Ry]at h
 |x::a,[],_,_,h=>by simp[Ry]at h
 |x::a,y::b,ha,hb,h=>by
  have e1:∀(z:Int) (r:List Int),Ry (z::r)=32::(Lib.itoa z++Ry r):=fun z r=>by simp[Ry]
  rw[e1,e1,List.cons.injEq]at h;have hx:=ha x (by simp);have hy:=hb y (by simp);rw[f05 hx,f05 hy]at h;obtain⟨h1,h2⟩:=v1a (Ff _).2 (Ff _).2 (Xo a) (Xo b) h.2;have h3:=congrArg g1r h1;rw[(Ff _).1,(Ff _).1]at h3;have h4:=Zn (fun z hz=>ha z (by simp[hz])) (fun z hz=>hb z (by simp[hz])) h2;rw[h4,show x=y by omega]
end Go.Proofs
namespace Go.Abs
open Go Go.Proofs Go.Maps
structure Nx (a:Aut) (R:List Int) (x:Sy) (dn:Int→Prop) (nx:List Int):Prop where
 sub:∀z∈nx,z∈Wh a R x
 all:∀i,dn i→∀m∈a.mv,m.src=i→Tn m.on x=true→m.dst∈nx
theorem j0t{α β:Type}(f:α→β)(l:List α)(j:Nat):(l.map f).eraseIdx j=(l.eraseIdx j).map f:=by
 induction l generalizing j with
 |nil=>simp
 |cons x l ih=>cases j<;>simp[ih]
attribute [local irreducible] Bj Z6 Bp Wz Zy Wh
end Go.Abs
namespace Go.Abs
open Go Go.Proofs Go.Maps
def ksG(st:List (List Bool×Prd)):List (List UInt8):=st.map fun g=>sgB g.1
def prG(st:List (List Bool×Prd)):List Prd:=st.map (·.2)
def T8(T:Nat)(l:List Prd)(A:List (Nat×Iv)):List (List Bool×Prd):=A.foldl (fun st a=>Yn T a.1 (U7 l a.1 a.2.lo) a.2 st) []
theorem Kd(T:Nat)(l:List Prd)(A:List (Nat×Iv))(a:Nat×Iv):T8 T l (A++[a])=Yn T a.1 (U7 l a.1 a.2.lo) a.2 (T8 T l A):=by unfold T8;rw[vA];rfl
theorem Hq(T:Nat)(l:List Prd)(A:List (Nat×Iv)):GB T l.length A.length (T8 T l A):=by
 suffices h:∀n,∀A:List (Nat×Iv),A.length=n→GB T l.length n (T8 T l A) from h _ A rfl
 intro n;induction n with
 |zero=>intro A hA;have:=List.eq_nil_of_length_eq_zero hA;subst this;exact⟨by simp[T8],by simp[T8],fun g hg=>by simp[T8]at hg,fun g hg=>by simp[T8]at hg,fun g hg=>by simp[T8]at hg⟩
 |succ n ih=>
  intro A hA;rcases wS A with rfl|⟨B,a,rfl⟩
  ·simp at hA
  ·rw[wT]at hA ⊢;rw[Kd];exact(ih B (by simp at hA;omega)).put (by simp[U7]) _ _
def Ty(l:List Prd)(i:Nat):List (Nat×Iv):=(yV i).flatMap fun i=>(Tz (Wb l i)).map fun x=>(i,x)
def U2(l:List Prd)(i k:Nat):List (Nat×Iv):=Ty l i++((Tz (Wb l i)).take k).map fun x=>(i,x)
theorem Sj(l:List Prd)(i:Nat):U2 l i 0=Ty l i:=by simp[U2]
theorem k0q(l:List Prd)(i:Nat):U2 l i (Tz (Wb l i)).length=Ty l (i+1):=by simp[U2,Ty,wQ,xB]
theorem y0y(l:List Prd)(i k:Nat)(h:k+1<(Wb l i).length):U2 l i (k+1)=U2 l i k++[(i,(⟨(Wb l i)[k],(Wb l i)[k+1] - 1⟩:Iv))]:=by have h1:=q01 (Wb l i) k h;obtain⟨h2,h3⟩:=zE.1 h1;rw[U2,U2,zY h2,h3,yX,wd];rfl
theorem Nu{T:Nat}{l:List Prd}(hl:∀p∈l,PCk T p)(hn:l.length≤256)(i:Nat):(Wb l i).length≤131074:=by rw[←Lr];have h1:=U0 (R8 (Hv (Qx l i)));have h2:=Fh (Qx l i);rw[Iz,h2]at h1;have:=Yp hl i;omega
end Go.Abs
namespace Go.Abs
open Go Go.Proofs Go.Maps
theorem GInv.iv{T:Nat}{sig:Nat→Int→List Bool}{st:List (List Bool×Prd)}(h:GInv T sig (fun t n=>t<T∧inR n) st){g:List Bool×Prd}(hg:g∈st){s:List Iv}(hs:s∈g.2):ascS s∧∀x∈s,U5 x:=by have ha:=h.asc g hg s hs;refine⟨ha,fun x hx=> ?_⟩;obtain⟨t,ht,rfl⟩:=xE hs;have h1:=((h.mem g hg t x.lo).1 ⟨_,zP ht,x,hx,xF _,ha.1 x hx⟩).1.2;have h2:=((h.mem g hg t x.hi).1 ⟨_,zP ht,x,hx,ha.1 x hx,xF _⟩).1.2;unfold inR at h1 h2;exact⟨(W7 _).2 h1,(W7 _).2 h2⟩
theorem F7{T:Nat}{l:List Prd}(hl:∀p∈l,PCk T p)(hn:l.length≤256):∀i,(Ty l i).length≤i * 131073
 |0=>by simp[Ty]
 |i+1=>by have:=F7 hl hn i;have h2:=Nu hl hn i;have h3:=Py (Wb l i);rw[Ty,wQ,ww,yL];have h4:((yV i).flatMap fun i=>(Tz (Wb l i)).map fun x=>(i,x)).length=(Ty l i).length:=rfl;rw[h4];simp only[tD,List.flatMap_nil,xO,yO];omega
theorem k0h{T:Nat}{l:List Prd}(hl:∀p∈l,PCk T p)(hn:l.length≤256){i k:Nat}(hi:i<16):(U2 l i k).length≤2097168:=by have:=F7 hl hn i;have h2:=Nu hl hn i;have h3:=Py (Wb l i);rw[U2,yL,yO,wp];omega
theorem z1n(l:List Prd)(i:Nat)(n:Int):(U7 l i n).length=l.length:=by simp[U7]
theorem k0s(T:Nat)(l:List Prd):T8 T l (Ty l T)=Ie T l:=rfl
theorem Sb(l:List Prd):Ty l 0=[]:=rfl
theorem Gm(T:Nat)(l:List Prd):T8 T l []=[]:=rfl
theorem E9(ks:List (List UInt8)):mpT ks= .mp (ks.mapIdx fun c k=>(.str k,.i c)):=rfl
theorem q16{T:Nat}{l:List Prd}(hl:∀p∈l,PCk T p)(i:Nat):∀z∈Wb l i,-1099511627776≤z∧z≤1099511627777:=(Ya hl i).2.2.2.1
attribute [local irreducible] g0a Z7 Wb U7 T8 Ty U2 mpT
theorem B7(T:Int)(l:List Prd):PC Tryz.prog 115 [.i T,LP l] (fun r=>r= .tup [LP (R3 T l).2,.i (R3 T l).1]):=by
 refine Ql tOk Tryz.func115 rfl Tryz.results115 rfl (by simp[Tryz.ntmps115]) ?_;rw[Tryz.ntmps115];simp only[Qg];repeat first|(refine r_ ?_;simp)|refine q_ ?_
 refine Qa rfl (fun hc=> ?_) (fun hc=> ?_)
 ·have yf:T<1∨16<T:=by simpa using hc
  have hm:R3 T l=(2,[]):=by rw[R3,if_pos yf]
  rw[hm];repeat first|(refine r_ ?_;simp)|refine q_ ?_
 have yf:¬(T<1∨16<T):=by simpa using hc
 have xn:¬T<1:=fun h=>yf (.inl h);have xo:¬16<T:=fun h=>yf (.inr h);repeat first|(refine r_ ?_;simp)|refine q_ ?_
 refine Qa rfl (fun h=> ?_) (fun h=> ?_)
 ·have hm:R3 T l=(5,[]):=by rw[R3,if_neg (by omega),if_pos (by simp at h;omega)]
  rw[hm];repeat first|(refine r_ ?_;simp)|refine q_ ?_
 have hn:l.length≤256:=by simp at h;omega
 repeat first|(refine r_ ?_;simp)|refine q_ ?_
 refine Qu l.length (fun j=>Yu T l=Yu T (l.drop j)) (fun j=>[(0,.i T),(1,LP l),(28,LP l),(29,.i l.length),(30,.i j)]) (fun _=>[]) rfl (by simp) (by simp) (by simp) (by simp) (by simp) ?_;intro j hj hI ih;repeat first|(refine r_ ?_;simp)|refine q_ ?_
 refine Qa rfl (fun yg=> ?_) (fun yh=> ?_)
 ·have z1:j<l.length:=by simpa using yg
  have hw:IntKind.i64.wrap ((j:Int)+1)=j+1:=wrap_i64 _ (by omega) (by omega);rw[Ea z1,Yu]at hI;repeat first|(refine r_ ?_;simp[z1])|refine q_ ?_
  refine Qe rfl rfl (by simp) (P7 T l[j]) rfl ?_;rintro _ rfl;simp;repeat first|(refine r_ ?_;simp)|refine q_ ?_
  refine Qa rfl (fun h3=> ?_) (fun h3=> ?_)
  ·repeat first|(refine r_ ?_;simp)|refine q_ ?_
   rw[if_pos (by simpa using h3)]at hI;have hm:R3 T l=(E8 T l[j],[]):=by rw[R3,if_neg (by omega),if_neg (by omega),hI,if_pos (by simpa using h3)]
   rw[hm];exact⟨rfl,rfl⟩
  ·rw[if_neg (by simpa using h3)]at hI;repeat first|(refine r_ ?_;simp[hw])|refine q_ ?_
   refine Qs _ (ih z1 hI) rfl (by simp) ?_ (by simp) (by simp);simp
 ·have zr:j=l.length:=by simp at yh;omega
  subst zr;rw[ws]at hI;obtain⟨N,hN⟩:∃N:Nat,T=N:=⟨T.toNat,by omega⟩
  subst hN;have zp:∀p∈l,PCk N p:=fun p hp=>by simpa using((Es (N:Int) p).1 ((I1 l).1 hI p hp)).2
  have hm:R3 N l=if Sd (Ed N l)then(5,[])else(0,Ed N l):=by rw[R3,if_neg (by omega),if_neg (by omega),hI,if_neg (by simp[Yu])];simp
  repeat first|(refine r_ ?_;simp)|refine q_ ?_
  refine R7 rfl rfl rfl ?_;simp;repeat first|(refine r_ ?_;simp)|refine q_ ?_
  refine Q6 9 76 1 rfl ?_;simp;refine Fb 1 rfl ?_;simp;have xa:=Rows.start0 N 1 [.mp [],AObj.va 76 1 []] rfl (fun j=>if j=0 then(0,1)else(0,0)) rfl;refine Qo (Qc (sl':=[(0,.i N),(1,LP l),(9,.sl 1 1 0 (T8 N l (Ty l 0)).length),(10,.mref 0),(42,.i N),(43,.i (0:Nat))]) ?_ (by simp[Sb,Gm]));refine Qp (F:=fun(u:Nat×Nat×(Nat→Nat)×(Nat→Nat→Nat)×(Nat→Nat×Nat)×List AObj)=>⟨[(0,.i N),(1,LP l),(9,.sl u.2.1 1 0 (T8 N l (Ty l u.1)).length),(10,.mref 0),(42,.i N),(43,.i u.1)],u.2.2.2.2.2⟩)
   (fun u=>u.1≤N∧Rows [] N u.2.1 (prG (T8 N l (Ty l u.1))) u.2.2.1 u.2.2.2.1 u.2.2.2.2.1 u.2.2.2.2.2∧u.2.2.2.2.2[0]? =some (mpT (ksG (T8 N l (Ty l u.1))))∧u.2.2.2.2.1 0=(0,1)) (fun u=>N - u.1) ?_ (0,1,fun _=>0,fun _ _=>0,fun j=>if j=0 then(0,1)else(0,0),[.mp [],AObj.va 76 1 []]) ⟨by simp,by rw[Sb,Gm];exact xa,by rw[Sb,Gm,ksG,E9];rfl,rfl⟩
  rintro⟨i,o,Q,L,tag,G⟩ ⟨hi,hR,za,zb⟩ ih;simp only at hi hR za zb ih ⊢;repeat first|(refine r_ ?_;simp)|refine q_ ?_
  refine Qa rfl (fun yg=> ?_) (fun yh=> ?_)
  ·have z1:i<N:=by simpa using yg
   have hw:IntKind.i64.wrap ((i:Int)+1)=i+1:=wrap_i64 _ (by omega) (by omega);repeat first|(refine r_ ?_;simp)|refine q_ ?_
   refine Qe rfl rfl (by simp) (k14 N l i z1 (by omega) zp hn) rfl ?_;rintro _ rfl;simp;repeat first|(refine r_ ?_;simp)|refine q_ ?_
   have zg:=Nu zp hn i;have zt:0<(Wb l i).length:=by have h1:=(Ya zp i).2.1;exact List.length_pos_of_mem h1
   refine Qo (Qc (sl':=[(0,.i N),(1,LP l),(9,.sl o 1 0 (T8 N l (U2 l i 0)).length),(10,.mref 0),(11,.i i),(12,LI (Wb l i)),(13,.i (0:Nat)),(42,.i N),(43,.i i)]) ?_ (by simp[Sj]));refine Qp (F:=fun(u:Nat×Nat×(Nat→Nat)×(Nat→Nat→Nat)×(Nat→Nat×Nat)×List AObj)=>⟨[(0,.i N),(1,LP l),(9,.sl u.2.1 1 0 (T8 N l (U2 l i u.1)).length),(10,.mref 0),(11,.i i),(12,LI (Wb l i)),(13,.i u.1),(42,.i N),(43,.i i)],u.2.2.2.2.2⟩)
    (fun u=>u.1<(Wb l i).length∧Rows [] N u.2.1 (prG (T8 N l (U2 l i u.1))) u.2.2.1 u.2.2.2.1 u.2.2.2.2.1 u.2.2.2.2.2∧u.2.2.2.2.2[0]? =some (mpT (ksG (T8 N l (U2 l i u.1))))∧u.2.2.2.2.1 0=(0,1)) (fun u=>(Wb l i).length - u.1) ?_ (0,o,Q,L,tag,G) ⟨zt,by rw[Sj];exact hR,by rw[Sj];exact za,zb⟩
   clear hR za zb;clear o Q L tag G;rintro⟨k,o,Q,L,tag,G⟩ ⟨hk,hR,za,zb⟩ ih2;simp only at hk hR za zb ih2 ⊢;have y2:IntKind.i64.wrap ((k:Int)+1)=k+1:=wrap_i64 _ (by omega) (by omega);repeat first|(refine r_ ?_;simp[y2])|refine q_ ?_
   refine Qa rfl (fun yi=> ?_) (fun yj=> ?_)
   ·have z8:k+1<(Wb l i).length:=by simp at yi;omega
    have zu:k<(Wb l i).length:=hk;have y3:=y0y l i k z8;have y4:=Hq N l (U2 l i k);have y5:=k0h (k:=k) zp hn (by omega:i<16);have yz:=fun x=>Kd N l (U2 l i k) x;have zh:=fun o' Q' L' yk G'=>ih2 (k+1,o',Q',L',yk,G');simp only[y3,yz]at zh;clear y3 yz;have xb:∀z∈Wb l i,-1099511627776≤z∧z≤1099511627777:=q16 zp i;have xp:=xb _ (zT z8);generalize T8 N l (U2 l i k)=st at *
    repeat first|(refine r_ ?_;simp[zu])|refine q_ ?_
    refine Qe rfl rfl (by simp) (Xy N l i (Wb l i)[k] z1 (by omega) zp hn) rfl ?_;rintro _ rfl;simp;repeat first|(refine r_ ?_;simp)|refine q_ ?_
    have xq:(U7 l i (Wb l i)[k]).length=l.length:=by rw[z1n]
    have x0:IntKind.i64.wrap ((Wb l i)[k+1] - 1)=(Wb l i)[k+1] - 1:=wrap_i64 _ (by omega) (by omega);generalize xr:U7 l i (Wb l i)[k]=sg at *
    have x1:∀m∈ksG st,m.length≤1000000:=fun m hm=>by obtain⟨g,hg,rfl⟩:=zX.1 hm;rw[Zh,y4.kl g hg];omega
    refine Fw (n:=sgB sg) rfl rfl rfl rfl rfl za x1 (by rw[Zh];omega) (fun c hc=> ?_) (fun x2=> ?_)
    ·obtain⟨p,hp⟩:∃p,st[c]? =some (sg,p):=by rw[ksG,yI]at hc;obtain⟨g,hg,he⟩:=zZ.1 hc;have:=f01 he;exact⟨g.2,by rw[hg,←this]⟩
     simp;repeat first|(refine r_ ?_;simp)|refine q_ ?_
     refine Qm rfl ?_;simp;repeat first|(refine r_ ?_;simp)|refine q_ ?_
     have xc:=X3 (T:=N) (i:=i) (x:=⟨(Wb l i)[k],(Wb l i)[k+1] - 1⟩) y4.nd hp;rw[xc]at zh;have zg:=Gq hp;have y5:p.length=N:=y4.len _ (zO hp);have yl:∀s∈p,s.length≤2097168:=fun s hs=>by have:=y4.sz _ (zO hp) s hs;omega
     have zm:(prG st)[c]? =some p:=by rw[prG,yI,hp];rfl
     have zi:prG (st.set c (sg,Uk p i ⟨(Wb l i)[k],(Wb l i)[k+1] - 1⟩))=(prG st).set c (Uk p i ⟨(Wb l i)[k],(Wb l i)[k+1] - 1⟩):=by rw[prG,u6];rfl
     have zj:ksG (st.set c (sg,Uk p i ⟨(Wb l i)[k],(Wb l i)[k+1] - 1⟩))=ksG st:=by
      rw[ksG,u6];refine xW fun j=> ?_;by_cases e:c=j
      ·subst e;rw[zU (by simpa using zg)];exact hc.symm
      ·rw[zH e];rfl
     have zc:(st.set c (sg,Uk p i ⟨(Wb l i)[k],(Wb l i)[k+1] - 1⟩)).length=st.length:=by simp
     generalize st.set c (sg,Uk p i ⟨(Wb l i)[k],(Wb l i)[k+1] - 1⟩)=st' at *;refine Qw (sl':=[(0,.i N),(1,LP l),(9,.sl o 1 0 st.length),(10,.mref 0),(11,.i i),(12,LI (Wb l i)),(13,.i k),(15,.i c),(42,.i N),(43,.i i)]) ?_ (by simp)
     have z6:(prG st).length=st.length:=by simp[prG]
     generalize st.length=n at *;generalize ksG st=ks at *;generalize prG st=pr at *
     have z7:=hR.row c p zm;have zd:=hR.out;rw[z6]at zd;have zv:c<pr.length:=by omega
     have zw:=Qi za;have xd:=Qi z7;have zx:=Qi zd;have zn:=hR.tQ c zv;have zk:=hR.to;have ym:Q c≠o:=fun e=>by rw[←e,zn]at zk;simp at zk
     have y6:Q c≠0:=fun e=>by rw[e,zb]at zn;simp at zn
     have yn:o≠0:=fun e=>by rw[e,zb]at zk;simp at zk
     have y7:=fun hn=>hR.leaf c p i zm z1 hn;have y8:=fun hn=>hR.tL c p i zm z1 hn;have zo:=Oq (L c) N p;have zf:=Pu (L c) p z1;have zl:=M5 Q N zg;have zy:=Zs Q N n;have y9:i<p.length:=by omega
     have yo:(p.getD i []).length≤2097168:=by rw[Wq y9];exact yl _ (zT y9)
     obtain⟨s,hs⟩:∃s,p.getD i []=s:=⟨_,rfl⟩
     rw[hs]at zf yo y7 y8;obtain⟨row,ya⟩:∃row,g0a (L c) N p=row:=⟨_,rfl⟩
     rw[ya]at z7 zo zf;refine Ma (fun E1=>∃z,E1[Q c]? =some (.va 171 1 (row.set i (.sl z 2 0 s.length)))∧E1[z]? =some (.arr 187 2 (s.map encIv))∧(∀j,j<G.length→j≠Q c→E1[j]? =G[j]?)∧G.length≤E1.length∧(tag z=(c+1,i+1)∨G.length≤z)) (fun hm=> ?_) ?_
     ·by_cases hs0:s=[]
      ·rw[Dt,if_pos hs0]at zf;refine Aj (Q c) i 187 2 z7 zf ?_;refine hm _ ⟨G.length,by rw[hs0];exact Qh (Qb z7 _) _,?_,fun j hj zt=> ?_,by simp,.inr (zW _)⟩
       ·rw[zH (by omega),hs0];simp
       ·rw[zH (Ne.symm zt),zI hj]
      ·rw[Dt,if_neg hs0]at zf;have zz:row.set i (.sl (L c i) 2 0 s.length)=row:=q0d zf;exact hm G ⟨L c i,by rw[zz];exact z7,y7 hs0,fun _ _ _=>rfl,zW _,.inl (y8 hs0)⟩
     ·rintro E1 ⟨z,f1,f2,f3,f4,f5⟩;have yp:z≠Q c:=fun e=>by
       rcases f5 with h|h
       ·rw[e,zn]at h;simp at h
       ·omega
      have yq:z≠o:=fun e=>by
       rcases f5 with h|h
       ·rw[e,zk]at h;simp at h
       ·omega
      have yr:z≠0:=fun e=>by
       rcases f5 with h|h
       ·rw[e,zb]at h;simp at h
       ·omega
      have g1:=(f3 o zx (Ne.symm ym)).trans zd;have g0:=(f3 0 zw (Ne.symm y6)).trans za;have ze:∀hh,(Z7 Q N n)[c]'hh= .agg [.sl (Q c) 1 0 N]:=fun hh=>by rw[zP hh]at zl;exact Option.some.inj zl
      have yt:∀hh,(row.set i (.sl z 2 0 s.length))[i]'hh= .sl z 2 0 s.length:=fun hh=>by simp
      have d1:∀M,(E1.set z .dead++M)[Q c]? =some (.va 171 1 (row.set i (.sl z 2 0 s.length))):=fun M=>Qb (Qd yp f1 _) M;have y0:∀M,M=(E1.set z .dead++[AObj.arr 187 2 [encIv ⟨(Wb l i)[k],(Wb l i)[k+1] - 1⟩],.arr 187 2 (s.map encIv++[encIv ⟨(Wb l i)[k],(Wb l i)[k+1] - 1⟩])]).set (Q c) (.va 171 1 (row.set i (.sl (E1.length+1) 2 0 (s.length+1))))→
        Rows [] N o (prG st') Q (fun c' k'=>if c'=c∧k'=i then E1.length+1 else L c' k') (fun j=>if j=E1.length+1 then(c+1,i+1)else tag j) M∧M[0]? =some (mpT (ksG st'))∧(if 0=E1.length+1 then(c+1,i+1)else tag 0)=(0,1):=fun M hM=>by
       rw[zi,zj];have xe:=Qi g0;have xf:=Qi f1;refine⟨hR.put zm y5 z1 (by omega) ?_ ?_ (fun j hj h1 h2=> ?_),?_,by rw[if_neg (by omega)];exact zb⟩
       ·rw[hM,ya,hs];exact zU (by simp;omega)
       ·rw[hM,hs,zH (by omega),zL (by simp)];simp
       ·have yu:z≠j:=fun e=>by
         rcases f5 with h|h
         ·rw[e]at h;exact h2 h
         ·omega
        rw[hM,zH (Ne.symm h1),zI (by simp;omega),zH yu];exact f3 j hj h1
       ·rw[hM,zH y6,zI (by simp;omega),zH yr];exact g0
      have yv:(0:Int)≤(k:Int)+1:=by omega
      have yw:(k:Int)+1<(Wb l i).length:=by omega
      have dI:∀M,(E1++M)[z]? =some (.arr 187 2 (s.map encIv)):=fun M=>Qb f2 M;have d2:∀M,(E1++M)[Q c]? =some (.va 171 1 (row.set i (.sl z 2 0 s.length))):=fun M=>Qb f1 M;have yb:∀M hh,(E1.set z .dead++M)[Q c]'hh= .va 171 1 (row.set i (.sl z 2 0 s.length)):=fun M hh=>by have:=d1 M;rw[zP hh]at this;exact Option.some.inj this
      have d3:∀M,(E1.set z .dead++M)[o]? =some (.va 76 1 (Z7 Q N n)):=fun M=>Qb (Qd yq g1 _) M;have d4:∀M,(E1++M)[o]? =some (.va 76 1 (Z7 Q N n)):=fun M=>Qb g1 M;refine Qk tOk mixed [26,28] (.val 0 (.val 1 (.val 2 (.val 3 (.val 5 (.val 6 (.val 7 (.val 8 (.val 9 (.val 10 (.val 11 (.val 12 (.val 13 (.val 14 (.val 15 (.val 16 (.val 17 (.val 18 (.val 19 (.val 20 (.val 21 (.val 22 (.val 23 (.val 24 (.two 4 (.one 25 (.one 26 (.val 27 (.one 28 (.done))))) 25 (.two 4 (.one 26 (.val 27 (.one 28 (.done)))) 26 (.val 4 (.val 27 (.one 28 (.done)))))))))))))))))))))))))))))) rfl (by kernel_rfl) ?_;simp[g1,zl,ze,zy,zg,f1,yt,zo,z1,zu,z8,y2,x0,yv,yw,d4];refine⟨?_,?_⟩;all_goals
       refine Qf tOk rfl rfl U6 rfl A7 rfl (by decide) (by decide) rfl rfl rfl ?_;simp[dI,Qj f2,d1,yb,d2,d3,d4,z1,zo,zl,ze,zy,zg];refine⟨by simp[Wk,dI,Qj f2,d1,yb,d2,d3,d4,z1,zo,zl,ze,zy,zg]<;>omega,?_⟩;repeat first|(refine r_ ?_;simp[y2])|refine q_ ?_
       refine Qc (sl':=[(0,.i N),(1,LP l),(9,.sl o 1 0 n),(10,.mref 0),(11,.i i),(12,LI (Wb l i)),(13,.i (k+1:Nat)),(42,.i N),(43,.i i)]) ?_ (by simp);obtain⟨q1,q2,q3⟩:=y0 _ rfl;rw[←zc];have:=zh o Q _ _ _ ⟨z8,q1,q2,q3⟩ (by omega);simpa[zc]using this
    ·simp;repeat first|(refine r_ ?_;simp)|refine q_ ?_
     refine Qm rfl ?_;simp;repeat first|(refine r_ ?_;simp)|refine q_ ?_
     have xg:(ksG st).length=st.length:=by simp[ksG]
     have z6:(prG st).length=st.length:=by simp[prG]
     refine Jw (n:=sgB sg) rfl rfl rfl rfl rfl (ks:=ksG st) (by rw[xg];rfl) za x1 (by rw[Zh];omega) x2 ?_;simp;repeat first|(refine r_ ?_;simp)|refine q_ ?_
     refine El tOk rfl rfl rfl T74 rfl U6 rfl rfl rfl (n:=N) (by simp;omega) (by unfold maxLen;omega) .nils rfl ?_;simp;have x3:(0:Nat)≠o:=fun e=>by subst e;rw[hR.out]at za;rw[E9]at za;simp at za
     have yx:=Qd x3 hR.out (mpT (ksG st++[sgB sg]));have xh:=Qh za (mpT (ksG st++[sgB sg]));have xi:∀j,j≠0→(G.set 0 (mpT (ksG st++[sgB sg])))[j]? =G[j]? :=fun j hj=>zH (Ne.symm hj);have xj:(G.set 0 (mpT (ksG st++[sgB sg]))).length=G.length:=by simp
     have yc:=Zs Q N st.length;rw[←xj];generalize G.set 0 (mpT (ksG st++[sgB sg]))=G1 at *
     have hle:=y4.le;refine Je tOk rfl rfl T91 rfl T76 rfl (by decide) (by decide) rfl rfl rfl ?_;simp[I9,Zw,Qb yx,yc,z6];refine⟨by simp[Wk,yc,z6]<;>omega,?_⟩;repeat first|(refine r_ ?_;simp)|refine q_ ?_
     refine Fb (e:=171) (c:=1) (xs:=yB N .nils) G1.length (by rw[zI (by simp),zH (by have:=Qi yx;omega)];simp) ?_;have xk:=Qi yx;have zt:∀g∈st,g.1≠sg:=fun g hg e=>x2 (zX.2 ⟨g,hg,by rw[e]⟩);rw[Oh zt]at zh;have x4:Rows [] N o (prG st) Q L tag G1:=hR.other (fun j hj ht=>xi j (fun e=>by subst e;exact ht zb)) (by omega);refine Wf fun Z hZ=> ?_;have y1:=x4.new (H':=Z) (q:=G1.length) (o':=G1.length+2) (zW _) (by omega) (by omega) (by rw[hZ];exact zU (by simp;omega)) (by rw[hZ,z6,zH (by omega),zL (by simp)];simp) (fun j hj xl=>by rw[hZ,zH (by omega),zI (by simp;omega),zH (Ne.symm xl),zI hj]);have x5:Z[0]? =some (mpT (ksG st++[sgB sg])):=by rw[hZ,zH (by omega),zI (by simp),zH (Ne.symm x3),zI (by omega)];exact xh
     clear hZ;have x6:(fun j=>if j=G1.length then(st.length+1,0)else if j=G1.length+2 then(0,0)else tag j) 0=((0,1):Nat×Nat):=by
      show(if 0=G1.length then(st.length+1,0)else if 0=G1.length+2 then(0,0)else tag 0)=((0,1):Nat×Nat)
      rw[if_neg (by omega),if_neg (by omega)];exact zb
     rw[z6]at y1;clear hR za zb x4;have zg:st.length<st.length+1:=by omega
     have zm:(prG st++[yB N []])[st.length]? =some (yB N ([]:List Iv)):=by rw[←z6];simp
     have zq:(prG st++[yB N []]).length=st.length+1:=by simp[z6]
     have yd:(yB N ([]:List Iv)).length=N:=by simp
     have yl:∀s∈yB N ([]:List Iv),s.length≤2097168:=fun s hs=>by rw[(tB.1 hs).2];simp
     have zi:prG (st++[(sg,Uk (yB N []) i ⟨(Wb l i)[k],(Wb l i)[k+1] - 1⟩)])=(prG st++[yB N []]).set st.length (Uk (yB N []) i ⟨(Wb l i)[k],(Wb l i)[k+1] - 1⟩):=by rw[th _ _ (by omega),z6,Nat.sub_self,prG,yX];rfl
     have zj:ksG (st++[(sg,Uk (yB N []) i ⟨(Wb l i)[k],(Wb l i)[k+1] - 1⟩)])=ksG st++[sgB sg]:=by simp[ksG]
     have zc:(st++[(sg,Uk (yB N []) i ⟨(Wb l i)[k],(Wb l i)[k+1] - 1⟩)]).length=st.length+1:=by simp
     generalize st++[(sg,Uk (yB N []) i ⟨(Wb l i)[k],(Wb l i)[k+1] - 1⟩)]=st' at *;refine Qw (sl':=[(0,.i N),(1,LP l),(9,.sl (G1.length+2) 1 0 (st.length+1)),(10,.mref 0),(11,.i i),(12,LI (Wb l i)),(13,.i k),(15,.i st.length),(42,.i N),(43,.i i)]) ?_ (by simp)
     generalize prG st++[yB N []]=pr at *;generalize yB N ([]:List Iv)=p at *;generalize ksG st++[sgB sg]=ks at *;generalize (fun c=>if c=st.length then G1.length else Q c)=Q at *
     generalize (fun j=>if j=G1.length then(st.length+1,0)else if j=G1.length+2 then(0,0)else tag j)=tag at *
     generalize st.length+1=n at *;generalize st.length=c at *;generalize G1.length+2=o at *
     have hR:=y1;have za:=x5;have z6:=zq;have y5:=yd;have zb:=x6;clear y1 x5 zq yd x6;generalize xt:Z=G at *
     have z7:=hR.row c p zm;have zd:=hR.out;rw[z6]at zd;have zv:c<pr.length:=by omega
     have zw:=Qi za;have xd:=Qi z7;have zx:=Qi zd;have zn:=hR.tQ c zv;have zk:=hR.to;have ym:Q c≠o:=fun e=>by rw[←e,zn]at zk;simp at zk
     have y6:Q c≠0:=fun e=>by rw[e,zb]at zn;simp at zn
     have yn:o≠0:=fun e=>by rw[e,zb]at zk;simp at zk
     have y7:=fun hn=>hR.leaf c p i zm z1 hn;have y8:=fun hn=>hR.tL c p i zm z1 hn;have zo:=Oq (L c) N p;have zf:=Pu (L c) p z1;have zl:=M5 Q N zg;have zy:=Zs Q N n;have y9:i<p.length:=by omega
     have yo:(p.getD i []).length≤2097168:=by rw[Wq y9];exact yl _ (zT y9)
     obtain⟨s,hs⟩:∃s,p.getD i []=s:=⟨_,rfl⟩
     rw[hs]at zf yo y7 y8;obtain⟨row,ya⟩:∃row,g0a (L c) N p=row:=⟨_,rfl⟩
     rw[ya]at z7 zo zf;refine Ma (fun E1=>∃z,E1[Q c]? =some (.va 171 1 (row.set i (.sl z 2 0 s.length)))∧E1[z]? =some (.arr 187 2 (s.map encIv))∧(∀j,j<G.length→j≠Q c→E1[j]? =G[j]?)∧G.length≤E1.length∧(tag z=(c+1,i+1)∨G.length≤z)) (fun hm=> ?_) ?_
     ·by_cases hs0:s=[]
      ·rw[Dt,if_pos hs0]at zf;refine Aj (Q c) i 187 2 z7 zf ?_;refine hm _ ⟨G.length,by rw[hs0];exact Qh (Qb z7 _) _,?_,fun j hj zt=> ?_,by simp,.inr (zW _)⟩
       ·rw[zH (by omega),hs0];simp
       ·rw[zH (Ne.symm zt),zI hj]
      ·rw[Dt,if_neg hs0]at zf;have zz:row.set i (.sl (L c i) 2 0 s.length)=row:=q0d zf;exact hm G ⟨L c i,by rw[zz];exact z7,y7 hs0,fun _ _ _=>rfl,zW _,.inl (y8 hs0)⟩
     ·rintro E1 ⟨z,f1,f2,f3,f4,f5⟩;have yp:z≠Q c:=fun e=>by
       rcases f5 with h|h
       ·rw[e,zn]at h;simp at h
       ·omega
      have yq:z≠o:=fun e=>by
       rcases f5 with h|h
       ·rw[e,zk]at h;simp at h
       ·omega
      have yr:z≠0:=fun e=>by
       rcases f5 with h|h
       ·rw[e,zb]at h;simp at h
       ·omega
      have g1:=(f3 o zx (Ne.symm ym)).trans zd;have g0:=(f3 0 zw (Ne.symm y6)).trans za;have ze:∀hh,(Z7 Q N n)[c]'hh= .agg [.sl (Q c) 1 0 N]:=fun hh=>by rw[zP hh]at zl;exact Option.some.inj zl
      have yt:∀hh,(row.set i (.sl z 2 0 s.length))[i]'hh= .sl z 2 0 s.length:=fun hh=>by simp
      have d1:∀M,(E1.set z .dead++M)[Q c]? =some (.va 171 1 (row.set i (.sl z 2 0 s.length))):=fun M=>Qb (Qd yp f1 _) M;have y0:∀M,M=(E1.set z .dead++[AObj.arr 187 2 [encIv ⟨(Wb l i)[k],(Wb l i)[k+1] - 1⟩],.arr 187 2 (s.map encIv++[encIv ⟨(Wb l i)[k],(Wb l i)[k+1] - 1⟩])]).set (Q c) (.va 171 1 (row.set i (.sl (E1.length+1) 2 0 (s.length+1))))→
        Rows [] N o (prG st') Q (fun c' k'=>if c'=c∧k'=i then E1.length+1 else L c' k') (fun j=>if j=E1.length+1 then(c+1,i+1)else tag j) M∧M[0]? =some (mpT (ksG st'))∧(if 0=E1.length+1 then(c+1,i+1)else tag 0)=(0,1):=fun M hM=>by
       rw[zi,zj];have xe:=Qi g0;have xf:=Qi f1;refine⟨hR.put zm y5 z1 (by omega) ?_ ?_ (fun j hj h1 h2=> ?_),?_,by rw[if_neg (by omega)];exact zb⟩
       ·rw[hM,ya,hs];exact zU (by simp;omega)
       ·rw[hM,hs,zH (by omega),zL (by simp)];simp
       ·have yu:z≠j:=fun e=>by
         rcases f5 with h|h
         ·rw[e]at h;exact h2 h
         ·omega
        rw[hM,zH (Ne.symm h1),zI (by simp;omega),zH yu];exact f3 j hj h1
       ·rw[hM,zH y6,zI (by simp;omega),zH yr];exact g0
      have yv:(0:Int)≤(k:Int)+1:=by omega
      have yw:(k:Int)+1<(Wb l i).length:=by omega
      have dI:∀M,(E1++M)[z]? =some (.arr 187 2 (s.map encIv)):=fun M=>Qb f2 M;have d2:∀M,(E1++M)[Q c]? =some (.va 171 1 (row.set i (.sl z 2 0 s.length))):=fun M=>Qb f1 M;have yb:∀M hh,(E1.set z .dead++M)[Q c]'hh= .va 171 1 (row.set i (.sl z 2 0 s.length)):=fun M hh=>by have:=d1 M;rw[zP hh]at this;exact Option.some.inj this
      have d3:∀M,(E1.set z .dead++M)[o]? =some (.va 76 1 (Z7 Q N n)):=fun M=>Qb (Qd yq g1 _) M;have d4:∀M,(E1++M)[o]? =some (.va 76 1 (Z7 Q N n)):=fun M=>Qb g1 M;refine Qk tOk mixed [26,28] (.val 0 (.val 1 (.val 2 (.val 3 (.val 5 (.val 6 (.val 7 (.val 8 (.val 9 (.val 10 (.val 11 (.val 12 (.val 13 (.val 14 (.val 15 (.val 16 (.val 17 (.val 18 (.val 19 (.val 20 (.val 21 (.val 22 (.val 23 (.val 24 (.two 4 (.one 25 (.one 26 (.val 27 (.one 28 (.done))))) 25 (.two 4 (.one 26 (.val 27 (.one 28 (.done)))) 26 (.val 4 (.val 27 (.one 28 (.done)))))))))))))))))))))))))))))) rfl (by kernel_rfl) ?_;simp[g1,zl,ze,zy,zg,f1,yt,zo,z1,zu,z8,y2,x0,yv,yw,d4];refine⟨?_,?_⟩;all_goals
       refine Qf tOk rfl rfl U6 rfl A7 rfl (by decide) (by decide) rfl rfl rfl ?_;simp[dI,Qj f2,d1,yb,d2,d3,d4,z1,zo,zl,ze,zy,zg];refine⟨by simp[Wk,dI,Qj f2,d1,yb,d2,d3,d4,z1,zo,zl,ze,zy,zg]<;>omega,?_⟩;repeat first|(refine r_ ?_;simp[y2])|refine q_ ?_
       refine Qc (sl':=[(0,.i N),(1,LP l),(9,.sl o 1 0 n),(10,.mref 0),(11,.i i),(12,LI (Wb l i)),(13,.i (k+1:Nat)),(42,.i N),(43,.i i)]) ?_ (by simp);obtain⟨q1,q2,q3⟩:=y0 _ rfl;rw[←zc];have:=zh o Q _ _ _ ⟨z8,q1,q2,q3⟩ (by omega);simpa[zc]using this
   ·have ye:k=(Tz (Wb l i)).length:=by rw[Py];simp at yj;omega
    subst ye;rw[k0q]at hR za ⊢;repeat first|(refine r_ ?_;simp[hw])|refine q_ ?_
    refine Qc (sl':=[(0,.i N),(1,LP l),(9,.sl o 1 0 (T8 N l (Ty l (i+1))).length),(10,.mref 0),(42,.i N),(43,.i (i+1:Nat))]) ?_ (by simp);exact ih (i+1,o,Q,L,tag,G) ⟨by omega,hR,za,zb⟩ (by omega)
  ·have zr:i=N:=by simp at yh;omega
   subst zr;have x7:T8 i l (Ty l i)=Ie i l:=k0s i l;rw[x7]at hR ⊢;have x8:=f0e zp;have yy:=Hq i l (Ty l i);rw[x7]at yy;have y5:=F7 zp hn i;have xm:Ed i l=(prG (Ie i l)).map Rl:=by rw[Ed,prG,v_];rfl
   rw[xm]at hm;have z6:(prG (Ie i l)).length=(Ie i l).length:=by simp[prG]
   repeat first|(refine r_ ?_;simp)|refine q_ ?_
   have x9:=k1g i o (prG (Ie i l)) Q L tag G hR (by omega) (fun p hp=>by
    obtain⟨g,hg,rfl⟩:=zX.1 hp;exact⟨yy.len g hg,fun s hs=>⟨(x8.iv hg hs).1,by have:=yy.sz g hg s hs;omega,(x8.iv hg hs).2⟩⟩)
   rw[z6]at x9;refine Q8 rfl rfl x9 rfl ?_;rintro r H' (⟨rfl,hb⟩|⟨rfl,hb⟩)
   ·rw[if_pos hb]at hm;rw[hm];simp;repeat first|(refine r_ ?_;simp)|refine q_ ?_
   ·rw[if_neg (by simp[hb])]at hm;rw[hm];simp;repeat first|(refine r_ ?_;simp)|refine q_ ?_
end Go.Abs
