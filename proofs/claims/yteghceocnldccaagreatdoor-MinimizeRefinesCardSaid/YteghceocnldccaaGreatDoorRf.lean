/- Part Rf of the proof: an abstract machine over the model, and what the functions of the program hand back in its terms. No condition. -/
import Derived.Test.YteghceocnldccaaGreatDoorRe
import Derived.Test.YteghceocnldccaaGreatDoorRc
import Derived.Shelf.Small.Bits
import Derived.Shelf.Strconv.Itoa0
import Derived.Shelf.Strconv.Itoa1
import Derived.Shelf.LaysM
import Derived.Shelf.Strconv.Itoa2
import Derived.Shelf.Strconv.AppendUint10
import Derived.Shelf.Strconv.AppendInt10
import Derived.Shelf.Strconv.AppendIntPublic10
import Derived.Test.YteghceocnldccaaGreatDoorProg
import Derived.Lib.AppendIntMem
import Derived.Lib.ItoaLen
import Derived.Lib.Slices
import Derived.Lib.Hide
import Derived.Laws.IdiomStrings
import Derived.OwnWalk
import Derived.WalkKit
import Derived.BigCall
set_option linter.all false
open List renaming getElem?_eq_some_iff→zB,getElem?_set_self→zO,getElem?_eq_getElem→zK,take_succ_eq_append_getElem→zU,flatMap_append→wp,getD→yX,getElem_mem→zL,flatMap_cons→tu,length_append→zZ,length_cons→yS,cons_append→vY,take_zero→wJ,mem_of_mem_take→xS,length_take→wn,append_nil→xB,append_assoc→xT,take_length→yW,map_append→yP,map_cons→yZ,replicate→yL,set_append_right→t6,replicate_succ→uk,getElem?_append_right→zH,take_of_length_le→zR,pairwise_iff_getElem→yU,getElem?_append_left→zF,getElem?_set_ne→zE,foldl_nil→uK,eq_nil_or_concat→wM,concat_eq_append→wN,range→yO,ext_getElem→wQ,getElem_set→tD,getElem_map→ux,getElem_range→un,all_eq_true→zX,mem_map→zT,take_append_drop→xU,drop_length→xF,nil_append→ww,any_eq_true→vz,getElem_of_mem→xH,mem_range→y_,length_map→yB,length_filter_le→wd,range_succ→wH,ext_getElem?→xZ,length_set→wV,getElem?_eq_none→xL,length_singleton→vS,map_congr_left→xX,map_map→vF,map_nil→wG,mem_append→zW,mem_singleton→zQ,getElem?_map→zY,mem_of_getElem?→zJ,mem_mapIdx→tF,getElem?_mapIdx→vG,getElem?_cons_succ→uS,mem_replicate→uo,foldl_append→wL,map_set→tT
open Nat renaming zero_le→xD,le_trans→yH,le_refl→zP
open Int renaming le_refl→xN
open Bool renaming or_eq_true→vW
open Option renaming map_eq_some_iff→zV
set_option maxHeartbeats 8000000
set_option linter.unusedSimpArgs false
set_option maxRecDepth 100000
namespace Go.Abs
open Go Go.Proofs
attribute [local irreducible] Jm
theorem f0s(p:Prd):PC Tryz.prog 173 [encP p] (fun r=>r= .fn (.func 197) [] [.iptr [.list (p.map encL)]]):=by refine Qk tOk Tryz.func173 rfl Tryz.results173 rfl (by simp[Tryz.ntmps173]) ?_;rw[Tryz.ntmps173];simp only[Qg];simp only[encP];repeat first|(refine r_ ?_;simp)|refine q_ ?_
theorem x08(p:Prd)(h0:Jm [p]=0)(hv:Wf p=false):PC Tryz.prog 121 [encP p] (fun r=>r= .tup [encSy (Qp p),.i 0]):=by
 have hlen:p.length≤16:=by
  unfold Jm at h0;by_cases hc:E5 p.length p=0
  ·have:=((Ec _ p).1 hc).1;omega
  ·rw[if_pos hc]at h0;exact absurd h0 hc
 obtain⟨t,x,rr,h1,h2,h3⟩:∃t x r,p[t]? =some (x::r)∧Qy p 0=(0+t,x.lo)∧∀j,j<t→p[j]? =some []:=by refine Po p 0 ?_;rw[Wf,List.all_eq_false]at hv;obtain⟨s,hs,hn⟩:=hv;exact⟨s,hs,fun e=>hn (by rw[e];rfl)⟩
 rw[Nat.zero_add]at h2;have za:Qp p=⟨t,x.lo⟩:=by rw[Qp,h2]
 rw[za];obtain⟨ze,zb⟩:=zB.1 h1;refine Qk tOk Tryz.func121 rfl Tryz.results121 rfl (by simp[Tryz.ntmps121]) ?_;rw[Tryz.ntmps121];simp only[Qg];simp only[encP,encSy];repeat first|(refine r_ ?_;simp)|refine q_ ?_
 refine Iz 3 rfl ?_;simp;refine Qe rfl rfl (by simp) (Ld [p]) rfl ?_;rintro _ rfl;simp;repeat first|(refine r_ ?_;simp)|refine q_ ?_
 refine Qa rfl (fun h=>by rw[h0]at h;simp at h) (fun h=> ?_);repeat first|(refine r_ ?_;simp)|refine q_ ?_
 refine Qe rfl rfl (by simp) (f0s p) rfl ?_;rintro _ rfl;simp;repeat first|(refine r_ ?_;simp)|refine q_ ?_
 refine Eo rfl (Rf:=fun _ H'=>4<H'.length∧(∃sl' z8 a' b',H'[4]? =some (.lp false (some Code.ret) 25 sl' z8 a' b'))∧H'[1]? =some (.vars [.i t,.i x.lo])∧H'[2]? =some (.vars [.i 0])) ?_ ?_
 ·simp;refine Ha fun H1 z6=> ?_;have f1:H1[1]? =some (.vars [.i 0,.i 0]):=by rw[z6];rfl
  have f2:H1[2]? =some (.vars [.i 0]):=by rw[z6];rfl
  have f4:=congrArg (fun h:List AObj=>h[4]?) z6;simp at f4;have zc:H1.length=5:=by rw[z6];simp
  clear z6;refine W6 tOk Tryz.func197 rfl Tryz.results197 rfl (by simp[Tryz.ntmps197]) ?_;rw[Tryz.ntmps197];simp only[Qg];repeat first|(refine r_ ?_;simp)|refine q_ ?_
  refine Qo (Qc (sl':=[(0,.yld 4),(6,.list (p.map encL)),(7,.i p.length),(8,.i (0:Nat))]) ?_ (by simp));refine Qn (F:=fun(u:Nat)=>⟨[(0,.yld 4),(6,.list (p.map encL)),(7,.i p.length),(8,.i u)],H1⟩) (fun u=>u≤t) (fun u=>t - u) ?_ 0 (by simp);rintro j hj ih;have z1:j<p.length:=by omega
  have hw:IntKind.i64.wrap ((j:Int)+1)=j+1:=wrap_i64 _ (by omega) (by omega);repeat first|(refine r_ ?_;simp)|refine q_ ?_
  refine Qa rfl (fun _=> ?_) (fun zd=>by simp at zd;omega);by_cases hjt:j=t
  ·subst hjt;repeat first|(refine r_ ?_;simp[z1,zb])|refine q_ ?_
   refine Uu rfl rfl (q:=4) rfl rfl f4 rfl rfl rfl (fun jm K2=>jm=some Code.ret∧5≤K2.length∧K2[1]? =some (.vars [.i j,.i x.lo])∧K2[2]? =some (.vars [.i 0])) ?_ ?_
   ·simp[Tn];have e1:=Qd (j:=4) (by decide) f1 .dead;have e2:=Qd (j:=4) (by decide) f2 .dead;have e4:=Qi f4 .dead;have e6:(H1.set 4 .dead).length=5:=by simp[zc]
    generalize H1.set 4 .dead=E at *
    have e3:∀y,(E.set 1 y)[2]? =some (.vars [.i 0]):=fun y=>Qd (by decide) e2 y;repeat first|(refine r_ ?_;simp[e1,e2,e3])|refine q_ ?_
    exact⟨Qd (by decide) (Qd (by decide) e4 _) _,rfl,by simp[e6],Qd (by decide) (Qi e1 _) _,Qi (e3 _) _⟩
   ·rintro jm K2 ⟨rfl,v1,v2,v3⟩;simp;repeat first|(refine r_ ?_;simp)|refine q_ ?_
    have v6:4<K2.length:=by omega
    refine Qa rfl (fun _=> ?_) (fun h=>by cases h);repeat first|(refine r_ ?_;simp)|refine q_ ?_
    exact⟨by omega,⟨_,_,_,_,zO v6⟩,v2,v3⟩
  ·have z7:p[j]=[]:=by have:=h3 j (by omega);rw[zK z1]at this;exact Option.some.inj this
   repeat first|(refine r_ ?_;simp[z1,z7])|refine q_ ?_
   refine Q9 rfl rfl ?_;simp;refine Ql rfl ?_;simp;repeat first|(refine r_ ?_;simp[hw])|refine q_ ?_
   exact Qc (sl':=[(0,.yld 4),(6,.list (p.map encL)),(7,.i p.length),(8,.i (j+1:Nat))]) (ih (j+1) (by omega) (by omega)) (by simp)
 ·rintro r H' ⟨hl,⟨sl',z8,a',b',k4⟩,k1,k2⟩;refine⟨_,_,_,_,_,_,_,k4,?_⟩;simp;have u1:=Qd (j:=4) (by decide) k1 .dead;have u2:=Qd (j:=4) (by decide) k2 .dead;generalize H'.set 4 .dead=E at *
  repeat first|(refine r_ ?_;simp[u1,u2])|refine q_ ?_
end Go.Abs
namespace Go.Abs
open Go Go.Proofs
abbrev x21:Iv:=⟨-1099511627776,1099511627776⟩
theorem Ue(i:Nat):Qw [] i=[]:=rfl
theorem P0{l:List Prd}{j i:Nat}(hj:j<l.length)(hi:i<l[j].length):Qw (l.take (j+1)) i=Qw (l.take j) i++l[j][i]:=by unfold Qw;rw[zU hj,wp];simp[yX,hi]
theorem Uc{T:Nat}{l:List Prd}(hl:∀p∈l,PCk T p)(i:Nat):(Qw l i).length≤256 * l.length:=by
 induction l with
 |nil=>simp[Qw]
 |cons p r ih=>
  have h1:=ih (fun q hq=>hl q (by simp[hq]));have h2:(p.getD i []).length≤256:=by
   by_cases hi:i<p.length
   ·rw[Wu hi];exact((hl p (by simp)).2 _ (zL hi)).len
   ·simp[yX,hi]
  unfold Qw at *;rw[tu,zZ,yS];omega
def Jj(xs:List Iv):List Int:=Ma (x21::xs)
theorem d01(xs:List Iv)(x:Iv):Jj (xs++[x])=Jj xs++[x.lo,x.hi+1]:=by unfold Jj;rw[←vY,w0l]
theorem Fl(xs:List Iv):(Jj xs).length=2 * xs.length+2:=by rw[Jj,c0b];simp;omega
theorem L4(l:List Prd)(i:Nat):Lib.compact (Tj (Jj (Qw l i)))=Wd l i:=rfl
attribute [local irreducible] Jj Tj Lib.compact Qw
theorem f1u(T:Nat)(l:List Prd)(i:Nat)(hi:i<T)(hT:T≤16)(hl:∀p∈l,PCk T p)(hn:l.length≤256):PC Tryz.prog 168 [LP l,.i i] (fun r=>r=LI (Wd l i)):=by
 refine Qk tOk Tryz.func168 rfl Tryz.results168 rfl (by simp[Tryz.ntmps168]) ?_;rw[Tryz.ntmps168];simp only[Qg];repeat first|(refine r_ ?_;simp)|refine q_ ?_
 have h2:Jj (Qw (l.take 0) i)=[-1099511627776,1099511627777]:=by rw[wJ,Ue,Jj];rfl
 have zj:=Uc hl i;refine Qo (Qc (sl':=[(0,LP l),(1,.i i),(5,.sl 0 1 0 (Jj (Qw (l.take 0) i)).length),(11,LP l),(12,.i l.length),(13,.i (0:Nat))]) ?_ (by rw[h2];simp));refine Qn (F:=fun(u:Nat×Nat×List AObj)=>⟨[(0,LP l),(1,.i i),(5,.sl u.2.1 1 0 (Jj (Qw (l.take u.1) i)).length),(11,LP l),(12,.i l.length),(13,.i u.1)],u.2.2⟩)
  (fun u=>u.1≤l.length∧SL [] u.2.2 u.2.1 3 1 ((Jj (Qw (l.take u.1) i)).map (AV.int .i64))) (fun u=>l.length - u.1) ?_ (0,0,_) ⟨by simp,by rw[h2];exact⟨rfl,by simp,fun j hj=>by simp at hj⟩⟩
 rintro⟨j,q,H2⟩ ⟨hj,g⟩ ih;simp only at hj g ih ⊢;repeat first|(refine r_ ?_;simp)|refine q_ ?_
 refine Qa rfl (fun zk=> ?_) (fun zl=> ?_)
 ·have z6:j<l.length:=by simpa using zk
  have hw:IntKind.i64.wrap ((j:Int)+1)=j+1:=wrap_i64 _ (by omega) (by omega);have hp:=hl _ (zL z6);have z8:i<l[j].length:=by rw[hp.1];exact hi
  have hs:=hp.2 _ (zL z8);have zf:=P0 z6 z8;have za:=Uc (l:=l.take j) (fun p hp=>hl p (xS hp)) i;rw[wn]at za;have zg:=hs.len;have zb:=fun k hk=>hs.iv (j:=k) hk;repeat first|(refine r_ ?_;simp[z6,z8])|refine q_ ?_
  generalize l[j][i]=s at *;generalize hA:Qw (l.take j) i=A at *;refine Qo (Qc (sl':=[(0,LP l),(1,.i i),(5,.sl q 1 0 (Jj (A++s.take 0)).length),(11,LP l),(12,.i l.length),(13,.i j),(21,LIv s),(22,.i s.length),(23,.i (0:Nat))]) ?_ (by simp))
  refine Qn (F:=fun(u:Nat×Nat×List AObj)=>⟨[(0,LP l),(1,.i i),(5,.sl u.2.1 1 0 (Jj (A++s.take u.1)).length),(11,LP l),(12,.i l.length),(13,.i j),(21,LIv s),(22,.i s.length),(23,.i u.1)],u.2.2⟩)
   (fun u=>u.1≤s.length∧SL [] u.2.2 u.2.1 3 1 ((Jj (A++s.take u.1)).map (AV.int .i64))) (fun u=>s.length - u.1) ?_ (0,q,_) ⟨by simp,by rw[wJ,xB];exact g.add _⟩
  rintro⟨m,q',H3⟩ ⟨hm,g'⟩ ih';simp only at hm g' ih' ⊢;repeat first|(refine r_ ?_;simp)|refine q_ ?_
  refine Qa rfl (fun zc=> ?_) (fun zd=> ?_)
  ·have z1:m<s.length:=by simpa using zc
   have zm:IntKind.i64.wrap ((m:Int)+1)=m+1:=wrap_i64 _ (by omega) (by omega);obtain⟨b1,b2,b3⟩:=zb m z1;have zn:IntKind.i64.wrap (s[m].hi+1)=s[m].hi+1:=wrap_i64 _ (by omega) (by omega);have zo:Jj (A++s.take (m+1))=Jj (A++s.take m)++[s[m].lo,s[m].hi+1]:=by rw[zU z1,←xT,d01]
   have zh:=Fl (A++s.take m);rw[zZ,wn]at zh;have zi:=fun q' H'=>ih' (m+1,q',H');simp only[zo]at zi;generalize Jj (A++s.take m)=acc at *
   repeat first|(refine r_ ?_;simp[z1,zn])|refine q_ ?_
   refine Qf tOk rfl rfl T40 rfl T3 rfl (by decide) (by decide) rfl rfl rfl ?_;simp[Qb g'.arr,Qj g'.arr];refine⟨by simp[Wi,Qb g'.arr,Qj g'.arr]<;>omega,?_⟩;repeat first|(refine r_ ?_;simp[zm])|refine q_ ?_
   refine Qc (sl':=[(0,LP l),(1,.i i),(5,.sl (H3.length+2) 1 0 (acc.length+2)),(11,LP l),(12,.i l.length),(13,.i j),(21,LIv s),(22,.i s.length),(23,.i (m+1:Nat))]) ?_ (by simp);have:=zi (H3.length+2) _ ⟨by omega,g'.put [AObj.vars [AV.i s[m].lo,AV.i s[m].hi],AObj.arr 3 1 [AV.i s[m].lo,AV.i (s[m].hi+1)]] _ rfl⟩ (by omega);simpa using this
  ·have z7:m=s.length:=by simp at zd;omega
   subst z7;rw[yW]at g' ⊢;repeat first|(refine r_ ?_;simp[hw])|refine q_ ?_
   refine Qc (sl':=[(0,LP l),(1,.i i),(5,.sl q' 1 0 (Jj (A++s)).length),(11,LP l),(12,.i l.length),(13,.i (j+1:Nat))]) ?_ (by simp);have:=ih (j+1,q',H3) ⟨by omega,by rw[zf];exact g'⟩ (by show l.length - (j+1)<l.length - j;omega);rw[zf]at this;exact this
 ·have ze:j=l.length:=by simp at zl;omega
  subst ze;rw[yW]at g ⊢;have zh:=Fl (Qw l i);rw[←L4];generalize Jj (Qw l i)=acc at *
  repeat first|(refine r_ ?_;simp)|refine q_ ?_
  refine Q7 rfl rfl (Kg H2 q acc g.arr (by omega)) rfl ?_;rintro r H' ⟨rfl,rfl⟩;simp;repeat first|(refine r_ ?_;simp)|refine q_ ?_
  have g2:=Qi g.arr (.arr 3 1 ((Tj acc).map (AV.int .i64)));have zg:=Iw acc;rw[←zg];refine Q7 rfl rfl (A9 _ q (Tj acc) g2 (by omega) (Uw _)) rfl ?_;rintro r H' ⟨rfl,G,rfl⟩;simp;have g3:=Qi g.arr (.arr 3 1 ((Lib.compact (Tj acc)++G).map (AV.int .i64)));repeat first|(refine r_ ?_;simp)|refine q_ ?_
  rw[yP]at g3;simp[g3]
end Go.Abs
namespace Go.Abs
open Go Go.Proofs
attribute [simp] w26 T5 T9
def sb(b:Bool):UInt8:=if b then 1 else 0
def sgB(bs:List Bool):List UInt8:=bs.map sb
theorem c02:∀ {a b:List Bool},sgB a=sgB b→a=b
 |[],[],_=>rfl
 |[],_::_,h=>by simp[sgB]at h
 |_::_,[],h=>by simp[sgB]at h
 |x::a,y::b,h=>by simp only[sgB,yZ,List.cons.injEq]at h;obtain⟨h1,h2⟩:=h;rw[c02 (a:=a) (b:=b) h2];cases x<;>cases y<;>simp[sb]at h1 ⊢
theorem Lo(bs:List Bool):(sgB bs).length=bs.length:=by simp[sgB]
def sgJ(bs:List Bool)(j:Nat):List AV:=(sgB (bs.take j)++yL (bs.length - j) 0).map byteAV
theorem k1e{bs:List Bool}{j:Nat}(h:j≤bs.length):(sgJ bs j).length=bs.length:=by simp[sgJ,sgB];omega
theorem w1r(bs:List Bool):yL bs.length (AV.int .u8 0)=sgJ bs 0:=by simp[sgJ,sgB]
theorem k1r(bs:List Bool):sgJ bs bs.length=(sgB bs).map byteAV:=by simp[sgJ]
theorem y2j{bs:List Bool}{j:Nat}(h:j<bs.length)(hb:bs[j]=true):(sgJ bs j).set j (AV.int .u8 1)=sgJ bs (j+1):=by
 have h1:(sgB (bs.take j)).length=j:=by simp[sgB];omega
 have e:bs.length - j=(bs.length - (j+1))+1:=by omega
 unfold sgJ;rw[yP,t6 (h:=by simp[h1]),zU h,e,uk];have hm:j - min j bs.length=0:=by omega
 simp[h1,sgB,hb,sb,byteAV,hm]
theorem k1m{bs:List Bool}{j:Nat}(h:j<bs.length):(sgJ bs j)[j]? =some (AV.int .u8 0):=by
 have h1:(sgB (bs.take j)).length=j:=by simp[sgB];omega
 unfold sgJ;have e:bs.length - j=(bs.length - (j+1))+1:=by omega
 rw[yP,zH (by simp[h1]),e,uk];simp[h1]
theorem z2y{bs:List Bool}{j:Nat}(h:j<bs.length)(hb:bs[j]=false):sgJ bs j=sgJ bs (j+1):=by
 have e:bs.length - j=(bs.length - (j+1))+1:=by omega
 unfold sgJ;rw[zU h,e,uk];simp[sgB,hb,sb]
theorem f1g{l:List Prd}{i j:Nat}(n:Int)(hj:j<l.length)(hi:i<l[j].length)(h:j<(Ih l i n).length):(Ih l i n)[j]=Pj l[j][i] n:=by simp[Ih,yX,hi]
attribute [local irreducible] sgJ sgB Pj Ih
theorem C1(T:Nat)(l:List Prd)(i:Nat)(n:Int)(hi:i<T)(hT:T≤16)(hl:∀p∈l,PCk T p)(hn:l.length≤256):PC Tryz.prog 169 [LP l,.i i,.i n] (fun r=>r= .str (sgB (Ih l i n))):=by
 refine Qk tOk Tryz.func169 rfl Tryz.results169 rfl (by simp[Tryz.ntmps169]) ?_;rw[Tryz.ntmps169];simp only[Qg];have z6:(Ih l i n).length=l.length:=by simp[Ih]
 repeat first|(refine r_ ?_;simp)|refine q_ ?_
 refine E9 tOk rfl rfl rfl w26 rfl T5 rfl rfl rfl (n:=l.length) (by simp;omega) (by unfold maxLen;omega) (.int .u8 0) rfl ?_;simp;rw[←z6,w1r];repeat first|(refine r_ ?_;simp)|refine q_ ?_
 refine Qo (Qc (sl':=[(1,.i i),(2,.i n),(7,.sl 0 1 0 l.length),(15,LP l),(16,.i l.length),(17,.i (0:Nat))]) ?_ (by simp[z6]));refine Qn (F:=fun(u:Nat×List AObj)=>⟨[(1,.i i),(2,.i n),(7,.sl 0 1 0 l.length),(15,LP l),(16,.i l.length),(17,.i u.1)],u.2⟩)
  (fun u=>u.1≤l.length∧u.2[0]? =some (.arr 5 1 (sgJ (Ih l i n) u.1))) (fun u=>l.length - u.1) ?_ (0,_) ⟨by simp,rfl⟩
 rintro⟨j,H2⟩ ⟨hj,g⟩ ih;simp only at hj g ih ⊢;have ze:=k1e (bs:=Ih l i n) (j:=j) (by omega);repeat first|(refine r_ ?_;simp)|refine q_ ?_
 refine Qa rfl (fun zg=> ?_) (fun zh=> ?_)
 ·have z1:j<l.length:=by simpa using zg
  have hw:IntKind.i64.wrap ((j:Int)+1)=j+1:=wrap_i64 _ (by omega) (by omega);have hp:=hl _ (zL z1);have za:i<l[j].length:=by rw[hp.1];exact hi
  have hs:=hp.2 _ (zL za);have zi:=f1g n z1 za (by omega);have hT:=y2j (bs:=Ih l i n) (j:=j) (by omega);have hF:=z2y (bs:=Ih l i n) (j:=j) (by omega);rw[zi]at hT hF;have zb:x17 l[j][i] n=(Pj l[j][i] n,0):=by rw[x17,if_pos ((Bp _).2 hs)]
  have z7:=fun H'=>ih (j+1,H');simp only at z7;repeat first|(refine r_ ?_;simp[z1,za])|refine q_ ?_
  refine Qe rfl rfl (by simp) (Jg l[j][i] n) rfl ?_;rintro _ rfl;simp;rw[zb];generalize Pj l[j][i] n=b at *
  repeat first|(refine r_ ?_;simp)|refine q_ ?_
  have gL:∀L,(H2++L)[0]? =some (.arr 5 1 (sgJ (Ih l i n) j)):=fun L=>Qb g L;cases b with
  |true=>
   rw[←hT rfl]at z7;clear hT hF;refine Qa rfl (fun _=> ?_) (fun h=>by cases h);have zc:=k1m (bs:=Ih l i n) (j:=j) (by omega);have zj:∀hh,(sgJ (Ih l i n) j)[j]'hh=AV.int .u8 0:=fun hh=>by rw[zK hh]at zc;exact Option.some.inj zc
   have gL1:∀L hh,(H2++L)[0]'hh= .arr 5 1 (sgJ (Ih l i n) j):=fun L hh=>by have:=gL L;rw[zK hh]at this;exact Option.some.inj this
   repeat first|(refine r_ ?_;simp[gL,gL1,ze,z1,z6,zc,zj,hw])|refine q_ ?_
   refine Qc (sl':=[(1,.i i),(2,.i n),(7,.sl 0 1 0 l.length),(15,LP l),(16,.i l.length),(17,.i (j+1:Nat))]) ?_ (by simp);exact z7 _ ⟨by omega,Qi (gL _) _⟩ (by omega)
  |false=>
   rw[←hF rfl]at z7;refine Qa rfl (fun h=>by cases h) (fun _=> ?_);repeat first|(refine r_ ?_;simp[hw])|refine q_ ?_
   refine Qc (sl':=[(1,.i i),(2,.i n),(7,.sl 0 1 0 l.length),(15,LP l),(16,.i l.length),(17,.i (j+1:Nat))]) ?_ (by simp);exact z7 _ ⟨by omega,gL _⟩ (by omega)
 ·have zd:j=l.length:=by simp at zh;omega
  subst zd;have z8:=k1r (Ih l i n);rw[z6]at z8;rw[z8]at g ze;have zf:=Lo (Ih l i n);generalize sgB (Ih l i n)=s at *
  repeat first|(refine r_ ?_;simp)|refine q_ ?_
  refine Mu tOk rfl rfl w26 rfl T5 rfl T9 rfl rfl (s:=s) (by simp[g,zf,z6];rw[zR (by simp[zf,z6])]) rfl ?_;simp;repeat first|(refine r_ ?_;simp)|refine q_ ?_
end Go.Abs
namespace Go.Abs
open Go Go.Proofs Go.RowKit Go.Shelf Go.Lib Go.Sort
theorem Nc(x y:Iv)(W:World):Calls Tryz.prog 180 #[.agg #[.int .i64 x.lo,.int .i64 x.hi],.agg #[.int .i64 y.lo,.int .i64 y.hi]] W fun e w'=>e= .returned (.int .i64 (Lib.compareInt x.lo y.lo))∧∃q os',w'=grow (W.drewN q) os':=by
 have z1:=fun W'=>Tryz.cmp_Compare_int x.lo y.lo W';generalize Lib.compareInt x.lo y.lo=r at z1 ⊢
 go_enter Tryz.func180,Tryz.ntmps180
 go_wp2_with (go_at_call 181;refine(z1 _).mono ?_;rintro e w' ⟨rfl,rfl⟩)
 go_ret
 exact⟨rfl,0,_,by rw[alloc_eq_grow,alloc_eq_grow,grow_grow];rfl⟩
theorem x1j(H:List AObj)(p:Nat)(l:List Iv)(hp:H[p]? =some (.arr 187 2 (l.map encIv)))(hl:l.length≤1000000):
  FC Tryz.prog 179 [.sl p 2 0 l.length,.fn (.func 180) [] []] H
   (fun r H'=>r= .tup []∧∃l':List Iv,l'.Perm l∧X0 l'∧H'=H.set p (.arr 187 2 (l'.map encIv))):=by
 refine(u0q (xs:=l.map encIv) (Yi Tryz.func179 rfl rfl) (by simp) hp (q21 l) [.func (.func 180) #[] #[]] (fun w I m vs a b=>Mf _ w I m _ vs a b) (fun z1=>∃l':List Iv,l'.Perm l∧X0 l'∧z1=l'.map encIv) ?_ ?_).mono ?_
 ·intro b cap w hH hb hc;have eg:∀args w,(callFunc 180 args).run Tryz.prog w= .ok (.enter 180 args) w:=enters_of Tryz.func180 (by kernel_rfl) rfl;have:=AnyQ.slices_SortFunc Tryz.sortIv 2 Tryz.isAgg187 Tryz.sizeOf187 Kh (fun _=>rfl) (fun x v hv=>by simp[Kh]at hv;rcases hv with rfl|rfl<;>rfl) (fun x y=>Lib.compareInt x.lo y.lo) y2s 180 #[] b 0 cap l.toArray w eg (fun _ _ _ _ x y=>Nc x y _) hH hb (by simp;omega);change Calls Tryz.prog 179 _ _ _ at this;rw[show(l.toArray).size=l.length by simp]at this;refine Calls.mono (this) ?_;rintro e w' ⟨rfl,d',n,os,h1,h2,rfl⟩;obtain⟨s1,_,s3⟩:=h1;have hs:d'.toList.length=l.length:=by simpa using s1
  refine⟨rfl,d'.toList.map encIv,flatK Kh 2 d',n,os,⟨d'.toList,?_,?_,rfl⟩,by simp[hs],by simpa using q21 d'.toList,rfl⟩
  ·rw[show d'.extract 0 l.length=d' by simp[←hs],show l.toArray.extract 0 l.length=l.toArray by simp]at s3;simpa using s3
  ·refine yU.2 fun i j hi hj z6=> ?_;have:=h2 i j (xD _) z6 (by omega);rw[z2e,getElem!_pos d' i (by simpa using hi),getElem!_pos d' j (by simpa using hj)]at this;simpa using this
 ·rintro h;have z7:l=[]:=by simpa using h
  subst z7;exact⟨⟨[],.refl _,.nil,rfl⟩,fun w=>AnyF.slices_SortFunc_none Tryz.sortIv none 0 _ w⟩
 ·rintro r H' ⟨rfl,z1,⟨l',h1,h2,rfl⟩,rfl⟩;exact⟨rfl,l',h1,h2,rfl⟩
end Go.Abs
namespace Go.Abs
open Go Go.Proofs
theorem Dy(l l':List Iv)(z1:∀y∈l,y.lo≤y.hi)(hp:l'.Perm l)(hl:X0 l'):Qx [] l'=Ej l:=
 Hi l' (E3 l) [] (hp.trans (Oq l).1.symm) hl (Oq l).2 (fun y hy=>z1 y (hp.mem_iff.1 hy))
theorem SL.upd{K G:List AObj}{p e sz:Nat}{xs:List AV}(h:SL K G p e sz xs)(L:List AObj)(ys:List AV):SL K (G.set p (.arr e sz ys)++L) p e sz ys:=by have hp:=(zB.1 h.arr).1;have z1:=h.ge;refine⟨by rw[zF (by simpa using hp)];exact zO hp,z1,fun j hj=> ?_⟩;rw[zF (by simp;omega),zE (by omega)];exact h.keep j hj
attribute [local irreducible] W4 Qx Ej
theorem Ve(H:List AObj)(q:Nat)(l:List Iv)(hq:H[q]? =some (.arr 187 2 (l.map encIv)))(hl:l.length≤1000000)(zf:∀y∈l,Ia y∧y.lo≤y.hi):
  FC Tryz.prog 124 [.sl q 2 0 l.length] H (fun r H'=>r=LIv (Ej l)∧H.length≤H'.length∧∀i,i<H.length→i≠q→H'[i]? =H[i]?):=by
 refine W6 tOk Tryz.func124 rfl Tryz.results124 rfl (by simp[Tryz.ntmps124]) ?_;rw[Tryz.ntmps124];simp only[Qg];repeat first|(refine r_ ?_;simp)|refine q_ ?_
 refine Q7 rfl rfl (x1j H q l hq hl) rfl ?_;rintro r H' ⟨rfl,l',h1,h2,rfl⟩;simp;have hl':l'.length≤1000000:=by rw[h1.length_eq];exact hl
 have zl:=h1.length_eq;have zc:∀y∈l',Ia y:=fun y hy=>(zf y (h1.mem_iff.1 hy)).1;rw[←Dy l l' (fun y hy=>(zf y hy).2) h1 h2,←zl];have g0:=Qi hq (.arr 187 2 (l'.map encIv));have z7:∀i,i≠q→(H.set q (.arr 187 2 (l'.map encIv)))[i]? =H[i]? :=fun i hi=>zE (fun e=>hi e.symm);have hlen:(H.set q (.arr 187 2 (l'.map encIv))).length=H.length:=by simp
 generalize H.set q (.arr 187 2 (l'.map encIv))=H1 at *
 repeat first|(refine r_ ?_;simp)|refine q_ ?_
 refine Qz (sl':=[(2,.nils),(3,.nils),(9,.sl q 2 0 l'.length),(10,.i l'.length),(11,.i (0:Nat))]) ?_ (by simp);refine Wp q g0 ?_;simp;rw[zR (by simp)];have z1:∀i,i<H.length→i≠q→(H1.set q .dead)[i]? =H[i]? :=fun i h1 h2=>by rw[zE (fun e=>h2 e.symm)];exact z7 i h2
 have z8:(H1.set q .dead).length=H.length:=by simp[hlen]
 generalize H1.set q .dead=K at *;refine Q8 3 187 2 rfl ?_
 simp;have zm:=SL.start K 187 2;refine Qo (Qc (sl':=[(3,.sl K.length 2 0 (Qx [] (l'.take 0)).length),(9,LIv l'),(10,.i l'.length),(11,.i (0:Nat))]) ?_ (by simp[z8,Qx]));refine Qn (F:=fun(u:Nat×Nat×List AObj)=>⟨[(3,.sl u.2.1 2 0 (Qx [] (l'.take u.1)).length),(9,LIv l'),(10,.i l'.length),(11,.i u.1)],u.2.2⟩)
  (fun u=>u.1≤l'.length∧SL K u.2.2 u.2.1 187 2 ((Qx [] (l'.take u.1)).map encIv)) (fun u=>l'.length - u.1) ?_ (0,K.length,_) ⟨by simp,by rw[wJ,Qx,uK];exact zm⟩
 rintro⟨j,p,G⟩ ⟨hj,g⟩ ih;simp only at hj g ih ⊢;repeat first|(refine r_ ?_;simp)|refine q_ ?_
 refine Qa rfl (fun zn=> ?_) (fun zg=> ?_)
 ·have za:j<l'.length:=by simpa using zn
  have hw:IntKind.i64.wrap ((j:Int)+1)=j+1:=wrap_i64 _ (by omega) (by omega);have zh:Qx [] (l'.take (j+1))=W4 (Qx [] (l'.take j)) l'[j]:=by rw[zU za,Uv]
  have zi:(Qx [] (l'.take j)).length≤j:=yH (Rq _ _) (by simp;omega);have zd:∀y∈Qx [] (l'.take j),Ia y:=I7 _ _ (by simp) (fun y hy=>zc y (xS hy));have z6:=fun p' G'=>ih (j+1,p',G');simp only[zh]at z6;clear zh;generalize Qx [] (l'.take j)=acc at *;generalize hx:l'[j]=x at *
  repeat first|(refine r_ ?_;simp[za,hx])|refine q_ ?_
  rcases wM acc with rfl|⟨ini,y,rfl⟩
  ·refine Qm tOk mixed [] (.val 0 (.val 1 (.val 2 (.val 3 (.val 4 (.val 5 (.val 6 (.val 7 (.val 8 (.val 9 (.val 10 (.val 11 (.val 12 (.val 13 (.done))))))))))))))) rfl (by kernel_rfl) ?_;simp;refine Ql rfl ?_;simp;repeat first|(refine r_ ?_;simp)|refine q_ ?_
   refine Qf tOk rfl rfl Ig rfl Sz rfl (by decide) (by decide) rfl rfl rfl ?_;simp[Qb g.arr,Qj g.arr];refine⟨by simp[Wi,Qb g.arr,Qj g.arr]<;>omega,?_⟩;repeat first|(refine r_ ?_;simp[hw])|refine q_ ?_
   refine Qc (sl':=[(3,.sl (G.length+2) 2 0 1),(9,LIv l'),(10,.i l'.length),(11,.i (j+1:Nat))]) ?_ (by simp);have:=z6 (G.length+2) _ ⟨by omega,by rw[W4];exact g.put [AObj.vars [AV.i x.lo,AV.i x.hi],AObj.arr 187 2 [encIv x]] _ rfl⟩ (by omega);rw[W4]at this;simpa using this
  ·have zo:=(W8 _).1 (zd y (by simp)).2;have zj:IntKind.i64.wrap (y.hi+1)=y.hi+1:=wrap_i64 _ (by omega) (by omega);have gA:=g.arr;rw[wN]at g gA z6 zi ⊢;have hlen:(ini++[y]).length=ini.length+1:=by simp
   rw[hlen]at zi ⊢;have zk:IntKind.i64.wrap (ini.length:Int)=ini.length:=wrap_i64 _ (by omega) (by omega);have hg:((ini++[y]).map encIv)[ini.length]? =some (encIv y):=by simp
   have zb:(ini.length:Int)<ini.length+1:=by omega
   refine Qm tOk mixed [] (.val 0 (.val 1 (.val 2 (.val 3 (.val 4 (.val 5 (.val 6 (.val 7 (.val 8 (.val 9 (.val 10 (.val 11 (.val 12 (.val 13 (.done))))))))))))))) rfl (by kernel_rfl) ?_;simp[Qb gA,zk,hg,zj,zb];refine Qa rfl (fun h1=> ?_) (fun h1=> ?_)
   ·repeat first|(refine r_ ?_;simp)|refine q_ ?_
    refine Qm tOk mixed [14] (.val 0 (.val 1 (.val 2 (.val 3 (.val 4 (.val 5 (.val 6 (.val 7 (.val 8 (.val 9 (.val 10 (.val 11 (.val 12 (.val 13 (.one 14 (.done)))))))))))))))) rfl (by kernel_rfl) ?_;simp[Qb gA,zk,hg,zj,zb,Qj gA];repeat first|(refine r_ ?_;simp[hw])|refine q_ ?_
    have hR:W4 (ini++[y]) x=ini++[⟨y.lo,if y.hi<x.hi then x.hi else y.hi⟩]:=by rw[W7,if_pos (by simpa using h1)]
    rw[hR]at z6;refine Qc (sl':=[(3,.sl p 2 0 (ini.length+1)),(9,LIv l'),(10,.i l'.length),(11,.i (j+1:Nat))]) ?_ (by simp);have:=z6 p _ ⟨by omega,g.upd [AObj.vars [AV.i x.lo,AV.i x.hi]] _⟩ (by omega);simpa using this
   ·repeat first|(refine r_ ?_;simp)|refine q_ ?_
    refine Qf tOk rfl rfl Ig rfl Sz rfl (by decide) (by decide) rfl rfl rfl ?_;simp[Qb gA,Qj gA];refine⟨by simp[Wi,Qb gA,Qj gA]<;>omega,?_⟩;repeat first|(refine r_ ?_;simp[hw])|refine q_ ?_
    have hR:W4 (ini++[y]) x=ini++[y]++[x]:=by rw[W7,if_neg (by simpa using h1)]
    rw[hR]at z6;refine Qc (sl':=[(3,.sl (G.length+2) 2 0 (ini.length+2)),(9,LIv l'),(10,.i l'.length),(11,.i (j+1:Nat))]) ?_ (by simp);have:=z6 (G.length+2) _ ⟨by omega,g.put [AObj.vars [AV.i x.lo,AV.i x.hi],AObj.arr 187 2 [encIv x]] _ rfl⟩ (by omega);simpa using this
 ·have ze:j=l'.length:=by simp at zg;omega
  subst ze;rw[yW]at g ⊢;refine Wp p g.arr ?_;simp;rw[zR (by simp)];repeat first|(refine r_ ?_;simp)|refine q_ ?_
  have zp:=(zB.1 g.arr).1;have zg:=g.ge;refine⟨by omega,fun i h1 h2=> ?_⟩;rw[zE (by omega),g.keep i (by omega)];exact z1 i h1 h2
end Go.Abs
namespace Go.Abs
open Go Go.Proofs
def Fu(F:Nat→List Iv)(T i:Nat):List AV:=(yO T).map fun k=>if k<i then encL (F k)else .nils
theorem q0p(F:Nat→List Iv)(T i:Nat):(Fu F T i).length=T:=by simp[Fu]
theorem Cq(F:Nat→List Iv)(T:Nat):yL T AV.nils=Fu F T 0:=by refine wQ (by simp[Fu]) fun k h1 h2=>by simp[Fu]
theorem w02(F:Nat→List Iv){T i:Nat}(h:i<T):(Fu F T i)[i]? =some .nils:=by simp[Fu,h]
theorem z0m(F:Nat→List Iv){T i:Nat}(h:i<T):(Fu F T i).set i (encL (F i))=Fu F T (i+1):=by
 refine wQ (by simp[Fu]) fun k h1 h2=> ?_;have hk:k<T:=by simpa[Fu]using h2
 rw[tD];by_cases e:i=k
 ·subst e;simp[Fu]
 ·rw[if_neg e];simp only[Fu,ux,un];by_cases h3:k<i
  ·rw[if_pos h3,if_pos (by omega)]
  ·rw[if_neg h3,if_neg (by omega)]
theorem L5(F:Nat→List Iv)(T:Nat):Fu F T T=((yO T).map F).map encL:=by
 refine wQ (by simp[Fu]) fun k h1 h2=> ?_;have hk:k<T:=by simpa[Fu]using h1
 simp[Fu,hk]
theorem d0c(F:Nat→List Iv)(T:Nat):(Fu F T T).all (fun x=>x.cells.all AV.pure)=true:=by rw[L5,zX];intro x hx;obtain⟨s,_,rfl⟩:=zT.1 hx;simp[AV.cells,AV.pure]
theorem Bt{T:Nat}{l:List Prd}(hl:∀p∈l,PWf T p){i:Nat}{y:Iv}(hy:y∈Qw l i):Ia y∧y.lo≤y.hi:=by
 obtain⟨p,hp,hx⟩:=Tr.1 hy;by_cases hi:i<p.length
 ·rw[Wu hi]at hx;exact⟨c1y (hl p hp) (zL hi) y hx,((hl p hp).2 _ (zL hi)).1.1 y hx⟩
 ·simp[yX,hi]at hx
theorem q0q(T:Nat)(l:List Prd):(U8 T l).length=T:=by simp[U8]
attribute [local irreducible] Ej Qw U8 Fu
theorem Zt(T:Nat)(l:List Prd)(hT:T≤16)(hl:∀p∈l,PWf T p)(hn:∀i,i<T→(Qw l i).length≤1000000)(y2:l.length≤1000000):PC Tryz.prog 60 [.i T,LP l] (fun r=>r=encP (U8 T l)):=by
 refine Qk tOk Tryz.func60 rfl Tryz.results60 rfl (by simp[Tryz.ntmps60]) ?_;rw[Tryz.ntmps60];simp only[Qg];simp only[encP];repeat first|(refine r_ ?_;simp)|refine q_ ?_
 refine E9 tOk rfl rfl rfl T74 rfl Ig rfl rfl rfl (n:=T) (by simp;omega) (by unfold maxLen;omega) .nils rfl ?_;simp;repeat first|(refine r_ ?_;simp)|refine q_ ?_
 rw[Cq (fun k=>Ej (Qw l k))];refine F3 1 rfl ?_;simp;refine Qo (Qc (sl':=[(0,.i T),(1,LP l),(4,.vptr 0 0),(5,.vptr 2 0),(12,.i T),(13,.i (0:Nat))]) ?_ (by simp));refine Qn (F:=fun(u:Nat×List AObj)=>⟨[(0,.i T),(1,LP l),(4,.vptr 0 0),(5,.vptr 2 0),(12,.i T),(13,.i u.1)],u.2⟩)
  (fun u=>u.1≤T∧3≤u.2.length∧u.2[0]? =some (.vars [.nils])∧u.2[1]? =some (.va 171 1 (Fu (fun k=>Ej (Qw l k)) T u.1))∧u.2[2]? =some (.vars [.sl 1 1 0 T])) (fun u=>T - u.1) ?_ (0,_) ⟨by simp,by simp,rfl,rfl,rfl⟩
 rintro⟨i,H2⟩ ⟨hi,hH,g0,g1,g2⟩ ih;simp only at hi hH g0 g1 g2 ih ⊢;repeat first|(refine r_ ?_;simp)|refine q_ ?_
 refine Qa rfl (fun zq=> ?_) (fun zr=> ?_)
 ·have z1:i<T:=by simpa using zq
  have hw:IntKind.i64.wrap ((i:Int)+1)=i+1:=wrap_i64 _ (by omega) (by omega);have zm:=z0m (fun k=>Ej (Qw l k)) z1;have zt:=w02 (fun k=>Ej (Qw l k)) z1;have z7:=q0p (fun k=>Ej (Qw l k)) T i;have zd:=hn i z1;have ze:=fun H'=>ih (i+1,H');simp only[←zm]at ze;clear zm;generalize Fu (fun k=>Ej (Qw l k)) T i=row at *
  repeat first|(refine r_ ?_;simp)|refine q_ ?_
  refine Ad 1 i 187 2 g1 zt ?_;refine Qo (Qc (sl':=[(0,.i T),(1,LP l),(4,.vptr 0 0),(5,.vptr 2 0),(6,.i i),(12,.i T),(13,.i i),(16,LP l),(17,.i l.length),(18,.i (0:Nat))]) ?_ (by simp));refine Qn (F:=fun(u:Nat×Nat×List AObj)=>⟨[(0,.i T),(1,LP l),(4,.vptr 0 0),(5,.vptr 2 0),(6,.i i),(12,.i T),(13,.i i),(16,LP l),(17,.i l.length),(18,.i u.1)],u.2.2⟩)
   (fun u=>u.1≤l.length∧3≤u.2.1∧u.2.2[0]? =some (.vars [.nils])∧u.2.2[1]? =some (.va 171 1 (row.set i (.sl u.2.1 2 0 (Qw (l.take u.1) i).length)))∧u.2.2[2]? =some (.vars [.sl 1 1 0 T])∧u.2.2[u.2.1]? =some (.arr 187 2 ((Qw (l.take u.1) i).map encIv))) (fun u=>l.length - u.1) ?_
   (0,H2.length,_) ⟨by simp,hH,Qd (by decide) (Qb g0 _) _,by rw[wJ,Ue];exact Qi (Qb g1 _) _,Qd (by decide) (Qb g2 _) _,by rw[wJ,Ue];simp only;rw[zE (i:=1) (j:=H2.length) (by omega)];simp⟩
  rintro⟨j,q,G⟩ ⟨hj,zu,k0,k1,k2,k3⟩ ih2;simp only at hj zu k0 k1 k2 k3 ih2 ⊢;repeat first|(refine r_ ?_;simp)|refine q_ ?_
  refine Qa rfl (fun zf=> ?_) (fun zg=> ?_)
  ·have z6:j<l.length:=by simpa using zf
   have zn:IntKind.i64.wrap ((j:Int)+1)=j+1:=wrap_i64 _ (by omega) (by omega);have hp:=hl _ (zL z6);have zh:i<l[j].length:=by rw[hp.1];exact z1
   have zi:=P0 z6 zh;have zj:(Qw (l.take (j+1)) i).length≤1000000:=by refine yH ?_ zd;unfold Qw;rw[←xU (j+1) l,wp,zZ,xU];omega
   rw[zi,zZ]at zj;have z8:=fun q' G'=>ih2 (j+1,q',G');simp only[zi]at z8;clear zi;repeat first|(refine r_ ?_;simp[z6,zh])|refine q_ ?_
   generalize hs:l[j][i]=s at *;generalize Qw (l.take j) i=acc at *;refine Qm tOk mixed [13,15] (.val 0 (.val 2 (.val 3 (.val 4 (.val 5 (.val 6 (.val 7 (.val 8 (.val 9 (.val 10 (.val 11 (.val 12 (.two 1 (.one 13 (.val 14 (.one 15 (.done)))) 13 (.val 1 (.val 14 (.one 15 (.done))))))))))))))))) rfl (by kernel_rfl) ?_
   simp[Qb k1,Qb k2,z1,zh,z6,hs,z7];have zv:q≠0:=by omega
   have zw:q≠1:=by omega
   have zx:q≠2:=by omega
   have y3:=(zB.1 k3).1;have m0:∀L,(G.set q .dead++L)[0]? =some (AObj.vars [AV.nils]):=fun L=>Qb (Qd zv k0 _) L;have m1:∀L,(G.set q .dead++L)[1]? =some (.va 171 1 (row.set i (.sl q 2 0 acc.length))):=fun L=>Qb (Qd zw k1 _) L;have zc:∀L hh,(G.set q .dead++L)[1]'hh= .va 171 1 (row.set i (.sl q 2 0 acc.length)):=fun L hh=>by have:=m1 L;rw[zK hh]at this;exact Option.some.inj this
   have m2:∀L,(G.set q .dead++L)[2]? =some (AObj.vars [AV.sl 1 1 0 T]):=fun L=>Qb (Qd zx k2 _) L;have n2:∀L,(G++L)[2]? =some (AObj.vars [AV.sl 1 1 0 T]):=fun L=>Qb k2 L;refine⟨?_,?_⟩
   ·refine Qf tOk rfl rfl Ig rfl Sz rfl (by decide) (by decide) rfl rfl rfl ?_;simp[Qb k3,Qj k3,m0,m1,zc,m2,n2,z1,z7];refine⟨by simp[Wi,Qb k3,Qj k3,m0,m1,zc,m2,n2,z1,z7]<;>omega,?_⟩;repeat first|(refine r_ ?_;simp[zn])|refine q_ ?_
    refine Qc (sl':=[(0,.i T),(1,LP l),(4,.vptr 0 0),(5,.vptr 2 0),(6,.i i),(12,.i T),(13,.i i),(16,LP l),(17,.i l.length),(18,.i (j+1:Nat))]) ?_ (by simp);refine z8 (G.length+1) _ ⟨by omega,by omega,Qd (by decide) (m0 _) _,?_,Qd (by decide) (m2 _) _,?_⟩ (by omega)
    ·rw[Qi (m1 _) _];simp
    ·rw[zE (by omega),zH (by simp)];simp
   ·refine Qf tOk rfl rfl Ig rfl Sz rfl (by decide) (by decide) rfl rfl rfl ?_;simp[Qb k3,Qj k3,m0,m1,zc,m2,n2,z1,z7];refine⟨by simp[Wi,Qb k3,Qj k3,m0,m1,zc,m2,n2,z1,z7]<;>omega,?_⟩;repeat first|(refine r_ ?_;simp[zn])|refine q_ ?_
    refine Qc (sl':=[(0,.i T),(1,LP l),(4,.vptr 0 0),(5,.vptr 2 0),(6,.i i),(12,.i T),(13,.i i),(16,LP l),(17,.i l.length),(18,.i (j+1:Nat))]) ?_ (by simp);refine z8 (G.length+1) _ ⟨by omega,by omega,Qd (by decide) (m0 _) _,?_,Qd (by decide) (m2 _) _,?_⟩ (by omega)
    ·rw[Qi (m1 _) _];simp
    ·rw[zE (by omega),zH (by simp)];simp
  ·have zb:j=l.length:=by simp at zg;omega
   subst zb;rw[yW]at k1 k3;have zo:∀y∈Qw l i,Ia y∧y.lo≤y.hi:=fun y hy=>Bt hl hy;have y4:∀L,(G++L)[2]? =some (AObj.vars [AV.sl 1 1 0 T]):=fun L=>Qb k2 L;have zy:∀hh,G[1]'hh= .va 171 1 (row.set i (.sl q 2 0 (Qw l i).length)):=fun hh=>by rw[zK hh]at k1;exact Option.some.inj k1
   repeat first|(refine r_ ?_;simp)|refine q_ ?_
   refine Qm tOk mixed [8,10] (.val 0 (.val 2 (.val 3 (.val 4 (.val 5 (.val 6 (.val 7 (.two 1 (.one 8 (.val 9 (.one 10 (.done)))) 8 (.val 1 (.val 9 (.one 10 (.done)))))))))))) rfl (by kernel_rfl) ?_;simp[k1,zy,k2,z1,z7];refine⟨?_,?_⟩
   ·refine Q7 rfl rfl (Ve G q (Qw l i) k3 zd zo) rfl ?_;rintro r H' ⟨rfl,hl',za⟩;have zz:=(zB.1 k2).1;have u0:=(za 0 (by omega) (by omega)).trans k0;have u1:=(za 1 (by omega) (by omega)).trans k1;have u2:=(za 2 (by omega) (by omega)).trans k2;have zk:∀hh,H'[1]'hh= .va 171 1 (row.set i (.sl q 2 0 (Qw l i).length)):=fun hh=>by rw[zK hh]at u1;exact Option.some.inj u1
    simp[u1,zk,u2,z1,z7];repeat first|(refine r_ ?_;simp[hw])|refine q_ ?_
    refine Qc (sl':=[(0,.i T),(1,LP l),(4,.vptr 0 0),(5,.vptr 2 0),(12,.i T),(13,.i (i+1:Nat))]) ?_ (by simp);exact ze _ ⟨by omega,by simp;omega,Qd (by decide) u0 _,Qi u1 _,Qd (by decide) u2 _⟩ (by omega)
   ·refine Q7 rfl rfl (Ve G q (Qw l i) k3 zd zo) rfl ?_;rintro r H' ⟨rfl,hl',za⟩;have zz:=(zB.1 k2).1;have u0:=(za 0 (by omega) (by omega)).trans k0;have u1:=(za 1 (by omega) (by omega)).trans k1;have u2:=(za 2 (by omega) (by omega)).trans k2;have zk:∀hh,H'[1]'hh= .va 171 1 (row.set i (.sl q 2 0 (Qw l i).length)):=fun hh=>by rw[zK hh]at u1;exact Option.some.inj u1
    simp[u1,zk,u2,z1,z7];repeat first|(refine r_ ?_;simp[hw])|refine q_ ?_
    refine Qc (sl':=[(0,.i T),(1,LP l),(4,.vptr 0 0),(5,.vptr 2 0),(12,.i T),(13,.i (i+1:Nat))]) ?_ (by simp);exact ze _ ⟨by omega,by simp;omega,Qd (by decide) u0 _,Qi u1 _,Qd (by decide) u2 _⟩ (by omega)
 ·have zl:i=T:=by simp at zr;omega
  subst zl;refine Oh 1 g1 (d0c _ _) ?_;rw[L5]at *
  have y0:(yO i).map (fun k=>Ej (Qw l k))=U8 i l:=by unfold U8;rfl
  rw[y0]at *;refine Wg 1 (Qi g1 _) 2 (Qd (by decide) g2 _) ?_
  have zp:=q0q i l;have e0:∀Y,((H2.set 1 AObj.dead).set 2 Y)[0]? =some (AObj.vars [AV.nils]):=fun Y=>Qd (by decide) (Qd (by decide) g0 _) _;have y1:∀Y hh,((H2.set 1 AObj.dead).set 2 Y)[0]'hh=AObj.vars [AV.nils]:=fun Y hh=>by have:=e0 Y;rw[zK hh]at this;exact Option.some.inj this
  have e2:∀Y,((H2.set 1 AObj.dead).set 2 Y)[2]? =some Y:=fun Y=>Qi (Qd (by decide) g2 _) _;have e3:∀Y Z,(((H2.set 1 AObj.dead).set 2 Y).set 0 Z)[0]? =some Z:=fun Y Z=>Qi (e0 Y) _;simp[zp];rw[zR (by simp[zp])];repeat first|(refine r_ ?_;simp[e0,y1,e2,e3])|refine q_ ?_
end Go.Abs
namespace Go.Abs
open Go Go.Proofs
theorem GL.keepAll{K G G':List AObj}{S p:Nat}{pre post:List AV}{e sz:Nat}{xs:List AV}(h:GL K G S p pre post e sz xs)(hk:∀j,j<G.length→G'[j]? =G[j]?)(hl:G.length≤G'.length):GL K G' S p pre post e sz xs:=by have h1:=h.len;have h2:=h.lt;have h3:=(zB.1 h.arr).1;exact⟨(hk _ (by omega)).trans h.cell,(hk _ h3).trans h.arr,h.ge,h.lt,by omega,fun j hj z1=>(hk j (by omega)).trans (h.keep j hj z1)⟩
theorem SL.le{K G:List AObj}{p e sz:Nat}{xs:List AV}(h:SL K G p e sz xs):K.length≤G.length:=by have:=(zB.1 h.arr).1;have:=h.ge;omega
attribute [local irreducible] upL Wv Ru
theorem y10(T:Nat)(p:Prd)(hp:PWf T p)(hl:∀s∈p,s.length≤1000000)(hT:T≤1000):PC Tryz.prog 131 [encP p] (fun r=>r=encP (W5 p)):=by
 refine Qk tOk Tryz.func131 rfl Tryz.results131 rfl (by simp[Tryz.ntmps131]) ?_;rw[Tryz.ntmps131];simp only[Qg];simp only[encP];have hlen:=hp.1;repeat first|(refine r_ ?_;simp)|refine q_ ?_
 refine Eg 2 0 171 1 rfl rfl ?_;simp;obtain⟨K,hK⟩:∃K,K=[AObj.vars [.list (p.map encL)],AObj.vars [AV.nils],AObj.vars [AV.nils]]:=⟨_,rfl⟩
 have zn:=GL.start (K:=K) (S:=2) [] [] 171 1 (by rw[hK];simp);refine Qo (Qc (sl':=[(2,.vptr 1 0),(3,.vptr 2 0),(11,.list (p.map encL)),(12,.i p.length),(13,.i 0)]) ?_ (by simp));refine Qn (F:=fun(u:Nat×Nat×List AObj)=>⟨[(2,.vptr 1 0),(3,.vptr 2 0),(11,.list (p.map encL)),(12,.i p.length),(13,.i u.1)],u.2.2⟩)
  (fun u=>u.1≤p.length∧GL K u.2.2 2 u.2.1 [] [] 171 1 (upL (fun i=>Wv (p.getD i [])) u.1)) (fun u=>p.length - u.1) ?_ (0,K.length,_) ⟨by simp,by rw[Se,hK]at *;exact zn⟩
 rintro⟨j,q,H2⟩ ⟨hj,g⟩ ih;simp only at hj g ih ⊢;repeat first|(refine r_ ?_;simp)|refine q_ ?_
 refine Qa rfl (fun zo=> ?_) (fun zp=> ?_)
 ·have z7:j<p.length:=by simpa using zo
  have hw:IntKind.i64.wrap ((j:Int)+1)=j+1:=wrap_i64 _ (by omega) (by omega);have hs:=hp.2 _ (zL z7);have zy:=hl _ (zL z7);have zz:=(Ps hs.1 hs.2).2.2;have zj:upL (fun i=>Wv (p.getD i [])) j++[encL (Wv p[j])]=upL (fun i=>Wv (p.getD i [])) (j+1):=by rw[Ac,Wu z7]
  have z6:=W9 (fun i=>Wv (p.getD i [])) j;have zc:=fun q' H'=>ih (j+1,q',H');simp only[←zj]at zc;clear zj;generalize upL (fun i=>Wv (p.getD i [])) j=done at *
  repeat first|(refine r_ ?_;simp[z7])|refine q_ ?_
  generalize p[j]=l at *
  obtain⟨zk,hb⟩:=hs;refine Q8 6 187 2 rfl ?_;simp;have zd:=SL.start H2 187 2;refine Qo (Qc (sl':=[(2,.vptr 1 0),(3,.vptr 2 0),(6,.sl H2.length 2 0 0),(7,.i (-1099511627776)),(11,.list (p.map encL)),(12,.i p.length),(13,.i j),(17,LIv l),(18,.i l.length),(19,.i (0:Nat))]) ?_ (by simp));refine Qn (F:=fun(u:Nat×Nat×List Iv×Int×List AObj)=>⟨[(2,.vptr 1 0),(3,.vptr 2 0),(6,.sl u.2.1 2 0 u.2.2.1.length),(7,.i u.2.2.2.1),(11,.list (p.map encL)),(12,.i p.length),(13,.i j),(17,LIv l),(18,.i l.length),(19,.i u.1)],u.2.2.2.2⟩)
   (fun u=>u.1≤l.length∧SL H2 u.2.2.2.2 u.2.1 187 2 (u.2.2.1.map encIv)∧u.2.2.1++Ru (l.drop u.1) u.2.2.2.1=Wv l) (fun u=>l.length - u.1) ?_ (0,H2.length,[],-1099511627776,_) ⟨by simp,zd,by simp[q06]⟩
  rintro⟨k,p2,acc,n,G⟩ ⟨hk,s1,g2⟩ ih2;simp only at hk s1 g2 ih2 ⊢;have y0:acc.length≤1000001:=by have:=congrArg List.length g2;simp only[zZ]at this;omega
  repeat first|(refine r_ ?_;simp)|refine q_ ?_
  refine Qa rfl (fun ze=> ?_) (fun zf=> ?_)
  ·have z1:k<l.length:=by simpa using ze
   have zq:=hb _ ⟨l[k],zL z1,xN _,zk.1 _ (zL z1)⟩;have zr:=hb _ ⟨l[k],zL z1,zk.1 _ (zL z1),xN _⟩;unfold inR at zq zr;have zl:IntKind.i64.wrap ((k:Int)+1)=k+1:=wrap_i64 _ (by omega) (by omega);have zt:IntKind.i64.wrap (l[k].lo - 1)=l[k].lo - 1:=wrap_i64 _ (by omega) (by omega);have zm:IntKind.i64.wrap (l[k].hi+1)=l[k].hi+1:=wrap_i64 _ (by omega) (by omega);rw[W3 z1,Af]at g2;repeat first|(refine r_ ?_;simp[z1])|refine q_ ?_
   refine Qa rfl (fun h3=> ?_) (fun h3=> ?_)
   ·rw[if_pos (by simpa using h3)]at g2;repeat first|(refine r_ ?_;simp[z1,zt])|refine q_ ?_
    refine Qf tOk rfl rfl Ig rfl Sz rfl (by decide) (by decide) rfl rfl rfl ?_;simp[Qb s1.arr,Qj s1.arr];refine⟨by simp[Wi,Qb s1.arr,Qj s1.arr]<;>omega,?_⟩;repeat first|(refine r_ ?_;simp[z1,zl,zm])|refine q_ ?_
    refine Qc (sl':=[(2,.vptr 1 0),(3,.vptr 2 0),(6,.sl (G.length+2) 2 0 (acc.length+1)),(7,.i (l[k].hi+1)),(11,.list (p.map encL)),(12,.i p.length),(13,.i j),(17,LIv l),(18,.i l.length),(19,.i (k+1:Nat))]) ?_ (by simp);have:=ih2 (k+1,G.length+2,acc++[(⟨n,l[k].lo - 1⟩:Iv)],l[k].hi+1,_) ⟨by simp;omega,s1.put [AObj.vars [AV.i l[k].lo,AV.i l[k].hi],.arr 187 2 [encIv (⟨n,l[k].lo - 1⟩:Iv)]] ((acc++[(⟨n,l[k].lo - 1⟩:Iv)]).map encIv) rfl,by simpa using g2⟩ (by simp;omega);simpa using this
   ·rw[if_neg (by simpa using h3)]at g2;repeat first|(refine r_ ?_;simp[z1,zl,zm])|refine q_ ?_
    refine Qc (sl':=[(2,.vptr 1 0),(3,.vptr 2 0),(6,.sl p2 2 0 acc.length),(7,.i (l[k].hi+1)),(11,.list (p.map encL)),(12,.i p.length),(13,.i j),(17,LIv l),(18,.i l.length),(19,.i (k+1:Nat))]) ?_ (by simp);have:=ih2 (k+1,p2,acc,l[k].hi+1,_) ⟨by simp;omega,s1.add [AObj.vars [AV.i l[k].lo,AV.i l[k].hi]],by simpa using g2⟩ (by simp;omega);simpa using this
  ·have zb:k=l.length:=by simp at zf;omega
   subst zb;rw[xF,D7]at g2;repeat first|(refine r_ ?_;simp)|refine q_ ?_
   refine Qa rfl (fun h3=> ?_) (fun h3=> ?_)
   ·rw[if_pos (by simpa using h3)]at g2;repeat first|(refine r_ ?_;simp)|refine q_ ?_
    refine Qf tOk rfl rfl Ig rfl Sz rfl (by decide) (by decide) rfl rfl rfl ?_;simp[Qb s1.arr,Qj s1.arr];refine⟨by simp[Wi,Qb s1.arr,Qj s1.arr]<;>omega,?_⟩;have s2:=s1.put [.arr 187 2 [encIv (⟨n,1099511627776⟩:Iv)]] ((acc++[(⟨n,1099511627776⟩:Iv)]).map encIv) rfl;have e1:(acc++[(⟨n,1099511627776⟩:Iv)]).length=acc.length+1:=by simp
    rw[g2]at s2 e1;rw[←e1];have e2:acc.map encIv++[AV.agg [AV.int IntKind.i64 n,AV.int IntKind.i64 1099511627776]]=(Wv l).map encIv:=by rw[←g2];simp
    rw[e2];refine Qz (sl':=[(2,.vptr 1 0),(3,.vptr 2 0),(6,.sl (G.length+1) 2 0 (Wv l).length),(11,.list (p.map encL)),(12,.i p.length),(13,.i j)]) ?_ (by simp);generalize zg:G.set p2 AObj.dead++[AObj.arr 187 2 [AV.agg [AV.int IntKind.i64 n,AV.int IntKind.i64 1099511627776]],AObj.arr 187 2 ((Wv l).map encIv)]=GE;have s3:SL H2 GE (G.length+1) 187 2 ((Wv l).map encIv):=by rw[←zg];simpa using s2
    clear s1 s2 zg;refine Wp (G.length+1) s3.arr ?_;simp;rw[zR (by simp)];have zu:=(zB.1 s3.arr).1;have zv:=s3.ge;have g':=g.keepAll (G':=GE.set (G.length+1) .dead) (fun j hj=>by rw[zE (by omega)];exact s3.keep j hj) (by simp;have:=s3.le;omega);generalize GE.set (G.length+1) .dead=E at *
    have c2:=g'.cell;have c3:=g'.arr;rw[z6]at c2;simp only[ww]at c2;have z8:∀L:List AObj,(E.set q .dead++L)[2]? =some (AObj.vars [AV.sl q 1 0 j]):=fun L=>by have:=g'.at L;rw[z6]at this;exact this
    have za:=fun A y=>g'.put A y z6.symm;repeat first|(refine r_ ?_;simp[c2])|refine q_ ?_
    refine Qf tOk rfl rfl T74 rfl Ig rfl (by decide) (by decide) rfl rfl rfl ?_;simp[Qb c3,Qj c3,z6,z8];refine⟨by simp[Wi,Qb c3,Qj c3,z6,z8]<;>omega,?_⟩;repeat first|(refine r_ ?_;simp[c2,hw,z8])|refine q_ ?_
    refine Qc (sl':=[(2,.vptr 1 0),(3,.vptr 2 0),(11,.list (p.map encL)),(12,.i p.length),(13,.i (j+1:Nat))]) ?_ (by simp);exact zc (E.length+1) _ ⟨by omega,za _ _⟩ (by omega)
   ·rw[if_neg (by simpa using h3),xB]at g2;subst g2;refine Qz (sl':=[(2,.vptr 1 0),(3,.vptr 2 0),(6,.sl p2 2 0 (Wv l).length),(11,.list (p.map encL)),(12,.i p.length),(13,.i j)]) ?_ (by simp);have s3:=s1;clear s1;generalize zg:G=GE at *;refine Wp p2 s3.arr ?_
    simp;rw[zR (by simp)];have zu:=(zB.1 s3.arr).1;have zv:=s3.ge;have g':=g.keepAll (G':=GE.set p2 .dead) (fun j hj=>by rw[zE (by omega)];exact s3.keep j hj) (by simp;have:=s3.le;omega);generalize GE.set p2 .dead=E at *
    have c2:=g'.cell;have c3:=g'.arr;rw[z6]at c2;simp only[ww]at c2;have z8:∀L:List AObj,(E.set q .dead++L)[2]? =some (AObj.vars [AV.sl q 1 0 j]):=fun L=>by have:=g'.at L;rw[z6]at this;exact this
    have za:=fun A y=>g'.put A y z6.symm;repeat first|(refine r_ ?_;simp[c2])|refine q_ ?_
    refine Qf tOk rfl rfl T74 rfl Ig rfl (by decide) (by decide) rfl rfl rfl ?_;simp[Qb c3,Qj c3,z6,z8];refine⟨by simp[Wi,Qb c3,Qj c3,z6,z8]<;>omega,?_⟩;repeat first|(refine r_ ?_;simp[c2,hw,z8])|refine q_ ?_
    refine Qc (sl':=[(2,.vptr 1 0),(3,.vptr 2 0),(11,.list (p.map encL)),(12,.i p.length),(13,.i (j+1:Nat))]) ?_ (by simp);exact zc (E.length+1) _ ⟨by omega,za _ _⟩ (by omega)
 ·have zh:j=p.length:=by simp at zp;omega
  subst zh;have g2:=g.cell;have g3:=g.arr;rw[W9]at g2;simp only[ww]at g2;have gR:H2[1]? =some (AObj.vars [AV.nils]):=g.kp (by decide) (by rw[hK];rfl);have hS:=(zB.1 g2).1;have zw:q≠1∧q≠2:=by have:=g.ge;rw[hK]at this;simp at this;omega
  have z6:=W9 (fun i=>Wv (p.getD i [])) p.length;have zi: .list (upL (fun i=>Wv (p.getD i [])) p.length)=AV.list ((W5 p).map encL):=by rw[Gy,Ks];rfl
  generalize upL (fun i=>Wv (p.getD i [])) p.length=xs at *
  refine Wg q g3 2 g2 ?_;have k1:∀X,((H2.set q .dead).set 2 X)[1]? =some (AObj.vars [AV.nils]):=fun X=>Qd (by decide) (Qd zw.1 gR _) _;have zx:∀X hh,((H2.set q .dead).set 2 X)[1]'hh=AObj.vars [AV.nils]:=fun X hh=>by have:=k1 X;rw[zK hh]at this;exact Option.some.inj this
  have k2:∀X,((H2.set q .dead).set 2 X)[2]? =some X:=fun X=>zO (by simpa using hS);have k3:∀X Y,(((H2.set q .dead).set 2 X).set 1 Y)[1]? =some Y:=fun X Y=>Qi (k1 X) _;simp[z6];rw[zR (by omega)];repeat first|(refine r_ ?_;simp[k1,zx,k2,k3])|refine q_ ?_
  exact AV.list.inj zi
end Go.Abs
namespace Go.Abs
open Go Go.Proofs
theorem C4(l:List Bool)(hb:l.length≤1000000):FR Tryz.prog 129 [.list (l.map .bool)] 4 1 (fun r=>r=l.map .bool):=by
 refine d07 tOk Tryz.func129 rfl Tryz.results129 rfl (by simp[Tryz.ntmps129]) ?_;rw[Tryz.ntmps129];simp only[Qg];repeat first|(refine r_ ?_;simp)|refine q_ ?_
 refine Gf tOk rfl rfl T22 rfl rfl rfl (fun b z1=> ?_);simp;refine Qa rfl (fun h=> ?_) (fun h=> ?_)
 ·subst h;have:l=[]:=by
   cases hx:l
   ·rfl
   ·have:=z1 (by simp[hx]);cases this
  rw[this];repeat first|(refine r_ ?_;simp)|refine q_ ?_
 ·repeat first|(refine r_ ?_;simp)|refine q_ ?_
  refine Qf tOk rfl rfl T22 rfl T4 rfl (by decide) (by decide) rfl rfl rfl ?_;simp;refine⟨⟨?_,by simp;omega⟩,?_⟩
  ·intro y hy;obtain⟨x,_,rfl⟩:=zT.1 hy;exact⟨rfl,by simp[AV.cells,AV.leaf]⟩
  repeat first|(refine r_ ?_;simp)|refine q_ ?_
theorem Gw(l:List Mv)(hb:l.length≤1000000):FR Tryz.prog 130 [.list (l.map encMv)] 78 3 (fun r=>r=l.map encMv):=by
 refine d07 tOk Tryz.func130 rfl Tryz.results130 rfl (by simp[Tryz.ntmps130]) ?_;rw[Tryz.ntmps130];simp only[Qg];repeat first|(refine r_ ?_;simp)|refine q_ ?_
 refine Gf tOk rfl rfl T23 rfl rfl rfl (fun b z1=> ?_);simp;refine Qa rfl (fun h=> ?_) (fun h=> ?_)
 ·subst h;have:l=[]:=by
   cases hx:l
   ·rfl
   ·have:=z1 (by simp[hx]);cases this
  rw[this];repeat first|(refine r_ ?_;simp)|refine q_ ?_
 ·repeat first|(refine r_ ?_;simp)|refine q_ ?_
  refine Qf tOk rfl rfl T23 rfl T78 rfl (by decide) (by decide) rfl rfl rfl ?_;simp;refine⟨⟨?_,by simp;omega⟩,?_⟩
  ·intro y hy;obtain⟨x,_,rfl⟩:=zT.1 hy;exact⟨rfl,by simp[AV.cells,AV.leaf]⟩
  repeat first|(refine r_ ?_;simp)|refine q_ ?_
attribute [local irreducible] u1u
theorem G5(H:List AObj)(f:Nat)(a:Aut)(hf:H[f]? =some (.arr 4 1 (a.fin.map .bool)))(zd:a.fin.length≤1000000)(ze:a.mv.length≤1000000):
  FC Tryz.prog 61 [.agg [.i a.types,.sl f 1 0 a.fin.length,.list (a.mv.map encMv)]] H
   (fun r H'=>((N1 a=true∧r= .tup [.agg [.i 0,.nils,.nils],.i 5])∨(N1 a=false∧r= .tup [.agg [.i a.types,.sl f 1 0 a.fin.length,.list (a.mv.map encMv)],.i 0]))∧∀i,i<H.length→H'[i]? =H[i]?):=by
 refine W6 tOk Tryz.func61 rfl Tryz.results61 rfl (by simp[Tryz.ntmps61]) ?_;rw[Tryz.ntmps61];simp only[Qg];repeat first|(refine r_ ?_;simp)|refine q_ ?_
 refine Qa rfl (fun h=> ?_) (fun h=> ?_)
 ·repeat first|(refine r_ ?_;simp)|refine q_ ?_
  have hb:N1 a=true:=by rw[Mn,vW];left;simp at h ⊢;omega
  exact⟨hb,fun i hi=>zF hi⟩
 have hb:(decide (256<a.fin.length) || decide (2048<a.mv.length))=false:=by simp at h ⊢;omega
 repeat first|(refine r_ ?_;simp)|refine q_ ?_
 refine Qo (Qc (sl':=[(1,.vptr H.length 0),(2,.vptr (H.length+1) 0),(18,.list (a.mv.map encMv)),(19,.i a.mv.length),(20,.i (0:Nat))]) ?_ (by simp));refine Qn (F:=fun(u:Nat×List AObj)=>⟨[(1,.vptr H.length 0),(2,.vptr (H.length+1) 0),(18,.list (a.mv.map encMv)),(19,.i a.mv.length),(20,.i u.1)],u.2⟩)
  (fun u=>u.1≤a.mv.length∧H.length+2≤u.2.length∧(∀i,i<H.length→u.2[i]? =H[i]?)∧u.2[H.length]? =some (.vars [.i a.types,.sl f 1 0 a.fin.length,.list (a.mv.map encMv)])∧u.2[H.length+1]? =some (.vars [.i 0,.nils,.nils])∧∀i,∀hi:i<a.mv.length,i<u.1→u1u a.mv[i]=false) (fun u=>a.mv.length - u.1) ?_ (0,_)
  ⟨by simp,by simp,fun i hi=>zF hi,by simp,by simp,fun i hi h=>by omega⟩
 rintro⟨j,G⟩ ⟨hj,hG,k0,k1,k2,hI⟩ ih;simp only at hj hG k0 k1 k2 hI ih ⊢;repeat first|(refine r_ ?_;simp)|refine q_ ?_
 refine Qa rfl (fun za=> ?_) (fun zb=> ?_)
 ·have z1:j<a.mv.length:=by simpa using za
  have hw:IntKind.i64.wrap ((j:Int)+1)=j+1:=wrap_i64 _ (by omega) (by omega);repeat first|(refine r_ ?_;simp[z1])|refine q_ ?_
  refine Qe rfl rfl (by simp) (Dx a.mv[j].on 126 (fun s=>decide (256<s.length)) j1g) rfl ?_;rintro _ rfl;simp;repeat first|(refine r_ ?_;simp)|refine q_ ?_
  have z8:∀L,(G++L)[H.length+1]? =some (.vars [.i 0,.nils,.nils]):=fun L=>Qb k2 L;refine Qa rfl (fun h=> ?_) (fun h=> ?_)
  ·have k3:∀L Y,((G++L).set (H.length+1) Y)[H.length+1]? =some Y:=fun L Y=>Qi (z8 L) Y;repeat first|(refine r_ ?_;simp[z8,k3])|refine q_ ?_
   have hm:u1u a.mv[j]=true:=by unfold u1u;exact h
   have z6:N1 a=true:=by rw[Mn,vW];right;exact vz.2 ⟨_,zL z1,hm⟩
   exact⟨z6,fun i hi=>by rw[zE (by omega),zF (by omega)];exact k0 i hi⟩
  ·have hm:u1u a.mv[j]=false:=by unfold u1u;exact h
   repeat first|(refine r_ ?_;simp[hw])|refine q_ ?_
   refine Qc (sl':=[(1,.vptr H.length 0),(2,.vptr (H.length+1) 0),(18,.list (a.mv.map encMv)),(19,.i a.mv.length),(20,.i (j+1:Nat))]) ?_ (by simp);refine ih (j+1,_) ⟨by simp only;omega,by simp;omega,fun i hi=>(zF (by omega)).trans (k0 i hi),Qb k1 _,Qb k2 _,fun i hi zc=> ?_⟩ (by simp only;omega);by_cases e:i=j
   ·subst e;exact hm
   ·exact hI i hi (by simp only at zc;omega)
 ·have z7:j=a.mv.length:=by simp at zb;omega
  subst z7;have z6:N1 a=false:=by rw[Mn,hb,Bool.false_or,List.any_eq_false];intro m hm;obtain⟨i,hi,rfl⟩:=xH hm;rw[hI i hi hi];simp
  have k3:∀Y,(G.set (H.length+1) Y)[H.length+1]? =some Y:=fun Y=>Qi k2 Y;repeat first|(refine r_ ?_;simp[k1,k2,k3])|refine q_ ?_
  exact⟨z6,fun i hi=>by rw[zE (by omega)];exact k0 i hi⟩
end Go.Abs
namespace Go.Abs
open Go Go.Proofs
structure CM (H:List AObj) (a:Aut) (G:List AObj) (f p c:Nat) (xs:List AV):Prop where
 b:G[H.length]? =some (.vars (Q4 a))
 r:G[H.length+1]? =some (.vars [.i 0,.nils,.nils])
 k:∀i,i<H.length→G[i]? =H[i]?
 ce:G[c]? =some (.vars [.i a.types,.sl f 1 0 a.fin.length,.sl p 3 0 xs.length])
 fe:G[f]? =some (.arr 4 1 (a.fin.map .bool))
 m:G[p]? =some (.arr 78 3 xs)
 hf:H.length+2≤f
 hc:H.length+2≤c
 hp:H.length+2≤p
theorem CM.keepAll{H:List AObj}{a:Aut}{G G':List AObj}{f p c:Nat}{xs:List AV}(h:CM H a G f p c xs)(hk:∀j,j<G.length→G'[j]? =G[j]?):CM H a G' f p c xs:=by have l1:=(zB.1 h.b).1;have l2:=(zB.1 h.r).1;have l3:=(zB.1 h.ce).1;have l4:=(zB.1 h.fe).1;have l5:=(zB.1 h.m).1;exact⟨(hk _ l1).trans h.b,(hk _ l2).trans h.r,fun i hi=>(hk i (by omega)).trans (h.k i hi),(hk _ l3).trans h.ce,(hk _ l4).trans h.fe,(hk _ l5).trans h.m,h.hf,h.hc,h.hp⟩
theorem CM.ne1{H:List AObj}{a:Aut}{G:List AObj}{f p c:Nat}{xs:List AV}(h:CM H a G f p c xs):p≠c∧p≠f∧c≠f:=by
 refine⟨fun e=> ?_,fun e=> ?_,fun e=> ?_⟩
 ·have h1:=h.ce;have h2:=h.m;subst e;rw[h1]at h2;simp at h2
 ·have h1:=h.fe;have h2:=h.m;subst e;rw[h1]at h2;simp at h2
 ·have h1:=h.fe;have h2:=h.ce;subst e;rw[h1]at h2;simp at h2
theorem CM.put{H:List AObj}{a:Aut}{G:List AObj}{f p c:Nat}{xs:List AV}(h:CM H a G f p c xs)(A:AObj)(ys:List AV):
  CM H a ((G.set p .dead++[A,.arr 78 3 ys]).set c (.vars [.i a.types,.sl f 1 0 a.fin.length,.sl (G.length+1) 3 0 ys.length])) f (G.length+1) c ys:=by
 obtain⟨n1,n2,n3⟩:=h.ne1;have l3:=(zB.1 h.ce).1;have l5:=(zB.1 h.m).1;have hp:=h.hp;have hc:=h.hc;have hf:=h.hf;have low:∀i x,i≠p→i≠c→G[i]? =some x→((G.set p .dead++[A,.arr 78 3 ys]).set c (.vars [.i a.types,.sl f 1 0 a.fin.length,.sl (G.length+1) 3 0 ys.length]))[i]? =some x:=fun i x e1 e2 hx=>by rw[zE (fun e=>e2 e.symm),zF (by have:=(zB.1 hx).1;simpa using this),zE (fun e=>e1 e.symm)];exact hx
 refine⟨low _ _ (by omega) (by omega) h.b,low _ _ (by omega) (by omega) h.r,fun i hi=> ?_,zO (by simp;omega),low _ _ (by omega) (by omega) h.fe,?_,hf,hc,by omega⟩
 ·have hg:=h.k i hi;have z1:i<G.length:=by omega
  rw[zK z1]at hg;rw[low i _ (by omega) (by omega) (zK z1)];exact hg
 ·rw[zE (by omega),zH (by simp)];simp
theorem CM.cell{H:List AObj}{a:Aut}{G:List AObj}{f p c:Nat}{xs:List AV}(h:CM H a G f p c xs)(L:List AObj):(G.set p .dead++L)[c]? =some (.vars [.i a.types,.sl f 1 0 a.fin.length,.sl p 3 0 xs.length]):=
 Qb (Qd h.ne1.1 h.ce _) L
theorem CM.frz{H:List AObj}{a:Aut}{G:List AObj}{f p c:Nat}{xs:List AV}(h:CM H a G f p c xs)(X:AObj):
  ((G.set p .dead).set c X)[H.length]? =some (.vars (Q4 a))∧((G.set p .dead).set c X)[H.length+1]? =some (.vars [.i 0,.nils,.nils])∧((G.set p .dead).set c X)[c]? =some X∧((G.set p .dead).set c X)[f]? =some (.arr 4 1 (a.fin.map .bool))∧∀i,i<H.length→((G.set p .dead).set c X)[i]? =H[i]? :=by
 obtain⟨n1,n2,n3⟩:=h.ne1;have hp:=h.hp;have hc:=h.hc;have hf:=h.hf;refine⟨Qd (by omega) (Qd (by omega) h.b _) _,Qd (by omega) (Qd (by omega) h.r _) _,Qi (Qd n1 h.ce _) _,Qd n3 (Qd n2 h.fe _) _,fun i hi=> ?_⟩;rw[zE (by omega),zE (by omega)];exact h.k i hi
theorem q0r(l:List Iv):(Ej l).length≤l.length:=by unfold Ej;have:=Rq (E3 l) [];rw[Gn]at this;simpa using this
theorem k1g{T:Nat}{l:List Prd}{k:Nat}(h:∀i,i<T→(Qw l i).length≤k):∀s∈U8 T l,s.length≤k:=by intro s hs;obtain⟨i,hi,rfl⟩:=zT.1 hs;exact yH (q0r _) (h i (y_.1 hi))
theorem z0e{a:Aut}(h:OkA a)(s:Int)(i:Nat):(Qw (Gc a s) i).length≤1000000:=by
 have h1:(Gc a s).length≤2048:=by unfold Gc;rw[yB];exact yH (wd _ _) h.mvs
 have h2:∀p∈Gc a s,PCk a.types.toNat p:=fun p hp=>by obtain⟨m,hm,rfl⟩:=zT.1 hp;exact(h.mv m (List.mem_filter.1 hm).1).on
 have:=Uc h2 i;omega
def g0f(a:Aut)(k:Nat):List Mv:=(yO k).filterMap fun s:Nat=>if Wf (Wy a s)then none else some ⟨s,a.fin.length,Wy a s⟩
theorem q0a(a:Aut):g0f a a.fin.length=R3 a (Wy a):=rfl
theorem c0g(a:Aut)(k:Nat):g0f a (k+1)=g0f a k++(if Wf (Wy a k)then []else [⟨k,a.fin.length,Wy a k⟩]):=by unfold g0f;rw[wH,List.filterMap_append];cases h:Wf (Wy a k)<;>simp[h]
theorem w0e(a:Aut)(k:Nat):(g0f a k).length≤k:=by unfold g0f;exact yH (List.length_filterMap_le _ _) (by simp)
theorem g0i(a:Aut):g0f a 0=[]:=rfl
def q1w(a:Aut)(s:Int)(k:Nat):List Prd:=((a.mv.take k).filter fun m=>decide (m.src=s)).map (·.on)
theorem z0g(a:Aut)(s:Int):q1w a s a.mv.length=Gc a s:=by rw[q1w,yW];rfl
theorem d02(a:Aut)(s:Int)(k:Nat)(h:k<a.mv.length):q1w a s (k+1)=q1w a s k++(if a.mv[k].src=s then [a.mv[k].on]else []):=by unfold q1w;rw[zU h,List.filter_append,yP];by_cases hb:a.mv[k].src=s<;>simp[hb]
theorem w0j(a:Aut)(s:Int)(k:Nat):(q1w a s k).length≤a.mv.length:=by unfold q1w;rw[yB];exact yH (wd _ _) (by simp;omega)
attribute [local irreducible] g0f Wy Wf U8 W5 Gc
theorem Bg(H:List AObj)(a:Aut)(ha:OkA a):FC Tryz.prog 71 [encA a] H
  (fun r H'=>((∃e,Sd a=(e,U0)∧e≠0∧r= .tup [.agg [.i 0,.nils,.nils],.i e])∨
   (∃b f,Sd a=(0,b)∧r= .tup [.agg [.i b.types,.sl f 1 0 b.fin.length,.list (b.mv.map encMv)],.i 0]∧H'[f]? =some (.arr 4 1 (b.fin.map .bool))∧H.length≤f))∧∀i,i<H.length→H'[i]? =H[i]?):=by
 have zw:=ha.fin;have zx:=ha.mvs;refine W6 tOk Tryz.func71 rfl Tryz.results71 rfl (by simp[Tryz.ntmps71]) ?_;rw[Tryz.ntmps71];simp only[Qg];simp only[encA];repeat first|(refine r_ ?_;simp)|refine q_ ?_
 refine Vn (P:=Tryz.prog) tOk mixed [10] (.val 0 (.val 1 (.val 2 (.val 3 (.val 5 (.val 6 (.two 4 (.two 7 (.val 8 (.one 9 (.one 10 (.done)))) 9 (.one 7 (.val 8 (.one 10 (.done))))) 9 (.one 4 (.one 7 (.val 8 (.one 10 (.done)))))))))))) (fun S'=>∃f p c,CM H a S'.hp f p c (a.mv.map encMv)∧look S'.sl 1=some (.vptr H.length 0)∧look S'.sl 2=some (.vptr (H.length+1) 0)∧look S'.sl 3=some (.i 0)∧look S'.sl 4=some (.vptr c 0)) rfl (by kernel_rfl) ?_ ?_
 ·simp;refine⟨?_,?_⟩
  ·refine Ak rfl rfl (by simp) (C4 a.fin (by omega)) rfl ?_;rintro _ rfl;simp;refine⟨?_,?_⟩
   ·refine Ak rfl rfl (by simp) (Gw a.mv (by omega)) rfl ?_;rintro _ rfl;simp;exact⟨H.length+2,H.length+3,by simp,by simp,fun i hi=>zF hi,by simp,by simp,by simp,by omega,by omega,by omega⟩
   ·refine Ak rfl rfl (by simp) (Gw a.mv (by omega)) rfl ?_;rintro _ rfl;simp;exact⟨H.length+2,H.length+4,by simp,by simp,fun i hi=>zF hi,by simp,by simp,by simp,by omega,by omega,by omega⟩
  ·refine Ak rfl rfl (by simp) (C4 a.fin (by omega)) rfl ?_;rintro _ rfl;simp;refine Ak rfl rfl (by simp) (Gw a.mv (by omega)) rfl ?_;rintro _ rfl;simp;exact⟨H.length+3,H.length+4,by simp,by simp,fun i hi=>zF hi,by simp,by simp,by simp,by omega,by omega,by omega⟩
 ·rintro⟨sl,G⟩ ⟨f,p,c,g,e1,e2,e3,e4⟩;simp only at g e1 e2 e3 e4;refine Qz (sl':=[(1,.vptr H.length 0),(2,.vptr (H.length+1) 0),(3,.i 0),(4,.vptr c 0)]) ?_ (by simp[e1,e2,e3,e4]);have g1:=g.b;repeat first|(refine r_ ?_;simp[g1])|refine q_ ?_
  refine Qo (Qc (sl':=[(1,.vptr H.length 0),(2,.vptr (H.length+1) 0),(3,.i 0),(4,.vptr c 0),(5,.i a.fin.length),(27,.i a.fin.length),(28,.i (0:Nat))]) ?_ (by simp));refine Qn (F:=fun(u:Nat×Nat×List AObj)=>⟨[(1,.vptr H.length 0),(2,.vptr (H.length+1) 0),(3,.i 0),(4,.vptr c 0),(5,.i a.fin.length),(27,.i a.fin.length),(28,.i u.1)],u.2.2⟩)
   (fun u=>u.1≤a.fin.length∧CM H a u.2.2 f u.2.1 c ((a.mv++g0f a u.1).map encMv)) (fun u=>a.fin.length - u.1) ?_ (0,p,G) ⟨by simp,by rw[g0i,xB];exact g⟩
  clear g g1;rintro⟨s,p,G⟩ ⟨hs,g⟩ ih;simp only at hs g ih ⊢;repeat first|(refine r_ ?_;simp)|refine q_ ?_
  refine Qa rfl (fun zy=> ?_) (fun zz=> ?_)
  ·have y0:s<a.fin.length:=by simpa using zy
   have hw:IntKind.i64.wrap ((s:Int)+1)=s+1:=wrap_i64 _ (by omega) (by omega);have g1:∀L,(G++L)[H.length]? =some (.vars (Q4 a)):=fun L=>Qb g.b L;repeat first|(refine r_ ?_;simp[g1])|refine q_ ?_
   have zp:=SL.start G 76 1;refine Qo (Qc (sl':=[(1,.vptr H.length 0),(2,.vptr (H.length+1) 0),(3,.i 0),(4,.vptr c 0),(5,.i a.fin.length),(6,.i s),(7,.sl G.length 1 0 0),(27,.i a.fin.length),(28,.i s),(33,.list (a.mv.map encMv)),(34,.i a.mv.length),(35,.i (0:Nat))]) ?_ (by simp));refine Qn (F:=fun(u:Nat×Nat×List AObj)=>⟨[(1,.vptr H.length 0),(2,.vptr (H.length+1) 0),(3,.i 0),(4,.vptr c 0),(5,.i a.fin.length),(6,.i s),(7,.sl u.2.1 1 0 (q1w a s u.1).length),(27,.i a.fin.length),(28,.i s),(33,.list (a.mv.map encMv)),(34,.i a.mv.length),(35,.i u.1)],u.2.2⟩)
    (fun u=>u.1≤a.mv.length∧SL G u.2.2 u.2.1 76 1 ((q1w a s u.1).map encP)) (fun u=>a.mv.length - u.1) ?_ (0,G.length,_) ⟨by simp,zp⟩
   rintro⟨k,q,E⟩ ⟨hk,s1⟩ ih2;simp only at hk s1 ih2 ⊢;repeat first|(refine r_ ?_;simp)|refine q_ ?_
   refine Qa rfl (fun zh=> ?_) (fun zi=> ?_)
   ·have z7:k<a.mv.length:=by simpa using zh
    have zq:IntKind.i64.wrap ((k:Int)+1)=k+1:=wrap_i64 _ (by omega) (by omega);have zb:=d02 a s k z7;have ya:=w0j a s k;have z6:=fun q' E'=>ih2 (k+1,q',E');simp only[zb]at z6;clear zb;generalize q1w a s k=acc at *
    repeat first|(refine r_ ?_;simp[z7])|refine q_ ?_
    by_cases hb:a.mv[k].src=s
    ·rw[if_pos hb]at z6;refine Qa rfl (fun _=> ?_) (fun h=>by simp[hb]at h);repeat first|(refine r_ ?_;simp)|refine q_ ?_
     refine Qf tOk rfl rfl T91 rfl T76 rfl (by decide) (by decide) rfl rfl rfl ?_;simp[Qb s1.arr,Qj s1.arr];refine⟨by simp[Wi,Qb s1.arr,Qj s1.arr]<;>omega,?_⟩;repeat first|(refine r_ ?_;simp[zq])|refine q_ ?_
     refine Qc (sl':=[(1,.vptr H.length 0),(2,.vptr (H.length+1) 0),(3,.i 0),(4,.vptr c 0),(5,.i a.fin.length),(6,.i s),(7,.sl (E.length+2) 1 0 (acc.length+1)),(27,.i a.fin.length),(28,.i s),(33,.list (a.mv.map encMv)),(34,.i a.mv.length),(35,.i (k+1:Nat))]) ?_ (by simp);have:=z6 (E.length+2) _ ⟨by omega,s1.put [AObj.vars [AV.i a.mv[k].src,AV.i a.mv[k].dst,AV.list (a.mv[k].on.map encL)],.arr 76 1 [encP a.mv[k].on]] ((acc++[a.mv[k].on]).map encP) rfl⟩ (by omega);simpa using this
    ·rw[if_neg hb,xB]at z6;refine Qa rfl (fun h=>by simp[hb]at h) (fun _=> ?_);repeat first|(refine r_ ?_;simp[zq])|refine q_ ?_
     refine Qc (sl':=[(1,.vptr H.length 0),(2,.vptr (H.length+1) 0),(3,.i 0),(4,.vptr c 0),(5,.i a.fin.length),(6,.i s),(7,.sl q 1 0 acc.length),(27,.i a.fin.length),(28,.i s),(33,.list (a.mv.map encMv)),(34,.i a.mv.length),(35,.i (k+1:Nat))]) ?_ (by simp);have:=z6 q _ ⟨by omega,s1.add [AObj.vars [AV.i a.mv[k].src,AV.i a.mv[k].dst,AV.list (a.mv[k].on.map encL)]]⟩ (by omega);simpa using this
   ·have zc:k=a.mv.length:=by simp at zi;omega
    subst zc;rw[z0g]at s1 ⊢;refine Wp q s1.arr ?_;simp;rw[zR (by simp)];have yb:=s1.ge;have yc:=s1.le;have g':=g.keepAll (G':=E.set q .dead) (fun j hj=>by rw[zE (by omega)];exact s1.keep j hj);generalize E.set q .dead=G2 at *;clear s1 zp g1
    have g1:=g'.b;repeat first|(refine r_ ?_;simp[g1])|refine q_ ?_
    have y1:((a.types.toNat:Nat):Int)=a.types:=by have:=ha.types;omega
    have zt:=Zt a.types.toNat (Gc a s) (by have:=ha.types;omega) (Li ha.wfA s) (fun i _=>z0e ha s i) (by have:=w0j a s a.mv.length;rw[z0g]at this;omega);rw[y1]at zt;refine Qe rfl rfl (by simp) (zt) rfl ?_;rintro _ rfl;simp;refine Qe rfl rfl (by simp) (y10 a.types.toNat (U8 a.types.toNat (Gc a s)) (K7 (Li ha.wfA s)) (k1g (fun i _=>z0e ha s i)) (by have:=ha.types;omega)) rfl ?_;rintro _ rfl;simp;have y3:W5 (U8 a.types.toNat (Gc a s))=Wy a s:=by unfold Wy;rfl
    rw[y3];repeat first|(refine r_ ?_;simp)|refine q_ ?_
    refine Qe rfl rfl (by simp) (w1q (Wy a s)) rfl ?_;rintro _ rfl;simp;repeat first|(refine r_ ?_;simp)|refine q_ ?_
    have g3:=g'.keepAll (G':=G2++[AObj.vars [AV.list ((Wy a s).map encL)]]) (fun j hj=>zF hj);have y4:(G2++[AObj.vars [AV.list ((Wy a s).map encL)]])[G2.length]? =some (AObj.vars [AV.list ((Wy a s).map encL)]):=by simp
    generalize G2++[AObj.vars [AV.list ((Wy a s).map encL)]]=G3 at *
    have zb:=c0g a s;have y5:=w0e a s;have zd:=fun p' G'=>ih (s+1,p',G');simp only[zb]at zd;clear zb g';generalize g0f a s=new at *
    have y6:(a.mv++new).length=a.mv.length+new.length:=by simp
    obtain⟨d1,d2,d3⟩:=g3.ne1;have g3c:=g3.ce;have g3m:=g3.m;have g3cc:=g3.cell;rw[yB,y6]at g3c g3cc;cases hv:Wf (Wy a s)with
    |true=>
     rw[hv]at zd;refine Ql rfl ?_;simp[hv];repeat first|(refine r_ ?_;simp[hw])|refine q_ ?_
     refine Qc (sl':=[(1,.vptr H.length 0),(2,.vptr (H.length+1) 0),(3,.i 0),(4,.vptr c 0),(5,.i a.fin.length),(27,.i a.fin.length),(28,.i (s+1:Nat))]) ?_ (by simp);have:=zd p G3 ⟨by omega,by simpa using g3⟩ (by omega);exact this
    |false=>
     rw[hv]at zd;refine Ql rfl ?_;simp[hv];repeat first|(refine r_ ?_;simp[g3c,y4])|refine q_ ?_
     refine Qf tOk rfl rfl T23 rfl T78 rfl (by decide) (by decide) rfl rfl rfl ?_;simp[Qb g3m,Qj g3m,g3cc,Qb g3c];refine⟨by simp[Wi,Qb g3m,Qj g3m,g3cc,Qb g3c]<;>omega,?_⟩;repeat first|(refine r_ ?_;simp[hw,g3cc])|refine q_ ?_
     refine Qc (sl':=[(1,.vptr H.length 0),(2,.vptr (H.length+1) 0),(3,.i 0),(4,.vptr c 0),(5,.i a.fin.length),(27,.i a.fin.length),(28,.i (s+1:Nat))]) ?_ (by simp);have y7:=g3.put (.arr 78 3 [encMv (⟨s,a.fin.length,Wy a s⟩:Mv)]) ((a.mv++(new++[(⟨s,a.fin.length,Wy a s⟩:Mv)])).map encMv);have:=zd (G3.length+1) _ ⟨by omega,y7⟩ (by omega);simpa[Nat.add_assoc]using this
  ·have zj:s=a.fin.length:=by simp at zz;omega
   subst zj;rw[q0a]at g;have zm:Sd a=if(R3 a (Wy a)).isEmpty then(0,a)else Xr (Uq a):=rfl
   obtain⟨d1,d2,d3⟩:=g.ne1;have yd:=g.hf;have ye:=g.hc;have yg:=g.hp;have y5:(R3 a (Wy a)).length≤a.fin.length:=by rw[←q0a];exact w0e a _
   by_cases hn:R3 a (Wy a)=[]
   ·rw[hn]at zm;rw[hn,xB]at g;have gz:=g.frz (.vars [.i a.types,.sl f 1 0 a.fin.length,.list (a.mv.map encMv)]);refine Wg p g.m c g.ce ?_;simp[d2.symm];rw[zR (by simp)];generalize (G.set p AObj.dead).set c (.vars [.i a.types,.sl f 1 0 a.fin.length,.list (a.mv.map encMv)])=E at *
    obtain⟨q1,q2,q3,q4,q5⟩:=gz;have q6:∀Y,(E.set (H.length+1) Y)[H.length+1]? =some Y:=fun Y=>Qi q2 Y;repeat first|(refine r_ ?_;simp[q1,q2,q3])|refine q_ ?_
    refine Ql rfl ?_;simp;repeat first|(refine r_ ?_;simp[q1,q2,q3,q6])|refine q_ ?_
    exact⟨⟨a,by simpa using zm,f,⟨rfl,⟨rfl,rfl⟩,rfl⟩,Qd (by omega) q4 _,by omega⟩,fun i hi=>by rw[zE (by omega)];exact q5 i hi⟩
   ·have ze:Sd a=Xr (Uq a):=by rw[zm,if_neg (by simpa using hn)]
    have gm:=g.ce;rw[yB,zZ]at gm;have gb:=g.b;repeat first|(refine r_ ?_;simp[gb,gm])|refine q_ ?_
    have yh:(R3 a (Wy a)).length≠0:=by simpa using hn
    refine Qa rfl (fun h=>by simp at h;omega) (fun h=> ?_);repeat first|(refine r_ ?_;simp[gb])|refine q_ ?_
    refine Qe rfl rfl (by simp) (u1j a.types ha.types.1 ha.types.2) rfl ?_;rintro _ rfl;simp;repeat first|(refine r_ ?_;simp)|refine q_ ?_
    refine Qa rfl (fun h=>by simp at h) (fun _=> ?_);have g3:=g.keepAll (G':=G++[AObj.vars [AV.list ((Ws a.types.toNat).map encL)]]) (fun j hj=>zF hj);have za:(G++[AObj.vars [AV.list ((Ws a.types.toNat).map encL)]])[G.length]? =some (AObj.vars [AV.list ((Ws a.types.toNat).map encL)]):=by simp
    generalize G++[AObj.vars [AV.list ((Ws a.types.toNat).map encL)]]=G1 at *
    have k1:=g3.ce;rw[yB,zZ]at k1;have k2:=g3.fe;have k3:∀L,(G1.set f .dead++L)[c]? =some (.vars [.i a.types,.sl f 1 0 a.fin.length,.sl p 3 0 (a.mv.length+(R3 a (Wy a)).length)]):=fun L=>Qb (Qd d3.symm k1 _) L;repeat first|(refine r_ ?_;simp[k1])|refine q_ ?_
    refine Qf tOk rfl rfl T22 rfl T4 rfl (by decide) (by decide) rfl rfl rfl ?_;simp[Qb k2,Qj k2,Qb k1,k3];refine⟨by simp[Wi,Qb k2,Qj k2,Qb k1,k3]<;>omega,?_⟩;have lf:=(zB.1 k2).1;have lc:=(zB.1 k1).1;have lp:=(zB.1 g3.m).1;have low:∀(X:AObj) i x,i≠f→i≠c→G1[i]? =some x→((G1.set f .dead++[AObj.arr 4 1 [AV.bool false],AObj.arr 4 1 (a.fin.map AV.bool++[AV.bool false])]).set c X)[i]? =some x:=fun X i x e1 e2 hx=>by rw[zE (fun e=>e2 e.symm),zF (by have:=(zB.1 hx).1;simpa using this),zE (fun e=>e1 e.symm)];exact hx
    have yi:=(zB.1 za).1;have r2:=low (.vars [.i a.types,.sl (G1.length+1) 1 0 (a.fin.length+1),.sl p 3 0 (a.mv.length+(R3 a (Wy a)).length)]) _ _ (by omega) (by omega) g3.r;have m2:=low (.vars [.i a.types,.sl (G1.length+1) 1 0 (a.fin.length+1),.sl p 3 0 (a.mv.length+(R3 a (Wy a)).length)]) _ _ d2 d1 g3.m;have w2:=low (.vars [.i a.types,.sl (G1.length+1) 1 0 (a.fin.length+1),.sl p 3 0 (a.mv.length+(R3 a (Wy a)).length)]) _ _ (fun e=>by rw[e,k2]at za;simp at za) (fun e=>by rw[e,k1]at za;simp at za) za;have c2:((G1.set f .dead++[AObj.arr 4 1 [AV.bool false],AObj.arr 4 1 (a.fin.map AV.bool++[AV.bool false])]).set c (.vars [.i a.types,.sl (G1.length+1) 1 0 (a.fin.length+1),.sl p 3 0 (a.mv.length+(R3 a (Wy a)).length)]))[c]? =some (.vars [.i a.types,.sl (G1.length+1) 1 0 (a.fin.length+1),.sl p 3 0 (a.mv.length+(R3 a (Wy a)).length)]):=Qi (k3 _) _;have f2:((G1.set f .dead++[AObj.arr 4 1 [AV.bool false],AObj.arr 4 1 (a.fin.map AV.bool++[AV.bool false])]).set c (.vars [.i a.types,.sl (G1.length+1) 1 0 (a.fin.length+1),.sl p 3 0 (a.mv.length+(R3 a (Wy a)).length)]))[G1.length+1]? =some (.arr 4 1 ((Uq a).fin.map AV.bool)):=by rw[zE (by omega),zH (by simp)];simp[Uq]
    have q2:∀i,i<H.length→((G1.set f .dead++[AObj.arr 4 1 [AV.bool false],AObj.arr 4 1 (a.fin.map AV.bool++[AV.bool false])]).set c (.vars [.i a.types,.sl (G1.length+1) 1 0 (a.fin.length+1),.sl p 3 0 (a.mv.length+(R3 a (Wy a)).length)]))[i]? =H[i]? :=fun i hi=>by rw[zE (by omega),zF (by simp;omega),zE (by omega)];exact g3.k i hi
    generalize (G1.set f .dead++[AObj.arr 4 1 [AV.bool false],AObj.arr 4 1 (a.fin.map AV.bool++[AV.bool false])]).set c (.vars [.i a.types,.sl (G1.length+1) 1 0 (a.fin.length+1),.sl p 3 0 (a.mv.length+(R3 a (Wy a)).length)])=E at *
    have k4:∀L,(E.set p .dead++L)[c]? =some (.vars [.i a.types,.sl (G1.length+1) 1 0 (a.fin.length+1),.sl p 3 0 (a.mv.length+(R3 a (Wy a)).length)]):=fun L=>Qb (Qd d1 c2 _) L;have zu:(Uq a).mv.length=a.mv.length+(R3 a (Wy a)).length+1:=by simp[Uq];omega
    have y8:(Uq a).fin.length=a.fin.length+1:=by simp[Uq]
    have yj:(a.mv++R3 a (Wy a)).map encMv++[encMv ⟨a.fin.length,a.fin.length,Ws a.types.toNat⟩]=(Uq a).mv.map encMv:=by simp[Uq]
    have ym:=(zB.1 c2).1;have yn:=(zB.1 m2).1;have yo:=(zB.1 f2).1;repeat first|(refine r_ ?_;simp[c2,w2])|refine q_ ?_
    refine Qf tOk rfl rfl T23 rfl T78 rfl (by decide) (by decide) rfl rfl rfl ?_;simp[Qb m2,Qj m2,Qb c2,k4];refine⟨by simp[Wi,Qb m2,Qj m2,Qb c2,k4]<;>omega,?_⟩;have hB:a.mv.map encMv++((R3 a (Wy a)).map encMv++[AV.agg [AV.int IntKind.i64 ↑a.fin.length,AV.int IntKind.i64 ↑a.fin.length,AV.list ((Ws a.types.toNat).map encL)]])=(Uq a).mv.map encMv:=by simp[Uq]
    rw[hB];refine Wb fun Z hZ=> ?_;have z1:Z[E.length+1]? =some (.arr 78 3 ((Uq a).mv.map encMv)):=by rw[hZ,zE (by omega),zH (by simp)];simp
    have z2:Z[c]? =some (.vars [.i a.types,.sl (G1.length+1) 1 0 (a.fin.length+1),.sl (E.length+1) 3 0 (a.mv.length+(R3 a (Wy a)).length+1)]):=by rw[hZ,zO (by simp;omega)]
    have zr:Z[H.length+1]? =some (.vars [.i 0,.nils,.nils]):=by rw[hZ,zE (by omega),zF (by simp;omega),zE (by omega)];exact r2
    have zf:Z[G1.length+1]? =some (.arr 4 1 ((Uq a).fin.map AV.bool)):=by rw[hZ,zE (by omega),zF (by simp;omega),zE (by omega)];exact f2
    have zk:∀i,i<H.length→Z[i]? =H[i]? :=fun i hi=>by rw[hZ,zE (by omega),zF (by simp;omega),zE (by omega)];exact q2 i hi
    have zl:E.length+2=Z.length:=by rw[hZ];simp
    clear hZ;refine Qz (sl':=[(2,.vptr (H.length+1) 0),(4,.vptr c 0)]) ?_ (by simp);refine Wg (E.length+1) z1 c z2 ?_;have zn:G1.length+1≠E.length+1:=by omega
    simp[zn,zu];rw[zR (by simp[zu])];refine Wb fun Y hY=> ?_;have y2:Y[c]? =some (.vars [.i a.types,.sl (G1.length+1) 1 0 (a.fin.length+1),.list ((Uq a).mv.map encMv)]):=by rw[hY,zO (by simp;omega)]
    have yr:Y[H.length+1]? =some (.vars [.i 0,.nils,.nils]):=by rw[hY,zE (by omega),zE (by omega)];exact zr
    have yf:Y[G1.length+1]? =some (.arr 4 1 ((Uq a).fin.map AV.bool)):=by rw[hY,zE (by omega),zE (by omega)];exact zf
    have yk:∀i,i<H.length→Y[i]? =H[i]? :=fun i hi=>by rw[hY,zE (by omega),zE (by omega)];exact zk i hi
    have yl:Y.length=Z.length:=by rw[hY];simp
    clear hY;repeat first|(refine r_ ?_;simp[y2])|refine q_ ?_
    rw[←y8];refine Q7 rfl rfl (G5 Y (G1.length+1) (Uq a) yf (by omega) (by omega)) rfl ?_;rintro r H' ⟨hr,zg⟩;have zo:=(zg (H.length+1) (by omega)).trans yr;have zv:∀X,(H'.set (H.length+1) X)[H.length+1]? =some X:=fun X=>Qi zo X;rcases hr with⟨hb,rfl⟩|⟨hb,rfl⟩
    ·have z8:Sd a=(5,U0):=by rw[ze,Xr,if_pos hb]
     simp[zo];repeat first|(refine r_ ?_;simp[zv])|refine q_ ?_
     refine⟨z8,fun i hi=> ?_⟩;rw[zE (by omega),zg i (by omega)];exact yk i hi
    ·have z8:Sd a=(0,Uq a):=by rw[ze,Xr,hb,if_neg (by simp)]
     have y9:(Uq a).types=a.types:=rfl;simp[zo];repeat first|(refine r_ ?_;simp[zv])|refine q_ ?_
     refine⟨⟨Uq a,z8,G1.length+1,⟨by rw[y9],⟨rfl,rfl⟩,rfl⟩,?_,by omega⟩,fun i hi=> ?_⟩
     ·rw[zE (by omega),zg _ (by omega)];exact yf
     ·rw[zE (by omega),zg i (by omega)];exact yk i hi
end Go.Abs
namespace Go.Abs
open Go Go.Proofs
attribute [local irreducible] Sd Wx
theorem F6(a:Aut):PC Tryz.prog 23 [encA a] (fun r=>r= .tup [encA (S6 a).2,.i (S6 a).1]):=by
 refine Qk tOk Tryz.func23 rfl Tryz.results23 rfl (by simp[Tryz.ntmps23]) ?_;rw[Tryz.ntmps23];simp only[Qg];simp only[encA];repeat first|(refine r_ ?_;simp)|refine q_ ?_
 refine Qe rfl rfl (by simp) (I9 a) rfl ?_;rintro _ rfl;simp;repeat first|(refine r_ ?_;simp)|refine q_ ?_
 refine Qa rfl (fun h=> ?_) (fun h=> ?_)
 ·have h':Wx a≠0:=by simpa using h
  have hc:S6 a=(Wx a,U0):=by rw[S6,if_pos h']
  rw[hc];repeat first|(refine r_ ?_;simp)|refine q_ ?_
  exact⟨rfl,rfl,rfl⟩
 ·have h':Wx a=0:=by simpa using h
  have hc:S6 a=Sd a:=by rw[S6,if_neg (by simp[h'])]
  rw[hc];repeat first|(refine r_ ?_;simp)|refine q_ ?_
  refine Q7 rfl rfl (Bg _ a ((A8 a).1 h')) rfl ?_;rintro r H' ⟨hr,hk⟩;have z6:=hk 1 (by simp);simp at z6;have z8:∀X,(H'.set 1 X)[1]? =some X:=fun X=>Qi z6 X;rcases hr with⟨e,he,zb,rfl⟩|⟨b,f,he,rfl,hf,za⟩
  ·rw[he];simp[z6];repeat first|(refine r_ ?_;simp[z8])|refine q_ ?_
   exact⟨rfl,rfl,rfl⟩
  ·rw[he];simp[z6];have z7:f≠1:=by simp at za;omega
   refine Qz (sl':=[(2,.vptr 1 0),(3,.i 0)]) ?_ (by simp);refine Wg f (Qd (Ne.symm z7) hf _) 1 (Qi z6 _) ?_;simp;rw[zR (by simp)];have zc:∀X,((H'.set f X).set 1 X)[1]? =some X:=fun X=>Qi (Qd z7 z6 _) X;refine Wb fun Z hZ=> ?_;have z1:Z[1]? =some (.vars [.i b.types,.list (b.fin.map AV.bool),.list (b.mv.map encMv)]):=by rw[hZ];exact zO (by have:=(zB.1 z6).1;simpa using this)
   repeat first|(refine r_ ?_;simp[z1])|refine q_ ?_
end Go.Abs
namespace Go.Abs
open Go Go.Proofs
def Ff(p:Nat)(xs:List Iv):AV:=if xs=[]then .nils else .sl p 2 0 xs.length
def c0z(L:Nat→Nat)(T:Nat)(p:Prd):List AV:=(yO T).map fun k=>Ff (L k) (p.getD k [])
def Xz(Q:Nat→Nat)(T n:Nat):List AV:=(yO n).map fun c=> .agg [.sl (Q c) 1 0 T]
theorem Ow(L:Nat→Nat)(T:Nat)(p:Prd):(c0z L T p).length=T:=by simp[c0z]
theorem Zd(Q:Nat→Nat)(T n:Nat):(Xz Q T n).length=n:=by simp[Xz]
theorem A2(L:Nat→Nat){T k:Nat}(p:Prd)(h:k<T):(c0z L T p)[k]? =some (Ff (L k) (p.getD k [])):=by simp[c0z,h]
theorem q0t(Q:Nat→Nat)(T:Nat){n c:Nat}(h:c<n):(Xz Q T n)[c]? =some (.agg [.sl (Q c) 1 0 T]):=by simp[Xz,h]
theorem Xf{p:Prd}{i:Nat}(h:i<p.length)(y:List Iv):(p.set i y).getD i []=y:=by simp[yX,h]
theorem getD_set_ne{p:Prd}{i k:Nat}(h:i≠k)(y:List Iv):(p.set i y).getD k []=p.getD k []:=by simp only[yX];rw[zE h]
structure Rows (K:List AObj) (T o:Nat) (st:List Prd) (Q:Nat→Nat) (L:Nat→Nat→Nat) (tag:Nat→Nat×Nat) (H:List AObj):Prop where
 out:H[o]? =some (.va 76 1 (Xz Q T st.length))
 row:∀c p,st[c]? =some p→H[Q c]? =some (.va 171 1 (c0z (L c) T p))
 leaf:∀c p k,st[c]? =some p→k<T→p.getD k []≠[]→H[L c k]? =some (.arr 187 2 ((p.getD k []).map encIv))
 tQ:∀c,c<st.length→tag (Q c)=(c+1,0)
 tL:∀c p k,st[c]? =some p→k<T→p.getD k []≠[]→tag (L c k)=(c+1,k+1)
 to:tag o=(0,0)
 geo:K.length≤o
 geQ:∀c,c<st.length→K.length≤Q c
 geL:∀c p k,st[c]? =some p→k<T→p.getD k []≠[]→K.length≤L c k
 keep:∀i,i<K.length→H[i]? =K[i]?
 len:K.length≤H.length
 tK:∀i,i<K.length→tag i=(0,0)
section
variable {K:List AObj} {T o:Nat} {st:List Prd} {Q:Nat→Nat} {L:Nat→Nat→Nat} {tag:Nat→Nat×Nat} {H H':List AObj}
theorem F4{α:Type}{l:List α}{i:Nat}{x:α}(h:l[i]? =some x):i<l.length:=(zB.1 h).1
theorem Qh{H:List AObj}{i:Nat}{x:AObj}(h:H[i]? =some x):i<H.length:=(zB.1 h).1
theorem Rows.other(h:Rows K T o st Q L tag H)(hk:∀j,j<H.length→tag j≠(0,1)→H'[j]? =H[j]?)(hl:H.length≤H'.length)(hK:K=[]:=by rfl):Rows K T o st Q L tag H':=by
 subst hK;exact⟨(hk _ (Qh h.out) (by rw[h.to];simp)).trans h.out,fun c p hc=>(hk _ (Qh (h.row c p hc)) (by rw[h.tQ c (F4 hc)];simp)).trans (h.row c p hc),fun c p k hc z1 hn=>(hk _ (Qh (h.leaf c p k hc z1 hn)) (by rw[h.tL c p k hc z1 hn];simp)).trans (h.leaf c p k hc z1 hn),
  h.tQ,h.tL,h.to,h.geo,h.geQ,h.geL,fun i hi=>by simp at hi,by simp,h.tK⟩
theorem q0e{l:List AV}{i:Nat}{x:AV}(h:l[i]? =some x):l.set i x=l:=by
 refine xZ fun j=> ?_;by_cases e:i=j
 ·subst e;rw[h,zO (F4 h)]
 ·rw[zE e]
theorem Rows.put (h:Rows K T o st Q L tag H) {c:Nat} {p:Prd} (hc:st[c]? =some p) (zi:p.length=T) {i:Nat} (hi:i<T) {x:Iv} {np:Nat} (zj:H.length≤np)
  (zf:H'[Q c]? =some (.va 171 1 ((c0z (L c) T p).set i (.sl np 2 0 ((p.getD i []).length+1)))))
  (z8:H'[np]? =some (.arr 187 2 ((p.getD i []++[x]).map encIv)))
  (hk:∀j,j<H.length→j≠Q c→tag j≠(c+1,i+1)→H'[j]? =H[j]?):
  Rows K T o (st.set c (Uz p i x)) Q (fun c' k'=>if c'=c∧k'=i then np else L c' k') (fun j=>if j=np then(c+1,i+1)else tag j) H':=by
 have zd:=(zB.1 hc).1;have ze:∀c' p',(st.set c (Uz p i x))[c']? =some p'→(c'=c∧p'=Uz p i x)∨(c'≠c∧st[c']? =some p'):=fun c' p' e=>by
  by_cases zg:c'=c
  ·subst zg;rw[zO zd]at e;exact .inl ⟨rfl,(Option.some.inj e).symm⟩
  ·rw[zE (fun e=>zg e.symm)]at e;exact .inr ⟨zg,e⟩
 have za:(Uz p i x).getD i []=p.getD i []++[x]:=Xf (by omega) _;have z6:∀k,k≠i→(Uz p i x).getD k []=p.getD k []:=fun k hk=>getD_set_ne (fun e=>hk e.symm) _;have zh:o≠Q c:=fun e=>by have h1:=h.to;have h2:=h.tQ c zd;rw[e,h2]at h1;simp at h1
 have lo:=Qh h.out;have lQ:∀c',c'<st.length→Q c'<H.length:=fun c' zb=>Qh (h.row c' _ (zK zb));have geQ:=h.geQ;refine⟨?_,fun c' p' e=> ?_,fun c' p' k e z1 hn=> ?_,fun c' zb=> ?_,fun c' p' k e z1 hn=> ?_,?_,h.geo,fun c' zb=> ?_,fun c' p' k e z1 hn=> ?_,fun j hj=> ?_,?_,fun j hj=> ?_⟩
 ·rw[wV,hk o lo zh (by rw[h.to];simp)];exact h.out
 ·rcases ze c' p' e with⟨rfl,rfl⟩|⟨zc,e'⟩
  ·rw[zf]
   congr 2
   refine xZ fun k=> ?_;by_cases hkT:k<T
   ·rw[A2 _ _ hkT];by_cases hki:k=i
    ·subst hki;rw[zO (by rw[Ow];exact hkT),za];simp[Ff]
    ·rw[zE (fun e=>hki e.symm),A2 _ _ hkT,z6 k hki];simp[hki]
   ·rw[xL (by rw[wV,Ow];omega),xL (by rw[Ow];omega)]
  ·have z7:=(zB.1 e').1;rw[hk _ (lQ c' z7) (fun e=>by have h1:=h.tQ c zd;have h2:=h.tQ c' z7;rw[e,h1]at h2;simp at h2;omega) (by rw[h.tQ c' z7];simp),h.row c' p' e'];simp[zc]
 ·rcases ze c' p' e with⟨rfl,rfl⟩|⟨zc,e'⟩
  ·by_cases hki:k=i
   ·subst hki;rw[za,if_pos ⟨rfl,rfl⟩];exact z8
   ·rw[z6 k hki]at hn ⊢;rw[if_neg (fun a=>hki a.2),hk _ (Qh (h.leaf _ _ k hc z1 hn)) (fun e=>by have h1:=h.tQ c' zd;have h2:=h.tL c' p k hc z1 hn;rw[e,h1]at h2;simp at h2) (by rw[h.tL c' p k hc z1 hn];simp;omega)];exact h.leaf _ _ k hc z1 hn
  ·have z7:=(zB.1 e').1;rw[if_neg (fun a=>zc a.1),hk _ (Qh (h.leaf _ _ k e' z1 hn)) (fun e=>by have h1:=h.tQ c zd;have h2:=h.tL c' p' k e' z1 hn;rw[e,h1]at h2;simp at h2) (by rw[h.tL c' p' k e' z1 hn];simp;omega)];exact h.leaf _ _ k e' z1 hn
 ·rw[wV]at zb;have:=lQ c' zb;rw[if_neg (by omega)];exact h.tQ c' zb
 ·rcases ze c' p' e with⟨rfl,rfl⟩|⟨zc,e'⟩
  ·by_cases hki:k=i
   ·subst hki;simp only[and_self,if_true]
   ·rw[z6 k hki]at hn;have:=Qh (h.leaf _ _ k hc z1 hn);simp only[hki,and_false,if_false];rw[if_neg (by omega)];exact h.tL _ _ k hc z1 hn
  ·have:=Qh (h.leaf _ _ k e' z1 hn);simp only[zc,false_and,if_false];rw[if_neg (by omega)];exact h.tL _ _ k e' z1 hn
 ·rw[if_neg (by omega)];exact h.to
 ·rw[wV]at zb;exact h.geQ c' zb
 ·rcases ze c' p' e with⟨rfl,rfl⟩|⟨zc,e'⟩
  ·by_cases hki:k=i
   ·subst hki;have:=h.len;rw[if_pos ⟨rfl,rfl⟩];omega
   ·rw[z6 k hki]at hn;rw[if_neg (fun a=>hki a.2)];exact h.geL _ _ k hc z1 hn
  ·rw[if_neg (fun a=>zc a.1)];exact h.geL _ _ k e' z1 hn
 ·have h1:=h.len;have h2:=geQ c zd;rw[hk j (by omega) (by omega) (by rw[h.tK j hj];simp)];exact h.keep j hj
 ·have:=Qh z8;have:=h.len;omega
 ·have:=h.len;rw[if_neg (by omega)];exact h.tK j hj
theorem Rows.new (h:Rows K T o st Q L tag H) {q o':Nat} (hq:H.length≤q) (ho:H.length≤o') (zd:q≠o')
  (zc:H'[q]? =some (.va 171 1 (yL T .nils))) (za:H'[o']? =some (.va 76 1 (Xz Q T st.length++[.agg [.sl q 1 0 T]])))
  (hk:∀j,j<H.length→j≠o→H'[j]? =H[j]?):
  Rows K T o' (st++[yL T []]) (fun c=>if c=st.length then q else Q c) L (fun j=>if j=q then(st.length+1,0)else if j=o' then(0,0)else tag j) H':=by
 have zb:∀c' p',(st++[yL T []])[c']? =some p'→(c'=st.length∧p'=yL T [])∨(c'<st.length∧st[c']? =some p'):=fun c' p' e=>by
  by_cases z1:c'<st.length
  ·rw[zF z1]at e;exact .inr ⟨z1,e⟩
  ·rw[zH (by omega)]at e;have h0:c' - st.length=0:=by have:=(zB.1 e).1;simpa using this
   rw[h0]at e;exact .inl ⟨by omega,(Option.some.inj e).symm⟩
 have z6:∀k,(yL T ([]:List Iv)).getD k []=[]:=fun k=>by by_cases hk:k<T<;>simp[yX,hk]
 have lQ:∀c',c'<st.length→Q c'<H.length:=fun c' z7=>Qh (h.row c' _ (zK z7));have lo:=Qh h.out;have hlen:=h.len;have ze:∀c',c'<st.length→Q c'≠o:=fun c' z7 e=>by have h1:=h.to;have h2:=h.tQ c' z7;rw[←e,h2]at h1;simp at h1
 refine⟨?_,fun c' p' e=> ?_,fun c' p' k e z8 hn=> ?_,fun c' z7=> ?_,fun c' p' k e z8 hn=> ?_,?_,by omega,fun c' z7=> ?_,fun c' p' k e z8 hn=> ?_,fun j hj=> ?_,by have:=Qh za;omega,fun j hj=> ?_⟩
 ·rw[za]
  congr 2
  rw[zZ,vS,Xz,Xz,wH,yP]
  congr 1
  ·exact xX fun c hc=>by rw[if_neg (by have:=y_.1 hc;omega)]
  ·simp
 ·rcases zb c' p' e with⟨rfl,rfl⟩|⟨hc,e'⟩
  ·rw[if_pos rfl,zc]
   congr 2
   refine xZ fun k=> ?_;by_cases hkT:k<T
   ·rw[A2 _ _ hkT,z6];simp[Ff,hkT]
   ·rw[xL (by simp;omega),xL (by rw[Ow];omega)]
  ·rw[if_neg (by omega),hk _ (lQ c' hc) (ze c' hc)];exact h.row _ _ e'
 ·rcases zb c' p' e with⟨rfl,rfl⟩|⟨hc,e'⟩
  ·exact absurd (z6 k) hn
  ·have hl:=h.leaf _ _ k e' z8 hn;rw[hk _ (Qh hl) (fun e=>by have h1:=h.to;have h2:=h.tL _ _ k e' z8 hn;rw[e,h1]at h2;simp at h2)];exact hl
 ·rw[zZ,vS]at z7;by_cases z1:c'=st.length
  ·rw[if_pos z1,if_pos rfl,z1]
  ·have:=lQ c' (by omega);rw[if_neg z1,if_neg (by omega),if_neg (by omega)];exact h.tQ c' (by omega)
 ·rcases zb c' p' e with⟨rfl,rfl⟩|⟨hc,e'⟩
  ·exact absurd (z6 k) hn
  ·have:=Qh (h.leaf _ _ k e' z8 hn);rw[if_neg (by omega),if_neg (by omega)];exact h.tL _ _ k e' z8 hn
 ·rw[if_neg (fun e=>zd e.symm),if_pos rfl]
 ·rw[zZ,vS]at z7;by_cases z1:c'=st.length
  ·rw[if_pos z1];omega
  ·rw[if_neg z1];exact h.geQ c' (by omega)
 ·rcases zb c' p' e with⟨rfl,rfl⟩|⟨hc,e'⟩
  ·exact absurd (z6 k) hn
  ·exact h.geL _ _ k e' z8 hn
 ·have zf:=h.geo;rw[hk j (by omega) (by omega)];exact h.keep j hj
 ·rw[if_neg (by omega),if_neg (by omega)];exact h.tK j hj
theorem Rows.start0(T o:Nat)(H:List AObj)(ho:H[o]? =some (.va 76 1 []))(tag:Nat→Nat×Nat)(ht:tag o=(0,0)):Rows [] T o [] (fun _=>0) (fun _ _=>0) tag H:=by refine⟨by simpa[Xz]using ho,fun c p hc=>by simp at hc,fun c p k hc=>by simp at hc,fun c hc=>by simp at hc,fun c p k hc=>by simp at hc,ht,by simp,fun c hc=>by simp at hc,fun c p k hc=>by simp at hc,fun i hi=>by simp at hi,by simp,fun i hi=>by simp at hi⟩
end
end Go.Abs
namespace Go.Abs
open Go Go.Proofs
def ascS(s:List Iv):Prop:=(∀x∈s,x.lo≤x.hi)∧s.Pairwise (fun x y=>x.hi<y.lo)
theorem ascS.take{s:List Iv}(h:ascS s)(k:Nat):ascS (s.take k):=⟨fun x hx=>h.1 x (xS hx),h.2.take⟩
theorem N8{s ini:List Iv}{y x:Iv}{m:Nat}(h:ascS s)(hm:m<s.length)(hx:s[m]=x)(e:Qx [] (s.take m)=ini++[y]):y.hi<x.lo:=by
 have h1:=O1 (h.take m);have hy:y∈Qx [] (s.take m):=by rw[e];simp
 have z7:y.lo≤y.hi:=h1.1.1 y hy;obtain⟨z,hz,z1,z2⟩:=(h1.2 y.hi).1 ⟨y,hy,z7,xN _⟩;obtain⟨i,hi,z6⟩:=xH hz;rw[wn]at hi;rw[List.getElem_take]at z6;have:=yU.1 h.2 i m (by omega) hm (by omega);rw[z6,hx]at this;omega
theorem g1i{ini:List Iv}{y x:Iv}(h1:y.hi<x.lo)(h2:x.lo≤x.hi):W4 (ini++[y]) x=if y.hi+1=x.lo then ini++[⟨y.lo,x.hi⟩]else ini++[y]++[x]:=by
 rw[W7];by_cases e:y.hi+1=x.lo
 ·rw[if_pos e,if_pos (by omega),if_pos (by omega)]
 ·rw[if_neg e,if_neg (by omega)]
theorem q27{L:List Prd}{p:Prd}{s:List Iv}(hp:p∈L)(hs:s∈p)(h:256<s.length):S3 L=true:=by simp only[S3,vW,vz];exact .inr ⟨p,hp,s,hs,by simpa using h⟩
theorem f1p{L:List Prd}(hl:L.length≤256)(h:∀p∈L,∀s∈p,s.length≤256):S3 L=false:=by
 rw[Bool.eq_false_iff];intro hb;simp only[S3,vW,vz,decide_eq_true_eq]at hb;rcases hb with hb|⟨p,hp,s,hs,hb⟩
 ·omega
 ·have:=h p hp s hs;omega
def By(L:Nat→Nat)(T:Nat)(p:Prd)(k:Nat):List AV:=(yO T).map fun i=>if i<k then encL (Qx [] (p.getD i []))else Ff (L i) (p.getD i [])
theorem w1k(L:Nat→Nat)(T:Nat)(p:Prd)(k:Nat):(By L T p k).length=T:=by simp[By]
theorem f0r(L:Nat→Nat)(T:Nat)(p:Prd):By L T p 0=c0z L T p:=xX fun i _=>by simp
theorem v1q(L:Nat→Nat){T k:Nat}(p:Prd)(h:k<T):(By L T p k)[k]? =some (Ff (L k) (p.getD k [])):=by simp[By,h]
theorem v1i(L:Nat→Nat){T k:Nat}(p:Prd)(h:k<T):(By L T p k).set k (encL (Qx [] (p.getD k [])))=By L T p (k+1):=by
 refine wQ (by simp[By]) fun j h1 h2=> ?_;have hj:j<T:=by simpa[By]using h2
 rw[tD];by_cases e:k=j
 ·subst e;simp[By]
 ·rw[if_neg e];simp only[By,ux,un];by_cases h3:j<k
  ·rw[if_pos h3,if_pos (by omega)]
  ·rw[if_neg h3,if_neg (by omega)]
theorem B7{p:Prd}{T:Nat}(h:p.length=T)(f:List Iv→AV):(yO T).map (fun i=>f (p.getD i []))=p.map f:=by
 subst h;refine wQ (by simp) fun j h1 h2=> ?_;have hj:j<p.length:=by simpa using h1
 simp[hj]
theorem q1x(L:Nat→Nat){T:Nat}{p:Prd}(h:p.length=T):By L T p T=(Rw p).map encL:=by
 have:By L T p T=(yO T).map (fun i=>(fun s=>encL (Qx [] s)) (p.getD i [])):=xX fun i hi=>by rw[if_pos (y_.1 hi)]
 rw[this,B7 h (fun s=>encL (Qx [] s)),Rw,vF];rfl
theorem j0x(l:List (List Iv)):(l.map encL).all (fun x=>x.cells.all AV.pure)=true:=by rw[zX];intro x hx;obtain⟨s,_,rfl⟩:=zT.1 hx;simp[AV.cells,AV.pure]
def C3(Q:Nat→Nat)(T:Nat)(st:List Prd)(c:Nat):List AV:=(yO st.length).map fun j=>if j<c then encP (Rw (st.getD j []))else .agg [.sl (Q j) 1 0 T]
theorem v1b(Q:Nat→Nat)(T:Nat)(st:List Prd)(c:Nat):(C3 Q T st c).length=st.length:=by simp[C3]
theorem c06(Q:Nat→Nat)(T:Nat)(st:List Prd):C3 Q T st 0=Xz Q T st.length:=xX fun i _=>by simp
theorem x11(Q:Nat→Nat)(T:Nat){st:List Prd}{c:Nat}(h:c<st.length):(C3 Q T st c)[c]? =some (.agg [.sl (Q c) 1 0 T]):=by simp[C3,h]
theorem g1r{Q:Nat→Nat}{T:Nat}{st:List Prd}{c:Nat}(h:c<st.length)(z6:∀j,j<st.length→j≠c→Q j≠Q c)(hT:st[c].length=T):
  (C3 Q T st c).map (AV.fz (Q c) 1 ((Rw st[c]).map encL))=C3 Q T st (c+1):=by
 refine wQ (by simp[C3]) fun j h1 h2=> ?_;have hj:j<st.length:=by simpa[C3]using h2
 have z1:(Rw st[c]).length=T:=by simp[Rw,hT]
 simp only[C3,ux,un];by_cases h3:j<c
 ·rw[if_pos h3,if_pos (by omega)];simp[J6,q1p]
 ·rw[if_neg h3];by_cases e:j=c
  ·subst e;rw[if_pos (by omega),J6];have:st.getD j []=st[j]:=by simp[yX,hj]
   rw[this];simp only[yZ,wG,AV.fz,encP];rw[if_pos (by simp[z1]),List.drop_zero,zR (by simp[z1])]
  ·rw[if_neg (by omega),J6];simp only[yZ,wG,AV.fz];rw[if_neg (fun a=>z6 j hj e a.1)]
theorem x1h(Q:Nat→Nat)(T:Nat)(st:List Prd):C3 Q T st st.length=(st.map Rw).map encP:=by
 refine wQ (by simp[C3]) fun j h1 h2=> ?_;have hj:j<st.length:=by simpa[C3]using h1
 simp[C3,hj]
theorem j0n(l:List Prd):(l.map encP).all (fun x=>x.cells.all AV.pure)=true:=by rw[zX];intro x hx;obtain⟨s,_,rfl⟩:=zT.1 hx;simp[AV.cells,AV.pure]
theorem j1v{l:List AV}{i:Nat}{x:AV}(h:l[i]? =some x):i<l.length:=(zB.1 h).1
theorem Nk{P:Program}[Env P]{nt k:Nat}{cd:Code}{Q:Exit→AS→Prop}{sl:List (Nat×AV)}{H:List AObj}(F:List AObj→Prop)(h1:(∀H1,F H1→AWP P nt k cd Q ⟨sl,H1⟩)→AWP P nt k cd Q ⟨sl,H⟩)(h2:∀H1,F H1→AWP P nt k cd Q ⟨sl,H1⟩):AWP P nt k cd Q ⟨sl,H⟩:=h1 h2
attribute [local irreducible] W4 Qx Ej c0z By Xz C3
theorem g1y(T o:Nat)(st:List Prd)(Q:Nat→Nat)(L:Nat→Nat→Nat)(tag:Nat→Nat×Nat)(H:List AObj)(h:Rows [] T o st Q L tag H)(hT:T≤16)(hw:∀p∈st,p.length=T∧∀s∈p,ascS s∧s.length≤10000000∧∀x∈s,Ia x):
  FC Tryz.prog 170 [.sl o 1 0 st.length] H (fun r _=>(r= .tup [.nils,.i 5]∧S3 (st.map Rw)=true)∨(r= .tup [LP (st.map Rw),.i 0]∧S3 (st.map Rw)=false)):=by
 refine W6 tOk Tryz.func170 rfl Tryz.results170 rfl (by simp[Tryz.ntmps170]) ?_;rw[Tryz.ntmps170];simp only[Qg];repeat first|(refine r_ ?_;simp)|refine q_ ?_
 refine Qa rfl (fun zc=> ?_) (fun yb=> ?_)
 ·have hb:256<st.length:=by simp at zc;omega
  repeat first|(refine r_ ?_;simp)|refine q_ ?_
  simp[S3];omega
 have hn:st.length≤256:=by simp at yb;omega
 repeat first|(refine r_ ?_;simp)|refine q_ ?_
 have yq:=Qh h.out;have tagne:∀c c',c<st.length→c'<st.length→c≠c'→Q c≠Q c':=fun c c' h1 h2 za e=>by have a:=h.tQ c h1;have b:=h.tQ c' h2;rw[e,b]at a;simp at a;omega
 have y3:∀c,c<st.length→Q c≠o:=fun c hc e=>by have h1:=h.to;have h2:=h.tQ c hc;rw[←e,h2]at h1;simp at h1
 refine Qo (Qc (sl':=[(0,.sl o 1 0 st.length),(15,.sl o 1 0 st.length),(16,.i st.length),(17,.i (0:Nat))]) ?_ (by simp));refine Qn (F:=fun(u:Nat×List AObj)=>⟨[(0,.sl o 1 0 st.length),(15,.sl o 1 0 st.length),(16,.i st.length),(17,.i u.1)],u.2⟩)
  (fun u=>u.1≤st.length∧H.length≤u.2.length∧u.2[o]? =some (.va 76 1 (C3 Q T st u.1))∧(∀j,j<H.length→j≠o→(∀c,c<u.1→j≠Q c)→u.2[j]? =H[j]?)∧∀p∈(st.map Rw).take u.1,∀s∈p,s.length≤256) (fun u=>st.length - u.1) ?_ (0,H) ⟨by simp,by simp,by rw[c06];exact h.out,fun _ _ _ _=>rfl,by simp⟩
 rintro⟨c,G⟩ ⟨hc,hG,go,gk,gs⟩ ih;simp only at hc hG go gk gs ih ⊢;repeat first|(refine r_ ?_;simp)|refine q_ ?_
 refine Qa rfl (fun yc=> ?_) (fun yd=> ?_)
 ·have z1:c<st.length:=by simpa using yc
  have ye:IntKind.i64.wrap ((c:Int)+1)=c+1:=wrap_i64 _ (by omega) (by omega);have zn:=x11 Q T z1;have yf:=v1b Q T st c;have hp:=hw _ (zL z1);have yg:=g1r z1 (fun j hj za=>tagne j c hj z1 za) hp.1;have yh:=(gk (Q c) (Qh (h.row c _ (zK z1))) (y3 c z1) (fun c' zj=>tagne c c' z1 (by omega) (by omega))).trans (h.row c _ (zK z1));have hle:∀k,k<T→st[c].getD k []≠[]→G[L c k]? =some (.arr 187 2 ((st[c].getD k []).map encIv))∧L c k≠Q c∧L c k≠o∧L c k<H.length:=fun k hk za=>by
   have hl:=h.leaf c _ k (zK z1) hk za;have ht:=h.tL c _ k (zK z1) hk za;have h1:L c k≠o:=fun e=>by have:=h.to;rw[←e,ht]at this;simp at this
   have h2:∀c',c'<st.length→L c k≠Q c':=fun c' zj e=>by have:=h.tQ c' zj;rw[←e,ht]at this;simp at this
   exact⟨(gk _ (Qh hl) h1 (fun c' zj=>h2 c' (by omega))).trans hl,h2 c z1,h1,Qh hl⟩
  have yr:=Qh (h.row c _ (zK z1));have zk:=y3 c z1;have yi:(st.map Rw).take (c+1)=(st.map Rw).take c++[Rw st[c]]:=by rw[zU (by simpa using z1)];simp
  have yj:Rw st[c]∈st.map Rw:=zT.2 ⟨_,zL z1,rfl⟩;generalize yt:st[c]=p at *;generalize C3 Q T st c=od at *
  have zo:∀hh,od[c]'hh= .agg [.sl (Q c) 1 0 T]:=fun hh=>by rw[zK hh]at zn;exact Option.some.inj zn
  repeat first|(refine r_ ?_;simp[go,zn,zo,yf,z1])|refine q_ ?_
  have yu:0<G.length:=by omega
  refine Qo (Qc (sl':=[(0,.sl o 1 0 st.length),(5,.vptr G.length 0),(15,.sl o 1 0 st.length),(16,.i st.length),(17,.i c),(22,.sl (Q c) 1 0 T),(23,.i T),(24,.i (0:Nat))]) ?_ (by simp));refine Qn (F:=fun(u:Nat×List AObj)=>⟨[(0,.sl o 1 0 st.length),(5,.vptr G.length 0),(15,.sl o 1 0 st.length),(16,.i st.length),(17,.i c),(22,.sl (Q c) 1 0 T),(23,.i T),(24,.i u.1)],u.2⟩)
   (fun u=>u.1≤T∧G.length+1≤u.2.length∧u.2[Q c]? =some (.va 171 1 (By (L c) T p u.1))∧(∀j,j<G.length→j≠Q c→u.2[j]? =G[j]?)∧u.2[G.length]? =some (.vars [.sl (Q c) 1 0 T])∧∀s∈(Rw p).take u.1,s.length≤256) (fun u=>T - u.1) ?_ (0,_) ⟨by simp,by simp,by rw[f0r];exact Qb yh _,fun j hj _=>zF hj,by simp,by simp⟩
  rintro⟨k,E⟩ ⟨hk,hE,eq,ek,e5,es⟩ ih2;simp only at hk hE eq ek e5 es ih2 ⊢;repeat first|(refine r_ ?_;simp)|refine q_ ?_
  refine Qa rfl (fun zp=> ?_) (fun zq=> ?_)
  ·have z6:k<T:=by simpa using zp
   have yk:IntKind.i64.wrap ((k:Int)+1)=k+1:=wrap_i64 _ (by omega) (by omega);have zd:=v1q (L c) p z6;have y4:=w1k (L c) T p k;have zr:=v1i (L c) p z6;have zl:k<p.length:=by rw[hp.1];exact z6
   have y5:p.getD k []=p[k]:=Wu zl;have y6:(Rw p).take (k+1)=(Rw p).take k++[Qx [] p[k]]:=by rw[zU (by simpa[Rw]using zl)];simp[Rw]
   have yl:Qx [] p[k]∈Rw p:=zT.2 ⟨_,zL zl,rfl⟩;have ze:=hp.2 _ (zL zl);have y7:=hle k z6;have zf:=fun E'=>ih2 (k+1,E');rw[y5]at zd y7 zr;simp only[←zr,y6]at zf;clear zr y6 y5;generalize By (L c) T p k=rd at *;generalize p[k]=s at *
   have yv:E[Q c]? =some (.va 171 1 rd):=eq;refine Nk (fun E1=>∃z,E1[Q c]? =some (.va 171 1 (rd.set k (.sl z 2 0 s.length)))∧E1[z]? =some (.arr 187 2 (s.map encIv))∧(∀j,j<G.length+1→j≠Q c→E1[j]? =E[j]?)∧E.length≤E1.length∧z≠Q c) (fun hm=> ?_) ?_
   ·by_cases hs0:s=[]
    ·subst hs0;simp only[Ff,if_true]at zd;refine Ad (Q c) k 187 2 eq zd ?_;have hl:=Qh eq;refine hm _ ⟨E.length,Qi (Qb eq _) _,?_,fun j hj za=> ?_,by simp,by omega⟩
     ·rw[zE (by omega)];simp
     ·rw[zE (Ne.symm za),zF (by omega)]
    ·simp only[Ff,if_neg hs0]at zd;obtain⟨k1,k2,k3,k4⟩:=y7 hs0;have zt:rd.set k (.sl (L c k) 2 0 s.length)=rd:=by
      refine xZ fun j=> ?_;by_cases e:k=j
      ·subst e;rw[zd,zO (j1v zd)]
      ·rw[zE e]
     refine hm E ⟨L c k,by rw[zt];exact eq,?_,fun _ _ _=>rfl,zP _,k2⟩;rw[ek _ (by omega) k2];exact k1
   ·rintro E1 ⟨z,f1,f2,f3,f4,f5⟩;have ym:∀hh,(rd.set k (.sl z 2 0 s.length))[k]'hh= .sl z 2 0 s.length:=fun hh=>by simp
    have f6:=f3 G.length (by omega) (by omega);rw[e5]at f6;have yw:=ze.2.1;repeat first|(refine r_ ?_;simp[f1,ym,y4,z6])|refine q_ ?_
    refine Q8 8 187 2 rfl ?_;simp;have yn:=SL.start E1 187 2;refine Qo (Qc (sl':=[(0,.sl o 1 0 st.length),(5,.vptr G.length 0),(6,.i k),(8,.sl E1.length 2 0 (Qx [] (s.take 0)).length),(15,.sl o 1 0 st.length),(16,.i st.length),(17,.i c),(22,.sl (Q c) 1 0 T),(23,.i T),(24,.i k),(29,.sl z 2 0 s.length),(30,.i s.length),(31,.i (0:Nat))]) ?_ (by simp[Qx]));refine Qn (F:=fun(u:Nat×Nat×List AObj)=>⟨[(0,.sl o 1 0 st.length),(5,.vptr G.length 0),(6,.i k),(8,.sl u.2.1 2 0 (Qx [] (s.take u.1)).length),(15,.sl o 1 0 st.length),(16,.i st.length),(17,.i c),(22,.sl (Q c) 1 0 T),(23,.i T),(24,.i k),(29,.sl z 2 0 s.length),(30,.i s.length),(31,.i u.1)],u.2.2⟩)
     (fun u=>u.1≤s.length∧SL E1 u.2.2 u.2.1 187 2 ((Qx [] (s.take u.1)).map encIv)) (fun u=>s.length - u.1) ?_ (0,E1.length,_) ⟨by simp,by rw[wJ,Qx,uK];exact yn⟩
    rintro⟨j,p2,W⟩ ⟨hj,g⟩ ih3;simp only at hj g ih3 ⊢;repeat first|(refine r_ ?_;simp)|refine q_ ?_
    refine Qa rfl (fun zu=> ?_) (fun zv=> ?_)
    ·have z7:j<s.length:=by simpa using zu
     have zw:IntKind.i64.wrap ((j:Int)+1)=j+1:=wrap_i64 _ (by omega) (by omega);have y8:Qx [] (s.take (j+1))=W4 (Qx [] (s.take j)) s[j]:=by rw[zU z7,Uv]
     have zx:(Qx [] (s.take j)).length≤j:=yH (Rq _ _) (by simp;omega);have zy:∀y∈Qx [] (s.take j),Ia y:=I7 _ _ (by simp) (fun y hy=>ze.2.2 y (xS hy));have zb:=fun ini y=>N8 (ini:=ini) (y:=y) (x:=s[j]) ze.1 z7 rfl;have yo:=ze.1.1 _ (zL z7);have yx:=(W8 _).1 (ze.2.2 _ (zL z7)).2;have gz:=(g.keep z (Qh f2)).trans f2;have z8:=fun p' G'=>ih3 (j+1,p',G');simp only[y8]at z8;clear y8;generalize Qx [] (s.take j)=acc at *
     repeat first|(refine r_ ?_;simp[gz,z7])|refine q_ ?_
     generalize s[j]=x at *
     rcases wM acc with rfl|⟨ini,y,rfl⟩
     ·refine Qm tOk mixed [] (.val 0 (.val 1 (.val 2 (.val 3 (.val 4 (.val 5 (.val 6 (.val 7 (.val 8 (.val 9 (.val 10 (.val 11 (.val 12 (.val 13 (.done))))))))))))))) rfl (by kernel_rfl) ?_;simp[(by decide:IntKind.i64.wrap (-1)= -1)];refine Ql rfl ?_;simp;repeat first|(refine r_ ?_;simp)|refine q_ ?_
      refine Qf tOk rfl rfl Ig rfl Sz rfl (by decide) (by decide) rfl rfl rfl ?_;simp[Qb g.arr,Qj g.arr];refine⟨by simp[Wi,Qb g.arr,Qj g.arr]<;>omega,?_⟩;repeat first|(refine r_ ?_;simp[zw])|refine q_ ?_
      refine Qc (sl':=[(0,.sl o 1 0 st.length),(5,.vptr G.length 0),(6,.i k),(8,.sl (W.length+2) 2 0 1),(15,.sl o 1 0 st.length),(16,.i st.length),(17,.i c),(22,.sl (Q c) 1 0 T),(23,.i T),(24,.i k),(29,.sl z 2 0 s.length),(30,.i s.length),(31,.i (j+1:Nat))]) ?_ (by simp);have:=z8 (W.length+2) _ ⟨by omega,by rw[W4];exact g.put [AObj.vars [AV.i x.lo,AV.i x.hi],AObj.arr 187 2 [encIv x]] _ rfl⟩ (by omega);rw[W4]at this;simpa using this
     ·have yy:=(W8 _).1 (zy y (by simp)).2;have y9:IntKind.i64.wrap (y.hi+1)=y.hi+1:=wrap_i64 _ (by omega) (by omega);have gA:=g.arr;rw[wN]at g gA z8 zx zb ⊢;have hlen:(ini++[y]).length=ini.length+1:=by simp
      rw[hlen]at zx ⊢;have ya:IntKind.i64.wrap (ini.length:Int)=ini.length:=wrap_i64 _ (by omega) (by omega);have hg:((ini++[y]).map encIv)[ini.length]? =some (encIv y):=by simp
      have zg:(ini.length:Int)<ini.length+1:=by omega
      have zm:=g1i (ini:=ini) (zb ini y rfl) yo;refine Qm tOk mixed [] (.val 0 (.val 1 (.val 2 (.val 3 (.val 4 (.val 5 (.val 6 (.val 7 (.val 8 (.val 9 (.val 10 (.val 11 (.val 12 (.val 13 (.done))))))))))))))) rfl (by kernel_rfl) ?_;simp[Qb gA,ya,hg,y9,zg];refine Qa rfl (fun h1=> ?_) (fun h1=> ?_)
      ·repeat first|(refine r_ ?_;simp[Qb gA,ya,hg,y9,zg,Qj gA,zw])|refine q_ ?_
       have zz:y.hi+1=x.lo:=by simpa using h1
       rw[if_pos zz]at zm;rw[zm]at z8;refine Qc (sl':=[(0,.sl o 1 0 st.length),(5,.vptr G.length 0),(6,.i k),(8,.sl p2 2 0 (ini.length+1)),(15,.sl o 1 0 st.length),(16,.i st.length),(17,.i c),(22,.sl (Q c) 1 0 T),(23,.i T),(24,.i k),(29,.sl z 2 0 s.length),(30,.i s.length),(31,.i (j+1:Nat))]) ?_ (by simp);have:=z8 p2 _ ⟨by omega,g.upd [AObj.vars [AV.i x.lo,AV.i x.hi]] _⟩ (by omega);simpa using this
      ·repeat first|(refine r_ ?_;simp)|refine q_ ?_
       refine Qf tOk rfl rfl Ig rfl Sz rfl (by decide) (by decide) rfl rfl rfl ?_;simp[Qb gA,Qj gA];refine⟨by simp[Wi,Qb gA,Qj gA]<;>omega,?_⟩;repeat first|(refine r_ ?_;simp[zw])|refine q_ ?_
       have zz:¬y.hi+1=x.lo:=by simpa using h1
       rw[if_neg zz]at zm;rw[zm]at z8;refine Qc (sl':=[(0,.sl o 1 0 st.length),(5,.vptr G.length 0),(6,.i k),(8,.sl (W.length+2) 2 0 (ini.length+2)),(15,.sl o 1 0 st.length),(16,.i st.length),(17,.i c),(22,.sl (Q c) 1 0 T),(23,.i T),(24,.i k),(29,.sl z 2 0 s.length),(30,.i s.length),(31,.i (j+1:Nat))]) ?_ (by simp);have:=z8 (W.length+2) _ ⟨by omega,g.put [AObj.vars [AV.i x.lo,AV.i x.hi],AObj.arr 187 2 [encIv x]] _ rfl⟩ (by omega);simpa using this
    ·have zh:j=s.length:=by simp at zv;omega
     subst zh;rw[yW]at g ⊢;have zx:(Qx [] s).length≤s.length:=yH (Rq _ _) (by simp);repeat first|(refine r_ ?_;simp)|refine q_ ?_
     refine Wp p2 g.arr ?_;simp;rw[zR (by simp)];have yz:=(Qh g.arr)
     have x0:=g.ge;have w1:∀j,j<E1.length→(W.set p2 .dead)[j]? =E1[j]? :=fun j hj=>by rw[zE (by omega)];exact g.keep j hj
     have w2:(W.set p2 .dead).length=W.length:=by simp
     generalize W.set p2 .dead=V at *;refine Qa rfl (fun zc=> ?_) (fun y0=> ?_)
     ·repeat first|(refine r_ ?_;simp)|refine q_ ?_
      exact q27 yj yl (by simp at zc;omega)
     ·have v1:=(w1 _ (Qh f1)).trans f1;have v2:=(w1 _ (Qh f6)).trans f6;have v0:∀j,j<G.length+1→j≠Q c→V[j]? =E[j]? :=fun j hj za=>(w1 j (by omega)).trans (f3 j hj za);repeat first|(refine r_ ?_;simp[v1,v2,y4,z6,yk])|refine q_ ?_
      refine Qc (sl':=[(0,.sl o 1 0 st.length),(5,.vptr G.length 0),(15,.sl o 1 0 st.length),(16,.i st.length),(17,.i c),(22,.sl (Q c) 1 0 T),(23,.i T),(24,.i (k+1:Nat))]) ?_ (by simp);refine zf _ ⟨by omega,by simp;omega,Qi v1 _,fun j hj za=> ?_,?_,fun t ht=> ?_⟩ (by omega)
      ·rw[zE (Ne.symm za),v0 j (by omega) za];exact ek j hj za
      ·rw[zE (by omega)];exact v2
      ·rcases zW.1 ht with ht|ht
       ·exact es t ht
       ·rw[zQ.1 ht];simp at y0;omega
  ·have zi:k=T:=by simp at zq;omega
   subst zi;rw[q1x (L c) hp.1]at eq;have x1:(Rw p).length=k:=by simp[Rw,hp.1]
   have eo:=(ek o (Qh go) (Ne.symm zk)).trans go;refine Oh (Q c) eq (j0x _) ?_;refine U4 (Q c) (Qi eq _) (o0:= .va 76 1 od) o (Qd zk eo _) (Ne.symm zk) rfl ?_;have y1:¬o=Q c:=Ne.symm zk;simp[AObj.fz,yg,y1];repeat first|(refine r_ ?_;simp[ye])|refine q_ ?_
   refine Qc (sl':=[(0,.sl o 1 0 st.length),(15,.sl o 1 0 st.length),(16,.i st.length),(17,.i (c+1:Nat))]) ?_ (by simp);have yp:=Qh eo;refine ih (c+1,_) ⟨by omega,by simp;omega,zO (by simpa using yp),fun j hj h1 h2=> ?_,fun P hP=> ?_⟩ (by omega)
   ·have h3:=h2 c (by omega);rw[zE (Ne.symm h1),zE (Ne.symm h3),ek j (by omega) h3];exact gk j hj h1 (fun c' zj=>h2 c' (by omega))
   ·rw[yi]at hP;rcases zW.1 hP with hP|hP
    ·exact gs P hP
    ·rw[zQ.1 hP];rw[zR (by omega)]at es;exact es
 ·have y2:c=st.length:=by simp at yd;omega
  subst y2;rw[x1h]at go;rw[zR (by simp)]at gs;refine Oh o go (j0n _) ?_;refine Wp o (Qi go _) ?_;simp;rw[zR (by simp)];repeat first|(refine r_ ?_;simp)|refine q_ ?_
  exact f1p (by simpa using hn) gs
end Go.Abs
namespace Go.Abs
open Go Go.Proofs Go.Maps
attribute [simp] w2g T92
def stM(l:List Int):AObj:= .mp (l.map fun z=>(.i z,.bool true))
theorem Y0:Keyed Tryz.prog 3:=int_keyed (q:= .i64) (by kernel_rfl)
theorem u1d{z:Int}(h:0≤z∧z≤1000000):(Lit.int .i64 z).wf=true:=by
 have h1:IntKind.i64.min= -9223372036854775808:=by decide
 have h2:IntKind.i64.max=9223372036854775807:=by decide
 simp only[Lit.wf,h1,h2,Bool.and_eq_true,decide_eq_true_eq];omega
theorem Er{z:Int}(h:0≤z∧z≤1000000):isKey Tryz.prog 3 (.i z):=
 ⟨.int .i64 z,.int .i64 z,rfl,keyOf_int_mk (q:= .i64) (by kernel_rfl) (u1d h)⟩
section
variable {nt k:Nat} {S:AS} {ops:Array Oper} {o:Oper} {R:AS→Prop}
theorem Mj {wr:Bool} (hw:Q3 ops S o=some true) (hd:W1 nt o=true) {x ix:Operand} (ho:o.op= .lookup 165 x ix false) {id:Nat} (hx:rho S.sl x=some (.mref id)) {z:Int} (z1:rho S.sl ix=some (.i z))
  {l:List Int} (z6:S.hp[id]? =some (stM l)) (hl:∀m∈l,0≤m∧m≤1000000) (hn:0≤z∧z≤1000000) (hR:R (S.putD o.dst (.bool (decide (z∈l))))):Wn Tryz.prog nt k wr ops o S R:=by
 refine D0 tOk hw hd ho w2g rfl T4 Y0 hx z1 z6 (Er hn) (fun p hp=> ?_) (z:= .bool false) rfl (fun j p hp he=> ?_) (fun z7=> ?_)
 ·obtain⟨m,hm,rfl⟩:=zT.1 hp;exact Er (hl m hm)
 ·rw[zY]at hp;obtain⟨m,hm,rfl⟩:=zV.1 hp;have z8:m=z:=by simpa using he
  rw[decide_eq_true (by rw[←z8];exact zJ hm)]at hR;exact hR
 ·rw[decide_eq_false (fun h=>z7 (.i z,.bool true) (zT.2 ⟨z,h,rfl⟩) rfl)]at hR;exact hR
theorem v0g (hw:Q3 ops S o=some true) (hd:W1 nt o=true) {x ix y:Operand} (ho:o.op= .mapUpdate 165 x ix y) {id:Nat} (hx:rho S.sl x=some (.mref id)) {z:Int} (z1:rho S.sl ix=some (.i z)) (hy:rho S.sl y=some (.bool true))
  {l:List Int} (z6:S.hp[id]? =some (stM l)) (hl:∀m∈l,0≤m∧m≤1000000) (hn:0≤z∧z≤1000000) (z7:z∉l) (hR:R (({ S with hp:=S.hp.set id (stM (l++[z])) }:AS).putD o.dst (.tup []))):Wn Tryz.prog nt k true ops o S R:=by
 refine Te tOk hw hd ho w2g rfl Y0 hx z1 hy (by simp[AV.pure]) z6 (Er hn) (fun p hp=> ?_) (fun j p hp he=> ?_) (fun za=> ?_)
 ·obtain⟨m,hm,rfl⟩:=zT.1 hp;exact Er (hl m hm)
 ·rw[zY]at hp;obtain⟨m,hm,rfl⟩:=zV.1 hp;have z8:m=z:=by simpa using he
  exact absurd (by rw[←z8];exact zJ hm) z7
 ·have:l.map (fun z=>(AV.i z,AV.bool true))++[(.i z,.bool true)]=(l++[z]).map fun z=>(.i z,.bool true):=by simp
  rw[this];exact hR
theorem z07 (hw:Q3 ops S o=some true) (hd:W1 nt o=true) {x ix y:Operand} (ho:o.op= .insert 165 x ix y) {id:Nat} (hx:rho S.sl x=some (.mref id)) {z:Int} (z1:rho S.sl ix=some (.i z)) (hy:rho S.sl y=some (.bool true))
  (z6:S.hp[id]? =some (.mp [])) (hn:0≤z∧z≤1000000) (hR:R (({ S with hp:=S.hp.set id (stM [z]) }:AS).putD o.dst (.tup []))):Wn Tryz.prog nt k true ops o S R:=by
 refine Dt tOk hw hd ho w2g rfl Y0 hx z1 hy (by simp[AV.pure]) z6 (Er hn) (fun p hp=>by cases hp) (fun j p hp he=>by cases hp) (fun z7=> ?_);exact hR
end
end Go.Abs
namespace Go.Abs
open Go Go.Proofs Go.Maps
theorem X7:Keyed Tryz.prog 9:=string_keyed (by kernel_rfl)
theorem Dm(s:List UInt8)(h:s.length≤1000000):isKey Tryz.prog 9 (.str s):=
 ⟨.string ⟨s.toArray⟩,.string s,rfl,by
  have:=Go.WideMaps.keyOf_string_mk (P:=Tryz.prog) (k:=9) (s:=⟨s.toArray⟩) (by kernel_rfl) (by show s.toArray.size≤maxLen;unfold maxLen;simp;omega);exact this⟩
def mpT(ks:List (List UInt8)):AObj:= .mp (ks.mapIdx fun c k=>(.str k,.i c))
section
variable {nt k:Nat} {S:AS} {ops:Array Oper} {o:Oper} {R:AS→Prop}
theorem c05{ks:List (List UInt8)}(hl:∀m∈ks,m.length≤1000000):∀p∈ks.mapIdx (fun c k=>(AV.str k,AV.i (c:Nat))),isKey Tryz.prog 9 p.1:=fun p hp=>by obtain⟨i,h,rfl⟩:=tF.1 hp;exact Dm _ (hl _ (zL h))
theorem Jf {wr:Bool} (hw:Q3 ops S o=some true) (hd:W1 nt o=true) {x ix:Operand} (ho:o.op= .lookup 92 x ix true) {id:Nat} (hx:rho S.sl x=some (.mref id)) {n:List UInt8} (z1:rho S.sl ix=some (.str n))
  {ks:List (List UInt8)} (z6:S.hp[id]? =some (mpT ks)) (hl:∀m∈ks,m.length≤1000000) (hn:n.length≤1000000) (z7:∀j:Nat,ks[j]? =some n→R (S.putD o.dst (.tup [.i j,.bool true]))) (z8:n∉ks→R (S.putD o.dst (.tup [.i 0,.bool false]))):Wn Tryz.prog nt k wr ops o S R:=by
 refine Y9 tOk hw hd ho T92 rfl T3 X7 hx z1 z6 (Dm n hn) (c05 hl) (z:= .i 0) rfl (fun j p hp he=> ?_) (fun za=> ?_)
 ·rw[vG]at hp;obtain⟨m,hm,rfl⟩:=zV.1 hp;have zb:m=n:=by simpa using he
  rw[zb]at hm;exact z7 j hm
 ·refine z8 fun h=> ?_;obtain⟨i,hi,rfl⟩:=xH h;exact za _ (tF.2 ⟨i,hi,rfl⟩) rfl
theorem La (hw:Q3 ops S o=some true) (hd:W1 nt o=true) {x ix y:Operand} (ho:o.op= .mapUpdate 92 x ix y) {id:Nat} (hx:rho S.sl x=some (.mref id)) {n:List UInt8} (z1:rho S.sl ix=some (.str n))
  {ks:List (List UInt8)} (hy:rho S.sl y=some (.i ks.length)) (z6:S.hp[id]? =some (mpT ks)) (hl:∀m∈ks,m.length≤1000000) (hn:n.length≤1000000) (z7:n∉ks) (hR:R (({ S with hp:=S.hp.set id (mpT (ks++[n])) }:AS).putD o.dst (.tup []))):Wn Tryz.prog nt k true ops o S R:=by
 refine Te tOk hw hd ho T92 rfl X7 hx z1 hy (by simp[AV.pure]) z6 (Dm n hn) (c05 hl) (fun j p hp he=> ?_) (fun za=> ?_)
 ·rw[vG]at hp;obtain⟨m,hm,rfl⟩:=zV.1 hp;have z8:m=n:=by simpa using he
  exact absurd (by rw[←z8];exact zJ hm) z7
 ·have:ks.mapIdx (fun c k=>(AV.str k,AV.i (c:Nat)))++[(.str n,.i ks.length)]=(ks++[n]).mapIdx (fun c k=>(AV.str k,AV.i (c:Nat))):=by simp
  rw[this];exact hR
end
theorem Ag:∀cs:List Int,(Yg cs).length=cs.length - 1
 |[]=>rfl
 |[_]=>rfl
 |a::b::r=>by rw[Yg,yS,Ag (b::r)];simp
theorem w0f:∀(cs:List Int) (k:Nat) (h:k+1<cs.length),(Yg cs)[k]? =some ⟨cs[k],cs[k+1] - 1⟩
 |[],k,h=>by simp at h
 |[_],k,h=>by simp at h
 |a::b::r,0,h=>rfl
 |a::b::r,k+1,h=>by
  have h':k+1<(b::r).length:=by simp at h ⊢;omega
  rw[Yg,uS,w0f (b::r) k h'];rfl
theorem Bk{T i:Nat}{sg:List Bool}{x:Iv}:∀ {st:List (List Bool×Prd)} {j:Nat} {p:Prd},(st.map (·.1)).Nodup→st[j]? =some (sg,p)→Yr T i sg x st=st.set j (sg,Uz p i x)
 |[],j,p,_,h=>by simp at h
 |(s,q)::r,0,p,hn,h=>by simp at h;obtain⟨rfl,rfl⟩:=h;rw[Yr,if_pos rfl];rfl
 |(s,q)::r,j+1,p,hn,h=>by rw[yZ,List.nodup_cons]at hn;rw[uS]at h;rw[Yr,if_neg (fun e=>hn.1 (by subst e;exact zT.2 ⟨_,zJ h,rfl⟩)),Bk hn.2 h];rfl
structure GB (T N n:Nat) (st:List (List Bool×Prd)):Prop where
 nd:(st.map (·.1)).Nodup
 le:st.length≤n
 len:∀g∈st,g.2.length=T
 sz:∀g∈st,∀s∈g.2,s.length≤n
 kl:∀g∈st,g.1.length=N
theorem q1j{T n:Nat}{p:Prd}(hp:p.length=T)(h:∀s∈p,s.length≤n)(i:Nat)(x:Iv):(Uz p i x).length=T∧∀s∈Uz p i x,s.length≤n+1:=by
 refine⟨by simp[Uz,hp],fun s hs=> ?_⟩;rcases List.mem_or_eq_of_mem_set hs with hs|rfl
 ·have:=h s hs;omega
 ·rw[zZ];by_cases hi:i<p.length
  ·rw[Wu hi];have:=h _ (zL hi);simp;omega
  ·simp[yX,hi]
theorem GB.put{T N n:Nat}{st:List (List Bool×Prd)}(h:GB T N n st){sg:List Bool}(hs:sg.length=N)(i:Nat)(x:Iv):GB T N (n+1) (Yr T i sg x st):=by
 by_cases hm:∃g∈st,g.1=sg
 ·obtain⟨a,p,b,h1,h2,h3⟩:=S0 (T:=T) (i:=i) (x:=x) hm;rw[h3];subst h1;have hp:=q1j (h.len (sg,p) (by simp)) (h.sz (sg,p) (by simp)) i x;have z1:∀g∈a++(sg,Uz p i x)::b,g=(sg,Uz p i x)∨g∈a++(sg,p)::b:=fun g hg=>by
   rcases zW.1 hg with hg|hg
   ·exact .inr (List.mem_append_left _ hg)
   ·rcases List.mem_cons.1 hg with rfl|hg
    ·exact .inl rfl
    ·exact .inr (List.mem_append_right _ (List.mem_cons_of_mem _ hg))
  refine⟨by simpa using h.nd,by have:=h.le;simp at this ⊢;omega,fun g hg=> ?_,fun g hg s z6=> ?_,fun g hg=> ?_⟩
  ·rcases z1 g hg with rfl|hg
   ·exact hp.1
   ·exact h.len g hg
  ·rcases z1 g hg with rfl|hg
   ·exact hp.2 s z6
   ·have:=h.sz g hg s z6;omega
  ·rcases z1 g hg with rfl|hg
   ·exact hs
   ·exact h.kl g hg
 ·have z7:∀g∈st,g.1≠sg:=fun g hg e=>hm ⟨g,hg,e⟩;rw[O0 z7];have hp:=q1j (T:=T) (p:=yL T []) (n:=n) (by simp) (fun s z6=>by rw[(uo.1 z6).2];simp) i x;have z1:∀g∈st++[(sg,Uz (yL T []) i x)],g=(sg,Uz (yL T []) i x)∨g∈st:=fun g hg=>by
   rcases zW.1 hg with hg|hg
   ·exact .inr hg
   ·exact .inl (zQ.1 hg)
  refine⟨?_,by have:=h.le;simp;omega,fun g hg=> ?_,fun g hg s z6=> ?_,fun g hg=> ?_⟩
  ·rw[yP,List.nodup_append];refine⟨h.nd,by simp,fun a ha b hb e=> ?_⟩;obtain⟨g,hg,rfl⟩:=zT.1 ha;simp at hb;exact z7 g hg (e.trans hb)
  ·rcases z1 g hg with rfl|hg
   ·exact hp.1
   ·exact h.len g hg
  ·rcases z1 g hg with rfl|hg
   ·exact hp.2 s z6
   ·have:=h.sz g hg s z6;omega
  ·rcases z1 g hg with rfl|hg
   ·exact hs
   ·exact h.kl g hg
end Go.Abs
/-
 DERIVED:THE SHELF's CONTRACTS AT THIS DUMP,IN PLAIN WORDS (tools/lay-plain.mjs out of 'TryzShelf.lean',which tools/lay-shelf.mjs wrote):THE SAME DECLARATIONS UNDER THE SAME NAMES:'import','namespace','open','def','theorem' AND NOTHING ELSE:no command of the shelf's:FOR A HAND-IN. Each laying:the table of numbers ('.._ren') and one theorem,a field a fact of the dump's own or the kernel's comparison;each contract:ONE APPLICATION.
-/
namespace Go.Proofs
open Go.Shelf
def Tryz.laysM176_ren:Go.Shelf.Ren:=⟨fun|176=>178|249=>200|288=>218|283=>240|284=>241|285=>242|286=>243|129=>217|317=>251|318=>252|319=>253|320=>254|337=>257|338=>258|n=>n,fun|37=>234|2=>2|3=>3|53=>250|4=>4|9=>9|171=>288|0=>0|173=>290|212=>300|51=>247|5=>5|20=>20|213=>301|46=>213|232=>304|233=>305|n=>n,fun|17=>0|18=>1|19=>2|n=>n⟩
theorem Tryz.laysM176:Go.Proofs.LaysM.n176 Tryz.prog Tryz.laysM176_ren:={
 mixed:=by kernel_rfl
 f129:=Tryz.func217.trans (congrArg some (by kernel_rfl))
 f176:=Tryz.func178.trans (congrArg some (by kernel_rfl))
 f249:=Tryz.func200.trans (congrArg some (by kernel_rfl))
 f283:=Tryz.func240.trans (congrArg some (by kernel_rfl))
 f284:=Tryz.func241.trans (congrArg some (by kernel_rfl))
 f285:=Tryz.func242.trans (congrArg some (by kernel_rfl))
 f286:=Tryz.func243.trans (congrArg some (by kernel_rfl))
 f288:=Tryz.func218.trans (congrArg some (by kernel_rfl))
 f317:=Tryz.func251.trans (congrArg some (by kernel_rfl))
 f318:=Tryz.func252.trans (congrArg some (by kernel_rfl))
 f319:=Tryz.func253.trans (congrArg some (by kernel_rfl))
 f320:=Tryz.func254.trans (congrArg some (by kernel_rfl))
 f337:=Tryz.func257.trans (congrArg some (by kernel_rfl))
 f338:=Tryz.func258.trans (congrArg some (by kernel_rfl))
 t0:=Tryz.underlying0
 a0:=Tryz.isAgg0
 z0:=Tryz.sizeOf0
 v0:=Tryz.zeroValue0
 t2:=Tryz.underlying2
 a2:=Tryz.isAgg2
 z2:=Tryz.sizeOf2
 v2:=Tryz.zeroValue2
 t3:=Tryz.underlying3
 a3:=Tryz.isAgg3
 z3:=Tryz.sizeOf3
 v3:=Tryz.zeroValue3
 t4:=Tryz.underlying4
 a4:=Tryz.isAgg4
 z4:=Tryz.sizeOf4
 v4:=Tryz.zeroValue4
 t5:=Tryz.underlying5
 a5:=Tryz.isAgg5
 z5:=Tryz.sizeOf5
 v5:=Tryz.zeroValue5
 t9:=Tryz.underlying9
 a9:=Tryz.isAgg9
 z9:=Tryz.sizeOf9
 v9:=Tryz.zeroValue9
 t20:=Tryz.underlying20
 a20:=Tryz.isAgg20
 z20:=Tryz.sizeOf20
 v20:=Tryz.zeroValue20
 t37:=Tryz.underlying234
 a37:=Tryz.isAgg234
 z37:=Tryz.sizeOf234
 v37:=Tryz.zeroValue234
 t46:=Tryz.underlying213
 a46:=Tryz.isAgg213
 z46:=Tryz.sizeOf213
 v46:=Tryz.zeroValue213
 t51:=Tryz.underlying247
 a51:=Tryz.isAgg247
 z51:=Tryz.sizeOf247
 v51:=Tryz.zeroValue247
 t53:=Tryz.underlying250
 a53:=Tryz.isAgg250
 z53:=Tryz.sizeOf250
 v53:=Tryz.zeroValue250
 t171:=Tryz.underlying288
 a171:=Tryz.isAgg288
 z171:=Tryz.sizeOf288
 v171:=Tryz.zeroValue288
 t173:=Tryz.underlying290
 a173:=Tryz.isAgg290
 z173:=Tryz.sizeOf290
 v173:=Tryz.zeroValue290
 t212:=Tryz.underlying300
 a212:=Tryz.isAgg300
 z212:=Tryz.sizeOf300
 v212:=Tryz.zeroValue300
 t213:=Tryz.underlying301
 a213:=Tryz.isAgg301
 z213:=Tryz.sizeOf301
 t232:=Tryz.underlying304
 a232:=Tryz.isAgg304
 z232:=Tryz.sizeOf304
 v232:=Tryz.zeroValue304
 t233:=Tryz.underlying305
 a233:=Tryz.isAgg305
 z233:=Tryz.sizeOf305
 v233:=Tryz.zeroValue305
 g17:=by kernel_rfl
 g18:=by kernel_rfl
 g19:=by kernel_rfl
 i0:=by kernel_rfl
 i2:=by kernel_rfl
 i3:=by kernel_rfl
 i4:=by kernel_rfl
 i5:=by kernel_rfl
 i9:=by kernel_rfl
 i20:=by kernel_rfl
 i37:=by kernel_rfl
 i46:=by kernel_rfl
 i51:=by kernel_rfl
 i53:=by kernel_rfl
 i171:=by kernel_rfl
 i173:=by kernel_rfl
 i212:=by kernel_rfl
 i232:=by kernel_rfl
 i233:=by kernel_rfl
 m17:=by kernel_rfl
 m18:=by kernel_rfl
 m19:=by kernel_rfl }
open Go.RowKit Go.Sort Go.Lib in
theorem Tryz.strconv_AppendInt_10 (B n:Nat) (i:Int) (h0: -9223372036854775808≤i) (h1:i≤9223372036854775807) (sv:Value) (xs:List Value) (w:World) (z1:w.ownsRow B 5 1 sv n xs) (z8:B≤w.heap.size) (z6:n+21≤140737488355328) (z7:Lib.TabBelow Tryz.prog B w "internal/strconv.uint64pow10" .u64 Lib.pow10Tab):
  Calls Tryz.prog 178 #[sv,.int .i64 i,.int .i64 10] w fun e w'=>∃v',e= .returned v'∧w'.ownsRow B 5 1 v' (n+(Lib.itoa i).length) (xs++Lib.byteCells (Lib.itoa i))∧Below B w w'∧Lib.OthersKept 5 none w w':=Any.strconv_AppendInt_10 Tryz.laysM176 B n i h0 h1 sv xs w z1 z8 z6 z7
end Go.Proofs
namespace Go.Proofs
open Go.Shelf Go.RowKit
def Tl(zs:List Int):List UInt8:=zs.flatMap fun z=>32::Lib.itoa z
theorem k05(zs:List Int){k:Nat}(h:k<zs.length):Tl (zs.take (k+1))=Tl (zs.take k)++32::Lib.itoa (zs.getD k 0):=by
 have:zs.getD k 0=zs[k]:=by simp[yX,h]
 rw[zU h,this,Tl,wp];simp[Tl]
theorem w0a{zs:List Int}(hz:∀z∈zs,-9223372036854775808≤z∧z≤9223372036854775807):(Tl zs).length≤zs.length * 22:=by
 induction zs with
 |nil=>simp[Tl]
 |cons z r ih=>
  have h1:=Lib.itoa_length_le z (hz z (by simp)).1 (hz z (by simp)).2;have h2:=ih (fun y hy=>hz y (by simp[hy]));have e:Tl (z::r)=32::(Lib.itoa z++Tl r):=by simp[Tl]
  rw[e,yS,zZ,yS];omega
theorem d06:(Tryz.prog.info? 5).map (fun i=>(i.zero,i.size,i.bytes))=some (some (.int .u8 0),1,1):=by kernel_rfl
theorem v1h (ad:Addr) (cap:Nat) (zs:List Int) (w:World) (hb:ad.block<w.heap.size) (hz:∀z∈zs,-9223372036854775808≤z∧z≤9223372036854775807) (hl:zs.length≤1000) (zl:0<zs.length)
  (hc:∀j,j<zs.length→w.cell? (ad.add j)=some (.int .i64 (zs.getD j 0))) (zf:Lib.TabIs Tryz.prog w "internal/strconv.uint64pow10" .u64 Lib.pow10Tab):
  Calls Tryz.prog 123 #[.slice (some ad) zs.length cap] w fun e w'=>e= .returned (.string ⟨(Tl zs).toArray⟩)∧Below w.heap.size w w':=by
 obtain⟨i0,hi,zm,zn,zo⟩:=info_parts d06;have hT:=Lib.tabBelow_of_tabIs zf;have zg:∀k,(Tl (zs.take k)).length≤22000:=fun k=>by
  have:=w0a (zs:=zs.take k) (fun z zp=>hz z (xS zp));rw[wn]at this;have:min k zs.length≤1000:=by omega
  omega
 go_enter Tryz.func123,Tryz.ntmps123
 go_wp2
 go_loopw [3,8] (fun v i wr=>∃k:Nat,k≤zs.length∧i= .int .i64 k∧wr.ownsRow w.heap.size 5 1 v (Tl (zs.take k)).length (Lib.byteCells (Tl (zs.take k)))∧Below w.heap.size w wr)
  (fun _ i _=>zs.length - (intOf i).toNat)
 case atStart=>exact⟨0,xD _,rfl,World.ownsRow_nil _ _ _ _,Below.refl _ _⟩
 case round=>
  obtain⟨k,hk,rfl,z1,zb⟩:=hrel;have zq:k<zs.length→wr.cell? (ad.add k)=some (.int .i64 (zs.getD k 0)):=fun h=>(zb.cell (by unfold Addr.add;split<;>exact hb)).trans (hc k h)
  go_wp2_with (first
   |(at_builtin;refine wpList_append_own _ rfl _ _ 234 rfl w.heap.size 5 i0 (.int .u8 0) 1 1 Tryz.underlying234 hi zm zn zo rfl (by decide) _ _ _ rfl (z1.alloc _) ⟨wr.heap.size,0,none⟩ 1 1 [.int .u8 32] rfl rfl ?c1 ?c2 ?c3 ?c4 ?c5 ?_)
   |go_in)
  case c1=>
   intro j u hj
   match j,hj with
   |0,hj=>simp at hj;subst hj;simp[Addr.add]
  case c2=>intro u hu;simp at hu;subst hu;rfl
  case c3=>have:=zg k;unfold maxLen;omega
  case c4=>have:=zg k;omega
  case c5=>have:=zb.size;simp;omega
  ·intro v' w1 z8 za _;have zc:k<zs.length:=by assumption
   have z7:Below w.heap.size w w1:=(zb.alloc (by have:=zb.size;omega) _).grown za (by have:=zb.size;simp;omega) (fun k hk=>(z1.lt k hk).1);have zk:=hz _ (zL zc);have zr:zs.getD k 0=zs[k]:=by simp[yX,zc]
   have ze:=k05 zs zc;rw[zr]at ze
   go_wp2_with (go_at_call 178;refine(Tryz.strconv_AppendInt_10 w.heap.size _ zs[k] zk.1 zk.2 v' _ w1 z8 (by have:=z7.size;omega) (by have:=zg k;omega) (hT.on z7)).mono ?_;rintro e w3 ⟨v3,rfl,z6,zh,-⟩;refine Hid.out ?_)
   have zd:w3.ownsRow w.heap.size 5 1 v3 (Tl (zs.take (k+1))).length (Lib.byteCells (Tl (zs.take (k+1)))):=by
    have e1:Lib.byteCells (Tl (zs.take k))++[Value.int .u8 32]++Lib.byteCells (Lib.itoa zs[k])=Lib.byteCells (Tl (zs.take (k+1))):=by rw[ze];simp[Lib.byteCells]
    have e2:(Tl (zs.take k)).length+1+(Lib.itoa zs[k]).length=(Tl (zs.take (k+1))).length:=by rw[ze];simp;omega
    rw[e1,e2]at z6;exact z6
   have zi:=z7.trans zh;clear z6 z8 za z1 zb z7 zq ze;refine Lib.hid ?_
   go_wp2
   go_roundw
   case rel=>exact⟨k+1,by omega,by simp,zd,zi⟩
   case measure=>simp[intOf];omega
  ·have zw:¬k<zs.length:=by assumption
   have zt:k=zs.length:=by omega
   subst zt;rw[yW]at z1;have zj:0<(Tl zs).length:=by
    obtain⟨z,r,rfl⟩:∃z r,zs=z::r:=by cases zs with
     |nil=>simp at zl
     |cons z r=>exact⟨z,r,rfl⟩
    simp[Tl]
   obtain⟨l,zc⟩:∃l,l=Tl zs:=⟨_,rfl⟩
   rw[←zc]at z1 zj;have HL:=Lib.hid zc;clear zc;rcases z1.2 with⟨-,h0⟩|⟨g,cap2,cur,rfl,-,-,-,-,-,-⟩
   ·omega
   ·have zu:=run_convert_bytes_back (P:=Tryz.prog) wr 234 9 5 ⟨g,0,none⟩ cap2 l Tryz.underlying234 Tryz.underlying5 Tryz.underlying9 (fun j hj=>z1.cells (g:=g) rfl j _ (by simp[Lib.byteCells,hj]));rw[zu]
    go_wp2
    go_ret
    have zv:=HL.out;subst zv;exact⟨rfl,zb⟩
end Go.Proofs
namespace Go.Abs
open Go Go.Proofs Go.RowKit
theorem g1h(zs:List Int)(hz:∀z∈zs,-9223372036854775808≤z∧z≤9223372036854775807)(hl:zs.length≤1000)(z7:zs≠[]):PC Tryz.prog 123 [.list (zs.map .i)] (fun r=>r= .str (Tl zs)):=by
 refine⟨Yi Tryz.func123 rfl rfl,fun w I vals hE hI hl' hv=> ?_⟩;rcases vals with⟨vals⟩
 match vals,hl' with
 |[v],_=>
  have z8:=hv 0 v _ rfl rfl;obtain⟨a,cap,c,u,rfl,hcap,hmax,hc,ha,hu⟩:=z8.list_inv;have z1:0<zs.length:=List.length_pos_iff.2 z7;have za:c=1:=by have:=hc (.i zs[0]) (zT.2 ⟨_,zL z1,rfl⟩);simpa[AV.cells]using this.symm
  subst za;obtain⟨ad,rfl,zb,hcell⟩:=ha (by simpa using z1);have zc:∀j,j<zs.length→w.cell? (ad.add j)=some (.int .i64 (zs.getD j 0)):=fun j hj=>by have h1:=hcell j 0 (by simpa using hj) (by omega);have h2:=hu j (.i zs[j]) (by simp[hj]) 0 (.i zs[j]) rfl;have h3:=h2.val (u:= .int .i64 zs[j]) rfl;rw[Nat.mul_one,Nat.add_zero,h3]at h1;rw[h1];simp[yX,hj]
  have:=v1h ad cap zs w (hI _ (zb (by omega))) hz hl z1 zc (c0e hE);rw[yB];refine this.mono ?_;rintro e w' ⟨rfl,hb⟩;exact⟨_,I,_,rfl,rfl,hb,fun _ h=>h,fun b z6=>⟨Nat.lt_of_lt_of_le (hI b z6) hb.size,.inl z6⟩,.str _⟩
end Go.Abs
namespace Go.Proofs
open Go.Shelf Go.RowKit
def f1v(l:List UInt8):Nat:=l.foldl (fun v c=>v * 10+(c.toNat - 48)) 0
theorem f0f(l:List UInt8)(c:UInt8):f1v (l++[c])=f1v l * 10+(c.toNat - 48):=by simp[f1v,wL]
theorem H4{k:Nat}(h:k<10):(UInt8.ofNat (48+k)).toNat=48+k:=by rw[UInt8.toNat_ofNat'];omega
theorem F0(u:Nat):f1v (Lib.decDigits u)=u∧∀c∈Lib.decDigits u,c≠32:=by
 induction u using Nat.strongRecOn with
 |_ u ih=>
  rw[Lib.decDigits];by_cases h:u<10
  ·rw[dif_pos h];refine⟨?_,fun c hc e=> ?_⟩
   ·have:=H4 h;simp only[f1v,List.foldl_cons,uK,this];omega
   ·rw[zQ.1 hc]at e;have:=H4 h;rw[e]at this;simp at this;omega
  ·rw[dif_neg h];obtain⟨h1,h2⟩:=ih (u / 10) (by omega);have hd:=H4 (Nat.mod_lt u (by decide:0<10));refine⟨?_,fun c hc e=> ?_⟩
   ·rw[f0f,h1,hd];omega
   ·rcases zW.1 hc with hc|hc
    ·exact h2 c hc e
    ·rw[zQ.1 hc]at e;rw[e]at hd;simp at hd;omega
theorem u0t{z:Int}(h:0≤z):Lib.itoa z=Lib.decDigits z.toNat:=by unfold Lib.itoa;rw[if_neg (by omega)]
theorem u1a:∀ {a b r s:List UInt8},(∀c∈a,c≠32)→(∀c∈b,c≠32)→(r=[]∨∃t,r=32::t)→(s=[]∨∃t,s=32::t)→a++r=b++s→a=b∧r=s
 |[],[],r,s,_,_,_,_,h=>⟨rfl,h⟩
 |[],y::b,r,s,_,hb,hr,_,h=>by
  rcases hr with rfl|⟨t,rfl⟩
  ·simp at h
  ·simp at h;exact absurd h.1.symm (hb y (by simp))
 |x::a,[],r,s,ha,_,_,hs,h=>by
  rcases hs with rfl|⟨t,rfl⟩
  ·simp at h
  ·simp at h;exact absurd h.1 (ha x (by simp))
 |x::a,y::b,r,s,ha,hb,hr,hs,h=>by simp only[vY,List.cons.injEq]at h;obtain⟨h1,h2⟩:=u1a (fun c hc=>ha c (by simp[hc])) (fun c hc=>hb c (by simp[hc])) hr hs h.2;exact⟨by rw[h.1,h1],h2⟩
theorem C8(zs:List Int):Tl zs=[]∨∃t,Tl zs=32::t:=by
 cases zs with
 |nil=>exact .inl rfl
 |cons z r=>exact .inr ⟨Lib.itoa z++Tl r,by simp[Tl]⟩
theorem Zj:∀ {a b:List Int},(∀z∈a,0≤z)→(∀z∈b,0≤z)→Tl a=Tl b→a=b
 |[],[],_,_,_=>rfl
 |[],y::b,_,_,h=>by simp[Tl]at h
 |x::a,[],_,_,h=>by simp[Tl]at h
 |x::a,y::b,ha,hb,h=>by
  have e1:∀(z:Int) (r:List Int),Tl (z::r)=32::(Lib.itoa z++Tl r):=fun z r=>by simp[Tl]
  rw[e1,e1,List.cons.injEq]at h;have hx:=ha x (by simp);have hy:=hb y (by simp);rw[u0t hx,u0t hy]at h;obtain⟨h1,h2⟩:=u1a (F0 _).2 (F0 _).2 (C8 a) (C8 b) h.2;have h3:=congrArg f1v h1;rw[(F0 _).1,(F0 _).1]at h3;have h4:=Zj (fun z hz=>ha z (by simp[hz])) (fun z hz=>hb z (by simp[hz])) h2;rw[h4,show x=y by omega]
end Go.Proofs
namespace Go.Abs
open Go Go.Proofs Go.Maps
theorem y1c(T:Int)(hT:1≤T∧T≤16):E5 T (Ws T.toNat)=0:=
 (Ec T _).2 ⟨hT,by simp[Ws],fun s hs=>by
  have:s=Wv []:=(uo.1 hs).2;rw[this,show Wv []=[(⟨-1099511627776,1099511627776⟩:Iv)] from rfl];exact⟨by simp,fun x hx=>by simp at hx;subst hx;decide,fun j h=>by simp at h⟩⟩
theorem y0l(T:Int)(hT:1≤T∧T≤16)(x:Sy):(X4 (Ws T.toNat) x).2=P6 T x:=by
 rw[Md (y1c T hT)];by_cases h:P6 T x=0
 ·rw[if_neg (fun k=>k h),h]
 ·rw[if_pos h]
structure Nx (a:Aut) (R:List Int) (x:Sy) (dn:Int→Prop) (nx:List Int):Prop where
 sub:∀z∈nx,z∈Wh a R x
 all:∀i,dn i→∀m∈a.mv,m.src=i→R7 m.on x=true→m.dst∈nx
theorem j0v{α β:Type}(f:α→β)(l:List α)(j:Nat):(l.map f).eraseIdx j=(l.eraseIdx j).map f:=by
 induction l generalizing j with
 |nil=>simp
 |cons x l ih=>cases j<;>simp[ih]
attribute [local irreducible] X4 P6 N2 Ws Xw Wh
end Go.Abs
namespace Go.Abs
open Go Go.Proofs Go.Maps
def ksG(st:List (List Bool×Prd)):List (List UInt8):=st.map fun g=>sgB g.1
def prG(st:List (List Bool×Prd)):List Prd:=st.map (·.2)
def Yh(T:Nat)(l:List Prd)(A:List (Nat×Iv)):List (List Bool×Prd):=A.foldl (fun st a=>Yr T a.1 (Ih l a.1 a.2.lo) a.2 st) []
theorem Ke(T:Nat)(l:List Prd)(A:List (Nat×Iv))(a:Nat×Iv):Yh T l (A++[a])=Yr T a.1 (Ih l a.1 a.2.lo) a.2 (Yh T l A):=by unfold Yh;rw[wL];rfl
theorem H5(T:Nat)(l:List Prd)(A:List (Nat×Iv)):GB T l.length A.length (Yh T l A):=by
 suffices h:∀n,∀A:List (Nat×Iv),A.length=n→GB T l.length n (Yh T l A) from h _ A rfl
 intro n;induction n with
 |zero=>intro A hA;have:=List.eq_nil_of_length_eq_zero hA;subst this;exact⟨by simp[Yh],by simp[Yh],fun g hg=>by simp[Yh]at hg,fun g hg=>by simp[Yh]at hg,fun g hg=>by simp[Yh]at hg⟩
 |succ n ih=>
  intro A hA;rcases wM A with rfl|⟨B,a,rfl⟩
  ·simp at hA
  ·rw[wN]at hA ⊢;rw[Ke];exact(ih B (by simp at hA;omega)).put (by simp[Ih]) _ _
def Yf(l:List Prd)(i:Nat):List (Nat×Iv):=(yO i).flatMap fun i=>(Yg (Wd l i)).map fun x=>(i,x)
def Ie(l:List Prd)(i k:Nat):List (Nat×Iv):=Yf l i++((Yg (Wd l i)).take k).map fun x=>(i,x)
theorem Ss(l:List Prd)(i:Nat):Ie l i 0=Yf l i:=by simp[Ie]
theorem j04(l:List Prd)(i:Nat):Ie l i (Yg (Wd l i)).length=Yf l (i+1):=by simp[Ie,Yf,wH,yW]
theorem v0r(l:List Prd)(i k:Nat)(h:k+1<(Wd l i).length):Ie l i (k+1)=Ie l i k++[(i,(⟨(Wd l i)[k],(Wd l i)[k+1] - 1⟩:Iv))]:=by have h1:=w0f (Wd l i) k h;obtain⟨h2,h3⟩:=zB.1 h1;rw[Ie,Ie,zU h2,h3,yP,xT];rfl
theorem B8{T:Nat}{l:List Prd}(hl:∀p∈l,PCk T p)(hn:l.length≤256)(i:Nat):(Wd l i).length≤131074:=by rw[←L4];have h1:=Uw (Tj (Jj (Qw l i)));have h2:=Fl (Qw l i);rw[Iw,h2]at h1;have:=Uc hl i;omega
end Go.Abs
namespace Go.Abs
open Go Go.Proofs Go.Maps
theorem GInv.iv{T:Nat}{sig:Nat→Int→List Bool}{st:List (List Bool×Prd)}(h:GInv T sig (fun t n=>t<T∧inR n) st){g:List Bool×Prd}(hg:g∈st){s:List Iv}(hs:s∈g.2):ascS s∧∀x∈s,Ia x:=by have ha:=h.asc g hg s hs;refine⟨ha,fun x hx=> ?_⟩;obtain⟨t,ht,rfl⟩:=xH hs;have h1:=((h.mem g hg t x.lo).1 ⟨_,zK ht,x,hx,xN _,ha.1 x hx⟩).1.2;have h2:=((h.mem g hg t x.hi).1 ⟨_,zK ht,x,hx,ha.1 x hx,xN _⟩).1.2;unfold inR at h1 h2;exact⟨(W8 _).2 h1,(W8 _).2 h2⟩
theorem Gh{T:Nat}{l:List Prd}(hl:∀p∈l,PCk T p)(hn:l.length≤256):∀i,(Yf l i).length≤i * 131073
 |0=>by simp[Yf]
 |i+1=>by have:=Gh hl hn i;have h2:=B8 hl hn i;have h3:=Ag (Wd l i);rw[Yf,wH,wp,zZ];have h4:((yO i).flatMap fun i=>(Yg (Wd l i)).map fun x=>(i,x)).length=(Yf l i).length:=rfl;rw[h4];simp only[tu,List.flatMap_nil,xB,yB];omega
theorem c0u{T:Nat}{l:List Prd}(hl:∀p∈l,PCk T p)(hn:l.length≤256){i k:Nat}(hi:i<16):(Ie l i k).length≤2097168:=by have:=Gh hl hn i;have h2:=B8 hl hn i;have h3:=Ag (Wd l i);rw[Ie,zZ,yB,wn];omega
theorem z1a(l:List Prd)(i:Nat)(n:Int):(Ih l i n).length=l.length:=by simp[Ih]
theorem j07(T:Nat)(l:List Prd):Yh T l (Yf l T)=Io T l:=rfl
theorem Da(l:List Prd):Yf l 0=[]:=rfl
theorem Gm(T:Nat)(l:List Prd):Yh T l []=[]:=rfl
theorem Rk(ks:List (List UInt8)):mpT ks= .mp (ks.mapIdx fun c k=>(.str k,.i c)):=rfl
theorem q1y{T:Nat}{l:List Prd}(hl:∀p∈l,PCk T p)(i:Nat):∀z∈Wd l i,-1099511627776≤z∧z≤1099511627777:=(Yl hl i).2.2.2.1
attribute [local irreducible] c0z Xz Wd Ih Yh Yf Ie mpT
theorem Me(T:Int)(l:List Prd):PC Tryz.prog 115 [.i T,LP l] (fun r=>r= .tup [LP (Tm T l).2,.i (Tm T l).1]):=by
 refine Qk tOk Tryz.func115 rfl Tryz.results115 rfl (by simp[Tryz.ntmps115]) ?_;rw[Tryz.ntmps115];simp only[Qg];repeat first|(refine r_ ?_;simp)|refine q_ ?_
 refine Qa rfl (fun hc=> ?_) (fun hc=> ?_)
 ·have yf:T<1∨16<T:=by simpa using hc
  have hm:Tm T l=(2,[]):=by rw[Tm,if_pos yf]
  rw[hm];repeat first|(refine r_ ?_;simp)|refine q_ ?_
 have yf:¬(T<1∨16<T):=by simpa using hc
 have xn:¬T<1:=fun h=>yf (.inl h);have xo:¬16<T:=fun h=>yf (.inr h);repeat first|(refine r_ ?_;simp)|refine q_ ?_
 refine Qa rfl (fun h=> ?_) (fun h=> ?_)
 ·have hm:Tm T l=(5,[]):=by rw[Tm,if_neg (by omega),if_pos (by simp at h;omega)]
  rw[hm];repeat first|(refine r_ ?_;simp)|refine q_ ?_
 have hn:l.length≤256:=by simp at h;omega
 repeat first|(refine r_ ?_;simp)|refine q_ ?_
 refine Qt l.length (fun j=>Y5 T l=Y5 T (l.drop j)) (fun j=>[(0,.i T),(1,LP l),(28,LP l),(29,.i l.length),(30,.i j)]) (fun _=>[]) rfl (by simp) (by simp) (by simp) (by simp) (by simp) ?_;intro j hj hI ih;repeat first|(refine r_ ?_;simp)|refine q_ ?_
 refine Qa rfl (fun yg=> ?_) (fun yh=> ?_)
 ·have z1:j<l.length:=by simpa using yg
  have hw:IntKind.i64.wrap ((j:Int)+1)=j+1:=wrap_i64 _ (by omega) (by omega);rw[W3 z1,Y5]at hI;repeat first|(refine r_ ?_;simp[z1])|refine q_ ?_
  refine Qe rfl rfl (by simp) (P8 T l[j]) rfl ?_;rintro _ rfl;simp;repeat first|(refine r_ ?_;simp)|refine q_ ?_
  refine Qa rfl (fun h3=> ?_) (fun h3=> ?_)
  ·repeat first|(refine r_ ?_;simp)|refine q_ ?_
   rw[if_pos (by simpa using h3)]at hI;have hm:Tm T l=(E5 T l[j],[]):=by rw[Tm,if_neg (by omega),if_neg (by omega),hI,if_pos (by simpa using h3)]
   rw[hm];exact⟨rfl,rfl⟩
  ·rw[if_neg (by simpa using h3)]at hI;repeat first|(refine r_ ?_;simp[hw])|refine q_ ?_
   refine Qr _ (ih z1 hI) rfl (by simp) ?_ (by simp) (by simp);simp
 ·have zr:j=l.length:=by simp at yh;omega
  subst zr;rw[xF]at hI;obtain⟨N,hN⟩:∃N:Nat,T=N:=⟨T.toNat,by omega⟩
  subst hN;have zp:∀p∈l,PCk N p:=fun p hp=>by simpa using((Ec (N:Int) p).1 ((It l).1 hI p hp)).2
  have hm:Tm N l=if S3 (Ee N l)then(5,[])else(0,Ee N l):=by rw[Tm,if_neg (by omega),if_neg (by omega),hI,if_neg (by simp[Y5])];simp
  repeat first|(refine r_ ?_;simp)|refine q_ ?_
  refine Rn rfl rfl rfl ?_;simp;repeat first|(refine r_ ?_;simp)|refine q_ ?_
  refine Q8 9 76 1 rfl ?_;simp;refine F3 1 rfl ?_;simp;have xa:=Rows.start0 N 1 [.mp [],AObj.va 76 1 []] rfl (fun j=>if j=0 then(0,1)else(0,0)) rfl;refine Qo (Qc (sl':=[(0,.i N),(1,LP l),(9,.sl 1 1 0 (Yh N l (Yf l 0)).length),(10,.mref 0),(42,.i N),(43,.i (0:Nat))]) ?_ (by simp[Da,Gm]));refine Qn (F:=fun(u:Nat×Nat×(Nat→Nat)×(Nat→Nat→Nat)×(Nat→Nat×Nat)×List AObj)=>⟨[(0,.i N),(1,LP l),(9,.sl u.2.1 1 0 (Yh N l (Yf l u.1)).length),(10,.mref 0),(42,.i N),(43,.i u.1)],u.2.2.2.2.2⟩)
   (fun u=>u.1≤N∧Rows [] N u.2.1 (prG (Yh N l (Yf l u.1))) u.2.2.1 u.2.2.2.1 u.2.2.2.2.1 u.2.2.2.2.2∧u.2.2.2.2.2[0]? =some (mpT (ksG (Yh N l (Yf l u.1))))∧u.2.2.2.2.1 0=(0,1)) (fun u=>N - u.1) ?_ (0,1,fun _=>0,fun _ _=>0,fun j=>if j=0 then(0,1)else(0,0),[.mp [],AObj.va 76 1 []]) ⟨by simp,by rw[Da,Gm];exact xa,by rw[Da,Gm,ksG,Rk];rfl,rfl⟩
  rintro⟨i,o,Q,L,tag,G⟩ ⟨hi,hR,za,zb⟩ ih;simp only at hi hR za zb ih ⊢;repeat first|(refine r_ ?_;simp)|refine q_ ?_
  refine Qa rfl (fun yg=> ?_) (fun yh=> ?_)
  ·have z1:i<N:=by simpa using yg
   have hw:IntKind.i64.wrap ((i:Int)+1)=i+1:=wrap_i64 _ (by omega) (by omega);repeat first|(refine r_ ?_;simp)|refine q_ ?_
   refine Qe rfl rfl (by simp) (f1u N l i z1 (by omega) zp hn) rfl ?_;rintro _ rfl;simp;repeat first|(refine r_ ?_;simp)|refine q_ ?_
   have zg:=B8 zp hn i;have zt:0<(Wd l i).length:=by have h1:=(Yl zp i).2.1;exact List.length_pos_of_mem h1
   refine Qo (Qc (sl':=[(0,.i N),(1,LP l),(9,.sl o 1 0 (Yh N l (Ie l i 0)).length),(10,.mref 0),(11,.i i),(12,LI (Wd l i)),(13,.i (0:Nat)),(42,.i N),(43,.i i)]) ?_ (by simp[Ss]));refine Qn (F:=fun(u:Nat×Nat×(Nat→Nat)×(Nat→Nat→Nat)×(Nat→Nat×Nat)×List AObj)=>⟨[(0,.i N),(1,LP l),(9,.sl u.2.1 1 0 (Yh N l (Ie l i u.1)).length),(10,.mref 0),(11,.i i),(12,LI (Wd l i)),(13,.i u.1),(42,.i N),(43,.i i)],u.2.2.2.2.2⟩)
    (fun u=>u.1<(Wd l i).length∧Rows [] N u.2.1 (prG (Yh N l (Ie l i u.1))) u.2.2.1 u.2.2.2.1 u.2.2.2.2.1 u.2.2.2.2.2∧u.2.2.2.2.2[0]? =some (mpT (ksG (Yh N l (Ie l i u.1))))∧u.2.2.2.2.1 0=(0,1)) (fun u=>(Wd l i).length - u.1) ?_ (0,o,Q,L,tag,G) ⟨zt,by rw[Ss];exact hR,by rw[Ss];exact za,zb⟩
   clear hR za zb;clear o Q L tag G;rintro⟨k,o,Q,L,tag,G⟩ ⟨hk,hR,za,zb⟩ ih2;simp only at hk hR za zb ih2 ⊢;have y2:IntKind.i64.wrap ((k:Int)+1)=k+1:=wrap_i64 _ (by omega) (by omega);repeat first|(refine r_ ?_;simp[y2])|refine q_ ?_
   refine Qa rfl (fun yi=> ?_) (fun yj=> ?_)
   ·have z8:k+1<(Wd l i).length:=by simp at yi;omega
    have zu:k<(Wd l i).length:=hk;have y3:=v0r l i k z8;have y4:=H5 N l (Ie l i k);have y5:=c0u (k:=k) zp hn (by omega:i<16);have yz:=fun x=>Ke N l (Ie l i k) x;have zh:=fun o' Q' L' yk G'=>ih2 (k+1,o',Q',L',yk,G');simp only[y3,yz]at zh;clear y3 yz;have xb:∀z∈Wd l i,-1099511627776≤z∧z≤1099511627777:=q1y zp i;have xp:=xb _ (zL z8);generalize Yh N l (Ie l i k)=st at *
    repeat first|(refine r_ ?_;simp[zu])|refine q_ ?_
    refine Qe rfl rfl (by simp) (C1 N l i (Wd l i)[k] z1 (by omega) zp hn) rfl ?_;rintro _ rfl;simp;repeat first|(refine r_ ?_;simp)|refine q_ ?_
    have xq:(Ih l i (Wd l i)[k]).length=l.length:=by rw[z1a]
    have x0:IntKind.i64.wrap ((Wd l i)[k+1] - 1)=(Wd l i)[k+1] - 1:=wrap_i64 _ (by omega) (by omega);generalize xr:Ih l i (Wd l i)[k]=sg at *
    have x1:∀m∈ksG st,m.length≤1000000:=fun m hm=>by obtain⟨g,hg,rfl⟩:=zT.1 hm;rw[Lo,y4.kl g hg];omega
    refine Jf (n:=sgB sg) rfl rfl rfl rfl rfl za x1 (by rw[Lo];omega) (fun c hc=> ?_) (fun x2=> ?_)
    ·obtain⟨p,hp⟩:∃p,st[c]? =some (sg,p):=by rw[ksG,zY]at hc;obtain⟨g,hg,he⟩:=zV.1 hc;have:=c02 he;exact⟨g.2,by rw[hg,←this]⟩
     simp;repeat first|(refine r_ ?_;simp)|refine q_ ?_
     refine Ql rfl ?_;simp;repeat first|(refine r_ ?_;simp)|refine q_ ?_
     have xc:=Bk (T:=N) (i:=i) (x:=⟨(Wd l i)[k],(Wd l i)[k+1] - 1⟩) y4.nd hp;rw[xc]at zh;have zg:=F4 hp;have y5:p.length=N:=y4.len _ (zJ hp);have yl:∀s∈p,s.length≤2097168:=fun s hs=>by have:=y4.sz _ (zJ hp) s hs;omega
     have zm:(prG st)[c]? =some p:=by rw[prG,zY,hp];rfl
     have zi:prG (st.set c (sg,Uz p i ⟨(Wd l i)[k],(Wd l i)[k+1] - 1⟩))=(prG st).set c (Uz p i ⟨(Wd l i)[k],(Wd l i)[k+1] - 1⟩):=by rw[prG,tT];rfl
     have zj:ksG (st.set c (sg,Uz p i ⟨(Wd l i)[k],(Wd l i)[k+1] - 1⟩))=ksG st:=by
      rw[ksG,tT];refine xZ fun j=> ?_;by_cases e:c=j
      ·subst e;rw[zO (by simpa using zg)];exact hc.symm
      ·rw[zE e];rfl
     have zc:(st.set c (sg,Uz p i ⟨(Wd l i)[k],(Wd l i)[k+1] - 1⟩)).length=st.length:=by simp
     generalize st.set c (sg,Uz p i ⟨(Wd l i)[k],(Wd l i)[k+1] - 1⟩)=st' at *;refine Qz (sl':=[(0,.i N),(1,LP l),(9,.sl o 1 0 st.length),(10,.mref 0),(11,.i i),(12,LI (Wd l i)),(13,.i k),(15,.i c),(42,.i N),(43,.i i)]) ?_ (by simp)
     have z6:(prG st).length=st.length:=by simp[prG]
     generalize st.length=n at *;generalize ksG st=ks at *;generalize prG st=pr at *
     have z7:=hR.row c p zm;have zd:=hR.out;rw[z6]at zd;have zv:c<pr.length:=by omega
     have zw:=Qh za;have xd:=Qh z7;have zx:=Qh zd;have zn:=hR.tQ c zv;have zk:=hR.to;have ym:Q c≠o:=fun e=>by rw[←e,zn]at zk;simp at zk
     have y6:Q c≠0:=fun e=>by rw[e,zb]at zn;simp at zn
     have yn:o≠0:=fun e=>by rw[e,zb]at zk;simp at zk
     have y7:=fun hn=>hR.leaf c p i zm z1 hn;have y8:=fun hn=>hR.tL c p i zm z1 hn;have zo:=Ow (L c) N p;have zf:=A2 (L c) p z1;have zl:=q0t Q N zg;have zy:=Zd Q N n;have y9:i<p.length:=by omega
     have yo:(p.getD i []).length≤2097168:=by rw[Wu y9];exact yl _ (zL y9)
     obtain⟨s,hs⟩:∃s,p.getD i []=s:=⟨_,rfl⟩
     rw[hs]at zf yo y7 y8;obtain⟨row,ya⟩:∃row,c0z (L c) N p=row:=⟨_,rfl⟩
     rw[ya]at z7 zo zf;refine Nk (fun E1=>∃z,E1[Q c]? =some (.va 171 1 (row.set i (.sl z 2 0 s.length)))∧E1[z]? =some (.arr 187 2 (s.map encIv))∧(∀j,j<G.length→j≠Q c→E1[j]? =G[j]?)∧G.length≤E1.length∧(tag z=(c+1,i+1)∨G.length≤z)) (fun hm=> ?_) ?_
     ·by_cases hs0:s=[]
      ·rw[Ff,if_pos hs0]at zf;refine Ad (Q c) i 187 2 z7 zf ?_;refine hm _ ⟨G.length,by rw[hs0];exact Qi (Qb z7 _) _,?_,fun j hj zt=> ?_,by simp,.inr (zP _)⟩
       ·rw[zE (by omega),hs0];simp
       ·rw[zE (Ne.symm zt),zF hj]
      ·rw[Ff,if_neg hs0]at zf;have zz:row.set i (.sl (L c i) 2 0 s.length)=row:=q0e zf;exact hm G ⟨L c i,by rw[zz];exact z7,y7 hs0,fun _ _ _=>rfl,zP _,.inl (y8 hs0)⟩
     ·rintro E1 ⟨z,f1,f2,f3,f4,f5⟩;have yp:z≠Q c:=fun e=>by
       rcases f5 with h|h
       ·rw[e,zn]at h;simp at h
       ·omega
      have yq:z≠o:=fun e=>by
       rcases f5 with h|h
       ·rw[e,zk]at h;simp at h
       ·omega
      have yr:z≠0:=fun e=>by
       rcases f5 with h|h
       ·rw[e,zb]at h;simp at h
       ·omega
      have g1:=(f3 o zx (Ne.symm ym)).trans zd;have g0:=(f3 0 zw (Ne.symm y6)).trans za;have ze:∀hh,(Xz Q N n)[c]'hh= .agg [.sl (Q c) 1 0 N]:=fun hh=>by rw[zK hh]at zl;exact Option.some.inj zl
      have yt:∀hh,(row.set i (.sl z 2 0 s.length))[i]'hh= .sl z 2 0 s.length:=fun hh=>by simp
      have d1:∀M,(E1.set z .dead++M)[Q c]? =some (.va 171 1 (row.set i (.sl z 2 0 s.length))):=fun M=>Qb (Qd yp f1 _) M;have y0:∀M,M=(E1.set z .dead++[AObj.arr 187 2 [encIv ⟨(Wd l i)[k],(Wd l i)[k+1] - 1⟩],.arr 187 2 (s.map encIv++[encIv ⟨(Wd l i)[k],(Wd l i)[k+1] - 1⟩])]).set (Q c) (.va 171 1 (row.set i (.sl (E1.length+1) 2 0 (s.length+1))))→
        Rows [] N o (prG st') Q (fun c' k'=>if c'=c∧k'=i then E1.length+1 else L c' k') (fun j=>if j=E1.length+1 then(c+1,i+1)else tag j) M∧M[0]? =some (mpT (ksG st'))∧(if 0=E1.length+1 then(c+1,i+1)else tag 0)=(0,1):=fun M hM=>by
       rw[zi,zj];have xe:=Qh g0;have xf:=Qh f1;refine⟨hR.put zm y5 z1 (by omega) ?_ ?_ (fun j hj h1 h2=> ?_),?_,by rw[if_neg (by omega)];exact zb⟩
       ·rw[hM,ya,hs];exact zO (by simp;omega)
       ·rw[hM,hs,zE (by omega),zH (by simp)];simp
       ·have yu:z≠j:=fun e=>by
         rcases f5 with h|h
         ·rw[e]at h;exact h2 h
         ·omega
        rw[hM,zE (Ne.symm h1),zF (by simp;omega),zE yu];exact f3 j hj h1
       ·rw[hM,zE y6,zF (by simp;omega),zE yr];exact g0
      have yv:(0:Int)≤(k:Int)+1:=by omega
      have yw:(k:Int)+1<(Wd l i).length:=by omega
      have dI:∀M,(E1++M)[z]? =some (.arr 187 2 (s.map encIv)):=fun M=>Qb f2 M;have d2:∀M,(E1++M)[Q c]? =some (.va 171 1 (row.set i (.sl z 2 0 s.length))):=fun M=>Qb f1 M;have yb:∀M hh,(E1.set z .dead++M)[Q c]'hh= .va 171 1 (row.set i (.sl z 2 0 s.length)):=fun M hh=>by have:=d1 M;rw[zK hh]at this;exact Option.some.inj this
      have d3:∀M,(E1.set z .dead++M)[o]? =some (.va 76 1 (Xz Q N n)):=fun M=>Qb (Qd yq g1 _) M;have d4:∀M,(E1++M)[o]? =some (.va 76 1 (Xz Q N n)):=fun M=>Qb g1 M;refine Qm tOk mixed [26,28] (.val 0 (.val 1 (.val 2 (.val 3 (.val 5 (.val 6 (.val 7 (.val 8 (.val 9 (.val 10 (.val 11 (.val 12 (.val 13 (.val 14 (.val 15 (.val 16 (.val 17 (.val 18 (.val 19 (.val 20 (.val 21 (.val 22 (.val 23 (.val 24 (.two 4 (.one 25 (.one 26 (.val 27 (.one 28 (.done))))) 25 (.two 4 (.one 26 (.val 27 (.one 28 (.done)))) 26 (.val 4 (.val 27 (.one 28 (.done)))))))))))))))))))))))))))))) rfl (by kernel_rfl) ?_;simp[g1,zl,ze,zy,zg,f1,yt,zo,z1,zu,z8,y2,x0,yv,yw,d4];refine⟨?_,?_⟩;all_goals
       refine Qf tOk rfl rfl Ig rfl Sz rfl (by decide) (by decide) rfl rfl rfl ?_;simp[dI,Qj f2,d1,yb,d2,d3,d4,z1,zo,zl,ze,zy,zg];refine⟨by simp[Wi,dI,Qj f2,d1,yb,d2,d3,d4,z1,zo,zl,ze,zy,zg]<;>omega,?_⟩;repeat first|(refine r_ ?_;simp[y2])|refine q_ ?_
       refine Qc (sl':=[(0,.i N),(1,LP l),(9,.sl o 1 0 n),(10,.mref 0),(11,.i i),(12,LI (Wd l i)),(13,.i (k+1:Nat)),(42,.i N),(43,.i i)]) ?_ (by simp);obtain⟨q1,q2,q3⟩:=y0 _ rfl;rw[←zc];have:=zh o Q _ _ _ ⟨z8,q1,q2,q3⟩ (by omega);simpa[zc]using this
    ·simp;repeat first|(refine r_ ?_;simp)|refine q_ ?_
     refine Ql rfl ?_;simp;repeat first|(refine r_ ?_;simp)|refine q_ ?_
     have xg:(ksG st).length=st.length:=by simp[ksG]
     have z6:(prG st).length=st.length:=by simp[prG]
     refine La (n:=sgB sg) rfl rfl rfl rfl rfl (ks:=ksG st) (by rw[xg];rfl) za x1 (by rw[Lo];omega) x2 ?_;simp;repeat first|(refine r_ ?_;simp)|refine q_ ?_
     refine E9 tOk rfl rfl rfl T74 rfl Ig rfl rfl rfl (n:=N) (by simp;omega) (by unfold maxLen;omega) .nils rfl ?_;simp;have x3:(0:Nat)≠o:=fun e=>by subst e;rw[hR.out]at za;rw[Rk]at za;simp at za
     have yx:=Qd x3 hR.out (mpT (ksG st++[sgB sg]));have xh:=Qi za (mpT (ksG st++[sgB sg]));have xi:∀j,j≠0→(G.set 0 (mpT (ksG st++[sgB sg])))[j]? =G[j]? :=fun j hj=>zE (Ne.symm hj);have xj:(G.set 0 (mpT (ksG st++[sgB sg]))).length=G.length:=by simp
     have yc:=Zd Q N st.length;rw[←xj];generalize G.set 0 (mpT (ksG st++[sgB sg]))=G1 at *
     have hle:=y4.le;refine Jx tOk rfl rfl T91 rfl T76 rfl (by decide) (by decide) rfl rfl rfl ?_;simp[Ol,Zs,Qb yx,yc,z6];refine⟨by simp[Wi,yc,z6]<;>omega,?_⟩;repeat first|(refine r_ ?_;simp)|refine q_ ?_
     refine F3 (e:=171) (c:=1) (xs:=yL N .nils) G1.length (by rw[zF (by simp),zE (by have:=Qh yx;omega)];simp) ?_;have xk:=Qh yx;have zt:∀g∈st,g.1≠sg:=fun g hg e=>x2 (zT.2 ⟨g,hg,by rw[e]⟩);rw[O0 zt]at zh;have x4:Rows [] N o (prG st) Q L tag G1:=hR.other (fun j hj ht=>xi j (fun e=>by subst e;exact ht zb)) (by omega);refine Wb fun Z hZ=> ?_;have y1:=x4.new (H':=Z) (q:=G1.length) (o':=G1.length+2) (zP _) (by omega) (by omega) (by rw[hZ];exact zO (by simp;omega)) (by rw[hZ,z6,zE (by omega),zH (by simp)];simp) (fun j hj xl=>by rw[hZ,zE (by omega),zF (by simp;omega),zE (Ne.symm xl),zF hj]);have x5:Z[0]? =some (mpT (ksG st++[sgB sg])):=by rw[hZ,zE (by omega),zF (by simp),zE (Ne.symm x3),zF (by omega)];exact xh
     clear hZ;have x6:(fun j=>if j=G1.length then(st.length+1,0)else if j=G1.length+2 then(0,0)else tag j) 0=((0,1):Nat×Nat):=by
      show(if 0=G1.length then(st.length+1,0)else if 0=G1.length+2 then(0,0)else tag 0)=((0,1):Nat×Nat)
      rw[if_neg (by omega),if_neg (by omega)];exact zb
     rw[z6]at y1;clear hR za zb x4;have zg:st.length<st.length+1:=by omega
     have zm:(prG st++[yL N []])[st.length]? =some (yL N ([]:List Iv)):=by rw[←z6];simp
     have zq:(prG st++[yL N []]).length=st.length+1:=by simp[z6]
     have yd:(yL N ([]:List Iv)).length=N:=by simp
     have yl:∀s∈yL N ([]:List Iv),s.length≤2097168:=fun s hs=>by rw[(uo.1 hs).2];simp
     have zi:prG (st++[(sg,Uz (yL N []) i ⟨(Wd l i)[k],(Wd l i)[k+1] - 1⟩)])=(prG st++[yL N []]).set st.length (Uz (yL N []) i ⟨(Wd l i)[k],(Wd l i)[k+1] - 1⟩):=by rw[t6 _ _ (by omega),z6,Nat.sub_self,prG,yP];rfl
     have zj:ksG (st++[(sg,Uz (yL N []) i ⟨(Wd l i)[k],(Wd l i)[k+1] - 1⟩)])=ksG st++[sgB sg]:=by simp[ksG]
     have zc:(st++[(sg,Uz (yL N []) i ⟨(Wd l i)[k],(Wd l i)[k+1] - 1⟩)]).length=st.length+1:=by simp
     generalize st++[(sg,Uz (yL N []) i ⟨(Wd l i)[k],(Wd l i)[k+1] - 1⟩)]=st' at *;refine Qz (sl':=[(0,.i N),(1,LP l),(9,.sl (G1.length+2) 1 0 (st.length+1)),(10,.mref 0),(11,.i i),(12,LI (Wd l i)),(13,.i k),(15,.i st.length),(42,.i N),(43,.i i)]) ?_ (by simp)
     generalize prG st++[yL N []]=pr at *;generalize yL N ([]:List Iv)=p at *;generalize ksG st++[sgB sg]=ks at *;generalize (fun c=>if c=st.length then G1.length else Q c)=Q at *
     generalize (fun j=>if j=G1.length then(st.length+1,0)else if j=G1.length+2 then(0,0)else tag j)=tag at *
     generalize st.length+1=n at *;generalize st.length=c at *;generalize G1.length+2=o at *
     have hR:=y1;have za:=x5;have z6:=zq;have y5:=yd;have zb:=x6;clear y1 x5 zq yd x6;generalize xt:Z=G at *
     have z7:=hR.row c p zm;have zd:=hR.out;rw[z6]at zd;have zv:c<pr.length:=by omega
     have zw:=Qh za;have xd:=Qh z7;have zx:=Qh zd;have zn:=hR.tQ c zv;have zk:=hR.to;have ym:Q c≠o:=fun e=>by rw[←e,zn]at zk;simp at zk
     have y6:Q c≠0:=fun e=>by rw[e,zb]at zn;simp at zn
     have yn:o≠0:=fun e=>by rw[e,zb]at zk;simp at zk
     have y7:=fun hn=>hR.leaf c p i zm z1 hn;have y8:=fun hn=>hR.tL c p i zm z1 hn;have zo:=Ow (L c) N p;have zf:=A2 (L c) p z1;have zl:=q0t Q N zg;have zy:=Zd Q N n;have y9:i<p.length:=by omega
     have yo:(p.getD i []).length≤2097168:=by rw[Wu y9];exact yl _ (zL y9)
     obtain⟨s,hs⟩:∃s,p.getD i []=s:=⟨_,rfl⟩
     rw[hs]at zf yo y7 y8;obtain⟨row,ya⟩:∃row,c0z (L c) N p=row:=⟨_,rfl⟩
     rw[ya]at z7 zo zf;refine Nk (fun E1=>∃z,E1[Q c]? =some (.va 171 1 (row.set i (.sl z 2 0 s.length)))∧E1[z]? =some (.arr 187 2 (s.map encIv))∧(∀j,j<G.length→j≠Q c→E1[j]? =G[j]?)∧G.length≤E1.length∧(tag z=(c+1,i+1)∨G.length≤z)) (fun hm=> ?_) ?_
     ·by_cases hs0:s=[]
      ·rw[Ff,if_pos hs0]at zf;refine Ad (Q c) i 187 2 z7 zf ?_;refine hm _ ⟨G.length,by rw[hs0];exact Qi (Qb z7 _) _,?_,fun j hj zt=> ?_,by simp,.inr (zP _)⟩
       ·rw[zE (by omega),hs0];simp
       ·rw[zE (Ne.symm zt),zF hj]
      ·rw[Ff,if_neg hs0]at zf;have zz:row.set i (.sl (L c i) 2 0 s.length)=row:=q0e zf;exact hm G ⟨L c i,by rw[zz];exact z7,y7 hs0,fun _ _ _=>rfl,zP _,.inl (y8 hs0)⟩
     ·rintro E1 ⟨z,f1,f2,f3,f4,f5⟩;have yp:z≠Q c:=fun e=>by
       rcases f5 with h|h
       ·rw[e,zn]at h;simp at h
       ·omega
      have yq:z≠o:=fun e=>by
       rcases f5 with h|h
       ·rw[e,zk]at h;simp at h
       ·omega
      have yr:z≠0:=fun e=>by
       rcases f5 with h|h
       ·rw[e,zb]at h;simp at h
       ·omega
      have g1:=(f3 o zx (Ne.symm ym)).trans zd;have g0:=(f3 0 zw (Ne.symm y6)).trans za;have ze:∀hh,(Xz Q N n)[c]'hh= .agg [.sl (Q c) 1 0 N]:=fun hh=>by rw[zK hh]at zl;exact Option.some.inj zl
      have yt:∀hh,(row.set i (.sl z 2 0 s.length))[i]'hh= .sl z 2 0 s.length:=fun hh=>by simp
      have d1:∀M,(E1.set z .dead++M)[Q c]? =some (.va 171 1 (row.set i (.sl z 2 0 s.length))):=fun M=>Qb (Qd yp f1 _) M;have y0:∀M,M=(E1.set z .dead++[AObj.arr 187 2 [encIv ⟨(Wd l i)[k],(Wd l i)[k+1] - 1⟩],.arr 187 2 (s.map encIv++[encIv ⟨(Wd l i)[k],(Wd l i)[k+1] - 1⟩])]).set (Q c) (.va 171 1 (row.set i (.sl (E1.length+1) 2 0 (s.length+1))))→
        Rows [] N o (prG st') Q (fun c' k'=>if c'=c∧k'=i then E1.length+1 else L c' k') (fun j=>if j=E1.length+1 then(c+1,i+1)else tag j) M∧M[0]? =some (mpT (ksG st'))∧(if 0=E1.length+1 then(c+1,i+1)else tag 0)=(0,1):=fun M hM=>by
       rw[zi,zj];have xe:=Qh g0;have xf:=Qh f1;refine⟨hR.put zm y5 z1 (by omega) ?_ ?_ (fun j hj h1 h2=> ?_),?_,by rw[if_neg (by omega)];exact zb⟩
       ·rw[hM,ya,hs];exact zO (by simp;omega)
       ·rw[hM,hs,zE (by omega),zH (by simp)];simp
       ·have yu:z≠j:=fun e=>by
         rcases f5 with h|h
         ·rw[e]at h;exact h2 h
         ·omega
        rw[hM,zE (Ne.symm h1),zF (by simp;omega),zE yu];exact f3 j hj h1
       ·rw[hM,zE y6,zF (by simp;omega),zE yr];exact g0
      have yv:(0:Int)≤(k:Int)+1:=by omega
      have yw:(k:Int)+1<(Wd l i).length:=by omega
      have dI:∀M,(E1++M)[z]? =some (.arr 187 2 (s.map encIv)):=fun M=>Qb f2 M;have d2:∀M,(E1++M)[Q c]? =some (.va 171 1 (row.set i (.sl z 2 0 s.length))):=fun M=>Qb f1 M;have yb:∀M hh,(E1.set z .dead++M)[Q c]'hh= .va 171 1 (row.set i (.sl z 2 0 s.length)):=fun M hh=>by have:=d1 M;rw[zK hh]at this;exact Option.some.inj this
      have d3:∀M,(E1.set z .dead++M)[o]? =some (.va 76 1 (Xz Q N n)):=fun M=>Qb (Qd yq g1 _) M;have d4:∀M,(E1++M)[o]? =some (.va 76 1 (Xz Q N n)):=fun M=>Qb g1 M;refine Qm tOk mixed [26,28] (.val 0 (.val 1 (.val 2 (.val 3 (.val 5 (.val 6 (.val 7 (.val 8 (.val 9 (.val 10 (.val 11 (.val 12 (.val 13 (.val 14 (.val 15 (.val 16 (.val 17 (.val 18 (.val 19 (.val 20 (.val 21 (.val 22 (.val 23 (.val 24 (.two 4 (.one 25 (.one 26 (.val 27 (.one 28 (.done))))) 25 (.two 4 (.one 26 (.val 27 (.one 28 (.done)))) 26 (.val 4 (.val 27 (.one 28 (.done)))))))))))))))))))))))))))))) rfl (by kernel_rfl) ?_;simp[g1,zl,ze,zy,zg,f1,yt,zo,z1,zu,z8,y2,x0,yv,yw,d4];refine⟨?_,?_⟩;all_goals
       refine Qf tOk rfl rfl Ig rfl Sz rfl (by decide) (by decide) rfl rfl rfl ?_;simp[dI,Qj f2,d1,yb,d2,d3,d4,z1,zo,zl,ze,zy,zg];refine⟨by simp[Wi,dI,Qj f2,d1,yb,d2,d3,d4,z1,zo,zl,ze,zy,zg]<;>omega,?_⟩;repeat first|(refine r_ ?_;simp[y2])|refine q_ ?_
       refine Qc (sl':=[(0,.i N),(1,LP l),(9,.sl o 1 0 n),(10,.mref 0),(11,.i i),(12,LI (Wd l i)),(13,.i (k+1:Nat)),(42,.i N),(43,.i i)]) ?_ (by simp);obtain⟨q1,q2,q3⟩:=y0 _ rfl;rw[←zc];have:=zh o Q _ _ _ ⟨z8,q1,q2,q3⟩ (by omega);simpa[zc]using this
   ·have ye:k=(Yg (Wd l i)).length:=by rw[Ag];simp at yj;omega
    subst ye;rw[j04]at hR za ⊢;repeat first|(refine r_ ?_;simp[hw])|refine q_ ?_
    refine Qc (sl':=[(0,.i N),(1,LP l),(9,.sl o 1 0 (Yh N l (Yf l (i+1))).length),(10,.mref 0),(42,.i N),(43,.i (i+1:Nat))]) ?_ (by simp);exact ih (i+1,o,Q,L,tag,G) ⟨by omega,hR,za,zb⟩ (by omega)
  ·have zr:i=N:=by simp at yh;omega
   subst zr;have x7:Yh i l (Yf l i)=Io i l:=j07 i l;rw[x7]at hR ⊢;have x8:=f05 zp;have yy:=H5 i l (Yf l i);rw[x7]at yy;have y5:=Gh zp hn i;have xm:Ee i l=(prG (Io i l)).map Rw:=by rw[Ee,prG,vF];rfl
   rw[xm]at hm;have z6:(prG (Io i l)).length=(Io i l).length:=by simp[prG]
   repeat first|(refine r_ ?_;simp)|refine q_ ?_
   have x9:=g1y i o (prG (Io i l)) Q L tag G hR (by omega) (fun p hp=>by
    obtain⟨g,hg,rfl⟩:=zT.1 hp;exact⟨yy.len g hg,fun s hs=>⟨(x8.iv hg hs).1,by have:=yy.sz g hg s hs;omega,(x8.iv hg hs).2⟩⟩)
   rw[z6]at x9;refine Q7 rfl rfl x9 rfl ?_;rintro r H' (⟨rfl,hb⟩|⟨rfl,hb⟩)
   ·rw[if_pos hb]at hm;rw[hm];simp;repeat first|(refine r_ ?_;simp)|refine q_ ?_
   ·rw[if_neg (by simp[hb])]at hm;rw[hm];simp;repeat first|(refine r_ ?_;simp)|refine q_ ?_
end Go.Abs
