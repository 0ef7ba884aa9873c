/- Part Kh of the proof: an abstract machine over the model, and what the functions of the program hand back in its terms. No condition. -/
import Derived.Test.YteghceocnldccaaGreatDoorKg
import Derived.Test.YteghceocnldccaaGreatDoorKc
import Derived.Test.YteghceocnldccaaGreatDoorKf
import Derived.DeepKeys4
import Derived.Test.YteghceocnldccaaGreatDoorKd
import Derived.Test.YteghceocnldccaaGreatDoorKe
set_option linter.all false
open List renaming mem_map→zR,getElem?_eq_getElem→zI,getElem?_set_ne→zB,getElem?_append_right→zH,take_of_length_le→zO,getElem?_set_self→zL,length_set→wT,range→yJ,getD→yV,append_assoc→xW,getElem?_append_left→zF,nil_append→xY,getElem_eq_iff→zY,mem_append→zV,getElem_mem→zK,take→v_,map→yX,map_append→yF,length_append→yB,getElem?_eq_some_iff→zE,take_succ_eq_append_getElem→zP,filter_append→wY,filter_cons→uA,filter_nil→tt,length_filter_le→xM,length_take→xN,ext_getElem?→xO,getElem?_eq_none→yZ,map_congr_left→xT,map_map→vN,mem_range→yW,length_cons→yS,length_nil→tu,take_length→yP,flatMap_append→x_,filterMap_append→uS,take_append_drop→xP,getElem?_map→zX,append_nil→xD,range_succ→wp,mem_of_getElem?→zJ,getElem_of_mem→y_,map_cons→yY,nodup_append→vB,map_id'→tF,drop_eq_getElem_cons→ws,filter_congr→tf,length_map→zZ,foldl_append→wG,mem_of_mem_take→xK,length_drop→xR,mem_of_mem_drop→wR,map_take→xI,map_drop→xJ,any_eq_false→wQ,any_eq_true→wN,getElem_cons_zero→uN,mem_singleton→zT
open Nat renaming le_trans→yO,le_refl→zQ,zero_le→wn,mul_le_mul_right→z_,mul_le_mul→tB
open Option renaming map_eq_some_iff→zU
open Bool renaming false_or→um,false_eq_true→un
set_option maxHeartbeats 16000000
set_option linter.unusedSimpArgs false
set_option maxRecDepth 100000
namespace Go.Abs
open Go Go.Proofs Go.Maps Go.RowKit
attribute [local irreducible] Wq
theorem Xh(a:Aut):PC Tryz.prog 70 [encA a] (fun r=>r= .tup [encA (Nr a).2,.i (Nr a).1]):=by
 refine Ql tOk Tryz.func70 rfl Tryz.results70 rfl (by simp[Tryz.ntmps70]) ?_;rw[Tryz.ntmps70];simp only[Qg];simp only[encA];repeat first|(refine r_ ?_;simp)|refine q_ ?_
 refine Qf rfl rfl (by simp) (Ua a) rfl ?_;rintro _ rfl;simp;repeat first|(refine r_ ?_;simp)|refine q_ ?_
 refine Qb rfl (fun h=> ?_) (fun h=> ?_)
 ·have hk:Nr a=(5,Ys):=by rw[Nr,if_pos (by simpa using h)]
  rw[hk];repeat first|(refine r_ ?_;simp)|refine q_ ?_
  exact⟨rfl,rfl,rfl⟩
 ·have hk:Nr a=(0,a):=by rw[Nr,if_neg (by simpa using h)]
  rw[hk];repeat first|(refine r_ ?_;simp)|refine q_ ?_
attribute [local irreducible] Pg Yt O6 Wl q0h Nr W3
theorem B0(a:Aut):PC Tryz.prog 24 [encA a] (fun r=>r= .tup [encA (Ie a).2,.i (Ie a).1]):=by
 refine Ql tOk Tryz.func24 rfl Tryz.results24 rfl (by simp[Tryz.ntmps24]) ?_;rw[Tryz.ntmps24];simp only[Qg];simp only[encA];repeat first|(refine r_ ?_;simp)|refine q_ ?_
 refine Qf rfl rfl (by simp) (Ua a) rfl ?_;rintro _ rfl;simp;repeat first|(refine r_ ?_;simp)|refine q_ ?_
 refine Qb rfl (fun h=> ?_) (fun h=> ?_)
 ·have h':Wq a≠0:=by simpa using h
  have hc:Ie a=(Wq a,Ys):=by rw[Ie,if_pos h']
  rw[hc];repeat first|(refine r_ ?_;simp)|refine q_ ?_
  exact⟨rfl,rfl,rfl⟩
 have h0:Wq a=0:=by simpa using h
 have z6:=(O5 a).1 h0;have hc:Ie a=Pg a:=by rw[Ie,if_neg (fun k=>k h0)]
 have zh:=z6.fin;have zi:=z6.mvs;rw[hc,←q25 z6.wfA];repeat first|(refine r_ ?_;simp)|refine q_ ?_
 refine Qf rfl rfl (by simp) (z18 a z6) rfl ?_;rintro _ rfl;simp;refine Qb rfl (fun hf=> ?_) (fun hf=> ?_)
 ·have z8:d1k a=(0,a):=by rw[d1k,if_pos (by simpa using hf)]
  rw[z8];repeat first|(refine r_ ?_;simp)|refine q_ ?_
 have z8:d1k a=Nr (Ta a):=by
  rw[d1k,if_neg (by simpa using hf),Ta];have:Es a (O6 a)=Es a (Wl a):=by have:O6 a=Wl a:=funext fun s=>Hw z6.wfA s;rw[this]
  rw[this]
 rw[z8];repeat first|(refine r_ ?_;simp)|refine q_ ?_
 refine Qe tOk rfl rfl T22 rfl T4 rfl (by decide) (by decide) rfl rfl rfl ?_;simp;refine⟨⟨fun y hy=> ?_,by simp;omega⟩,?_⟩
 ·obtain⟨b,_,rfl⟩:=zR.1 hy;exact⟨rfl,rfl⟩
 refine Qe tOk rfl rfl T22 rfl T4 rfl (by decide) (by decide) rfl rfl rfl ?_;simp;refine⟨by simp[Wa]<;>omega,?_⟩;repeat first|(refine r_ ?_;simp)|refine q_ ?_
 refine Qe tOk rfl rfl T23 rfl T78 rfl (by decide) (by decide) rfl rfl rfl ?_;simp;refine⟨by simp[Wa]<;>omega,?_⟩;repeat first|(refine r_ ?_;simp)|refine q_ ?_
 refine Qp (Qc (sl':=[(1,.vptr 0 0),(2,.vptr 1 0),(3,.i 0),(5,.i a.fin.length),(6,.vptr 2 0),(7,.i (0:Nat))]) ?_ (by simp));refine Qo (F:=fun(u:Nat×Nat×List AObj)=>⟨[(1,.vptr 0 0),(2,.vptr 1 0),(3,.i 0),(5,.i a.fin.length),(6,.vptr 2 0),(7,.i u.1)],u.2.2⟩)
  (fun u=>u.1≤a.fin.length∧u.2.2[0]? =some (.vars (Qu a))∧u.2.2[1]? =some (.vars [.i 0,.nils,.nils])∧u.2.2[2]? =some (.vars [.i a.types,.sl 5 1 0 (a.fin.length+1),.sl u.2.1 3 0 (a.mv.length+(q0h a u.1).length)])∧u.2.2[5]? =some (.arr 4 1 (a.fin.map .bool++[.bool false]))∧u.2.2[u.2.1]? =some (.arr 78 3 (a.mv.map encMv++(q0h a u.1).map encMv))) (fun u=>a.fin.length - u.1) ?_ (0,6,_) ⟨by simp,rfl,rfl,by rw[Gl];rfl,rfl,by rw[Gl];simp⟩
 rintro⟨j,v,G⟩ ⟨hj,g0,g1,g2,g5,gv⟩ ih;simp only at hj g0 g1 g2 g5 gv ih ⊢;have g0L:∀(L:List AObj) hh,(G++L)[0]'hh= .vars (Qu a):=fun L hh=>by have:=Qa g0 L;rw[zI hh]at this;exact Option.some.inj this
 have g2L:∀(L:List AObj) hh,(G++L)[2]'hh= .vars [.i a.types,.sl 5 1 0 (a.fin.length+1),.sl v 3 0 (a.mv.length+(q0h a j).length)]:=fun L hh=>by have:=Qa g2 L;rw[zI hh]at this;exact Option.some.inj this
 have zb:v≠2:=fun e=>by rw[e,g2]at gv;simp at gv
 have zj:v≠0:=fun e=>by rw[e,g0]at gv;simp at gv
 have zc:v≠1:=fun e=>by rw[e,g1]at gv;simp at gv
 have zd:v≠5:=fun e=>by rw[e,g5]at gv;simp at gv
 have zk:=Cd a j;have zw:=Qh gv;have zx:=Qh g5;repeat first|(refine r_ ?_;simp)|refine q_ ?_
 refine Qb rfl (fun zl=> ?_) (fun zm=> ?_)
 ·have zn:j<a.fin.length:=by simpa using zl
  have hw:IntKind.i64.wrap ((j:Int)+1)=j+1:=wrap_i64 _ (by omega) (by omega);have ze:=C7 a j;have z7:=fun v' G'=>ih (j+1,v',G');simp only[ze]at z7;clear ze;generalize q0h a j=new at *
  repeat first|(refine r_ ?_;simp[g0])|refine q_ ?_
  refine Qf rfl rfl (by simp) (He a z6 j) rfl ?_;rintro _ rfl;simp;rw[Hw z6.wfA];generalize Wl a j=lk at *
  repeat first|(refine r_ ?_;simp)|refine q_ ?_
  refine Qf rfl rfl (by simp) (Uf lk) rfl ?_;rintro _ rfl;simp;repeat first|(refine r_ ?_;simp)|refine q_ ?_
  cases hv:Wd lk with
  |true=>
   rw[hv]at z7;refine Qk rfl ?_;simp[hv];repeat first|(refine r_ ?_;simp[hw])|refine q_ ?_
   refine Qc (sl':=[(1,.vptr 0 0),(2,.vptr 1 0),(3,.i 0),(5,.i a.fin.length),(6,.vptr 2 0),(7,.i (j+1:Nat))]) ?_ (by simp);exact z7 v _ ⟨by omega,Qa g0 _,Qa g1 _,by simpa using Qa g2 _,Qa g5 _,by simpa using Qa gv _⟩ (by omega)
  |false=>
   rw[hv]at z7;refine Qk rfl ?_;simp[hv];repeat first|(refine r_ ?_;simp[Qa g2,g2L])|refine q_ ?_
   have g2c:∀L:List AObj,(G.set v .dead++L)[2]? =some (.vars [.i a.types,.sl 5 1 0 (a.fin.length+1),.sl v 3 0 (a.mv.length+new.length)]):=fun L=>Qa (Qd zb g2 _) L;have g2d:∀(L:List AObj) hh,(G.set v .dead++L)[2]'hh= .vars [.i a.types,.sl 5 1 0 (a.fin.length+1),.sl v 3 0 (a.mv.length+new.length)]:=fun L hh=>by have:=g2c L;rw[zI hh]at this;exact Option.some.inj this
   refine Qe tOk rfl rfl T23 rfl T78 rfl (by decide) (by decide) rfl rfl rfl ?_;simp[Qa gv,Qi gv,g2c,g2d];refine⟨by simp[Wa,Qa gv,Qi gv,g2c,g2d]<;>omega,?_⟩;repeat first|(refine r_ ?_;simp[hw])|refine q_ ?_
   refine Qc (sl':=[(1,.vptr 0 0),(2,.vptr 1 0),(3,.i 0),(5,.i a.fin.length),(6,.vptr 2 0),(7,.i (j+1:Nat))]) ?_ (by simp);refine z7 (G.length+2) _ ⟨by omega,?_,?_,?_,?_,?_⟩ (by omega)
   ·exact Qd (j:=2) (by decide) (Qa (Qd zj g0 _) _) _
   ·exact Qd (j:=2) (by decide) (Qa (Qd zc g1 _) _) _
   ·rw[Qj (g2c _) _];simp[Nat.add_assoc]
   ·exact Qd (j:=2) (by decide) (Qa (Qd zd g5 _) _) _
   ·rw[zB (by omega),zH (by simp)];simp
 ·have za:j=a.fin.length:=by simp at zm;omega
  subst za;rw[F1]at g2 gv;repeat first|(refine r_ ?_;simp)|refine q_ ?_
  refine Qn tOk mixed [9,11] (.val 0 (.val 1 (.val 2 (.val 3 (.val 4 (.val 5 (.one 6 (.val 7 (.one 8 (.one 9 (.val 10 (.one 11 (.done))))))))))))) rfl (by kernel_rfl) ?_;simp[g2,g0];refine Qf rfl rfl (by simp) (S5 a.types (by have:=z6.types;omega) (by have:=z6.types;omega)) rfl ?_;rintro _ rfl;simp;have g2c:∀L:List AObj,(G.set v .dead++L)[2]? =some (.vars [.i a.types,.sl 5 1 0 (a.fin.length+1),.sl v 3 0 (a.mv.length+(Es a (Wl a)).length)]):=fun L=>Qa (Qd zb g2 _) L;have g2d:∀(L:List AObj) hh,(G.set v .dead++L)[2]'hh= .vars [.i a.types,.sl 5 1 0 (a.fin.length+1),.sl v 3 0 (a.mv.length+(Es a (Wl a)).length)]:=fun L hh=>by have:=g2c L;rw[zI hh]at this;exact Option.some.inj this
  rw[F1]at zk;have zo:a.mv.map encMv++(Es a (Wl a)).map encMv++[encMv ⟨a.fin.length,a.fin.length,W3 a.types.toNat⟩]=(Ta a).mv.map encMv:=by simp[Ta]
  have zp:a.fin.map AV.bool++[.bool false]=(Ta a).fin.map AV.bool:=by simp[Ta]
  have zq:(Ta a).mv.length=a.mv.length+(Es a (Wl a)).length+1:=by simp[Ta];omega
  have zf:(Ta a).fin.length=a.fin.length+1:=by simp[Ta]
  have zr:(Ta a).types=a.types:=rfl;refine Qe tOk rfl rfl T23 rfl T78 rfl (by decide) (by decide) rfl rfl rfl ?_;simp[Qa gv,Qi gv,g2c,g2d];refine⟨by simp[Wa,Qa gv,Qi gv,g2c,g2d]<;>omega,?_⟩;refine Q4 fun Z hZ=> ?_;have z2:Z[2]? =some (.vars [.i a.types,.sl 5 1 0 (a.fin.length+1),.sl (G.length+1) 3 0 (a.mv.length+(Es a (Wl a)).length+1)]):=by rw[hZ];exact Qj (g2c _) _
  have z5:Z[5]? =some (.arr 4 1 ((Ta a).fin.map AV.bool)):=by rw[hZ,←zp];exact Qd (j:=2) (by decide) (Qa (Qd zd g5 _) _) _
  have zv:Z[G.length+1]? =some (.arr 78 3 ((Ta a).mv.map encMv)):=by rw[hZ,←zo,zB (by omega),zH (by simp)];simp
  have z1:Z[1]? =some (.vars [.i 0,.nils,.nils]):=by rw[hZ];exact Qd (j:=2) (by decide) (Qa (Qd zc g1 _) _) _
  clear hZ;refine Qs (sl':=[(2,.vptr 1 0),(3,.i 0),(6,.vptr 2 0)]) ?_ (by simp);have zg:G.length+1≠5:=by omega
  have zt:G.length+1≠2:=by omega
  have zu:G.length+1≠1:=by omega
  refine Q1 5 z5 2 z2 ?_;simp[zf,zg];rw[zO (by simp[zf])];refine Q1 (G.length+1) (Qd (Ne.symm zt) (Qd (Ne.symm zg) zv _) _) 2 (Qj (Qd (j:=5) (by decide) z2 _) _) ?_;simp;rw[zO (by simp[zq])];have z2l:=Qh z2;refine Q4 fun Y hY=> ?_;have y2:Y[2]? =some (.vars [.i (Ta a).types,.list ((Ta a).fin.map .bool),.list ((Ta a).mv.map encMv)]):=by rw[hY,zr,zL (by simp only[wT];exact z2l),if_pos (by omega)]
  have y1:Y[1]? =some (.vars [.i 0,.nils,.nils]):=by rw[hY];exact Qd (j:=2) (by decide) (Qd zu (Qd (j:=2) (by decide) (Qd (j:=5) (by decide) z1 _) _) _) _
  clear hY;have y1s:∀X,(Y.set 1 X)[1]? =some X:=fun X=>Qj y1 X;repeat first|(refine r_ ?_;simp[y2])|refine q_ ?_
  refine Qf rfl rfl (by simp) (Xh (Ta a)) rfl ?_;rintro _ rfl;simp[y1];repeat first|(refine r_ ?_;simp[y1s])|refine q_ ?_
end Go.Abs
namespace Go.Abs
open Go Go.Proofs Go.Maps Go.RowKit
theorem x0j{c p:Prd}(h:c.length=p.length):(yJ c.length).map (fun i=>W4 (c.getD i []++p.getD i []))=Wp c p:=by
 refine List.ext_getElem (by simp[Wp,h]) fun i h1 h2=> ?_;have hc:i<c.length:=by simpa using h1
 have hp:i<p.length:=by omega
 simp[Wp,yV,hc,hp]
theorem GL.putL{K G:List AObj}{S p:Nat}{pre post:List AV}{e sz:Nat}{xs:List AV}(h:GL K G S p pre post e sz xs)(L:List AObj)(y:AV){n:Nat}(hn:n=xs.length):
  GL K ((G.set p .dead++(L++[AObj.arr e sz (xs++[y])])).set S (.vars (pre++ .sl (G.length+L.length) sz 0 (n+1)::post))) S (G.length+L.length) pre post e sz (xs++[y]):=by
 subst hn;have hl:=h.lt;have hg:=h.ge;have hn:=h.len;refine⟨?_,?_,by omega,hl,by simp;omega,fun j hj z1=> ?_⟩
 ·rw[zL (by simp;omega)];simp
 ·rw[zB (by omega),←xW,zH (by simp)];simp
 ·rw[zB (fun e=>z1 e.symm),zF (by simp;omega),zB (by omega)];exact h.keep j hj z1
section
variable {P:Program} [Env P] {T:TT} {nt k:Nat} {S:AS}
theorem Yg (hT:TOk P T) (hm:P.follows .mixedOrders=true) {Q:Exit→AS→Prop} {id:Nat} {l:List Oper} (Wr:List Nat) (p:PlanM) (Ph:AS→Prop) (hd:Yu nt l=true)
  (hp:(Region.noSelect l.toArray && p.size==l.length && Yr l.toArray (Uk l []) Wr p (Array.replicate l.length false))=true)
  (h:Y9 P T nt k l.toArray Wr.contains Ph p S) (hn:∀S',Ph S'→Q .normal S'):AWP P nt k (.region id l.toArray true) Q S:=
 (Ju (Q:=fun e S=>e= .normal∧Ph S) hT hm Wr p hd hp (Eg (fun _ h=>⟨rfl,h⟩) p S h)).mono fun e S ⟨he,hr⟩=>by subst he;exact hn S hr
end
attribute [local irreducible] W4 upL
theorem G5(T:Nat)(c p:Prd)(hc:PWf T c)(hp:PWf T p)(zc:∀s∈c,∀t∈p,s.length+t.length≤1000000000)(hT:T≤1000):PC Tryz.prog 69 [encP c,encP p] (fun r=>r=encP (Wp c p)):=by
 refine Ql tOk Tryz.func69 rfl Tryz.results69 rfl (by simp[Tryz.ntmps69]) ?_;rw[Tryz.ntmps69];simp only[Qg];simp only[encP];have zl:=hc.1;have zm:=hp.1;repeat first|(refine r_ ?_;simp)|refine q_ ?_
 refine Wt 3 0 171 1 rfl rfl ?_;simp;obtain⟨K,hK⟩:∃K,K=[AObj.vars [.list (c.map encL)],AObj.vars [.list (p.map encL)],AObj.vars [AV.nils],AObj.vars [AV.nils]]:=⟨_,rfl⟩
 have zd:=GL.start (K:=K) (S:=3) [] [] 171 1 (by rw[hK];simp);refine Qp (Qc (sl':=[(2,.vptr 0 0),(3,.vptr 1 0),(4,.vptr 2 0),(5,.vptr 3 0),(6,.i (0:Nat))]) ?_ (by simp));refine Qo (F:=fun(u:Nat×Nat×List AObj)=>⟨[(2,.vptr 0 0),(3,.vptr 1 0),(4,.vptr 2 0),(5,.vptr 3 0),(6,.i u.1)],u.2.2⟩)
  (fun u=>u.1≤c.length∧GL K u.2.2 3 u.2.1 [] [] 171 1 (upL (fun i=>W4 (c.getD i []++p.getD i [])) u.1)) (fun u=>c.length - u.1) ?_ (0,K.length,_) ⟨by simp,by rw[Oi,hK]at *;exact zd⟩
 rintro⟨j,q,H2⟩ ⟨hj,g⟩ ih;simp only at hj g ih ⊢;have g0:H2[0]? =some (AObj.vars [.list (c.map encL)]):=g.kp (by decide) (by rw[hK];rfl);have g1:H2[1]? =some (AObj.vars [.list (p.map encL)]):=g.kp (by decide) (by rw[hK];rfl);repeat first|(refine r_ ?_;simp[g0])|refine q_ ?_
 refine Qb rfl (fun ze=> ?_) (fun zf=> ?_)
 ·have z1:j<c.length:=by simpa using ze
  have z7:j<p.length:=by omega
  have hw:IntKind.i64.wrap ((j:Int)+1)=j+1:=wrap_i64 _ (by omega) (by omega);have gK:=g;have gc:=g.cell;have ga:=g.arr;rw[Wy]at gc;simp only[xY]at gc;have c0:∀L:List AObj,(H2++L)[0]? =some (AObj.vars [.list (c.map encL)]):=fun L=>Qa g0 L;have c1:∀L:List AObj,(H2++L)[1]? =some (AObj.vars [.list (p.map encL)]):=fun L=>Qa g1 L;have c3:∀L:List AObj,(H2++L)[3]? =some (AObj.vars [AV.sl q 1 0 j]):=fun L=>Qa gc L;have d0:∀(L:List AObj) h,(H2++L)[0]'h=AObj.vars [.list (c.map encL)]:=fun L h=>(zY h).2 (c0 L);have d1:∀(L:List AObj) h,(H2++L)[1]'h=AObj.vars [.list (p.map encL)]:=fun L h=>(zY h).2 (c1 L);have d3:∀(L:List AObj) h,(H2++L)[3]'h=AObj.vars [AV.sl q 1 0 j]:=fun L h=>(zY h).2 (c3 L);have zg:∀y∈c[j]++p[j],U7 y:=fun y hy=>by
   rcases zV.1 hy with h|h
   ·exact(v1i hc (zK z1)) y h
   ·exact(v1i hp (zK z7)) y h
  have zh:v_ (c[j].length+p[j].length) (yX encIv c[j]++yX encIv p[j])=yX encIv c[j]++yX encIv p[j]:=zO (by simp);have hb:=zc _ (zK z1) _ (zK z7);repeat first|(refine r_ ?_;simp)|refine q_ ?_
  have z8:=Wy (fun i=>W4 (c.getD i []++p.getD i [])) j;have zi:upL (fun i=>W4 (c.getD i []++p.getD i [])) (j+1)=upL (fun i=>W4 (c.getD i []++p.getD i [])) j++[encL (W4 (c[j]++p[j]))]:=by rw[Og];simp only[Wo z1,Wo z7]
  have z6:=fun q H=>ih (j+1,q,H);have zn:=Qh ga;have zj:¬q=H2.length+2:=by omega
  clear gK;have e3:∀L:List AObj,(H2.set q .dead++L)[3]? =some (AObj.vars [AV.sl q 1 0 j]):=fun L=>by have:=g.at L;rw[Wy]at this;exact this
  have f3:∀(L:List AObj) h,(H2.set q .dead++L)[3]'h=AObj.vars [AV.sl q 1 0 j]:=fun L h=>(zY h).2 (e3 L);simp only[zi]at z6;clear ih;generalize upL (fun i=>W4 (c.getD i []++p.getD i [])) j=xs at *
  refine Yg (P:=Tryz.prog) tOk mixed [8,14,17,19] (.val 0 (.val 3 (.val 4 (.val 5 (.val 6 (.val 7 (.val 9 (.val 11 (.three 1 (.two 2 (.two 8 (.val 10 (.val 12 (.val 13 (.one 14 (.one 15 (.one 16 (.one 17 (.val 18 (.one 19 (.done)))))))))) 10 (.val 12 (.two 8 (.val 13 (.one 14 (.one 15 (.one 16 (.one 17 (.val 18 (.one 19 (.done)))))))) 13 (.one 8 (.one 14 (.one 15 (.one 16 (.one 17 (.val 18 (.one 19 (.done))))))))))) 10 (.val 12 (.two 2 (.two 8 (.val 13 (.one 14 (.one 15 (.one 16 (.one 17 (.val 18 (.one 19 (.done)))))))) 13 (.one 8 (.one 14 (.one 15 (.one 16 (.one 17 (.val 18 (.one 19 (.done))))))))) 13 (.one 2 (.one 8 (.one 14 (.one 15 (.one 16 (.one 17 (.val 18 (.one 19 (.done)))))))))))) 2 (.three 1 (.two 8 (.val 10 (.val 12 (.val 13 (.one 14 (.one 15 (.one 16 (.one 17 (.val 18 (.one 19 (.done)))))))))) 10 (.val 12 (.two 8 (.val 13 (.one 14 (.one 15 (.one 16 (.one 17 (.val 18 (.one 19 (.done)))))))) 13 (.one 8 (.one 14 (.one 15 (.one 16 (.one 17 (.val 18 (.one 19 (.done))))))))))) 8 (.val 10 (.val 12 (.val 13 (.two 1 (.one 14 (.one 15 (.one 16 (.one 17 (.val 18 (.one 19 (.done))))))) 14 (.val 1 (.one 15 (.one 16 (.one 17 (.val 18 (.one 19 (.done))))))))))) 10 (.val 12 (.three 1 (.two 8 (.val 13 (.one 14 (.one 15 (.one 16 (.one 17 (.val 18 (.one 19 (.done)))))))) 13 (.one 8 (.one 14 (.one 15 (.one 16 (.one 17 (.val 18 (.one 19 (.done))))))))) 8 (.val 13 (.two 1 (.one 14 (.one 15 (.one 16 (.one 17 (.val 18 (.one 19 (.done))))))) 14 (.val 1 (.one 15 (.one 16 (.one 17 (.val 18 (.one 19 (.done))))))))) 13 (.two 1 (.one 8 (.one 14 (.one 15 (.one 16 (.one 17 (.val 18 (.one 19 (.done)))))))) 8 (.two 1 (.one 14 (.one 15 (.one 16 (.one 17 (.val 18 (.one 19 (.done))))))) 14 (.val 1 (.one 15 (.one 16 (.one 17 (.val 18 (.one 19 (.done)))))))))))) 10 (.val 12 (.three 1 (.two 2 (.two 8 (.val 13 (.one 14 (.one 15 (.one 16 (.one 17 (.val 18 (.one 19 (.done)))))))) 13 (.one 8 (.one 14 (.one 15 (.one 16 (.one 17 (.val 18 (.one 19 (.done))))))))) 13 (.one 2 (.one 8 (.one 14 (.one 15 (.one 16 (.one 17 (.val 18 (.one 19 (.done)))))))))) 2 (.three 1 (.two 8 (.val 13 (.one 14 (.one 15 (.one 16 (.one 17 (.val 18 (.one 19 (.done)))))))) 13 (.one 8 (.one 14 (.one 15 (.one 16 (.one 17 (.val 18 (.one 19 (.done))))))))) 8 (.val 13 (.two 1 (.one 14 (.one 15 (.one 16 (.one 17 (.val 18 (.one 19 (.done))))))) 14 (.val 1 (.one 15 (.one 16 (.one 17 (.val 18 (.one 19 (.done))))))))) 13 (.two 1 (.one 8 (.one 14 (.one 15 (.one 16 (.one 17 (.val 18 (.one 19 (.done)))))))) 8 (.two 1 (.one 14 (.one 15 (.one 16 (.one 17 (.val 18 (.one 19 (.done))))))) 14 (.val 1 (.one 15 (.one 16 (.one 17 (.val 18 (.one 19 (.done)))))))))) 13 (.two 1 (.one 2 (.one 8 (.one 14 (.one 15 (.one 16 (.one 17 (.val 18 (.one 19 (.done))))))))) 2 (.two 1 (.one 8 (.one 14 (.one 15 (.one 16 (.one 17 (.val 18 (.one 19 (.done)))))))) 8 (.two 1 (.one 14 (.one 15 (.one 16 (.one 17 (.val 18 (.one 19 (.done))))))) 14 (.val 1 (.one 15 (.one 16 (.one 17 (.val 18 (.one 19 (.done))))))))))))))))))))) (fun S'=>∃q',GL K S'.hp 3 q' [] [] 171 1 (xs++[encL (W4 (c[j]++p[j]))])∧look S'.sl 2=some (.vptr 0 0)∧look S'.sl 3=some (.vptr 1 0)∧look S'.sl 4=some (.vptr 2 0)∧look S'.sl 5=some (.vptr 3 0)∧look S'.sl 6=some (.i j)) rfl (by kernel_rfl) ?_ ?_
  ·simp[g0,g1,gc,c0,c1,c3,d0,d1,d3,z1,z7]
   repeat' (first
    |refine And.intro ?_ ?_
    |(refine Qe tOk rfl rfl U6 rfl Sl rfl (by decide) (by decide) rfl rfl rfl ?_;simp[g0,g1,gc,c0,c1,c3,d0,d1,d3,z1,z7];refine⟨by simp[Wa,g0,g1,gc,c0,c1,c3,d0,d1,d3,z1,z7]<;>omega,?_⟩)
    |(refine Ep (H2.length+2) (e:=187) (c:=2) (xs:=yX encIv c[j]++yX encIv p[j]) (by simp) ?_;simp[zh,zj];simp only[←yF];refine Qf rfl rfl (by simp) (Nd (c[j]++p[j]) (by rw[yB];exact hb) zg) rfl ?_;rintro _ rfl;simp)
    |(refine Qe tOk rfl rfl T74 rfl U6 rfl (by decide) (by decide) rfl rfl rfl ?_;simp[Qa ga,Qi ga,z8,e3,f3];refine⟨by simp[Wa,Qa ga,Qi ga,z8,e3,f3]<;>omega,?_⟩)
    |exact⟨_,g.putL [_,_,_,_] _ z8.symm⟩)
  ·rintro⟨sl,E⟩ ⟨q',g',s2,s3,s4,s5,s6⟩;simp only at g' s2 s3 s4 s5 s6;simp;refine Qs (sl':=[(2,.vptr 0 0),(3,.vptr 1 0),(4,.vptr 2 0),(5,.vptr 3 0),(6,.i j)]) ?_ (by simp[s2,s3,s4,s5,s6]);repeat first|(refine r_ ?_;simp[hw])|refine q_ ?_
   refine Qc (sl':=[(2,.vptr 0 0),(3,.vptr 1 0),(4,.vptr 2 0),(5,.vptr 3 0),(6,.i (j+1:Nat))]) (z6 q' E ⟨by omega,g'⟩ (by omega)) ?_;simp
 ·have za:j=c.length:=by simp at zf;omega
  subst za;have g2:=g.cell;have g3:=g.arr;have gR:H2[2]? =some (AObj.vars [AV.nils]):=g.kp (by decide) (by rw[hK];rfl);rw[Wy]at g2;simp only[xY]at g2;have hS:=(zE.1 g2).1;have zk:q≠2∧q≠3:=by have:=g.ge;rw[hK]at this;simp at this;omega
  have z8:=Wy (fun i=>W4 (c.getD i []++p.getD i [])) c.length;have zb: .list (upL (fun i=>W4 (c.getD i []++p.getD i [])) c.length)=AV.list ((Wp c p).map encL):=by rw[Dd,x0j (by omega)]
  generalize upL (fun i=>W4 (c.getD i []++p.getD i [])) c.length=xs at *
  refine Q1 q g3 3 g2 ?_;have k1:∀X,((H2.set q .dead).set 3 X)[2]? =some (AObj.vars [AV.nils]):=fun X=>Qd (by decide) (Qd zk.1 gR _) _;have k2:∀X,((H2.set q .dead).set 3 X)[3]? =some X:=fun X=>zL (by simpa using hS);have k3:∀X Y,(((H2.set q .dead).set 3 X).set 2 Y)[2]? =some Y:=fun X Y=>Qj (k1 X) _;simp[z8];rw[zO (by omega)];repeat first|(refine r_ ?_;simp[k1,k2,k3])|refine q_ ?_
  exact AV.list.inj zb
end Go.Abs
namespace Go.Abs
open Go Go.Proofs Go.Maps Go.RowKit
attribute [simp] x25 x2v x29 z2j x2r x2q
def Tq(a:Aut)(j k:Nat):List Mv:=(a.mv.take j).filter fun m=>decide (m.src=(k:Int)) && !Wd m.on
theorem j0s(a:Aut)(k:Nat):Tq a a.mv.length k=Wk a k:=by simp[Tq,Wk]
theorem Um(a:Aut)(k:Nat):Tq a 0 k=[]:=by simp[Tq]
theorem y08(a:Aut){j:Nat}(h:j<a.mv.length)(k:Nat):Tq a (j+1) k=Tq a j k++(if decide (a.mv[j].src=(k:Int)) && !Wd a.mv[j].on then [a.mv[j]]else []):=by
 unfold Tq;rw[zP h,wY]
 congr 1
 rw[uA,tt]
theorem g0f(a:Aut)(j k:Nat):(Tq a j k).length≤a.mv.length:=by unfold Tq;refine yO (xM _ _) ?_;rw[xN];omega
def Yi(l:List Mv):AV:= .list (l.map encMv)
def Yj(a:Aut):List AV:=(yJ a.fin.length).map fun k:Nat=>Yi (Wk a k)
def We(a:Aut):List AV:=[.i a.types,.list (a.fin.map .bool),.list (a.mv.map encMv),.list (Yj a)]
def R3(a:Aut):AV:= .agg (We a)
def Sw(p:Nat)(xs:List Mv):AV:=if xs=[]then .nils else .sl p 3 0 xs.length
def Gk(n:Nat)(L:Nat→Nat)(rs:Nat→List Mv):List AV:=(yJ n).map fun k=>Sw (L k) (rs k)
theorem Ir(n:Nat)(L:Nat→Nat)(rs:Nat→List Mv):(Gk n L rs).length=n:=by simp[Gk]
theorem Hb{n:Nat}(L:Nat→Nat)(rs:Nat→List Mv){k:Nat}(h:k<n):(Gk n L rs)[k]? =some (Sw (L k) (rs k)):=by simp[Gk,h]
structure MR (K:List AObj) (n o:Nat) (rs:Nat→List Mv) (L:Nat→Nat) (H:List AObj):Prop where
 out:H[o]? =some (.va 23 1 (Gk n L rs))
 leaf:∀k,k<n→rs k≠[]→H[L k]? =some (.arr 78 3 ((rs k).map encMv))
 inj:∀k k',k<n→k'<n→rs k≠[]→rs k'≠[]→L k=L k'→k=k'
 ne:∀k,k<n→rs k≠[]→L k≠o
 geo:K.length≤o
 geL:∀k,k<n→rs k≠[]→K.length≤L k
 keep:∀j,j<K.length→H[j]? =K[j]?
theorem MR.grow{K:List AObj}{n o:Nat}{rs:Nat→List Mv}{L:Nat→Nat}{H:List AObj}(h:MR K n o rs L H)(E:List AObj):MR K n o rs L (H++E):=by have z1:=h.geo;have ho:=Qh h.out;exact⟨Qa h.out E,fun k hk hn=>Qa (h.leaf k hk hn) E,h.inj,h.ne,h.geo,h.geL,fun j hj=>by rw[zF (by omega)];exact h.keep j hj⟩
theorem MR.put {K:List AObj} {n o:Nat} {rs:Nat→List Mv} {L:Nat→Nat} {H H':List AObj} (h:MR K n o rs L H) {i:Nat} (hi:i<n) {m:Mv} {np:Nat} (zc:H.length≤np)
  (za:H'[o]? =some (.va 23 1 ((Gk n L rs).set i (.sl np 3 0 ((rs i).length+1))))) (z6:H'[np]? =some (.arr 78 3 ((rs i++[m]).map encMv)))
  (hk:∀j,j<H.length→j≠o→(rs i≠[]→j≠L i)→H'[j]? =H[j]?):MR K n o (fun k=>if k=i then rs i++[m]else rs k) (fun k=>if k=i then np else L k) H':=by
 have lo:=Qh h.out;have lL:=fun k hk hn=>Qh (h.leaf k hk hn);refine⟨?_,fun k z1 hn=> ?_,fun k k' z1 z7 hn z8 e=> ?_,fun k z1 hn=> ?_,h.geo,fun k z1 hn=> ?_,fun j hj=> ?_⟩
 ·rw[za]
  congr 2
  refine xO fun k=> ?_;by_cases z1:k<n
  ·rw[Hb _ _ z1];by_cases e:k=i
   ·subst e;rw[zL (by rw[Ir];exact z1)];simp[Sw]
   ·rw[zB (fun e'=>e e'.symm),Hb _ _ z1];simp[e]
  ·rw[yZ (by rw[wT,Ir];omega),yZ (by rw[Ir];omega)]
 ·by_cases e:k=i
  ·subst e;simpa using z6
  ·simp only[e,if_false]at hn ⊢;rw[hk _ (lL k z1 hn) (h.ne k z1 hn) (fun zb e'=>e (h.inj k i z1 hi hn zb e'))];exact h.leaf k z1 hn
 ·by_cases e1:k=i
  ·by_cases e2:k'=i
   ·rw[e1,e2]
   ·simp only[e1,e2,if_true,if_false]at e z8;have:=lL k' z7 z8;omega
  ·by_cases e2:k'=i
   ·simp only[e1,e2,if_true,if_false]at e hn;have:=lL k z1 hn;omega
   ·simp only[e1,e2,if_false]at e hn z8;exact h.inj k k' z1 z7 hn z8 e
 ·by_cases e:k=i
  ·simp only[e,if_true];omega
  ·simp only[e,if_false]at hn ⊢;exact h.ne k z1 hn
 ·have zd:=h.geo;by_cases e:k=i
  ·simp only[e,if_true];omega
  ·simp only[e,if_false]at hn ⊢;exact h.geL k z1 hn
 ·have ze:=h.geo;rw[hk j (by omega) (by omega) (fun zb e=>by have:=h.geL i hi zb;omega)];exact h.keep j hj
def Mj(n:Nat)(L:Nat→Nat)(rs:Nat→List Mv)(k:Nat):List AV:=(yJ n).map fun i=>if i<k∧rs i≠[]then Yi (rs i)else Sw (L i) (rs i)
section
variable {P:Program} [Env P] {nt kk:Nat} {cd:Code} {Q:Exit→AS→Prop}
theorem q12(n:Nat)(L:Nat→Nat)(rs:Nat→List Mv):Mj n L rs 0=Gk n L rs:=by unfold Mj Gk;exact xT fun i _=>by rw[if_neg (by omega)]
theorem x1w{n:Nat}{L:Nat→Nat}{rs:Nat→List Mv}{k:Nat}(h:rs k=[]):Mj n L rs (k+1)=Mj n L rs k:=by
 unfold Mj;refine xT fun i _=> ?_;by_cases e:i=k
 ·subst e;simp[h]
 ·by_cases h2:i<k
  ·simp[h2,show i<k+1 by omega]
  ·simp[h2,show ¬i<k+1 by omega]
theorem v13{i c:Nat}{ys:List AV}{xs:List Mv}{p:Nat}(h:xs=[]∨p≠i):(Sw p xs).fz i c ys=Sw p xs:=by
 unfold Sw;split
 ·simp[AV.fz]
 ·rw[AV.fz,if_neg];rintro⟨e,_⟩;rcases h with h|h
  ·contradiction
  ·exact h e
theorem c0n{n:Nat}{L:Nat→Nat}{rs:Nat→List Mv}(z1:∀k k',k<n→k'<n→rs k≠[]→rs k'≠[]→L k=L k'→k=k'){k:Nat}(hk:k<n)(h:rs k≠[]):
  (Mj n L rs k).map (AV.fz (L k) 3 ((rs k).map encMv))=Mj n L rs (k+1):=by
 unfold Mj;rw[vN];refine xT fun i hi=> ?_;have z6:=yW.1 hi;simp only[Function.comp_apply];by_cases e:i=k
 ·subst e;simp only[Nat.lt_irrefl,false_and,if_false];rw[if_pos ⟨by omega,h⟩,Sw,if_neg h,AV.fz,if_pos ⟨rfl,rfl,by simp⟩];simp[Yi,zO]
 ·by_cases h2:i<k∧rs i≠[]
  ·rw[if_pos h2,if_pos ⟨by omega,h2.2⟩];simp[Yi,AV.fz]
  ·rw[if_neg h2,if_neg (fun h3=>h2 ⟨by omega,h3.2⟩)];refine v13 ?_;by_cases hr:rs i=[]
   ·exact .inl hr
   ·exact .inr fun e2=>e (z1 i k z6 hk hr h e2)
theorem MR.freeze {n o:Nat} {rs:Nat→List Mv} {L:Nat→Nat} {sl:List (Nat×AV)} (z1:∀k k',k<n→k'<n→rs k≠[]→rs k'≠[]→L k=L k'→k=k') (z7:∀k,k<n→rs k≠[]→L k≠o)
  (zb:∀k,k<n→rs k≠[]→sl.map (fun p=>(p.1,p.2.fz (L k) 3 ((rs k).map encMv)))=sl):∀(d k:Nat) (H:List AObj),k+d=n→H[o]? =some (.va 23 1 (Mj n L rs k))→(∀i,k≤i→i<n→rs i≠[]→H[L i]? =some (.arr 78 3 ((rs i).map encMv)))→
  (∀H',H'[o]? =some (.va 23 1 (Mj n L rs n))→(∀j,j<H.length→j≠o→(∀i,k≤i→i<n→rs i≠[]→j≠L i)→H'[j]? =H[j]?)→AWP P nt kk cd Q ⟨sl,H'⟩)→AWP P nt kk cd Q ⟨sl,H⟩
 |0,k,H,hd,ho,hl,h=>by
  have:k=n:=by omega
  subst this;exact h H ho fun _ _ _ _=>rfl
 |d+1,k,H,hd,ho,hl,h=>by
  by_cases hr:rs k=[]
  ·refine MR.freeze z1 z7 zb d (k+1) H (by omega) (by rw[x1w hr];exact ho) (fun i hi=>hl i (by omega)) fun H' zc zd=>h H' zc fun j hj z8 za=>zd j hj z8 fun i hi=>za i (by omega)
  ·have z6:k<n:=by omega
   have zg:=z7 k z6 hr;have zh:=hl k (zQ _) z6 hr;refine Yd (L k) zh o ho (Ne.symm zg) rfl ?_;rw[zb k z6 hr];have zi:=Qh ho;have e:AObj.fz (L k) 3 ((rs k).map encMv) (.va 23 1 (Mj n L rs k))= .va 23 1 (Mj n L rs (k+1)):=by rw[AObj.fz,c0n z1 z6 hr]
   rw[e];refine MR.freeze z1 z7 zb d (k+1) _ (by omega) (zL (by simpa using zi)) (fun i hi ze zf=> ?_) fun H' zc zd=>h H' zc fun j hj z8 za=> ?_
   ·rw[zB (Ne.symm (z7 i ze zf)),zB (fun e2=>by have:=z1 k i z6 ze hr zf e2;omega)];exact hl i (by omega) ze zf
   ·rw[zd j (by simpa using hj) z8 fun i hi=>za i (by omega),zB (Ne.symm z8),zB (Ne.symm (za k (zQ _) z6 hr))]
end
theorem k1s(n:Nat)(L:Nat→Nat)(rs:Nat→List Mv):(Mj n L rs n).all (fun x=>x.cells.all AV.pure)=true∧(Mj n L rs n).map AV.nrm=(yJ n).map fun k=>Yi (rs k):=by
 have hc:∀i,i<n→(if i<n∧rs i≠[]then Yi (rs i)else Sw (L i) (rs i))=if rs i=[]then .nils else Yi (rs i):=fun i hi=>by
  by_cases hr:rs i=[]
  ·rw[if_neg (fun h=>h.2 hr),if_pos hr,Sw,if_pos hr]
  ·rw[if_pos ⟨hi,hr⟩,if_neg hr]
 have e:Mj n L rs n=(yJ n).map fun i=>if rs i=[]then .nils else Yi (rs i):=xT fun i hi=>hc i (yW.1 hi)
 rw[e];constructor
 ·rw[List.all_map,List.all_eq_true];intro i _;simp only[Function.comp_apply];split
  ·simp[AV.cells,AV.pure]
  ·simp[Yi,AV.cells,AV.pure]
 ·rw[vN];refine xT fun i _=> ?_;simp only[Function.comp_apply];split
  ·rename_i h;rw[h];simp[Yi,AV.nrm]
  ·simp[Yi,AV.nrm]
attribute [local irreducible] Tq Ev Wk
theorem U0(a:Aut)(ha:OkA a):PC Tryz.prog 81 [encA a] (fun r=>r=R3 a):=by
 refine Ql tOk Tryz.func81 rfl Tryz.results81 rfl (by simp[Tryz.ntmps81]) ?_;rw[Tryz.ntmps81];simp only[Qg];simp only[encA];have y4:=ha.fin;have yf:=ha.mvs;repeat first|(refine r_ ?_;simp)|refine q_ ?_
 refine Yg (P:=Tryz.prog) tOk mixed [7] (.val 0 (.val 1 (.val 2 (.val 3 (.two 4 (.val 5 (.one 6 (.one 7 (.done)))) 6 (.one 4 (.val 5 (.one 7 (.done))))))))) (fun S'=>∃o c:Nat,o≠c∧2≤o∧2≤c∧S'.hp[0]? =some (.vars (Qu a))∧S'.hp[1]? =some (.vars [.i 0,.nils,.nils,.nils])∧S'.hp[o]? =some (.arr 23 1 (List.replicate a.fin.length .nils))∧S'.hp[c]? =some (.vars [.i a.types,.list (a.fin.map .bool),.list (a.mv.map encMv),.sl o 1 0 a.fin.length])∧look S'.sl 1=some (.vptr 0 0)∧look S'.sl 2=some (.vptr 1 0)∧look S'.sl 3=some (.vptr c 0)) rfl (by kernel_rfl) ?_ ?_
 ·simp
  repeat' (first
   |refine And.intro ?_ ?_
   |(refine Ec tOk rfl rfl rfl x2v rfl T23 rfl rfl rfl (n:=a.fin.length) (by simp;omega) (by unfold maxLen;omega) .nils rfl ?_;simp))
  ·exact⟨2,3,by simp[Qu]⟩
  ·exact⟨3,2,by simp[Qu]⟩
 rintro⟨sl,H⟩ ⟨o,c,zq,y5,yg,h0,h1,ho,hc,s1,s2,s3⟩;simp only at h0 h1 ho hc s1 s2 s3;simp;refine Qs (sl':=[(1,.vptr 0 0),(2,.vptr 1 0),(3,.vptr c 0)]) ?_ (by simp[s1,s2,s3]);refine F4 o ho ?_;refine Q4 fun Z hZ=> ?_;have z0:Z[0]? =some (.vars (Qu a)):=by rw[hZ,zB (by omega)];exact h0
 have zc:Z[c]? =some (.vars [.i a.types,.list (a.fin.map .bool),.list (a.mv.map encMv),.sl o 1 0 a.fin.length]):=by rw[hZ,zB zq];exact hc
 have zM:MR [.vars (Qu a),.vars [.i 0,.nils,.nils,.nils]] a.fin.length o (Tq a 0) (fun _=>0) Z:=by
  refine⟨?_,fun k _ hn=>absurd (Um a k) hn,fun k _ _ _ hn=>absurd (Um a k) hn,fun k _ hn=>absurd (Um a k) hn,by simpa using y5,fun k _ hn=>absurd (Um a k) hn,fun j hj=> ?_⟩
  ·rw[hZ,zL (Qh ho)]
   congr 2
   rw[eq_comm,List.eq_replicate_iff];refine⟨Ir _ _ _,fun x hx=> ?_⟩;obtain⟨k,_,rfl⟩:=zR.1 hx;simp[Sw,Um]
  ·simp only[yS,tu]at hj;rw[hZ,zB (by omega)];rcases j with _|_|j
   ·exact h0
   ·exact h1
   ·omega
 clear hZ h0 h1 ho hc;clear H;repeat first|(refine r_ ?_;simp[z0])|refine q_ ?_
 refine Qp (Qc (sl':=[(1,.vptr 0 0),(2,.vptr 1 0),(3,.vptr c 0),(15,.list (a.mv.map encMv)),(16,.i a.mv.length),(17,.i (0:Nat))]) ?_ (by simp));refine Qo (F:=fun(u:Nat×(Nat→Nat)×List AObj)=>⟨[(1,.vptr 0 0),(2,.vptr 1 0),(3,.vptr c 0),(15,.list (a.mv.map encMv)),(16,.i a.mv.length),(17,.i u.1)],u.2.2⟩)
  (fun u=>u.1≤a.mv.length∧u.2.2[c]? =some (.vars [.i a.types,.list (a.fin.map .bool),.list (a.mv.map encMv),.sl o 1 0 a.fin.length])∧MR [.vars (Qu a),.vars [.i 0,.nils,.nils,.nils]] a.fin.length o (Tq a u.1) u.2.1 u.2.2) (fun u=>a.mv.length - u.1) ?_ (0,fun _=>0,Z) ⟨wn _,zc,zM⟩
 clear z0 zc zM;clear Z;rintro⟨j,L,G⟩ ⟨hj,gc,gM⟩ ih;simp only at hj gc gM ih ⊢;repeat first|(refine r_ ?_;simp)|refine q_ ?_
 refine Qb rfl (fun y6=> ?_) (fun y7=> ?_)
 ·have zd:j<a.mv.length:=by simpa using y6
  have hw:IntKind.i64.wrap ((j:Int)+1)=j+1:=wrap_i64 _ (by omega) (by omega);have y0:=y08 a zd;have y8:=g0f a j;have zr:=ha.mv _ (zK zd);have zt:=A2 ha (zK zd);have zo:=fun L' G'=>ih (j+1,L',G');simp only at zo;repeat first|(refine r_ ?_;simp[zd])|refine q_ ?_
  generalize a.mv[j]=m at *;refine Qf rfl rfl (by simp) (P8 a.types.toNat m.on m.on zr.on.wf zr.on.wf (fun s hs=>by have:=zt s hs;omega) (fun s hs=>by have:=zt s hs;omega) (by have:=ha.types;omega)) rfl ?_
  rintro _ rfl;simp;rw[q0i zr.on.wf];cases hv:Wd m.on with
  |true=>
   have ze:Tq a (j+1)=Tq a j:=funext fun k=>by rw[y0 k,hv];simp
   rw[ze]at zo;simp[Mp,encSy];repeat first|(refine r_ ?_;simp)|refine q_ ?_
   refine Qk rfl ?_;repeat first|(refine r_ ?_;simp[hw])|refine q_ ?_
   refine Qc (sl':=[(1,.vptr 0 0),(2,.vptr 1 0),(3,.vptr c 0),(15,.list (a.mv.map encMv)),(16,.i a.mv.length),(17,.i (j+1:Nat))]) ?_ (by simp);exact zo L _ ⟨by omega,Qa gc _,gM.grow _⟩ (by omega)
  |false=>
   obtain⟨k,hk⟩:∃k:Nat,m.src=k:=⟨m.src.toNat,by have:=zr.src.1;omega⟩
   have z7:k<a.fin.length:=by have:=zr.src.2;omega
   have ze:Tq a (j+1)=fun k'=>if k'=k then Tq a j k++[m]else Tq a j k':=funext fun k'=>by
    rw[y0 k',hv];by_cases e:k'=k
    ·subst e;simp[hk]
    ·have:¬m.src=(k':Int):=by omega
     simp[e,this]
   rw[ze]at zo;simp[Mp,encSy];repeat first|(refine r_ ?_;simp)|refine q_ ?_
   refine Qk rfl ?_;refine Q4 fun Z hZ=> ?_;have zc:Z[c]? =some (.vars [.i a.types,.list (a.fin.map .bool),.list (a.mv.map encMv),.sl o 1 0 a.fin.length]):=by rw[hZ];exact Qa gc _
   have zM:MR [.vars (Qu a),.vars [.i 0,.nils,.nils,.nils]] a.fin.length o (Tq a j) L Z:=by rw[hZ];exact gM.grow _
   have zm:Z[G.length]? =some (.vars [.i m.src,.i m.dst,.list (m.on.map encL)]):=by rw[hZ,zH (by simp)];simp
   clear hZ gc gM y0 ze;generalize G.length=g at *;clear G
   have z6:=Hb L (Tq a j) z7;have zj:=Ir a.fin.length L (Tq a j);have z8:=zM.out;have zu:=zM.leaf k z7;rw[hk]at zm;have zb:∀M,(Z++M)[c]? =some (.vars [.i a.types,.list (a.fin.map .bool),.list (a.mv.map encMv),.sl o 1 0 a.fin.length]):=fun M=>Qa zc M;have outA:∀M,(Z++M)[o]? =some (.va 23 1 (Gk a.fin.length L (Tq a j))):=fun M=>Qa z8 M;have zf:∀M,(Z++M)[g]? =some (.vars [.i k,.i m.dst,.list (m.on.map encL)]):=fun M=>Qa zm M;have zk:∀M hh,(Z++M)[c]'hh= .vars [.i a.types,.list (a.fin.map .bool),.list (a.mv.map encMv),.sl o 1 0 a.fin.length]:=fun M hh=>(zY hh).2 (zb M);have outH:∀M hh,(Z++M)[o]'hh= .va 23 1 (Gk a.fin.length L (Tq a j)):=fun M hh=>(zY hh).2 (outA M);have zl:∀M hh,(Z++M)[g]'hh= .vars [.i k,.i m.dst,.list (m.on.map encL)]:=fun M hh=>(zY hh).2 (zf M);repeat first|(refine r_ ?_;simp)|refine q_ ?_
   generalize zv:Gk a.fin.length L (Tq a j)=RC at *
   have yh:=y8 k;generalize zh:Tq a j k=rs at *
   by_cases hr0:rs=[]
   ·rw[Sw,if_pos hr0]at z6;have zi:∀hh,RC[k]'hh= .nils:=fun hh=>by rw[zI hh]at z6;exact Option.some.inj z6
    refine Yg (P:=Tryz.prog) tOk mixed [12,14] (.val 0 (.val 2 (.val 4 (.val 5 (.val 6 (.val 7 (.val 8 (.val 9 (.val 10 (.three 1 (.two 3 (.one 11 (.one 12 (.val 13 (.one 14 (.done))))) 11 (.two 3 (.one 12 (.val 13 (.one 14 (.done)))) 12 (.val 3 (.val 13 (.one 14 (.done)))))) 3 (.two 1 (.one 11 (.one 12 (.val 13 (.one 14 (.done))))) 11 (.two 1 (.one 12 (.val 13 (.one 14 (.done)))) 12 (.val 1 (.val 13 (.one 14 (.done)))))) 11 (.three 1 (.two 3 (.one 12 (.val 13 (.one 14 (.done)))) 12 (.val 3 (.val 13 (.one 14 (.done))))) 3 (.two 1 (.one 12 (.val 13 (.one 14 (.done)))) 12 (.val 1 (.val 13 (.one 14 (.done))))) 12 (.val 1 (.val 3 (.val 13 (.one 14 (.done)))))))))))))))) (fun S'=>S'.hp=(Z++[AObj.arr 78 3 [.agg [.i k,.i m.dst,.list (m.on.map encL)]],AObj.arr 78 3 [.agg [.i k,.i m.dst,.list (m.on.map encL)]]]).set o (.va 23 1 (RC.set k (.sl (Z.length+1) 3 0 1)))∧look S'.sl 1=some (.vptr 0 0)∧look S'.sl 2=some (.vptr 1 0)∧look S'.sl 3=some (.vptr c 0)∧look S'.sl 15=some (.list (a.mv.map encMv))∧look S'.sl 16=some (.i a.mv.length)∧look S'.sl 17=some (.i j)) rfl (by kernel_rfl) ?_ ?_
    ·simp[zc,z8,zm,z6,zi,z7,zj,zb,outA,zf,zk,outH,zl]
     repeat' (first
      |refine And.intro ?_ ?_
      |(refine Qe tOk rfl rfl T23 rfl T78 rfl (by decide) (by decide) rfl rfl rfl ?_;simp[zb,outA,zf,zk,outH,zl,z6,zi,z7,zj];refine⟨by simp[Wa]<;>omega,?_⟩;simp[zb,outA,zf,zk,outH,zl,z6,zi,z7,zj]))
    ·rintro⟨sl,E⟩ ⟨rfl,s1,s2,s3,s15,s16,s17⟩;simp only at s1 s2 s3 s15 s16 s17;simp;refine Qs (sl':=[(1,.vptr 0 0),(2,.vptr 1 0),(3,.vptr c 0),(15,.list (a.mv.map encMv)),(16,.i a.mv.length),(17,.i j)]) ?_ (by simp[s1,s2,s3,s15,s16,s17]);repeat first|(refine r_ ?_;simp[hw])|refine q_ ?_
     refine Qc (sl':=[(1,.vptr 0 0),(2,.vptr 1 0),(3,.vptr c 0),(15,.list (a.mv.map encMv)),(16,.i a.mv.length),(17,.i (j+1:Nat))]) ?_ (by simp);have zx:=Qh z8;have za:=zM.put z7 (m:=m) (np:=Z.length+1) (H':=(Z++[AObj.arr 78 3 [.agg [.i k,.i m.dst,.list (m.on.map encL)]],AObj.arr 78 3 [.agg [.i k,.i m.dst,.list (m.on.map encL)]]]).set o (.va 23 1 (RC.set k (.sl (Z.length+1) 3 0 1)))) (by omega)
      (by rw[zL (by simp;omega),zv,zh,hr0];rfl) (by rw[zB (by omega),zH (by omega),zh,hr0];simp[hk]) (fun jj h1 h2 _=>by rw[zB (Ne.symm h2),zF h1])
     rw[zh]at za;exact zo _ _ ⟨by omega,by rw[zB zq];exact zb _,za⟩ (by omega)
   ·rw[Sw,if_neg hr0]at z6;have zi:∀hh,RC[k]'hh= .sl (L k) 3 0 rs.length:=fun hh=>by rw[zI hh]at z6;exact Option.some.inj z6
    have zp:=zu hr0;have hlo:=zM.ne k z7 (by rw[zh];exact hr0);have y9:L k≠c:=fun e=>by rw[e,zc]at zp;simp at zp
    have ya:L k≠g:=fun e=>by rw[e,zm]at zp;simp at zp
    have yi:=Qh zp;have zg:∀M,(Z++M)[L k]? =some (.arr 78 3 (rs.map encMv)):=fun M=>Qa zp M;have zn:∀M hh,(Z++M)[L k]'hh= .arr 78 3 (rs.map encMv):=fun M hh=>(zY hh).2 (zg M);generalize yb:L k=p at *
    have outS:∀M M',((Z++M).set p .dead++M')[o]? =some (.va 23 1 RC):=fun M M'=>Qa (Qd hlo (outA M) _) M';have outSH:∀M M' hh,((Z++M).set p .dead++M')[o]'hh= .va 23 1 RC:=fun M M' hh=>(zY hh).2 (outS M M');have zw:∀M M',((Z++M).set p .dead++M')[c]? =some (.vars [.i a.types,.list (a.fin.map .bool),.list (a.mv.map encMv),.sl o 1 0 a.fin.length]):=fun M M'=>Qa (Qd y9 (zb M) _) M';have zcSH:∀M M' hh,((Z++M).set p .dead++M')[c]'hh= .vars [.i a.types,.list (a.fin.map .bool),.list (a.mv.map encMv),.sl o 1 0 a.fin.length]:=fun M M' hh=>(zY hh).2 (zw M M');have zy:∀M M',((Z++M).set p .dead++M')[g]? =some (.vars [.i k,.i m.dst,.list (m.on.map encL)]):=fun M M'=>Qa (Qd ya (zf M) _) M';have zmSH:∀M M' hh,((Z++M).set p .dead++M')[g]'hh= .vars [.i k,.i m.dst,.list (m.on.map encL)]:=fun M M' hh=>(zY hh).2 (zy M M');refine Yg (P:=Tryz.prog) tOk mixed [12,14] (.val 0 (.val 2 (.val 4 (.val 5 (.val 6 (.val 7 (.val 8 (.val 9 (.val 10 (.three 1 (.two 3 (.one 11 (.one 12 (.val 13 (.one 14 (.done))))) 11 (.two 3 (.one 12 (.val 13 (.one 14 (.done)))) 12 (.val 3 (.val 13 (.one 14 (.done)))))) 3 (.two 1 (.one 11 (.one 12 (.val 13 (.one 14 (.done))))) 11 (.two 1 (.one 12 (.val 13 (.one 14 (.done)))) 12 (.val 1 (.val 13 (.one 14 (.done)))))) 11 (.three 1 (.two 3 (.one 12 (.val 13 (.one 14 (.done)))) 12 (.val 3 (.val 13 (.one 14 (.done))))) 3 (.two 1 (.one 12 (.val 13 (.one 14 (.done)))) 12 (.val 1 (.val 13 (.one 14 (.done))))) 12 (.val 1 (.val 3 (.val 13 (.one 14 (.done)))))))))))))))) (fun S'=>S'.hp=((Z++[AObj.arr 78 3 [.agg [.i k,.i m.dst,.list (m.on.map encL)]]]).set p .dead++[AObj.arr 78 3 (rs.map encMv++[.agg [.i k,.i m.dst,.list (m.on.map encL)]])]).set o (.va 23 1 (RC.set k (.sl (Z.length+1) 3 0 (rs.length+1))))∧look S'.sl 1=some (.vptr 0 0)∧look S'.sl 2=some (.vptr 1 0)∧look S'.sl 3=some (.vptr c 0)∧look S'.sl 15=some (.list (a.mv.map encMv))∧look S'.sl 16=some (.i a.mv.length)∧look S'.sl 17=some (.i j)) rfl (by kernel_rfl) ?_ ?_
    ·simp[zc,z8,zm,z6,zi,z7,zj,zb,outA,zf,zk,outH,zl,zg,zn]
     repeat' (first
      |refine And.intro ?_ ?_
      |(refine Qe tOk rfl rfl T23 rfl T78 rfl (by decide) (by decide) rfl rfl rfl ?_;simp[zb,outA,zf,zk,outH,zl,z6,zi,z7,zj,zg,zn,outS,outSH,zw,zcSH,zy,zmSH];refine⟨by simp[Wa]<;>omega,?_⟩;simp[zb,outA,zf,zk,outH,zl,z6,zi,z7,zj,outS,outSH,zw,zcSH,zy,zmSH])
      |(refine Qe tOk rfl rfl T23 rfl T78 rfl (by decide) (by decide) rfl rfl rfl ?_;simp[zb,outA,zf,zk,outH,zl,z6,zi,z7,zj,zg,zn,outS,outSH,zw,zcSH,zy,zmSH];simp[Wa]<;>omega)
      |omega)
    ·rintro⟨sl,E⟩ ⟨rfl,s1,s2,s3,s15,s16,s17⟩;simp only at s1 s2 s3 s15 s16 s17;simp;refine Qs (sl':=[(1,.vptr 0 0),(2,.vptr 1 0),(3,.vptr c 0),(15,.list (a.mv.map encMv)),(16,.i a.mv.length),(17,.i j)]) ?_ (by simp[s1,s2,s3,s15,s16,s17]);repeat first|(refine r_ ?_;simp[hw])|refine q_ ?_
     refine Qc (sl':=[(1,.vptr 0 0),(2,.vptr 1 0),(3,.vptr c 0),(15,.list (a.mv.map encMv)),(16,.i a.mv.length),(17,.i (j+1:Nat))]) ?_ (by simp);have zx:=Qh z8;have za:=zM.put z7 (m:=m) (np:=Z.length+1) (H':=((Z++[AObj.arr 78 3 [.agg [.i k,.i m.dst,.list (m.on.map encL)]]]).set p .dead++[AObj.arr 78 3 (rs.map encMv++[.agg [.i k,.i m.dst,.list (m.on.map encL)]])]).set o (.va 23 1 (RC.set k (.sl (Z.length+1) 3 0 (rs.length+1))))) (by omega)
      (by rw[zL (by simp;omega),zv,zh]) (by rw[zB (by omega),zH (by simp),zh];simp[hk]) (fun jj h1 h2 h3=>by
       have h4:p≠jj:=fun e=>h3 (by rw[zh];exact hr0) (by rw[yb];exact e.symm);rw[zB (Ne.symm h2),zF (by simp;omega),zB h4,zF h1])
     rw[zh]at za;exact zo _ _ ⟨by omega,by rw[zB zq];exact zw _ _,za⟩ (by omega)
 ·have y1:j=a.mv.length:=by simp at y7;omega
  subst y1;refine Qs (sl':=[(1,.vptr 0 0),(2,.vptr 1 0),(3,.vptr c 0)]) ?_ (by simp);refine MR.freeze (n:=a.fin.length) (o:=o) gM.inj gM.ne (fun k hk hn=>by simp[AV.fz]) a.fin.length 0 G (by omega) (by rw[q12];exact gM.out) (fun k _ hk hn=>gM.leaf k hk hn) fun H' y2 zz=> ?_;obtain⟨yc,yd⟩:=k1s a.fin.length L (Tq a a.mv.length);have y3:H'[c]? =some (.vars [.i a.types,.list (a.fin.map .bool),.list (a.mv.map encMv),.sl o 1 0 a.fin.length]):=by rw[zz c (Qh gc) (Ne.symm zq) (fun i _ hi hr e=>by have:=gM.leaf i hi hr;rw[←e,gc]at this;simp at this)];exact gc
  have yj:H'[0]? =some (.vars (Qu a)):=by rw[zz 0 (by have:=Qh gM.out;omega) (by omega) (fun i _ hi hr e=>by have:=gM.geL i hi hr;simp at this;omega)];exact gM.keep 0 (by simp)
  have ye:H'[1]? =some (.vars [.i 0,.nils,.nils,.nils]):=by rw[zz 1 (by have:=Qh gM.out;omega) (by omega) (fun i _ hi hr e=>by have:=gM.geL i hi hr;simp at this;omega)];exact gM.keep 1 (by simp)
  have zx:=Qh y2;clear zz ih gM gc;refine Ue o y2 yc ?_;refine Lm o (zL zx) ?_;rw[yd,List.set_set];refine Q1 o (zL zx) c (by rw[zB zq];exact y3) ?_;refine Q4 fun Z hZ=> ?_;have zc:Z[c]? =some (.vars (We a)):=by rw[hZ,zL (by simpa using Qh y3)];simp[AV.fz,We,Yj,j0s];rw[zO (by simp)]
  have z1:Z[1]? =some (.vars [.i 0,.nils,.nils,.nils]):=by rw[hZ,zB (by omega),zB (by omega),zB (by omega)];exact ye
  clear hZ;simp[AV.fz];unfold R3 We;unfold We at zc;repeat first|(refine r_ ?_;simp[zc,z1,Qj z1])|refine q_ ?_
end Go.Abs
namespace Go.Abs
open Go Go.Proofs Go.Maps Go.RowKit
abbrev Stp:=Sy×(Int×Int)
def g1z(e:Stp):AV:= .agg [.i e.1.ty,.i e.1.num,.i e.2.1,.i e.2.2]
theorem y0l(a b:Aut)(p q:Int):PC Tryz.prog 105 [R3 a,R3 b,.i p,.i q] (fun r=>r= .fn (.func 164) [] [.iptr (We a),.iptr [.i p],.iptr (We b),.iptr [.i q]]):=by refine Ql tOk Tryz.func105 rfl Tryz.results105 rfl (by simp[Tryz.ntmps105]) ?_;rw[Tryz.ntmps105];simp only[Qg];simp only[R3,We];repeat first|(refine r_ ?_;simp)|refine q_ ?_
def Ci(b:Aut)(q:Int)(m:Mv)(j:Nat):List Stp:=((Wk b q).take j).filterMap fun n=>(Ev m.on n.on).map fun x=>(x,(m.dst,n.dst))
def Ik(a b:Aut)(s:Int×Int)(i:Nat):List Stp:=((Wk a s.1).take i).flatMap fun m=>Ci b s.2 m (Wk b s.2).length
theorem Bw(a b:Aut)(s:Int×Int):Ik a b s (Wk a s.1).length=Ws a b s:=by rw[v1s,Ik,yP];unfold Ci;rw[yP]
theorem u0v(a b:Aut)(s:Int×Int):Ik a b s 0=[]:=by simp[Ik]
theorem f09(b:Aut)(q:Int)(m:Mv):Ci b q m 0=[]:=by simp[Ci]
theorem u0y(a b:Aut)(s:Int×Int){i:Nat}(h:i<(Wk a s.1).length):Ik a b s (i+1)=Ik a b s i++Ci b s.2 (Wk a s.1)[i] (Wk b s.2).length:=by unfold Ik;rw[zP h,x_];simp
theorem g0a(b:Aut)(q:Int)(m:Mv){j:Nat}(h:j<(Wk b q).length):Ci b q m (j+1)=Ci b q m j++(match Ev m.on (Wk b q)[j].on with|some x=>[(x,(m.dst,(Wk b q)[j].dst))]|none=>[]):=by
 unfold Ci;rw[zP h,uS]
 congr 1
 cases hx:Ev m.on (Wk b q)[j].on<;>simp[hx]
theorem z1g(b:Aut)(q:Int)(m:Mv)(j:Nat):∃r,Ci b q m (Wk b q).length=Ci b q m j++r:=by refine⟨((Wk b q).drop j).filterMap fun n=>(Ev m.on n.on).map fun x=>(x,(m.dst,n.dst)),?_⟩;unfold Ci;rw[←uS,xP,yP]
theorem q1r(a b:Aut)(s:Int×Int)(i:Nat):∃r,Ws a b s=Ik a b s i++r:=by refine⟨((Wk a s.1).drop i).flatMap fun m=>Ci b s.2 m (Wk b s.2).length,?_⟩;rw[←Bw];unfold Ik;rw[←x_,xP,yP]
theorem Z3{a:Aut}{s:Int}(h:inS a s):(Yj a)[s.toNat]? =some (Yi (Wk a s)):=by have:=Sg h;unfold Yj;rw[zX,List.getElem?_range this.1];simp[this.2]
theorem Nw{a:Aut}(ha:OkA a){s:Int}{m:Mv}(hm:m∈Wk a s):PWf a.types.toNat m.on∧∀t∈m.on,t.length≤256:=by have:=(Rm.1 hm).1;exact⟨ha.wfA.on m this,A2 ha this⟩
theorem Ft(a:Aut)(s:Int):(Wk a s).length≤a.mv.length:=xM _ _
attribute [local irreducible] Wk Ev Ci Ik Yj Ws
theorem Be (a b:Aut) (ha:OkA a) (hb:OkA b) (ht:b.types=a.types) (p q:Int) (hp:inS a p) (hq:inS b q) (l:Nat) {z8:Nat} {sl':List (Nat×AV)} {ps:List Tmp} {asg body:Code} (y4:ps.length=1) (y5:(ps.all fun p=>decide (p<z8))=true)
  (Inv:List Stp→List AObj→Prop) (Done:Code→List AObj→Prop) (H0:List AObj)
  (hI:∀k H,Inv k H→H[l]? =some (.lp true none z8 sl' ps asg body))
  (z7:∀k H L,Inv k H→Inv k (H++L))
  (zb:∀pre e post H,Ws a b (p,q)=pre++e::post→Inv pre H→H0.length≤H.length→AWP Tryz.prog z8 H.length asg (A3 (AWP Tryz.prog z8 H.length body (w1g l (fun jm K2=>(jm=none∧Inv (pre++[e]) (K2.set l (.lp true none z8 sl' ps asg body))∧∀i cs,H0.length≤i→H[i]? =some (.vars cs)→(K2.set l (.lp true none z8 sl' ps asg body))[i]? =some (.vars cs))∨∃c,jm=some c∧Done c (K2.set l (.lp false (some c) z8 sl' ps asg body))))) (fun _ _=>False)) ⟨T6 sl' ps [g1z e],H.set l .dead⟩)
  (h0:Inv [] H0):FC Tryz.prog 164 [.yld l,.iptr (We a),.iptr [.i p],.iptr (We b),.iptr [.i q]] H0 (fun _ H'=>Inv (Ws a b (p,q)) H'∨∃c,Done c H'):=by
 refine Ea tOk Tryz.func164 rfl Tryz.results164 rfl (by simp[Tryz.ntmps164]) ?_;rw[Tryz.ntmps164];simp only[Qg];have zk:=Z3 hp;have zl:=Z3 hq;have yv:=Sg hp;have yw:=Sg hq;have y6:=Ft a p;have y7:=Ft b q;have yx:=ha.mvs;have yy:=hb.mvs;have y8:=hp.1;have y9:=hq.1;have ya:(Yj a).length=a.fin.length:=by unfold Yj;simp
 have yb:(Yj b).length=b.fin.length:=by unfold Yj;simp
 have yc:=hp.2;have yd:=hq.2;simp only[We,Yi]at zk zl ⊢;have zn:∀hh,(Yj a)[p.toNat]'hh= .list ((Wk a p).map encMv):=fun hh=>by rw[zI hh]at zk;exact Option.some.inj zk
 have zo:∀hh,(Yj b)[q.toNat]'hh= .list ((Wk b q).map encMv):=fun hh=>by rw[zI hh]at zl;exact Option.some.inj zl
 repeat first|(refine r_ ?_;simp[zk,zn,y8,yc,ya])|refine q_ ?_
 have ye:(b.types).toNat=a.types.toNat:=by rw[ht]
 refine Qp (Qc (sl':=[(0,.yld l),(1,.iptr [.i a.types,.list (a.fin.map .bool),.list (a.mv.map encMv),.list (Yj a)]),(2,.iptr [.i p]),(3,.iptr [.i b.types,.list (b.fin.map .bool),.list (b.mv.map encMv),.list (Yj b)]),(4,.iptr [.i q]),(16,.list ((Wk a p).map encMv)),(17,.i (Wk a p).length),(18,.i (0:Nat))]) ?_ (by simp));have zp:Ik a b (p,q) (Wk a p).length=Ws a b (p,q):=Bw a b (p,q);have zg:=fun i h=>u0y a b (p,q) (i:=i) h;have zc:=fun m j h=>g0a b q m (j:=j) h;have zh:=fun m j=>z1g b q m j;have zi:=fun i=>q1r a b (p,q) i;have hz:Ik a b (p,q) 0=[]:=u0v a b (p,q);have yf:∀m,Ci b q m 0=[]:=fun m=>f09 b q m;refine Qo (F:=fun(u:Nat×List AObj)=>⟨[(0,.yld l),(1,.iptr [.i a.types,.list (a.fin.map .bool),.list (a.mv.map encMv),.list (Yj a)]),(2,.iptr [.i p]),(3,.iptr [.i b.types,.list (b.fin.map .bool),.list (b.mv.map encMv),.list (Yj b)]),(4,.iptr [.i q]),(16,.list ((Wk a p).map encMv)),(17,.i (Wk a p).length),(18,.i u.1)],u.2⟩)
  (fun u=>u.1≤(Wk a p).length∧Inv (Ik a b (p,q) u.1) u.2∧H0.length≤u.2.length) (fun u=>(Wk a p).length - u.1) ?_ (0,H0) ⟨by simp,by rw[hz];exact h0,zQ _⟩
 rintro⟨i,H⟩ ⟨hi,hv,zw⟩ ih;simp only at hi hv zw ih ⊢;repeat first|(refine r_ ?_;simp)|refine q_ ?_
 refine Qb rfl (fun yg=> ?_) (fun yh=> ?_)
 ·have za:i<(Wk a p).length:=by simpa using yg
  have hw:IntKind.i64.wrap ((i:Int)+1)=i+1:=wrap_i64 _ (by omega) (by omega);have zy:=zg i za;obtain⟨yi,yj⟩:=Nw ha (zK za);have yk:∃r,Ws a b (p,q)=(Ik a b (p,q) i++Ci b q (Wk a p)[i] (Wk b q).length)++r:=by obtain⟨r,hr⟩:=zi (i+1);exact⟨r,by rw[hr,zy]⟩
  have zd:((Wk a p).map encMv)[i]? =some (encMv (Wk a p)[i]):=by simp[za]
  have ze:∀hh,((Wk a p).map encMv)[i]'hh=encMv (Wk a p)[i]:=fun hh=>by simp
  have zz:=fun H'=>ih (i+1,H');simp only[zy]at zz;generalize (Wk a p)[i]=m at *
  have yl:=zc m;have ym:=zh m;have yn:=yf m;simp only[encMv]at zd ze;have zq:=z7 _ H [.vars [.i m.src,.i m.dst,.list (m.on.map encL)]] hv;repeat first|(refine r_ ?_;simp[zl,zo,y9,yd,yb,zd,ze,za])|refine q_ ?_
  refine Q4 fun Z hZ=> ?_;have zx:Z[H.length]? =some (.vars [.i m.src,.i m.dst,.list (m.on.map encL)]):=by rw[hZ,zH (by simp)];simp
  rw[←hZ]at zq;clear hZ hv zd ze;generalize H.length=x at *;clear H;refine Qp (Qc (sl':=[(0,.yld l),(1,.iptr [.i a.types,.list (a.fin.map .bool),.list (a.mv.map encMv),.list (Yj a)]),(2,.iptr [.i p]),(3,.iptr [.i b.types,.list (b.fin.map .bool),.list (b.mv.map encMv),.list (Yj b)]),(4,.iptr [.i q]),(7,.vptr x 0),(16,.list ((Wk a p).map encMv)),(17,.i (Wk a p).length),(18,.i i),(26,.list ((Wk b q).map encMv)),(27,.i (Wk b q).length),(28,.i (0:Nat))]) ?_ (by simp))
  refine Qo (F:=fun(u:Nat×List AObj)=>⟨[(0,.yld l),(1,.iptr [.i a.types,.list (a.fin.map .bool),.list (a.mv.map encMv),.list (Yj a)]),(2,.iptr [.i p]),(3,.iptr [.i b.types,.list (b.fin.map .bool),.list (b.mv.map encMv),.list (Yj b)]),(4,.iptr [.i q]),(7,.vptr x 0),(16,.list ((Wk a p).map encMv)),(17,.i (Wk a p).length),(18,.i i),(26,.list ((Wk b q).map encMv)),(27,.i (Wk b q).length),(28,.i u.1)],u.2⟩)
   (fun u=>u.1≤(Wk b q).length∧Inv (Ik a b (p,q) i++Ci b q m u.1) u.2∧u.2[x]? =some (.vars [.i m.src,.i m.dst,.list (m.on.map encL)])) (fun u=>(Wk b q).length - u.1) ?_ (0,Z) ⟨by simp,by rw[yn,xD];exact zq,zx⟩
  clear zx zq;clear Z;rintro⟨j,G⟩ ⟨hj,gv,gx⟩ ih2;simp only at hj gv gx ih2 ⊢;repeat first|(refine r_ ?_;simp)|refine q_ ?_
  refine Qb rfl (fun zr=> ?_) (fun zt=> ?_)
  ·have z1:j<(Wk b q).length:=by simpa using zr
   have y0:IntKind.i64.wrap ((j:Int)+1)=j+1:=wrap_i64 _ (by omega) (by omega);have y1:=yl j z1;obtain⟨yo,yp⟩:=Nw hb (zK z1);obtain⟨r1,zm⟩:=ym (j+1);obtain⟨r2,yq⟩:=yk;have zd:((Wk b q).map encMv)[j]? =some (encMv (Wk b q)[j]):=by simp[z1]
   have ze:∀hh,((Wk b q).map encMv)[j]'hh=encMv (Wk b q)[j]:=fun hh=>by simp
   have z6:=fun H'=>ih2 (j+1,H');rw[y1]at zm;simp only[y1]at z6;generalize (Wk b q)[j]=n at *;simp only[encMv]at zd ze
   have zf:∀M,(G++M)[x]? =some (.vars [.i m.src,.i m.dst,.list (m.on.map encL)]):=fun M=>Qa gx M;have zu:∀M hh,(G++M)[x]'hh= .vars [.i m.src,.i m.dst,.list (m.on.map encL)]:=fun M hh=>(zY hh).2 (zf M);repeat first|(refine r_ ?_;simp[zd,ze,z1,zf,zu])|refine q_ ?_
   refine Qf rfl rfl (by simp) (P8 a.types.toNat m.on n.on yi (by rw[←ye];exact yo) (fun s hs=>by have:=yj s hs;omega) (fun s hs=>by have:=yp s hs;omega) (by have:=ha.types;omega)) rfl ?_;rintro _ rfl;simp;cases hx:Ev m.on n.on with
   |none=>
    rw[hx]at zm z6;simp only[xD]at z6;simp[Mp,encSy];repeat first|(refine r_ ?_;simp[zf,zu])|refine q_ ?_
    refine Q6 rfl rfl ?_;simp;repeat first|(refine r_ ?_;simp)|refine q_ ?_
    refine Qb rfl (fun h=>by cases h) (fun _=> ?_);repeat first|(refine r_ ?_;simp[y0])|refine q_ ?_
    refine Qc (sl':=[(0,.yld l),(1,.iptr [.i a.types,.list (a.fin.map .bool),.list (a.mv.map encMv),.list (Yj a)]),(2,.iptr [.i p]),(3,.iptr [.i b.types,.list (b.fin.map .bool),.list (b.mv.map encMv),.list (Yj b)]),(4,.iptr [.i q]),(7,.vptr x 0),(16,.list ((Wk a p).map encMv)),(17,.i (Wk a p).length),(18,.i i),(26,.list ((Wk b q).map encMv)),(27,.i (Wk b q).length),(28,.i (j+1:Nat))]) ?_ (by simp);exact z6 _ ⟨by omega,z7 _ _ _ gv,zf _⟩ (by omega)
   |some y=>
    rw[hx]at zm z6;simp[Mp,encSy];repeat first|(refine r_ ?_;simp[zf,zu])|refine q_ ?_
    have y2:=z7 _ G [.vars [.i n.src,.i n.dst,.list (n.on.map encL)],.vars [.i y.ty,.i y.num]] gv;have y3:=zf [.vars [.i n.src,.i n.dst,.list (n.on.map encL)],.vars [.i y.ty,.i y.num]];have yr:H0.length≤(G++[AObj.vars [.i n.src,.i n.dst,.list (n.on.map encL)],AObj.vars [.i y.ty,.i y.num]]).length:=by have:=Qh y3;omega
    have i1:=hI _ _ y2;have yt:=zb (Ik a b (p,q) i++Ci b q m j) (y,(m.dst,n.dst)) (r1++r2) _ (by rw[yq,zm];simp) y2 yr;generalize G++[AObj.vars [.i n.src,.i n.dst,.list (n.on.map encL)],AObj.vars [.i y.ty,.i y.num]]=Y at *;refine Pt rfl rfl (q:=l) rfl rfl i1 y4 y5 rfl (fun jm K2=>(jm=none∧Inv (Ik a b (p,q) i++Ci b q m j++[(y,(m.dst,n.dst))]) (K2.set l (.lp true none z8 sl' ps asg body))∧∀i cs,H0.length≤i→Y[i]? =some (.vars cs)→(K2.set l (.lp true none z8 sl' ps asg body))[i]? =some (.vars cs))∨∃c,jm=some c∧Done c (K2.set l (.lp false (some c) z8 sl' ps asg body))) ?_ ?_
    ·exact yt
    ·rintro jm K2 (⟨rfl,hK,yu⟩|⟨c,rfl,hD⟩)
     ·simp;repeat first|(refine r_ ?_;simp)|refine q_ ?_
      refine Qb rfl (fun h=>by cases h) (fun _=> ?_);repeat first|(refine r_ ?_;simp[y0])|refine q_ ?_
      refine Qc (sl':=[(0,.yld l),(1,.iptr [.i a.types,.list (a.fin.map .bool),.list (a.mv.map encMv),.list (Yj a)]),(2,.iptr [.i p]),(3,.iptr [.i b.types,.list (b.fin.map .bool),.list (b.mv.map encMv),.list (Yj b)]),(4,.iptr [.i q]),(7,.vptr x 0),(16,.list ((Wk a p).map encMv)),(17,.i (Wk a p).length),(18,.i i),(26,.list ((Wk b q).map encMv)),(27,.i (Wk b q).length),(28,.i (j+1:Nat))]) ?_ (by simp);exact z6 _ ⟨by omega,by rw[←xW];exact hK,yu x _ zw y3⟩ (by omega)
     ·simp;repeat first|(refine r_ ?_;simp)|refine q_ ?_
      refine Qb rfl (fun _=> ?_) (fun h=>by cases h);repeat first|(refine r_ ?_;simp)|refine q_ ?_
      exact .inr ⟨c,hD⟩
  ·have zj:j=(Wk b q).length:=by simp at zt;omega
   subst zj;repeat first|(refine r_ ?_;simp[hw])|refine q_ ?_
   refine Qc (sl':=[(0,.yld l),(1,.iptr [.i a.types,.list (a.fin.map .bool),.list (a.mv.map encMv),.list (Yj a)]),(2,.iptr [.i p]),(3,.iptr [.i b.types,.list (b.fin.map .bool),.list (b.mv.map encMv),.list (Yj b)]),(4,.iptr [.i q]),(16,.list ((Wk a p).map encMv)),(17,.i (Wk a p).length),(18,.i (i+1:Nat))]) ?_ (by simp);exact zz G ⟨by omega,gv,by have:=Qh gx;omega⟩ (by omega)
 ·have zv:i=(Wk a p).length:=by simp at yh;omega
  subst zv;rw[zp]at hv;repeat first|(refine r_ ?_;simp)|refine q_ ?_
  exact .inl hv
end Go.Abs
namespace Go.Abs
open Go Go.Proofs Go.Maps Go.RowKit
theorem w0u:(Tryz.prog).underlying 135=some (.array 2 3):=by kernel_rfl
theorem k1n:(Tryz.prog).underlying 3=some (.int .i64):=by kernel_rfl
theorem y0k:(Tryz.prog).cellsOf 135=2:=by kernel_rfl
theorem f0h:(Tryz.prog).cellsOf 3=1:=by kernel_rfl
theorem f1z:(Tryz.prog).keyType 135=true:=by kernel_rfl
theorem f0v:laidOutB Tryz.prog=true:=by kernel_rfl
theorem k15:(Tryz.prog).keyTypeAt 3 135=true:=by kernel_rfl
theorem u1y:135<(Tryz.prog).types.size:=of_decide_eq_true (by kernel_rfl)
theorem Zq:Keyed Tryz.prog 135:=Keyed.of_law (deep_law_laid f0v (m:=3) (by decide) u1y k15 (by rw[w0u]))
def kyP(s:Int×Int):AV:= .agg [.i s.1,.i s.2]
def okK(s:Int×Int):Prop:=(0≤s.1∧s.1≤1000000)∧(0≤s.2∧s.2≤1000000)
theorem q0k{s t:Int×Int}(h:kyP s=kyP t):s=t:=by unfold kyP at h;simp at h;exact Prod.ext h.1 h.2
theorem keyLits_int(d:Nat){z:Int}(h:0≤z∧z≤1000000):(Tryz.prog).keyLits (d+1) 3 [.int .i64 z]=some [.int .i64 z]:=by unfold Program.keyLits;rw[k1n];simp[u1n h]
theorem u0m(d:Nat){s:Int×Int}(h:okK s):(Tryz.prog).keyLits (d+2) 135 [.int .i64 s.1,.int .i64 s.2]=some [.int .i64 s.1,.int .i64 s.2]:=by unfold Program.keyLits;rw[w0u];simp only[y0k,f0h,yS,tu,if_true];have h1:=keyLits_int d h.1;have h2:=keyLits_int d h.2;simp[wp,h1,h2]
theorem types_size:∃d,(Tryz.prog).types.size+1=d+2:=⟨(Tryz.prog).types.size - 1,by have:=u1y;omega⟩
theorem Fv{s:Int×Int}(h:okK s):isKey Tryz.prog 135 (kyP s):=by
 refine⟨.agg #[.int .i64 s.1,.int .i64 s.2],.string (keyBytes [.int .i64 s.1,.int .i64 s.2]),rfl,?_⟩;obtain⟨d,hd⟩:=types_size;unfold keyOf;rw[w0u];simp only;have hf:Value.formed Tryz.prog 135 (.agg #[.int .i64 s.1,.int .i64 s.2])=true:=by unfold Value.formed;rw[w0u,y0k];rfl
 rw[f1z,hf,hd];have:(Value.agg #[.int .i64 s.1,.int .i64 s.2]).cells.toList=[.int .i64 s.1,.int .i64 s.2]:=rfl;rw[this,u0m d h];rfl
abbrev Ix:=List ((Int×Int)×Nat)
def kvN(near:Ix):List (AV×AV):=near.map fun e=>(kyP e.1,.i e.2)
def mpN(near:Ix):AObj:= .mp (kvN near)
structure NK (near:Ix):Prop where
 nd:(near.map (·.1)).Nodup
 ok:∀e∈near,okK e.1
theorem k07{near:Ix}(h:NK near){j:Nat}{e:(Int×Int)×Nat}(he:near[j]? =some e):lkN near e.1=some e.2:=by
 unfold lkN;cases hf:near.find? (fun e'=>decide (e'.1=e.1))with
 |none=>rw[List.find?_eq_none]at hf;have:=hf e (zJ he);simp at this
 |some e'=>
  have h1:e'.1=e.1:=by simpa using List.find?_some hf
  have h2:=List.mem_of_find?_eq_some hf;obtain⟨i,hi,rfl⟩:=y_ h2;obtain⟨hj,rfl⟩:=zE.1 he;have h3:i=j:=by have:=(List.getElem_inj (h₀:=by simpa using hi) (h₁:=by simpa using hj) h.nd).1 (by simpa using h1);exact this
  subst h3;rfl
theorem q0e{near:Ix}(h:NK near):∀p∈kvN near,isKey Tryz.prog 135 p.1:=fun p hp=>by obtain⟨e,he,rfl⟩:=zR.1 hp;exact Fv (h.ok e he)
section
variable {nt k:Nat} {S:AS} {ops:Array Oper} {o:Oper} {R:AS→Prop}
theorem Ym {wr:Bool} (hw:Q7 ops S o=some true) (hd:W7 nt o=true) {x ix:Operand} (ho:o.op= .lookup 132 x ix true) {id:Nat} (hx:rho S.sl x=some (.mref id)) {s:Int×Int} (z1:rho S.sl ix=some (.agg [.i s.1,.i s.2])) {near:Ix} (z6:S.hp[id]? =some (mpN near)) (hn:NK near) (hs:okK s)
  (hR:R (S.putD o.dst (.tup [.i ((lkN near s).getD 0:Nat),.bool (lkN near s).isSome]))):Wv Tryz.prog nt k wr ops o S R:=by
 refine Y2 tOk hw hd ho z2j rfl T3 Zq hx z1 z6 (Fv hs) (q0e hn) (z:= .i 0) rfl (fun j p hp he=> ?_) (fun z7=> ?_)
 ·unfold kvN at hp;rw[zX]at hp;obtain⟨e,z8,rfl⟩:=zU.1 hp;have za:e.1=s:=q0k he;rw[←za,k07 hn z8]at hR;exact hR
 ·have:lkN near s=none:=by rw[Fl];intro hm;obtain⟨e,he,rfl⟩:=zR.1 hm;exact z7 _ (zR.2 ⟨e,he,rfl⟩) rfl
  rw[this]at hR;exact hR
theorem Vc {wr:Bool} (hw:Q7 ops S o=some true) (hd:W7 nt o=true) {x ix:Operand} (ho:o.op= .lookup 132 x ix false) {id:Nat} (hx:rho S.sl x=some (.mref id)) {s:Int×Int} (z1:rho S.sl ix=some (.agg [.i s.1,.i s.2])) {near:Ix} (z6:S.hp[id]? =some (mpN near)) (hn:NK near) (hs:okK s)
  (hR:R (S.putD o.dst (.i ((lkN near s).getD 0:Nat)))):Wv Tryz.prog nt k wr ops o S R:=by
 refine Cw tOk hw hd ho z2j rfl T3 Zq hx z1 z6 (Fv hs) (q0e hn) (z:= .i 0) rfl (fun j p hp he=> ?_) (fun z7=> ?_)
 ·unfold kvN at hp;rw[zX]at hp;obtain⟨e,z8,rfl⟩:=zU.1 hp;have za:e.1=s:=q0k he;rw[←za,k07 hn z8]at hR;exact hR
 ·have:lkN near s=none:=by rw[Fl];intro hm;obtain⟨e,he,rfl⟩:=zR.1 hm;exact z7 _ (zR.2 ⟨e,he,rfl⟩) rfl
  rw[this]at hR;exact hR
theorem x0l (hw:Q7 ops S o=some true) (hd:W7 nt o=true) {x ix y:Operand} (ho:o.op= .mapUpdate 132 x ix y) {id:Nat} (hx:rho S.sl x=some (.mref id)) {s:Int×Int} (z1:rho S.sl ix=some (.agg [.i s.1,.i s.2])) {d:Nat} (hy:rho S.sl y=some (.i d)) {near:Ix} (z6:S.hp[id]? =some (mpN near)) (hn:NK near) (hs:okK s)
  (z7:s∉near.map (·.1)) (hR:R (({ S with hp:=S.hp.set id (mpN (near++[(s,d)])) }:AS).putD o.dst (.tup []))):Wv Tryz.prog nt k true ops o S R:=by
 refine T1 tOk hw hd ho z2j rfl Zq hx z1 hy (by simp[AV.pure]) z6 (Fv hs) (q0e hn) (fun j p hp he=> ?_) (fun zb=> ?_)
 ·unfold kvN at hp;rw[zX]at hp;obtain⟨e,z8,rfl⟩:=zU.1 hp;have za:e.1=s:=q0k he;exact absurd (zR.2 ⟨e,zJ z8,za⟩) z7
 ·have:kvN near++[(kyP s,.i d)]=kvN (near++[(s,d)]):=by simp[kvN]
  unfold mpN at hR;rw[←this]at hR;exact hR
end
end Go.Abs
namespace Go.Abs
open Go Go.Proofs Go.Maps Go.RowKit
theorem k0q{a b:Aut}{i j:Nat}(hi:i<a.fin.length)(hj:j<b.fin.length):Rs a b ((i:Int),(j:Int))=(a.fin[i] != b.fin[j]):=by unfold Rs;simp[yV,hi,hj]
theorem X5{a b:Aut}(ha:OkA a)(hb:OkA b){s:Int×Int}{e:Sy×(Int×Int)}(he:e∈Ws a b s):inS a e.2.1∧inS b e.2.2:=by obtain⟨m,hm,n,hn,_,rfl⟩:=S7.1 he;have h1:=(ha.mv m (Rm.1 hm).1).dst;have h2:=(hb.mv n (Rm.1 hn).1).dst;exact⟨⟨h1.1,h1.2⟩,⟨h2.1,h2.2⟩⟩
theorem D4{a b:Aut}(ha:OkA a)(hb:OkA b){s:Int×Int}(h:inS a s.1∧inS b s.2):okK s:=by have h1:=ha.fin;have h2:=hb.fin;obtain⟨⟨_,_⟩,⟨_,_⟩⟩:=h;unfold okK;omega
attribute [local irreducible] Wk Ev Yj Ws Rs lkN
theorem x1r(a:Aut)(ha:OkA a)(H:List AObj)(A:Nat)(hA:H[A]? =some (.vars (We a)))(p q:Int)(hp:inS a p)(hq:inS a q):
  FC Tryz.prog 146 [.i p,.i q,.vptr A 0] H (fun r H'=>r= .bool (Rs a a (p,q))∧H'=H):=by
 refine Ea tOk Tryz.func146 rfl Tryz.results146 rfl (by simp[Tryz.ntmps146]) ?_;rw[Tryz.ntmps146];simp only[Qg];obtain⟨i,rfl⟩:∃i:Nat,p=i:=⟨p.toNat,(Sg hp).2.symm⟩
 obtain⟨j,rfl⟩:∃j:Nat,q=j:=⟨q.toNat,(Sg hq).2.symm⟩
 have hi:i<a.fin.length:=by have:=hp.2;omega
 have hj:j<a.fin.length:=by have:=hq.2;omega
 rw[k0q hi hj];simp only[We]at hA;repeat first|(refine r_ ?_;simp)|refine q_ ?_
 refine Qn tOk mixed [] (.val 0 (.val 1 (.val 2 (.val 3 (.val 4 (.val 5 (.val 6 (.val 7 (.val 8 (.val 9 (.val 10 (.val 11 (.val 12 (.val 13 (.done))))))))))))))) rfl (by kernel_rfl) ?_;simp[hA,hi,hj];repeat first|(refine r_ ?_;simp)|refine q_ ?_
 generalize a.fin[i]=x;generalize a.fin[j]=y;cases x<;>cases y<;>rfl
def Cp(near:Ix)(d:Int)(es:List (Sy×(Int×Int))):Bool:=es.any fun e=>(lkN near e.2).isSome && decide (((lkN near e.2).getD 0:Nat)=d)
theorem q1d(near:Ix)(d:Int)(pre:List (Sy×(Int×Int)))(e:Sy×(Int×Int)):Cp near d (pre++[e])=(Cp near d pre || ((lkN near e.2).isSome && decide (((lkN near e.2).getD 0:Nat)=d))):=by simp[Cp]
theorem f0c{near:Ix}{d:Int}{pre post:List (Sy×(Int×Int))}{e:Sy×(Int×Int)}(h:((lkN near e.2).isSome && decide (((lkN near e.2).getD 0:Nat)=d))=true):Cp near d (pre++e::post)=true:=by unfold Cp;rw[List.any_append,List.any_cons,h];simp
theorem z1p(near:Ix)(d:Int):Cp near d []=false:=rfl
attribute [local irreducible] Cp
theorem z1j(a:Aut)(ha:OkA a)(H:List AObj)(A N M D:Nat)(near:Ix)(d:Nat)(hA:H[A]? =some (.vars (We a)))(hN:H[N]? =some (.vars [.mref M]))(hM:H[M]? =some (mpN near))(hD:H[D]? =some (.vars [.i d]))(hd:1≤d∧d≤1000000)(zd:NK near)(p q:Int)(hp:inS a p)(hq:inS a q):
  FC Tryz.prog 147 [.i p,.i q,.vptr A 0,.vptr N 0,.vptr D 0] H (fun r H'=>r= .bool (Cp near ((d:Int) - 1) (Ws a a (p,q)))∧∀i,i<H.length→H'[i]? =H[i]?):=by
 refine Ea tOk Tryz.func147 rfl Tryz.results147 rfl (by simp[Tryz.ntmps147]) ?_;rw[Tryz.ntmps147];simp only[Qg];have zb:=hA;simp only[We]at zb;have zn:=Qh hA;have ze:=Qh hN;have zf:=Qh hM;have zg:=Qh hD;have zh:∀L,(H++L)[A]? =some (.vars [.i a.types,.list (a.fin.map .bool),.list (a.mv.map encMv),.list (Yj a)]):=fun L=>Qa zb L;repeat first|(refine r_ ?_;simp[zh])|refine q_ ?_
 refine Qf rfl rfl (by simp) (y0l a a p q) rfl ?_;rintro _ rfl;simp;repeat first|(refine r_ ?_;simp)|refine q_ ?_
 refine R7 rfl (Rf:=fun _ H'=>(Cp near ((d:Int) - 1) (Ws a a (p,q))=false∧(∃sl' z1 a' b',H'[H.length+1]? =some (.lp true none 34 sl' z1 a' b'))∧H'[H.length]? =some (.vars [.bool false])∧∀i,i<H.length→H'[i]? =H[i]?)∨
  (Cp near ((d:Int) - 1) (Ws a a (p,q))=true∧(∃sl' z1 a' b',H'[H.length+1]? =some (.lp false (some .ret) 34 sl' z1 a' b'))∧H'[H.length]? =some (.vars [.bool true])∧∀i,i<H.length→H'[i]? =H[i]?)) ?_ ?_
 ·simp;refine B1 fun H1 z6=> ?_;have f0:H1[H.length]? =some (.vars [.bool false]):=by rw[z6,zH (by omega)];simp
  have fk:∀i,i<H.length→H1[i]? =H[i]? :=fun i hi=>by rw[z6,zF hi]
  have fl:=congrArg (fun h:List AObj=>h[H.length+1]?) z6;have zo:H1.length=H.length+2:=by rw[z6];simp
  simp at fl;clear z6;refine FC.mono (Be a a ha ha rfl p q hp hq (H.length+1) (by rfl) (by rfl)
   (fun pre H'=>Cp near ((d:Int) - 1) pre=false∧H'[H.length+1]? =H1[H.length+1]? ∧H'[H.length]? =some (.vars [.bool false])∧∀i,i<H.length→H'[i]? =H[i]?)
   (fun c H'=>c= .ret∧Cp near ((d:Int) - 1) (Ws a a (p,q))=true∧(∃sl' z1 a' b',H'[H.length+1]? =some (.lp false (some .ret) 34 sl' z1 a' b'))∧H'[H.length]? =some (.vars [.bool true])∧∀i,i<H.length→H'[i]? =H[i]?) H1
   (fun k H' ⟨_,h2,_,_⟩=>h2.trans fl) ?_ ?_ ⟨z1p _ _,rfl,f0,fk⟩) ?_
  ·rintro k H' L ⟨h1,h2,h3,h4⟩;exact⟨h1,by rw[←h2,zF (by rw[fl]at h2;exact Qh h2)],Qa h3 _,fun i hi=>by rw[zF (by have:=Qh h3;omega)];exact h4 i hi⟩
  ·rintro pre e post H' zc ⟨h1,h2,h3,h4⟩ hlen;simp[T6];have zi:=X5 ha ha (show e∈Ws a a (p,q) by rw[zc];simp);have zj:=D4 ha ha zi;have zp:=Qh (h2.trans fl);have z7:=q1d near ((d:Int) - 1) pre e;have z8:=fun h=>f0c (near:=near) (d:=(d:Int) - 1) (pre:=pre) (post:=post) (e:=e) h;rw[←zc]at z8;rw[h1,um]at z7;have zz:=Qj (h2.trans fl) .dead;have z0:(H'.set (H.length+1) .dead)[H.length]? =some (.vars [.bool false]):=Qd (by omega) h3 _;have zk:∀i,i<H.length→(H'.set (H.length+1) .dead)[i]? =H[i]? :=fun i hi=>by rw[zB (by omega)];exact h4 i hi
   have zv:∀i cs,H1.length≤i→H'[i]? =some (.vars cs)→(H'.set (H.length+1) .dead)[i]? =some (.vars cs):=fun i cs hi hc=>by rw[zB (by omega)];exact hc
   have zl:(H'.set (H.length+1) .dead).length=H'.length:=by simp
   rw[←zl];generalize H'.set (H.length+1) .dead=Z at *
   have zN:=(zk N ze).trans hN;have zM:=(zk M zf).trans hM;have zD:=(zk D zg).trans hD;have zNA:∀L,(Z++L)[N]? =some (.vars [.mref M]):=fun L=>Qa zN L;have zMA:∀L,(Z++L)[M]? =some (mpN near):=fun L=>Qa zM L;have zDA:∀L,(Z++L)[D]? =some (.vars [.i d]):=fun L=>Qa zD L;have z0A:∀L,(Z++L)[H.length]? =some (.vars [.bool false]):=fun L=>Qa z0 L;have z0H:∀L hh,(Z++L)[H.length]'hh= .vars [.bool false]:=fun L hh=>(zY hh).2 (z0A L);have zm:IntKind.i64.wrap ((d:Int) - 1)=d - 1:=wrap_i64 _ (by omega) (by omega);simp only[g1z];repeat first|(refine r_ ?_;simp[zNA,zDA])|refine q_ ?_
   refine Ym rfl rfl rfl rfl (s:=e.2) rfl (near:=near) (zMA _) zd zj ?_;simp;generalize lkN near e.2=lk at *
   cases lk with
   |none=>
    simp at z7;repeat first|(refine r_ ?_;simp[zDA])|refine q_ ?_
    refine Qb rfl (fun h=>by simp at h) (fun _=> ?_);repeat first|(refine r_ ?_;simp)|refine q_ ?_
    refine⟨Qa zz _,.inl ⟨rfl,⟨z7,?_,?_,fun i hi=> ?_⟩,fun i cs hi hc=> ?_⟩⟩
    ·rw[fl];exact Qj (Qa zz _) _
    ·exact z0A _
    ·rw[zB (by omega),zF (by omega)];exact zk i hi
    ·exact Qd (j:=H.length+1) (by omega) (Qa (zv i cs hi hc) _) _
   |some kd=>
    simp at z7 z8;repeat first|(refine r_ ?_;simp[zDA,zm])|refine q_ ?_
    refine Qb rfl (fun h=> ?_) (fun h=> ?_)
    ·have za:(kd:Int)=d - 1:=by simpa using h
     repeat first|(refine r_ ?_;simp[z0A,z0H])|refine q_ ?_
     refine⟨Qd (j:=H.length) (by omega) (Qa zz _) _,.inr ⟨.ret,rfl,rfl,z8 za,?_,?_,fun i hi=> ?_⟩⟩
     ·exact⟨_,_,_,_,Qj (Qd (j:=H.length) (by omega) (Qa zz _) _) _⟩
     ·exact Qj (z0A _) _
     ·rw[zB (by omega),zB (by omega),zF (by omega)];exact zk i hi
    ·have za:¬(kd:Int)=d - 1:=by simpa using h
     repeat first|(refine r_ ?_;simp)|refine q_ ?_
     refine⟨Qa zz _,.inl ⟨rfl,⟨by rw[z7,decide_eq_false za],?_,?_,fun i hi=> ?_⟩,fun i cs hi hc=> ?_⟩⟩
     ·rw[fl];exact Qj (Qa zz _) _
     ·exact z0A _
     ·rw[zB (by omega),zF (by omega)];exact zk i hi
     ·exact Qd (j:=H.length+1) (by omega) (Qa (zv i cs hi hc) _) _
  ·rintro _ H' (⟨h1,h2,h3,h4⟩|⟨c,rfl,h1,h2,h3,h4⟩)
   ·exact .inl ⟨h1,⟨_,_,_,_,h2.trans fl⟩,h3,h4⟩
   ·exact .inr ⟨h1,h2,h3,h4⟩
 ·rintro _ H' (⟨h1,⟨sl',z1,a',b',h2⟩,h3,h4⟩|⟨h1,⟨sl',z1,a',b',h2⟩,h3,h4⟩)
  ·refine⟨true,none,34,sl',z1,a',b',by simpa using h2,?_⟩;simp;have z0:=Qd (j:=H.length+1) (by omega) h3 .dead;have z0H:∀hh,(H'.set (H.length+1) .dead)[H.length]'hh= .vars [.bool false]:=fun hh=>(zY hh).2 z0;rw[h1];have zk:∀i,i<H.length→(H'.set (H.length+1) .dead)[i]? =H[i]? :=fun i hi=>by rw[zB (by omega)];exact h4 i hi
   generalize H'.set (H.length+1) .dead=Z at *
   repeat first|(refine r_ ?_;simp[z0,z0H,Qj z0])|refine q_ ?_
   exact fun i hi=>by rw[zB (by omega)];exact zk i hi
  ·refine⟨false,some .ret,34,sl',z1,a',b',by simpa using h2,?_⟩;simp;have z0:=Qd (j:=H.length+1) (by omega) h3 .dead;rw[h1];have zk:∀i,i<H.length→(H'.set (H.length+1) .dead)[i]? =H[i]? :=fun i hi=>by rw[zB (by omega)];exact h4 i hi
   generalize H'.set (H.length+1) .dead=Z at *
   repeat first|(refine r_ ?_;simp[z0])|refine q_ ?_
   exact zk
end Go.Abs
namespace Go.Abs
open Go Go.Proofs Go.Maps Go.RowKit
theorem f1t{G K:List AObj}(h:∀i,i<G.length→K[i]? =G[i]?):∃E,K=G++E:=by
 refine⟨K.drop G.length,?_⟩;have hl:G.length≤K.length:=by
  by_cases h0:G.length=0
  ·omega
  ·have:=h (G.length - 1) (by omega);have h2:G[G.length - 1]? =some (G[G.length - 1]'(by omega)):=zI (by omega);rw[h2]at this;have:=Qh this;omega
 refine xO fun i=> ?_;by_cases hi:i<G.length
 ·rw[zF hi];exact h i hi
 ·rw[zH (by omega),List.getElem?_drop]
  congr 1;omega
def fdR(n:Nat)(g:Int×Int→Bool)(i:Nat):List (Int×Int):=((yJ i).flatMap fun x:Nat=>(yJ n).map fun y:Nat=>((x:Int),(y:Int))).filter g
def fdC(g:Int×Int→Bool)(i j:Nat):List (Int×Int):=((yJ j).map fun y:Nat=>((i:Int),(y:Int))).filter g
theorem y0p(n:Nat)(g:Int×Int→Bool):fdR n g 0=[]:=by simp[fdR]
theorem w0k(g:Int×Int→Bool)(i:Nat):fdC g i 0=[]:=by simp[fdC]
theorem z1d(n:Nat)(g:Int×Int→Bool)(i:Nat):fdR n g (i+1)=fdR n g i++fdC g i n:=by unfold fdR fdC;rw[wp,x_,wY];simp
theorem x1u(g:Int×Int→Bool)(i j:Nat):fdC g i (j+1)=fdC g i j++(if g ((i:Int),(j:Int))=true then [((i:Int),(j:Int))]else []):=by
 unfold fdC;rw[wp,yF,wY]
 congr 1
 rw[yY,List.map_nil,uA,tt]
theorem c1n(a:Aut)(g:Int×Int→Bool):fdR a.fin.length g a.fin.length=(Pr a a).filter g:=by
 unfold fdR Pr En
 congr 1
 rw[List.flatMap_map];simp[vN,Function.comp_def]
theorem Bm(n:Nat):∀i:Nat,((yJ i).map fun _:Nat=>n).sum=i * n
 |0=>by simp
 |i+1=>by rw[wp,yF,List.sum_append,Bm n i];simp[Nat.succ_mul]
theorem q2z(n:Nat)(g:Int×Int→Bool)(i j:Nat)(hi:i≤n)(hj:j≤n):(fdR n g i++fdC g i j).length≤n * n+n:=by
 rw[yB];have h1:(fdR n g i).length≤i * n:=by
  unfold fdR;refine yO (xM _ _) ?_;rw[List.length_flatMap];have:((yJ i).map fun x:Nat=>((yJ n).map fun y:Nat=>((x:Int),(y:Int))).length).sum=i * n:=by simpa using Bm n i
  omega
 have h2:(fdC g i j).length≤j:=by unfold fdC;refine yO (xM _ _) ?_;simp
 have:=z_ n hi;omega
def Fc(a:Aut)(near:Ix)(pf:Int×Int→Bool)(s:Int×Int):Bool:=(lkN near s).isNone && pf s
def Cn(a:Aut)(near:Ix)(pf:Int×Int→Bool):List (Int×Int):=(Pr a a).filter (Fc a near pf)
theorem Zr{a:Aut}{near:Ix}{pf:Int×Int→Bool}{s:Int×Int}(h:s∈Cn a near pf):inP a s∧s∉near.map (·.1):=by obtain⟨h1,h2⟩:=List.mem_filter.1 h;refine⟨d0x h1,Fl.1 ?_⟩;unfold Fc at h2;simp only[Bool.and_eq_true,Option.isNone_iff_eq_none]at h2;exact h2.1
theorem d0n(a:Aut)(near:Ix)(pf:Int×Int→Bool):(Cn a near pf).Nodup:=(K4 a).filter _
theorem NK.round{a:Aut}(ha:OkA a){near:Ix}(h:NK near)(pf:Int×Int→Bool)(d:Nat){l r:List (Int×Int)}(he:Cn a near pf=l++r):NK (near++l.map fun s=>(s,d)):=by
 have hl:∀s∈l,s∈Cn a near pf:=fun s hs=>by rw[he];simp[hs]
 refine⟨?_,fun e hm=> ?_⟩
 ·rw[yF,vB];refine⟨h.nd,?_,fun x hx y hy e=> ?_⟩
  ·have:=d0n a near pf;rw[he,vB]at this;simpa[Function.comp_def]using this.1
  ·simp only[vN,Function.comp_def,tF]at hy;subst e;exact(Zr (hl _ hy)).2 hx
 ·rcases zV.1 hm with hm|hm
  ·exact h.ok e hm
  ·obtain⟨s,hs,rfl⟩:=zR.1 hm;exact D4 ha ha (Zr (hl s hs)).1
attribute [local irreducible] lkN Fc fdR fdC
theorem z0v (a:Aut) (ha:OkA a) (H:List AObj) (nC N M:Nat) (near:Ix) (d:Nat) (pf:Int×Int→Bool) (f:FuncId) (cs:List AV) (hn:H[nC]? =some (.vars [.i a.fin.length])) (hN:H[N]? =some (.vars [.mref M])) (hM:H[M]? =some (mpN near)) (zv:NK near)
  (zf:∀(p q:Int) (H':List AObj),inS a p→inS a q→(∀i,i<H.length→H'[i]? =H[i]?)→FC Tryz.prog f ([]++[.i p,.i q]++cs) H' (fun r K=>r= .bool (pf (p,q))∧∀i,i<H'.length→K[i]? =H'[i]?)):
  FC Tryz.prog 145 [.i d,.fn (.func f) [] cs,.vptr nC 0,.vptr N 0] H (fun r H'=>r= .bool (decide (0<(Cn a near pf).length))∧H'[M]? =some (mpN (near++(Cn a near pf).map fun s=>(s,d)))∧∀i,i<H.length→i≠M→H'[i]? =H[i]?):=by
 refine Ea tOk Tryz.func145 rfl Tryz.results145 rfl (by simp[Tryz.ntmps145]) ?_;rw[Tryz.ntmps145];simp only[Qg];have za:=ha.fin;have ym:=Qh hn;have y7:=Qh hN;have y8:=Qh hM;have y9:=c1n a (Fc a near pf);have ya:=q2z a.fin.length (Fc a near pf);have yb:a.fin.length * a.fin.length≤65536:=yO (tB za.2 za.2) (by decide);repeat first|(refine r_ ?_;simp[hn])|refine q_ ?_
 refine Q3 7 135 2 rfl ?_;simp;have yc:=SL.start H 135 2;refine Qp (Qc (sl':=[(0,.i d),(1,.fn (.func f) [] cs),(2,.vptr nC 0),(3,.vptr N 0),(6,.bool false),(7,.sl H.length 2 0 (fdR a.fin.length (Fc a near pf) 0).length),(14,.i a.fin.length),(15,.i (0:Nat))]) ?_ (by simp[y0p]));refine Qo (F:=fun(u:Nat×Nat×List AObj)=>⟨[(0,.i d),(1,.fn (.func f) [] cs),(2,.vptr nC 0),(3,.vptr N 0),(6,.bool false),(7,.sl u.2.1 2 0 (fdR a.fin.length (Fc a near pf) u.1).length),(14,.i a.fin.length),(15,.i u.1)],u.2.2⟩)
  (fun u=>u.1≤a.fin.length∧SL H u.2.2 u.2.1 135 2 ((fdR a.fin.length (Fc a near pf) u.1).map kyP)) (fun u=>a.fin.length - u.1) ?_ (0,H.length,_) ⟨wn _,by rw[y0p];exact yc⟩
 rintro⟨i,q,G⟩ ⟨hi,hs⟩ ih;simp only at hi hs ih ⊢;repeat first|(refine r_ ?_;simp)|refine q_ ?_
 refine Qb rfl (fun yd=> ?_) (fun ye=> ?_)
 ·have yf:i<a.fin.length:=by simpa using yd
  have hw:IntKind.i64.wrap ((i:Int)+1)=i+1:=wrap_i64 _ (by omega) (by omega);have zw:=fun q' G'=>ih (i+1,q',G');simp only[z1d]at zw;have gn:=hs.kp hn;repeat first|(refine r_ ?_;simp[gn])|refine q_ ?_
  refine Qp (Qc (sl':=[(0,.i d),(1,.fn (.func f) [] cs),(2,.vptr nC 0),(3,.vptr N 0),(6,.bool false),(7,.sl q 2 0 (fdR a.fin.length (Fc a near pf) i++fdC (Fc a near pf) i 0).length),(8,.i i),(14,.i a.fin.length),(15,.i i),(18,.i a.fin.length),(19,.i (0:Nat))]) ?_ (by simp[w0k]));refine Qo (F:=fun(u:Nat×Nat×List AObj)=>⟨[(0,.i d),(1,.fn (.func f) [] cs),(2,.vptr nC 0),(3,.vptr N 0),(6,.bool false),(7,.sl u.2.1 2 0 (fdR a.fin.length (Fc a near pf) i++fdC (Fc a near pf) i u.1).length),(8,.i i),(14,.i a.fin.length),(15,.i i),(18,.i a.fin.length),(19,.i u.1)],u.2.2⟩)
   (fun u=>u.1≤a.fin.length∧SL H u.2.2 u.2.1 135 2 ((fdR a.fin.length (Fc a near pf) i++fdC (Fc a near pf) i u.1).map kyP)) (fun u=>a.fin.length - u.1) ?_ (0,q,G) ⟨wn _,by rw[w0k,xD];exact hs⟩
  clear hs gn;clear G q;rintro⟨j,q,G⟩ ⟨hj,hs⟩ ih2;simp only at hj hs ih2 ⊢;repeat first|(refine r_ ?_;simp)|refine q_ ?_
  refine Qb rfl (fun zg=> ?_) (fun zh=> ?_)
  ·have zx:j<a.fin.length:=by simpa using zg
   have zi:IntKind.i64.wrap ((j:Int)+1)=j+1:=wrap_i64 _ (by omega) (by omega);have z1:=fun q' G'=>ih2 (j+1,q',G');simp only[x1u]at z1;have gN:=hs.kp hN;have gM:=hs.kp hM;have zy:inS a (i:Int):=⟨by omega,by omega⟩
   have zz:inS a (j:Int):=⟨by omega,by omega⟩
   have zj:okK ((i:Int),(j:Int)):=D4 ha ha ⟨zy,zz⟩;have yn:=ya i j hi hj;have yg:=hs.le;have zk:∀x,x<H.length→G[x]? =H[x]? :=fun x hx=>by have h1:H[x]? =some H[x]:=zI hx;rw[h1];exact hs.kp h1
   have z7:Fc a near pf ((i:Int),(j:Int))=((lkN near ((i:Int),(j:Int))).isNone && pf ((i:Int),(j:Int))):=by unfold Fc;rfl
   repeat first|(refine r_ ?_;simp[gN])|refine q_ ?_
   refine Ym rfl rfl rfl rfl (s:=((i:Int),(j:Int))) rfl (near:=near) gM zv zj ?_;simp;generalize hL:fdR a.fin.length (Fc a near pf) i++fdC (Fc a near pf) i j=L at *;simp only[←xW,hL]at z1
   have zb:(fdR a.fin.length (Fc a near pf) i).length+(fdC (Fc a near pf) i j).length=L.length:=by rw[←hL,yB]
   cases hlk:lkN near ((i:Int),(j:Int))with
   |some kd=>
    rw[hlk]at z7;simp at z7;simp only[z7,un,if_false,xD]at z1;repeat first|(refine r_ ?_;simp)|refine q_ ?_
    refine Q6 rfl rfl ?_;simp;refine Qk rfl ?_;repeat first|(refine r_ ?_;simp[zi])|refine q_ ?_
    refine Qc (sl':=[(0,.i d),(1,.fn (.func f) [] cs),(2,.vptr nC 0),(3,.vptr N 0),(6,.bool false),(7,.sl q 2 0 L.length),(8,.i i),(14,.i a.fin.length),(15,.i i),(18,.i a.fin.length),(19,.i (j+1:Nat))]) ?_ (by simp[zb]);exact z1 q G ⟨by omega,hs⟩ (by omega)
   |none=>
    rw[hlk]at z7;simp at z7;repeat first|(refine r_ ?_;simp)|refine q_ ?_
    refine Q9 rfl rfl (zf i j G zy zz zk) rfl ?_;rintro _ K ⟨rfl,hK⟩;obtain⟨E,rfl⟩:=f1t hK;have z8:=hs.add E;generalize G++E=G2 at *
    simp;cases hpf:pf ((i:Int),(j:Int))with
    |true=>
     rw[hpf]at z7;simp only[z7,if_true]at z1;have y0:(L.map kyP).length=L.length:=by simp
     generalize zl:L.map kyP=acc at *;refine Qk rfl ?_
     repeat first|(refine r_ ?_;simp)|refine q_ ?_
     refine Qe tOk rfl rfl x2q rfl x2r rfl (by decide) (by decide) rfl rfl rfl ?_;simp[Qa z8.arr,Qi z8.arr,y0,zb];refine⟨by simp[Wa,Qa z8.arr,Qi z8.arr,y0,zb]<;>omega,?_⟩;repeat first|(refine r_ ?_;simp[zi])|refine q_ ?_
     refine Qc (sl':=[(0,.i d),(1,.fn (.func f) [] cs),(2,.vptr nC 0),(3,.vptr N 0),(6,.bool false),(7,.sl (G2.length+1) 2 0 (L++[((i:Int),(j:Int))]).length),(8,.i i),(14,.i a.fin.length),(15,.i i),(18,.i a.fin.length),(19,.i (j+1:Nat))]) ?_ (by simp[zb]);refine z1 (G2.length+1) _ ⟨by omega,?_⟩ (by omega);have:=z8.put [AObj.arr 135 2 [kyP ((i:Int),(j:Int))]] (acc++[kyP ((i:Int),(j:Int))]) rfl;rw[show(L++[((i:Int),(j:Int))]).map kyP=acc++[kyP ((i:Int),(j:Int))] by rw[←zl];simp];exact this
    |false=>
     rw[hpf]at z7;simp only[z7,un,if_false,xD]at z1;refine Qk rfl ?_;repeat first|(refine r_ ?_;simp[zi])|refine q_ ?_
     refine Qc (sl':=[(0,.i d),(1,.fn (.func f) [] cs),(2,.vptr nC 0),(3,.vptr N 0),(6,.bool false),(7,.sl q 2 0 L.length),(8,.i i),(14,.i a.fin.length),(15,.i i),(18,.i a.fin.length),(19,.i (j+1:Nat))]) ?_ (by simp[zb]);exact z1 q G2 ⟨by omega,z8⟩ (by omega)
  ·have zc:j=a.fin.length:=by simp at zh;omega
   subst zc;repeat first|(refine r_ ?_;simp[hw])|refine q_ ?_
   refine Qc (sl':=[(0,.i d),(1,.fn (.func f) [] cs),(2,.vptr nC 0),(3,.vptr N 0),(6,.bool false),(7,.sl q 2 0 (fdR a.fin.length (Fc a near pf) i++fdC (Fc a near pf) i a.fin.length).length),(14,.i a.fin.length),(15,.i (i+1:Nat))]) ?_ (by simp);exact zw q G ⟨by omega,hs⟩ (by omega)
 ·have zm:i=a.fin.length:=by simp at ye;omega
  subst zm;rw[y9]at hs ⊢;have yh:(Pr a a).filter (Fc a near pf)=Cn a near pf:=rfl;rw[yh]at hs ⊢;have yo:(Cn a near pf).length≤65536:=by refine yO (xM _ _) ?_;rw[Ob];exact yb
  have y1:=fun l r h=>zv.round ha pf d (l:=l) (r:=r) h;have y2:=fun s h=>Zr (a:=a) (near:=near) (pf:=pf) (s:=s) h;have zn:=d0n a near pf;generalize Cn a near pf=L at *
  have zk:∀x,x<H.length→G[x]? =H[x]? :=fun x hx=>by have h1:H[x]? =some H[x]:=zI hx;rw[h1];exact hs.kp h1
  have yg:=hs.le;have yp:H.length≤q:=hs.ge;refine Qs (sl':=[(0,.i d),(3,.vptr N 0),(6,.bool false),(7,.sl q 2 0 L.length)]) ?_ (by simp);refine Wh q hs.arr ?_;simp[AV.fz];rw[zO (by simp)];have yk:∀x,x<H.length→(G.set q .dead)[x]? =H[x]? :=fun x hx=>by rw[zB (by omega)];exact zk x hx
  generalize G.set q .dead=Y at *
  repeat first|(refine r_ ?_;simp)|refine q_ ?_
  refine Qp (Qc (sl':=[(0,.i d),(3,.vptr N 0),(6,.bool false),(7,.list (L.map kyP)),(46,.list (L.map kyP)),(47,.i L.length),(48,.i (0:Nat))]) ?_ (by simp));refine Qo (F:=fun(u:Nat×List AObj)=>⟨[(0,.i d),(3,.vptr N 0),(6,.bool false),(7,.list (L.map kyP)),(46,.list (L.map kyP)),(47,.i L.length),(48,.i u.1)],u.2⟩)
   (fun u=>u.1≤L.length∧u.2[M]? =some (mpN (near++(L.take u.1).map fun s=>(s,d)))∧∀i,i<H.length→i≠M→u.2[i]? =H[i]?) (fun u=>L.length - u.1) ?_ (0,Y) ⟨wn _,by simpa using(yk M y8).trans hM,fun i hi _=>yk i hi⟩
  clear yk;clear Y;rintro⟨k,Y⟩ ⟨hk,yM,yk⟩ ih3;simp only at hk yM yk ih3 ⊢;repeat first|(refine r_ ?_;simp)|refine q_ ?_
  refine Qb rfl (fun zo=> ?_) (fun zp=> ?_)
  ·have z6:k<L.length:=by simpa using zo
   have yi:IntKind.i64.wrap ((k:Int)+1)=k+1:=wrap_i64 _ (by omega) (by omega);have yj:N≠M:=fun e=>by rw[e,hM]at hN;simp[mpN]at hN
   have y3:(L.map kyP)[k]? =some (kyP L[k]):=by simp[z6]
   have y4:∀hh,(L.map kyP)[k]'hh=kyP L[k]:=fun hh=>by simp
   have zq:L.take k++L[k]::L.drop (k+1)=L:=by rw[←ws z6,xP]
   have zr:=y1 (L.take k) (L[k]::L.drop (k+1)) zq.symm;have y5:=y2 L[k] (zK z6);have zj:=D4 ha ha y5.1;have zt:L[k]∉(near++(L.take k).map fun s=>(s,d)).map (·.1):=by rw[yF,zV,not_or];refine⟨y5.2,fun h=> ?_⟩;simp only[vN,Function.comp_def,tF]at h;rw[←zq,vB]at zn;exact zn.2.2 _ h _ List.mem_cons_self rfl
   have y6:(L.take (k+1)).map (fun s=>(s,d))=(L.take k).map (fun s=>(s,d))++[(L[k],d)]:=by rw[zP z6,yF];rfl
   have zd:=fun G'=>ih3 (k+1,G');simp only[y6,←xW]at zd;generalize L[k]=s at *;clear zq y6 zn y2 y1;generalize near++(L.take k).map (fun s=>(s,d))=nr at *
   have yN:=(yk N y7 yj).trans hN;have yNA:∀E,(Y++E)[N]? =some (.vars [.mref M]):=fun E=>Qa yN E;simp only[kyP]at y3 y4;repeat first|(refine r_ ?_;simp[y3,y4,z6,yNA])|refine q_ ?_
   refine x0l rfl rfl rfl rfl (s:=s) rfl (d:=d) rfl (near:=nr) (Qa yM _) zr zj zt ?_;simp;repeat first|(refine r_ ?_;simp[yi])|refine q_ ?_
   refine Qc (sl':=[(0,.i d),(3,.vptr N 0),(6,.bool false),(7,.list (L.map kyP)),(46,.list (L.map kyP)),(47,.i L.length),(48,.i (k+1:Nat))]) ?_ (by simp);refine zd _ ⟨by omega,Qj (Qa yM _) _,fun i hi zu=> ?_⟩ (by omega);have yl:i<Y.length:=Qh ((yk i hi zu).trans (zI hi));rw[zB (Ne.symm zu),zF yl];exact yk i hi zu
  ·have ze:k=L.length:=by simp at zp;omega
   subst ze;rw[yP]at yM;repeat first|(refine r_ ?_;simp)|refine q_ ?_
   exact⟨yM,yk⟩
end Go.Abs
namespace Go.Abs
open Go Go.Proofs Go.Maps Go.RowKit
section
variable {P:Program} [Env P] {nt k:Nat} {S:AS} {ops:Array Oper} {o:Oper} {R:AS→Prop}
theorem Bo{wr:Bool}(hw:Q7 ops S o=some true)(hd:W7 nt o=true)(ho:o.op= .assign (.const (.map none)))(hR:R (S.putD o.dst .top)):Wv P nt k wr ops o S R:=
 w1b hw hd (fun W0 I0 w I m a z1 z6=>⟨.map none,by simp[execOp,ho,Act.eval],.pure (.top _)⟩) hR
end
theorem v0h(a:Aut)(near:Ix):Tl a near 0=Cn a near (Rs a a):=by unfold Tl Cn;refine tf fun s _=> ?_;unfold Fc Gm;cases lkN near s<;>simp
theorem v0s(a:Aut)(near:Ix)(d:Nat):Tl a near (d+1)=Cn a near (fun s=>Cp near (d:Int) (Ws a a s)):=by
 unfold Tl Cn;refine tf fun s _=> ?_;unfold Fc Gm Cp
 congr 1
 ·cases lkN near s<;>simp
 ·show(Ws a a s).any _=(Ws a a s).any _
  congr 1
  funext e;cases lkN near e.2 with
  |none=>simp
  |some k=>simp;omega
structure NB (a:Aut) (near:Ix):Prop where
 nk:NK near
 inn:∀e∈near,inP a e.1
 bd:∀e∈near,e.2≤1000000
theorem NB.len{a:Aut}{near:Ix}(h:NB a near):near.length≤a.fin.length * a.fin.length:=by
 have e:near.length=(near.map (·.1)).length:=by rw[zZ]
 rw[←Ob,e];refine Yh _ _ h.nk.nd fun x hx=> ?_;obtain⟨e,he,rfl⟩:=zR.1 hx;exact A7 (h.inn e he).1 (h.inn e he).2
theorem NB.add{a:Aut}(ha:OkA a){near:Ix}(h:NB a near)(pf:Int×Int→Bool)(d:Nat)(hd:d≤1000000):NB a (near++(Cn a near pf).map fun s=>(s,d)):=by
 refine⟨h.nk.round ha pf d (l:=Cn a near pf) (r:=[]) (by simp),fun e he=> ?_,fun e he=> ?_⟩;rcases zV.1 he with he|he
 ·exact h.inn e he
 ·obtain⟨s,hs,rfl⟩:=zR.1 he;exact(Zr hs).1
 ·rcases zV.1 he with he|he
  ·exact h.bd e he
  ·obtain⟨s,hs,rfl⟩:=zR.1 he;exact hd
theorem u11(a:Aut):NB a []:=⟨⟨by simp,by simp⟩,by simp,by simp⟩
theorem x09(a:Aut)(f d:Nat)(near:Ix):J2 a (f+1) d near=if Tl a near d=[]then near else J2 a f (d+1) (near++(Tl a near d).map fun s=>(s,d)):=by rw[J2]
theorem q1m(a:Aut):Ts a=J2 a (a.fin.length * a.fin.length+1) 1 ((Tl a [] 0).map fun s=>(s,0)):=rfl
attribute [local irreducible] Wk Ev Yj Ws Rs lkN Cp Cn J2 Ts
theorem Dw(a:Aut)(ha:OkA a)(H:List AObj):FC Tryz.prog 89 [R3 a] H (fun r H'=>∃M,r= .mref M∧H.length≤M∧H'[M]? =some (mpN (Ts a))∧NB a (Ts a)∧∀i,i<H.length→H'[i]? =H[i]?):=by
 refine Ea tOk Tryz.func89 rfl Tryz.results89 rfl (by simp[Tryz.ntmps89]) ?_;rw[Tryz.ntmps89];simp only[Qg];simp only[R3,We];have z6:=ha.fin;repeat first|(refine r_ ?_;simp)|refine q_ ?_
 refine Bo rfl rfl rfl ?_;simp;repeat first|(refine r_ ?_;simp)|refine q_ ?_
 refine Rz rfl rfl rfl ?_;simp;repeat first|(refine r_ ?_;simp)|refine q_ ?_
 refine Rv fun Z hZ=> ?_;have zA:Z[H.length]? =some (.vars (We a)):=by rw[hZ,zH (by omega)];simp[We]
 have zM:Z[H.length+1]? =some (mpN []):=by rw[hZ,zH (by omega)];simp[mpN,kvN]
 have zN:Z[H.length+2]? =some (.vars [.mref (H.length+1)]):=by rw[hZ,zH (by omega)];simp
 have zC:Z[H.length+3]? =some (.vars [.i a.fin.length]):=by rw[hZ,zH (by omega)];simp
 have zk:∀i,i<H.length→Z[i]? =H[i]? :=fun i hi=>by rw[hZ,zF hi]
 clear hZ;refine Q9 rfl rfl (z0v a ha Z (H.length+3) (H.length+2) (H.length+1) [] 0 (Rs a a) 146 [.vptr H.length 0] zC zN zM (u11 a).nk (fun p q H' hp hq hk=>FC.mono (x1r a ha H' H.length ((hk _ (Qh zA)).trans zA) p q hp hq) (fun r K ⟨h1,h2⟩=>⟨h1,fun i _=>by rw[h2]⟩))) rfl ?_;rintro _ Y ⟨rfl,yM,yk⟩;simp;have yA:=(yk _ (Qh zA) (by omega)).trans zA;have yN:=(yk _ (Qh zN) (by omega)).trans zN;have yC:=(yk _ (Qh zC) (by omega)).trans zC;have zc:=Qh zC;have z7:∀i,i<H.length→Y[i]? =H[i]? :=fun i hi=>(yk i (by omega) (by omega)).trans (zk i hi);clear zA zM zN zC zk yk zc;clear Z;have z8:=q1m a;rw[v0h]at z8;have za:=(u11 a).add ha (Rs a a) 0 (by omega);rw[xY]at yM za;generalize zd:(Cn a [] (Rs a a)).map (fun s=>(s,0))=near1 at *
 obtain⟨R,hR⟩:∃R,Ts a=R:=⟨_,rfl⟩
 rw[hR]at z8 ⊢;have zb:=Qh yC;repeat first|(refine r_ ?_;simp)|refine q_ ?_
 refine Qp (Qc (sl':=[(1,.vptr H.length 0),(2,.top),(3,.vptr (H.length+2) 0),(4,.vptr (H.length+3) 0),(5,.fn (.func 145) [] [.vptr (H.length+3) 0,.vptr (H.length+2) 0]),(6,.vptr Y.length 0)]) ?_ (by simp));refine Qo (P:=Tryz.prog) (F:=fun(u:Nat×Nat×Ix×Nat×List AObj)=>⟨[(1,.vptr H.length 0),(2,.top),(3,.vptr (H.length+2) 0),(4,.vptr (H.length+3) 0),(5,.fn (.func 145) [] [.vptr (H.length+3) 0,.vptr (H.length+2) 0]),(6,.vptr u.1 0)],u.2.2.2.2⟩)
  (fun u=>NB a u.2.2.1∧1≤u.2.1∧u.2.1≤u.2.2.1.length+1∧a.fin.length * a.fin.length+1≤u.2.2.1.length+u.2.2.2.1∧R=J2 a u.2.2.2.1 u.2.1 u.2.2.1∧u.2.2.2.2[H.length]? =some (.vars (We a))∧u.2.2.2.2[H.length+1]? =some (mpN u.2.2.1)∧u.2.2.2.2[H.length+2]? =some (.vars [.mref (H.length+1)])∧u.2.2.2.2[H.length+3]? =some (.vars [.i a.fin.length])∧u.2.2.2.2[u.1]? =some (.vars [.i u.2.1])∧∀i,i<H.length→u.2.2.2.2[i]? =H[i]?)
  (fun u=>u.2.2.2.1) ?_ (Y.length,1,near1,a.fin.length * a.fin.length+1,Y++[.vars [.i 1]]) ⟨za,zQ _,by simp,by simp,z8,Qa yA _,Qa yM _,Qa yN _,Qa yC _,by simp,fun i hi=>by rw[zF (by omega)];exact z7 i hi⟩
 clear z8 za zd yA yM yN yC z7 zb;clear Y;rintro⟨D,d,near,F,G⟩ ⟨hb,ze,zf,hF,z1,gA,gM,gN,gC,gD,gk⟩ ih;simp only at hb ze zf hF z1 gA gM gN gC gD gk ih ⊢;have zi:=hb.len;have zj:a.fin.length * a.fin.length≤65536:=yO (tB z6.2 z6.2) (by decide);obtain⟨e,rfl⟩:∃e,d=e+1:=⟨d - 1,by omega⟩
 obtain⟨F,rfl⟩:∃f,F=f+1:=⟨F - 1,by omega⟩
 rw[x09,v0s]at z1;repeat first|(refine r_ ?_;simp[gD])|refine q_ ?_
 refine Q9 rfl rfl (z0v a ha G (H.length+3) (H.length+2) (H.length+1) near (e+1) (fun s=>Cp near (e:Int) (Ws a a s)) 147 [.vptr H.length 0,.vptr (H.length+2) 0,.vptr D 0] gC gN gM hb.nk (fun p q H' hp hq hk=>FC.mono (z1j a ha H' H.length (H.length+2) (H.length+1) D near (e+1) ((hk _ (Qh gA)).trans gA) ((hk _ (Qh gN)).trans gN) ((hk _ (Qh gM)).trans gM) ((hk _ (Qh gD)).trans gD) (by omega) hb.nk p q hp hq) (fun r K ⟨h1,h2⟩=>⟨by rw[h1];congr 2;omega,h2⟩))) rfl ?_;rintro _ Y ⟨rfl,yM,yk⟩;simp;have zg:D≠H.length+1:=fun e=>by rw[e,gM]at gD;simp[mpN]at gD
 have yD:=(yk _ (Qh gD) zg).trans gD;have yA:=(yk _ (Qh gA) (by omega)).trans gA;have yN:=(yk _ (Qh gN) (by omega)).trans gN;have yC:=(yk _ (Qh gC) (by omega)).trans gC;have zl:=Qh gC;have z7:∀i,i<H.length→Y[i]? =H[i]? :=fun i hi=>(yk i (by omega) (by omega)).trans (gk i hi);have zh:=hb.add ha (fun s=>Cp near (e:Int) (Ws a a s)) (e+1) (by omega);generalize Cn a near (fun s=>Cp near (e:Int) (Ws a a s))=L at *
 refine Qb rfl (fun h=> ?_) (fun h=> ?_)
 ·have hL:0<L.length:=by simpa using h
  rw[if_neg (fun k=>by rw[k]at hL;simp at hL)]at z1;have hw:IntKind.i64.wrap ((e:Int)+1+1)=e+1+1:=wrap_i64 _ (by omega) (by omega);repeat first|(refine r_ ?_;simp[yD,hw])|refine q_ ?_
  refine Qc (sl':=[(1,.vptr H.length 0),(2,.top),(3,.vptr (H.length+2) 0),(4,.vptr (H.length+3) 0),(5,.fn (.func 145) [] [.vptr (H.length+3) 0,.vptr (H.length+2) 0]),(6,.vptr Y.length 0)]) ?_ (by simp);have zb:=Qh yC;refine ih (Y.length,e+1+1,near++L.map (fun s=>(s,e+1)),F,_) ⟨zh,by simp only;omega,by simp;omega,by simp;omega,z1,?_,?_,?_,?_,?_,fun i hi=> ?_⟩ (by simp only;omega)
  ·exact Qa yA _
  ·exact Qa yM _
  ·exact Qa yN _
  ·exact Qa yC _
  ·simp
  ·simp only;rw[zF (by omega)];exact z7 i hi
 ·have hL:L=[]:=by
   cases L with
   |nil=>rfl
   |cons x l=>simp at h
  subst hL;rw[if_pos rfl]at z1;subst z1;repeat first|(refine r_ ?_;simp[yN])|refine q_ ?_
  refine⟨by simpa using yM,hb,z7⟩
end Go.Abs
namespace Go.Abs
open Go Go.Proofs Go.Maps
theorem v1n{T:Nat}{l:List Prd}(hl:∀p∈l,PCk T p)(i:Nat):(Wf l i).length≤l.length * 512+2:=by rw[←Zx];have h1:=Uv (Rw (Jz (Qv l i)));have h2:=Fs (Qv l i);rw[I8,h2]at h1;have:=Uo hl i;omega
theorem c0j{T:Nat}{l:List Prd}(hl:∀p∈l,PCk T p)(hn:l.length≤4096):∀i,(Tu l i).length≤i * 2097153
 |0=>by simp[Tu]
 |i+1=>by have:=c0j hl hn i;have h2:=v1n hl i;have h3:=P4 (Wf l i);rw[Tu,wp,x_,yB];have h4:((yJ i).flatMap fun i=>(Tv (Wf l i)).map fun x=>(i,x)).length=(Tu l i).length:=rfl;rw[h4];simp only[List.flatMap_cons,List.flatMap_nil,xD,zZ];omega
theorem v0l{T:Nat}(hT:T≤16){l:List Prd}(hl:∀p∈l,PCk T p)(hn:l.length≤4096):GB T l.length 40000000 (I6 T l):=by
 have h:=Jl T l (Tu l T);rw[f0n]at h;have h2:=c0j hl hn T;have h3:(Tu l T).length≤40000000:=by have:T * 2097153≤16 * 2097153:=z_ _ hT;omega
 exact⟨h.nd,yO h.le h3,h.len,fun g hg s hs=>yO (h.sz g hg s hs) h3,h.kl⟩
theorem g1v{T:Nat}(hT:T≤16){l:List Prd}(hl:∀p∈l,PCk T p)(hn:l.length≤4096):(Eh T l).length≤40000000∧∀c∈Eh T l,∀s∈c,s.length≤40000000:=by have h:=v0l hT hl hn;refine⟨by simpa[Eh]using h.le,fun c hc s hs=> ?_⟩;obtain⟨g,hg,rfl⟩:=zR.1 hc;obtain⟨s',z1,rfl⟩:=zR.1 hs;exact yO (Rb _ _) (by simpa using h.sz g hg s' z1)
theorem y1l{T:Nat}{p:Prd}(h:PWf T p):Wd p=false↔∃t n,PM p t n:=by
 cases hv:Wd p
 ·simp only[true_iff];by_cases hx:∃t n,PM p t n
  ·exact hx
  ·rw[(Rn h).2 fun t n hp=>hx ⟨t,n,hp⟩]at hv;cases hv
 ·simp only[Bool.true_eq_false,false_iff];rintro⟨t,n,hp⟩;exact(Rn h).1 hv t n hp
theorem Xn(L:List Prd):(Z5 L).length=L.length:=by
 have key:∀(r s:List Prd),(r.foldl Zn s).length=s.length+r.length:=by
  intro r;induction r with
  |nil=>intro s;simp
  |cons x r ih=>intro s;rw[List.foldl_cons,ih,(Ad s x).length_eq,yS,yS];omega
 have:=key L [];simpa[Z5]using this
theorem P1{T:Nat}(h0:0<T)(hT:T≤16){l:List Prd}(hl:∀p∈l,PCk T p)(hn:l.length≤4096):
  (Eo T l).length≤40000000∧∀c∈Eo T l,PWf T c∧Wd c=false∧∀s∈c,s.length≤40000000:=by
 obtain⟨h1,h2⟩:=g1v hT hl hn;have h3:=Rq h0 hl;have h4:=(A8 hl).1;refine⟨?_,fun c hc=>⟨h3.wf c hc,(y1l (h3.wf c hc)).2 (h3.ne c hc),h2 c (h3.same h4 hc)⟩⟩;have:=S6 h0 hl;rw[this,Q0,Xn]at h1;exact h1
theorem Yv{T:Nat}(h0:0<T)(hT:T≤16){l:List Prd}(hl:∀p∈l,PCk T p)(hn:l.length≤4096):
  (Q0 T l).length≤40000000∧∀c∈Q0 T l,PWf T c∧Wd c=false∧∀s∈c,s.length≤40000000:=by
 have h:=P1 h0 hT hl hn;have hd:(Eo T l).Pairwise (fun p q=>Qw p 0≠Qw q 0):=(D3 h0 hl).imp_of_mem (fun {a b} ha hb hab e=>by
  have h1:=(Rq h0 hl).wf a ha;have h2:=(Rq h0 hl).wf b hb;have h3:=(Wz h1 ((Rq h0 hl).ne a ha)).1;have h4:=(Wz h2 ((Rq h0 hl).ne b hb)).1;rw[e]at h3;exact hab _ _ h3 h4)
 have hp:=(Le _ hd).1;exact⟨by rw[Q0,Xn];exact h.1,fun c hc=>h.2 c (hp.mem_iff.1 hc)⟩
end Go.Abs
namespace Go.Abs
open Go Go.Proofs Go.Maps Go.RowKit
theorem g09(p q:Prd):Kz (Qm p) (Qm q)=J1 (Qw p 0) (Qw q 0):=by
 have h1:decide (((Qw p 0).1:Int)<(Qw q 0).1)=decide ((Qw p 0).1<(Qw q 0).1):=by rw[decide_eq_decide];omega
 have h2:decide (((Qw p 0).1:Int)=(Qw q 0).1)=decide ((Qw p 0).1=(Qw q 0).1):=by rw[decide_eq_decide];omega
 unfold Kz J1 Qm;simp only[h1,h2]
def Pa(p:Prd)(L:List Prd)(k:Nat):List Prd:=Eu p (L.take k)
theorem Lb(p:Prd)(L:List Prd):Pa p L 0=[]:=by simp[Pa,Eu]
theorem f0j(p:Prd)(L:List Prd):Pa p L L.length=Eu p L:=by simp[Pa]
theorem v00(p:Prd)(L:List Prd)(k:Nat)(h:k<L.length):Pa p L (k+1)=Pa p L k++((if Wd (Wg L[k] p)then []else [Wg L[k] p])++(if Wd (Wg L[k] (W8 p))then []else [Wg L[k] (W8 p)])):=by unfold Pa Eu;rw[zP h,x_];simp
theorem g0k(p:Prd)(L:List Prd)(k:Nat):(Pa p L k).length≤(Eu p L).length:=by
 have h:Eu p L=Pa p L k++Eu p (L.drop k):=by unfold Pa Eu;rw[←x_,xP]
 rw[h,yB];omega
def Aq(T:Nat)(l:List Prd)(i:Nat):List Prd:=Eo T (l.take i)
theorem Zi(T:Nat)(l:List Prd):Aq T l 0=[W3 T]:=by simp[Aq,Eo]
theorem f0g(T:Nat)(l:List Prd):Aq T l l.length=Eo T l:=by simp[Aq]
theorem u0w(T:Nat)(l:List Prd)(i:Nat)(h:i<l.length):Aq T l (i+1)=Eu l[i] (Aq T l i):=by unfold Aq Eo;rw[zP h,wG];rfl
theorem d0u{T:Nat}(h0:0<T)(hT:T≤16){l:List Prd}(hl:∀p∈l,PCk T p)(hn:l.length≤4096)(i:Nat):
  (Aq T l i).length≤40000000∧∀c∈Aq T l i,PWf T c∧Wd c=false∧∀s∈c,s.length≤40000000:=
 P1 h0 hT (fun p hp=>hl p (xK hp)) (by rw[xN];omega)
def D9(L:List Prd)(i:Nat):List Prd:=(L.take i).foldl Zn []
theorem Df(L:List Prd):D9 L 0=[]:=by simp[D9]
theorem w1i(L:List Prd):D9 L L.length=Z5 L:=by simp[D9,Z5]
theorem Sp(L:List Prd)(i:Nat)(h:i<L.length):D9 L (i+1)=Zn (D9 L i) L[i]:=by unfold D9;rw[zP h,wG];rfl
theorem C0(L:List Prd):∀i,i≤L.length→(D9 L i).length=i
 |0,_=>by rw[Df];rfl
 |i+1,h=>by rw[Sp L i (by omega),(Ad _ _).length_eq,yS,C0 L i (by omega)]
theorem Vw(L:List Prd):∀i,i≤L.length→∀c∈D9 L i,c∈L
 |0,_,c,hc=>by rw[Df]at hc;cases hc
 |i+1,h,c,hc=>by
  rw[Sp L i (by omega)]at hc;rcases List.mem_cons.1 ((Ad _ _).mem_iff.1 hc)with rfl|hc
  ·exact zK _
  ·exact Vw L i (by omega) c hc
theorem d00{s:List Prd}{x:Prd}{j:Nat}(h:j<s.length):Co s x (j+1)=if J1 (Qw x 0) (Qw s[j] 0)=true then Co s x j else j+1:=by rw[Co,zI h]
theorem Fw{α:Type}{xs:List α}{k n:Nat}(hn:n=xs.length):(xs.drop k).take (n - k)=xs.drop k:=by rw[zO (by rw[xR];omega)]
attribute [local irreducible] Pa Aq D9 W3 Wg W8 Wd Co Eo Eu Qw
theorem Ds(T:Int)(l:List Prd)(hT:1≤T∧T≤16)(hl:∀p∈l,PCk T.toNat p)(hn:l.length≤4096):PC Tryz.prog 165 [.i T,LP l] (fun r=>r=LP (Q0 T.toNat l)):=by
 refine Ql tOk Tryz.func165 rfl Tryz.results165 rfl (by simp[Tryz.ntmps165]) ?_;rw[Tryz.ntmps165];simp only[Qg];simp only[LP];repeat first|(refine r_ ?_;simp)|refine q_ ?_
 refine Qf rfl rfl (by simp) (S5 T (by omega) (by omega)) rfl ?_;rintro _ rfl;simp;repeat first|(refine r_ ?_;simp)|refine q_ ?_
 refine Qp (Qc (sl':=[(0,.i T),(1,.list (l.map encP)),(5,.sl 0 1 0 (Aq T.toNat l 0).length),(6,.i (0:Nat))]) ?_ (by simp[Zi]));have hg:=d0u (T:=T.toNat) (by omega) (by omega) hl hn;refine Qo (F:=fun(u:Nat×Nat×List AObj)=>⟨[(0,.i T),(1,.list (l.map encP)),(5,.sl u.2.1 1 0 (Aq T.toNat l u.1).length),(6,.i u.1)],u.2.2⟩)
  (fun u=>u.1≤l.length∧u.2.2[u.2.1]? =some (.arr 76 1 ((Aq T.toNat l u.1).map encP))) (fun u=>l.length - u.1) ?_ (0,0,_) ⟨wn _,by rw[Zi];rfl⟩
 rintro⟨i,q,H⟩ ⟨hi,hq⟩ ih;simp only at hi hq ih ⊢;repeat first|(refine r_ ?_;simp)|refine q_ ?_
 refine Qb rfl (fun ye=> ?_) (fun yf=> ?_)
 ·have z7:i<l.length:=by simpa using ye
  have hw:IntKind.i64.wrap ((i:Int)+1)=i+1:=wrap_i64 _ (by omega) (by omega);obtain⟨g1,g2⟩:=hg i;have zw:=u0w T.toNat l i z7;have yy:=(hg (i+1)).1;have zh:=hl _ (zK z7);have yr:=fun q' G'=>ih (i+1,q',G');simp only[zw]at yr;rw[zw]at yy;clear zw;have ze:(yX encP l)[i]? =some (encP l[i]):=by simp[z7]
  have zf:∀hh,(yX encP l)[i]'hh=encP l[i]:=fun hh=>by simp
  have zg:(yX encP l).length=l.length:=by simp
  generalize l[i]=p at *;generalize Aq T.toNat l i=L at *
  repeat first|(refine r_ ?_;simp)|refine q_ ?_
  refine Q3 7 76 1 rfl ?_;simp;repeat first|(refine r_ ?_;simp)|refine q_ ?_
  have yz:=SL.start H 76 1;refine Qp (Qc (sl':=[(0,.i T),(1,.list (l.map encP)),(5,.sl q 1 0 L.length),(6,.i i),(7,.sl H.length 1 0 (Pa p L 0).length),(8,.i (0:Nat))]) ?_ (by simp[Lb]));refine Qo (F:=fun(u:Nat×Nat×List AObj)=>⟨[(0,.i T),(1,.list (l.map encP)),(5,.sl q 1 0 L.length),(6,.i i),(7,.sl u.2.1 1 0 (Pa p L u.1).length),(8,.i u.1)],u.2.2⟩)
   (fun u=>u.1≤L.length∧SL H u.2.2 u.2.1 76 1 ((Pa p L u.1).map encP)) (fun u=>L.length - u.1) ?_ (0,H.length,_) ⟨wn _,by rw[Lb];simpa using yz⟩
  rintro⟨k,q',G⟩ ⟨hk,hs⟩ ih2;simp only at hk hs ih2 ⊢;repeat first|(refine r_ ?_;simp)|refine q_ ?_
  refine Qb rfl (fun yg=> ?_) (fun yh=> ?_)
  ·have z8:k<L.length:=by simpa using yg
   have y8:IntKind.i64.wrap ((k:Int)+1)=k+1:=wrap_i64 _ (by omega) (by omega);have zy:=v00 p L k z8;have xa:=g0k p L k;have za:=fun q' G'=>ih2 (k+1,q',G');simp only[zy]at za;clear zy;obtain⟨w1,w2,w3⟩:=g2 _ (zK z8);have zz:(yX encP L)[k]? =some (encP L[k]):=by simp[z8]
   have y9:(yX encP L).length=L.length:=by simp
   have y0:∀hh,(yX encP L)[k]'hh=encP L[k]:=fun hh=>by simp
   generalize L[k]=c at *;generalize Pa p L k=S at *
   have cB:=Gp T.toNat c p w1 zh.wf (fun s hs t ht=>by have:=w3 s hs;have:=(zh.2 t ht).1;omega) (by omega);have cR:=Vt T.toNat p zh.wf (fun s hs=>by have:=(zh.2 s hs).1;omega) (by omega);have cB2:=Gp T.toNat c (W8 p) w1 (Pn zh.wf) (fun s hs t ht=>by have:=w3 s hs;have:=Zk zh.wf (fun s hs=>(zh.2 s hs).1) t ht;omega) (by omega);have y4:=hs.kp hq;have ya:∀M:List AObj,(G++M)[q]? =some (.arr 76 1 (L.map encP)):=fun M=>Qa y4 M;simp only[encP]at zz y0 ze zf;simp only[encP]at cB cR cB2;repeat first|(refine r_ ?_;simp)|refine q_ ?_
   refine Yg (P:=Tryz.prog) tOk mixed [21,22] (.val 0 (.val 1 (.val 2 (.val 3 (.val 4 (.val 5 (.val 6 (.val 7 (.val 9 (.val 10 (.val 11 (.val 12 (.val 13 (.val 14 (.val 15 (.val 16 (.three 8 (.three 17 (.three 18 (.two 19 (.one 20 (.one 21 (.one 22 (.done)))) 20 (.one 19 (.one 21 (.one 22 (.done))))) 19 (.two 18 (.one 20 (.one 21 (.one 22 (.done)))) 20 (.one 18 (.one 21 (.one 22 (.done))))) 20 (.two 18 (.one 19 (.one 21 (.one 22 (.done)))) 19 (.one 18 (.one 21 (.one 22 (.done)))))) 19 (.two 17 (.two 18 (.one 20 (.one 21 (.one 22 (.done)))) 20 (.one 18 (.one 21 (.one 22 (.done))))) 20 (.one 17 (.one 18 (.one 21 (.one 22 (.done)))))) 20 (.two 17 (.two 18 (.one 19 (.one 21 (.one 22 (.done)))) 19 (.one 18 (.one 21 (.one 22 (.done))))) 19 (.one 17 (.one 18 (.one 21 (.one 22 (.done))))))) 19 (.two 8 (.two 17 (.two 18 (.one 20 (.one 21 (.one 22 (.done)))) 20 (.one 18 (.one 21 (.one 22 (.done))))) 20 (.one 17 (.one 18 (.one 21 (.one 22 (.done)))))) 20 (.one 8 (.one 17 (.one 18 (.one 21 (.one 22 (.done))))))) 20 (.two 8 (.two 17 (.two 18 (.one 19 (.one 21 (.one 22 (.done)))) 19 (.one 18 (.one 21 (.one 22 (.done))))) 19 (.one 17 (.one 18 (.one 21 (.one 22 (.done)))))) 19 (.one 8 (.one 17 (.one 18 (.one 21 (.one 22 (.done)))))))))))))))))))))))) (fun S'=>∃(u v:Nat) (E:List AObj),S'.hp=G++E∧look S'.sl 9=some (.vptr u 0)∧look S'.sl 10=some (.vptr v 0)∧(G++E)[u]? =some (.vars [.list ((Wg c p).map encL)])∧(G++E)[v]? =some (.vars [.list ((Wg c (W8 p)).map encL)])∧look S'.sl 0=some (.i T)∧look S'.sl 1=some (.list (l.map encP))∧look S'.sl 5=some (.sl q 1 0 L.length)∧look S'.sl 6=some (.i i)∧look S'.sl 7=some (.sl q' 1 0 S.length)∧look S'.sl 8=some (.i k)) rfl (by kernel_rfl) ?_ ?_
   ·simp[y4,ya,zz,y0,y9,z8,z7,ze,zf,zg]
    repeat' (first
     |refine And.intro ?_ ?_
     |(refine Qf rfl rfl (by simp) cB rfl ?_;rintro _ rfl;simp[y4,ya,zz,y0,y9,z8,z7,ze,zf,zg])
     |(refine Qf rfl rfl (by simp) cR rfl ?_;rintro _ rfl;simp[y4,ya,zz,y0,y9,z8,z7,ze,zf,zg])
     |(refine Qf rfl rfl (by simp) cB2 rfl ?_;rintro _ rfl;simp[y4,ya,zz,y0,y9,z8,z7,ze,zf,zg]))
   ·rintro⟨sl,E0⟩ ⟨u,v,E,rfl,s9,s10,hu,hv,s0,s1,s5,s6,s7,s8⟩;simp only at s9 s10 s0 s1 s5 s6 s7 s8;simp;refine Qs (sl':=[(0,.i T),(1,.list (l.map encP)),(5,.sl q 1 0 L.length),(6,.i i),(7,.sl q' 1 0 S.length),(8,.i k),(9,.vptr u 0),(10,.vptr v 0)]) ?_ (by simp[s9,s10,s0,s1,s5,s6,s7,s8]);have zd:=hs.add E;have xb:=zd.kp hq;generalize G++E=G2 at *
    have x0:q'≠v:=fun e=>by have:=zd.arr;rw[e,hv]at this;simp at this
    have yt:∀M,(G2.set q' .dead++M)[v]? =some (.vars [.list ((Wg c (W8 p)).map encL)]):=fun M=>Qa (Qd x0 hv _) M;repeat first|(refine r_ ?_;simp[hu])|refine q_ ?_
    refine Qf rfl rfl (by simp) (Uf (Wg c p)) rfl ?_;rintro _ rfl;simp;have zi:(yX encP S).length=S.length:=by simp
    cases hv1:Wd (Wg c p)with
    |true=>
     rw[hv1]at za;refine Qk rfl ?_;simp;repeat first|(refine r_ ?_;simp[hv])|refine q_ ?_
     refine Qf rfl rfl (by simp) (Uf (Wg c (W8 p))) rfl ?_;rintro _ rfl;simp;cases hv2:Wd (Wg c (W8 p))with
     |true=>
      rw[hv2]at za;refine Qk rfl ?_;simp;repeat first|(refine r_ ?_;simp[y8])|refine q_ ?_
      refine Qc (sl':=[(0,.i T),(1,.list (l.map encP)),(5,.sl q 1 0 L.length),(6,.i i),(7,.sl q' 1 0 S.length),(8,.i (k+1:Nat))]) ?_ (by simp);have:=za q' G2 ⟨by omega,by simpa using zd⟩ (by omega);simpa using this
     |false=>
      rw[hv2]at za;refine Qk rfl ?_;simp;repeat first|(refine r_ ?_;simp[hv])|refine q_ ?_
      refine Qe tOk rfl rfl T91 rfl T76 rfl (by decide) (by decide) rfl rfl rfl ?_;simp[Qa zd.arr,Qi zd.arr,zi];refine⟨by simp[Wa,Qa zd.arr,Qi zd.arr,zi]<;>omega,?_⟩;repeat first|(refine r_ ?_;simp[y8])|refine q_ ?_
      refine Qc (sl':=[(0,.i T),(1,.list (l.map encP)),(5,.sl q 1 0 L.length),(6,.i i),(7,.sl (G2.length+1) 1 0 (S.length+1)),(8,.i (k+1:Nat))]) ?_ (by simp);have:=za (G2.length+1) _ ⟨by omega,by simpa using zd.put [AObj.arr 76 1 [encP (Wg c (W8 p))]] ((S++[Wg c (W8 p)]).map encP) rfl⟩ (by omega);simpa using this
    |false=>
     rw[hv1]at za;refine Qk rfl ?_;simp;repeat first|(refine r_ ?_;simp[hu])|refine q_ ?_
     refine Qe tOk rfl rfl T91 rfl T76 rfl (by decide) (by decide) rfl rfl rfl ?_;simp[Qa zd.arr,Qi zd.arr,zi];refine⟨by simp[Wa,Qa zd.arr,Qi zd.arr,zi]<;>omega,?_⟩;repeat first|(refine r_ ?_;simp[yt])|refine q_ ?_
     have yu:=zd.put [AObj.arr 76 1 [encP (Wg c p)]] ((S++[Wg c p]).map encP) rfl;refine Rv fun Z hZ=> ?_;have zx:SL H Z (G2.length+1) 76 1 ((S++[Wg c p]).map encP):=by rw[hZ];simpa using yu
     have x1:Z[v]? =some (.vars [.list ((Wg c (W8 p)).map encL)]):=by rw[hZ];exact yt _
     clear hZ yu;have y5:((S++[Wg c p]).map encP).length=S.length+1:=by simp
     generalize G2.length+1=q3 at *;refine Qf rfl rfl (by simp) (Uf (Wg c (W8 p))) rfl ?_
     rintro _ rfl;simp;cases hv2:Wd (Wg c (W8 p))with
     |true=>
      rw[hv2]at za;refine Qk rfl ?_;simp;repeat first|(refine r_ ?_;simp[y8])|refine q_ ?_
      refine Qc (sl':=[(0,.i T),(1,.list (l.map encP)),(5,.sl q 1 0 L.length),(6,.i i),(7,.sl q3 1 0 (S.length+1)),(8,.i (k+1:Nat))]) ?_ (by simp);have:=za q3 Z ⟨by omega,by simpa using zx⟩ (by omega);simpa using this
     |false=>
      rw[hv2]at za;refine Qk rfl ?_;simp;repeat first|(refine r_ ?_;simp[x1])|refine q_ ?_
      generalize y6:(S++[Wg c p]).map encP=mm at *;refine Qe tOk rfl rfl T91 rfl T76 rfl (by decide) (by decide) rfl rfl rfl ?_
      simp[Qa zx.arr,Qi zx.arr,y5];refine⟨by simp[Wa,Qa zx.arr,Qi zx.arr,y5]<;>omega,?_⟩;repeat first|(refine r_ ?_;simp[y8])|refine q_ ?_
      refine Qc (sl':=[(0,.i T),(1,.list (l.map encP)),(5,.sl q 1 0 L.length),(6,.i i),(7,.sl (Z.length+1) 1 0 (S.length+2)),(8,.i (k+1:Nat))]) ?_ (by simp);have x2:=zx.put [AObj.arr 76 1 [encP (Wg c (W8 p))]] (mm++[encP (Wg c (W8 p))]) rfl;have:=za (Z.length+1) _ ⟨by omega,by
       have e:yX encP (S++((if false=true then []else [Wg c p])++if false=true then []else [Wg c (W8 p)]))=mm++[encP (Wg c (W8 p))]:=by rw[←y6];simp
       rw[e];simpa using x2⟩ (by omega)
      simpa using this
  ·have y7:k=L.length:=by simp at yh;omega
   have x3:Pa p L k=Eu p L:=by rw[y7,f0j]
   rw[x3]at hs ⊢;repeat first|(refine r_ ?_;simp[hw])|refine q_ ?_
   refine Qc (sl':=[(0,.i T),(1,.list (l.map encP)),(5,.sl q' 1 0 (Eu p L).length),(6,.i (i+1:Nat))]) ?_ (by simp);exact yr q' G ⟨by omega,hs.arr⟩ (by omega)
 ·have zj:i=l.length:=by simp at yf;omega
  subst zj;rw[f0g]at hq ⊢;obtain⟨xc,yv⟩:=P1 (T:=T.toNat) (by omega) (by omega) hl hn;have hR:Q0 T.toNat l=Z5 (Eo T.toNat l):=rfl;rw[hR];generalize Eo T.toNat l=C at *
  repeat first|(refine r_ ?_;simp)|refine q_ ?_
  refine Qs (sl':=[(5,.sl q 1 0 C.length),(11,.nils),(12,.i (0:Nat))]) ?_ (by simp);refine Wh q hq ?_;simp;rw[zO (by simp)];refine Q3 11 76 1 rfl ?_;simp;clear hq;refine Qp (Qc (sl':=[(5,.list (C.map encP)),(11,.sl H.length 1 0 (0:Nat)),(12,.i (0:Nat))]) ?_ (by simp));refine Qo (F:=fun(u:Nat×Nat×List AObj)=>⟨[(5,.list (C.map encP)),(11,.sl u.2.1 1 0 u.1),(12,.i u.1)],u.2.2⟩)
   (fun u=>u.1≤C.length∧u.2.2[u.2.1]? =some (.arr 76 1 ((D9 C u.1).map encP))) (fun u=>C.length - u.1) ?_ (0,H.length,_) ⟨wn _,by rw[Df];simp⟩
  rintro⟨i,q2,G⟩ ⟨x4,zc⟩ ih3;simp only at x4 zc ih3 ⊢;repeat first|(refine r_ ?_;simp)|refine q_ ?_
  refine Qb rfl (fun ye=> ?_) (fun yf=> ?_)
  ·have z7:i<C.length:=by simpa using ye
   have hw:IntKind.i64.wrap ((i:Int)+1)=i+1:=wrap_i64 _ (by omega) (by omega);have zi:=C0 C i (by omega);have x5:=Vw C i (by omega);have zw:=Sp C i z7;have zk:=fun q' G'=>ih3 (i+1,q',G');simp only[zw]at zk;clear zw;obtain⟨w1,w2,w3⟩:=yv _ (zK z7);have zm:(yX encP C)[i]? =some (encP C[i]):=by simp[z7]
   have zn:∀hh,(yX encP C)[i]'hh=encP C[i]:=fun hh=>by simp
   generalize C[i]=x at *;generalize D9 C i=S at *
   have zb:(S.map encP).length=i:=by simpa using zi
   repeat first|(refine r_ ?_;simp)|refine q_ ?_
   refine Qp (Qc (sl':=[(5,.list (C.map encP)),(11,.sl q2 1 0 i),(12,.i i),(13,.i i)]) ?_ (by simp));refine Qo (F:=fun(j:Nat)=>⟨[(5,.list (C.map encP)),(11,.sl q2 1 0 i),(12,.i i),(13,.i j)],G⟩)
    (fun j=>j≤i∧Co S x j=Co S x S.length) (fun j=>j) ?_ i ⟨zQ _,by rw[zi]⟩
   rintro j ⟨hj,hJ⟩ ih4;try simp only at hj hJ ih4 ⊢
   by_cases hj0:0<j
   ·obtain⟨j',rfl⟩:∃j',j=j'+1:=⟨j - 1,by omega⟩
    have yi:j'<S.length:=by omega
    have yb:IntKind.i64.wrap (j':Int)=j':=wrap_i64 _ (by omega) (by omega);obtain⟨y1,y2,y3⟩:=yv _ (x5 _ (zK yi));rw[d00 yi]at hJ;have yc:(yX encP S)[j']? =some (encP S[j']):=by simp[yi]
    have yd:∀hh,(yX encP S)[j']'hh=encP S[j']:=fun hh=>by simp
    have zo:(0:Int)<(j':Int)+1:=by omega
    have yj:j'<i:=by omega
    simp only[encP]at zm zn yc yd;repeat first|(refine r_ ?_;simp)|refine q_ ?_
    refine Qn tOk mixed [] (.val 0 (.val 1 (.val 2 (.val 3 (.val 4 (.val 5 (.val 6 (.val 8 (.val 9 (.val 10 (.val 11 (.val 12 (.one 7 (.one 13 (.one 14 (.val 15 (.done))))))))))))))))) rfl (by kernel_rfl) ?_;simp[z7,zm,zn,zc,yc,yd,yb,zb,zo,yj];refine Qf rfl rfl (by simp) (Te x w2) rfl ?_;rintro _ rfl;simp[z7,zm,zn,zc,yc,yd,yb,zb,zo,yj];refine Qf rfl rfl (by simp) (Te S[j'] y2) rfl ?_;rintro _ rfl;simp[z7,zm,zn,zc,yc,yd,yb,zb,zo,yj];refine Qf rfl rfl (by simp) (Hh (Qm x) (Qm S[j'])) rfl ?_;rintro _ rfl;simp;rw[g09];cases hb:J1 (Qw x 0) (Qw S[j'] 0)with
    |true=>
     rw[hb,if_pos rfl]at hJ;refine Qk rfl ?_;repeat first|(refine r_ ?_;simp[yb])|refine q_ ?_
     refine Qc (sl':=[(5,.list (C.map encP)),(11,.sl q2 1 0 i),(12,.i i),(13,.i j')]) ?_ (by simp);exact ih4 j' ⟨by omega,hJ⟩ (by omega)
    |false=>
     rw[hb,if_neg (by simp)]at hJ;refine Qk rfl ?_;obtain⟨k,hk⟩:∃k,k=j'+1:=⟨_,rfl⟩
     rw[←hk]at hJ;have yk:k=Co S x S.length:=hJ;have zp:k≤i:=by omega
     refine Qs (sl':=[(5,.list (C.map encP)),(11,.sl q2 1 0 i),(12,.i i),(13,.i (k:Nat))]) ?_ (by simp[hk]);have x6:(0:Int)≤(k:Int):=by omega
     have yl:(k:Int)≤(i:Int):=by omega
     have zq:Zn S x=S.take k++x::S.drop k:=by rw[Zn,←yk]
     repeat first|(refine r_ ?_;simp[zp])|refine q_ ?_
     refine Qe tOk rfl rfl T91 rfl T76 rfl (by decide) (by decide) rfl rfl rfl ?_;simp[Qa zc,Qi zc,zb,zp];refine⟨⟨fun y hy=> ?_,by simp;omega⟩,?_⟩
     ·obtain⟨c',_,rfl⟩:=zR.1 (wR (xK hy));exact⟨rfl,rfl⟩
     rw[Fw zb.symm];refine Q4 fun Z hZ=> ?_;have zr:=Qh zc;have z1:Z[q2]? =some (.arr 76 1 (S.map encP)):=by rw[hZ];simp[zF zr,zc]
     have z2:Z[G.length+1]? =some (.arr 76 1 ((S.map encP).drop k)):=by rw[hZ];simp
     have zl:Z.length=G.length+2:=by rw[hZ];simp
     clear hZ;refine Qs (sl':=[(5,.list (C.map encP)),(11,.sl q2 1 0 i),(12,.i i),(13,.i (k:Nat)),(14,.sl (G.length+1) 1 0 (i - k))]) ?_ (by simp);refine Vi q2 k z1 ?_;have z3:(Z.set q2 (.arr 76 1 ((S.map encP).take k)))[q2]? =some (.arr 76 1 ((S.map encP).take k)):=Qj z1 _;have z4:(Z.set q2 (.arr 76 1 ((S.map encP).take k)))[G.length+1]? =some (.arr 76 1 ((S.map encP).drop k)):=Qd (by omega) z2 _;have x7:(Z.set q2 (.arr 76 1 ((S.map encP).take k))).length=G.length+2:=by simp[zl]
     generalize Z.set q2 (.arr 76 1 ((S.map encP).take k))=Y at *;clear z1 z2 zl;clear Z
     have zt:((S.map encP).take k).length=k:=by rw[xN];omega
     have ym:((S.map encP).drop k).length=i - k:=by rw[xR];omega
     have yn:(S.map encP).take k=(S.take k).map encP:=by rw[xI]
     have yo:(S.map encP).drop k=(S.drop k).map encP:=by rw[xJ]
     have zu:(Zn S x).map encP=(S.map encP).take k++(encP x::(S.map encP).drop k):=by rw[zq,yF,yY,yn,yo]
     have yp:∀y∈(S.map encP).drop k,y.cells.length=1∧y.cells.all AV.leaf=true:=fun y hy=>by obtain⟨c',_,rfl⟩:=zR.1 (wR hy);exact⟨rfl,rfl⟩
     generalize (S.map encP).take k=tk at *;generalize (S.map encP).drop k=dk at *;refine Qn tOk mixed [8,10] (.val 0 (.val 1 (.val 2 (.val 3 (.val 4 (.val 5 (.val 6 (.val 9 (.one 7 (.one 8 (.one 10 (.val 11 (.done))))))))))))) rfl (by kernel_rfl) ?_
     simp[z7,zm,zn,zp];refine Qe tOk rfl rfl T91 rfl T76 rfl (by decide) (by decide) rfl rfl rfl ?_;simp[Qa z3,Qi z3,zt];refine⟨by simp[Wa,Qa z3,Qi z3,zt]<;>omega,?_⟩;refine Rv fun Z hZ=> ?_;have z5:Z[Y.length+1]? =some (.arr 76 1 (tk++[encP x])):=by rw[hZ,zH (by simp)];simp
     have z6:Z[G.length+1]? =some (.arr 76 1 dk):=by rw[hZ];exact Qa (Qd (by omega) z4 _) _
     clear hZ;have zv:(tk++[encP x]).length=k+1:=by simp[zt]
     have x8:i - k≤dk.length:=by omega
     have yq:dk.take (i - k)=dk:=zO (by omega);generalize y6:tk++[encP x]=mm at *;refine Qe tOk rfl rfl T91 rfl T76 rfl (by decide) (by decide) rfl rfl rfl ?_
     simp[Qa z5,Qi z5,Qa z6,zv,ym,yq,z5,z6];refine⟨⟨yp,by simp;omega⟩,?_⟩;repeat first|(refine r_ ?_;simp[hw])|refine q_ ?_
     refine Qc (sl':=[(5,.list (C.map encP)),(11,.sl Z.length 1 0 (i+1)),(12,.i (i+1:Nat))]) ?_ (by simp;omega);refine zk Z.length _ ⟨by omega,?_⟩ (by omega);rw[zu,zH (by simp),←y6];simp
   ·have x9:j=0:=by omega
    subst x9;have yw:IntKind.i64.wrap (-1)= -1:=by decide
    repeat first|(refine r_ ?_;simp)|refine q_ ?_
    refine Qn tOk mixed [] (.val 0 (.val 1 (.val 2 (.val 3 (.val 4 (.val 5 (.val 6 (.val 8 (.val 9 (.val 10 (.val 11 (.val 12 (.one 7 (.one 13 (.one 14 (.val 15 (.done))))))))))))))))) rfl (by kernel_rfl) ?_;simp[z7,zm,zn,zc,zb,yw];refine Q6 rfl rfl ?_;simp[zc,zb,yw];refine Q6 rfl rfl ?_;simp;refine Q6 rfl rfl ?_;simp;refine Qk rfl ?_;obtain⟨k,hk⟩:∃k,k=0:=⟨_,rfl⟩
    have yk:k=Co S x S.length:=by rw[←hJ,hk];unfold Co;rfl
    have zp:k≤i:=by omega
    refine Qs (sl':=[(5,.list (C.map encP)),(11,.sl q2 1 0 i),(12,.i i),(13,.i (k:Nat))]) ?_ (by simp[hk]);have x6:(0:Int)≤(k:Int):=by omega
    have yl:(k:Int)≤(i:Int):=by omega
    have zq:Zn S x=S.take k++x::S.drop k:=by rw[Zn,←yk]
    repeat first|(refine r_ ?_;simp[zp])|refine q_ ?_
    refine Qe tOk rfl rfl T91 rfl T76 rfl (by decide) (by decide) rfl rfl rfl ?_;simp[Qa zc,Qi zc,zb,zp];refine⟨⟨fun y hy=> ?_,by simp;omega⟩,?_⟩
    ·obtain⟨c',_,rfl⟩:=zR.1 (wR (xK hy));exact⟨rfl,rfl⟩
    rw[Fw zb.symm];refine Q4 fun Z hZ=> ?_;have zr:=Qh zc;have z1:Z[q2]? =some (.arr 76 1 (S.map encP)):=by rw[hZ];simp[zF zr,zc]
    have z2:Z[G.length+1]? =some (.arr 76 1 ((S.map encP).drop k)):=by rw[hZ];simp
    have zl:Z.length=G.length+2:=by rw[hZ];simp
    clear hZ;refine Qs (sl':=[(5,.list (C.map encP)),(11,.sl q2 1 0 i),(12,.i i),(13,.i (k:Nat)),(14,.sl (G.length+1) 1 0 (i - k))]) ?_ (by simp);refine Vi q2 k z1 ?_;have z3:(Z.set q2 (.arr 76 1 ((S.map encP).take k)))[q2]? =some (.arr 76 1 ((S.map encP).take k)):=Qj z1 _;have z4:(Z.set q2 (.arr 76 1 ((S.map encP).take k)))[G.length+1]? =some (.arr 76 1 ((S.map encP).drop k)):=Qd (by omega) z2 _;have x7:(Z.set q2 (.arr 76 1 ((S.map encP).take k))).length=G.length+2:=by simp[zl]
    generalize Z.set q2 (.arr 76 1 ((S.map encP).take k))=Y at *;clear z1 z2 zl;clear Z
    have zt:((S.map encP).take k).length=k:=by rw[xN];omega
    have ym:((S.map encP).drop k).length=i - k:=by rw[xR];omega
    have yn:(S.map encP).take k=(S.take k).map encP:=by rw[xI]
    have yo:(S.map encP).drop k=(S.drop k).map encP:=by rw[xJ]
    have zu:(Zn S x).map encP=(S.map encP).take k++(encP x::(S.map encP).drop k):=by rw[zq,yF,yY,yn,yo]
    have yp:∀y∈(S.map encP).drop k,y.cells.length=1∧y.cells.all AV.leaf=true:=fun y hy=>by obtain⟨c',_,rfl⟩:=zR.1 (wR hy);exact⟨rfl,rfl⟩
    generalize (S.map encP).take k=tk at *;generalize (S.map encP).drop k=dk at *;refine Qn tOk mixed [8,10] (.val 0 (.val 1 (.val 2 (.val 3 (.val 4 (.val 5 (.val 6 (.val 9 (.one 7 (.one 8 (.one 10 (.val 11 (.done))))))))))))) rfl (by kernel_rfl) ?_
    simp[z7,zm,zn,zp];refine Qe tOk rfl rfl T91 rfl T76 rfl (by decide) (by decide) rfl rfl rfl ?_;simp[Qa z3,Qi z3,zt];refine⟨by simp[Wa,Qa z3,Qi z3,zt]<;>omega,?_⟩;refine Rv fun Z hZ=> ?_;have z5:Z[Y.length+1]? =some (.arr 76 1 (tk++[encP x])):=by rw[hZ,zH (by simp)];simp
    have z6:Z[G.length+1]? =some (.arr 76 1 dk):=by rw[hZ];exact Qa (Qd (by omega) z4 _) _
    clear hZ;have zv:(tk++[encP x]).length=k+1:=by simp[zt]
    have x8:i - k≤dk.length:=by omega
    have yq:dk.take (i - k)=dk:=zO (by omega);generalize y6:tk++[encP x]=mm at *;refine Qe tOk rfl rfl T91 rfl T76 rfl (by decide) (by decide) rfl rfl rfl ?_
    simp[Qa z5,Qi z5,Qa z6,zv,ym,yq,z5,z6];refine⟨⟨yp,by simp;omega⟩,?_⟩;repeat first|(refine r_ ?_;simp[hw])|refine q_ ?_
    refine Qc (sl':=[(5,.list (C.map encP)),(11,.sl Z.length 1 0 (i+1)),(12,.i (i+1:Nat))]) ?_ (by simp;omega);refine zk Z.length _ ⟨by omega,?_⟩ (by omega);rw[zu,zH (by simp),←y6];simp
  ·have zj:i=C.length:=by simp at yf;omega
   subst zj;rw[w1i]at zc;have yx:=Xn C;refine Wh q2 zc ?_;simp[yx];rw[zO (by simp[yx])];repeat first|(refine r_ ?_;simp)|refine q_ ?_
end Go.Abs
namespace Go.Abs
open Go Go.Proofs Go.Maps Go.RowKit
def d0f(p:Prd):Bool:=p.any fun s=>decide (256<s.length)
def w1y(p:Prd):Int×Prd:=if d0f p then(5,[])else(0,p)
theorem x06{p:Prd}(h:∀i,∀hi:i<p.length,¬256<p[i].length):d0f p=false:=by unfold d0f;rw[wQ];intro s hs;obtain⟨i,hi,rfl⟩:=y_ hs;have:=h i hi;simpa using this
theorem k02{p:Prd}{i:Nat}(hi:i<p.length)(h:256<p[i].length):d0f p=true:=by unfold d0f;rw[wN];exact⟨_,zK hi,by simpa using h⟩
theorem C5(p:Prd):PC Tryz.prog 172 [encP p] (fun r=>r= .tup [encP (w1y p).2,.i (w1y p).1]):=by
 refine Ql tOk Tryz.func172 rfl Tryz.results172 rfl (by simp[Tryz.ntmps172]) ?_;rw[Tryz.ntmps172];simp only[Qg];simp only[encP];refine W1 0 0 rfl rfl (fun hlen=> ?_);rw[zZ]at hlen;repeat first|(refine r_ ?_;simp)|refine q_ ?_
 refine Qr p.length (fun j=>∀i,∀hi:i<p.length,i<j→¬256<p[i].length) (fun j=>[(1,.vptr 0 0),(2,.vptr 1 0),(3,.i 0),(4,.i j)]) (fun _=>[.vars [.list (p.map encL)],.vars [.nils]]) rfl (by simp) (by simp) (by simp) (by simp) (by simp) ?_;intro j hj hI ih;repeat first|(refine r_ ?_;simp)|refine q_ ?_
 refine Qb rfl (fun z7=> ?_) (fun z8=> ?_)
 ·have z1:j<p.length:=by simpa using z7
  have hw:IntKind.i64.wrap ((j:Int)+1)=j+1:=wrap_i64 _ (by omega) (by omega);repeat first|(refine r_ ?_;simp[z1])|refine q_ ?_
  refine Qb rfl (fun h=> ?_) (fun h=> ?_)
  ·have hb:=k02 z1 (by simp at h;omega);rw[w1y,if_pos hb];repeat first|(refine r_ ?_;simp)|refine q_ ?_
  ·repeat first|(refine r_ ?_;simp[hw])|refine q_ ?_
   refine Qq _ (ih z1 (fun i hi za=> ?_)) rfl (by simp) ?_ (by simp) (by simp)
   ·by_cases e:i=j
    ·subst e;simp at h;omega
    ·exact hI i hi (by omega)
   ·simp
 ·have z6:j=p.length:=by simp at z8;omega
  subst z6;have hb:=x06 fun i hi=>hI i hi hi;rw[w1y,hb];repeat first|(refine r_ ?_;simp)|refine q_ ?_
theorem q0a(L:List Prd):Az L=(decide (256<L.length) || L.any d0f):=rfl
attribute [local irreducible] Q0 Ej d0f
theorem w0b{T:Int}:∀(l:List Prd) (j:Nat),(∀i,∀hi:i<l.length,i<j→Ej T l[i]=0)→∀h:j<l.length,Ej T l[j]≠0→Tb T l=Ej T l[j]
 |[],j,_,h,_=>by simp at h
 |p::l,0,_,_,h=>by simp only[uN]at h ⊢;rw[Tb,if_pos h]
 |p::l,j+1,hI,hj,h=>by have h0:=hI 0 (by simp) (by omega);simp only[uN]at h0;simp only[List.getElem_cons_succ]at h ⊢;rw[Tb,if_neg (fun k=>k h0)];exact w0b l j (fun i hi z1=>by have:=hI (i+1) (by simpa using hi) (by omega);simpa using this) (by simpa using hj) h
theorem y1z{T:Int}(l:List Prd)(hI:∀i,∀hi:i<l.length,Ej T l[i]=0):Tb T l=0:=(Yc l).2 fun p hp=>by obtain⟨i,hi,rfl⟩:=y_ hp;exact hI i hi
attribute [local irreducible] Tb w1y
theorem Nk(T:Int)(l:List Prd):PC Tryz.prog 117 [.i T,LP l] (fun r=>r= .tup [LP (Rk T l).2,.i (Rk T l).1]):=by
 refine Ql tOk Tryz.func117 rfl Tryz.results117 rfl (by simp[Tryz.ntmps117]) ?_;rw[Tryz.ntmps117];simp only[Qg];simp only[LP];rw[←Ml];obtain⟨R,hR⟩:∃R,Nv T l=R:=⟨_,rfl⟩
 rw[hR];unfold Nv at hR;have zg:(T<1∨16<T)∨(1≤T∧T≤16):=by omega
 rcases zg with hT|hT
 ·rw[if_pos hT]at hR;rw[←hR];rcases hT with hT|hT
  ·repeat first|(refine r_ ?_;simp[hT])|refine q_ ?_
   refine Qk rfl ?_;repeat first|(refine r_ ?_;simp)|refine q_ ?_
  ·have zh:¬T<1:=by omega
   repeat first|(refine r_ ?_;simp[hT,zh])|refine q_ ?_
   refine Qk rfl ?_;repeat first|(refine r_ ?_;simp)|refine q_ ?_
 have n1:¬T<1:=by omega
 have n2:¬16<T:=by omega
 rw[if_neg (by omega)]at hR;repeat first|(refine r_ ?_;simp[n1,n2])|refine q_ ?_
 refine Qk rfl ?_;repeat first|(refine r_ ?_;simp)|refine q_ ?_
 refine Qb rfl (fun h=> ?_) (fun h=> ?_)
 ·rw[if_pos (by simp at h;omega)]at hR;rw[←hR];repeat first|(refine r_ ?_;simp)|refine q_ ?_
 have hl:¬256<l.length:=by simp at h;omega
 rw[if_neg hl]at hR;repeat first|(refine r_ ?_;simp)|refine q_ ?_
 refine Qr l.length (fun j=>∀i,∀hi:i<l.length,i<j→Ej T l[i]=0) (fun j=>[(0,.i T),(1,LP l),(6,.i j)]) (fun _=>[]) rfl (by simp) (by simp) (by simp) (by simp) (by simp) ?_;intro j hj hI ih;repeat first|(refine r_ ?_;simp)|refine q_ ?_
 refine Qb rfl (fun z8=> ?_) (fun za=> ?_)
 ·have z1:j<l.length:=by simpa using z8
  have hw:IntKind.i64.wrap ((j:Int)+1)=j+1:=wrap_i64 _ (by omega) (by omega);repeat first|(refine r_ ?_;simp[z1])|refine q_ ?_
  refine Qf rfl rfl (by simp) (L7 T l[j]) rfl ?_;rintro _ rfl;simp;repeat first|(refine r_ ?_;simp)|refine q_ ?_
  refine Qb rfl (fun h=> ?_) (fun h=> ?_)
  ·have h':Ej T l[j]≠0:=by simpa using h
   rw[w0b l j hI z1 h',if_pos h']at hR;rw[←hR];repeat first|(refine r_ ?_;simp)|refine q_ ?_
  ·have h':Ej T l[j]=0:=by simpa using h
   repeat first|(refine r_ ?_;simp[hw])|refine q_ ?_
   refine Qq _ (ih z1 (fun i hi zi=> ?_)) rfl (by simp) ?_ (by simp) (by simp)
   ·by_cases e:i=j
    ·subst e;exact h'
    ·exact hI i hi (by omega)
   ·simp
 have zj:j=l.length:=by simp at za;omega
 have zc:=y1z l fun i hi=>hI i hi (by omega);have zd:∀p∈l,PCk T.toNat p:=fun p hp=>((Ek T p).1 ((Yc l).1 zc p hp)).2;rw[if_neg (fun k=>k zc)]at hR;repeat first|(refine r_ ?_;simp)|refine q_ ?_
 refine Qf rfl rfl (by simp) (Ds T l hT zd (by omega)) rfl ?_;rintro _ rfl;simp;obtain⟨hb,_⟩:=Yv (T:=T.toNat) (by omega) (by omega) zd (by omega:l.length≤4096);rw[q0a]at hR;generalize Q0 T.toNat l=C at *
 repeat first|(refine r_ ?_;simp)|refine q_ ?_
 refine Qb rfl (fun h=> ?_) (fun h=> ?_)
 ·have:256<C.length:=by simp at h;omega
  rw[decide_eq_true this,Bool.true_or,if_pos rfl]at hR;rw[←hR];repeat first|(refine r_ ?_;simp)|refine q_ ?_
 have hC:¬256<C.length:=by simp at h;omega
 rw[decide_eq_false hC,um]at hR;repeat first|(refine r_ ?_;simp)|refine q_ ?_
 refine Qr C.length (fun j=>∀i,∀hi:i<C.length,i<j→d0f C[i]=false) (fun j=>[(8,LP C),(9,.i j)]) (fun _=>[]) rfl (by simp) (by simp) (by simp) (by simp) (by simp) ?_;intro j2 zl ze zk;repeat first|(refine r_ ?_;simp)|refine q_ ?_
 refine Qb rfl (fun z8=> ?_) (fun za=> ?_)
 ·have z1:j2<C.length:=by simpa using z8
  have hw:IntKind.i64.wrap ((j2:Int)+1)=j2+1:=wrap_i64 _ (by omega) (by omega);repeat first|(refine r_ ?_;simp[z1])|refine q_ ?_
  refine Qf rfl rfl (by simp) (C5 C[j2]) rfl ?_;rintro _ rfl;simp;cases z7:d0f C[j2]with
  |true=>
   have z6:C.any d0f=true:=wN.2 ⟨_,zK z1,z7⟩;have zb:w1y C[j2]=(5,[]):=by unfold w1y;rw[if_pos z7]
   rw[z6,if_pos rfl]at hR;rw[zb,←hR];simp;repeat first|(refine r_ ?_;simp)|refine q_ ?_
   refine Qk rfl ?_;repeat (first|(refine r_ ?_;simp)|refine q_ ?_)
  |false=>
   have zb:w1y C[j2]=(0,C[j2]):=by unfold w1y;rw[if_neg (by rw[z7];simp)]
   rw[zb];simp;repeat first|(refine r_ ?_;simp)|refine q_ ?_
   refine Qk rfl ?_;repeat first|(refine r_ ?_;simp[hw])|refine q_ ?_
   refine Qq _ (zk z1 (fun i hi zi=> ?_)) rfl (by simp) ?_ (by simp) (by simp)
   ·by_cases e:i=j2
    ·subst e;exact z7
    ·exact ze i hi (by omega)
   ·simp
 ·have zf:j2=C.length:=by simp at za;omega
  have z6:C.any d0f=false:=by rw[wQ];intro p hp;obtain⟨i,hi,rfl⟩:=y_ hp;rw[ze i hi (by omega)];simp
  rw[z6,if_neg (by simp)]at hR;rw[←hR];repeat first|(refine r_ ?_;simp)|refine q_ ?_
end Go.Abs
namespace Go.Abs
open Go Go.Proofs Go.Maps Go.RowKit
theorem q1s{a:Aut}{cl:List Prd}{f i:Nat}{Q:List (List Int)}(hf:0<f)(h:Q[i]? =none):Xa a cl f i Q=some Q:=by
 obtain⟨g,rfl⟩:∃g,f=g+1:=⟨f - 1,by omega⟩
 rw[Xa,h]
theorem c0p{a:Aut}{cl:List Prd}{f i:Nat}{Q:List (List Int)}{l:List Int}(h:Q[i]? =some l)(hQ:Q.length≤256):Xa a cl (f+1) i Q=(Pe Q (Ey a cl l)).bind (Xa a cl f (i+1)):=by rw[Xa,h,round_eq _ _ hQ];simp only;split<;>rfl
theorem f0i(a:Aut)(cl:List Prd)(l:List Int){k:Nat}(h:k<cl.length):(Ey a cl l).drop k=Wb a l (Qm cl[k])::(Ey a cl l).drop (k+1):=by
 have hk:k<(Ey a cl l).length:=by simpa[Ey]using h
 rw[ws hk];simp[Ey]
theorem k1t{a:Aut}{Q:List (List Int)}{x:List Int}(hQ:∀l∈Q,l.length≤256∧∀s∈l,0≤s∧s<a.fin.length)(hx:x.length≤256∧∀s∈x,0≤s∧s<a.fin.length):∀l∈Se Q x,l.length≤256∧∀s∈l,0≤s∧s<a.fin.length:=by
 intro l hl;unfold Se at hl;split at hl
 ·exact hQ l hl
 ·rcases zV.1 hl with hl|hl
  ·exact hQ l hl
  ·rw[zT.1 hl];exact hx
theorem k1d(Q:List (List Int))(x:List Int):decide (Db (fun y=>decide (y=x)) Q<0)=decide (x∉Q):=by
 have:=z0x (fun y=>decide (y=x)) Q;rw[decide_eq_decide];by_cases hx:x∈Q
 ·have h:Q.any (fun y=>decide (y=x))=true:=wN.2 ⟨x,hx,by simp⟩;rw[h]at this;have:=of_decide_eq_true this;constructor
  ·intro k;omega
  ·intro k;exact absurd hx k
 ·have h:Q.any (fun y=>decide (y=x))=false:=by rw[wQ];intro y hy;have:y≠x:=fun e=>hx (e▸hy);simpa using this
  rw[h]at this;have:=of_decide_eq_false this;constructor
  ·intro _;exact hx
  ·intro _;omega
attribute [local irreducible] Wb Qm Xa Pe Ey Rk U9 nxB Y0 Db Wq
theorem q0m(a:Aut)(ha:OkA a):PC Tryz.prog 52 [encA a] (fun r=>r= .tup [LLI (Ud a).2.2,LP (Ud a).2.1,.i (Ud a).1]):=by
 refine Ql tOk Tryz.func52 rfl Tryz.results52 rfl (by simp[Tryz.ntmps52]) ?_;rw[Tryz.ntmps52];simp only[Qg];simp only[encA];obtain⟨R,hR⟩:∃R,Ud a=R:=⟨_,rfl⟩
 rw[hR];unfold Ud at hR;rw[if_neg (fun k=>k ((O5 a).2 ha))]at hR;have y6:=ha.mvs;have zu:=ha.fin;repeat first|(refine r_ ?_;simp)|refine q_ ?_
 refine Qn tOk mixed [] (.val 0 (.val 1 (.val 2 (.one 3 (.one 4 (.val 5 (.val 6 (.val 7 (.val 8 (.val 9 (.done))))))))))) rfl (by kernel_rfl) ?_;simp;refine Qf rfl rfl (by simp) (G4 a (by omega)) rfl ?_;rintro _ rfl;simp;refine Qf rfl rfl (by simp) (Nk a.types (onA a)) rfl ?_;rintro _ rfl;simp;have zv:=Mr ha.types (Dq ha);have z8:=Yv (T:=a.types.toNat) (by have:=ha.types;omega) (by have:=ha.types;omega) (Dq ha) (by simp[onA];omega);generalize Rk a.types (onA a)=M at *
 repeat first|(refine r_ ?_;simp)|refine q_ ?_
 refine Qb rfl (fun h=> ?_) (fun h=> ?_)
 ·rw[if_pos (by simpa using h)]at hR;rw[←hR];repeat first|(refine r_ ?_;simp)|refine q_ ?_
 have h0:M.1=0:=by simpa using h
 rw[if_neg (fun k=>k h0)]at hR;have hM:M.2=Q0 a.types.toNat (onA a):=by
  rcases zv with k|k
  ·rw[h0]at k;cases k
  ·rw[k]
 rw[←hM]at z8;generalize M.2=cl at *
 have zw:∀c∈cl,Wd c=false:=fun c hc=>(z8.2 c hc).2.1;have y7:=z8.1;have y8:∀c∈cl,∀l,Wb a l (Qm c)=Wb a l (Qm c):=fun _ _ _=>rfl;repeat first|(refine r_ ?_;simp)|refine q_ ?_
 refine Yd 1 (e:=3) (c:=1) (xs:=[.i 0]) rfl 2 (o0:= .va 40 1 [.sl 1 1 0 1]) rfl (by decide) rfl ?_;simp[AObj.fz,AV.fz];refine Ue 2 rfl (by simp[AV.cells,AV.pure]) ?_;simp;refine Qp (Qc (sl':=[(1,.vptr 0 0),(2,.nils),(3,.nils),(4,.i 0),(5,LP cl),(7,.sl 2 1 0 ([[0]]:List (List Int)).length),(8,.i (0:Nat))]) ?_ (by simp));refine Qo (F:=fun(u:Nat×Nat×List (List Int)×List AObj)=>⟨[(1,.vptr 0 0),(2,.nils),(3,.nils),(4,.i 0),(5,LP cl),(7,.sl u.2.1 1 0 u.2.2.1.length),(8,.i u.1)],u.2.2.2⟩)
  (fun u=>u.1≤u.2.2.1.length∧u.2.2.1.length≤256∧u.2.2.2[0]? =some (.vars (Qu a))∧u.2.2.2[u.2.1]? =some (.arr 40 1 (LQ u.2.2.1))∧(∀l∈u.2.2.1,l.length≤256∧∀s∈l,0≤s∧s<a.fin.length)∧Xa a cl (257 - u.1) u.1 u.2.2.1=Kq a cl) (fun u=>257 - u.1) ?_ (0,2,[[0]],_) ⟨by simp,by simp,rfl,rfl,fun l hl=>by
   rw[zT.1 hl];simp;omega,rfl⟩
 rintro⟨n,q,Q,H⟩ ⟨hn,zh,zp,hq,zi,hB⟩ ih;simp only at hn zh zp hq zi hB ih ⊢;repeat first|(refine r_ ?_;simp)|refine q_ ?_
 refine Qb rfl (fun zx=> ?_) (fun zy=> ?_)
 ·have za:n<Q.length:=by simpa using zx
  have hw:IntKind.i64.wrap ((n:Int)+1)=n+1:=wrap_i64 _ (by omega) (by omega);have zq:Q[n]? =some Q[n]:=zI za;rw[show 257 - n=(256 - n)+1 by omega,c0p zq zh]at hB;obtain⟨y9,zz⟩:=zi _ (zK za);generalize Q[n]=l at *
  repeat first|(refine r_ ?_;simp)|refine q_ ?_
  refine Qp (Qc (sl':=[(1,.vptr 0 0),(2,.nils),(3,.nils),(4,.i 0),(5,LP cl),(7,.sl q 1 0 Q.length),(8,.i n),(9,.i (0:Nat))]) ?_ (by simp));refine Qo (F:=fun(u:Nat×Nat×List (List Int)×List AObj)=>⟨[(1,.vptr 0 0),(2,.nils),(3,.nils),(4,.i 0),(5,LP cl),(7,.sl u.2.1 1 0 u.2.2.1.length),(8,.i n),(9,.i u.1)],u.2.2.2⟩)
   (fun u=>u.1≤cl.length∧n<u.2.2.1.length∧u.2.2.1.length≤256∧u.2.2.2[0]? =some (.vars (Qu a))∧u.2.2.2[u.2.1]? =some (.arr 40 1 (LQ u.2.2.1))∧(∀l∈u.2.2.1,l.length≤256∧∀s∈l,0≤s∧s<a.fin.length)∧u.2.2.1[n]? =some l∧Pe u.2.2.1 ((Ey a cl l).drop u.1)=Pe Q (Ey a cl l)) (fun u=>cl.length - u.1) ?_ (0,q,Q,H) ⟨wn _,za,zh,zp,hq,zi,zq,by rw[List.drop_zero]⟩
  rintro⟨k,q2,Q2,G⟩ ⟨hk,zd,zf,k0,kq,ze,kn,kR⟩ ih2;simp only at hk zd zf k0 kq ze kn kR ih2 ⊢;repeat first|(refine r_ ?_;simp)|refine q_ ?_
  refine Qb rfl (fun zj=> ?_) (fun zk=> ?_)
  ·have z1:k<cl.length:=by simpa using zj
   have zl:IntKind.i64.wrap ((k:Int)+1)=k+1:=wrap_i64 _ (by omega) (by omega);rw[f0i a cl l z1]at kR;have hv:=zw _ (zK z1);have zm:(yX encP cl)[k]? =some (encP cl[k]):=by simp[z1]
   have zn:∀hh,(yX encP cl)[k]'hh=encP cl[k]:=fun hh=>by simp
   generalize cl[k]=c at *
   have y0:(Wb a l (Qm c)).length≤256:=Fk ha l (Qm c);have y1:∀s∈Wb a l (Qm c),0≤s∧s<a.fin.length:=Ow;have zg:(LQ Q2)[n]? =some (LI l):=by simp[kn]
   have zr:∀hh,(LQ Q2)[n]'hh=LI l:=fun hh=>by rw[zI hh]at zg;exact Option.some.inj zg
   have zb:(LQ Q2).length=Q2.length:=by simp
   simp only[encP]at zm zn;repeat first|(refine r_ ?_;simp)|refine q_ ?_
   refine Qn tOk mixed [] (.val 0 (.val 1 (.val 2 (.val 3 (.val 4 (.val 5 (.val 7 (.val 8 (.val 9 (.val 10 (.one 6 (.one 11 (.one 12 (.one 13 (.val 14 (.done)))))))))))))))) rfl (by kernel_rfl) ?_;simp[k0,kq,zg,zr,zb,zd,z1,zm,zn];refine Qf rfl rfl (by simp) (d0v a ha l zz (by omega)) rfl ?_;rintro _ rfl;simp[k0,kq,zg,zr,zb,zd,z1,zm,zn];refine Qf rfl rfl (by simp) (Te c hv) rfl ?_;rintro _ rfl;simp[k0];refine Qf rfl rfl (by simp) (Zf a ha (fun z=>decide (z∈l)) (Qm c)) rfl ?_;rintro _ rfl;simp;refine Qf rfl rfl (by simp) (w07 a.fin.length (nxB a.mv (fun z=>decide (z∈l)) (Qm c)) (by omega)) rfl ?_;rintro _ rfl;simp;rw[Vh];have z6:Se Q2 (Wb a l (Qm c))=if Wb a l (Qm c)=[]∨Wb a l (Qm c)∈Q2 then Q2 else Q2++[Wb a l (Qm c)]:=rfl
   have zc:=k1t ze ⟨y0,y1⟩;rw[Pe]at kR;generalize Wb a l (Qm c)=x at *
   have zo:v_ Q2.length (LQ Q2)=LQ Q2:=zO (by simp);by_cases hx:x=[]
   ·rw[if_pos (.inl hx)]at z6;rw[z6]at kR zc;subst hx;repeat first|(refine r_ ?_;simp)|refine q_ ?_
    refine Q6 rfl rfl ?_;simp;repeat first|(refine r_ ?_;simp)|refine q_ ?_
    refine Qk rfl ?_;repeat first|(refine r_ ?_;simp)|refine q_ ?_
    refine Qb rfl (fun h=>by simp at h;omega) (fun _=> ?_);repeat first|(refine r_ ?_;simp[zl])|refine q_ ?_
    rw[if_neg (by omega)]at kR;refine Qc (sl':=[(1,.vptr 0 0),(2,.nils),(3,.nils),(4,.i 0),(5,LP cl),(7,.sl q2 1 0 Q2.length),(8,.i n),(9,.i (k+1:Nat))]) ?_ (by simp);exact ih2 (k+1,q2,Q2,G) ⟨by omega,zd,zf,k0,kq,ze,kn,kR⟩ (by omega)
   ·have y2:0<x.length:=List.length_pos_iff.2 hx;repeat first|(refine r_ ?_;simp[y2])|refine q_ ?_
    refine Em rfl rfl (by first|(simp[kq,zo,zb];done)|(simp[kq,zo,zb];rfl)) (z08 Q2 x) rfl ?_;rintro _ rfl;refine⟨by first|simp|rfl|trivial,?_⟩;simp[kq,zo,zb];rw[k1d];by_cases hm:x∈Q2
    ·rw[if_pos (.inr hm)]at z6;rw[z6,if_neg (by omega)]at kR;refine Qb rfl (fun h=>by simp[hm]at h) (fun _=> ?_);repeat first|(refine r_ ?_;simp)|refine q_ ?_
     refine Qb rfl (fun h=>by simp at h;omega) (fun _=> ?_);repeat first|(refine r_ ?_;simp[zl])|refine q_ ?_
     refine Qc (sl':=[(1,.vptr 0 0),(2,.nils),(3,.nils),(4,.i 0),(5,LP cl),(7,.sl q2 1 0 Q2.length),(8,.i n),(9,.i (k+1:Nat))]) ?_ (by simp);exact ih2 (k+1,q2,Q2,G) ⟨by omega,zd,zf,k0,kq,ze,kn,kR⟩ (by omega)
    ·rw[if_neg (by rintro(h|h);exact hx h;exact hm h)]at z6;rw[z6]at kR zc;have y3:q2≠0:=fun e=>by rw[e,k0]at kq;simp at kq
     refine Qb rfl (fun _=> ?_) (fun h=>by simp[hm]at h);repeat first|(refine r_ ?_;simp)|refine q_ ?_
     have y4:(LQ Q2++[LI x])=LQ (Q2++[x]):=by simp
     refine Qe tOk rfl rfl T28 rfl T40 rfl (by decide) (by decide) rfl rfl rfl ?_;simp[Qa kq,Qi kq,zb];refine⟨by simp[Wa,Qa kq,Qi kq,zb]<;>omega,?_⟩;repeat first|(refine r_ ?_;simp)|refine q_ ?_
     refine Qb rfl (fun h=> ?_) (fun h=> ?_)
     ·have z7:256<(Q2++[x]).length:=by simp at h ⊢;omega
      rw[if_pos z7]at kR;rw[←kR]at hB;rw[←hB]at hR;simp at hR;rw[←hR];repeat first|(refine r_ ?_;simp)|refine q_ ?_
     ·have z7:¬256<(Q2++[x]).length:=by simp at h ⊢;omega
      rw[if_neg z7]at kR;repeat first|(refine r_ ?_;simp[zl])|refine q_ ?_
      refine Qc (sl':=[(1,.vptr 0 0),(2,.nils),(3,.nils),(4,.i 0),(5,LP cl),(7,.sl (G.length+1) 1 0 (Q2++[x]).length),(8,.i n),(9,.i (k+1:Nat))]) ?_ (by simp);refine ih2 (k+1,G.length+1,Q2++[x],_) ⟨by omega,by simp;omega,by simp at z7 ⊢;omega,Qa (Qd y3 k0 _) _,?_,zc,by simp only;rw[zF zd];exact kn,kR⟩ (by omega);rw[zH (by simp)];simp
  ·have zt:k=cl.length:=by simp at zk;omega
   have ya:(Ey a cl l).length=cl.length:=by unfold Ey;simp
   rw[List.drop_eq_nil_of_le (by omega),Pe]at kR;rw[←kR]at hB;simp only[Option.bind_some]at hB;repeat first|(refine r_ ?_;simp[hw])|refine q_ ?_
   refine Qc (sl':=[(1,.vptr 0 0),(2,.nils),(3,.nils),(4,.i 0),(5,LP cl),(7,.sl q2 1 0 Q2.length),(8,.i (n+1:Nat))]) ?_ (by simp);exact ih (n+1,q2,Q2,G) ⟨by simp only;omega,zf,k0,kq,ze,by rw[show 257 - (n+1)=256 - n by omega];exact hB⟩ (by simp;omega)
 ·have y5:n=Q.length:=by simp at zy;omega
  rw[q1s (by omega) (by rw[List.getElem?_eq_none_iff];omega)]at hB;rw[←hB]at hR;rw[←hR];refine Wh q hq ?_;simp;rw[zO (by simp)];repeat first|(refine r_ ?_;simp)|refine q_ ?_
end Go.Abs
namespace Go.Abs
open Go Go.Proofs Go.Maps Go.RowKit
theorem x1a(Q:List (List Int))(x:List Int):Db (fun y=>decide (y=x)) Q=match Nq Q x with|some i=>(i:Int)|none=> -1:=rfl
theorem z0u(g:List Mv)(t:Nat):Db (fun m:Mv=>m.dst==(t:Int)) g=match g.findIdx? fun m:Mv=>decide (m.dst=(t:Int))with|some i=>(i:Int)|none=> -1:=rfl
theorem k0b{a:Aut}{Q:List (List Int)}{n:Nat}{l:List Int}{g:List Mv}{c:Prd}(h:Nq Q (Wb a l (Qm c))=none):stepG a Q n l g c=g:=by unfold stepG;rw[h]
theorem x0x{a:Aut}{Q:List (List Int)}{n t:Nat}{l:List Int}{g:List Mv}{c:Prd}(h:Nq Q (Wb a l (Qm c))=some t):stepG a Q n l g c=Et n g t c:=by unfold stepG;rw[h]
attribute [local irreducible] Ud Wb Qm Zc Yq Y8 Ef stepG Ib Ch Db U9 nxB Y0 Nr Wq
theorem Ho(a:Aut):PC Tryz.prog 19 [encA a] (fun r=>r= .tup [encA (Rt a).2,.i (Rt a).1]):=by
 refine Ql tOk Tryz.func19 rfl Tryz.results19 rfl (by simp[Tryz.ntmps19]) ?_;rw[Tryz.ntmps19];simp only[Qg];simp only[encA];obtain⟨R,hR⟩:∃R,Rt a=R:=⟨_,rfl⟩
 rw[hR];unfold Rt at hR;repeat first|(refine r_ ?_;simp)|refine q_ ?_
 refine Qf rfl rfl (by simp) (Ua a) rfl ?_;rintro _ rfl;simp;repeat first|(refine r_ ?_;simp)|refine q_ ?_
 refine Qb rfl (fun h=> ?_) (fun h=> ?_)
 ·have h':Wq a≠0:=by simpa using h
  rw[Z9 h',if_pos h']at hR;rw[←hR];repeat first|(refine r_ ?_;simp)|refine q_ ?_
  exact⟨rfl,rfl,rfl⟩
 have zk:=(O5 a).1 (by simpa using h);repeat first|(refine r_ ?_;simp)|refine q_ ?_
 refine Qf rfl rfl (by simp) (q0m a zk) rfl ?_;rintro _ rfl;simp;repeat first|(refine r_ ?_;simp)|refine q_ ?_
 refine Qb rfl (fun h=> ?_) (fun h=> ?_)
 ·have h':(Ud a).1≠0:=by simpa using h
  rw[if_pos h']at hR;rw[←hR];repeat first|(refine r_ ?_;simp)|refine q_ ?_
  exact⟨rfl,rfl,rfl⟩
 have he:(Ud a).1=0:=by simpa using h
 rw[if_neg (fun k=>k he)]at hR;obtain⟨-,cl,Q,yu,xl,zw,zb,zd,zx⟩:=Gf he;rw[yu]at hR ⊢;have yw:=c0r zw zb;rw[←u1j yw]at hR;try simp only at hR
 have yx:=zb.lim;repeat first|(refine r_ ?_;simp)|refine q_ ?_
 refine Qs (sl':=[(1,.vptr 0 0),(2,.vptr 1 0),(3,.i 0),(5,LLI Q),(6,LP cl),(8,.vptr 2 0),(9,.i (0:Nat))]) ?_ (by simp);refine Wt 2 1 4 1 rfl rfl ?_;refine Q4 fun Z1 zh=> ?_;have z1l:Z1.length=4:=by rw[zh];simp
 have z1c:Z1[2]? =some (.vars [.i a.types,.sl 3 1 0 0,.nils]):=by rw[zh];rfl
 have z1f:Z1[3]? =some (.arr 4 1 []):=by rw[zh];rfl
 have z10:Z1[0]? =some (.vars (Qu a)):=by rw[zh];rfl
 have z11:Z1[1]? =some (.vars [.i 0,.nils,.nils]):=by rw[zh];rfl
 clear zh;refine Wt 2 2 78 3 z1c rfl ?_;refine Q4 fun Z2 zi=> ?_;have z2c:Z2[2]? =some (.vars [.i a.types,.sl 3 1 0 0,.sl 4 3 0 0]):=by rw[zi,zL (by simp;omega)];simp[z1l]
 have z2f:Z2[3]? =some (.arr 4 1 []):=by rw[zi,zB (by omega),zF (by omega)];exact z1f
 have z2v:Z2[4]? =some (.arr 78 3 []):=by rw[zi,zB (by omega),zH (by omega)];simp[z1l]
 have z20:Z2[0]? =some (.vars (Qu a)):=by rw[zi,zB (by omega),zF (by omega)];exact z10
 have z21:Z2[1]? =some (.vars [.i 0,.nils,.nils]):=by rw[zi,zB (by omega),zF (by omega)];exact z11
 clear zi z1l z1c z1f z10 z11;clear Z1;refine Qp (Qc (sl':=[(1,.vptr 0 0),(2,.vptr 1 0),(3,.i 0),(5,LLI Q),(6,LP cl),(8,.vptr 2 0),(9,.i (0:Nat))]) ?_ (by simp));refine Qo (F:=fun(u:Nat×Nat×Nat×List AObj)=>⟨[(1,.vptr 0 0),(2,.vptr 1 0),(3,.i 0),(5,LLI Q),(6,LP cl),(8,.vptr 2 0),(9,.i u.1)],u.2.2.2⟩)
  (fun u=>u.1≤Q.length∧u.2.2.2[0]? =some (.vars (Qu a))∧u.2.2.2[1]? =some (.vars [.i 0,.nils,.nils])∧u.2.2.2[2]? =some (.vars [.i a.types,.sl u.2.1 1 0 u.1,.sl u.2.2.1 3 0 (Y8 a cl Q u.1).length])∧u.2.2.2[u.2.1]? =some (.arr 4 1 (((Q.take u.1).map (Ib a)).map .bool))∧u.2.2.2[u.2.2.1]? =some (.arr 78 3 ((Y8 a cl Q u.1).map encMv)))
  (fun u=>Q.length - u.1) ?_ (0,3,4,Z2) ⟨wn _,z20,z21,by rw[Sk];exact z2c,by simpa using z2f,by rw[Sk];exact z2v⟩
 clear z20 z21 z2c z2f z2v;clear Z2;rintro⟨n,f,v,G⟩ ⟨hn,g0,g1,gc,gf,gv⟩ ih;simp only at hn g0 g1 gc gf gv ih ⊢;repeat first|(refine r_ ?_;simp)|refine q_ ?_
 refine Qb rfl (fun yy=> ?_) (fun zj=> ?_)
 ·have z7:n<Q.length:=by simpa using yy
  have hw:IntKind.i64.wrap ((n:Int)+1)=n+1:=wrap_i64 _ (by omega) (by omega);have xm:Q[n]? =some Q[n]:=zI z7;have yz:=zK z7;obtain⟨zy,zz⟩:=zb.elem _ yz;have xn:=X9 zy zz;have x0:=zk.fin;have ze:=Gy a cl Q n;have yk:Q.getD n []=Q[n]:=by simp[yV,z7]
  rw[yk]at ze;have zl:=(q06 a cl Q yx zd n z7).2;have zm:(Q.take (n+1)).map (Ib a)=(Q.take n).map (Ib a)++[Ib a Q[n]]:=by rw[zP z7,yF];rfl
  have yl:=fun f' v' G'=>ih (n+1,f',v',G');simp only[ze,zm]at yl;clear ze zm yk;have ym:(yX LI Q)[n]? =some (LI Q[n]):=by simp[z7]
  have yn:∀hh,(yX LI Q)[n]'hh=LI Q[n]:=fun hh=>by simp
  have x3:f≠v:=fun e=>by rw[e,gv]at gf;simp at gf
  have x4:f≠2:=fun e=>by rw[e,gc]at gf;simp at gf
  have yo:v≠2:=fun e=>by rw[e,gc]at gv;simp at gv
  have x5:f≠0:=fun e=>by rw[e,g0]at gf;simp at gf
  have y2:f≠1:=fun e=>by rw[e,g1]at gf;simp at gf
  have x6:v≠0:=fun e=>by rw[e,g0]at gv;simp at gv
  have y3:v≠1:=fun e=>by rw[e,g1]at gv;simp at gv
  generalize hl:Q[n]=l at *
  have zn:(((Q.take n).map (Ib a)).map AV.bool).length=n:=by simp;omega
  generalize ((Q.take n).map (Ib a))=fs at *
  repeat first|(refine r_ ?_;simp)|refine q_ ?_
  refine Qn tOk mixed [9,11] (.val 0 (.val 1 (.val 2 (.val 3 (.val 4 (.val 5 (.val 6 (.one 7 (.one 8 (.one 9 (.val 10 (.one 11 (.done))))))))))))) rfl (by kernel_rfl) ?_;simp[gc,g0,z7,ym,yn];refine Qf rfl rfl (by simp) (j08 a l zz (by omega)) rfl ?_;rintro _ rfl;simp[gc,g0];have g2c:∀M,(G.set f .dead++M)[2]? =some (.vars [.i a.types,.sl f 1 0 n,.sl v 3 0 (Y8 a cl Q n).length]):=fun M=>Qa (Qd x4 gc _) M;have g2d:∀M hh,(G.set f .dead++M)[2]'hh= .vars [.i a.types,.sl f 1 0 n,.sl v 3 0 (Y8 a cl Q n).length]:=fun M hh=>by have:=g2c M;rw[zI hh]at this;exact Option.some.inj this
  refine Qe tOk rfl rfl T22 rfl T4 rfl (by decide) (by decide) rfl rfl rfl ?_;simp[Qa gf,Qi gf,zn,g2c,g2d];refine⟨by simp[Wa,Qa gf,Qi gf,zn,g2c,g2d]<;>omega,?_⟩;refine Q4 fun Z hZ=> ?_;have xo:=Qh gv;have xp:=Qh gf;have z0:Z[0]? =some (.vars (Qu a)):=by rw[hZ];exact Qd (by decide) (Qa (Qd x5 g0 _) _) _
  have z1:Z[1]? =some (.vars [.i 0,.nils,.nils]):=by rw[hZ];exact Qd (by decide) (Qa (Qd y2 g1 _) _) _
  have zc:Z[2]? =some (.vars [.i a.types,.sl (G.length+1) 1 0 (n+1),.sl v 3 0 (Y8 a cl Q n).length]):=by rw[hZ];exact Qj (g2c _) _
  have zf:Z[G.length+1]? =some (.arr 4 1 ((fs++[Ib a l]).map .bool)):=by rw[hZ,zB (by omega),zH (by simp)];simp
  have zv:Z[v]? =some (.arr 78 3 ((Y8 a cl Q n).map encMv)):=by rw[hZ];exact Qd (Ne.symm yo) (Qa (Qd x3 gv _) _) _
  have x7:G.length+1≠v:=by omega
  have x8:G.length+1≠2:=by have:=Qh gc;omega
  clear hZ g2c g2d;generalize G.length+1=f1 at *
  repeat first|(refine r_ ?_;simp)|refine q_ ?_
  refine Qs (sl':=[(1,.vptr 0 0),(2,.vptr 1 0),(3,.i 0),(5,LLI Q),(6,LP cl),(8,.vptr 2 0),(9,.i n),(10,.nils),(11,.i (0:Nat))]) ?_ (by simp);refine Q3 10 78 3 rfl ?_;simp;have x9:=SL.start Z 78 3;refine Qp (Qc (sl':=[(1,.vptr 0 0),(2,.vptr 1 0),(3,.i 0),(5,LLI Q),(6,LP cl),(8,.vptr 2 0),(9,.i n),(10,.sl Z.length 3 0 (Ef a cl Q n l 0).length),(11,.i (0:Nat))]) ?_ (by simp[Dl]));refine Qo (F:=fun(u:Nat×Nat×List AObj)=>⟨[(1,.vptr 0 0),(2,.vptr 1 0),(3,.i 0),(5,LLI Q),(6,LP cl),(8,.vptr 2 0),(9,.i n),(10,.sl u.2.1 3 0 (Ef a cl Q n l u.1).length),(11,.i u.1)],u.2.2⟩)
   (fun u=>u.1≤cl.length∧SL Z u.2.2 u.2.1 78 3 ((Ef a cl Q n l u.1).map encMv)) (fun u=>cl.length - u.1) ?_ (0,Z.length,_) ⟨wn _,by rw[Dl];exact x9⟩
  rintro⟨k,w,Y⟩ ⟨hk,hs⟩ ih2;simp only at hk hs ih2 ⊢;have y0:=hs.kp z0;have y4:=w05 (a:=a) (T:=a.types.toNat) (Q:=Q) (n:=n) (l:=l) (cl:=cl) (fun c hc=>(zx c hc).2.2.2.1) k;have y5:=y0a (a:=a) (Q:=Q) (n:=n) (l:=l) (cl:=cl) (fun c hc=>(zx c hc).2.2.2.2) zd k;have y6:=Sf a cl Q n l zd k;repeat first|(refine r_ ?_;simp)|refine q_ ?_
  refine Qb rfl (fun y7=> ?_) (fun y8=> ?_)
  ·have z6:k<cl.length:=by simpa using y7
   have y9:IntKind.i64.wrap ((k:Int)+1)=k+1:=wrap_i64 _ (by omega) (by omega);have yp:=Hl a cl Q n l (zI z6);have ya:=zx _ (zK z6);have z8:=fun q' G'=>ih2 (k+1,q',G');simp only[yp]at z8;clear yp;have zt:(yX encP cl)[k]? =some (encP cl[k]):=by simp[z6]
   have zu:∀hh,(yX encP cl)[k]'hh=encP cl[k]:=fun hh=>by simp
   generalize cl[k]=c at *
   have xa:=fun h=>k0b (a:=a) (Q:=Q) (n:=n) (l:=l) (g:=Ef a cl Q n l k) (c:=c) h;have xb:=fun t h=>x0x (a:=a) (Q:=Q) (n:=n) (t:=t) (l:=l) (g:=Ef a cl Q n l k) (c:=c) h;generalize Ef a cl Q n l k=g at *;generalize stepG a Q n l g c=g2 at *;simp only[encP]at zt zu
   repeat first|(refine r_ ?_;simp)|refine q_ ?_
   refine Qn tOk mixed [] (.val 0 (.val 1 (.val 2 (.val 3 (.val 4 (.val 5 (.val 6 (.val 8 (.val 9 (.val 10 (.val 11 (.one 7 (.one 12 (.one 13 (.one 14 (.one 15 (.val 16 (.done)))))))))))))))))) rfl (by kernel_rfl) ?_;simp[y0,z7,ym,yn,z6,zt,zu];refine Qf rfl rfl (by simp) (d0v a zk l zz (by omega)) rfl ?_;rintro _ rfl;simp;refine Qf rfl rfl (by simp) (Te c ya.2.1) rfl ?_;rintro _ rfl;simp;refine Qf rfl rfl (by simp) (Zf a zk (fun z=>decide (z∈l)) (Qm c)) rfl ?_;rintro _ rfl;simp;refine Qf rfl rfl (by simp) (w07 a.fin.length (nxB a.mv (fun z=>decide (z∈l)) (Qm c)) (by omega)) rfl ?_;rintro _ rfl;simp;rw[Vh];refine Qf rfl rfl (by simp) (z08 Q (Wb a l (Qm c))) rfl ?_;rintro _ rfl;simp;rw[x1a];generalize Wb a l (Qm c)=x at *
   have za:(yX encMv g).length=g.length:=by simp
   have yb:v_ g.length (yX encMv g)=yX encMv g:=zO (by simp);cases hix:Nq Q x with
   |none=>
    have h2:=xa hix;rw[h2]at z8;simp;repeat first|(refine r_ ?_;simp)|refine q_ ?_
    refine Qk rfl ?_;simp;repeat first|(refine r_ ?_;simp[y9])|refine q_ ?_
    refine Qc (sl':=[(1,.vptr 0 0),(2,.vptr 1 0),(3,.i 0),(5,LLI Q),(6,LP cl),(8,.vptr 2 0),(9,.i n),(10,.sl w 3 0 g.length),(11,.i (k+1:Nat))]) ?_ (by simp);exact z8 w Y ⟨by omega,hs⟩ (by omega)
   |some t=>
    have h2:=xb t hix;rw[h2]at z8;have xc:¬(t:Int)<0:=by omega
    simp;repeat first|(refine r_ ?_;simp[xc])|refine q_ ?_
    refine Qb rfl (fun h=>by simp at h) (fun _=> ?_);repeat first|(refine r_ ?_;simp)|refine q_ ?_
    refine Em rfl rfl (by first|(simp[hs.arr,yb,za];done)|(simp[hs.arr,yb,za];rfl)) (M0 g t) rfl ?_;rintro _ rfl;refine⟨by first|simp|rfl|trivial,?_⟩;simp[hs.arr,yb,za];rw[z0u];repeat first|(refine r_ ?_;simp)|refine q_ ?_
    cases hfi:g.findIdx? fun m:Mv=>decide (m.dst=(t:Int))with
    |none=>
     have zg:Et n g t c=g++[⟨n,t,c⟩]:=by rw[Et,hfi]
     rw[zg]at z8;simp;repeat first|(refine r_ ?_;simp)|refine q_ ?_
     refine Qk rfl ?_;simp;repeat first|(refine r_ ?_;simp[z6,zt,zu])|refine q_ ?_
     generalize yd:g.map encMv=mm at *;refine Qe tOk rfl rfl T23 rfl T78 rfl (by decide) (by decide) rfl rfl rfl ?_
     simp[Qa hs.arr,Qi hs.arr,za];refine⟨by simp[Wa,Qa hs.arr,Qi hs.arr,za]<;>omega,?_⟩;repeat first|(refine r_ ?_;simp[y9])|refine q_ ?_
     refine Qc (sl':=[(1,.vptr 0 0),(2,.vptr 1 0),(3,.i 0),(5,LLI Q),(6,LP cl),(8,.vptr 2 0),(9,.i n),(10,.sl (Y.length+1) 3 0 (g++[(⟨n,t,c⟩:Mv)]).length),(11,.i (k+1:Nat))]) ?_ (by simp);refine z8 (Y.length+1) _ ⟨by omega,?_⟩ (by omega);have ye:=hs.put [AObj.arr 78 3 [encMv ⟨n,t,c⟩]] (mm++[encMv ⟨n,t,c⟩]) rfl;have e:(g++[(⟨n,t,c⟩:Mv)]).map encMv=mm++[encMv ⟨n,t,c⟩]:=by rw[←yd];simp
     rw[e];simpa using ye
    |some i=>
     obtain⟨zo,hid,-⟩:=List.findIdx?_eq_some_iff_getElem.1 hfi;have xd:g[i]? =some g[i]:=zI zo;have zg:Et n g t c=g.set i { g[i]with on:=Wp g[i].on c }:=by rw[Et,hfi];simp[xd]
     rw[zg]at z8;simp;refine Qb rfl (fun h=>by simp at h;omega) (fun _=> ?_);repeat first|(refine r_ ?_;simp)|refine q_ ?_
     have zj:(g.map encMv)[i]? =some (.agg [.i g[i].src,.i g[i].dst,.list (g[i].on.map encL)]):=by simp[zo]
     have yq:∀hh,(g.map encMv)[i]'hh= .agg [.i g[i].src,.i g[i].dst,.list (g[i].on.map encL)]:=fun hh=>by rw[zI hh]at zj;exact Option.some.inj zj
     have yr:=zK zo;have xe:=G5 a.types.toNat g[i].on c (y4 _ yr) ya.2.2.2.1 (fun s hs t ht=>by have:=y5 _ yr s hs;have:=ya.2.2.2.2 t ht;omega) (by have:=zk.types;omega);generalize yd:g.map encMv=mm at *;refine Qn tOk mixed [14] (.val 0 (.val 1 (.val 2 (.val 3 (.val 4 (.val 5 (.val 6 (.val 7 (.val 8 (.val 9 (.val 10 (.one 11 (.val 12 (.val 13 (.one 14 (.done)))))))))))))))) rfl (by kernel_rfl) ?_
     simp[hs.arr,zj,yq,za,zo,z6,zt,zu];refine Qf rfl rfl (by simp) (xe) rfl ?_;rintro _ rfl;simp[hs.arr,zj,yq,za,zo];repeat first|(refine r_ ?_;simp[y9])|refine q_ ?_
     refine Qc (sl':=[(1,.vptr 0 0),(2,.vptr 1 0),(3,.i 0),(5,LLI Q),(6,LP cl),(8,.vptr 2 0),(9,.i n),(10,.sl w 3 0 (g.set i { g[i]with on:=Wp g[i].on c }).length),(11,.i (k+1:Nat))]) ?_ (by simp);refine z8 w _ ⟨by omega,?_⟩ (by omega);have ye:=hs.upd [] (mm.set i (.agg [.i g[i].src,.i g[i].dst,.list ((Wp g[i].on c).map encL)]));have e:(g.set i { g[i]with on:=Wp g[i].on c }).map encMv=mm.set i (.agg [.i g[i].src,.i g[i].dst,.list ((Wp g[i].on c).map encL)]):=by rw[←yd,List.map_set];rfl
     rw[e];simpa using ye
  ·have zp:k=cl.length:=by simp at y8;omega
   have xf:Ef a cl Q n l k=J6 a cl Q n l:=by rw[zp,P6]
   rw[xf]at hs y6 ⊢;generalize xq:J6 a cl Q n l=g at *
   have y1:=hs.kp z1;have yc:=hs.kp zc;have yf:=hs.kp zf;have yv:=hs.kp zv;have xr:w≠2:=fun e=>by have:=hs.arr;rw[e,yc]at this;simp at this
   have xt:w≠v:=fun e=>by have:=hs.ge;have:=Qh zv;omega
   have za:(yX encMv g).length=g.length:=by simp
   have yg:(yX encMv (Y8 a cl Q n)).length=(Y8 a cl Q n).length:=by simp
   have xg:v_ g.length (yX encMv g)=yX encMv g:=zO (by simp);have yh:∀y∈yX encMv g,y.cells.length=3∧y.cells.all AV.leaf=true:=fun y hy=>by obtain⟨m,_,rfl⟩:=zR.1 hy;exact⟨rfl,rfl⟩
   have zq:(Y8 a cl Q n++g).map encMv=(Y8 a cl Q n).map encMv++g.map encMv:=by simp
   have y2c:∀M,(Y.set v .dead++M)[2]? =some (.vars [.i a.types,.sl f1 1 0 (n+1),.sl v 3 0 (Y8 a cl Q n).length]):=fun M=>Qa (Qd yo yc _) M;have y2d:∀M hh,(Y.set v .dead++M)[2]'hh= .vars [.i a.types,.sl f1 1 0 (n+1),.sl v 3 0 (Y8 a cl Q n).length]:=fun M hh=>by have:=y2c M;rw[zI hh]at this;exact Option.some.inj this
   have xh:=hs.arr;have zr:(Y8 a cl Q n++g).length=(Y8 a cl Q n).length+g.length:=by simp
   repeat first|(refine r_ ?_;simp[yc])|refine q_ ?_
   generalize (Y8 a cl Q n).length=ml at *;generalize (Y8 a cl Q n).map encMv=mm at *;generalize g.map encMv=gm at *;refine Qe tOk rfl rfl T23 rfl T78 rfl (by decide) (by decide) rfl rfl rfl ?_
   simp[yv,xh,yg,za,xg,y2c,y2d];refine⟨⟨yh,by simp;omega⟩,?_⟩;repeat first|(refine r_ ?_;simp[hw])|refine q_ ?_
   refine Qc (sl':=[(1,.vptr 0 0),(2,.vptr 1 0),(3,.i 0),(5,LLI Q),(6,LP cl),(8,.vptr 2 0),(9,.i (n+1:Nat))]) ?_ (by simp);have xu:=Qh yv;have xv:=Qh yc;refine yl f1 Y.length _ ⟨by omega,Qd (by decide) (Qa (Qd x6 (hs.kp z0) _) _) _,Qd (by decide) (Qa (Qd y3 y1 _) _) _,?_,?_,?_⟩ (by omega)
   ·rw[Qj (y2c _) _,zr]
   ·exact Qd (Ne.symm x8) (Qa (Qd (Ne.symm x7) yf _) _) _
   ·rw[zq,zB (by omega),zH (by simp)];simp
 ·have yi:n=Q.length:=by simp at zj;omega
  subst yi;have zl:Y8 a cl Q Q.length=(Yq a cl Q).mv:=w0g a cl Q;have yj:(Q.take Q.length).map (Ib a)=(Yq a cl Q).fin:=by rw[yP];exact(F7 a cl Q).symm
  have xi:(Yq a cl Q).fin.length=Q.length:=by rw[F7];simp
  rw[zl]at gc gv;rw[yj]at gf;rw[←xi]at gc;have xj:(Yq a cl Q).types=a.types:=Ly a cl Q;generalize Yq a cl Q=d at *
  have xw:v≠2:=fun e=>by rw[e,gc]at gv;simp at gv
  have yt:f≠v:=fun e=>by rw[e,gv]at gf;simp at gf
  have xk:f≠2:=fun e=>by rw[e,gc]at gf;simp at gf
  have y2:f≠1:=fun e=>by rw[e,g1]at gf;simp at gf
  have y3:v≠1:=fun e=>by rw[e,g1]at gv;simp at gv
  refine Qs (sl':=[(2,.vptr 1 0),(3,.i 0),(8,.vptr 2 0)]) ?_ (by simp);refine Q1 v gv 2 gc ?_;simp[yt];rw[zO (by simp)];refine Q4 fun Z hZ=> ?_;have xx:=Qh gv;have z2:Z[2]? =some (.vars [.i a.types,.sl f 1 0 d.fin.length,.list (d.mv.map encMv)]):=by rw[hZ,zL (by have:=Qh gc;simpa using this)]
  have zf:Z[f]? =some (.arr 4 1 (d.fin.map .bool)):=by rw[hZ,zB (Ne.symm xk),zB (Ne.symm yt)];exact gf
  have z1:Z[1]? =some (.vars [.i 0,.nils,.nils]):=by rw[hZ,zB (by decide),zB y3];exact g1
  clear hZ;refine Q1 f zf 2 z2 ?_;simp;rw[zO (by simp)];refine Q4 fun X hX=> ?_;have x2:X[2]? =some (.vars [.i d.types,.list (d.fin.map .bool),.list (d.mv.map encMv)]):=by rw[hX,xj,zL (by have:=Qh z2;simpa using this)]
  have x1:X[1]? =some (.vars [.i 0,.nils,.nils]):=by rw[hX,zB (by decide),zB y2];exact z1
  clear hX;have x1s:∀Y,(X.set 1 Y)[1]? =some Y:=fun Y=>Qj x1 Y;repeat first|(refine r_ ?_;simp[x2])|refine q_ ?_
  refine Qf rfl rfl (by simp) (q0d d) rfl ?_;rintro _ rfl;simp[x1];rw[hR];repeat first|(refine r_ ?_;simp[x1s])|refine q_ ?_
end Go.Abs
namespace Go.Abs
open Go Go.Proofs Go.Maps Go.RowKit
attribute [local irreducible] Rt Ie Pg
end Go.Abs
namespace Go.Abs
open Go Go.Proofs Go.Maps Go.RowKit
attribute [local irreducible] Yt x00 Wq
attribute [local irreducible] T0
def toD(a:Aut)(s:Int)(x:Sy)(j:Nat):Int:=match (a.mv.drop j).find? (fun m=>decide (m.src=s) && T0 m.on x)with|some m=>m.dst|none=> -1
theorem y1h(a:Aut)(s:Int)(x:Sy):toD a s x 0=toL a s x:=rfl
theorem v1a(a:Aut)(s:Int)(x:Sy)(j:Nat)(h:j<a.mv.length):toD a s x j=if(decide (a.mv[j].src=s) && T0 a.mv[j].on x)=true then a.mv[j].dst else toD a s x (j+1):=by unfold toD;rw[ws h,List.find?_cons];cases hb:(decide (a.mv[j].src=s) && T0 a.mv[j].on x)<;>simp
theorem k18(a:Aut)(s:Int)(x:Sy):toD a s x a.mv.length= -1:=by simp[toD]
attribute [local irreducible] toD toL
theorem k1a(a:Aut)(ha:OkA a)(s:Int)(x:Sy):PC Tryz.prog 107 [encA a,.i s,encSy x] (fun r=>r= .i (toL a s x)):=by
 refine Ql tOk Tryz.func107 rfl Tryz.results107 rfl (by simp[Tryz.ntmps107]) ?_;rw[Tryz.ntmps107];simp only[Qg];simp only[encA,encSy];have zc:=ha.mvs;repeat first|(refine r_ ?_;simp)|refine q_ ?_
 refine Qr a.mv.length (fun j=>toD a s x j=toL a s x) (fun j=>[(1,.i s),(3,.vptr 0 0),(5,.vptr 1 0),(7,.i j)]) (fun _=>[.vars (Qu a),.vars [.i x.ty,.i x.num]]) rfl (by simp) (by simp) (by simp) (by simp) (y1h a s x) ?_;intro j hj hI ih;repeat first|(refine r_ ?_;simp)|refine q_ ?_
 refine Qb rfl (fun za=> ?_) (fun zb=> ?_)
 ·have z1:j<a.mv.length:=by simpa using za
  have hw:IntKind.i64.wrap ((j:Int)+1)=j+1:=wrap_i64 _ (by omega) (by omega);have z6:=v1a a s x j z1;by_cases he:a.mv[j].src=s
  ·have z7:(a.mv[j].src==s)=true:=by simpa using he
   repeat first|(refine r_ ?_;simp)|refine q_ ?_
   refine Qn tOk mixed [] (.val 0 (.val 1 (.val 2 (.val 3 (.val 4 (.val 5 (.val 6 (.val 7 (.val 8 (.val 9 (.val 10 (.val 11 (.val 12 (.val 13 (.val 14 (.val 15 (.one 16 (.val 17 (.done))))))))))))))))))) rfl (by kernel_rfl) ?_;simp[z1,z7];refine Qf rfl rfl (by simp) (w0s a.mv[j].on x (fun t ht=>by have:=A2 ha (zK z1) t ht;omega)) rfl ?_;rintro _ rfl;simp;rw[decide_eq_true he,Bool.true_and]at z6;cases hb:T0 a.mv[j].on x with
   |true=>
    rw[hb,if_pos rfl]at z6;repeat first|(refine r_ ?_;simp[hb])|refine q_ ?_
    refine Qk rfl ?_;repeat first|(refine r_ ?_;simp[z1])|refine q_ ?_
    rw[←hI,z6]
   |false=>
    rw[hb,if_neg (by simp)]at z6;repeat first|(refine r_ ?_;simp[hb])|refine q_ ?_
    refine Qk rfl ?_;repeat first|(refine r_ ?_;simp[hw])|refine q_ ?_
    refine Qq _ (ih z1 (by rw[←z6];exact hI)) rfl (by simp) ?_ (by simp) (by simp);simp
  ·have z7:(a.mv[j].src==s)=false:=by simpa using he
   rw[decide_eq_false he,Bool.false_and,if_neg (by simp)]at z6;repeat first|(refine r_ ?_;simp)|refine q_ ?_
   refine Qn tOk mixed [] (.val 0 (.val 1 (.val 2 (.val 3 (.val 4 (.val 5 (.val 6 (.val 7 (.val 8 (.val 9 (.val 10 (.val 11 (.val 12 (.val 13 (.val 14 (.val 15 (.one 16 (.val 17 (.done))))))))))))))))))) rfl (by kernel_rfl) ?_;simp[z1,z7];refine Q6 rfl rfl ?_;simp;repeat first|(refine r_ ?_;simp)|refine q_ ?_
   refine Qk rfl ?_;repeat first|(refine r_ ?_;simp[hw])|refine q_ ?_
   refine Qq _ (ih z1 (by rw[←z6];exact hI)) rfl (by simp) ?_ (by simp) (by simp);simp
 ·have z8:j=a.mv.length:=by simp at zb;omega
  subst z8;repeat first|(refine r_ ?_;simp)|refine q_ ?_
  rw[←hI,k18]
end Go.Abs
namespace Go.Abs
open Go Go.Proofs Go.Maps Go.RowKit
theorem q1h{a b:Aut}(ha:OkA a)(hb:OkA b)(ht:b.types=a.types):(∀p∈onA a++onA b,PCk a.types.toNat p)∧(onA a++onA b).length≤4096:=by
 refine⟨fun p hp=> ?_,?_⟩
 ·rcases zV.1 hp with h|h
  ·exact Dq ha p h
  ·rw[←ht];exact Dq hb p h
 ·have h1:=ha.mvs;have h2:=hb.mvs;simp[onA];omega
attribute [local irreducible] Qm Q0
theorem q0q(a b:Aut)(ha:OkA a)(hb:OkA b)(ht:b.types=a.types):PC Tryz.prog 106 [encA a,encA b] (fun r=>r=LSy (E2 a b)):=by
 refine Ql tOk Tryz.func106 rfl Tryz.results106 rfl (by simp[Tryz.ntmps106]) ?_;rw[Tryz.ntmps106];simp only[Qg];simp only[encA];have zh:=ha.mvs;have zi:=hb.mvs;obtain⟨zc,za⟩:=q1h ha hb ht;have z6:=Yv (T:=a.types.toNat) (by have:=ha.types;omega) (by have:=ha.types;omega) zc za;unfold E2;repeat first|(refine r_ ?_;simp)|refine q_ ?_
 refine Qf rfl rfl (by simp) (G4 a (by omega)) rfl ?_;rintro _ rfl;simp;refine Qe tOk rfl rfl T91 rfl T76 rfl (by decide) (by decide) rfl rfl rfl ?_;simp;refine⟨⟨fun y hy=> ?_,by simp[onA];omega⟩,?_⟩
 ·obtain⟨c',_,rfl⟩:=zR.1 hy;exact⟨rfl,rfl⟩
 repeat first|(refine r_ ?_;simp)|refine q_ ?_
 refine Qf rfl rfl (by simp) (G4 b (by omega)) rfl ?_;rintro _ rfl;simp;refine Qe tOk rfl rfl T91 rfl T76 rfl (by decide) (by decide) rfl rfl rfl ?_;simp;refine⟨⟨fun y hy=> ?_,by simp[onA];omega⟩,?_⟩
 ·obtain⟨c',_,rfl⟩:=zR.1 hy;exact⟨rfl,rfl⟩
 repeat first|(refine r_ ?_;simp)|refine q_ ?_
 refine Ep 3 (e:=76) (c:=1) (xs:=(onA a).map encP++(onA b).map encP) rfl ?_;simp[AV.fz];rw[zO (by simp),←yF];refine Qf rfl rfl (by simp) (Ds a.types (onA a++onA b) ha.types zc za) rfl ?_;rintro _ rfl;simp;generalize Q0 a.types.toNat (onA a++onA b)=cl at *;refine Qs (sl':=[(6,.list (cl.map encP)),(4,.nils)]) ?_ (by simp)
 repeat first|(refine r_ ?_;simp)|refine q_ ?_
 refine Q3 7 53 2 rfl ?_;simp;refine Qp (Qc (sl':=[(6,.list (cl.map encP)),(7,.sl 4 2 0 0),(8,.i 0)]) ?_ (by simp));obtain⟨K,hK⟩:∃K,K=[AObj.vars [AV.i a.types,AV.list (yX AV.bool a.fin),AV.list (yX encMv a.mv)],AObj.vars [AV.i b.types,AV.list (yX AV.bool b.fin),AV.list (yX encMv b.mv)],AObj.dead,AObj.dead]:=⟨_,rfl⟩
 have zd:=SL.start K 53 2;refine Qo (F:=fun(u:Nat×Nat×List AObj)=>⟨[(6,.list (cl.map encP)),(7,.sl u.2.1 2 0 u.1),(8,.i u.1)],u.2.2⟩)
  (fun u=>u.1≤cl.length∧SL K u.2.2 u.2.1 53 2 (((cl.take u.1).map Qm).map encSy)) (fun u=>cl.length - u.1) ?_ (0,4,_) ⟨by simp,by rw[hK]at zd ⊢;exact zd⟩
 rintro⟨j,q,H2⟩ ⟨hj,g⟩ ih;simp only at hj g ih ⊢;repeat first|(refine r_ ?_;simp)|refine q_ ?_
 refine Qb rfl (fun zj=> ?_) (fun zk=> ?_)
 ·have z1:j<cl.length:=by simpa using zj
  have hw:IntKind.i64.wrap ((j:Int)+1)=j+1:=wrap_i64 _ (by omega) (by omega);have zl:((cl.take (j+1)).map Qm).map encSy=((cl.take j).map Qm).map encSy++[encSy (Qm cl[j])]:=by rw[zP z1,yF,yF];rfl
  have z7:(((cl.take j).map Qm).map encSy).length=j:=by simp;omega
  have ze:=fun q' H'=>ih (j+1,q',H');simp only[zl]at ze;have zm:=z6.2 _ (zK z1);have za:=z6.1;have zf:(yX encP cl)[j]? =some (encP cl[j]):=by simp[z1]
  have zg:∀hh,(yX encP cl)[j]'hh=encP cl[j]:=fun hh=>by simp
  generalize ((cl.take j).map Qm).map encSy=acc at *;generalize cl[j]=c at *;simp only[encP]at zf zg
  repeat first|(refine r_ ?_;simp[z1,zf,zg])|refine q_ ?_
  refine Qf rfl rfl (by simp) (Te c zm.2.1) rfl ?_;rintro _ rfl;simp;refine Qe tOk rfl rfl T45 rfl T53 rfl (by decide) (by decide) rfl rfl rfl ?_;simp[Qa g.arr,Qi g.arr,z7];refine⟨by simp[Wa,Qa g.arr,Qi g.arr,z7]<;>omega,?_⟩;repeat first|(refine r_ ?_;simp[hw])|refine q_ ?_
  exact Qc (sl':=[(6,.list (cl.map encP)),(7,.sl (H2.length+1) 2 0 (j+1)),(8,.i (j+1:Nat))]) (ze (H2.length+1) _ ⟨by omega,g.put [AObj.arr 53 2 [encSy (Qm c)]] _ rfl⟩ (by omega)) (by simp)
 ·have zb:j=cl.length:=by simp at zk;omega
  subst zb;have ga:=g.arr;rw[yP]at ga;have z7:((cl.map Qm).map encSy).length=cl.length:=by simp
  obtain⟨acc,z8⟩:∃acc,acc=(cl.map Qm).map encSy:=⟨_,rfl⟩
  rw[←z8]at ga z7;repeat first|(refine r_ ?_;simp[ga,z7])|refine q_ ?_
  rw[zO (by omega),z8];simp
end Go.Abs
