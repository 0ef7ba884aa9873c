/- Part Xi of the proof: steps on the way to the last part. No condition. -/
import Derived.Test.YtjmkolhkojgjpaaGreatDoorXh
import Derived.Test.YtjmkolhkojgjpaaGreatDoorXf
import Derived.Test.YtjmkolhkojgjpaaGreatDoorXc
import Derived.Test.YtjmkolhkojgjpaaGreatDoorXg
import Derived.DeepKeys4
import Derived.Test.YtjmkolhkojgjpaaGreatDoorXe
import Derived.Test.YtjmkolhkojgjpaaGreatDoorXd
set_option linter.all false
open List renaming mem_map->zQ,getElem?_map->zS,ext_getElem?->xL,getElem?_eq_none->yY,getElem?_set_self->zK,getElem?_set_ne->zE,getElem?_eq_getElem->zI,getElem_eq_iff->zY,getElem?_eq_some_iff->zB,take_of_length_le->zV,getElem?_append_right->zH,drop_eq_getElem_cons->wH,drop_length->xY,getElem_mem->zL,length_map->yO,getD->yQ,map_nil->wD,take_succ_eq_append_getElem->zU,length_filter_le->yX,append_nil->xG,take_length->yI,getElem?_append_left->zF,map_append->yR,flatten_append->uI,length_append->zW
open Option renaming map_eq_some_iff->zP
open Nat renaming zero_le->xI
set_option maxHeartbeats 8000000
set_option linter.unusedSimpArgs false
set_option maxRecDepth 100000
open Go.Proofs.Tryz
namespace Go.Abs
open Go Go.Proofs
section
open Go.Maps Go.RowKit
attribute [simp] T66 T41
def pqr(s:Int×Int):AV:= .agg [.i s.1,.i s.2]
abbrev LQp (l:List (Int×Int)):AV:= .list (l.map pqr)
end
section
open Go.Maps Go.RowKit
attribute [local irreducible] Pj toL
end
section
open Go.Maps Go.RowKit
attribute [local irreducible] Pj toL Jj
end
section
open Go.Maps Go.RowKit
def k1x(a b:Aut):PC prog 40 [encA a,encA b] (λr=>r= .i (E9 a b)):=by
 refine pcB func40 results40 ntmps40 ?_;simp only[Qf];have cA:=K1 a;have cB:=K1 b;simp only[encA]at cA cB |-;obtain⟨R,hR⟩:∃R,E9 a b=R:=⟨_,rfl⟩
 rw[hR];unfold E9 at hR;repeat(refine s_ ?_;simp)
 refine pcL (cA) ?_;simp;repeat(refine s_ ?_;simp)
 refine Qb rfl (λh=>?_) (λh=>?_)
 ·rw[if_pos (by simpa using h)]at hR;repeat(refine s_ ?_;simp)
  exact hR
 rw[if_neg (by simpa using h)]at hR;repeat(refine s_ ?_;simp)
 refine pcL (cB) ?_;simp;repeat(refine s_ ?_;simp)
 refine Qb rfl (λh2=>?_) (λh2=>?_)
 ·rw[if_pos (by simpa using h2)]at hR;repeat(refine s_ ?_;simp)
  exact hR
 rw[if_neg (by simpa using h2)]at hR;repeat(refine s_ ?_;simp)
 refine Qb rfl (λh3=>?_) (λh3=>?_)
 ·rw[if_pos (by simpa using h3)]at hR;subst hR;repeat(refine s_ ?_;simp)
 rw[if_neg (by simpa using h3)]at hR;subst hR;repeat(refine s_ ?_;simp)
attribute [local irreducible] E9
attribute [local irreducible] Jd
end
section
open Go.Maps Go.RowKit
attribute [local irreducible] E9 Wv
end
section
open Go.Maps Go.RowKit
attribute [local irreducible] Pj Qy Vc Ev V7 O9 x25
end
section
open Go.Maps Go.RowKit
end
section
open Go.Maps Go.RowKit
end
section
open Go.Maps Go.RowKit
attribute [local irreducible] Kp Jj E9 Ij x25 Wv
end
section
open Go.Maps Go.RowKit
end
section
open Go.Maps Go.RowKit
end
section
open Go.Maps Go.RowKit
attribute [simp] k2a g2j g2g
def x0j:(prog).underlying 66=some (.array 2 3):=by kernel_rfl
def w2q:(prog).underlying 3=some (.int .i64):=by kernel_rfl
def z0d:(prog).cellsOf 66=2:=by kernel_rfl
def d0q:(prog).cellsOf 3=1:=by kernel_rfl
def w2e:(prog).keyType 66=true:=by kernel_rfl
def y2i:laidOutB prog=true:=by kernel_rfl
def w27:(prog).keyTypeAt 3 66=true:=by kernel_rfl
def f1e:66<(prog).types.size:=of_decide_eq_true (by kernel_rfl)
def w0h:Keyed prog 66:=Keyed.of_law (deep_law_laid y2i (m:=3) (by decide) f1e w27 (by rw[x0j]))
def okQ(s:Int×Int):Prop:=(-1<=s.1/\s.1<=1000000)/\(-1<=s.2/\s.2<=1000000)
def w2o{s t:Int×Int}(h:pqr s=pqr t):s=t:=by unfold pqr at h;simp at h;exact Prod.ext h.1 h.2
def q29{z:Int}(h: -1<=z/\z<=1000000):(Lit.int .i64 z).wf=true:=by
 have h1:IntKind.i64.min= -9223372036854775808:=by decide
 have h2:IntKind.i64.max=9223372036854775807:=by decide
 simp only[Lit.wf,h1,h2,Bool.and_eq_true,decide_eq_true_eq];omega
def d0g(d:Nat){z:Int}(h: -1<=z/\z<=1000000):(prog).keyLits (d+1) 3 [.int .i64 z]=some [.int .i64 z]:=by unfold Program.keyLits;rw[w2q];simp[q29 h]
def u2w(d:Nat){s:Int×Int}(h:okQ s):(prog).keyLits (d+2) 66 [.int .i64 s.1,.int .i64 s.2]=some [.int .i64 s.1,.int .i64 s.2]:=by unfold Program.keyLits;rw[x0j];simp only[z0d,d0q,List.length_cons,List.length_nil,if_true];have h1:=d0g d h.1;have h2:=d0g d h.2;simp[List.range_succ,h1,h2]
def F6{s:Int×Int}(h:okQ s):isKey prog 66 (pqr s):=by
 refine⟨.agg #[.int .i64 s.1,.int .i64 s.2],.string (keyBytes [.int .i64 s.1,.int .i64 s.2]),rfl,?_⟩;obtain⟨d,hd⟩:∃d,(prog).types.size+1=d+2:=⟨(prog).types.size - 1,by have:=f1e;omega⟩
 unfold keyOf;rw[x0j];simp only;have hf:Value.formed prog 66 (.agg #[.int .i64 s.1,.int .i64 s.2])=true:=by unfold Value.formed;rw[x0j,z0d];rfl
 rw[w2e,hf,hd];have:(Value.agg #[.int .i64 s.1,.int .i64 s.2]).cells.toList=[.int .i64 s.1,.int .i64 s.2]:=rfl;rw[this,u2w d h];rfl
def kvQ(l:List (Int×Int)):List (AV×AV):=l.map λs=>(pqr s,.bool true)
def stQ(l:List (Int×Int)):AObj:= .mp (kvQ l)
def g07{l:List (Int×Int)}(h:∀s∈l,okQ s):∀p∈kvQ l,isKey prog 66 p.1:=λp hp=>by obtain⟨e,he,rfl⟩:=zQ.1 hp;exact F6 (h e he)
def d04{l:List (Int×Int)}{j:Nat}{p:AV×AV}{s:Int×Int}(hp:(kvQ l)[j]?=some p)(he:p.1=pqr s):s∈l/\p.2= .bool true:=by unfold kvQ at hp;rw[zS]at hp;obtain⟨m,hm,rfl⟩:=zP.1 hp;have z1:m=s:=w2o he;exact⟨by rw[<-z1];exact List.mem_of_getElem? hm,rfl⟩
section
variable {nt k:Nat} {S:AS} {ops:Array Oper} {o:Oper} {R:AS->Prop}
def q05 {wr:Bool} (hw:Qs ops S o=some true) (hd:Wm nt o=true) {x ix:Operand} (ho:o.op= .lookup 174 x ix false) {id:Nat} (hx:rho S.sl x=some (.mref id)) {s:Int×Int} (z1:rho S.sl ix=some (.agg [.i s.1,.i s.2]))
  {l:List (Int×Int)} (z6:S.hp[id]?=some (stQ l)) (hl:∀m∈l,okQ m) (hn:okQ s) (hR:R (S.putD o.dst (.bool (decide (s∈l))))):Q9 prog nt k wr ops o S R:=by
 refine I1 tOk hw hd ho k2a rfl T4 w0h hx z1 z6 (F6 hn) (g07 hl) (z:= .bool false) rfl (λj p hp he=>?_) (λz7=>?_)
 ·obtain⟨h1,h2⟩:=d04 hp he;rw[decide_eq_true h1]at hR;rw[h2];exact hR
 rw[decide_eq_false (λh=>z7 (pqr s,.bool true) (zQ.2 ⟨s,h,rfl⟩) rfl)]at hR;exact hR
def u0z (hw:Qs ops S o=some true) (hd:Wm nt o=true) {x ix y:Operand} (ho:o.op= .mapUpdate 174 x ix y) {id:Nat} (hx:rho S.sl x=some (.mref id)) {s:Int×Int} (z1:rho S.sl ix=some (.agg [.i s.1,.i s.2])) (hy:rho S.sl y=some (.bool true))
  {l:List (Int×Int)} (z6:S.hp[id]?=some (stQ l)) (hl:∀m∈l,okQ m) (hn:okQ s) (z7:s∉l) (hR:R (({ S with hp:=S.hp.set id (stQ (l++[s])) }:AS).putD o.dst (.tup []))):Q9 prog nt k true ops o S R:=by
 refine Ei tOk hw hd ho k2a rfl w0h hx z1 hy (by simp[AV.pure]) z6 (F6 hn) (g07 hl) (λj p hp he=>?_) (λz8=>?_)
 ·exact absurd (d04 hp he).1 z7
 have:kvQ l++[(pqr s,.bool true)]=kvQ (l++[s]):=by simp[kvQ]
 unfold stQ at hR;rw[<-this]at hR;exact hR
def k0f (hw:Qs ops S o=some true) (hd:Wm nt o=true) {x ix y:Operand} (ho:o.op= .insert 174 x ix y) {id:Nat} (hx:rho S.sl x=some (.mref id)) {s:Int×Int} (z1:rho S.sl ix=some (.agg [.i s.1,.i s.2])) (hy:rho S.sl y=some (.bool true))
  (z6:S.hp[id]?=some (.mp [])) (hn:okQ s) (hR:R (({ S with hp:=S.hp.set id (stQ [s]) }:AS).putD o.dst (.tup []))):Q9 prog nt k true ops o S R:=by
 refine Y2 tOk hw hd ho k2a rfl w0h hx z1 hy (by simp[AV.pure]) z6 (F6 hn) (λp hp=>by cases hp) (λj p hp he=>by cases hp) (λz7=>?_);exact hR
end
def k1v(xs ys:List Sy)(i:Nat):Prop:=ys.length=xs.length/\∀p,p<xs.length->ys[p]? =if p<i\/xs.length - i<=p then xs[xs.length - 1 - p]? else xs[p]?
def k1v.done{xs ys:List Sy}{i:Nat}(h:k1v xs ys i)(hi:xs.length<=2 * i+1):ys=xs.reverse:=by
 refine xL λp=>?_;by_cases hp:p<xs.length
 ·rw[h.2 p hp,List.getElem?_reverse hp];split
  ·rfl
  rename_i hn
  congr 1;omega
 rw[yY (by rw[h.1];omega),yY (by simp;omega)]
def k1v.start(xs:List Sy):k1v xs xs 0:=⟨rfl,λp hp=>by rw[if_neg (by omega)]⟩
def k1v.step{xs ys:List Sy}{i:Nat}(h:k1v xs ys i)(hi:2 * i+1<xs.length){x y:Sy}(hx:ys[i]?=some x)(hy:ys[xs.length - 1 - i]?=some y):k1v xs ((ys.set i y).set (xs.length - 1 - i) x) (i+1):=by
 refine⟨by simp[h.1],λp hp=>?_⟩;have h1:=h.2 i (by omega);rw[if_neg (by omega),hx]at h1;have h2:=h.2 (xs.length - 1 - i) (by omega);rw[if_neg (by omega),hy]at h2;by_cases e1:p=xs.length - 1 - i
 ·subst e1;rw[zK (by simp[h.1];omega),if_pos (by omega),show xs.length - 1 - (xs.length - 1 - i)=i by omega];exact h1
 rw[zE (Ne.symm e1)];by_cases e2:p=i
 ·subst e2;rw[zK (by rw[h.1];omega),if_pos (by omega)];exact h2
 rw[zE (Ne.symm e2),h.2 p hp];by_cases e3:p<i\/xs.length - i<=p
 ·rw[if_pos e3,if_pos (by omega)]
 rw[if_neg e3,if_neg (by omega)]
def Vx(H:List AObj)(p:Nat)(xs:List Sy)(hp:H[p]?=some (.arr 52 2 (xs.map encSy)))(hl:xs.length<=1000000):FC prog 189 [.sl p 2 0 xs.length] H (λr H'=>r= .tup []/\H'=H.set p (.arr 52 2 (xs.reverse.map encSy))):=by
 refine fcB func189 results189 ntmps189 ?_;simp only[Qf];have zc:=Qe hp;have ze:IntKind.i64.wrap ((xs.length:Int) - 1)=(xs.length:Int) - 1:=wrap_i64 _ (by omega) (by omega);have z6:H.set p (.arr 52 2 (xs.map encSy))=H:=by
  refine xL λi=>?_;by_cases e:i=p
  ·subst e;rw[zK zc,hp]
  rw[zE (Ne.symm e)]
 repeat(refine s_ ?_;simp[ze])
 refine Qj (Qc (sl':=[(0,.sl p 2 0 xs.length),(2,.i (0:Nat)),(3,.i ((xs.length:Int) - 1))]) ?_ (by simp));refine Qi (P:=prog) (F:=λ(u:Nat×Int×List Sy×List AObj)=>⟨[(0,.sl p 2 0 xs.length),(2,.i u.1),(3,.i u.2.1)],u.2.2.2⟩)
  (λu=>u.1<=xs.length/\u.2.1=(xs.length:Int) - 1 - u.1/\k1v xs u.2.2.1 u.1/\u.2.2.2=H.set p (.arr 52 2 (u.2.2.1.map encSy))) (λu=>xs.length - u.1) ?_ (0,(xs.length:Int) - 1,xs,H) ⟨xI _,by simp,k1v.start xs,z6.symm⟩
 rintro⟨i,m,ys,G⟩ ⟨hi,hm,hr,hG⟩ ih;simp only at hi hm hr hG ih |-;repeat(refine s_ ?_;simp)
 refine Qb rfl (λzf=>?_) (λzg=>?_)
 ·have zh:(i:Int)<m:=by simpa using zf
  obtain⟨k,rfl⟩:∃k:Nat,m=k:=⟨m.toNat,by omega⟩
  have hk:k=xs.length - 1 - i:=by omega
  have zi:i<k:=by omega
  have zj:k<xs.length:=by omega
  have z7:i<xs.length:=by omega
  have zk:=wz i (by omega);have zl:IntKind.i64.wrap ((k:Int) - 1)=(k:Int) - 1:=wrap_i64 _ (by omega) (by omega);have zr:=hr.1;obtain⟨x,hx⟩:∃x,ys[i]?=some x:=⟨_,zI (by omega)⟩
  obtain⟨y,hy⟩:∃y,ys[k]?=some y:=⟨_,zI (by omega)⟩
  have hst:=hr.step (by omega) hx (by rw[<-hk];exact hy);rw[<-hk]at hst;have hg:G[p]?=some (.arr 52 2 (ys.map encSy)):=by rw[hG,zK zc]
  have zd:(ys.map encSy)[i]?=some (.agg [.i x.ty,.i x.num]):=by rw[zS,hx];rfl
  have z8:(ys.map encSy)[k]?=some (.agg [.i y.ty,.i y.num]):=by rw[zS,hy];rfl
  have zm:∀hh,(ys.map encSy)[i]'hh= .agg [.i x.ty,.i x.num]:=λhh=>(zY hh).2 zd;have zn:∀hh,(ys.map encSy)[k]'hh= .agg [.i y.ty,.i y.num]:=λhh=>(zY hh).2 z8;have zo:i<ys.length:=by omega
  have za:k<ys.length:=by omega
  have zp:∀z,(G.set p z)[p]?=some z:=λz=>Qg hg z;have z1:∀z,((ys.map encSy).set i z)[k]?=some (.agg [.i y.ty,.i y.num]):=λz=>by rw[zE (by omega)];exact z8
  have zb:∀z hh,((ys.map encSy).set i z)[k]'hh= .agg [.i y.ty,.i y.num]:=λz hh=>(zY hh).2 (z1 z);repeat(refine s_ ?_;simp)
  refine Qo tOk mixed [13,15] (.val 0 (.val 1 (.val 2 (.val 3 (.val 4 (.val 5 (.val 6 (.val 7 (.val 8 (.val 9 (.val 10 (.val 11 (.val 12 (.one 13 (.val 14 (.one 15 (.done))))))))))))))))) rfl (by kernel_rfl) ?_;simp[hg,zd,z8,zm,zn,zo,za,zp,z1,zi,zj,z7,zb];repeat(refine s_ ?_;simp[zk,zl])
  refine Qc (sl':=[(0,.sl p 2 0 xs.length),(2,.i (i+1:Nat)),(3,.i ((k:Int) - 1))]) ?_ (by simp);exact ih (i+1,(k:Int) - 1,(ys.set i y).set k x,_) ⟨by simp only;omega,by simp only;omega,hst,by rw[hG,List.set_set];simp[List.map_set,encSy]⟩ (by simp only;omega)
 have zq:m<=(i:Int):=by simpa using zg
 have hd:=hr.done (by omega);subst hd;repeat(refine s_ ?_;simp)
 rw[hG,List.map_reverse]
def Dm(v:Vst):AV:= .agg [.i v.s.1,.i v.s.2,.i v.fr,.i v.on.ty,.i v.on.num,.bool v.fst]
def k1r(V:List Vst)(L:List ((Int×Int)×List Sy))(hV:VOk V L)(i:Nat)(e:(Int×Int)×List Sy)(he:L[i]?=some e)(hl:V.length<=1000000):PC prog 128 [.list (V.map Dm),.i i] (λr=>r=LSy e.2):=by
 refine pcB func128 results128 ntmps128 ?_;simp only[Qf];have ze:i<L.length:=(zB.1 he).1;have zf:=hV.len;repeat(refine s_ ?_;simp)
 refine Q3 5 52 2 rfl ?_;simp;have hst:=SL.start [] 52 2;refine Qj (Qc (sl':=[(0,.list (V.map Dm)),(1,.i i),(5,.sl 0 2 0 ([]:List Sy).length)]) ?_ (by simp));refine Qi (P:=prog) (F:=λ(u:Nat×Nat×List Sy×List AObj)=>⟨[(0,.list (V.map Dm)),(1,.i u.1),(5,.sl u.2.1 2 0 u.2.2.1.length)],u.2.2.2⟩)
  (λu=>(∃d,L[u.1]?=some d/\e.2=d.2++u.2.2.1.reverse)/\u.2.2.1.length+u.1<=i/\u.2.2.2[u.2.1]?=some (.arr 52 2 (u.2.2.1.map encSy))) (λu=>u.1) ?_ (i,0,[],_) ⟨⟨e,he,by simp⟩,by simp,by simp⟩
 rintro⟨k,q,out,G⟩ ⟨⟨d,hd,z1⟩,zc,gq⟩ ih;simp only at hd z1 zc gq ih |-;have z7:k<V.length:=by have:=(zB.1 hd).1;omega
 obtain⟨v,hv⟩:∃v,V[k]?=some v:=⟨_,zI z7⟩
 have za:=hV.way k v d hv hd;have z6:(V.map Dm)[k]?=some (Dm v):=by rw[zS,hv];rfl
 have z8:∀hh,(V.map Dm)[k]'hh=Dm v:=λhh=>(zY hh).2 z6;simp only[Dm]at z6 z8;repeat(refine s_ ?_;simp[z6,z8,z7])
 rcases za with⟨h1,h2⟩|⟨h1,h2,d',h3,h4⟩
 ·rw[h2,List.nil_append]at z1;rw[h1];refine Qb rfl (λh=>by simp at h) (λ_=>?_);repeat(refine s_ ?_;simp)
  refine Qu rfl rfl (Vx G q out gq (by omega)) rfl ?_;rintro _ _ ⟨rfl,rfl⟩;simp;have zd:∀z,(G.set q z)[q]?=some z:=λz=>Qg gq z;have zg:out.length=e.2.length:=by rw[z1];simp
  rw[z1];repeat(refine s_ ?_;simp[zd])
  rw[zV (by simp)]
 rw[h1];refine Qb rfl (λ_=>?_) (λh=>by simp at h);have zb:(out.map encSy).length=out.length:=by simp
 repeat(refine s_ ?_;simp[z6,z8,z7])
 refine apS T26 T52 ?_;simp[Qa gq,Qh gq,zb];refine⟨by simp[Wg,Qa gq,Qh gq,zb]<;>omega,?_⟩;repeat(refine s_ ?_;simp[z6,z8,z7])
 refine Qc (sl':=[(0,.list (V.map Dm)),(1,.i v.fr),(5,.sl (G.length+1) 2 0 (out++[v.on]).length)]) ?_ (by simp);refine ih (v.fr,G.length+1,out++[v.on],_) ⟨⟨d',h3,by rw[z1,h4];simp⟩,by simp;omega,?_⟩ h2;simp only;rw[zH (by simp)];simp[encSy]
end
section
open Go.Maps Go.RowKit
def f1l(x y:Int):(if x<y then y else x)=max x y:=by omega
def y2t:Option Int->AV
 |some n=> .tup [.i n,.bool true]
 |none=> .tup [.i 0,.bool false]
def v05(l m:List Iv)(hl:l.length<=1000000000)(hm:m.length<=1000000000):PC prog 183 [LIv l,LIv m] (λr=>r=y2t (Kl l m)):=by
 refine pcB func183 results183 ntmps183 ?_;simp only[Qf];obtain⟨R,hR⟩:∃R,Kl l m=R:=⟨_,rfl⟩
 rw[hR];repeat(refine s_ ?_;simp)
 refine Qj (Qc (sl':=[(0,LIv l),(1,LIv m),(6,.i (0:Nat)),(7,.i (0:Nat))]) ?_ (by simp));refine Qi (F:=λ(u:Nat×Nat)=>⟨[(0,LIv l),(1,LIv m),(6,.i u.1),(7,.i u.2)],[]⟩)
  (λu=>u.1<=l.length/\u.2<=m.length/\Kl (l.drop u.1) (m.drop u.2)=R) (λu=>(l.length - u.1)+(m.length - u.2)) ?_ (0,0) ⟨xI _,xI _,by simpa using hR⟩
 rintro⟨i,k⟩ ⟨hi,hk,hI⟩ ih;simp only at hi hk hI ih |-;by_cases h1:i<l.length
 ·by_cases h2:k<m.length
  ·have hw:=wz i (by omega);have z1:=wz k (by omega);rw[wH h1,wH h2,d0y]at hI;have e1:l[i]?=some l[i]:=zI h1;have e2:m[k]?=some m[k]:=zI h2;repeat(refine s_ ?_;simp[h1,h2])
   refine Qb rfl (λ_=>?_) (λh=>by simp[h1,h2]at h);repeat(refine s_ ?_;simp)
   refine Qo tOk mixed [] (.val 0 (.val 1 (.val 2 (.val 3 (.val 4 (.val 5 (.val 6 (.val 7 (.val 8 (.val 9 (.val 10 (.val 11 (.done))))))))))))) rfl (by kernel_rfl) ?_;simp[h1,h2];repeat(refine s_ ?_;simp)
   refine Qo tOk mixed [] (.val 0 (.val 1 (.val 2 (.val 3 (.val 4 (.val 5 (.val 6 (.val 7 (.val 8 (.val 9 (.val 10 (.val 11 (.val 12 (.done)))))))))))))) rfl (by kernel_rfl) ?_;simp[h1,h2];refine Qb rfl (λh=>?_) (λh=>?_)
   ·have hle:max l[i].lo m[k].lo<=min l[i].hi m[k].hi:=by simp at h;omega
    rw[if_pos hle]at hI;rw[<-hI];repeat(refine s_ ?_;simp)
    rw[f1l];rfl
   have hle:¬max l[i].lo m[k].lo<=min l[i].hi m[k].hi:=by simp at h;omega
   rw[if_neg hle]at hI;repeat(refine s_ ?_;simp)
   refine Qo tOk mixed [] (.val 0 (.val 1 (.val 2 (.val 3 (.val 4 (.val 5 (.val 6 (.val 7 (.val 8 (.val 9 (.val 10 (.done)))))))))))) rfl (by kernel_rfl) ?_;simp[h1,h2];refine Qb rfl (λh=>?_) (λh=>?_)
   ·rw[if_pos (by simpa using h)]at hI;repeat(refine s_ ?_;simp[hw])
    refine Qc (sl':=[(0,LIv l),(1,LIv m),(6,.i (i+1:Nat)),(7,.i k)]) ?_ (by simp);exact ih (i+1,k) ⟨by omega,hk,by rw[wH h2];exact hI⟩ (by simp;omega)
   rw[if_neg (by simpa using h)]at hI;repeat(refine s_ ?_;simp[z1])
   refine Qc (sl':=[(0,LIv l),(1,LIv m),(6,.i i),(7,.i (k+1:Nat))]) ?_ (by simp);exact ih (i,k+1) ⟨hi,by omega,by rw[wH h1];exact hI⟩ (by simp;omega)
  have h3:k=m.length:=by omega
  subst h3;repeat(refine s_ ?_;simp[h1])
  refine Qb rfl (λh=>by simp at h) (λ_=>?_);repeat(refine s_ ?_;simp)
  rw[xY,wH h1,By]at hI;rw[<-hI];rfl
 have h3:i=l.length:=by omega
 subst h3;repeat(refine s_ ?_;simp)
 refine Qb rfl (λh=>by simp at h) (λ_=>?_);repeat(refine s_ ?_;simp)
 rw[xY,y0q]at hI;rw[<-hI];rfl
def Jk:Option Sy->AV
 |some x=> .tup [encSy x,.bool true]
 |none=> .tup [encSy ⟨0,0⟩,.bool false]
def j1i(p q:Prd)(f t:Nat):lqB p q (f+1) t=match Kl (p.getD t []) (q.getD t [])with|some n=>some ⟨t,n⟩|none=>lqB p q f (t+1):=rfl
attribute [local irreducible] lqB Ew
def Sa(T:Nat)(p q:Prd)(hp:PWf T p)(hq:PWf T q)(z7:∀s∈p,s.length<=1000000000)(z8:∀s∈q,s.length<=1000000000)(hT:T<=1000):PC prog 120 [encP p,encP q] (λr=>r=Jk (Ew p q)):=by
 refine pcB func120 results120 ntmps120 ?_;simp only[Qf];simp only[encP];have zd:=hp.1;have ze:=hq.1;obtain⟨R,hR⟩:∃R,Ew p q=R:=⟨_,rfl⟩
 rw[hR];rw[<-j25 hp hq]at hR;repeat(refine s_ ?_;simp)
 refine Wf p.length (λi=>lqB p q (T - i) i=R) (λi=>[(2,.vptr 0 0),(3,.vptr 1 0),(4,.vptr 2 0),(11,.i p.length),(12,.i i)]) (λ_=>[.vars [.list (p.map encL)],.vars [.list (q.map encL)],.vars [.i 0,.i 0]]) rfl (by simp) (by simp) (by simp) (by simp) (by simpa using hR) ?_;intro i hi hI ih;repeat(refine s_ ?_;simp)
 refine Qb rfl (λza=>?_) (λzb=>?_)
 ·have z1:i<p.length:=by simpa using za
  have z6:i<q.length:=by omega
  have hw:=wz i (by omega);rw[show T - i=(T - (i+1))+1 by omega,j1i,W9 z1,W9 z6]at hI;repeat(refine s_ ?_;simp)
  refine Qo tOk mixed [] (.val 0 (.val 1 (.val 2 (.val 3 (.val 4 (.val 5 (.val 6 (.val 7 (.val 8 (.val 9 (.one 10 (.val 11 (.val 12 (.val 13 (.val 14 (.val 15 (.done))))))))))))))))) rfl (by kernel_rfl) ?_;simp[z1,z6];refine pcL (v05 p[i] q[i] (z7 _ (zL z1)) (z8 _ (zL z6))) ?_;simp;cases hc:Kl p[i] q[i]with
  |some n=>
   rw[hc]at hI;simp[y2t];repeat(refine s_ ?_;simp)
   refine Qr rfl ?_;repeat(refine s_ ?_;simp)
   rw[<-hI];rfl
  |none=>
   rw[hc]at hI;simp[y2t];repeat(refine s_ ?_;simp)
   refine Qr rfl ?_;repeat(refine s_ ?_;simp[hw])
   refine Wd _ (ih z1 hI) rfl (by simp) ?_ (by simp) (by simp);simp
 have zc:i=p.length:=by simp at zb;omega
 subst zc;repeat(refine s_ ?_;simp)
 rw[show T - p.length=0 by omega]at hI;rw[<-hI];unfold lqB;rfl
def u0p(x y:Sy):PC prog 182 [encSy x,encSy y] (λr=>r= .bool (Kx x y)):=by
 refine pcB func182 results182 ntmps182 ?_;simp only[Qf];simp only[encSy,Kx];by_cases h1:x.ty<y.ty
 ·repeat(refine s_ ?_;simp[h1])
 by_cases h2:x.ty=y.ty
 ·repeat(refine s_ ?_;simp[h1,h2])
 have hb:(x.ty==y.ty)=false:=by simpa using h2
 repeat(refine s_ ?_;simp[h1,h2,hb])
end
section
open Go.Maps Go.RowKit
def j1l:Option Int->AV
 |some m=> .tup [.i m,.bool true]
 |none=> .tup [.i 0,.bool false]
def u1a(l:List Iv)(n:Int):PC prog 281 [LIv l,.i n] (λr=>r=j1l (j0k l n)):=by
 refine pcB func281 results281 ntmps281 ?_;simp only[Qf];refine U5 0 rfl (λhlen=>?_);rw[yO]at hlen;obtain⟨R,hR⟩:∃R,j0k l n=R:=⟨_,rfl⟩
 rw[hR];repeat(refine s_ ?_;simp)
 refine Wf l.length (λj=>j0k (l.drop j) n=R) (λj=>[(1,.i n),(8,LIv l),(9,.i l.length),(10,.i j)]) (λ_=>[]) rfl (by simp) (by simp) (by simp) (by simp) (by simpa using hR) ?_;intro j hj hI ih;repeat(refine s_ ?_;simp)
 refine Qb rfl (λza=>?_) (λzb=>?_)
 ·have z1:j<l.length:=by simpa using za
  have hw:=wz j (by omega);rw[Ed z1,j0k]at hI;have z7:(l.map encIv)[j]?=some (encIv l[j]):=by simp[z1]
  have z8:∀hh,(l.map encIv)[j]'hh=encIv l[j]:=λhh=>by simp
  generalize l[j]=x at *;simp only[encIv]at z7 z8
  repeat(refine s_ ?_;simp[z7,z8,z1])
  refine Qb rfl (λh=>?_) (λh=>?_)
  ·rw[if_pos (by simpa using h)]at hI;subst hI;repeat(refine s_ ?_;simp)
   simp only[j1l,f1l]
  rw[if_neg (by simpa using h)]at hI;repeat(refine s_ ?_;simp[hw])
  refine Wd _ (ih z1 hI) rfl (by simp) ?_ (by simp) (by simp);simp
 have z6:j=l.length:=by simp at zb;omega
 subst z6;rw[xY]at hI;subst hI;repeat(refine s_ ?_;simp)
 rfl
def bdL(l:List Iv):Prop:=∀x∈l,-1099511627776<=x.lo/\x.hi<=1099511627776
def u04(l:List Iv)(n:Int)(hb:bdL l):PC prog 282 [LIv l,.i n] (λr=>r= .i (w01 l n)):=by
 refine pcB func282 results282 ntmps282 ?_;simp only[Qf];refine U5 0 rfl (λhlen=>?_);rw[yO]at hlen;obtain⟨R,hR⟩:∃R,w01 l n=R:=⟨_,rfl⟩
 rw[hR];repeat(refine s_ ?_;simp)
 refine Qj (Qc (sl':=[(1,.i n),(7,LIv l),(8,.i l.length),(9,.i (0:Nat))]) ?_ (by simp));refine Qi (P:=prog) (F:=λ(u:Nat×Int×List AObj)=>⟨[(1,.i u.2.1),(7,LIv l),(8,.i l.length),(9,.i u.1)],u.2.2⟩)
  (λu=>u.1<=l.length/\w01 (l.drop u.1) u.2.1=R) (λu=>l.length - u.1) ?_ (0,n,[]) ⟨xI _,by simpa using hR⟩
 clear hR;rintro⟨j,c,G⟩ ⟨hj,hI⟩ ih;simp only at hj hI ih |-;repeat(refine s_ ?_;simp)
 refine Qb rfl (λzb=>?_) (λzc=>?_)
 ·have z1:j<l.length:=by simpa using zb
  have hw:=wz j (by omega);rw[Ed z1,w01]at hI;have z6:(l.map encIv)[j]?=some (encIv l[j]):=by simp[z1]
  have z7:∀hh,(l.map encIv)[j]'hh=encIv l[j]:=λhh=>by simp
  have hx:=hb _ (zL z1);generalize l[j]=x at *;simp only[encIv]at z6 z7
  by_cases h1:x.lo<=c
  ·have d1:decide (x.lo<=c)=true:=by simpa using h1
   repeat(refine s_ ?_;simp[z6,z7,z1,d1])
   refine Qb rfl (λh=>?_) (λh=>?_)
   ·have h2:c<=x.hi:=by simpa using h
    rw[if_pos ⟨h1,h2⟩]at hI;have z8:IntKind.i64.wrap (x.hi+1)=x.hi+1:=wrap_i64 _ (by omega) (by omega);repeat(refine s_ ?_;simp[z8,hw])
    refine Qc (sl':=[(1,.i (x.hi+1)),(7,LIv l),(8,.i l.length),(9,.i (j+1:Nat))]) ?_ (by simp);exact ih (j+1,x.hi+1,_) ⟨by simp only;omega,hI⟩ (by simp only;omega)
   have h2:¬c<=x.hi:=by simpa using h
   rw[if_neg (λk=>h2 k.2)]at hI;repeat(refine s_ ?_;simp[hw])
   refine Qc (sl':=[(1,.i c),(7,LIv l),(8,.i l.length),(9,.i (j+1:Nat))]) ?_ (by simp);exact ih (j+1,c,_) ⟨by simp only;omega,hI⟩ (by simp only;omega)
  have d1:decide (x.lo<=c)=false:=by simpa using h1
  rw[if_neg (λk=>h1 k.1)]at hI;repeat(refine s_ ?_;simp[z6,z7,z1,d1])
  refine Qb rfl (λh=>by simp at h) (λh=>?_);repeat(refine s_ ?_;simp[hw])
  refine Qc (sl':=[(1,.i c),(7,LIv l),(8,.i l.length),(9,.i (j+1:Nat))]) ?_ (by simp);exact ih (j+1,c,_) ⟨by simp only;omega,hI⟩ (by simp only;omega)
 have za:j=l.length:=by simp at zc;omega
 subst za;rw[xY]at hI;subst hI;repeat(refine s_ ?_;simp)
 rfl
def x1d:Option Int->AV
 |some m=> .tup [.i m,.bool (decide (m<=1099511627776))]
 |none=> .tup [.i 0,.bool false]
def j2h(O:List (List Iv)):Option Int->Option Int
 |some m=>some (q1n O m)
 |none=>none
def z2b(I O:List (List Iv))(n:Int):g1v I O n=j2h O (g0z I n):=by unfold g1v j2h;cases g0z I n<;>rfl
def y0o{t:Nat}{ps:List Prd}{j:Nat}(h:j<ps.length):S0 t (ps.drop j)=ps[j].getD t []::S0 t (ps.drop (j+1)):=by unfold S0;rw[Ed h];rfl
def x2f{T:Nat}{p:Prd}(h:PCk T p){s:List Iv}(hs:s∈p):bdL s:=λx hx=>by obtain⟨i,hi,rfl⟩:=List.getElem_of_mem hx;have:=(h.2 s hs).iv hi;omega
def z14{p:Prd}{t:Nat}(h:t<p.length):p.getD t []=p[t]:=by simp[yQ,h]
def Vb{T:Nat}{p:Prd}(h:PCk T p){t:Nat}(ht:t<T):(p.map encL)[t]?=some (encL (p.getD t []))/\p.getD t []∈p:=by
 have hl:t<p.length:=by rw[h.1];exact ht
 rw[z14 hl];exact⟨by simp[hl],zL hl⟩
attribute [local irreducible] j0k w01
def k1a(T:Nat)(ins outs:List Prd)(zj:∀p∈ins,PCk T p)(zc:∀p∈outs,PCk T p)(t:Nat)(ht:t<T)(n:Int):PC prog 233 [.i n,.i t,LP ins,LP outs] (λr=>r=x1d (g1v (S0 t ins) (S0 t outs) n)):=by
 refine pcB func233 results233 ntmps233 ?_;simp only[Qf];refine U5 2 rfl (λhlen=>?_);refine U5 3 rfl (λz7=>?_);rw[yO]at hlen z7;obtain⟨R,hR⟩:∃R,g1v (S0 t ins) (S0 t outs) n=R:=⟨_,rfl⟩
 rw[hR];rw[z2b]at hR;repeat(refine s_ ?_;simp)
 refine Qj (Qc (sl':=[(0,.i n),(1,.i t),(3,LP outs),(16,LP ins),(17,.i ins.length),(18,.i (0:Nat))]) ?_ (by simp));refine Qi (P:=prog) (F:=λ(u:Nat×Int×List AObj)=>⟨[(0,.i u.2.1),(1,.i t),(3,LP outs),(16,LP ins),(17,.i ins.length),(18,.i u.1)],u.2.2⟩)
  (λu=>u.1<=ins.length/\j2h (S0 t outs) (g0z (S0 t (ins.drop u.1)) u.2.1)=R) (λu=>ins.length - u.1) ?_ (0,n,[]) ⟨xI _,by simpa using hR⟩
 clear hR;rintro⟨j,c,G⟩ ⟨hj,hI⟩ ih;simp only at hj hI ih |-;repeat(refine s_ ?_;simp)
 refine Qb rfl (λzd=>?_) (λze=>?_)
 ·have z1:j<ins.length:=by simpa using zd
  have hw:=wz j (by omega);rw[y0o z1,g0z]at hI;have z8:(ins.map encP)[j]?=some (encP ins[j]):=by simp[z1]
  have za:∀hh,(ins.map encP)[j]'hh=encP ins[j]:=λhh=>by simp
  have hp:=zj _ (zL z1);generalize ins[j]=p at *
  obtain⟨zb,zh⟩:=Vb hp ht;have zf:∀hh,(p.map encL)[t]'hh=encL (p.getD t []):=λhh=>(zY hh).2 zb;have zg:t<p.length:=by rw[hp.1];exact ht
  generalize p.getD t []=s at *;simp only[encP]at z8 za
  repeat(refine s_ ?_;simp[z8,za,z1,zb,zf,zg])
  refine pcL (u1a s c) ?_;simp;cases hf:j0k s c with
  |none=>
   rw[hf]at hI;simp only at hI;subst hI;simp[j1l];repeat(refine s_ ?_;simp)
   refine Qb rfl (λ_=>?_) (λh=>by simp at h);repeat(refine s_ ?_;simp)
   rfl
  |some m=>
   rw[hf]at hI;simp only at hI;simp[j1l];repeat(refine s_ ?_;simp)
   refine Qb rfl (λh=>by simp at h) (λ_=>?_);repeat(refine s_ ?_;simp[hw])
   refine Qc (sl':=[(0,.i m),(1,.i t),(3,LP outs),(16,LP ins),(17,.i ins.length),(18,.i (j+1:Nat))]) ?_ (by simp);exact ih (j+1,m,_) ⟨by simp only;omega,hI⟩ (by simp only;omega)
 have z6:j=ins.length:=by simp at ze;omega
 subst z6;rw[xY]at hI;simp only[S0,wD,g0z]at hI;clear ih;repeat(refine s_ ?_;simp)
 have zi:some (q1n (S0 t outs) c)=R:=hI;refine Qj (Qc (sl':=[(0,.i c),(1,.i t),(36,LP outs),(37,.i outs.length),(38,.i (0:Nat))]) ?_ (by simp));refine Qi (P:=prog) (F:=λ(u:Nat×Int×List AObj)=>⟨[(0,.i u.2.1),(1,.i t),(36,LP outs),(37,.i outs.length),(38,.i u.1)],u.2.2⟩)
  (λu=>u.1<=outs.length/\some (q1n (S0 t (outs.drop u.1)) u.2.1)=R) (λu=>outs.length - u.1) ?_ (0,c,G) ⟨xI _,by simpa using zi⟩
 clear hI zi;clear G c;rintro⟨j,c,G⟩ ⟨hj,hI⟩ ih;simp only at hj hI ih |-;repeat(refine s_ ?_;simp)
 refine Qb rfl (λzd=>?_) (λze=>?_)
 ·have z1:j<outs.length:=by simpa using zd
  have hw:=wz j (by omega);rw[y0o z1,q1n]at hI;have z8:(outs.map encP)[j]?=some (encP outs[j]):=by simp[z1]
  have za:∀hh,(outs.map encP)[j]'hh=encP outs[j]:=λhh=>by simp
  have hp:=zc _ (zL z1);generalize outs[j]=p at *
  obtain⟨zb,zh⟩:=Vb hp ht;have zf:∀hh,(p.map encL)[t]'hh=encL (p.getD t []):=λhh=>(zY hh).2 zb;have zg:t<p.length:=by rw[hp.1];exact ht
  have zk:=x2f hp zh;generalize p.getD t []=s at *;simp only[encP]at z8 za
  repeat(refine s_ ?_;simp[z8,za,z1,zb,zf,zg])
  refine pcL (u04 s c zk) ?_;simp;generalize w01 s c=m at *
  repeat(refine s_ ?_;simp[hw])
  refine Qc (sl':=[(0,.i m),(1,.i t),(36,LP outs),(37,.i outs.length),(38,.i (j+1:Nat))]) ?_ (by simp);exact ih (j+1,m,_) ⟨by simp only;omega,hI⟩ (by simp only;omega)
 have z6:j=outs.length:=by simp at ze;omega
 subst z6;rw[xY]at hI;simp only[S0,wD,q1n]at hI;subst hI;repeat(refine s_ ?_;simp)
 simp[x1d]
def x2j{T:Nat}{ps:List Prd}(h:∀p∈ps,PCk T p){t:Nat}(ht:t<T):∀l∈S0 t ps,Sep l:=λl hl=>by unfold S0 at hl;obtain⟨p,hp,rfl⟩:=zQ.1 hl;exact Sl ((h p hp).2 _ (Vb (h p hp) ht).2)
attribute [local irreducible] g1v Ha
def g0d(T:Nat)(hT:T<=1000)(ins outs:List Prd)(zi:∀p∈ins,PCk T p)(ze:∀p∈outs,PCk T p)(P:Prd)(hf:FitP T ins outs P):PC prog 193 [.i T,LP ins,LP outs] (λr=>r=Jk (y0t P)):=by
 refine pcB func193 results193 ntmps193 ?_;simp only[Qf];have hex:=λt n=>hf.mem t n;have za:=λt n h1 h2 h3 h4 h5=>hf.some (t:=t) (n:=n) h1 h2 h3 h4 h5;have zb:=hf.none;have zj:=λt h k=>hf.no (t:=t) h k;generalize y0t P=R at *
 repeat(refine s_ ?_;simp)
 refine Qj (Qc (sl':=[(1,LP ins),(2,LP outs),(6,.vptr 0 0),(12,.i T),(13,.i (0:Nat))]) ?_ (by simp));refine Qi (P:=prog) (F:=λ(t:Nat)=>⟨[(1,LP ins),(2,LP outs),(6,.vptr 0 0),(12,.i T),(13,.i t)],[.vars [.i 0,.i 0]]⟩)
  (λt=>t<=T/\∀t',t'<t->∀k,¬PM P t' k) (λt=>T - t) ?_ 0 ⟨xI _,λt' h=>absurd h (Nat.not_lt_zero _)⟩
 rintro t ⟨zn,hb⟩ ih;repeat(refine s_ ?_;simp)
 refine Qb rfl (λzk=>?_) (λzl=>?_)
 ·have z6:t<T:=by simpa using zk
  have hw:=wz t (by omega);have zc:=λn=>k1a T ins outs zi ze t z6 n;have zm:=λn=>u1z (S0 t ins) (S0 t outs) n (x2j zi z6);have z7:=λn=>za t n z6 hb;have zf:=zj t;generalize S0 t ins=I at *;generalize S0 t outs=O at *
  repeat(refine s_ ?_;simp)
  refine Qj (Qc (sl':=[(1,LP ins),(2,LP outs),(6,.vptr 0 0),(8,.i t),(9,.i (-1099511627776)),(12,.i T),(13,.i t)]) ?_ (by simp));refine Qi (P:=prog) (F:=λ(n:Int)=>⟨[(1,LP ins),(2,LP outs),(6,.vptr 0 0),(8,.i t),(9,.i n),(12,.i T),(13,.i t)],[.vars [.i 0,.i 0]]⟩)
   (λn=>inR n/\∀k,inR k->Ha I O k->n<=k) (λn=>(1099511627777 - n).toNat) ?_ (-1099511627776) ⟨by unfold inR;omega,λk hk _=>hk.1⟩
  rintro n ⟨hn,z1⟩ ih2;repeat(refine s_ ?_;simp)
  refine pcL (zc n) ?_;simp;have z8:=zm n;have zd:(∀k,inR k->¬Ha I O k)->∀t',t'<t+1->∀k,¬PM P t' k:=λh t' zo k=>by
   by_cases e:t'=t
   ·subst e;exact zf h k
   exact hb t' (by omega) k
  cases hx:g1v I O n with
  |none=>
   rw[hx]at z8;simp only at z8;simp[x1d];repeat(refine s_ ?_;simp)
   refine Qb rfl (λ_=>?_) (λh=>by simp at h);repeat(refine s_ ?_;simp[hw])
   refine Qc (sl':=[(1,LP ins),(2,LP outs),(6,.vptr 0 0),(12,.i T),(13,.i (t+1:Nat))]) ?_ (by simp);exact ih (t+1) ⟨by omega,zd λk hk hg=>z8 k (z1 k hk hg) hg⟩ (by omega)
  |some m=>
   rw[hx]at z8;simp only at z8;obtain⟨s1,s2,s3⟩:=z8;simp[x1d];by_cases hm:m<=1099511627776
   ·repeat(refine s_ ?_;simp[hm])
    refine Qb rfl (λh=>by simp[hm]at h) (λ_=>?_);repeat(refine s_ ?_;simp)
    refine Qb rfl (λh=>?_) (λh=>?_)
    ·have e:m=n:=by simpa using h
     have zg:=z7 n hn (s3 e) z1;subst zg;repeat(refine s_ ?_;simp)
     simp[Jk,encSy]
    have e:m≠n:=by simpa using h
    repeat(refine s_ ?_;simp)
    refine Qc (sl':=[(1,LP ins),(2,LP outs),(6,.vptr 0 0),(8,.i t),(9,.i m),(12,.i T),(13,.i t)]) ?_ (by simp);exact ih2 m ⟨⟨by have:=hn.1;omega,hm⟩,λk hk hg=>s2 k (z1 k hk hg) hg⟩ (by have:=hn.1;omega)
   repeat(refine s_ ?_;simp[hm])
   refine Qb rfl (λ_=>?_) (λh=>by simp[hm]at h);repeat(refine s_ ?_;simp[hw])
   refine Qc (sl':=[(1,LP ins),(2,LP outs),(6,.vptr 0 0),(12,.i T),(13,.i (t+1:Nat))]) ?_ (by simp);exact ih (t+1) ⟨by omega,zd λk hk hg=>hm (Int.le_trans (s2 k (z1 k hk hg) hg) hk.2)⟩ (by omega)
 have zh:t=T:=by simp at zl;omega
 subst zh;have zg:=zb hb;subst zg;repeat(refine s_ ?_;simp)
 simp[Jk,encSy]
end
section
open Go.Maps Go.RowKit
section
variable {P:Program} [Env P] {nt k:Nat} {ops:Array Oper} {o:Oper} {R:AS->Prop}
def Nw{wr:Bool}{sl:List (Nat×AV)}{H:List AObj}(i:Nat){e c:Nat}{xs:List AV}(hi:H[i]?=some (.arr e c xs))(h:Q9 P nt k wr ops o ⟨sl,H.set i (.arr e c (xs.map AV.nrm))⟩ R):Q9 P nt k wr ops o ⟨sl,H⟩ R:=
 λC a w K Q hs=>h C a w K Q (hs.swap hi rfl (λ_ _=>Yv.nrmArr))
end
def W4(s:Int):Option Mv->AV
 |some m=>encMv m
 |none=> .agg [.i s,.i (-1),.list []]
def g1m{a:Aut}{s:Int}{j:Nat}(h:j<a.mv.length):(a.mv.take (j+1)).filter (λm=>decide (m.src=s))=(a.mv.take j).filter (λm=>decide (m.src=s))++(if a.mv[j].src=s then [a.mv[j]]else []):=by
 rw[zU h,List.filter_append]
 congr 1
 by_cases e:a.mv[j].src=s<;>simp[e]
def g2m(a:Aut)(s:Int)(j:Nat):((a.mv.take j).filter λm=>decide (m.src=s)).length<=a.mv.length:=Nat.le_trans (yX _ _) (by rw[List.length_take];omega)
def Hv(a:Aut)(s:Int)(zm:a.mv.length<=1000000):PC prog 191 [encA a,.i s] (λr=>r= .list ((Wk a s).map (W4 s))):=by
 refine pcB func191 results191 ntmps191 ?_;simp only[Qf];simp only[encA];refine Ec 0 2 rfl rfl (λhlen=>?_);rw[yO]at hlen;repeat(refine s_ ?_;simp)
 have zc:=λj (h:j<a.mv.length)=>g1m (a:=a) (s:=s) h;have zd:=λj=>g2m a s j;refine Q3 5 73 3 rfl ?_;simp;obtain⟨K,hK⟩:∃K,K=[AObj.vars (Qk a)]:=⟨_,rfl⟩
 have hst:=SL.start K 73 3;refine Qj (Qc (sl':=[(1,.i s),(5,.sl 1 3 0 ((a.mv.take 0).filter λm=>decide (m.src=s)).length),(9,.list (a.mv.map encMv)),(10,.i a.mv.length),(11,.i (0:Nat))]) ?_ (by simp));refine Qi (P:=prog) (F:=λ(u:Nat×Nat×List AObj)=>⟨[(1,.i s),(5,.sl u.2.1 3 0 ((a.mv.take u.1).filter λm=>decide (m.src=s)).length),(9,.list (a.mv.map encMv)),(10,.i a.mv.length),(11,.i u.1)],u.2.2⟩)
  (λu=>u.1<=a.mv.length/\SL K u.2.2 u.2.1 73 3 (((a.mv.take u.1).filter λm=>decide (m.src=s)).map encMv)) (λu=>a.mv.length - u.1) ?_ (0,1,_) ⟨xI _,by rw[hK]at hst |-;simpa using hst⟩
 rintro⟨j,q,G⟩ ⟨hj,g⟩ ih;simp only at hj g ih |-;have z8:=zd j;repeat(refine s_ ?_;simp)
 refine Qb rfl (λze=>?_) (λzf=>?_)
 ·have z1:j<a.mv.length:=by simpa using ze
  have hw:=wz j (by omega);have zg:=zc j z1;have z6:=λq' G'=>ih (j+1,q',G');simp only[zg]at z6;have za:(a.mv.map encMv)[j]?=some (encMv a.mv[j]):=by simp[z1]
  have zb:∀hh,(a.mv.map encMv)[j]'hh=encMv a.mv[j]:=λhh=>by simp
  generalize a.mv[j]=m at *;generalize (a.mv.take j).filter (λm=>decide (m.src=s))=P at *
  have z7:(P.map encMv).length=P.length:=by simp
  simp only[encMv]at za zb;repeat(refine s_ ?_;simp[za,zb,z1])
  refine Qb rfl (λh=>?_) (λh=>?_)
  ·have e:m.src=s:=by simpa using h
   rw[if_pos e]at z6;repeat(refine s_ ?_;simp)
   refine apS T23 T73 ?_;simp[Qa g.arr,Qh g.arr,z7];refine⟨by simp[Wg,Qa g.arr,Qh g.arr,z7]<;>omega,?_⟩;repeat(refine s_ ?_;simp[hw])
   refine Qc (sl':=[(1,.i s),(5,.sl (G.length+2) 3 0 (P++[m]).length),(9,.list (a.mv.map encMv)),(10,.i a.mv.length),(11,.i (j+1:Nat))]) ?_ (by simp);have:=z6 (G.length+2) _ ⟨by omega,g.put [AObj.vars [.i m.src,.i m.dst,.list (m.on.map encL)],AObj.arr 73 3 [encMv m]] ((P++[m]).map encMv) rfl⟩ (by omega);simpa[encMv]using this
  have e:m.src≠s:=by simpa using h
  rw[if_neg e,xG]at z6;repeat(refine s_ ?_;simp[hw])
  refine Qc (sl':=[(1,.i s),(5,.sl q 3 0 P.length),(9,.list (a.mv.map encMv)),(10,.i a.mv.length),(11,.i (j+1:Nat))]) ?_ (by simp);exact z6 q _ ⟨by omega,g.add _⟩ (by omega)
 have zh:j=a.mv.length:=by simp at zf;omega
 subst zh;have zi:a.mv.take a.mv.length=a.mv:=yI;rw[zi]at g z8 |-;have zj:a.mv.filter (λm=>decide (m.src=s))=mvS a s:=rfl;have zk:(Wk a s).map (W4 s)=(mvS a s).map encMv++[.agg [.i s,.i (-1),.list []]]:=by unfold Wk;simp[W4]
 rw[zk];rw[zj]at g z8 |-;generalize mvS a s=P at *
 have z7:(P.map encMv).length=P.length:=by simp
 repeat(refine s_ ?_;simp)
 refine Nw G.length (e:=73) (c:=3) (xs:=[.agg [.i s,.i (-1),.nils]]) (by simp) ?_;have zl:∀u z:AObj,(G++[u]).set G.length z=G++[z]:=λu z=>by rw[List.set_append_right _ _ (by simp)];simp
 simp[zl];refine apS T23 T73 ?_;simp[Qa g.arr,Qh g.arr,z7];refine⟨by simp[Wg,Qa g.arr,Qh g.arr,z7]<;>omega,?_⟩;repeat(refine s_ ?_;simp)
 rw[zV (by simp)]
def B0(a:Aut)(s:Int)(i:Nat)(o:Option Mv)(h:(Wk a s)[i]?=some o)(hl:a.mv.length<=1000000):PC prog 192 [.list ((Wk a s).map (W4 s)),.i i] (λr=>r= .tup [LP (Ze o),LP (Ku a s o)]):=by
 refine pcB func192 results192 ntmps192 ?_;simp only[Qf];have zr:(mvS a s).length<=a.mv.length:=yX _ _;have zh:(Wk a s).length=(mvS a s).length+1:=by unfold Wk;simp
 have zi:i<(Wk a s).length:=(zB.1 h).1;have zj:IntKind.i64.wrap ((mvS a s).length:Int)=(mvS a s).length:=wrap_i64 _ (by omega) (by omega);repeat(refine s_ ?_;simp[zh,zj])
 refine Qb rfl (λzk=>?_) (λzl=>?_)
 ·have z7:i<(mvS a s).length:=by simpa using zk
  obtain⟨m,rfl,z6⟩:∃m,o=some m/\((Wk a s).map (W4 s))[i]?=some (encMv m):=by unfold Wk at h |-;rw[zF (by simpa using z7)]at h;rw[zS,zF (by simpa using z7),h];rw[zS]at h;obtain⟨m,_,rfl⟩:=zP.1 h;exact⟨m,rfl,rfl⟩
  have z8:∀hh,((Wk a s).map (W4 s))[i]'hh=encMv m:=λhh=>(zY hh).2 z6;generalize Wk a s=L at *;simp only[encMv]at z6 z8
  repeat(refine s_ ?_;simp[z6,z8,zi])
  exact⟨rfl,rfl⟩
 have zm:i=(mvS a s).length:=by simp at zl;omega
 subst zm;obtain rfl:o=none:=by unfold Wk at h;rw[zH (by simp)]at h;simpa using h.symm
 have zn:((Wk a s).map (W4 s)).take (mvS a s).length=(mvS a s).map encMv:=by unfold Wk;rw[yR,List.take_append_of_le_length (by simp),zV (by simp)];simp[W4]
 have hle:(mvS a s).length<=(Wk a s).length:=by omega
 repeat(refine s_ ?_;simp[hle])
 rw[if_pos (λo ho=>by cases o<;>rfl)];simp;rw[zn];have za:min (mvS a s).length (Wk a s).length=(mvS a s).length:=by omega
 rw[za];have zb:Ku a s none=(mvS a s).map (·.on):=rfl;rw[zb];generalize mvS a s=P at *;refine Q3 5 70 1 rfl ?_
 simp;repeat(refine s_ ?_;simp)
 refine Qj (Qc (sl':=[(4,.nils),(5,.sl 0 1 0 (0:Nat)),(21,.list (P.map encMv)),(22,.i P.length),(23,.i (0:Nat))]) ?_ (by simp));refine Qi (P:=prog) (F:=λ(u:Nat×Nat×List AObj)=>⟨[(4,.nils),(5,.sl u.2.1 1 0 u.1),(21,.list (P.map encMv)),(22,.i P.length),(23,.i u.1)],u.2.2⟩)
  (λu=>u.1<=P.length/\u.2.2[u.2.1]?=some (.arr 70 1 ((P.take u.1).map λm=>encP m.on))) (λu=>P.length - u.1) ?_ (0,0,_) ⟨xI _,by simp⟩
 rintro⟨j,q,G⟩ ⟨hj,gq⟩ ih;simp only at hj gq ih |-;repeat(refine s_ ?_;simp)
 refine Qb rfl (λzc=>?_) (λzd=>?_)
 ·have z1:j<P.length:=by simpa using zc
  have zo:=wz j (by omega);have ze:(P.take (j+1)).map (λm=>encP m.on)=(P.take j).map (λm=>encP m.on)++[encP P[j].on]:=by rw[zU z1,yR];rfl
  have zf:=λq' G'=>ih (j+1,q',G');simp only[ze]at zf;have z6:(P.map encMv)[j]?=some (encMv P[j]):=by simp[z1]
  have z8:∀hh,(P.map encMv)[j]'hh=encMv P[j]:=λhh=>by simp
  have zg:((P.take j).map λm=>encP m.on).length=j:=by simp;omega
  clear ze;generalize (P.take j).map (λm=>encP m.on)=acc at *
  generalize P[j]=m at *;simp only[encMv]at z6 z8
  repeat(refine s_ ?_;simp[z6,z8,z1])
  refine apS T87 T70 ?_;simp[Qa gq,Qh gq,zg];refine⟨by simp[Wg,Qa gq,Qh gq,zg]<;>omega,?_⟩;repeat(refine s_ ?_;simp[zo])
  refine Qc (sl':=[(4,.nils),(5,.sl (G.length+2) 1 0 (j+1)),(21,.list (P.map encMv)),(22,.i P.length),(23,.i (j+1:Nat))]) ?_ (by simp);refine zf (G.length+2) _ ⟨by omega,?_⟩ (by omega);rw[zH (by simp)];simp[encP]
 have zp:j=P.length:=by simp at zd;omega
 subst zp;rw[yI]at gq;have zq:P.map (λm=>encP m.on)=(P.map (·.on)).map encP:=by rw[List.map_map];rfl
 rw[zq]at gq;repeat(refine s_ ?_;simp[gq])
 refine⟨rfl,?_⟩;rw[zV (by simp)]
end
section
open Go.Maps Go.RowKit
attribute [simp] T25 T35
def k1t(a b:Aut):PC prog 126 [encA a,encA b] (λr=>r= .i (E9 a b)):=by
 refine pcB func126 results126 ntmps126 ?_;simp only[Qf];have cA:=R6 a;have cB:=R6 b;simp only[encA]at cA cB |-;obtain⟨R,hR⟩:∃R,E9 a b=R:=⟨_,rfl⟩
 rw[hR];unfold E9 at hR;have w1:IntKind.i64.wrap 1=1:=by decide
 have w2:IntKind.i64.wrap 2=2:=by decide
 repeat(refine s_ ?_;simp)
 refine Wf 2 (λj=>j=0\/Wo a=0/\(j=1\/Wo b=0)) (λj=>[(2,.vptr 0 0),(3,.vptr 1 0),(10,.sl 2 3 0 2),(11,.i (2:Nat)),(12,.i j)]) (λ_=>[.vars (Qk a),.vars (Qk b),.arr 25 3 [.agg (Qk a),.agg (Qk b)]]) rfl (by simp) (by simp) (by simp) (by simp) (.inl rfl) ?_;intro j hj hI ih;repeat(refine s_ ?_;simp)
 refine Qb rfl (λz8=>?_) (λza=>?_)
 ·have z1:j<2:=by simp at z8;omega
  obtain rfl|rfl:j=0\/j=1:=by omega
  ·repeat(refine s_ ?_;simp)
   refine pcL (cA) ?_;simp;repeat(refine s_ ?_;simp)
   refine Qb rfl (λh=>?_) (λh=>?_)
   ·rw[if_pos (by simpa using h)]at hR;subst hR;repeat(refine s_ ?_;simp)
   repeat(refine s_ ?_;simp[w1])
   refine Wd _ (ih z1 (.inr ⟨by simpa using h,.inl rfl⟩)) rfl (by simp) ?_ (by simp) (by simp);simp
  have h0:Wo a=0:=by rcases hI with h|h;exact absurd h (by decide);exact h.1
  rw[if_neg (by simpa using h0)]at hR;repeat(refine s_ ?_;simp)
  refine pcL (cB) ?_;simp;repeat(refine s_ ?_;simp)
  refine Qb rfl (λh=>?_) (λh=>?_)
  ·rw[if_pos (by simpa using h)]at hR;subst hR;repeat(refine s_ ?_;simp)
  repeat(refine s_ ?_;simp[w2])
  refine Wd _ (ih z1 (.inr ⟨h0,.inr (by simpa using h)⟩)) rfl (by simp) ?_ (by simp) (by simp);simp
 have z6:j=2:=by simp at za;omega
 subst z6;have z7:Wo a=0/\Wo b=0:=by
  rcases hI with h|⟨h1,h2⟩
  ·exact absurd h (by decide)
  exact⟨h1,h2.elim (λh=>absurd h (by decide)) id⟩
 rw[if_neg (by simpa using z7.1),if_neg (by simpa using z7.2)]at hR;repeat(refine s_ ?_;simp)
 refine Qb rfl (λh=>?_) (λh=>?_)
 ·rw[if_pos (by simpa using h)]at hR;subst hR;repeat(refine s_ ?_;simp)
 rw[if_neg (by simpa using h)]at hR;subst hR;repeat(refine s_ ?_;simp)
def v2k(y:Option Sy):Jk y= .tup [.agg [.i (y.getD ⟨0,0⟩).ty,.i (y.getD ⟨0,0⟩).num],.bool y.isSome]:=by cases y<;>rfl
attribute [local irreducible] y0t y1v
attribute [local irreducible] E9
def Bm(a:Aut)(s:Int)(hs:inD a s):PC prog 127 [encA a,.i s] (λr=>r= .bool (y0w a s)):=by
 refine pcB func127 results127 ntmps127 ?_;simp only[Qf];simp only[encA];unfold y0w;by_cases h1:s= -1
 ·subst h1;repeat(refine s_ ?_;simp)
 have hr:inS a s:=hs.resolve_left h1;obtain⟨k,rfl⟩:∃k:Nat,s=k:=⟨s.toNat,(Pu hr).2.symm⟩
 have hk:k<a.fin.length:=by have:=hr.2;omega
 have z1:((k:Int)== -1)=false:=by simp
 have z6:a.fin.getD k false=a.fin[k]:=by simp[yQ,hk]
 repeat(refine s_ ?_;simp[z1,hk])
end
section
def u1w(H:List AObj)(n:Nat)(h0:0<n)(hn:n<=100000):FC prog 234 [.nils,.i n] H
  (λr H'=>r= .sl H.length 1 0 0/\H'=H++[.arr 70 1 []]):=by
 have z6:¬((n:Int)<0):=by omega
 have hw:IntKind.i64.wrap (n:Int)=n:=wrap_i64 _ (by omega) (by omega);refine fcB func234 results234 ntmps234 ?_;simp only[Qf];repeat(refine s_ ?_;simp)
 refine Qb rfl (λh=>?_) (λh=>?_)
 ·simp[z6]at h
 have z1:IntKind.i64.wrap 0=0:=by decide
 repeat(refine s_ ?_;simp[hw])
 refine Rv tOk rfl rfl T87 rfl rfl rfl ?_;simp[hw,z1];repeat(refine s_ ?_;simp[hw,z1])
 refine Qb rfl (λh2=>?_) (λh2=>?_)
 ·repeat(refine s_ ?_;simp[hw,z1])
  refine Rv tOk rfl rfl T87 rfl rfl rfl ?_;simp[hw,z1];refine Yn tOk rfl rfl T87 rfl T3 rfl T70 rfl (by decide) rfl (n:=n) rfl h0 (by simp;omega) (by omega) (.agg [.nils]) rfl rfl ?_;simp;refine Gx H.length 0 (q17 H _ []) ?_;simp;repeat(refine s_ ?_;simp)
 simp at h2;omega
def y1k(H:List AObj):FC prog 234 [.nils,.i 0] H (λr H'=>r= .nils/\H'=H):=by
 refine fcB func234 results234 ntmps234 ?_;simp only[Qf];have z1:IntKind.i64.wrap 0=0:=by decide
 repeat(refine s_ ?_;simp)
 refine Qr rfl ?_;simp;repeat(refine s_ ?_;simp[z1])
 refine Rv tOk rfl rfl T87 rfl rfl rfl ?_;simp[z1];repeat(refine s_ ?_;simp[z1])
 refine Qr rfl ?_;simp;repeat(refine s_ ?_;simp[z1])
def Iu(ls:List (List Prd)):List Prd:=ls.flatten
def G9(ls:List (List Prd))(j:Nat)(h:j<ls.length):Iu (ls.take (j+1))=Iu (ls.take j)++ls[j]:=by unfold Iu;rw[zU h,uI];simp only[List.flatten_cons,List.flatten_nil,xG]
def w0y(ls:List (List Prd))(j:Nat):(Iu (ls.take j)).length<=(Iu ls).length:=by
 conv=>rhs;rw[<-List.take_append_drop j ls,Iu,uI,zW]
 rw[Iu];omega
def Zt(ls:List (List Prd)):Iu (ls.take ls.length)=Iu ls:=by rw[yI]
def Sb:Iu []=[]:=rfl
attribute [local irreducible] Iu
def Lp(ls:List (List Prd))(hl:ls.length<=1000)(ht:(Iu ls).length<=100000):PC prog 194 [.list (ls.map LP)] (λr=>r=LP (Iu ls)):=by
 refine pcB func194 results194 ntmps194 ?_;simp only[Qf];repeat(refine s_ ?_;simp)
 refine Wf ls.length (λ_=>True) (λj=>[(0,.list (ls.map LP)),(3,.i (Iu (ls.take j)).length),(9,.list (ls.map LP)),(10,.i ls.length),(11,.i j)]) (λ_=>[]) rfl (by simp) (by simp[Sb]) (by simp) (by simp) trivial ?_;intro j hj hI ih;repeat(refine s_ ?_;simp)
 refine Qb rfl (λz8=>?_) (λza=>?_)
 ·have z1:j<ls.length:=by simpa using z8
  have hw:=wz j (by omega);have zc:=w0y ls (j+1);have ih:=ih z1 trivial;have z7:(Iu (ls.take (j+1))).length=(Iu (ls.take j)).length+ls[j].length:=by rw[G9 ls j z1,zW]
  generalize (Iu (ls.take (j+1))).length=m at *;generalize (Iu (ls.take j)).length=k at *
  have zd:IntKind.i64.wrap ((k:Int)+ls[j].length)=m:=by rw[wrap_i64 _ (by omega) (by omega)];omega
  repeat(refine s_ ?_;simp[z1,zd])
  refine Qb rfl (λh2=>?_) (λh2=>?_)
  ·simp at h2;omega
  repeat(refine s_ ?_;simp[hw,zd])
  refine Wd _ ih rfl (by simp) ?_ (by simp) (by simp);simp
 have z6:j=ls.length:=by simp at za;omega
 subst z6;clear ih;obtain⟨n,hn⟩:∃n,(Iu ls).length=n:=⟨_,rfl⟩
 rw[Zt,hn];rcases Nat.eq_zero_or_pos n with h0|h0
 ·subst h0;repeat(refine s_ ?_;simp)
  refine Qu rfl rfl (y1k []) rfl ?_;rintro r H' ⟨rfl,rfl⟩;simp;repeat(refine s_ ?_;simp)
  refine Q3 6 70 1 rfl ?_;simp;refine Qj (Qc (sl':=[(6,.sl 0 1 0 (Iu (ls.take 0)).length),(25,.list (ls.map LP)),(26,.i ls.length),(27,.i 0)]) ?_ (by simp[Sb]));refine Qi (F:=λ(u:Nat×Nat×List AObj)=>⟨[(6,.sl u.2.1 1 0 (Iu (ls.take u.1)).length),(25,.list (ls.map LP)),(26,.i ls.length),(27,.i u.1)],u.2.2⟩)
   (λu=>u.1<=ls.length/\u.2.2[u.2.1]?=some (.arr 70 1 ((Iu (ls.take u.1)).map encP))) (λu=>ls.length - u.1) ?_ (0,0,[.arr 70 1 []]) ⟨by simp,by simp[Sb]⟩
  rintro⟨j,q,H2⟩ ⟨hj,g1⟩ ih;simp only at hj g1 ih |-;repeat(refine s_ ?_;simp)
  refine Qb rfl (λz8=>?_) (λza=>?_)
  ·have z1:j<ls.length:=by simpa using z8
   have hw:=wz j (by omega);have zc:=w0y ls (j+1);have hs:=G9 ls j z1;have z7:(Iu (ls.take (j+1))).length=(Iu (ls.take j)).length+ls[j].length:=by rw[hs,zW]
   have zb:=λ(q':Nat) (H':List AObj) (h:H'[q']?=some (.arr 70 1 ((Iu (ls.take j)++ls[j]).map encP)))=>ih (j+1,q',H') ⟨by simp;omega,by rw[hs];exact h⟩ (by simp;omega);clear ih;simp only[hs]at zb;rw[z7]at zc;clear hs z7;generalize Iu (ls.take j)=acc at *
   repeat(refine s_ ?_;simp[z1])
   refine apS T87 T70 ?_;simp[Qa g1,Qh g1,g1];refine⟨by simp[Wg,Qa g1,Qh g1,g1]<;>omega,?_⟩;repeat(refine s_ ?_;simp[hw])
   exact Qc (sl':=[(6,.sl H2.length 1 0 (acc.length+ls[j].length)),(25,.list (ls.map LP)),(26,.i ls.length),(27,.i (j+1:Nat))]) (by
    have:=zb H2.length (H2.set q .dead++[.arr 70 1 ((acc++ls[j]).map encP)]) (by rw[zH (by simp)];simp);simpa using this) (by simp)
  have z6:j=ls.length:=by simp at za;omega
  subst z6;rw[Zt]at g1;rw[yI];repeat(refine s_ ?_;simp[g1])
  rw[zV (by simp)]
 repeat(refine s_ ?_;simp)
 refine Qu rfl rfl (u1w [] n h0 (by omega)) rfl ?_;rintro r H' ⟨rfl,rfl⟩;simp;repeat(refine s_ ?_;simp)
 refine Qj (Qc (sl':=[(6,.sl 0 1 0 (Iu (ls.take 0)).length),(25,.list (ls.map LP)),(26,.i ls.length),(27,.i 0)]) ?_ (by simp[Sb]));refine Qi (F:=λ(u:Nat×Nat×List AObj)=>⟨[(6,.sl u.2.1 1 0 (Iu (ls.take u.1)).length),(25,.list (ls.map LP)),(26,.i ls.length),(27,.i u.1)],u.2.2⟩)
  (λu=>u.1<=ls.length/\u.2.2[u.2.1]?=some (.arr 70 1 ((Iu (ls.take u.1)).map encP))) (λu=>ls.length - u.1) ?_ (0,0,[.arr 70 1 []]) ⟨by simp,by simp[Sb]⟩
 rintro⟨j,q,H2⟩ ⟨hj,g1⟩ ih;simp only at hj g1 ih |-;repeat(refine s_ ?_;simp)
 refine Qb rfl (λz8=>?_) (λza=>?_)
 ·have z1:j<ls.length:=by simpa using z8
  have hw:=wz j (by omega);have zc:=w0y ls (j+1);have hs:=G9 ls j z1;have z7:(Iu (ls.take (j+1))).length=(Iu (ls.take j)).length+ls[j].length:=by rw[hs,zW]
  have zb:=λ(q':Nat) (H':List AObj) (h:H'[q']?=some (.arr 70 1 ((Iu (ls.take j)++ls[j]).map encP)))=>ih (j+1,q',H') ⟨by simp;omega,by rw[hs];exact h⟩ (by simp;omega);clear ih;simp only[hs]at zb;rw[z7]at zc;clear hs z7;generalize Iu (ls.take j)=acc at *
  repeat(refine s_ ?_;simp[z1])
  refine apS T87 T70 ?_;simp[Qa g1,Qh g1,g1];refine⟨by simp[Wg,Qa g1,Qh g1,g1]<;>omega,?_⟩;repeat(refine s_ ?_;simp[hw])
  exact Qc (sl':=[(6,.sl H2.length 1 0 (acc.length+ls[j].length)),(25,.list (ls.map LP)),(26,.i ls.length),(27,.i (j+1:Nat))]) (by
   have:=zb H2.length (H2.set q .dead++[.arr 70 1 ((acc++ls[j]).map encP)]) (by rw[zH (by simp)];simp);simpa using this) (by simp)
 have z6:j=ls.length:=by simp at za;omega
 subst z6;rw[Zt]at g1;rw[yI];repeat(refine s_ ?_;simp[g1])
 rw[zV (by simp)]
end
section
open Go.Maps Go.RowKit
attribute [local irreducible] Wo Sx
end
end Go.Abs
