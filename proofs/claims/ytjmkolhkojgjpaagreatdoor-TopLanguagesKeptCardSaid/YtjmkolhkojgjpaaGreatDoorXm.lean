/- Part Xm of the proof: steps on the way to the last part. No condition. -/
import Derived.Test.YtjmkolhkojgjpaaGreatDoorXl
import Derived.Test.YtjmkolhkojgjpaaGreatDoorXk
import Derived.Test.YtjmkolhkojgjpaaGreatDoorXh
import Derived.Test.YtjmkolhkojgjpaaGreatDoorXb
import Derived.Test.YtjmkolhkojgjpaaGreatDoorXc
import Derived.Lay
import Derived.LaidSub
import Derived.Deep.DeepWitnessRowRef
import Derived.Test.YtjmkolhkojgjpaaGreatDoorCards
import Derived.Test.YtjmkolhkojgjpaaGreatDoorTie
import Derived.Lib.LaidTab
import Derived.Test.YtjmkolhkojgjpaaGreatDoorXe
import Derived.Test.YtjmkolhkojgjpaaGreatDoorXd
import Derived.Shelf.Vars
import Derived.Test.YtjmkolhkojgjpaaGreatDoorXi
set_option linter.all false
open List renaming map_cons->xC,map_nil->wD
set_option linter.unusedSimpArgs false
set_option maxRecDepth 100000
open Go.Proofs.Tryz
namespace Go.Abs
open Go Go.RowKit
section
open Go.Proofs Go.Maps
def y0j(T:Int):∀w:List Sy,Vl T w=0\/Vl T w=6\/Vl T w=2
 |[]=> .inl rfl
 |x::w=>by
  unfold Vl;split
  ·unfold Jd;split
   ·exact .inr (.inl rfl)
   split
   ·exact .inr (.inr rfl)
   rename_i h h2 h3;exact absurd (by unfold Jd;rw[if_neg h2,if_neg h3]) h
  exact y0j T w
def w2s{d:Aut}(h:OkA d):(Sx d).1=0\/(Sx d).1=5:=by unfold Sx;rw[if_neg (λk=>k ((Ud d).2 h))];exact q03 d
attribute [local irreducible] Mu E9 w0p Pr Mw Wv Sx
set_option maxHeartbeats 16000000 in
def K0(a:Aut)(w:List Sy):PC prog 3 [encA a,LSy w] (λr=>r= .bool true):=by
 refine pcB func3 results3 ntmps3 ?_;simp only[Qf];have cV:=N3 a a;simp only[encA]at cV |-;repeat(refine s_ ?_;simp)
 refine pcL (f0j) ?_;simp;refine Qb rfl (λh=>by simp at h) (λ_=>?_);repeat(refine s_ ?_;simp)
 obtain⟨vb,zb⟩:∃vb,(Mu a && Mu a && decide (E9 a a=0))=vb:=⟨_,rfl⟩
 rw[zb]at cV;cases vb with
 |false=>refine pcL (cV) ?_;simp;refine Qb rfl (λ_=>?_) (λh=>by simp at h);repeat ((refine s_ ?_;simp))
 |true=>
 rw[Bool.and_eq_true,decide_eq_true_eq]at zb;obtain⟨ha,_,_⟩:=Sn.1 zb.2;refine pcL (cV) ?_;simp;refine Qb rfl (λh=>?_) (λh=>?_)
 ·repeat(refine s_ ?_;simp)
 have hl:¬10<w.length:=by simp at h;omega
 have cA:=Lu a w;have zh:=y0j a.types w;refine Qn (sl':=[(1,LSy w),(2,.vptr 0 0),(4,.bool false)]) ?_ (by simp);by_cases hw0:Vl a.types w=0
 ·have zc:∀z∈w,Wb a z:=λz hz=>(Am _ _).1 ((Gh w).1 hw0 z hz);rw[w15 ha (by omega) zc]at cA;have cD:=Ex a;have cC:=Ss a;have ed:=q0n ha;have ec:=d0e ha;have em:=w19 ha;have z1:=λd c k m b h1 h2 h3 h4 h5=>x1n (a:=a) (d:=d) (c:=c) (k:=k) (m:=m) (b:=b) ha h1 h2 h3 h4 h5;have z6:=λd h=>Tk (a:=a) (d:=d) ha h;have z7:=λc h=>Cs (a:=a) (c:=c) ha h;obtain⟨⟨e1,d⟩,hD⟩:∃Z,Wv a=Z:=⟨_,rfl⟩
  obtain⟨⟨e2,c⟩,hC⟩:∃Z,Mw a=Z:=⟨_,rfl⟩
  rw[hD]at cD ed;rw[hC]at cC ec;simp only[encA]at cA cD cC ed ec;repeat(refine s_ ?_;simp)
  refine pcL (cA) ?_;simp;repeat(refine s_ ?_;simp)
  refine Qb rfl (λh=>by simp at h) (λ_=>?_);repeat(refine s_ ?_;simp)
  refine pcL (cD) ?_;simp;repeat(refine s_ ?_;simp)
  refine pcL (cC) ?_;simp;by_cases h12:e1=0/\e2=0
  ·obtain⟨rfl,rfl⟩:=h12;obtain⟨Q,_,_,_,_,_,d1,d2,d3,d4⟩:=z6 d hD;obtain⟨c1,c2,c3,c4,c5⟩:=z7 c hC;have cK:=Jn d;have cM:=Fc a;have cB:=Ss c;have cP:=q0u a c ha c1 c4;have ek:=w2s d1;have eb:=d0e c1;obtain⟨⟨e3,k⟩,hK⟩:∃Z,Sx d=Z:=⟨_,rfl⟩
   obtain⟨⟨e4,m⟩,hM⟩:∃Z,Pr a=Z:=⟨_,rfl⟩
   obtain⟨⟨e5,b⟩,hB⟩:∃Z,Mw c=Z:=⟨_,rfl⟩
   rw[hK]at cK ek;rw[hM]at cM em;rw[hB]at cB eb;simp only[encA]at cK cM cB cP ek em eb;refine Qn (sl':=[(1,LSy w),(2,.vptr 0 0),(4,.bool false),(5,.bool (E5 a w)),(6,.i 0),(7,.vptr 1 0),(8,.vptr 2 0),(9,.i 0)]) ?_ (by simp);repeat(refine s_ ?_;simp)
   refine Qb rfl (λh=>by simp at h) (λ_=>?_);repeat(refine s_ ?_;simp)
   refine pcL (cK) ?_;simp;repeat(refine s_ ?_;simp)
   refine pcL (cM) ?_;simp;repeat(refine s_ ?_;simp)
   refine pcL (cB) ?_;simp;repeat(refine s_ ?_;simp)
   refine Vi rfl rfl (by simp) cP rfl ?_;rintro _ (rfl|⟨p,rfl,hp,zi,prs,zd⟩)
   ·simp[Ty,encA];refine Qn (sl':=[(4,.bool false),(6,.i e3),(9,.i e4),(13,.i e5),(15,.i 5)]) ?_ (by simp);have key:∀x2 x3 x4:Int,(x2=0\/x2=5)->(x3=0\/x3=5)->(x4=0\/x4=5)->x2=5\/(x2=0/\x3=5)\/(x2=0/\x3=0/\x4=5)\/(x2=0/\x3=0/\x4=0):=λx2 x3 x4 b c d=>by omega
    have hk:=key _ _ _ ek em eb;clear hK hM hB cK cM cB cP cA z1 z6 z7 ek em eb;rcases hk with h1|⟨h1,h2⟩|⟨h1,h2,h3⟩|⟨h1,h2,h3⟩
    ·subst h1;repeat(refine s_ ?_;simp)
     refine Qb rfl (λ_=>?_) (λh=>by simp at h);repeat(refine s_ ?_;simp)
    ·subst h1 h2;repeat(refine s_ ?_;simp)
     refine Qb rfl (λ_=>?_) (λh=>by simp at h);repeat(refine s_ ?_;simp)
    ·subst h1 h2 h3;repeat(refine s_ ?_;simp)
     refine Qb rfl (λ_=>?_) (λh=>by simp at h);repeat(refine s_ ?_;simp)
    subst h1 h2 h3;repeat(refine s_ ?_;simp)
    refine Qb rfl (λ_=>?_) (λh=>by simp at h);repeat(refine s_ ?_;simp)
   simp[encA];refine Qn (sl':=[(1,LSy w),(2,.vptr 0 0),(4,.bool false),(5,.bool (E5 a w)),(6,.i e3),(7,.vptr 1 0),(8,.vptr 2 0),(9,.i e4),(10,.vptr 3 0),(11,.vptr 4 0),(12,.vptr 5 0),(13,.i e5),(14,.vptr 6 0),(15,.i 0)]) ?_ (by simp);by_cases hz:e3=0/\e4=0/\e5=0
   ·obtain⟨rfl,rfl,rfl⟩:=hz;obtain⟨q1,q2,q3,q4,q5,q6⟩:=z1 d c k m b hD hC hK hM hB;repeat(refine s_ ?_;simp)
    refine Qb rfl (λh=>by simp at h) (λ_=>?_);have zj:List.range 4=[0,1,2,3]:=rfl;repeat(refine s_ ?_;simp[zj])
    refine Ws 7 rfl ?_;simp;have hX:∀x∈[d,k,m,b],w0p x w=(E5 a w,0):=λx hx=>by
     have zk:x=d\/x=k\/x=m\/x=b:=by simpa using hx
     obtain⟨o1,o2,o3⟩:=q1 x zk;rw[w15 o1 (by omega) (λz hz=>(W6 o2).2 (zc z hz)),o3 w zc]
    obtain⟨X,za⟩:∃X,X=[d,k,m,b]:=⟨_,rfl⟩
    have zo:X.length=4:=by rw[za];rfl
    rw[<-za]at hX;refine Qn (sl':=[(1,LSy w),(2,.vptr 0 0),(4,.bool false),(5,.bool (E5 a w)),(10,.vptr 3 0),(11,.vptr 4 0),(12,.vptr 5 0),(14,.vptr 6 0),(119,.list (X.map encA)),(120,.i 4),(121,.i (0:Nat))]) ?_ (by simp[za,encA]);refine Qj (Qc (sl':=[(1,LSy w),(2,.vptr 0 0),(4,.bool false),(5,.bool (E5 a w)),(10,.vptr 3 0),(11,.vptr 4 0),(12,.vptr 5 0),(14,.vptr 6 0),(119,.list (X.map encA)),(120,.i 4),(121,.i (0:Nat))]) ?_ (by simp));refine Qi (P:=prog) (F:=λ(u:Nat×List AObj)=>⟨[(1,LSy w),(2,.vptr 0 0),(4,.bool false),(5,.bool (E5 a w)),(10,.vptr 3 0),(11,.vptr 4 0),(12,.vptr 5 0),(14,.vptr 6 0),(119,.list (X.map encA)),(120,.i 4),(121,.i u.1)],u.2⟩)
     (λu=>u.1<=4/\u.2[3]?=some (.vars (Qk k))/\u.2[4]?=some (.vars (Qk m))/\u.2[5]?=some (.vars (Qk b))/\u.2[6]?=some (.vars (Qk p))) (λu=>4 - u.1) ?_ (0,_) ⟨Nat.zero_le _,rfl,rfl,rfl,rfl⟩
    clear za q1 z1 z6 z7;rintro⟨i,G⟩ ⟨hi,g3,g4,g5,g6⟩ ih;simp only at hi g3 g4 g5 g6 ih |-;repeat(refine s_ ?_;simp)
    refine Qb rfl (λzl=>?_) (λzp=>?_)
    ·have z8:i<X.length:=by simp at zl;omega
     have hw:=wz i (by omega);have hx:=hX _ (List.getElem_mem z8);have ze:(X.map encA)[i]?=some (encA X[i]):=by simp[z8]
     have zf:∀hh,(X.map encA)[i]'hh=encA X[i]:=λhh=>by simp
     generalize X[i]=x at *
     have cX:=Lu x w;rw[hx]at cX;simp only[encA]at ze zf cX;have zm:(i:Int)<4:=by omega
     repeat(refine s_ ?_;simp[ze,zf,zm,z8])
     refine pcL (cX) ?_;simp;repeat(refine s_ ?_;simp)
     refine Qb rfl (λh=>by simp at h) (λ_=>?_);repeat(refine s_ ?_;simp[hw])
     refine Qc (sl':=[(1,LSy w),(2,.vptr 0 0),(4,.bool false),(5,.bool (E5 a w)),(10,.vptr 3 0),(11,.vptr 4 0),(12,.vptr 5 0),(14,.vptr 6 0),(119,.list (X.map encA)),(120,.i 4),(121,.i (i+1:Nat))]) ?_ (by simp);exact ih (i+1,_) ⟨by simp only;omega,Qa g3 _,Qa g4 _,Qa g5 _,Qa g6 _⟩ (by simp only;omega)
    have zn:¬alive p 0:=q1j λv hv=>by
     have zg:∀z∈v,Wb a z:=λz hz=>(W6 zi).1 (hv z hz);by_cases h:E5 p v=true
     ·obtain⟨h1,h2⟩:=zd.lang ha c1 hp zg h;rw[c5 v zg,h1]at h2;cases h2
     simpa using h
    have cE:=f0e p hp zn;simp only[encA]at cE;have zq:decide ((m.fin.length:Int)<=k.fin.length)=true:=by simpa using q2
    have zr:decide ((m.fin.length:Int)<=b.fin.length)=true:=by simpa using q3
    repeat(refine s_ ?_;simp[g6])
    refine pcL (cE) ?_;simp[g3,g4,g5];repeat(refine s_ ?_;simp[g3,g4,g5,q2,q3])
   have key:∀x2 x3 x4:Int,(x2=0\/x2=5)->(x3=0\/x3=5)->(x4=0\/x4=5)->¬(x2=0/\x3=0/\x4=0)->x2=5\/(x2=0/\x3=5)\/(x2=0/\x3=0/\x4=5):=λx2 x3 x4 b c d e=>by omega
   have hk:=key _ _ _ ek em eb hz;refine Qn (sl':=[(4,.bool false),(6,.i e3),(9,.i e4),(13,.i e5),(15,.i 0)]) ?_ (by simp);clear hK hM hB cK cM cB cP cA z1 z6 z7 ek em eb hz;rcases hk with h1|⟨h1,h2⟩|⟨h1,h2,h3⟩
   ·subst h1;repeat(refine s_ ?_;simp)
    refine Qb rfl (λ_=>?_) (λh=>by simp at h);repeat(refine s_ ?_;simp)
   ·subst h1 h2;repeat(refine s_ ?_;simp)
    refine Qb rfl (λ_=>?_) (λh=>by simp at h);repeat(refine s_ ?_;simp)
   subst h1 h2 h3;repeat(refine s_ ?_;simp)
   refine Qb rfl (λ_=>?_) (λh=>by simp at h);repeat(refine s_ ?_;simp)
  refine Qn (sl':=[(4,.bool false),(6,.i e1),(9,.i e2)]) ?_ (by simp);have hk:(e1=5/\e2=0)\/(e1=0/\e2=5)\/(e1=5/\e2=5):=by omega
  clear hD hC cA z1 z6 z7;rcases hk with⟨h1,h2⟩|⟨h1,h2⟩|⟨h1,h2⟩
  ·subst h1 h2;repeat(refine s_ ?_;simp)
   refine Qb rfl (λ_=>?_) (λh=>by simp at h);repeat(refine s_ ?_;simp)
  ·subst h1 h2;repeat(refine s_ ?_;simp)
   refine Qb rfl (λ_=>?_) (λh=>by simp at h);repeat(refine s_ ?_;simp)
  subst h1 h2;repeat(refine s_ ?_;simp)
  refine Qb rfl (λ_=>?_) (λh=>by simp at h);repeat(refine s_ ?_;simp)
 have hE:j0g a w=Vl a.types w:=by unfold j0g;rw[(Ud a).2 ha,if_neg (by simp),if_neg (by omega)]
 have hF:w0p a w=(false,Vl a.types w):=by unfold w0p;rw[hE,if_pos hw0]
 rw[hF]at cA;simp only[encA]at cA;repeat(refine s_ ?_;simp)
 refine pcL (cA) ?_;simp;refine Qn (sl':=[(4,.bool false),(6,.i (Vl a.types w))]) ?_ (by simp);generalize Vl a.types w=e at *
 rcases zh with h|h|h
 ·exact absurd h hw0
 ·subst h;repeat(refine s_ ?_;simp)
  refine Qb rfl (λ_=>?_) (λh=>by simp at h);repeat(refine s_ ?_;simp)
 subst h;repeat(refine s_ ?_;simp)
 refine Qb rfl (λ_=>?_) (λh=>by simp at h);repeat(refine s_ ?_;simp)
end
section
open Go.Proofs Go.Proofs.YtjmkolhkojgjpaaGreatDoor
def laidOut:laidOutB prog=true:=by kernel_rfl
def own:ownKnob prog.godebug=none:=by kernel_rfl
def Dj{α:Type}{g:α->AV}{Q:α->Prop}:∀xs:List AV,(∀x∈xs,∃a,x=g a/\Q a)->∃l:List α,xs=l.map g/\∀a∈l,Q a
 |[],_=>⟨[],rfl,by simp⟩
 |x::xs,h=>by obtain⟨a,rfl,ha⟩:=h x (by simp);obtain⟨l,rfl,hl⟩:=Dj xs (λy hy=>h y (by simp[hy]));exact⟨a::l,rfl,by simpa using⟨ha,hl⟩⟩
def c0q{d:Nat}{zs:List AV}(h:Shp T (d+1) 3 zs):∃n:Int,zs=[.i n]/\ -9223372036854775808<=n/\n<=9223372036854775807:=by simp only[Shp,T3,Ba]at h;obtain⟨n,rfl,h1,h2⟩:=h;exact⟨n,rfl,h1,h2⟩
def q22{d:Nat}{zs:List AV}(h:Shp T (d+1) 4 zs):∃b:Bool,zs=[.bool b]:=by simp only[Shp,T4,Ba]at h;exact h
def w2m{d:Nat}{xs:List AV}(h:U0 T d [] xs):xs=[]:=h
def u25 {l:List (String×DataW Unit)} {w:World} {name:String} {k:IntKind} {zs:List Int} {g:Nat} {t e:TypeId} {n:Nat} (h:laidMetH prog l w) (hl:l.filter (λx=>x.1==name)=[(name,Lib.tabData k zs)])
  (hg:prog.globalNamed name=some g) (z1:(prog.globals[g]?).map (·.type)=some t) (ht:prog.underlying t=some (.array n e)) (he:prog.underlying e=some (.int k)) (z6:prog.cellsOf e=1) (z7:prog.cellsOf t=n):
  g<w.heap.size/\∃t fr,w.heap[g]?=some (.cells (zs.map λz=>Value.int k z).toArray t fr):=by
 have h1:=h.filter (λx=>x.1==name);rw[hl]at h1;have h2:Lib.TabIs prog w name k zs:=Lib.tabIs_of_head hg z1 ht he z6 z7 h1;unfold Lib.TabIs World.var? at h2;rw[hg]at h2;simp only[Option.bind_some]at h2;cases ho:w.heap[g]? with
 |none=>rw[ho]at h2;simp at h2
 |some o=>rw[ho]at h2;refine⟨(Array.getElem?_eq_some_iff.1 ho).1,?_⟩;cases o<;>simp at h2;rename_i cs t fr;exact⟨t,fr,by rw[h2]⟩
end
section
open Go.Proofs Go.Proofs.YtjmkolhkojgjpaaGreatDoor
def g2t{d:Nat}{zs:List AV}(h:Shp T (d+2) 144 zs):∃v:Iv,zs=(encIv v).cells:=by simp only[Shp,Kz,T3,Ba,f1p,xC,wD]at h;obtain⟨_,_,rfl,⟨a,rfl,ha⟩,_,_,rfl,⟨b,rfl,hb⟩,rfl⟩:=h;exact⟨⟨a,b⟩,rfl⟩
def k27{d:Nat}{zs:List AV}(h:Shp T (d+3) 145 zs):∃l:List Iv,zs=[encL l]:=by
 rw[Shp,P3]at h;simp only[Ba]at h;obtain⟨ei,xs,he,rfl,hl,hx⟩:=h;rw[Kz]at he;cases he;obtain⟨l,rfl,hq⟩:=Dj (g:=encIv) (Q:=λ_=>True) xs (λx z1=>by
  obtain⟨zs,rfl,hz⟩:=hx x z1;obtain⟨v,rfl⟩:=g2t (d:=d) hz;exact⟨v,rfl,trivial⟩)
 exact⟨l,rfl⟩
def u2t{d:Nat}{zs:List AV}(h:Shp T (d+4) 68 zs):∃p:Prd,zs=[.list (p.map encL)]:=by
 rw[Shp,T68]at h;simp only[Ba]at h;obtain⟨ei,xs,he,rfl,hl,hx⟩:=h;rw[P3]at he;cases he;obtain⟨l,rfl,hq⟩:=Dj (g:=encL) (Q:=λ_=>True) xs (λx z1=>by
  obtain⟨zs,rfl,hz⟩:=hx x z1;obtain⟨v,rfl⟩:=k27 (d:=d) hz;exact⟨v,rfl,trivial⟩)
 exact⟨l,rfl⟩
def u2r{d:Nat}{zs:List AV}(h:Shp T (d+5) 70 zs):∃p:Prd,zs=[.list (p.map encL)]:=by rw[Shp,T70]at h;simp only[Ba,f1p,xC,wD]at h;obtain⟨_,_,rfl,h1,rfl⟩:=h;obtain⟨p,rfl⟩:=u2t (d:=d) h1;exact⟨p,rfl⟩
def v2g{d:Nat}{zs:List AV}(h:Shp T (d+6) 73 zs):∃m:Mv,zs=(encMv m).cells:=by rw[Shp,T73]at h;simp only[Ba,f1p,xC,wD]at h;obtain⟨_,_,rfl,h1,_,_,rfl,h2,_,_,rfl,h3,rfl⟩:=h;obtain⟨a,rfl,_⟩:=c0q (d:=d+4) h1;obtain⟨b,rfl,_⟩:=c0q (d:=d+4) h2;obtain⟨p,rfl⟩:=u2r (d:=d) h3;exact⟨⟨a,b,p⟩,rfl⟩
def z2g{d:Nat}{zs:List AV}(h:Shp T (d+7) 23 zs):∃l:List Mv,zs=[.list (l.map encMv)]:=by
 rw[Shp,T23]at h;simp only[Ba]at h;obtain⟨ei,xs,he,rfl,hl,hx⟩:=h;rw[T73]at he;cases he;obtain⟨l,rfl,hq⟩:=Dj (g:=encMv) (Q:=λ_=>True) xs (λx z1=>by
  obtain⟨zs,rfl,hz⟩:=hx x z1;obtain⟨v,rfl⟩:=v2g (d:=d) hz;exact⟨v,rfl,trivial⟩)
 exact⟨l,rfl⟩
def y2e{d:Nat}{zs:List AV}(h:Shp T (d+2) 22 zs):∃l:List Bool,zs=[.list (l.map .bool)]:=by
 rw[Shp,T22]at h;simp only[Ba]at h;obtain⟨ei,xs,he,rfl,hl,hx⟩:=h;rw[T4]at he;cases he;obtain⟨l,rfl,hq⟩:=Dj (g:=AV.bool) (Q:=λ_=>True) xs (λx z1=>by
  obtain⟨zs,rfl,hz⟩:=hx x z1;obtain⟨v,rfl⟩:=q22 (d:=d) hz;exact⟨v,rfl,trivial⟩)
 exact⟨l,rfl⟩
def k21{d:Nat}{zs:List AV}(h:Shp T (d+8) 25 zs):∃a:Aut,zs=(encA a).cells:=by rw[Shp,T25]at h;simp only[Ba,f1p,xC,wD]at h;obtain⟨_,_,rfl,h1,_,_,rfl,h2,_,_,rfl,h3,rfl⟩:=h;obtain⟨t,rfl,_⟩:=c0q (d:=d+6) h1;obtain⟨f,rfl⟩:=y2e (d:=d+5) h2;obtain⟨m,rfl⟩:=z2g (d:=d) h3;exact⟨⟨t,f,m⟩,rfl⟩
def v2o{d:Nat}{ts:List Nat}{xs:List AV}(h:U0 T (d+8) (25::ts) xs):∃(a:Aut) (r:List AV),xs=encA a::r/\U0 T (d+8) ts r:=by obtain⟨i,zs,r,hi,rfl,h1,h⟩:=h;rw[T25]at hi;cases hi;obtain⟨a,rfl⟩:=k21 (d:=d) h1;exact⟨a,r,rfl,h⟩
def g2p{d:Nat}{zs:List AV}(h:Shp T (d+2) 52 zs):∃x:Sy,zs=(encSy x).cells:=by simp only[Shp,T52,T3,Ba,f1p,xC,wD]at h;obtain⟨_,_,rfl,⟨a,rfl,ha⟩,_,_,rfl,⟨b,rfl,hb⟩,rfl⟩:=h;exact⟨⟨a,b⟩,rfl⟩
def v2d {l:List (String×DataW Unit)} {w:World} (h:laidMetH prog l w) (hl:l.filter (λx=>x.1== "internal/strconv.uint64pow10")=[("internal/strconv.uint64pow10",Lib.tabData .u64 Lib.pow10Tab)]):EOK prog w (·<w.heap.size):=λg pr hm=>by
 have e:=List.mem_singleton.1 hm
 cases e
 obtain⟨h1,t,fr,h2⟩:=u25 (t:=355) (e:=258) (n:=20) h hl (by kernel_rfl) (by kernel_rfl) (by kernel_rfl) (by kernel_rfl) (by kernel_rfl) (by kernel_rfl)
 exact⟨h1,_,t,fr,rfl,h2⟩
end
section
open Go.Proofs.YtjmkolhkojgjpaaGreatDoor
end
section
open Go.Proofs.YtjmkolhkojgjpaaGreatDoor
def j2t{d:Nat}{zs:List AV}(h:Shp T (d+3) 26 zs):∃w:List Sy,zs=[.list (w.map encSy)]:=by
 rw[Shp,T26]at h;simp only[Ba]at h;obtain⟨ei,xs,he,rfl,hl,hx⟩:=h;rw[T52]at he;cases he;obtain⟨l,rfl,hq⟩:=Dj (g:=encSy) (Q:=λ_=>True) xs (λx z1=>by
  obtain⟨zs,rfl,hz⟩:=hx x z1;obtain⟨v,rfl⟩:=g2p (d:=d) hz;exact⟨v,rfl,trivial⟩)
 exact⟨l,rfl⟩
def q2i{d:Nat}{ts:List Nat}{xs:List AV}(h:U0 T (d+3) (26::ts) xs):∃(w:List Sy) (r:List AV),xs=LSy w::r/\U0 T (d+3) ts r:=by obtain⟨i,zs,r,hi,rfl,h1,h⟩:=h;have h0:=hi;obtain⟨w,rfl⟩:=j2t (d:=d) h1;rw[T26]at hi;cases hi;exact⟨w,r,rfl,h⟩
end
end Go.Abs
