/- Part Yh of the proof: steps on the way to the last part. No condition. -/
import Derived.Test.YtdcnaocpompcpaaGreatDoorYk
import Derived.Test.YtdcnaocpompcpaaGreatDoorYg
import Derived.Test.YtdcnaocpompcpaaGreatDoorYd
import Derived.Test.YtdcnaocpompcpaaGreatDoorYe
import Derived.Test.YtdcnaocpompcpaaGreatDoorYf
import Derived.Test.YtdcnaocpompcpaaGreatDoorYb
import Derived.Test.YtdcnaocpompcpaaGreatDoorYc
import Derived.Lay
import Derived.LaidSub
import Derived.Deep.DeepWitnessRowRef
import Derived.Test.YtdcnaocpompcpaaGreatDoorCards
import Derived.Test.YtdcnaocpompcpaaGreatDoorTie
import Derived.Lib.LaidTab
import Derived.Shelf.Vars
set_option linter.all false
open List renaming length_append->zK,mem_singleton->yU,mem_map->xd,mem_of_getElem?->zE,getElem?_eq_getElem->zH,getElem?_eq_some_iff->zD,map_nil->yK,getElem?_map->zY,getElem_eq_iff->yJ,getElem?_append_right->zF,drop_zero->xl,length_cons->yG,mem_cons->yZ
open Nat renaming le_trans->yy,zero_add->yO,zero_le->yL
open Int renaming le_refl->wj,eq_ofNat_of_zero_le->xF
open Option renaming bind_some->wc
open Array renaming getElem?_eq_some_iff->x9
set_option maxHeartbeats 16000000
set_option linter.unusedSimpArgs false
set_option maxRecDepth 100000
open Go.Proofs.Tryz
namespace Go.Abs
open Go
section
open Go.Proofs
def f0c:Trk:=⟨0,[],[],0⟩
def rdJ(v:Int):Rdr:=⟨0,v,f0c⟩
def opJ(m:Int):Opr:=⟨[m],[]⟩
def snJ(n v:Int)(ms:List Int):Snp:=⟨n,[rdJ v],ms.map opJ⟩
def k00(ms:List Int):Wj Pf (ms.map opJ)=0:=by
 induction ms with
 |nil=>rfl
 |cons m ms ih=>rw[List.map_cons,Wj,ih];rfl
def j06(n v:Int){ms:List Int}(h:ms.length<=3):Ih (snJ n v ms)=0:=by
 have h1:R7 Pf (ms.map opJ)=0:=by rw[R7,if_neg (by simp;omega),k00]
 have h2:R7 Si [rdJ v]=0:=rfl;show orE (R7 Si [rdJ v]) (R7 Pf (ms.map opJ))=0;rw[h1,h2];rfl
def v0i(n v:Int){ms:List Int}(h:ms.length<=3):(W5 (snJ n v ms)).length<=200:=by
 have a:=Pd n;have a0:=Pd 0;have h1:(Rn Ws ([]:List Int)).length<=10+0 * 10:=Oq (by simp) (by simp);have h2:(Rn I9 ([]:List Pnt)).length<=10+0 * 10:=Oq (by simp) (by simp);have h3:(Rn Ig ([]:List Kyd)).length<=10+0 * 10:=Oq (by simp) (by simp);have ht:(Gp f0c).length<=40:=by simp only[Gp,f0c,zK];omega
 have hr:(Rn Uo [rdJ v]).length<=10+1 * 60:=Oq (by simp) (λr hr=>by
  rw[yU.1 hr];have:=Pd v;simp only[Uo,rdJ,zK];omega)
 have ho:(Rn Ur (ms.map opJ)).length<=10+3 * 30:=Oq (by simpa using h) (λo ho=>by
  obtain⟨m,_,rfl⟩:=xd.1 ho;have h4:(Rn Ws [m]).length<=10+1 * 10:=Oq (by simp) (λx _=>Pd x);simp only[Ur,opJ,zK];omega)
 simp only[W5,snJ,zK];omega
def JS(m:Int)(s:Snp):Prop:=∃v ms,s=snJ m v ms/\i64 m/\i64 v/\ms.length<=3/\∀x∈ms,i64 x
def Kh:i64 0:=by unfold i64;omega
def JS.enc{m:Int}{s:Snp}(h:JS m s):(Qy s).2=0/\(Qy s).1.length<=600/\(W5 s).length<=900000000:=by
 obtain⟨v,ms,rfl,h1,h2,h3,h4⟩:=h;have hl:=v0i m v h3;have he:Qy (snJ m v ms)=(Fu (W5 (snJ m v ms)),0):=by rw[Qy,if_neg (by rw[j06 m v h3];simp),if_neg (by omega)]
 rw[he];refine⟨rfl,?_,by omega⟩;simp[Fu,X4];omega
def JS.num{m:Int}{s:Snp}(h:JS m s):s.number=m:=by obtain⟨v,ms,rfl,_⟩:=h;rfl
def JS.i{m:Int}{s:Snp}(h:JS m s):y1g s:=by
 obtain⟨v,ms,rfl,h1,h2,h3,h4⟩:=h;refine⟨h1,λr hr=>?_,λo ho=>?_⟩
 ·rw[yU.1 hr];exact⟨Kh,h2,Kh,by simp[rdJ,f0c],by simp[rdJ,f0c],Kh⟩
 obtain⟨x,hx,rfl⟩:=xd.1 ho;exact⟨λn hn=>by rw[yU.1 hn];exact h4 x hx,by simp[opJ]⟩
def JS.j{m:Int}{s:Snp}(h:JS m s):v0c s:=by
 have hi:=h.i;obtain⟨v,ms,rfl,h1,h2,h3,h4⟩:=h;refine⟨h1,⟨by simp[snJ],λr hr=>⟨hi.2.1 r hr,?_⟩⟩,by simp[snJ];omega,λo ho=>?_⟩
 ·rw[yU.1 hr];simp[rdJ,f0c]
 obtain⟨x,hx,rfl⟩:=xd.1 ho;exact⟨⟨by simp[opJ],λn hn=>by rw[yU.1 hn];exact h4 x hx⟩,by simp[opJ],by simp[opJ]⟩
attribute [local irreducible] Rp Wc Qy
def Small(fs:List File):Prop:=∀f∈fs,f.dur.length<=600/\f.vol.length<=600
def Small.bd{fs:List File}(h:Small fs):BD fs:=λf hf=>⟨by have:=(h f hf).1;omega,by have:=(h f hf).2;omega⟩
def Small.put{fs:List File}(h:Small fs){f:File}(h1:f.dur.length<=600)(h2:f.vol.length<=600):Small (T6 fs f):=λg hg=>by
 rcases T8 hg with rfl|hg
 ·exact⟨h1,h2⟩
 exact h g hg
def Small.sums{fs:List File}(h:Small fs)(hl:fs.length<=100):¬(65536:Int)<W (Ay fs)/\¬(65536:Int)<W (A3 fs):=by
 have hv:Ay fs<=100 * 600:=I8 fs _ 600 100 hl (λf hf=>(h f hf).2);have hd:A3 fs<=100 * 600:=I8 fs _ 600 100 hl (λf hf=>(h f hf).1);constructor
 ·rw[W,wrap_i64 _ (by omega) (by omega)];omega
 rw[W,wrap_i64 _ (by omega) (by omega)];omega
def Lq{fs:List File}(h:Small fs)(hl:fs.length<=100):Lu ⟨fs,65536⟩=(⟨fs,65536⟩,0):=by obtain⟨h1,h2⟩:=h.sums hl;rw[Lu,if_neg (by simp only;omega),if_neg];simp only[Fs,Bool.or_eq_true,decide_eq_true_eq,not_or];exact⟨h1,h2⟩
structure Rm (d:Disk) (k:Nat):Prop where
 good:Good d
 sp:d.space=65536
 len:d.files.length<=k
 small:Small d.files
def Rm.le{d:Disk}{k l:Nat}(h:Rm d k)(hl:k<=l):Rm d l:=⟨h.good,h.sp,yy h.len hl,h.small⟩
def Ba{d:Disk}{k:Nat}(h:Rm d k)(hk:k<100){m:Int}{s:Snp}(hs:JS m s)(hv:W6 m=0):
  ∃f:File,f.name=W2 m/\Tq d s=(⟨T6 d.files f,65536⟩,0)/\Rm ⟨T6 d.files f,65536⟩ (k+1):=by
 obtain⟨e1,e2,_⟩:=hs.enc;obtain⟨fs,sp⟩:=d;obtain⟨hg,rfl,hlen,z8⟩:=h;simp only at hlen z8;have hn:=hs.num;have z1:(Kn ⟨fs,65536⟩ (W2 s.number)).dur.length<=600:=Vy (λf hf=>(z8 f hf).1) _;have ze:=Ys fs { Kn ⟨fs,65536⟩ (W2 s.number)with vol:=(Qy s).1 };have za:Small (T6 fs { Kn ⟨fs,65536⟩ (W2 s.number)with vol:=(Qy s).1 }):=z8.put z1 e2;have zb:(T6 fs { Kn ⟨fs,65536⟩ (W2 s.number)with vol:=(Qy s).1 }).length<=100:=by omega
 have zc:(Tq ⟨fs,65536⟩ s).2=0:=by
  have zd:(Wq ⟨fs,65536⟩ (W2 s.number) (wrG (Qy s).1))=(⟨T6 fs { Kn ⟨fs,65536⟩ (W2 s.number)with vol:=(Qy s).1 },65536⟩,0):=by rw[Fg,Yy (Ri.2 hg),if_pos (v07 (by rw[hn];exact hv)),if_pos rfl,Pe hg.sorted];exact Lq za zb
  have hw:wrS s ⟨fs,65536⟩=(⟨T6 fs { Kn ⟨fs,65536⟩ (W2 s.number)with vol:=(Qy s).1 },65536⟩,0):=by rw[wrS,if_neg (by rw[hn];exact λh=>h hv),if_neg (λh=>h e1),zd]
  unfold Tq Ty;rw[if_neg (λh=>h (Ri.2 hg))];show(if(wrS s ⟨fs,65536⟩).2≠0 then(Eb,(wrS s ⟨fs,65536⟩).2)else((wrS s ⟨fs,65536⟩).1,0)).2=0;rw[hw];rfl
 obtain⟨_,_,f,k1,k2,k3,k4,k5⟩:=An hg zc;rw[hn]at k1;refine⟨f,k1,k4,k5,rfl,?_,z8.put ?_ ?_⟩
 ·have:=Ys fs f;simp only;omega
 ·rw[k3];exact z1
 rw[k2];exact e2
def x0b{a:Disk}{k:Nat}(h:Rm a k)(hk:k<=100){n:Int}(hv:W6 n=0){f:File}(hf:f∈a.files)(hn:f.name=W2 n):(Ij a n).2=0:=by
 obtain⟨fs,sp⟩:=a;obtain⟨hg,rfl,hlen,z1⟩:=h;simp only at hlen z1 hf;have hc:=Ri.2 hg;obtain⟨fn,fd,fv⟩:=f;obtain rfl:fn=W2 n:=hn;unfold Ij Ty;rw[if_neg (λh=>h hc)];simp only[j0u,q0g];rw[if_neg (λh=>h hv)];have hs:=Z2 hg hf;rcases hs with h1|⟨h1,h2,h3⟩
 ·exfalso;obtain⟨i,za,hi,z8⟩:=Uq hg.sorted hf;simp only at hi z8 za;rw[Tp,Yy hc,if_pos (hg.names _ hf),if_pos rfl]at h1;simp only at h1;rw[z8]at h1;simp only at h1;have zb:Small (Gf fs i):=by
   rw[Gf,hi];intro g hg;rcases List.mem_or_eq_of_mem_set hg with h|rfl
   ·exact z1 g h
   exact⟨(z1 _ hf).2,(z1 _ hf).2⟩
  have ze:(Gf fs i).length=fs.length:=by rw[Gf,hi];simp
  rw[g0q,if_neg (zb.sums (by omega)).2]at h1;cases h1
 rw[if_neg (by rw[h1];decide),h2];have hm:(⟨W2 n,fv,fv⟩:File)∈T6 fs ⟨W2 n,fv,fv⟩:=zE (Um fs ⟨W2 n,fv,fv⟩);have zc:BD (T6 fs ⟨W2 n,fv,fv⟩):=F2 z1.bd ⟨(z1.bd _ hf).2,(z1.bd _ hf).2⟩;obtain⟨r1,r2⟩:=Du h3 zc hm (V9 hv) (Lc n n);have zd:Rk ⟨T6 fs ⟨W2 n,fv,fv⟩,65536⟩ (W2 n) (Rl n)=_:=r1;simp only;rw[zd];rfl
def d08{d:Disk}{k:Nat}(h:Rm d k)(hk:k<100){m:Int}{s:Snp}(hs:JS m s)(hv:W6 m=0):
  ∃x:Disk,Au d s=(x,0)/\Rm x (k+1)/\ckF s∈x.files/\(∀z∈d.files,z.name≠W2 m->z.name≠Rl m->z∈x.files)/\
   (∀z∈x.files,z=ckF s\/z∈d.files):=by
 obtain⟨e1,e2,_⟩:=hs.enc;have hn:=hs.num;obtain⟨f,k1,k2,k3⟩:=Ba h hk hs hv;have z1:(Au d s).2=0:=by
  rcases Hw (s:=s) h.good with⟨h1,h2⟩|⟨h1,h2⟩
  ·rw[k2]at h1;exact absurd rfl h1
  rw[h2,k2,hn];exact x0b k3 (by omega) hv (zE (Um d.files f)) k1
 obtain⟨_,_,x,q1,q2,q3,q4,q5,q6,q7,q8⟩:=q03 h.good h.small.bd (by omega) z1;rw[hn]at q5 q6 q7;refine⟨x,q1,⟨q2,by rw[q4];exact h.sp,by have:=h.len;omega,λz hz=>?_⟩,by rw[ckF,hn];exact q5,q6,λz hz=>?_⟩
 ·rcases q7 z hz with rfl|⟨h1,_⟩
  ·exact⟨e2,e2⟩
  exact h.small z h1
 rcases q7 z hz with rfl|⟨h1,_⟩
 ·left;rw[ckF,hn]
 exact .inr h1
def x04{d:Disk}{k:Nat}(h:Rm d k)(hk:k<=100)(cs:List Int):
  ∃x:Disk,(Tf d cs).1=x/\(Tf d cs).2.2=0/\Rm x k/\(∀z∈d.files,z.dur=z.vol->z∈x.files)/\∀y∈x.files,∃z∈d.files,y.name=z.name/\(z.dur=z.vol->y=z):=by
 obtain⟨fs,sp⟩:=d;obtain⟨hg,rfl,hlen,ze⟩:=h;simp only at hlen ze;have zb:=Oe fs cs;have zc:∀i (hi:i<fs.length),∃z1,(W8 fs cs).1[i]?=some (⟨fs[i].name,(Ez fs[i] z1).1,(Ez fs[i] z1).1⟩:File):=λi hi=>by obtain⟨z1,hc⟩:=A1 fs [] cs i _ (zH hi);simp only[List.length_nil,yO]at hc;exact⟨z1,hc⟩
 have z8:∀y∈(W8 fs cs).1,∃z∈fs,∃z1,y=(⟨z.name,(Ez z z1).1,(Ez z z1).1⟩:File):=λy hy=>by
  obtain⟨i,hi⟩:=List.mem_iff_getElem?.1 hy;have zf:i<fs.length:=by rw[<-zb];exact(zD.1 hi).1
  obtain⟨z1,hc⟩:=zc i zf;rw[hi]at hc;exact⟨fs[i],List.getElem_mem zf,z1,Option.some.inj hc⟩
 have zd:Small (W8 fs cs).1:=λy hy=>by
  obtain⟨z,hz,z1,rfl⟩:=z8 y hy;have zg:=ze z hz;have:(Ez z z1).1.length<=600:=by
   rcases(Uk z z1).1 with h|h
   ·rw[h];exact zg.1
   rw[List.isPrefixOf_iff_prefix]at h;exact yy h.length_le zg.2
  exact⟨this,this⟩
 rcases Bk hg cs with h1|⟨h1,h2,_,h4⟩
 ·exfalso;rw[Tf,if_pos (Ri.2 hg)]at h1;simp only at h1;rw[Lq zd (by omega)]at h1;simp at h1
 simp only at h2 h4;refine⟨_,h2,h1,⟨h4,rfl,by simp only;omega,zd⟩,λz hz za=>?_,λy hy=>?_⟩
 ·obtain⟨i,hi,rfl⟩:=List.getElem_of_mem hz;obtain⟨z1,hc⟩:=zc i hi;have:=(Uk fs[i] z1).2 za;refine zE (i:=i) ?_;rw[hc,this]
  congr 1
  cases hfi:fs[i];rw[hfi]at za;simp only at za;subst za;rfl
 obtain⟨z,hz,z1,rfl⟩:=z8 y hy;refine⟨z,hz,rfl,λza=>?_⟩;have:=(Uk z z1).2 za;rw[this];obtain⟨a,b,c⟩:=z;simp only at za;subst za;rfl
end
section
open Go.Proofs
attribute [local irreducible] Rp Wc Qy
structure DJ (d:Disk) (k:Nat) (D:Int) (σ:Int->Snp):Prop where
 rm:Rm d k
 top:D<=1000
 js:∀m,1<=m->m<=D->JS m (σ m)
 has:∀m,1<=m->m<=D->ckF (σ m)∈d.files
 all:∀x∈d.files,(∃m,1<=m/\m<=D/\x=ckF (σ m))\/∃m,x.name=W2 m
def S7{m:Int}{s:Snp}(h:JS m s):(ckF s).name=Rl m:=by rw[ckF,h.num]
def Ae{m:Int}(h1:1<=m)(h2:m<=1000):W6 m=0:=(Tr m).2 ⟨h1,by omega⟩
def sig(σ:Int->Snp)(n:Int)(s:Snp):Int->Snp:=λm=>if m=n then s else σ m
def Dl(σ:Int->Snp)(n:Int)(s:Snp):sig σ n s n=s:=if_pos rfl
def w0d{σ:Int->Snp}{n m:Int}(s:Snp)(h:m≠n):sig σ n s m=σ m:=if_neg h
def DJ.begin(k:Nat)(σ:Int->Snp):DJ ⟨[],65536⟩ k 0 σ:=
 ⟨⟨⟨rfl,by simp,List.Pairwise.nil,by simp,by decide,by decide⟩,rfl,by simp,by simp[Small]⟩,by omega,λm h1 h2=>by omega,λm h1 h2=>by omega,λx hx=>by simp at hx⟩
def DJ.le{d:Disk}{k l:Nat}{D:Int}{σ:Int->Snp}(h:DJ d k D σ)(hl:k<=l):DJ d l D σ:=⟨h.rm.le hl,h.top,h.js,h.has,h.all⟩
def DJ.write{d:Disk}{k:Nat}{D:Int}{σ:Int->Snp}(h:DJ d k D σ)(hk:k<100){n:Int}{s:Snp}(hs:JS n s)(h1:1<=n)(h2:n<=1000):
  ∃x,Tq d s=(x,0)/\DJ x (k+1) D σ:=by
 obtain⟨f,e1,e2,e3⟩:=Ba h.rm hk hs (Ae h1 h2);refine⟨_,e2,e3,h.top,h.js,λm m1 m2=>Dj (h.has m m1 m2) (by rw[S7 (h.js m m1 m2),e1];exact λh=>Lc _ _ h.symm),λx hx=>?_⟩;rcases T8 hx with rfl|hx
 ·exact .inr ⟨_,e1⟩
 exact h.all x hx
def DJ.save{d:Disk}{k:Nat}{D:Int}{σ:Int->Snp}(h:DJ d k D σ)(hk:k<100){s:Snp}(hs:JS (D+1) s)(hD:0<=D)(h2:D+1<=1000):
  ∃x,Au d s=(x,0)/\DJ x (k+1) (D+1) (sig σ (D+1) s):=by
 have hv:=Ae (m:=D+1) (by omega) h2;obtain⟨x,e1,e2,e3,e4,e5⟩:=d08 h.rm hk hs hv;refine⟨x,e1,e2,h2,λm m1 m2=>?_,λm m1 m2=>?_,λy hy=>?_⟩
 ·by_cases hm:m=D+1
  ·rw[hm,Dl];exact hs
  rw[w0d s hm];exact h.js m m1 (by omega)
 ·by_cases hm:m=D+1
  ·rw[hm,Dl];exact e3
  rw[w0d s hm];have hj:=h.js m m1 (by omega);refine e4 _ (h.has m m1 (by omega)) (by rw[S7 hj];exact λh=>Lc _ _ h.symm) ?_;rw[S7 hj];exact λh=>hm (Z3 (Ae m1 (by omega)) hv h)
 rcases e5 y hy with rfl|hy
 ·exact .inl ⟨D+1,by omega,by omega,by rw[Dl]⟩
 rcases h.all y hy with⟨m,m1,m2,rfl⟩|hm
 ·exact .inl ⟨m,m1,by omega,by rw[w0d s (by omega)]⟩
 exact .inr hm
def DJ.crash{d:Disk}{k:Nat}{D:Int}{σ:Int->Snp}(h:DJ d k D σ)(hk:k<=100)(cs:List Int):
  ∃x,(Tf d cs).1=x/\(Tf d cs).2.2=0/\DJ x k D σ:=by
 obtain⟨x,e1,e2,e3,e4,e5⟩:=x04 h.rm hk cs;refine⟨x,e1,e2,e3,h.top,h.js,λm m1 m2=>e4 _ (h.has m m1 m2) rfl,λy hy=>?_⟩;obtain⟨z,hz,hn,hd⟩:=e5 y hy;rcases h.all z hz with⟨m,m1,m2,rfl⟩|⟨m,hm⟩
 ·exact .inl ⟨m,m1,m2,hd rfl⟩
 exact .inr ⟨m,by rw[hn,hm]⟩
def DJ.hasD{d:Disk}{k:Nat}{D:Int}{σ:Int->Snp}(h:DJ d k D σ){m:Int}{u:Snp}(hm:Has d m u):1<=m/\m<=D:=by
 obtain⟨f,hf,hn,hv,hd,hu⟩:=hm;rcases h.all f hf with⟨j,j1,j2,rfl⟩|⟨j,hj⟩
 ·have hj:=h.js j j1 j2;rw[S7 hj]at hn;have:=Z3 (Ae j1 (by have:=h.top;omega)) hv hn;omega
 rw[hj]at hn;exact absurd hn (Lc _ _)
def DJ.load{d:Disk}{k:Nat}{D:Int}{σ:Int->Snp}(h:DJ d k D σ)(hD:0<=D):Ow d=if D=0 then(Ib,6)else(σ D,0):=by
 by_cases h0:D=0
 ·rw[if_pos h0];exact z0b h.rm.good (λm u hm=>by have:=h.hasD hm;omega)
 rw[if_neg h0];have hj:=h.js D (by omega) (wj _);have hh:=w17 (h.has D (by omega) (wj _)) (by rw[hj.num];exact Ae (by omega) h.top) hj.enc.1 hj.i;rw[hj.num]at hh;exact g0o h.rm.good hh (λm u hm=>(h.hasD hm).2)
end
section
open Go.Proofs
attribute [local irreducible] Qy Rp Wc
def FC.imp{P:Program}[Env P]{f:FuncId}{args:List AV}{H:List AObj}{R R':AV->List AObj->Prop}(h:FC P f args H R)(hr:∀r H',R r H'->R' r H'):FC P f args H R':=h.mono hr
def f0x{s:Snk}(h:WfS s)(e x:Int)(he:s.ep<e)(z8:e<=1099511627776)(hle:∀b∈s.pend,b.ep<=e)(hl:s.pend.length<256)(za:Uf s<4096):PC prog 44 [encSk s,.i e,.list [chA x]] (λr=>r= .tup [encSk ⟨s.ep,s.com,Xg s.pend e x⟩,.i 0]):=by
 rcases List.eq_nil_or_concat s.pend with hp|⟨l,b,hp⟩
 ·have z1:∀b∈s.pend,b.ep<e:=by rw[hp];simp
  rw[J5 z1];exact x0a h e x he z8 z1 hl za
 rw[List.concat_eq_append]at hp;by_cases hb:b.ep=e
 ·have zb:b=⟨e,b.chs⟩:=by rw[<-hb]
  rw[zb]at hp;have:=d0i h e x he z8 l b.chs hp hl za;rw[hp,q05];exact this
 have z1:∀y∈s.pend,y.ep<e:=λy hy=>by
  have zc:=hle b (by rw[hp];simp);rw[hp]at hy;rcases List.mem_append.1 hy with hy|hy
  ·have:=h.asc;rw[hp,List.pairwise_append]at this;have:=this.2.2 y hy b (by simp);omega
  rw[yU.1 hy];omega
 rw[J5 z1];exact x0a h e x he z8 z1 hl za
def q0o(e a:Int):seg e a a=[]:=by rw[seg,if_neg (by omega)]
def Z0:∀ {e a:Int} {vs:List Int} {n:Int},Km a vs n->Tl e a (vs++[n]) n=Tl e a vs n
 |e,a,[],n,_=>by simp[Tl,q0o]
 |e,a,v::vs,n,h=>by rw[List.cons_append,Tl,Tl,Z0 h.2]
structure JobI (J q:Nat) (D c:Int) (vs:List Int) (n:Int) (d:Disk) (σ:Int->Snp) (H:List AObj):Prop where
 cell:H[J]?=some (.vars (jcs n (Od D vs) (Ii D c vs n) d (D+1+vs.length)))
 dj:DJ d q D σ
 last:1<=D->σ D=snJ D c [c]
 zero:D=0->c=0
 D0:0<=D
 Dq:D+vs.length<=q
 c0:0<=c
 asc:Km c vs n
 nq:n<=q
 q1:q<=95
def JobI.hx{J q:Nat}{D c:Int}{vs:List Int}{n:Int}{d:Disk}{σ:Int->Snp}{H H':List AObj}(h:JobI J q D c vs n d σ H)(hx:HX H H'):JobI J q D c vs n d σ H':=
 ⟨hx _ _ h.cell,h.dj,h.last,h.zero,h.D0,h.Dq,h.c0,h.asc,h.nq,h.q1⟩
def JobI.wfS{J q:Nat}{D c:Int}{vs:List Int}{n:Int}{d:Disk}{σ:Int->Snp}{H:List AObj}(h:JobI J q D c vs n d σ H):WfS (Ii D c vs n):=by have:=h.q1;have:=h.Dq;have:=h.D0;have:=h.nq;exact d0d h.D0 (by omega) (by omega) h.c0 h.asc (by omega)
def JobI.wfC{J q:Nat}{D c:Int}{vs:List Int}{n:Int}{d:Disk}{σ:Int->Snp}{H:List AObj}(h:JobI J q D c vs n d σ H):WfC 1 1 (Od D vs):=by have:=h.q1;have:=h.Dq;have:=h.D0;exact f0s h.D0 (by omega) (by omega)
def JobI.n0{J q:Nat}{D c:Int}{vs:List Int}{n:Int}{d:Disk}{σ:Int->Snp}{H:List AObj}(h:JobI J q D c vs n d σ H):c<=n/\0<=n:=by have:=h.asc.le;have:=h.c0;omega
def Py{J q:Nat}{D c:Int}{vs:List Int}{n:Int}{d:Disk}{σ:Int->Snp}{H:List AObj}(h:JobI J q D c vs n d σ H)(hq:q<95):
  FC prog 21 [.vptr J 0] H (λr H'=>r= .tup []/\HF J H H'/\JobI J (q+1) D c vs (n+1) d σ H'):=by
 have w:=h.wfS;have h0:=h.n0;have h1:=h.Dq;have h2:=h.nq;have h3:=h.D0;have hlen:=Fm (D+1) c vs n;have z8:=h.c0;have z1:Uf (Ii D c vs n)<4096:=by rw[Uf,Ii];simp only;rw[A2 h.asc,Il,Il];omega
 have hA:=f0x w (D+1+vs.length) n (by simp only[Ii];omega) (by omega) (λb hb=>(On hb).2.1) (by simp only[Ii];omega) z1;rw[u0i h.asc]at hA;refine(d0l H J n _ _ _ d _ ⟨h0.2,by omega⟩ h.cell hA).imp ?_;rintro r H' ⟨rfl,hf,hc⟩;exact⟨rfl,hf,hc,h.dj.le (by omega),h.last,h.zero,h.D0,by omega,h.c0,h.asc.emit,by omega,by omega⟩
def Ux{J q:Nat}{D c:Int}{vs:List Int}{n:Int}{d:Disk}{σ:Int->Snp}{H:List AObj}(h:JobI J q D c vs n d σ H)(hq:q<95):
  FC prog 9 [.vptr J 0] H (λr H'=>r= .tup []/\HF J H H'/\JobI J (q+1) D c (vs++[n]) n d σ H'):=by
 have w:=h.wfC;have h0:=h.n0;have h1:=h.Dq;have h2:=h.nq;have h3:=h.D0;have z8:(Od D vs).atts.length=vs.length:=by rw[Od];exact Yx _ _
 have hT:=Nd w (by omega) (by simp only[Od];omega) [rdJ n] rfl;have w1:=d0a w (by omega) (by simp only[Od];omega) (rs:=[rdJ n]) rfl;have ha:(Rg (Od D vs) [rdJ n] 1).atts[vs.length]?=some ⟨D+1+vs.length,[rdJ n],[R8],[false]⟩:=by rw[Rg];simp only;rw[zF (by omega),z8];simp[Od]
 have hR:=w0m w1 ha (w:=0) rfl (λb hb=>by
  cases hv:vs.length with
  |zero=>rw[hv]at hb;cases hb
  |succ m=>
   rw[hv]at hb;simp only[Ao,Rg]at hb;rw[List.getElem?_append_left (by omega),Od]at hb;obtain⟨v,rfl⟩:=Iw hb;rfl) [n] (by simp)
 have z1:d0z (Rg (Od D vs) [rdJ n] 1) vs.length 0 ⟨[n],[]⟩=Od D (vs++[n]):=by rw[d0z,ha];simp only[Od,Rg,Gs];rw[Ha,List.set_append_right _ _ (by rw[Yx];omega),Yx];simp[rdJ,f0c];omega
 rw[z1]at hR;refine(q0c H J n _ (Rg (Od D vs) [rdJ n] 1) (Od D (vs++[n])) _ d _ ⟨by omega,by omega⟩ h.cell hT hR).imp ?_;rintro r H' ⟨rfl,hf,hc⟩;have hs:Ii D c (vs++[n]) n=Ii D c vs n:=by simp only[Ii];rw[Z0 h.asc]
 refine⟨rfl,hf,?_,h.dj.le (by omega),h.last,h.zero,h.D0,by simp;omega,h.c0,h.asc.bar,by omega,by omega⟩;have e:D+1+((vs++[n]).length:Int)=D+1+vs.length+1:=by simp;omega
 rw[hc,hs,e]
def v0x(D v:Int)(vs:List Int):z1v (Od D (v::vs)) (D+1)=Od (D+1) vs:=by
 have e:D+1+((v::vs).length:Int)=D+1+1+vs.length:=by simp;omega
 simp only[z1v,Od,I1,List.drop_succ_cons,xl,e]
def Hf{D v:Int}{vs:List Int}(w:WfC 1 1 (Od D (v::vs))):PC prog 15 [encCr (Od D (v::vs))] (λr=>r= .tup [avSnp (snJ (D+1) v [v]),.bool true,.i 0]):=
 (Vd w).mono λr h=>h.1 _ rfl (by simp)
def Hv{D:Int}(w:WfC 1 1 (Od D [])):PC prog 15 [encCr (Od D [])] (λr=>r= .tup [.agg [.i 0,.list [],.list []],.bool false,.i 0]):=
 (Vd w).mono λr h=>h.2 (λa ha=>by simp[Od,I1]at ha)
def j0s{D v:Int}(h1:0<=D/\D<=1000)(h2:0<=v/\v<=1000):JS (D+1) (snJ (D+1) v [v]):=
 ⟨v,[v],rfl,by unfold i64;omega,by unfold i64;omega,by simp,λx hx=>by rw[yU.1 hx];unfold i64;omega⟩
def Pg{J q:Nat}{D c v:Int}{vs:List Int}{n:Int}{d:Disk}{σ:Int->Snp}{H:List AObj}(h:JobI J q D c (v::vs) n d σ H)(hq:q<95):
  FC prog 10 [.vptr J 0] H (λr H'=>r= .tup []/\HF J H H'/\∃d' σ',JobI J (q+1) (D+1) v vs n d' σ' H'):=by
 have w:=h.wfC;have ws:=h.wfS;have h0:=h.n0;have h1:=h.Dq;have h2:=h.nq;have h3:=h.D0;have h4:=h.c0;simp only[yG]at h1;have hv:=h.asc.mem v (by simp);have js:=j0s (D:=D) (v:=v) ⟨by omega,by omega⟩ ⟨by omega,by omega⟩;obtain⟨x,e1,e2⟩:=h.dj.save (by omega) js h3 (by omega);have hS:=u0u d (snJ (D+1) v [v]) js.j js.enc.2.2 (by rw[js.num];unfold i64;omega);rw[e1]at hS;have ha:(Od D (v::vs)).atts[0]?=some ⟨D+1,[⟨0,v,⟨0,[],[],0⟩⟩],[⟨[v],[]⟩],[true]⟩:=rfl;have hF:=q08 w ha (by simp);simp only at hF;rw[v0x]at hF;have hC:=z03 ws (D+1) (by simp only[Ii];omega) (by omega) ws.size;rw[u0d h4 h.asc]at hC;have z1:D+1+((v::vs).length:Int)=D+1+1+vs.length:=by simp;omega
 refine(j0e H J n _ (Od (D+1) vs) _ (Ii (D+1) v vs n) d x _ (snJ (D+1) v [v]) h.cell (Hf w) hS hF hC).imp ?_;rintro r H' ⟨rfl,hf,hc⟩;rw[z1]at hc;exact⟨rfl,hf,x,_,hc,e2,λ_=>Dl _ _ _,λh=>by omega,by omega,by omega,by omega,h.asc.2,by omega,by omega⟩
def Fk{J q:Nat}{D c:Int}{n:Int}{d:Disk}{σ:Int->Snp}{H:List AObj}(h:JobI J q D c [] n d σ H):
  FC prog 10 [.vptr J 0] H (λr H'=>r= .tup []/\HF J H H'/\JobI J q D c [] n d σ H'):=by
 refine(u0n H J n _ _ d _ h.cell (Hv h.wfC)).imp ?_;rintro r H' ⟨rfl,hf,hc⟩;exact⟨rfl,hf,hc,h.dj,h.last,h.zero,h.D0,h.Dq,h.c0,h.asc,h.nq,h.q1⟩
def y0i{J q:Nat}{D c:Int}{vs:List Int}{n:Int}{d:Disk}{σ:Int->Snp}{H:List AObj}(h:JobI J q D c vs n d σ H)(hq:q<95):
  FC prog 24 [.vptr J 0] H (λr H'=>r= .tup []/\HF J H H'/\∃d',JobI J (q+1) D c vs n d' σ H'):=by
 cases vs with
 |nil=>refine(y0t H J n _ _ d _ h.cell (Hv h.wfC)).imp ?_;rintro r H' ⟨rfl,hf,hc⟩;have:=h.Dq;have:=h.nq;exact⟨rfl,hf,d,hc,h.dj.le (by omega),h.last,h.zero,h.D0,by omega,h.c0,h.asc,by omega,by omega⟩
 |cons v vs=>have h1:=h.Dq;have h2:=h.nq;have h3:=h.D0;have h4:=h.c0;simp only[yG]at h1;have hv:=h.asc.mem v (by simp);have js:=j0s (D:=D) (v:=v) ⟨by omega,by omega⟩ ⟨by omega,by omega⟩;obtain⟨x,e1,e2⟩:=h.dj.write (by omega) js (by omega) (by omega);have hW:=z0r d (snJ (D+1) v [v]) js.j js.enc.2.2;rw[e1]at hW;refine(z0y H J n _ _ d x _ (snJ (D+1) v [v]) h.cell (Hf h.wfC) hW).imp ?_;rintro r H' ⟨rfl,hf,hc⟩;exact⟨rfl,hf,x,hc,e2,h.last,h.zero,h3,by simp only[yG];omega,h4,h.asc,by omega,by omega⟩
def Yj{J q:Nat}{D c:Int}{vs:List Int}{n:Int}{d:Disk}{σ:Int->Snp}{H:List AObj}(h:JobI J q D c vs n d σ H):
  FC prog 8 [.vptr J 0,.i c] H (λr H'=>r= .bool true/\HX H H'):=by
 have h0:=h.n0;have h2:=h.nq;have h3:=h.c0;have h4:=h.q1;obtain⟨m,rfl⟩:=xF h3;exact Kx H J n _ (Ii D m vs n) d _ m (by omega) rfl h.cell
end
section
open Go.Proofs
attribute [local irreducible] Qy Rp Wc Ow Tf
def FC.nilArg{P:Program}[Env P]{f:FuncId}{a:AV}{H:List AObj}{R:AV->List AObj->Prop}(h:FC P f [a,.list []] H R):FC P f [a,.nils] H R:=
 ⟨h.1,λW0 I0 w I m vals hE hw hl hv=>h.2 W0 I0 w I m vals hE hw hl λi v x z8 z1=>by
  match i with
  |0=>exact hv 0 v x z8 (by simpa using z1)
  |1=>
   have hx:x=AV.nils.nrm:=by simp at z1;rw[<-z1];rfl
   have za:=hv 1 v .nils z8 rfl;have:=za.nils_inv;subst this;rw[hx];exact .pure (PVR.nils.nrm)
  |i+2=>simp at z1⟩
def Nl(z8:∀ {J q:Nat} {D c:Int} {vs:List Int} {n:Int} {d:Disk} {σ:Int->Snp} {H:List AObj} (h:JobI J q D c vs n d σ H) (cs:List Int) (z1:cs.length<=1000),FC prog 22 [.vptr J 0,.list (cs.map encI)] H (λr H'=>r= .tup []/\HF J H H'/\∃d',JobI J q D c [] c d' σ H')):PC prog 5 [] (λr=>r= .bool true):=by
 refine pcB func5 results5 ntmps5 ?_;simp only[Qe];repeat(refine s_ ?_;simp)
 refine Qd rfl rfl (Bj _) rfl ?_;rintro r H ⟨rfl,rfl⟩;simp;repeat(refine s_ ?_;simp)
 refine y0e λH hH=>?_;have j0:JobI 0 0 0 0 [] 0 ⟨[],65536⟩ (λ_=>Ib) H:=⟨by rw[hH];rfl,DJ.begin _ _,λh=>by omega,λ_=>rfl,by omega,by simp,by omega,wj _,by omega,by omega⟩
 clear hH;refine Qd rfl rfl (Py j0 (by omega)) rfl ?_;rintro r H1 ⟨rfl,_,j1⟩;simp;repeat(refine s_ ?_;simp)
 refine Qd rfl rfl (Py j1 (by omega)) rfl ?_;rintro r H2 ⟨rfl,_,j2⟩;simp;repeat(refine s_ ?_;simp)
 refine Qd rfl rfl (Ux j2 (by omega)) rfl ?_;rintro r H3 ⟨rfl,_,j3⟩;simp;repeat(refine s_ ?_;simp)
 refine Qd rfl rfl (Py j3 (by omega)) rfl ?_;rintro r H4 ⟨rfl,_,j4⟩;simp;repeat(refine s_ ?_;simp)
 refine Qd rfl rfl (Pg j4 (by omega)) rfl ?_;rintro r H5 ⟨rfl,_,d5,σ5,j5⟩;simp;repeat(refine s_ ?_;simp)
 have z1:=z8 j5 [] (by simp);refine Qd rfl rfl z1.nilArg rfl ?_;rintro r H6 ⟨rfl,_,d6,j6⟩;simp;repeat(refine s_ ?_;simp)
 refine Qd rfl rfl (Yj j6) rfl ?_;rintro r H7 ⟨rfl,za⟩;have j7:=j6.hx za;have c7:=j7.cell;simp only[jcs]at c7;simp[c7];repeat(refine s_ ?_;simp)
 refine Qg rfl ?_;simp;repeat(refine s_ ?_;simp)
 refine Qd rfl rfl (Py j7 (by omega)) rfl ?_;rintro r H8 ⟨rfl,_,j8⟩;simp;repeat(refine s_ ?_;simp)
 refine Qd rfl rfl (Ux j8 (by omega)) rfl ?_;rintro r H9 ⟨rfl,_,j9⟩;simp;repeat(refine s_ ?_;simp)
 refine Qd rfl rfl (Pg j9 (by omega)) rfl ?_;rintro r H10 ⟨rfl,_,d10,σ10,j10⟩;simp;repeat(refine s_ ?_;simp)
 refine Qd rfl rfl (Yj j10) rfl ?_;rintro r H11 ⟨rfl,zb⟩;simp;repeat(refine s_ ?_;simp)
end
section
open Go.Proofs
attribute [local irreducible] Qy Rp Wc Ow Tf
def Al(J q:Nat)(E:AV)(vs:List Int)(H:List AObj):Prop:=(E= .nils/\vs=[])\/∃id off xs,E= .sl id 1 off vs.length/\id≠J/\H[id]?=some (.arr 3 1 xs)/\xs.drop off=vs.map AV.i/\off+vs.length=xs.length/\xs.length<=q
def Al.hf{J q p:Nat}{E:AV}{vs:List Int}{H H':List AObj}(h:Al J q E vs H)(hf:HF J H H')(hq:q<=p):Al J p E vs H':=by
 rcases h with h|⟨id,off,xs,h1,h2,h3,h4,h5,h6⟩
 ·exact .inl h
 exact .inr ⟨id,off,xs,h1,h2,hf _ _ h2 h3,h4,h5,by omega⟩
def Al.hx{J q:Nat}{E:AV}{vs:List Int}{H H':List AObj}(h:Al J q E vs H)(hf:HX H H'):Al J q E vs H':=by
 rcases h with h|⟨id,off,xs,h1,h2,h3,h4,h5,h6⟩
 ·exact .inl h
 exact .inr ⟨id,off,xs,h1,h2,hf _ _ h3,h4,h5,h6⟩
def Cs:Prop:=∀ {J q:Nat} {D c:Int} {vs:List Int} {n:Int} {d:Disk} {σ:Int->Snp} {H:List AObj} (_:JobI J q D c vs n d σ H) (cs:List Int) (_:cs.length<=1000),FC prog 22 [.vptr J 0,.list (cs.map encI)] H (λr H'=>r= .tup []/\HF J H H'/\∃d',JobI J q D c [] c d' σ H')
def x1p(J q:Nat)(r:AV)(H':List AObj):Prop:=∃D c vs n d σ E,r= .tup [.i c,E]/\JobI J (q+1) D c vs n d σ H'/\Al J (q+1) E vs H'
def JobI.mv{J q:Nat}{D c:Int}{vs:List Int}{n:Int}{d:Disk}{σ:Int->Snp}{H H':List AObj}(h:JobI J q D c vs n d σ H)(hx:∀o,H[J]?=some o->H'[J]?=some o):JobI J q D c vs n d σ H':=
 ⟨hx _ h.cell,h.dj,h.last,h.zero,h.D0,h.Dq,h.c0,h.asc,h.nq,h.q1⟩
def JobI.up{J q:Nat}{D c:Int}{vs:List Int}{n:Int}{d:Disk}{σ:Int->Snp}{H:List AObj}(h:JobI J q D c vs n d σ H)(hq:q<95):JobI J (q+1) D c vs n d σ H:=
 ⟨h.cell,h.dj.le (by omega),h.last,h.zero,h.D0,by have:=h.Dq;omega,h.c0,h.asc,by have:=h.nq;omega,by omega⟩
def y11(zf:Cs){J q:Nat}{D c:Int}{vs:List Int}{n:Int}{d:Disk}{σ:Int->Snp}{H:List AObj}(h:JobI J q D c vs n d σ H)(hq:q<95)(k:Nat)(hk:k<256)(cs:List Int)(zg:cs.length<=1000){E:AV}(hE:Al J q E vs H):
  FC prog 7 [.vptr J 0,.int .u8 k,.list (cs.map encI),E] H (λr H'=>x1p J q r H'):=by
 have hc:=h.cell;have z1:(Ii D c vs n).com.length=c.toNat:=by simp only[Ii];rw[Il];simp
 have z8:(c.toNat:Int)=c:=by have:=h.c0;omega
 simp only[jcs]at hc;obtain⟨m,hm,zm⟩:∃m:Nat,(k:Int).tmod 7=m/\m<7:=⟨k % 7,by rw[Int.tmod_eq_emod_of_nonneg (by omega)];omega,by omega⟩
 have hz:=h.n0;have hvl:vs.length<=95:=by have:=h.Dq;have:=h.D0;have:=h.q1;omega
 have e1:=Py h hq;have e2:=Ux h hq;have e3:=y0i h hq;have e4:=zf h cs zg;have zd:m=0\/m=1\/m=2\/m=3\/m=4\/m=5\/m=6:=by omega
 rcases hE with⟨rfl,rfl⟩|⟨id,off,xs,rfl,hid,hx,hd,hl,zb⟩
 ·rcases zd with rfl|rfl|rfl|rfl|rfl|rfl|rfl
  ·refine fcB func7 results7 ntmps7 ?_;simp only[Qe]
   skip
   repeat (first
    |(refine Qm (Qk tOk rfl ?_);simp[hc,z1,z8,hm])
    |(refine Qk tOk rfl ?_;simp[hc,z1,z8,hm])
    |(refine Q1 ?_;simp[hc,z1,z8,hm])
    |(refine Q2 ?_;simp[hc,z1,z8,hm])
    |(refine Wb ?_;simp[hc,z1,z8,hm])
    |refine Qr ?_
    |(refine Qg rfl ?_;simp)
    |refine Qm ?_)
   refine Qd rfl rfl e1 rfl ?_;rintro r H' ⟨rfl,hf,j⟩;simp;repeat (first
    |(refine Qm (Qk tOk rfl ?_);simp)
    |(refine Qk tOk rfl ?_;simp)
    |(refine Q1 ?_;simp)
    |(refine Q2 ?_;simp)
    |(refine Wb ?_;simp)
    |refine Qr ?_
    |(refine Qg rfl ?_;simp)
    |refine Qm ?_)
   exact⟨D,c,_,n+1,d,σ,_,rfl,j,(.inl ⟨rfl,rfl⟩)⟩
  ·refine fcB func7 results7 ntmps7 ?_;simp only[Qe]
   skip
   repeat (first
    |(refine Qm (Qk tOk rfl ?_);simp[hc,z1,z8,hm])
    |(refine Qk tOk rfl ?_;simp[hc,z1,z8,hm])
    |(refine Q1 ?_;simp[hc,z1,z8,hm])
    |(refine Q2 ?_;simp[hc,z1,z8,hm])
    |(refine Wb ?_;simp[hc,z1,z8,hm])
    |refine Qr ?_
    |(refine Qg rfl ?_;simp)
    |refine Qm ?_)
   refine Qd rfl rfl e1 rfl ?_;rintro r H' ⟨rfl,hf,j⟩;simp;repeat (first
    |(refine Qm (Qk tOk rfl ?_);simp)
    |(refine Qk tOk rfl ?_;simp)
    |(refine Q1 ?_;simp)
    |(refine Q2 ?_;simp)
    |(refine Wb ?_;simp)
    |refine Qr ?_
    |(refine Qg rfl ?_;simp)
    |refine Qm ?_)
   exact⟨D,c,_,n+1,d,σ,_,rfl,j,(.inl ⟨rfl,rfl⟩)⟩
  ·refine fcB func7 results7 ntmps7 ?_;simp only[Qe]
   skip
   repeat (first
    |(refine Qm (Qk tOk rfl ?_);simp[hc,z1,z8,hm])
    |(refine Qk tOk rfl ?_;simp[hc,z1,z8,hm])
    |(refine Q1 ?_;simp[hc,z1,z8,hm])
    |(refine Q2 ?_;simp[hc,z1,z8,hm])
    |(refine Wb ?_;simp[hc,z1,z8,hm])
    |refine Qr ?_
    |(refine Qg rfl ?_;simp)
    |refine Qm ?_)
   refine Qd rfl rfl e1 rfl ?_;rintro r H' ⟨rfl,hf,j⟩;simp;repeat (first
    |(refine Qm (Qk tOk rfl ?_);simp)
    |(refine Qk tOk rfl ?_;simp)
    |(refine Q1 ?_;simp)
    |(refine Q2 ?_;simp)
    |(refine Wb ?_;simp)
    |refine Qr ?_
    |(refine Qg rfl ?_;simp)
    |refine Qm ?_)
   exact⟨D,c,_,n+1,d,σ,_,rfl,j,(.inl ⟨rfl,rfl⟩)⟩
  ·refine fcB func7 results7 ntmps7 ?_;simp only[Qe]
   skip
   repeat (first
    |(refine Qm (Qk tOk rfl ?_);simp[hc,z1,z8,hm])
    |(refine Qk tOk rfl ?_;simp[hc,z1,z8,hm])
    |(refine Q1 ?_;simp[hc,z1,z8,hm])
    |(refine Q2 ?_;simp[hc,z1,z8,hm])
    |(refine Wb ?_;simp[hc,z1,z8,hm])
    |refine Qr ?_
    |(refine Qg rfl ?_;simp)
    |refine Qm ?_)
   refine Qd rfl rfl e2 rfl ?_;rintro r H' ⟨rfl,hf,j⟩;simp;have za:=j.cell;simp only[jcs]at za;repeat (first
    |(refine Qm (Qk tOk rfl ?_);simp[za])
    |(refine Qk tOk rfl ?_;simp[za])
    |(refine Q1 ?_;simp[za])
    |(refine Q2 ?_;simp[za])
    |(refine Wb ?_;simp[za])
    |refine Qr ?_
    |(refine Qg rfl ?_;simp)
    |refine Qm ?_)
   refine apS T23 T3 ?_;simp[Ro,Y4];refine⟨by simp[Eg],?_⟩;have zh:=Qn za;repeat (first
    |(refine Qm (Qk tOk rfl ?_);simp)
    |(refine Qk tOk rfl ?_;simp)
    |(refine Q1 ?_;simp)
    |(refine Q2 ?_;simp)
    |(refine Wb ?_;simp)
    |refine Qr ?_
    |(refine Qg rfl ?_;simp)
    |refine Qm ?_)
   exact⟨D,c,_,n,d,σ,_,rfl,j.mv (λo ho=>Qc ho _),.inr ⟨_,0,[.i n],rfl,by omega,by rw[zF (by omega)];simp,rfl,rfl,by simp⟩⟩
  ·refine fcB func7 results7 ntmps7 ?_;simp only[Qe]
   skip
   repeat (first
    |(refine Qm (Qk tOk rfl ?_);simp[hc,z1,z8,hm])
    |(refine Qk tOk rfl ?_;simp[hc,z1,z8,hm])
    |(refine Q1 ?_;simp[hc,z1,z8,hm])
    |(refine Q2 ?_;simp[hc,z1,z8,hm])
    |(refine Wb ?_;simp[hc,z1,z8,hm])
    |refine Qr ?_
    |(refine Qg rfl ?_;simp)
    |refine Qm ?_)
   refine Qd rfl rfl e3 rfl ?_;rintro r H' ⟨rfl,hf,d',j⟩;simp;repeat (first
    |(refine Qm (Qk tOk rfl ?_);simp)
    |(refine Qk tOk rfl ?_;simp)
    |(refine Q1 ?_;simp)
    |(refine Q2 ?_;simp)
    |(refine Wb ?_;simp)
    |refine Qr ?_
    |(refine Qg rfl ?_;simp)
    |refine Qm ?_)
   exact⟨D,c,_,n,d',σ,_,rfl,j,(.inl ⟨rfl,rfl⟩)⟩
  ·refine fcB func7 results7 ntmps7 ?_;simp only[Qe]
   skip
   repeat (first
    |(refine Qm (Qk tOk rfl ?_);simp[hc,z1,z8,hm])
    |(refine Qk tOk rfl ?_;simp[hc,z1,z8,hm])
    |(refine Q1 ?_;simp[hc,z1,z8,hm])
    |(refine Q2 ?_;simp[hc,z1,z8,hm])
    |(refine Wb ?_;simp[hc,z1,z8,hm])
    |refine Qr ?_
    |(refine Qg rfl ?_;simp)
    |refine Qm ?_)
   refine Qd rfl rfl (Fk h) rfl ?_;rintro r H' ⟨rfl,hf,j⟩;simp;repeat (first
    |(refine Qm (Qk tOk rfl ?_);simp)
    |(refine Qk tOk rfl ?_;simp)
    |(refine Q1 ?_;simp)
    |(refine Q2 ?_;simp)
    |(refine Wb ?_;simp)
    |refine Qr ?_
    |(refine Qg rfl ?_;simp)
    |refine Qm ?_)
   exact⟨D,c,_,n,d,σ,_,rfl,j.up hq,.inl ⟨rfl,rfl⟩⟩
  refine fcB func7 results7 ntmps7 ?_;simp only[Qe]
  skip
  repeat (first
   |(refine Qm (Qk tOk rfl ?_);simp[hc,z1,z8,hm])
   |(refine Qk tOk rfl ?_;simp[hc,z1,z8,hm])
   |(refine Q1 ?_;simp[hc,z1,z8,hm])
   |(refine Q2 ?_;simp[hc,z1,z8,hm])
   |(refine Wb ?_;simp[hc,z1,z8,hm])
   |refine Qr ?_
   |(refine Qg rfl ?_;simp)
   |refine Qm ?_)
  refine Qd rfl rfl e4 rfl ?_;rintro r H' ⟨rfl,hf,d',j⟩;simp;repeat (first
   |(refine Qm (Qk tOk rfl ?_);simp)
   |(refine Qk tOk rfl ?_;simp)
   |(refine Q1 ?_;simp)
   |(refine Q2 ?_;simp)
   |(refine Wb ?_;simp)
   |refine Qr ?_
   |(refine Qg rfl ?_;simp)
   |refine Qm ?_)
  exact⟨D,c,[],c,d',σ,_,rfl,j.up hq,.inl ⟨rfl,rfl⟩⟩
 rcases zd with rfl|rfl|rfl|rfl|rfl|rfl|rfl
 ·refine fcB func7 results7 ntmps7 ?_;simp only[Qe]
  skip
  repeat (first
   |(refine Qm (Qk tOk rfl ?_);simp[hc,z1,z8,hm])
   |(refine Qk tOk rfl ?_;simp[hc,z1,z8,hm])
   |(refine Q1 ?_;simp[hc,z1,z8,hm])
   |(refine Q2 ?_;simp[hc,z1,z8,hm])
   |(refine Wb ?_;simp[hc,z1,z8,hm])
   |refine Qr ?_
   |(refine Qg rfl ?_;simp)
   |refine Qm ?_)
  refine Qd rfl rfl e1 rfl ?_;rintro r H' ⟨rfl,hf,j⟩;simp;repeat (first
   |(refine Qm (Qk tOk rfl ?_);simp)
   |(refine Qk tOk rfl ?_;simp)
   |(refine Q1 ?_;simp)
   |(refine Q2 ?_;simp)
   |(refine Wb ?_;simp)
   |refine Qr ?_
   |(refine Qg rfl ?_;simp)
   |refine Qm ?_)
  exact⟨D,c,_,n+1,d,σ,_,rfl,j,((show Al J q (.sl id 1 off vs.length) vs H from .inr ⟨id,off,xs,rfl,hid,hx,hd,hl,zb⟩).hf hf (by omega))⟩
 ·refine fcB func7 results7 ntmps7 ?_;simp only[Qe]
  skip
  repeat (first
   |(refine Qm (Qk tOk rfl ?_);simp[hc,z1,z8,hm])
   |(refine Qk tOk rfl ?_;simp[hc,z1,z8,hm])
   |(refine Q1 ?_;simp[hc,z1,z8,hm])
   |(refine Q2 ?_;simp[hc,z1,z8,hm])
   |(refine Wb ?_;simp[hc,z1,z8,hm])
   |refine Qr ?_
   |(refine Qg rfl ?_;simp)
   |refine Qm ?_)
  refine Qd rfl rfl e1 rfl ?_;rintro r H' ⟨rfl,hf,j⟩;simp;repeat (first
   |(refine Qm (Qk tOk rfl ?_);simp)
   |(refine Qk tOk rfl ?_;simp)
   |(refine Q1 ?_;simp)
   |(refine Q2 ?_;simp)
   |(refine Wb ?_;simp)
   |refine Qr ?_
   |(refine Qg rfl ?_;simp)
   |refine Qm ?_)
  exact⟨D,c,_,n+1,d,σ,_,rfl,j,((show Al J q (.sl id 1 off vs.length) vs H from .inr ⟨id,off,xs,rfl,hid,hx,hd,hl,zb⟩).hf hf (by omega))⟩
 ·refine fcB func7 results7 ntmps7 ?_;simp only[Qe]
  skip
  repeat (first
   |(refine Qm (Qk tOk rfl ?_);simp[hc,z1,z8,hm])
   |(refine Qk tOk rfl ?_;simp[hc,z1,z8,hm])
   |(refine Q1 ?_;simp[hc,z1,z8,hm])
   |(refine Q2 ?_;simp[hc,z1,z8,hm])
   |(refine Wb ?_;simp[hc,z1,z8,hm])
   |refine Qr ?_
   |(refine Qg rfl ?_;simp)
   |refine Qm ?_)
  refine Qd rfl rfl e1 rfl ?_;rintro r H' ⟨rfl,hf,j⟩;simp;repeat (first
   |(refine Qm (Qk tOk rfl ?_);simp)
   |(refine Qk tOk rfl ?_;simp)
   |(refine Q1 ?_;simp)
   |(refine Q2 ?_;simp)
   |(refine Wb ?_;simp)
   |refine Qr ?_
   |(refine Qg rfl ?_;simp)
   |refine Qm ?_)
  exact⟨D,c,_,n+1,d,σ,_,rfl,j,((show Al J q (.sl id 1 off vs.length) vs H from .inr ⟨id,off,xs,rfl,hid,hx,hd,hl,zb⟩).hf hf (by omega))⟩
 ·refine fcB func7 results7 ntmps7 ?_;simp only[Qe]
  skip
  repeat (first
   |(refine Qm (Qk tOk rfl ?_);simp[hc,z1,z8,hm])
   |(refine Qk tOk rfl ?_;simp[hc,z1,z8,hm])
   |(refine Q1 ?_;simp[hc,z1,z8,hm])
   |(refine Q2 ?_;simp[hc,z1,z8,hm])
   |(refine Wb ?_;simp[hc,z1,z8,hm])
   |refine Qr ?_
   |(refine Qg rfl ?_;simp)
   |refine Qm ?_)
  refine Qd rfl rfl e2 rfl ?_;rintro r H' ⟨rfl,hf,j⟩;simp;have za:=j.cell;simp only[jcs]at za;repeat (first
   |(refine Qm (Qk tOk rfl ?_);simp[za])
   |(refine Qk tOk rfl ?_;simp[za])
   |(refine Q1 ?_;simp[za])
   |(refine Q2 ?_;simp[za])
   |(refine Wb ?_;simp[za])
   |refine Qr ?_
   |(refine Qg rfl ?_;simp)
   |refine Qm ?_)
  have zh:=Qn za;have ze:=hf _ _ hid hx;have zn:=Qn ze;have gI:=λL=>Qc ze L;rcases Nat.eq_zero_or_pos off with h0|h0
  ·subst h0;simp only[xl,yO]at hd hl;refine apS T23 T3 ?_;simp[Ro,Y4,gI,hl];refine⟨by simp[Eg];omega,?_⟩;repeat (first
    |(refine Qm (Qk tOk rfl ?_);simp)
    |(refine Qk tOk rfl ?_;simp)
    |(refine Q1 ?_;simp)
    |(refine Q2 ?_;simp)
    |(refine Wb ?_;simp)
    |refine Qr ?_
    |(refine Qg rfl ?_;simp)
    |refine Qm ?_)
   refine⟨D,c,_,n,d,σ,_,rfl,j.mv (λo ho=>Qc (Qa hid (Qc ho _) _) _),.inr ⟨H'.length+1,0,xs++[.i n],by simp[hl],by omega,?_,by simp[hd],by simp[hl],by simp;omega⟩⟩;rw[zF (by simp)];simp
  refine Jl tOk rfl rfl T23 rfl T3 rfl (by decide) (id:=id) (off:=off) (len:=vs.length) rfl rfl (gI _) h0 hl (ys:=[.i n]) (by simp) (by simp[Y4]) (by simp[AV.cells,AV.leaf]) (by have:=h.Dq;have:=h.D0;simp;omega) (by have:=h.Dq;have:=h.D0;simp;omega) rfl ?_ ?_
  ·simp;repeat (first
    |(refine Qm (Qk tOk rfl ?_);simp)
    |(refine Qk tOk rfl ?_;simp)
    |(refine Q1 ?_;simp)
    |(refine Q2 ?_;simp)
    |(refine Wb ?_;simp)
    |refine Qr ?_
    |(refine Qg rfl ?_;simp)
    |refine Qm ?_)
   refine⟨D,c,_,n,d,σ,_,rfl,j.mv (λo ho=>Qa hid (Qc ho _) _),.inr ⟨id,off,xs++[.i n],by simp,hid,Qf (gI _) _,by rw[List.drop_append_of_le_length (by omega),hd];simp,by simp;omega,by simp;omega⟩⟩
  simp;repeat (first
   |(refine Qm (Qk tOk rfl ?_);simp)
   |(refine Qk tOk rfl ?_;simp)
   |(refine Q1 ?_;simp)
   |(refine Q2 ?_;simp)
   |(refine Wb ?_;simp)
   |refine Qr ?_
   |(refine Qg rfl ?_;simp)
   |refine Qm ?_)
  refine⟨D,c,_,n,d,σ,_,rfl,j.mv (λo ho=>Qc (Qa hid (Qc ho _) _) _),.inr ⟨H'.length+1,0,xs.drop off++[.i n],by simp,by omega,?_,by simp[hd],by simp;omega,by simp;omega⟩⟩;rw[zF (by simp)];simp
 ·refine fcB func7 results7 ntmps7 ?_;simp only[Qe]
  skip
  repeat (first
   |(refine Qm (Qk tOk rfl ?_);simp[hc,z1,z8,hm])
   |(refine Qk tOk rfl ?_;simp[hc,z1,z8,hm])
   |(refine Q1 ?_;simp[hc,z1,z8,hm])
   |(refine Q2 ?_;simp[hc,z1,z8,hm])
   |(refine Wb ?_;simp[hc,z1,z8,hm])
   |refine Qr ?_
   |(refine Qg rfl ?_;simp)
   |refine Qm ?_)
  refine Qd rfl rfl e3 rfl ?_;rintro r H' ⟨rfl,hf,d',j⟩;simp;repeat (first
   |(refine Qm (Qk tOk rfl ?_);simp)
   |(refine Qk tOk rfl ?_;simp)
   |(refine Q1 ?_;simp)
   |(refine Q2 ?_;simp)
   |(refine Wb ?_;simp)
   |refine Qr ?_
   |(refine Qg rfl ?_;simp)
   |refine Qm ?_)
  exact⟨D,c,_,n,d',σ,_,rfl,j,((show Al J q (.sl id 1 off vs.length) vs H from .inr ⟨id,off,xs,rfl,hid,hx,hd,hl,zb⟩).hf hf (by omega))⟩
 ·refine fcB func7 results7 ntmps7 ?_;simp only[Qe]
  skip
  repeat (first
   |(refine Qm (Qk tOk rfl ?_);simp[hc,z1,z8,hm])
   |(refine Qk tOk rfl ?_;simp[hc,z1,z8,hm])
   |(refine Q1 ?_;simp[hc,z1,z8,hm])
   |(refine Q2 ?_;simp[hc,z1,z8,hm])
   |(refine Wb ?_;simp[hc,z1,z8,hm])
   |refine Qr ?_
   |(refine Qg rfl ?_;simp)
   |refine Qm ?_)
  cases vs with
  |nil=>
   simp;repeat (first
    |(refine Qm (Qk tOk rfl ?_);simp)
    |(refine Qk tOk rfl ?_;simp)
    |(refine Q1 ?_;simp)
    |(refine Q2 ?_;simp)
    |(refine Wb ?_;simp)
    |refine Qr ?_
    |(refine Qg rfl ?_;simp)
    |refine Qm ?_)
   refine Qd rfl rfl (Fk h) rfl ?_;rintro r H' ⟨rfl,hf,j⟩;simp;repeat (first
    |(refine Qm (Qk tOk rfl ?_);simp)
    |(refine Qk tOk rfl ?_;simp)
    |(refine Q1 ?_;simp)
    |(refine Q2 ?_;simp)
    |(refine Wb ?_;simp)
    |refine Qr ?_
    |(refine Qg rfl ?_;simp)
    |refine Qm ?_)
   exact⟨D,c,_,n,d,σ,_,rfl,j.up hq,.inr ⟨id,off,xs,rfl,hid,hf _ _ hid hx,hd,hl,by omega⟩⟩
  |cons v vs=>
   have zc:xs[off]?=some (.i v):=by have:=congrArg (λl:List AV=>l[0]?) hd;simpa using this
   have zi:off<xs.length:=(zD.1 zc).1;have zj:∀q,xs[off]'q= .i v:=λq=>(yJ q).2 zc;have zk:xs.drop (off+1)=vs.map AV.i:=by have:=congrArg (List.drop 1) hd;simpa[List.drop_drop]using this
   simp;repeat (first
    |(refine Qm (Qk tOk rfl ?_);simp)
    |(refine Qk tOk rfl ?_;simp)
    |(refine Q1 ?_;simp)
    |(refine Q2 ?_;simp)
    |(refine Wb ?_;simp)
    |refine Qr ?_
    |(refine Qg rfl ?_;simp)
    |refine Qm ?_)
   have zl:(1:Int)<=(vs.length:Int)+1:=by omega
   refine Qx tOk mixed [] (.val 0 (.val 1 (.val 2 (.val 3 (.val 4 (.val 5 (.val 6 (.done)))))))) rfl (by kernel_rfl) ?_;simp[hx,zc,zi,zj,zl];repeat (first
    |(refine Qm (Qk tOk rfl ?_);simp)
    |(refine Qk tOk rfl ?_;simp)
    |(refine Q1 ?_;simp)
    |(refine Q2 ?_;simp)
    |(refine Wb ?_;simp)
    |refine Qr ?_
    |(refine Qg rfl ?_;simp)
    |refine Qm ?_)
   refine Qd rfl rfl (Pg h hq) rfl ?_;rintro r H' ⟨rfl,hf,d',σ',j⟩;simp;repeat (first
    |(refine Qm (Qk tOk rfl ?_);simp)
    |(refine Qk tOk rfl ?_;simp)
    |(refine Q1 ?_;simp)
    |(refine Q2 ?_;simp)
    |(refine Wb ?_;simp)
    |refine Qr ?_
    |(refine Qg rfl ?_;simp)
    |refine Qm ?_)
   exact⟨D+1,v,_,n,d',σ',_,rfl,j,.inr ⟨id,off+1,xs,by simp,hid,hf _ _ hid hx,zk,by simp at hl;omega,by omega⟩⟩
 refine fcB func7 results7 ntmps7 ?_;simp only[Qe]
 skip
 repeat (first
  |(refine Qm (Qk tOk rfl ?_);simp[hc,z1,z8,hm])
  |(refine Qk tOk rfl ?_;simp[hc,z1,z8,hm])
  |(refine Q1 ?_;simp[hc,z1,z8,hm])
  |(refine Q2 ?_;simp[hc,z1,z8,hm])
  |(refine Wb ?_;simp[hc,z1,z8,hm])
  |refine Qr ?_
  |(refine Qg rfl ?_;simp)
  |refine Qm ?_)
 refine Qd rfl rfl e4 rfl ?_;rintro r H' ⟨rfl,hf,d',j⟩;simp;repeat (first
  |(refine Qm (Qk tOk rfl ?_);simp)
  |(refine Qk tOk rfl ?_;simp)
  |(refine Q1 ?_;simp)
  |(refine Q2 ?_;simp)
  |(refine Wb ?_;simp)
  |refine Qr ?_
  |(refine Qg rfl ?_;simp)
  |refine Qm ?_)
 exact⟨D,c,[],c,d',σ,_,rfl,j.up hq,.inl ⟨rfl,rfl⟩⟩
end
section
open Go.Proofs
attribute [local irreducible] Qy Rp Wc Ow Tf
def f0d:Int->List Int->Int
 |c,[]=>c
 |_,v::vs=>f0d v vs
def Hb:∀(c:Int) (vs:List Int) (n:Int),f0d c (vs++[n])=n
 |_,[],_=>rfl
 |_,v::vs,n=>Hb v vs n
@[simp] def encU (k:Nat):AV:= .int .u8 (k:Int)
def v1k(len:Nat)(u:Nat×AV×List AObj):Prop:=u.1<=len/\∃D c vs n d σ,JobI 0 u.1 D c vs n d σ u.2.2/\Al 0 u.1 u.2.1 vs u.2.2
def x1i(n:Int)(u:Nat×List AObj):Prop:=u.1<=50/\∃q D c vs d σ,JobI 0 q D c vs n d σ u.2/\vs.length+u.1<=50/\q<=41+u.1/\f0d c vs=n
def Lh(zl:Cs)(ks:List Nat)(hk:∀k∈ks,k<256)(cs:List Int):PC prog 3 [.list (ks.map encU),.list (cs.map encI)] (λr=>r= .bool true):=by
 have zo:=Nl (λh cs zp=>zl h cs zp);refine pcB func3 results3 ntmps3 ?_;simp only[Qe];repeat(refine s_ ?_;simp)
 refine pcL (zo) ?_;simp;repeat(refine s_ ?_;simp)
 refine Qg rfl ?_;simp;repeat(refine s_ ?_;simp)
 refine Qb rfl (λzg=>?_) (λze=>?_)
 ·repeat(refine s_ ?_;simp)
 simp at ze;repeat(refine s_ ?_;simp)
 refine Qd rfl rfl (Bj _) rfl ?_;rintro r H ⟨rfl,rfl⟩;simp;repeat(refine s_ ?_;simp)
 refine Wa λH hH=>?_;have j0:JobI 0 0 0 0 [] 0 ⟨[],65536⟩ (λ_=>Ib) H:=⟨by rw[hH];rfl,DJ.begin _ _,λh=>by omega,λ_=>rfl,by omega,by simp,by omega,wj _,by omega,by omega⟩
 clear hH;refine Qp (Qh (sl':=[(0,.list (ks.map encU)),(1,.list (cs.map encI)),(5,.vptr 0 0),(6,.nils),(23,.list (ks.map encU)),(24,.i ks.length),(25,.i (0:Nat))]) ?_ (by simp));refine Qs (P:=prog) (F:=λ(u:Nat×AV×List AObj)=>⟨[(0,.list (ks.map encU)),(1,.list (cs.map encI)),(5,.vptr 0 0),(6,u.2.1),(23,.list (ks.map encU)),(24,.i ks.length),(25,.i u.1)],u.2.2⟩)
  (v1k ks.length) (λu=>ks.length - u.1) ?_ (0,.nils,H) ⟨yL _,_,_,_,_,_,_,j0,.inl ⟨rfl,rfl⟩⟩
 rintro⟨j,E,G⟩ ⟨hj,D,c,vs,n,d,σ,jb,he⟩ ih;simp only at hj jb he ih |-;repeat(refine s_ ?_;simp)
 refine Qb rfl (λzg=>?_) (λze=>?_)
 ·have zb:j<ks.length:=by simpa using zg
  have hw:=wz j (by omega);obtain⟨k,zj⟩:∃k,ks[j]?=some k:=⟨ks[j],zH zb⟩
  have zq:=hk k (zE zj);have hg:(ks.map encU)[j]?=some (encU k):=by rw[zY,zj];rfl
  have hh:∀q,(ks.map encU)[j]'q=encU k:=λq=>(yJ q).2 hg;simp only[encU]at hg hh;have zr:=y11 zl jb (by omega) k zq cs (by omega) he;have zf:deref true E=some E:=by rcases he with⟨rfl,_⟩|⟨id,off,xs,rfl,_⟩<;>rfl
  repeat(refine s_ ?_;simp[zb,hg,hh,zj,zf])
  refine Qd rfl (by simp[zf]) zr rfl ?_;rintro r G1 ⟨D1,c1,zt,n1,d1,σ1,E1,rfl,z8,zm⟩;have za:deref true E1=some E1:=by rcases zm with⟨rfl,_⟩|⟨id,off,xs,rfl,_⟩<;>rfl
  simp[za];repeat(refine s_ ?_;simp[za])
  have zk:=Yj z8;have h0:=z8.n0;refine Qd rfl rfl zk rfl ?_;rintro r G2 ⟨rfl,zh⟩;have zc:=z8.hx zh;have zu:=zm.hx zh;have zd:=zc.cell;simp only[jcs]at zd;simp[zd];refine Qg rfl ?_;have zv:¬n1<c1:=by omega
  simp[zv];repeat(refine s_ ?_;simp[hw])
  refine Qh (sl':=[(0,.list (ks.map encU)),(1,.list (cs.map encI)),(5,.vptr 0 0),(6,E1),(23,.list (ks.map encU)),(24,.i ks.length),(25,.i (j+1:Nat))]) ?_ (by simp);exact ih (j+1,E1,G2) ⟨by simp only;omega,D1,c1,zt,n1,d1,σ1,zc,zu⟩ (by simp only;omega)
 have zd:=jb.cell;simp only[jcs]at zd;repeat(refine s_ ?_;simp[zd])
 refine Qd rfl rfl (Ux jb (by omega)) rfl ?_;rintro r G1 ⟨rfl,_,z8⟩;simp;repeat(refine s_ ?_;simp)
 have hlen:=z8.Dq;have hD:=z8.D0;refine Qp (Qh (sl':=[(5,.vptr 0 0),(11,.i n),(57,.i (0:Nat))]) ?_ (by simp));refine Qs (P:=prog) (F:=λ(u:Nat×List AObj)=>⟨[(5,.vptr 0 0),(11,.i n),(57,.i u.1)],u.2⟩)
  (x1i n) (λu=>50 - u.1) ?_ (0,G1) ⟨yL _,_,_,_,_,_,_,z8,by omega,by omega,Hb _ _ _⟩
 clear z8 hlen hD jb he zd ih ze hj;rintro⟨j,G⟩ ⟨hj,q,D,c,vs,d,σ,jb,hl,hq,z1⟩ ih;simp only at hj jb hl hq ih |-;repeat(refine s_ ?_;simp)
 refine Qb rfl (λzg=>?_) (λze=>?_)
 ·have zb:j<50:=by simp at zg;omega
  have hw:=wz j (by omega);cases vs with
  |nil=>
   repeat(refine s_ ?_;simp)
   refine Qd rfl rfl (Fk jb) rfl ?_;rintro r G2 ⟨rfl,_,zc⟩;simp;repeat(refine s_ ?_;simp[hw])
   refine Qh (sl':=[(5,.vptr 0 0),(11,.i n),(57,.i (j+1:Nat))]) ?_ (by simp);exact ih (j+1,G2) ⟨by simp only;omega,q,D,c,[],d,σ,zc,by simp;omega,by simp only;omega,z1⟩ (by simp only;omega)
  |cons v vs=>
   simp only[yG]at hl;repeat(refine s_ ?_;simp)
   refine Qd rfl rfl (Pg jb (by omega)) rfl ?_;rintro r G2 ⟨rfl,_,d2,σ2,zc⟩;simp;repeat(refine s_ ?_;simp[hw])
   refine Qh (sl':=[(5,.vptr 0 0),(11,.i n),(57,.i (j+1:Nat))]) ?_ (by simp);exact ih (j+1,G2) ⟨by simp only;omega,q+1,D+1,v,vs,d2,σ2,zc,by simp only;omega,by simp only;omega,z1⟩ (by simp only;omega)
 have zw:50<=j:=by simp at ze;omega
 have hv:vs=[]:=List.eq_nil_of_length_eq_zero (by omega);subst hv;have zx:c=n:=z1;subst zx;have zk:=Yj jb;repeat(refine s_ ?_;simp)
 refine Qd rfl rfl zk rfl ?_;rintro r G2 ⟨rfl,zh⟩;have zi:=(jb.hx zh).cell;simp only[jcs]at zi;have zn:=B8 (Ii D c [] c).ep (Ii D c [] c).com;have zy:(Ii D c [] c).pend=[]:=by simp[Ii,Tl,q0o]
 rw[zy]at zi;simp at zi;simp[zi];simp only[encSk,yK]at zn;refine pcL zn ?_;simp;repeat(refine s_ ?_;simp)
end
section
open Go.Proofs
attribute [local irreducible] Qy Rp Wc Ow Tf
def y09{J q:Nat}{D c:Int}{vs:List Int}{n:Int}{d:Disk}{σ:Int->Snp}{H:List AObj}(h:JobI J q D c vs n d σ H)(cs:List Int)(zc:cs.length<=1000):
  FC prog 22 [.vptr J 0,.list (cs.map encI)] H (λr H'=>r= .tup []/\HF J H H'/\∃d',JobI J q D c [] c d' σ H'):=by
 have w:=h.wfC;have ws:=h.wfS;have h0:=h.n0;have h1:=h.Dq;have h2:=h.nq;have h3:=h.D0;have h4:=h.c0;have h5:=h.q1;have za:VB d.files:=λf hf=>by have:=(h.dj.rm.small f hf).2;omega
 obtain⟨x,e1,e2,e3⟩:=h.dj.crash (by omega) cs;have z1:=x1b d za cs (by omega);rw[e1,e2]at z1;have hL:=k09 x (λhh=>x1s hh) (λ_=>d0k e3.rm.good e3.rm.small.bd);rw[e3.load h3]at hL;have hA:=u0l ws D (by simp only[Ii];omega) (by omega);rw[u08]at hA;have hR:=y0f w D h3 (by omega);have zb:(⟨D+1,[],D⟩:Crd)=Od D []:=by simp[Od,I1]
 rw[zb]at hR;have z8:D+1+(([]:List Int).length:Int)=D+1:=by simp
 by_cases hD:D=0
 ·subst hD;have hc:=h.zero rfl;subst hc;rw[if_pos rfl]at hL;refine(x0d H J n _ (Od 0 []) _ (Ii 0 0 [] 0) d x _ _ _ 0 rfl h.cell z1 hL hR hA).imp ?_;rintro r H' ⟨rfl,hf,hc⟩;refine⟨rfl,hf,x,?_,e3,h.last,h.zero,h.D0,by simp<;>omega,h.c0,wj _,by omega,h5⟩;rw[z8];exact hc
 rw[if_neg hD,h.last (by omega)]at hL;refine(y0m H J n _ (Od D []) _ (Ii D c [] c) d x _ _ _ D c [avRdr (rdJ c)] ⟨h3,by omega⟩ h.cell z1 hL hR hA).imp ?_;rintro r H' ⟨rfl,hf,hc⟩;refine⟨rfl,hf,x,?_,e3,h.last,h.zero,h.D0,by simp<;>omega,h.c0,wj _,by omega,h5⟩;rw[z8];exact hc
end
section
open Go.Proofs
def L4:Cs:=λh cs z1=>y09 h cs z1
def Kf(ks:List Nat)(hk:∀k∈ks,k<256)(cs:List Int):PC prog 3 [.list (ks.map encU),.list (cs.map encI)] (λr=>r= .bool true):=
 Lh L4 ks hk cs
end
section
open Go.Proofs Go.RowKit Go.Proofs.YtdcnaocpompcpaaGreatDoor
def laidOut:laidOutB prog=true:=by kernel_rfl
def own:ownKnob prog.godebug=none:=by kernel_rfl
def Cr{α:Type}{g:α->AV}{Q:α->Prop}:∀xs:List AV,(∀x∈xs,∃a,x=g a/\Q a)->∃l:List α,xs=l.map g/\∀a∈l,Q a
 |[],_=>⟨[],rfl,by simp⟩
 |x::xs,h=>by obtain⟨a,rfl,ha⟩:=h x (by simp);obtain⟨l,rfl,hl⟩:=Cr xs (λy hy=>h y (by simp[hy]));exact⟨a::l,rfl,by simpa using⟨ha,hl⟩⟩
def w12{d:Nat}{zs:List AV}(h:Shp T (d+1) 3 zs):∃n:Int,zs=[.i n]/\ -9223372036854775808<=n/\n<=9223372036854775807:=by simp only[Shp,T3,x08]at h;obtain⟨n,rfl,h1,h2⟩:=h;exact⟨n,rfl,h1,h2⟩
def d0r{d:Nat}{xs:List AV}(h:Uv T d [] xs):xs=[]:=h
def w1q {l:List (String×DataW Unit)} {w:World} {name:String} {k:IntKind} {zs:List Int} {g:Nat} {t e:TypeId} {n:Nat} (h:laidMetH prog l w) (hl:l.filter (λx=>x.1==name)=[(name,Lib.tabData k zs)])
  (hg:prog.globalNamed name=some g) (z1:(prog.globals[g]?).map (·.type)=some t) (ht:prog.underlying t=some (.array n e)) (he:prog.underlying e=some (.int k)) (z8:prog.cellsOf e=1) (za:prog.cellsOf t=n):
  g<w.heap.size/\∃t fr,w.heap[g]?=some (.cells (zs.map λz=>Value.int k z).toArray t fr):=by
 have h1:=h.filter (λx=>x.1==name);rw[hl]at h1;have h2:Lib.TabIs prog w name k zs:=Lib.tabIs_of_head hg z1 ht he z8 za h1;unfold Lib.TabIs World.var? at h2;rw[hg]at h2;simp only[wc]at h2;cases ho:w.heap[g]? with
 |none=>rw[ho]at h2;simp at h2
 |some o=>rw[ho]at h2;refine⟨(x9.1 ho).1,?_⟩;cases o<;>simp at h2;rename_i cs t fr;exact⟨t,fr,by rw[h2]⟩
end
section
open Go.Proofs Go.RowKit Go.Proofs.YtdcnaocpompcpaaGreatDoor
def B5 {H:Type} {enc:TypeId×Value->H} {P:Program} {w:World} {base:Nat} {sp:Nat->Bool} {held:Bool} {fuel:Nat} {t:TypeId} {ms:Array (String×TypeId)} {cs:List Value} {x:DataW H×List MemPlace}
  (ht:P.underlying t=some (.interface ms)) (h:DataW.trod enc P w base sp held fuel t cs=some x):∃ev,cs=[ev]/\(ev= .nilIface\/∃te pe,ev= .iface te pe):=by
 cases fuel with
 |zero=>simp[DataW.trod]at h
 |succ n=>unfold DataW.trod at h;rw[ht]at h;split at h<;>simp_all
def j0r {l:List (String×DataW Unit)} {w:World} {name:String} {D:DataW Unit} {g:Nat} {t:TypeId} {ms:Array (String×TypeId)} (h:laidMetH prog l w) (hl:l.filter (λx=>x.1==name)=[(name,D)]) (hD:D.handleName? =none)
  (hg:prog.globalNamed name=some g) (z8:(prog.globals[g]?).map (·.type)=some t) (ht:prog.underlying t=some (.interface ms)):
  g<w.heap.size/\∃(cs:List Value) (t:TypeId) (fr:Nat×Nat),Fa cs/\w.heap[g]?=some (.cells cs.toArray t fr):=by
 have h1:=h.filter (λx=>x.1==name);rw[hl]at h1;unfold laidMetH at h1;simp only[List.filter,hD,Option.isSome_none,Option.isNone_none]at h1;obtain⟨ps,⟨g',t',cs,fuel,p,q,za,zb,z1,hd,_,_⟩,_⟩:=h1;obtain rfl:=Option.some.inj (hg.symm.trans za);obtain rfl:=Option.some.inj (z8.symm.trans zb);obtain⟨ev,zc,zd⟩:=B5 ht hd;unfold World.var? at z1;rw[hg]at z1;simp only[wc]at z1;cases ho:w.heap[g]? with
 |none=>rw[ho]at z1;simp at z1
 |some o=>rw[ho]at z1;refine⟨(x9.1 ho).1,?_⟩;cases o<;>simp at z1;rename_i ze t fr;exact⟨[ev],t,fr,⟨ev,rfl,zd⟩,by rw[z1,<-zc]⟩
def z0x{w:World}(h:w.ShapedOpen prog):7<w.heap.size/\∃(cs:List Value) (t:TypeId) (fr:Nat×Nat),w0z cs/\w.heap[7]?=some (.cells cs.toArray t fr):=by
 obtain⟨m,hm⟩:=Go.Proofs.cell_of_shapedOpen_int (zero:= #[.int .i64 0]) (t:=3) (g:=7) h (of_decide_eq_true (by kernel_rfl)) (by kernel_rfl) rfl (by kernel_rfl) (by kernel_rfl) underlying3;obtain⟨cs,hh,hs,_⟩:=h.1 7 #[.int .i64 0] 3 (of_decide_eq_true (by kernel_rfl)) (by kernel_rfl);refine⟨(x9.1 hh).1,cs.toList,3,_,⟨m,?_⟩,by simpa using hh⟩;rw[Lib.cell_of_heap hh]at hm;rcases cs with⟨cs⟩
 match cs,hs with
 |[v],_=>simpa using hm
def q1e {l:List (String×DataW Unit)} {w:World} {D E:DataW Unit} (h:laidMetH prog l w) (hS:w.ShapedOpen prog) (hl:l.filter (λx=>x.1== "internal/strconv.uint64pow10")=[("internal/strconv.uint64pow10",Lib.tabData .u64 Lib.pow10Tab)])
  (z1:l.filter (λx=>x.1== "strconv.ErrSyntax")=[("strconv.ErrSyntax",D)]) (z8:l.filter (λx=>x.1== "strconv.ErrRange")=[("strconv.ErrRange",E)]) (hD:D.handleName? =none) (hE:E.handleName? =none):EOK prog w (·<w.heap.size):=λg cs hm=>by
 rcases yZ.1 hm with e|hm
 ·cases e
  obtain⟨h1,t,fr,h2⟩:=w1q (t:=297) (e:=244) (n:=20) h hl (by kernel_rfl) (by kernel_rfl) (by kernel_rfl) (by kernel_rfl) (by kernel_rfl) (by kernel_rfl)
  exact⟨h1,_,t,fr,rfl,h2⟩
 rcases yZ.1 hm with e|hm
 ·cases e
  exact z0x hS
 rcases yZ.1 hm with e|hm
 ·cases e
  exact j0r (t:=230) h z1 hD (by kernel_rfl) (by kernel_rfl) underlying230
 have e:=yU.1 hm
 cases e
 exact j0r (t:=230) h z8 hE (by kernel_rfl) (by kernel_rfl) underlying230
end
section
open Go.Proofs Go.RowKit Go.Proofs.YtdcnaocpompcpaaGreatDoor
def q1p{d:Nat}{ts:List Nat}{xs:List AV}(h:Uv T (d+2) (22::ts) xs):∃(l:List Nat) (r:List AV),xs= .list (l.map encU)::r/\(∀k∈l,k<256)/\Uv T (d+2) ts r:=by
 obtain⟨i,zs,r,hi,rfl,h1,h⟩:=h;rw[T22]at hi;cases hi;simp only[Shp,T22,x08]at h1;obtain⟨ei,xs,he,rfl,hl,hx⟩:=h1;rw[T5]at he;cases he;obtain⟨l,rfl,hq⟩:=Cr (g:=encU) (Q:=λk=>k<256) xs (λx z1=>by
  obtain⟨zs,rfl,hz⟩:=hx x z1;simp only[Shp,T5,x08]at hz;obtain⟨n,hn,a1,a2⟩:=hz;have b1:0<=n:=a1;have b2:n<=255:=a2;clear a1 a2;obtain⟨m,rfl⟩:=xF b1;cases hn;exact⟨m,rfl,by omega⟩)
 exact⟨l,r,rfl,hq,h⟩
def v1d{d:Nat}{ts:List Nat}{xs:List AV}(h:Uv T (d+2) (23::ts) xs):∃(l:List Int) (r:List AV),xs= .list (l.map encI)::r/\Uv T (d+2) ts r:=by
 obtain⟨i,zs,r,hi,rfl,h1,h⟩:=h;rw[T23]at hi;cases hi;simp only[Shp,T23,x08]at h1;obtain⟨ei,xs,he,rfl,hl,hx⟩:=h1;rw[T3]at he;cases he;obtain⟨l,rfl,_⟩:=Cr (g:=encI) (Q:=λ_=>True) xs (λx z1=>by
  obtain⟨zs,rfl,hz⟩:=hx x z1;obtain⟨n,rfl,_⟩:=w12 (d:=d) hz;exact⟨n,rfl,trivial⟩)
 exact⟨l,r,rfl,h⟩
end
end Go.Abs
