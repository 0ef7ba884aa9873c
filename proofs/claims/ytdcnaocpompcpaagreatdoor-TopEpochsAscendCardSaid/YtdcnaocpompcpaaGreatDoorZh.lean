/- Part Zh of the proof: steps on the way to the last part. No condition. -/
import Derived.Test.YtdcnaocpompcpaaGreatDoorZk
import Derived.Test.YtdcnaocpompcpaaGreatDoorZg
import Derived.Test.YtdcnaocpompcpaaGreatDoorZd
import Derived.Test.YtdcnaocpompcpaaGreatDoorZe
import Derived.Test.YtdcnaocpompcpaaGreatDoorZf
import Derived.Test.YtdcnaocpompcpaaGreatDoorZc
set_option linter.all false
open List renaming map_cons->z_,length_append->zL,mem_singleton->xd,mem_map->xg,mem_of_getElem?->zE,getElem?_eq_getElem->zG,getElem?_eq_some_iff->zD,getElem_mem->yB,range->xV,mem_range->uB,map_nil->yM,getElem?_map->zU,getElem?_append_right->zF,replicate->zH,ext_getElem?->xk,getElem?_mapIdx->xy,getElem?_replicate->xt,getElem?_set->zW,mem_iff_getElem->vV
open Nat renaming le_trans->yD,lt_add_one_iff->ue,le_refl->zR
open Int renaming le_refl->wI
set_option maxHeartbeats 16000000
set_option linter.unusedSimpArgs false
set_option maxRecDepth 100000
open Go.Proofs.Tryz
namespace Go.Abs
open Go
section
open Go.Proofs
def g0m:Trk:=⟨0,[],[],0⟩
def rdJ(v:Int):Rdr:=⟨0,v,g0m⟩
def opJ(m:Int):Opr:=⟨[m],[]⟩
def snJ(n v:Int)(ms:List Int):Snp:=⟨n,[rdJ v],ms.map opJ⟩
def j0t(ms:List Int):We Pf (ms.map opJ)=0:=by
 induction ms with
 |nil=>rfl
 |cons m ms ih=>rw[z_,We,ih];rfl
def g04(n v:Int){ms:List Int}(h:ms.length<=3):U2 (snJ n v ms)=0:=by
 have h1:Rz Pf (ms.map opJ)=0:=by rw[Rz,if_neg (by simp;omega),j0t]
 have h2:Rz Sc [rdJ v]=0:=rfl;show orE (Rz Sc [rdJ v]) (Rz Pf (ms.map opJ))=0;rw[h1,h2];rfl
def v08(n v:Int){ms:List Int}(h:ms.length<=3):(W2 (snJ n v ms)).length<=200:=by
 have a:=Pd n;have a0:=Pd 0;have h1:(Rh Wm ([]:List Int)).length<=10+0 * 10:=I9 (by simp) (by simp);have h2:(Rh Is ([]:List Pnt)).length<=10+0 * 10:=I9 (by simp) (by simp);have h3:(Rh U1 ([]:List Kyd)).length<=10+0 * 10:=I9 (by simp) (by simp);have ht:(Gj g0m).length<=40:=by simp only[Gj,g0m,zL];omega
 have hr:(Rh Ub [rdJ v]).length<=10+1 * 60:=I9 (by simp) (λr hr=>by
  rw[xd.1 hr];have:=Pd v;simp only[Ub,rdJ,zL];omega)
 have ho:(Rh Ue (ms.map opJ)).length<=10+3 * 30:=I9 (by simpa using h) (λo ho=>by
  obtain⟨m,_,rfl⟩:=xg.1 ho;have h4:(Rh Wm [m]).length<=10+1 * 10:=I9 (by simp) (λx _=>Pd x);simp only[Ue,opJ,zL];omega)
 simp only[W2,snJ,zL];omega
def JS(m:Int)(s:Snp):Prop:=∃v ms,s=snJ m v ms/\i64 m/\i64 v/\ms.length<=3/\∀x∈ms,i64 x
def Ke:i64 0:=by unfold i64;omega
def JS.enc{m:Int}{s:Snp}(h:JS m s):(Qt s).2=0/\(Qt s).1.length<=600/\(W2 s).length<=900000000:=by
 obtain⟨v,ms,rfl,h1,h2,h3,h4⟩:=h;have hl:=v08 m v h3;have he:Qt (snJ m v ms)=(Fh (W2 (snJ m v ms)),0):=by rw[Qt,if_neg (by rw[g04 m v h3];simp),if_neg (by omega)]
 rw[he];refine⟨rfl,?_,by omega⟩;simp[Fh,Cl];omega
def JS.num{m:Int}{s:Snp}(h:JS m s):s.number=m:=by obtain⟨v,ms,rfl,_⟩:=h;rfl
def JS.i{m:Int}{s:Snp}(h:JS m s):x1h s:=by
 obtain⟨v,ms,rfl,h1,h2,h3,h4⟩:=h;refine⟨h1,λr hr=>?_,λo ho=>?_⟩
 ·rw[xd.1 hr];exact⟨Ke,h2,Ke,by simp[rdJ,g0m],by simp[rdJ,g0m],Ke⟩
 obtain⟨x,hx,rfl⟩:=xg.1 ho;exact⟨λn hn=>by rw[xd.1 hn];exact h4 x hx,by simp[opJ]⟩
def JS.j{m:Int}{s:Snp}(h:JS m s):g0i s:=by
 have hi:=h.i;obtain⟨v,ms,rfl,h1,h2,h3,h4⟩:=h;refine⟨h1,⟨by simp[snJ],λr hr=>⟨hi.2.1 r hr,?_⟩⟩,by simp[snJ];omega,λo ho=>?_⟩
 ·rw[xd.1 hr];simp[rdJ,g0m]
 obtain⟨x,hx,rfl⟩:=xg.1 ho;exact⟨⟨by simp[opJ],λn hn=>by rw[xd.1 hn];exact h4 x hx⟩,by simp[opJ],by simp[opJ]⟩
attribute [local irreducible] Ra Q5 Qt
def Small(fs:List File):Prop:=∀f∈fs,f.dur.length<=600/\f.vol.length<=600
def Small.bd{fs:List File}(h:Small fs):BD fs:=λf hf=>⟨by have:=(h f hf).1;omega,by have:=(h f hf).2;omega⟩
def Small.put{fs:List File}(h:Small fs){f:File}(h1:f.dur.length<=600)(h2:f.vol.length<=600):Small (Tx fs f):=λg hg=>by
 rcases Yt hg with rfl|hg
 ·exact⟨h1,h2⟩
 exact h g hg
def Small.sums{fs:List File}(h:Small fs)(hl:fs.length<=100):¬(65536:Int)<W (Aw fs)/\¬(65536:Int)<W (A0 fs):=by
 have hv:Aw fs<=100 * 600:=Ir fs _ 600 100 hl (λf hf=>(h f hf).2);have hd:A0 fs<=100 * 600:=Ir fs _ 600 100 hl (λf hf=>(h f hf).1);constructor
 ·rw[W,wrap_i64 _ (by omega) (by omega)];omega
 rw[W,wrap_i64 _ (by omega) (by omega)];omega
def Lr{fs:List File}(h:Small fs)(hl:fs.length<=100):Lv ⟨fs,65536⟩=(⟨fs,65536⟩,0):=by obtain⟨h1,h2⟩:=h.sums hl;rw[Lv,if_neg (by simp only;omega),if_neg];simp only[Ff,Bool.or_eq_true,decide_eq_true_eq,not_or];exact⟨h1,h2⟩
structure Rm (d:Disk) (k:Nat):Prop where
 good:Good d
 sp:d.space=65536
 len:d.files.length<=k
 small:Small d.files
def Rm.le{d:Disk}{k l:Nat}(h:Rm d k)(hl:k<=l):Rm d l:=⟨h.good,h.sp,yD h.len hl,h.small⟩
def k05{d:Disk}{k:Nat}(h:Rm d k)(hk:k<100){m:Int}{s:Snp}(hs:JS m s)(hv:W1 m=0):
  ∃f:File,f.name=Wx m/\Yx d s=(⟨Tx d.files f,65536⟩,0)/\Rm ⟨Tx d.files f,65536⟩ (k+1):=by
 obtain⟨e1,e2,_⟩:=hs.enc;obtain⟨fs,sp⟩:=d;obtain⟨hg,rfl,hlen,z8⟩:=h;simp only at hlen z8;have hn:=hs.num;have z1:(Kj ⟨fs,65536⟩ (Wx s.number)).dur.length<=600:=Bh (λf hf=>(z8 f hf).1) _;have ze:=Ye fs { Kj ⟨fs,65536⟩ (Wx s.number)with vol:=(Qt s).1 };have za:Small (Tx fs { Kj ⟨fs,65536⟩ (Wx s.number)with vol:=(Qt s).1 }):=z8.put z1 e2;have zb:(Tx fs { Kj ⟨fs,65536⟩ (Wx s.number)with vol:=(Qt s).1 }).length<=100:=by omega
 have zc:(Yx ⟨fs,65536⟩ s).2=0:=by
  have zd:(Wl ⟨fs,65536⟩ (Wx s.number) (wrG (Qt s).1))=(⟨Tx fs { Kj ⟨fs,65536⟩ (Wx s.number)with vol:=(Qt s).1 },65536⟩,0):=by rw[D7,Yl (Ew.2 hg),if_pos (u0y (by rw[hn];exact hv)),if_pos rfl,Pe hg.sorted];exact Lr za zb
  have hw:wrS s ⟨fs,65536⟩=(⟨Tx fs { Kj ⟨fs,65536⟩ (Wx s.number)with vol:=(Qt s).1 },65536⟩,0):=by rw[wrS,if_neg (by rw[hn];exact λh=>h hv),if_neg (λh=>h e1),zd]
  unfold Yx Ts;rw[if_neg (λh=>h (Ew.2 hg))];show(if(wrS s ⟨fs,65536⟩).2≠0 then(W7,(wrS s ⟨fs,65536⟩).2)else((wrS s ⟨fs,65536⟩).1,0)).2=0;rw[hw];rfl
 obtain⟨_,_,f,k1,k2,k3,k4,k5⟩:=Am hg zc;rw[hn]at k1;refine⟨f,k1,k4,k5,rfl,?_,z8.put ?_ ?_⟩
 ·have:=Ye fs f;simp only;omega
 ·rw[k3];exact z1
 rw[k2];exact e2
def x03{a:Disk}{k:Nat}(h:Rm a k)(hk:k<=100){n:Int}(hv:W1 n=0){f:File}(hf:f∈a.files)(hn:f.name=Wx n):(U5 a n).2=0:=by
 obtain⟨fs,sp⟩:=a;obtain⟨hg,rfl,hlen,z1⟩:=h;simp only at hlen z1 hf;have hc:=Ew.2 hg;obtain⟨fn,fd,fv⟩:=f;obtain rfl:fn=Wx n:=hn;unfold U5 Ts;rw[if_neg (λh=>h hc)];simp only[g0r,q04];rw[if_neg (λh=>h hv)];have hs:=Xh hg hf;rcases hs with h1|⟨h1,h2,h3⟩
 ·exfalso;obtain⟨i,za,hi,z8⟩:=Ud hg.sorted hf;simp only at hi z8 za;rw[Tj,Yl hc,if_pos (hg.names _ hf),if_pos rfl]at h1;simp only at h1;rw[z8]at h1;simp only at h1;have zb:Small (Gc fs i):=by
   rw[Gc,hi];intro g hg;rcases List.mem_or_eq_of_mem_set hg with h|rfl
   ·exact z1 g h
   exact⟨(z1 _ hf).2,(z1 _ hf).2⟩
  have ze:(Gc fs i).length=fs.length:=by rw[Gc,hi];simp
  rw[f0o,if_neg (zb.sums (by omega)).2]at h1;cases h1
 rw[if_neg (by rw[h1];decide),h2];have hm:(⟨Wx n,fv,fv⟩:File)∈Tx fs ⟨Wx n,fv,fv⟩:=zE (Y9 fs ⟨Wx n,fv,fv⟩);have zc:BD (Tx fs ⟨Wx n,fv,fv⟩):=Fu z1.bd ⟨(z1.bd _ hf).2,(z1.bd _ hf).2⟩;obtain⟨r1,r2⟩:=Dj h3 zc hm (Bv hv) (Ld n n);have zd:Rg ⟨Tx fs ⟨Wx n,fv,fv⟩,65536⟩ (Wx n) (Rb n)=_:=r1;simp only;rw[zd];rfl
def c04{d:Disk}{k:Nat}(h:Rm d k)(hk:k<100){m:Int}{s:Snp}(hs:JS m s)(hv:W1 m=0):
  ∃x:Disk,Ar d s=(x,0)/\Rm x (k+1)/\ckF s∈x.files/\(∀z∈d.files,z.name≠Wx m->z.name≠Rb m->z∈x.files)/\
   (∀z∈x.files,z=ckF s\/z∈d.files):=by
 obtain⟨e1,e2,_⟩:=hs.enc;have hn:=hs.num;obtain⟨f,k1,k2,k3⟩:=k05 h hk hs hv;have z1:(Ar d s).2=0:=by
  rcases Hs (s:=s) h.good with⟨h1,h2⟩|⟨h1,h2⟩
  ·rw[k2]at h1;exact absurd rfl h1
  rw[h2,k2,hn];exact x03 k3 (by omega) hv (zE (Y9 d.files f)) k1
 obtain⟨_,_,x,q1,q2,q3,q4,q5,q6,q7,q8⟩:=w0s h.good h.small.bd (by omega) z1;rw[hn]at q5 q6 q7;refine⟨x,q1,⟨q2,by rw[q4];exact h.sp,by have:=h.len;omega,λz hz=>?_⟩,by rw[ckF,hn];exact q5,q6,λz hz=>?_⟩
 ·rcases q7 z hz with rfl|⟨h1,_⟩
  ·exact⟨e2,e2⟩
  exact h.small z h1
 rcases q7 z hz with rfl|⟨h1,_⟩
 ·left;rw[ckF,hn]
 exact .inr h1
def v0v{d:Disk}{k:Nat}(h:Rm d k)(hk:k<=100)(cs:List Int):
  ∃x:Disk,(R2 d cs).1=x/\(R2 d cs).2.2=0/\Rm x k/\(∀z∈d.files,z.dur=z.vol->z∈x.files)/\∀y∈x.files,∃z∈d.files,y.name=z.name/\(z.dur=z.vol->y=z):=by
 obtain⟨fs,sp⟩:=d;obtain⟨hg,rfl,hlen,ze⟩:=h;simp only at hlen ze;have zb:=Iv fs cs;have zc:∀i (hi:i<fs.length),∃z1,(W3 fs cs).1[i]?=some (⟨fs[i].name,(Es fs[i] z1).1,(Es fs[i] z1).1⟩:File):=λi hi=>by obtain⟨z1,hc⟩:=Ay fs [] cs i _ (zG hi);simp only[List.length_nil,Nat.zero_add]at hc;exact⟨z1,hc⟩
 have z8:∀y∈(W3 fs cs).1,∃z∈fs,∃z1,y=(⟨z.name,(Es z z1).1,(Es z z1).1⟩:File):=λy hy=>by
  obtain⟨i,hi⟩:=List.mem_iff_getElem?.1 hy;have zf:i<fs.length:=by rw[<-zb];exact(zD.1 hi).1
  obtain⟨z1,hc⟩:=zc i zf;rw[hi]at hc;exact⟨fs[i],yB zf,z1,Option.some.inj hc⟩
 have zd:Small (W3 fs cs).1:=λy hy=>by
  obtain⟨z,hz,z1,rfl⟩:=z8 y hy;have zg:=ze z hz;have:(Es z z1).1.length<=600:=by
   rcases(Y7 z z1).1 with h|h
   ·rw[h];exact zg.1
   rw[List.isPrefixOf_iff_prefix]at h;exact yD h.length_le zg.2
  exact⟨this,this⟩
 rcases B7 hg cs with h1|⟨h1,h2,_,h4⟩
 ·exfalso;rw[R2,if_pos (Ew.2 hg)]at h1;simp only at h1;rw[Lr zd (by omega)]at h1;simp at h1
 simp only at h2 h4;refine⟨_,h2,h1,⟨h4,rfl,by simp only;omega,zd⟩,λz hz za=>?_,λy hy=>?_⟩
 ·obtain⟨i,hi,rfl⟩:=List.getElem_of_mem hz;obtain⟨z1,hc⟩:=zc i hi;have:=(Y7 fs[i] z1).2 za;refine zE (i:=i) ?_;rw[hc,this]
  congr 1
  cases hfi:fs[i];rw[hfi]at za;simp only at za;subst za;rfl
 obtain⟨z,hz,z1,rfl⟩:=z8 y hy;refine⟨z,hz,rfl,λza=>?_⟩;have:=(Y7 z z1).2 za;rw[this];obtain⟨a,b,c⟩:=z;simp only at za;subst za;rfl
end
section
open Go.Proofs
attribute [local irreducible] Ra Q5 Qt
structure DJ (d:Disk) (k:Nat) (D:Int) (σ:Int->Snp):Prop where
 rm:Rm d k
 top:D<=1000
 js:∀m,1<=m->m<=D->JS m (σ m)
 has:∀m,1<=m->m<=D->ckF (σ m)∈d.files
 all:∀x∈d.files,(∃m,1<=m/\m<=D/\x=ckF (σ m))\/∃m,x.name=Wx m
def Pb{m:Int}{s:Snp}(h:JS m s):(ckF s).name=Rb m:=by rw[ckF,h.num]
def Oc{m:Int}(h1:1<=m)(h2:m<=1000):W1 m=0:=(Tk m).2 ⟨h1,by omega⟩
def sig(σ:Int->Snp)(n:Int)(s:Snp):Int->Snp:=λm=>if m=n then s else σ m
def Db(σ:Int->Snp)(n:Int)(s:Snp):sig σ n s n=s:=if_pos rfl
def w01{σ:Int->Snp}{n m:Int}(s:Snp)(h:m≠n):sig σ n s m=σ m:=if_neg h
def DJ.begin(k:Nat)(σ:Int->Snp):DJ ⟨[],65536⟩ k 0 σ:=
 ⟨⟨⟨rfl,by simp,List.Pairwise.nil,by simp,by decide,by decide⟩,rfl,by simp,by simp[Small]⟩,by omega,λm h1 h2=>by omega,λm h1 h2=>by omega,λx hx=>by simp at hx⟩
def DJ.le{d:Disk}{k l:Nat}{D:Int}{σ:Int->Snp}(h:DJ d k D σ)(hl:k<=l):DJ d l D σ:=⟨h.rm.le hl,h.top,h.js,h.has,h.all⟩
def DJ.save{d:Disk}{k:Nat}{D:Int}{σ:Int->Snp}(h:DJ d k D σ)(hk:k<100){s:Snp}(hs:JS (D+1) s)(hD:0<=D)(h2:D+1<=1000):
  ∃x,Ar d s=(x,0)/\DJ x (k+1) (D+1) (sig σ (D+1) s):=by
 have hv:=Oc (m:=D+1) (by omega) h2;obtain⟨x,e1,e2,e3,e4,e5⟩:=c04 h.rm hk hs hv;refine⟨x,e1,e2,h2,λm m1 m2=>?_,λm m1 m2=>?_,λy hy=>?_⟩
 ·by_cases hm:m=D+1
  ·rw[hm,Db];exact hs
  rw[w01 s hm];exact h.js m m1 (by omega)
 ·by_cases hm:m=D+1
  ·rw[hm,Db];exact e3
  rw[w01 s hm];have hj:=h.js m m1 (by omega);refine e4 _ (h.has m m1 (by omega)) (by rw[Pb hj];exact λh=>Ld _ _ h.symm) ?_;rw[Pb hj];exact λh=>hm (F3 (Oc m1 (by omega)) hv h)
 rcases e5 y hy with rfl|hy
 ·exact .inl ⟨D+1,by omega,by omega,by rw[Db]⟩
 rcases h.all y hy with⟨m,m1,m2,rfl⟩|hm
 ·exact .inl ⟨m,m1,by omega,by rw[w01 s (by omega)]⟩
 exact .inr hm
def DJ.crash{d:Disk}{k:Nat}{D:Int}{σ:Int->Snp}(h:DJ d k D σ)(hk:k<=100)(cs:List Int):
  ∃x,(R2 d cs).1=x/\(R2 d cs).2.2=0/\DJ x k D σ:=by
 obtain⟨x,e1,e2,e3,e4,e5⟩:=v0v h.rm hk cs;refine⟨x,e1,e2,e3,h.top,h.js,λm m1 m2=>e4 _ (h.has m m1 m2) rfl,λy hy=>?_⟩;obtain⟨z,hz,hn,hd⟩:=e5 y hy;rcases h.all z hz with⟨m,m1,m2,rfl⟩|⟨m,hm⟩
 ·exact .inl ⟨m,m1,m2,hd rfl⟩
 exact .inr ⟨m,by rw[hn,hm]⟩
def DJ.hasD{d:Disk}{k:Nat}{D:Int}{σ:Int->Snp}(h:DJ d k D σ){m:Int}{u:Snp}(hm:Has d m u):1<=m/\m<=D:=by
 obtain⟨f,hf,hn,hv,hd,hu⟩:=hm;rcases h.all f hf with⟨j,j1,j2,rfl⟩|⟨j,hj⟩
 ·have hj:=h.js j j1 j2;rw[Pb hj]at hn;have:=F3 (Oc j1 (by have:=h.top;omega)) hv hn;omega
 rw[hj]at hn;exact absurd hn (Ld _ _)
def DJ.load{d:Disk}{k:Nat}{D:Int}{σ:Int->Snp}(h:DJ d k D σ)(hD:0<=D):U8 d=if D=0 then(Uy,6)else(σ D,0):=by
 by_cases h0:D=0
 ·rw[if_pos h0];exact z0y h.rm.good (λm u hm=>by have:=h.hasD hm;omega)
 rw[if_neg h0];have hj:=h.js D (by omega) (wI _);have hh:=y1c (h.has D (by omega) (wI _)) (by rw[hj.num];exact Oc (by omega) h.top) hj.enc.1 hj.i;rw[hj.num]at hh;exact f0m h.rm.good hh (λm u hm=>(h.hasD hm).2)
def Gn:∀ {fs:List File},Wq fs->(Tt fs).Nodup
 |[],_=>by simp[Tt]
 |f::fs,h=>by
  rw[Wq,List.pairwise_cons]at h;have ih:=Gn h.2;unfold Tt at ih |-;rw[List.filterMap_cons];split
  ·exact ih
  rename_i n hn;rw[List.nodup_cons];refine⟨λhm=>?_,ih⟩;obtain⟨g,hg,z1⟩:=List.mem_filterMap.1 hm;have e:∀x:File,q09 x=some n->x.name=Rb n:=λx hx=>by
   rw[q09]at hx;split at hx
   ·rename_i hc;injection hx with hx
    exact(Uw.1 (show Ra Cp x.name=(n,true) from Prod.ext hx hc)).1
   cases hx
  have hb:=h.1 g hg;rw[e f hn,e g z1]at hb;rw[Ea]at hb;cases hb
def DJ.list{d:Disk}{k:Nat}{D:Int}{σ:Int->Snp}(h:DJ d k D σ)(hD:0<=D):(Cq d).2=0/\((Cq d).1.length:Int)=D:=by
 have hc:=Ew.2 h.rm.good;rw[Cq,if_neg (λh=>h hc)];refine⟨rfl,?_⟩;show((Wj d).length:Int)=D;have z1:∀n,n∈Wj d↔1<=n/\n<=D:=λn=>by
  rw[O8];constructor
  ·rintro⟨f,hf,hn⟩;obtain⟨e,hv⟩:=Uw.1 hn;rcases h.all f hf with⟨j,j1,j2,rfl⟩|⟨j,hj⟩
   ·rw[Pb (h.js j j1 j2)]at e;have:=F3 (Oc j1 (by have:=h.top;omega)) hv e;omega
   rw[hj]at e;exact absurd e (Ld _ _)
  rintro⟨n1,n2⟩;refine⟨_,h.has n n1 n2,?_⟩;rw[Pb (h.js n n1 n2)];exact Uw.2 ⟨rfl,Oc n1 (by have:=h.top;omega)⟩
 have z8:(Wj d).Nodup:=by rw[Wj,Fm];exact(List.mergeSort_perm _ _).nodup_iff.2 (Gn h.rm.good.sorted)
 have hp:(Wj d).Perm ((xV D.toNat).map λ(i:Nat)=>(i:Int)+1):=by
  refine(List.perm_ext_iff_of_nodup z8 ?_).2 λn=>?_
  ·refine List.Pairwise.map _ ?_ List.nodup_range;intro a b za h;apply za;omega
  rw[z1,xg];constructor
  ·intro hn;exact⟨(n - 1).toNat,uB.2 (by omega),by omega⟩
  rintro⟨i,hi,rfl⟩;have:=uB.1 hi;omega
 rw[hp.length_eq];simp;omega
end
section
open Go.Proofs
attribute [local irreducible] Qt Ra Q5
def FC.imp{P:Program}[Env P]{f:FuncId}{args:List AV}{H:List AObj}{R R':AV->List AObj->Prop}(h:FC P f args H R)(hr:∀r H',R r H'->R' r H'):FC P f args H R':=h.mono hr
def d0u{s:Snk}(h:WfS s)(e x:Int)(he:s.ep<e)(z8:e<=1099511627776)(hle:∀b∈s.pend,b.ep<=e)(hl:s.pend.length<256)(za:Y2 s<4096):PC prog 44 [encSk s,.i e,.list [chA x]] (λr=>r= .tup [encSk ⟨s.ep,s.com,Xv s.pend e x⟩,.i 0]):=by
 rcases List.eq_nil_or_concat s.pend with hp|⟨l,b,hp⟩
 ·have z1:∀b∈s.pend,b.ep<e:=by rw[hp];simp
  rw[J0 z1];exact x02 h e x he z8 z1 hl za
 rw[List.concat_eq_append]at hp;by_cases hb:b.ep=e
 ·have zb:b=⟨e,b.chs⟩:=by rw[<-hb]
  rw[zb]at hp;have:=c0e h e x he z8 l b.chs hp hl za;rw[hp,w0u];exact this
 have z1:∀y∈s.pend,y.ep<e:=λy hy=>by
  have zc:=hle b (by rw[hp];simp);rw[hp]at hy;rcases List.mem_append.1 hy with hy|hy
  ·have:=h.asc;rw[hp,List.pairwise_append]at this;have:=this.2.2 y hy b (by simp);omega
  rw[xd.1 hy];omega
 rw[J0 z1];exact x02 h e x he z8 z1 hl za
def g0y(e a:Int):seg e a a=[]:=by rw[seg,if_neg (by omega)]
def Xf:∀ {e a:Int} {vs:List Int} {n:Int},Ki a vs n->Ti e a (vs++[n]) n=Ti e a vs n
 |e,a,[],n,_=>by simp[Ti,g0y]
 |e,a,v::vs,n,h=>by rw[List.cons_append,Ti,Ti,Xf h.2]
structure JobI (J q:Nat) (D c:Int) (vs:List Int) (n:Int) (d:Disk) (σ:Int->Snp) (H:List AObj):Prop where
 cell:H[J]?=some (.vars (jcs n (Ot D vs) (Ow D c vs n) d (D+1+vs.length)))
 dj:DJ d q D σ
 last:1<=D->σ D=snJ D c [c]
 zero:D=0->c=0
 D0:0<=D
 Dq:D+vs.length<=q
 c0:0<=c
 asc:Ki c vs n
 nq:n<=q
 q1:q<=95
def JobI.hx{J q:Nat}{D c:Int}{vs:List Int}{n:Int}{d:Disk}{σ:Int->Snp}{H H':List AObj}(h:JobI J q D c vs n d σ H)(hx:HX H H'):JobI J q D c vs n d σ H':=
 ⟨hx _ _ h.cell,h.dj,h.last,h.zero,h.D0,h.Dq,h.c0,h.asc,h.nq,h.q1⟩
def JobI.wfS{J q:Nat}{D c:Int}{vs:List Int}{n:Int}{d:Disk}{σ:Int->Snp}{H:List AObj}(h:JobI J q D c vs n d σ H):WfS (Ow D c vs n):=by have:=h.q1;have:=h.Dq;have:=h.D0;have:=h.nq;exact d09 h.D0 (by omega) (by omega) h.c0 h.asc (by omega)
def JobI.wfC{J q:Nat}{D c:Int}{vs:List Int}{n:Int}{d:Disk}{σ:Int->Snp}{H:List AObj}(h:JobI J q D c vs n d σ H):WfC 1 1 (Ot D vs):=by have:=h.q1;have:=h.Dq;have:=h.D0;exact d0p h.D0 (by omega) (by omega)
def JobI.n0{J q:Nat}{D c:Int}{vs:List Int}{n:Int}{d:Disk}{σ:Int->Snp}{H:List AObj}(h:JobI J q D c vs n d σ H):c<=n/\0<=n:=by have:=h.asc.le;have:=h.c0;omega
def S9{J q:Nat}{D c:Int}{vs:List Int}{n:Int}{d:Disk}{σ:Int->Snp}{H:List AObj}(h:JobI J q D c vs n d σ H)(hq:q<95):
  FC prog 21 [.vptr J 0] H (λr H'=>r= .tup []/\HF J H H'/\JobI J (q+1) D c vs (n+1) d σ H'):=by
 have w:=h.wfS;have h0:=h.n0;have h1:=h.Dq;have h2:=h.nq;have h3:=h.D0;have hlen:=Fb (D+1) c vs n;have z8:=h.c0;have z1:Y2 (Ow D c vs n)<4096:=by rw[Y2,Ow];simp only;rw[Az h.asc,On,On];omega
 have hA:=d0u w (D+1+vs.length) n (by simp only[Ow];omega) (by omega) (λb hb=>(I6 hb).2.1) (by simp only[Ow];omega) z1;rw[u09 h.asc]at hA;refine(c0h H J n _ _ _ d _ ⟨h0.2,by omega⟩ h.cell hA).imp ?_;rintro r H' ⟨rfl,hf,hc⟩;exact⟨rfl,hf,hc,h.dj.le (by omega),h.last,h.zero,h.D0,by omega,h.c0,h.asc.emit,by omega,by omega⟩
def Dw{J q:Nat}{D c:Int}{vs:List Int}{n:Int}{d:Disk}{σ:Int->Snp}{H:List AObj}(h:JobI J q D c vs n d σ H)(hq:q<95):
  FC prog 9 [.vptr J 0] H (λr H'=>r= .tup []/\HF J H H'/\JobI J (q+1) D c (vs++[n]) n d σ H'):=by
 have w:=h.wfC;have h0:=h.n0;have h1:=h.Dq;have h2:=h.nq;have h3:=h.D0;have z8:(Ot D vs).atts.length=vs.length:=by rw[Ot];exact Yk _ _
 have hT:=Gv w (by omega) (by simp only[Ot];omega) [rdJ n] rfl;have w1:=y0z w (by omega) (by simp only[Ot];omega) (rs:=[rdJ n]) rfl;have ha:(Ex (Ot D vs) [rdJ n] 1).atts[vs.length]?=some ⟨D+1+vs.length,[rdJ n],[Rv],[false]⟩:=by rw[Ex];simp only;rw[zF (by omega),z8];simp[Ot]
 have hR:=Lj w1 ha (w:=0) rfl (λb hb=>by
  cases hv:vs.length with
  |zero=>rw[hv]at hb;cases hb
  |succ m=>
   rw[hv]at hb;simp only[U4,Ex]at hb;rw[List.getElem?_append_left (by omega),Ot]at hb;obtain⟨v,rfl⟩:=Ii hb;rfl) [n] (by simp)
 have z1:w0b (Ex (Ot D vs) [rdJ n] 1) vs.length 0 ⟨[n],[]⟩=Ot D (vs++[n]):=by rw[w0b,ha];simp only[Ot,Ex,Pa];rw[G7,List.set_append_right _ _ (by rw[Yk];omega),Yk];simp[rdJ,g0m];omega
 rw[z1]at hR;refine(q00 H J n _ (Ex (Ot D vs) [rdJ n] 1) (Ot D (vs++[n])) _ d _ ⟨by omega,by omega⟩ h.cell hT hR).imp ?_;rintro r H' ⟨rfl,hf,hc⟩;have hs:Ow D c (vs++[n]) n=Ow D c vs n:=by simp only[Ow];rw[Xf h.asc]
 refine⟨rfl,hf,?_,h.dj.le (by omega),h.last,h.zero,h.D0,by simp;omega,h.c0,h.asc.bar,by omega,by omega⟩;have e:D+1+((vs++[n]).length:Int)=D+1+vs.length+1:=by simp;omega
 rw[hc,hs,e]
def u0n(D v:Int)(vs:List Int):v0k (Ot D (v::vs)) (D+1)=Ot (D+1) vs:=by
 have e:D+1+((v::vs).length:Int)=D+1+1+vs.length:=by simp;omega
 simp only[v0k,Ot,Oe,List.drop_succ_cons,List.drop_zero,e]
def Mr{D v:Int}{vs:List Int}(w:WfC 1 1 (Ot D (v::vs))):PC prog 15 [encCr (Ot D (v::vs))] (λr=>r= .tup [avSnp (snJ (D+1) v [v]),.bool true,.i 0]):=
 (Jd w).mono λr h=>h.1 _ rfl (by simp)
def z1z{D v:Int}(h1:0<=D/\D<=1000)(h2:0<=v/\v<=1000):JS (D+1) (snJ (D+1) v [v]):=
 ⟨v,[v],rfl,by unfold i64;omega,by unfold i64;omega,by simp,λx hx=>by rw[xd.1 hx];unfold i64;omega⟩
def Ky{J q:Nat}{D c v:Int}{vs:List Int}{n:Int}{d:Disk}{σ:Int->Snp}{H:List AObj}(h:JobI J q D c (v::vs) n d σ H)(hq:q<95):
  FC prog 10 [.vptr J 0] H (λr H'=>r= .tup []/\HF J H H'/\∃d' σ',JobI J (q+1) (D+1) v vs n d' σ' H'):=by
 have w:=h.wfC;have ws:=h.wfS;have h0:=h.n0;have h1:=h.Dq;have h2:=h.nq;have h3:=h.D0;have h4:=h.c0;simp only[List.length_cons]at h1;have hv:=h.asc.mem v (by simp);have js:=z1z (D:=D) (v:=v) ⟨by omega,by omega⟩ ⟨by omega,by omega⟩;obtain⟨x,e1,e2⟩:=h.dj.save (by omega) js h3 (by omega);have hS:=Bk d (snJ (D+1) v [v]) js.j js.enc.2.2 (by rw[js.num];unfold i64;omega);rw[e1]at hS;have ha:(Ot D (v::vs)).atts[0]?=some ⟨D+1,[⟨0,v,⟨0,[],[],0⟩⟩],[⟨[v],[]⟩],[true]⟩:=rfl;have hF:=K5 w ha (by simp);simp only at hF;rw[u0n]at hF;have hC:=y0q ws (D+1) (by simp only[Ow];omega) (by omega) ws.size;rw[u04 h4 h.asc]at hC;have z1:D+1+((v::vs).length:Int)=D+1+1+vs.length:=by simp;omega
 refine(j09 H J n _ (Ot (D+1) vs) _ (Ow (D+1) v vs n) d x _ (snJ (D+1) v [v]) h.cell (Mr w) hS hF hC).imp ?_;rintro r H' ⟨rfl,hf,hc⟩;rw[z1]at hc;exact⟨rfl,hf,x,_,hc,e2,λ_=>Db _ _ _,λh=>by omega,by omega,by omega,by omega,h.asc.2,by omega,by omega⟩
def Ab{J q:Nat}{D c:Int}{vs:List Int}{n:Int}{d:Disk}{σ:Int->Snp}{H:List AObj}(h:JobI J q D c vs n d σ H):
  FC prog 8 [.vptr J 0,.i c] H (λr H'=>r= .bool true/\HX H H'):=by
 have h0:=h.n0;have h2:=h.nq;have h3:=h.c0;have h4:=h.q1;obtain⟨m,rfl⟩:=Int.eq_ofNat_of_zero_le h3;exact Ku H J n _ (Ow D m vs n) d _ m (by omega) rfl h.cell
end
section
open Go.Proofs
attribute [local irreducible] Qt Ra Q5 U8 R2
def FC.nilArg{P:Program}[Env P]{f:FuncId}{a:AV}{H:List AObj}{R:AV->List AObj->Prop}(h:FC P f [a,.list []] H R):FC P f [a,.nils] H R:=
 ⟨h.1,λW0 I0 w I m vals hE hw hl hv=>h.2 W0 I0 w I m vals hE hw hl λi v x z8 z1=>by
  match i with
  |0=>exact hv 0 v x z8 (by simpa using z1)
  |1=>
   have hx:x=AV.nils.nrm:=by simp at z1;rw[<-z1];rfl
   have za:=hv 1 v .nils z8 rfl;have:=za.nils_inv;subst this;rw[hx];exact .pure (PVR.nils.nrm)
  |i+2=>simp at z1⟩
def N6(z8:∀ {J q:Nat} {D c:Int} {vs:List Int} {n:Int} {d:Disk} {σ:Int->Snp} {H:List AObj} (h:JobI J q D c vs n d σ H) (cs:List Int) (z1:cs.length<=1000),FC prog 22 [.vptr J 0,.list (cs.map encI)] H (λr H'=>r= .tup []/\HF J H H'/\∃d',JobI J q D c [] c d' σ H')):PC prog 5 [] (λr=>r= .bool true):=by
 refine pcB func5 results5 ntmps5 ?_;simp only[Qf];repeat(refine s_ ?_;simp)
 refine Qd rfl rfl (j0v _) rfl ?_;rintro r H ⟨rfl,rfl⟩;simp;repeat(refine s_ ?_;simp)
 refine Zy λH hH=>?_;have j0:JobI 0 0 0 0 [] 0 ⟨[],65536⟩ (λ_=>Uy) H:=⟨by rw[hH];rfl,DJ.begin _ _,λh=>by omega,λ_=>rfl,by omega,by simp,by omega,wI _,by omega,by omega⟩
 clear hH;refine Qd rfl rfl (S9 j0 (by omega)) rfl ?_;rintro r H1 ⟨rfl,_,j1⟩;simp;repeat(refine s_ ?_;simp)
 refine Qd rfl rfl (S9 j1 (by omega)) rfl ?_;rintro r H2 ⟨rfl,_,j2⟩;simp;repeat(refine s_ ?_;simp)
 refine Qd rfl rfl (Dw j2 (by omega)) rfl ?_;rintro r H3 ⟨rfl,_,j3⟩;simp;repeat(refine s_ ?_;simp)
 refine Qd rfl rfl (S9 j3 (by omega)) rfl ?_;rintro r H4 ⟨rfl,_,j4⟩;simp;repeat(refine s_ ?_;simp)
 refine Qd rfl rfl (Ky j4 (by omega)) rfl ?_;rintro r H5 ⟨rfl,_,d5,σ5,j5⟩;simp;repeat(refine s_ ?_;simp)
 have z1:=z8 j5 [] (by simp);refine Qd rfl rfl z1.nilArg rfl ?_;rintro r H6 ⟨rfl,_,d6,j6⟩;simp;repeat(refine s_ ?_;simp)
 refine Qd rfl rfl (Ab j6) rfl ?_;rintro r H7 ⟨rfl,za⟩;have j7:=j6.hx za;have c7:=j7.cell;simp only[jcs]at c7;simp[c7];repeat(refine s_ ?_;simp)
 refine Qh rfl ?_;simp;repeat(refine s_ ?_;simp)
 refine Qd rfl rfl (S9 j7 (by omega)) rfl ?_;rintro r H8 ⟨rfl,_,j8⟩;simp;repeat(refine s_ ?_;simp)
 refine Qd rfl rfl (Dw j8 (by omega)) rfl ?_;rintro r H9 ⟨rfl,_,j9⟩;simp;repeat(refine s_ ?_;simp)
 refine Qd rfl rfl (Ky j9 (by omega)) rfl ?_;rintro r H10 ⟨rfl,_,d10,σ10,j10⟩;simp;repeat(refine s_ ?_;simp)
 refine Qd rfl rfl (Ab j10) rfl ?_;rintro r H11 ⟨rfl,zb⟩;simp;repeat(refine s_ ?_;simp)
end
section
open Go.Proofs
attribute [local irreducible] Qt Ra Q5 U8 R2
def x0o:Prop:=∀ {J q:Nat} {D c:Int} {vs:List Int} {n:Int} {d:Disk} {σ:Int->Snp} {H:List AObj} (_:JobI J q D c vs n d σ H) (cs:List Int) (_:cs.length<=1000),FC prog 22 [.vptr J 0,.list (cs.map encI)] H (λr H'=>r= .tup []/\HF J H H'/\∃d',JobI J q D c [] c d' σ H')
end
section
open Go.Proofs
attribute [local irreducible] Qt Ra Q5 U8 R2
@[simp] def encU (k:Nat):AV:= .int .u8 (k:Int)
end
section
open Go.Proofs
attribute [local irreducible] Qt Ra Q5 U8 R2
def x01{J q:Nat}{D c:Int}{vs:List Int}{n:Int}{d:Disk}{σ:Int->Snp}{H:List AObj}(h:JobI J q D c vs n d σ H)(cs:List Int)(zc:cs.length<=1000):
  FC prog 22 [.vptr J 0,.list (cs.map encI)] H (λr H'=>r= .tup []/\HF J H H'/\∃d',JobI J q D c [] c d' σ H'):=by
 have w:=h.wfC;have ws:=h.wfS;have h0:=h.n0;have h1:=h.Dq;have h2:=h.nq;have h3:=h.D0;have h4:=h.c0;have h5:=h.q1;have za:VB d.files:=λf hf=>by have:=(h.dj.rm.small f hf).2;omega
 obtain⟨x,e1,e2,e3⟩:=h.dj.crash (by omega) cs;have z1:=v1e d za cs (by omega);rw[e1,e2]at z1;have hL:=j04 x (λhh=>w19 hh) (λ_=>c0g e3.rm.good e3.rm.small.bd);rw[e3.load h3]at hL;have hA:=k0c ws D (by simp only[Ow];omega) (by omega);rw[k0y]at hA;have hR:=y03 w D h3 (by omega);have zb:(⟨D+1,[],D⟩:Crd)=Ot D []:=by simp[Ot,Oe]
 rw[zb]at hR;have z8:D+1+(([]:List Int).length:Int)=D+1:=by simp
 by_cases hD:D=0
 ·subst hD;have hc:=h.zero rfl;subst hc;rw[if_pos rfl]at hL;refine(x05 H J n _ (Ot 0 []) _ (Ow 0 0 [] 0) d x _ _ _ 0 rfl h.cell z1 hL hR hA).imp ?_;rintro r H' ⟨rfl,hf,hc⟩;refine⟨rfl,hf,x,?_,e3,h.last,h.zero,h.D0,by simp<;>omega,h.c0,wI _,by omega,h5⟩;rw[z8];exact hc
 rw[if_neg hD,h.last (by omega)]at hL;refine(y09 H J n _ (Ot D []) _ (Ow D c [] c) d x _ _ _ D c [avRdr (rdJ c)] ⟨h3,by omega⟩ h.cell z1 hL hR hA).imp ?_;rintro r H' ⟨rfl,hf,hc⟩;refine⟨rfl,hf,x,?_,e3,h.last,h.zero,h.D0,by simp<;>omega,h.c0,wI _,by omega,h5⟩;rw[z8];exact hc
end
section
open Go.Proofs
def L8:x0o:=λh cs z1=>x01 h cs z1
end
section
open Go.Proofs
def Ae(dn:List Nat)(i:Nat):Att:=⟨(i:Int)+1,[rdJ i],dn.mapIdx λw v=>if i<v then opJ (100 * w+i)else Rv,dn.map λv=>decide (i<v)⟩
def C1(dn:List Nat)(D:Nat):List Att:=(List.range' D (4 - D)).map (Ae dn)
def Ty(dn:List Nat)(D:Nat):Crd:=⟨5,C1 dn D,D⟩
def X4(W j:Nat):Crd:=⟨(j:Int)+1,(xV j).map (Ae (zH W 0)),0⟩
def y0l(W j:Nat):Ae (zH W 0) j=⟨(j:Int)+1,[rdJ j],zH W Rv,zH W false⟩:=by simp only[Ae,Att.mk.injEq,true_and];refine⟨xk λi=>?_,by simp⟩;rw[xy,xt,xt];split<;>simp
def x0w(W j:Nat):Ex (X4 W j) [rdJ j] W=X4 W (j+1):=by simp only[Ex,X4,List.range_succ,List.map_append,z_,yM,y0l];simp
def j0w(W:Nat):X4 W 4=Ty (zH W 0) 0:=by simp only[X4,Ty,C1,List.range_eq_range'];rfl
def w02(dn:List Nat)(D:Nat):(C1 dn D).length=4 - D:=by simp[C1]
def R3(dn:List Nat)(D k:Nat):(C1 dn D)[k]? =if D+k<4 then some (Ae dn (D+k))else none:=by
 rw[C1,zU];split
 ·rw[List.getElem?_range' (by omega)];simp
 rw[List.getElem?_eq_none (by simp;omega)];rfl
def v0w{dn:List Nat}{w v:Nat}(h:dn[w]?=some v):Ae (dn.set w (v+1)) v=Pa (Ae dn v) w (opJ (100 * w+v)):=by
 have hw:=(zD.1 h).1;simp only[Ae,Pa,Att.mk.injEq,true_and];refine⟨xk λi=>?_,xk λi=>?_⟩
 ·rw[xy,zW,zW,xy];by_cases hi:w=i
  ·subst hi;simp[hw]
  simp[hi]
 rw[zU,zW,zW,zU];by_cases hi:w=i
 ·subst hi;simp[hw]
 simp[hi]
def c05{dn:List Nat}{w v j:Nat}(h:dn[w]?=some v)(hj:j≠v):Ae (dn.set w (v+1)) j=Ae dn j:=by
 have hw:=(zD.1 h).1;have e:(j<=v)=(j<v):=by apply propext;omega
 have hg:dn[w]=v:=(zD.1 h).2;simp only[Ae,Att.mk.injEq,true_and];refine⟨xk λi=>?_,xk λi=>?_⟩
 ·rw[xy,zW,xy];by_cases hi:w=i
  ·subst hi;simp[hw,hg,ue,e]
  simp[hi]
 rw[zU,zW,zU];by_cases hi:w=i
 ·subst hi;simp[hw,hg,ue,e]
 simp[hi]
def k06{dn:List Nat}{D w v:Nat}(h:dn[w]?=some v)(h1:D<=v)(h2:v<4):w0b (Ty dn D) (v - D) w (opJ (100 * w+v))=Ty (dn.set w (v+1)) D:=by
 have hg:(Ty dn D).atts[v - D]?=some (Ae dn v):=by simp only[Ty];rw[R3,if_pos (by omega),show D+(v - D)=v by omega]
 rw[w0b,hg];simp only[Ty,Crd.mk.injEq,true_and,and_true];refine xk λi=>?_;rw[zW,R3,R3,w02];by_cases hi:v - D=i
 ·subst hi;rw[if_pos rfl,if_pos (by omega),if_pos (by omega),show D+(v - D)=v by omega,v0w h]
 rw[if_neg hi];split
 ·rw[c05 h (by omega)]
 rfl
def u0x(dn:List Nat)(D:Nat):v0k (Ty dn D) (D+1)=Ty dn (D+1):=by simp only[v0k,Ty,Crd.mk.injEq,true_and];refine⟨?_,by omega⟩;refine xk λi=>?_;rw[List.getElem?_drop,R3,R3,show D+(1+i)=D+1+i by omega]
def msE(dn:List Nat)(D:Nat):List Int:=dn.mapIdx λw _=>100 * (w:Int)+D
def x0y(dn:List Nat)(D w:Nat)(h:w<dn.length):(msE dn D)[w]?=some (100 * (w:Int)+D):=by rw[msE,xy,zG h];rfl
def J9(dn:List Nat)(D:Nat):(msE dn D).length=dn.length:=by simp[msE]
def K9{dn:List Nat}{D:Nat}(h:∀v∈dn,D<v):false∉(Ae dn D).hv/\(⟨(Ae dn D).num,(Ae dn D).rds,(Ae dn D).ops⟩:Snp)=snJ (D+1) D (msE dn D):=by
 refine⟨?_,?_⟩
 ·simp only[Ae];intro hf;obtain⟨v,hv,e⟩:=xg.1 hf;simp[h v hv]at e
 simp only[Ae,snJ,Snp.mk.injEq,true_and,msE];refine xk λi=>?_;rw[xy,zU,xy];cases hi:dn[i]? with
 |none=>rfl
 |some v=>simp[h v (zE hi)]
def y0n{dn:List Nat}{D:Nat}(h:¬ ∀v∈dn,D<v):false∈(Ae dn D).hv:=by simp only[Classical.not_forall]at h;obtain⟨v,hv,hd⟩:=h;simp only[Ae];exact xg.2 ⟨v,hv,by simpa using hd⟩
def z1t{dn:List Nat}{D:Nat}(hl:dn.length<=3)(hD:D<4):JS ((D:Int)+1) (snJ (D+1) D (msE dn D)):=by refine⟨D,msE dn D,rfl,by unfold i64;omega,by unfold i64;omega,by rw[J9];exact hl,λx hx=>?_⟩;obtain⟨i,hi,e⟩:=vV.1 hx;rw[J9]at hi;have:=x0y dn D i hi;rw[zG (by rw[J9];exact hi)]at this;have:=Option.some.inj this;unfold i64;omega
end
section
open Go.Proofs
@[simp] def encD4 (v:Nat):AV:= .int .i64 (v:Int)
def w18(dn:List Nat)(hn:dn≠[])(hl:dn.length<=3)(H:List AObj)(id:Nat)(hH:H[id]?=some (.arr 3 1 (dn.map encD4))):FC prog 16 [.sl id 1 0 dn.length] H (λr H'=>(∃m:Nat,r= .i m/\m∈dn/\∀x∈dn,m<=x)/\H'=H):=by
 refine fcB func16 results16 ntmps16 ?_;simp only[Qf];have hp:0<dn.length:=List.length_pos_iff.2 hn;repeat(refine s_ ?_;simp)
 refine Qb rfl (λza=>?_) (λzb=>?_)
 ·simp at za;omega
 obtain⟨v,z8⟩:∃v,dn[0]?=some v:=⟨dn[0],zG hp⟩
 have zc:dn[0]=v:=(zD.1 z8).2;repeat(refine s_ ?_;simp[hH,hp,z8,zc])
 refine Qo (sl':=[(0,.sl id 1 0 dn.length),(2,.i 0),(3,.i v),(4,.i (1:Nat))]) ?_ (by simp);refine Qk ?_;refine Qp (P:=prog) (F:=λ(u:Nat×Nat)=>⟨[(0,.sl id 1 0 dn.length),(2,.i 0),(3,.i u.2),(4,.i u.1)],H⟩)
  (λu=>1<=u.1/\u.1<=dn.length/\u.2∈dn/\∀i x,i<u.1->dn[i]?=some x->u.2<=x) (λu=>dn.length - u.1) ?_ (1,v) ⟨zR _,by simp only;omega,zE z8,λi x hi hx=>by
   have:i=0:=by simp only at hi;omega
   subst this;rw[z8]at hx;obtain rfl:=Option.some.inj hx;exact zR _⟩
 rintro⟨j,m⟩ ⟨h1,h2,hm,hle⟩ ih;simp only at h1 h2 hm hle ih |-;repeat(refine s_ ?_;simp)
 refine Qb rfl (λza=>?_) (λzb=>?_)
 ·have z1:j<dn.length:=by simpa using za
  have hw:=wz j (by omega);have hg:dn[j]?=some dn[j]:=zG z1;repeat(refine s_ ?_;simp[hH,z1,hw])
  obtain⟨m',e1,e2⟩:∃m':Nat,(if dn[j]<m then(dn[j]:Int)else(m:Int))=(m':Int)/\((dn[j]<m/\m'=dn[j])\/(m<=dn[j]/\m'=m)):=by
   by_cases hc:dn[j]<m
   ·exact⟨dn[j],if_pos hc,.inl ⟨hc,rfl⟩⟩
   exact⟨m,if_neg hc,.inr ⟨by omega,rfl⟩⟩
  rw[e1];refine Qg (sl':=[(0,.sl id 1 0 dn.length),(2,.i 0),(3,.i m'),(4,.i (j+1:Nat))]) ?_ (by simp);refine ih (j+1,m') ⟨by simp only;omega,by simp only;omega,?_,λi x hi hx=>?_⟩ (by simp only;omega)
  ·rcases e2 with⟨_,e⟩|⟨_,e⟩
   ·simp only[e];exact yB _
   simp only[e];exact hm
  simp only at hi |-;by_cases hij:i=j
  ·subst hij;rw[hg]at hx;have:=Option.some.inj hx;omega
  have:=hle i x (by omega) hx;omega
 have zd:dn.length<=j:=by simpa using zb
 repeat(refine s_ ?_;simp)
 exact⟨m,rfl,hm,λx hx=>by
  obtain⟨i,hi,e⟩:=vV.1 hx;exact hle i x (by omega) (by rw[zG hi,e])⟩
end
section
open Go.Proofs
def v1a{dn:List Nat}{D W w v:Nat}(za:∀v∈dn,D<=v/\v<=4)(wf:WfC 1 W (Ty dn D))(hv:dn[w]?=some v):
  ∃(c2:Crd) (code:Int),PC prog 14 [encCr (Ty dn D),.i ((v:Int)+1),.i (w:Int),avOpr ⟨[100 * w+v],[]⟩] (λr=>r= .tup [encCr c2,.i code])/\((v<4/\code=0/\c2=Ty (dn.set w (v+1)) D/\WfC 1 W c2)\/(v=4/\code=6)):=by
 have hb:=za v (zE hv);by_cases h4:v<4
 ·have ha:(Ty dn D).atts[v - D]?=some (Ae dn v):=by simp only[Ty];rw[R3,if_pos (by omega),show D+(v - D)=v by omega]
  have hw:(Ae dn v).hv[w]?=some false:=by simp only[Ae];rw[zU,hv];simp
  have hp:∀b,U4 (Ty dn D).atts (v - D)=some b->b.hv[w]?=some true:=λb e=>by
   cases hk:v - D with
   |zero=>rw[hk]at e;cases e
   |succ k=>
    rw[hk]at e;simp only[U4,Ty]at e;rw[R3,if_pos (by omega)]at e;obtain rfl:=Option.some.inj e;simp only[Ae];rw[zU,hv];have:D+k<v:=by omega
    simp[this]
  have hR:=Lj wf ha hw hp [100 * w+v] (by simp);have z1:=z1d (o:=⟨[100 * w+v],[]⟩) wf ha hw hp;have z8:=k06 hv hb.1 h4;rw[opJ]at z8;rw[z8]at hR z1;exact⟨_,0,hR,.inl ⟨h4,rfl,rfl,z1⟩⟩
 have h5:v=4:=by omega
 subst h5;refine⟨_,6,Mg wf _ _ _ λa ha=>?_,.inr ⟨rfl,rfl⟩⟩;simp only[Ty,C1]at ha;obtain⟨i,hi,rfl⟩:=xg.1 ha;rw[List.mem_range'_1]at hi;simp only[Ae];omega
def c0z{dn:List Nat}{D W:Nat}(wf:WfC 1 W (Ty dn D))(hD:D<4)(h:∀v∈dn,D<v):PC prog 15 [encCr (Ty dn D)] (λr=>r= .tup [avSnp (snJ (D+1) D (msE dn D)),.bool true,.i 0]):=
 (Jd wf).mono λr hr=>by
  have ha:(Ty dn D).atts[0]?=some (Ae dn D):=by simp only[Ty];rw[R3,if_pos (by omega)];rfl
  obtain⟨f1,f2⟩:=K9 h;have:=hr.1 _ ha f1;rw[f2]at this;exact this
def v09{dn:List Nat}{D W:Nat}(wf:WfC 1 W (Ty dn D))(h:¬ ∀v∈dn,D<v):PC prog 15 [encCr (Ty dn D)] (λr=>r= .tup [.agg [.i 0,.list [],.list []],.bool false,.i 0]):=
 (Jd wf).mono λr hr=>hr.2 λa ha=>by
  simp only[Ty]at ha;rw[R3]at ha;split at ha
  ·obtain rfl:=Option.some.inj ha;exact y0n h
  cases ha
def u1v{dn:List Nat}{D W:Nat}(wf:WfC 1 W (Ty dn D))(hD:D<4)(h:∀v∈dn,D<v):PC prog 19 [encCr (Ty dn D),.i ((D:Int)+1)] (λr=>r= .tup [encCr (Ty dn (D+1)),.i 0])/\WfC 1 W (Ty dn (D+1)):=by
 have ha:(Ty dn D).atts[0]?=some (Ae dn D):=by simp only[Ty];rw[R3,if_pos (by omega)];rfl
 have h1:=K5 wf ha (K9 h).1;have h2:=w1g wf ha;have hn:(Ae dn D).num=(D:Int)+1:=rfl;rw[hn,u0x]at h1 h2;exact⟨h1,h2⟩
end
end Go.Abs
