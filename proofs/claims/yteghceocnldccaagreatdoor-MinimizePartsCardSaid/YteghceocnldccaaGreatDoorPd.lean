/- Part Pd of the proof: an abstract machine over the model, and what the functions of the program hand back in its terms. No condition. -/
import Derived.Test.YteghceocnldccaaGreatDoorPc
set_option linter.all false
set_option linter.unusedSimpArgs false
set_option maxRecDepth 100000
namespace Go.Abs
open Go Go.Proofs
def Eb (l:List Iv):List Iv:=Qv [] (U6 l)
theorem W1 (ini:List Iv) (y x:Iv):Ww (ini++[y]) x=if x.lo≤y.hi+1 then ini++[⟨y.lo,if y.hi<x.hi then x.hi else y.hi⟩] else ini++[y]++[x]:=by
 simp [Ww]
attribute [local irreducible] U6
end Go.Abs
namespace Go.Abs
open Go Go.Proofs
attribute [local irreducible] Eb
def q2o (l:List Iv):AV:=if k0v l=0 then .tup [LIv (Eb l),.i 0] else .tup [.list [],.i (k0v l)]
attribute [local irreducible] A2
theorem j1o (a b c d:Int):eqA T 9 187 (.agg [.int .i64 a,.int .i64 b]) (.agg [.int .i64 c,.int .i64 d])=some (a==c && b==d):=by
 simp [eqA,Tx,Gp,TI.agg]
theorem x17 (a b:List Iv):PC Tryz.prog 133 [LIv a,LIv b] (fun r=>r= .bool (decide (a=b))):=by
 refine Qm tOk Tryz.func133 rfl Tryz.results133 rfl (by simp [Tryz.ntmps133]) ?_
 rw [Tryz.ntmps133];simp only [Qf];refine Y7 0 rfl (fun hlen=> ?_)
 rw [List.length_map] at hlen
 repeat first|((first|refine ra ?_|refine rb ?_|refine rh ?_);simp)|refine qf ?_|refine qg ?_
 refine Qb rfl (fun h=> ?_) (fun h=> ?_)
 ·repeat first|((first|refine ra ?_|refine rb ?_|refine rh ?_);simp)|refine qf ?_|refine qg ?_
  have:a≠b:=fun e=>by subst e;simp at h
  simp [this]
 have zc:a.length=b.length:=by simp at h;omega
 repeat first|((first|refine ra ?_|refine rb ?_|refine rh ?_);simp)|refine qf ?_|refine qg ?_
 refine Qy a.length (fun j=>decide (a=b)=decide (a.drop j=b.drop j)) (fun j=>[(0,LIv a),(1,LIv b),(5,.i j)]) (fun _=>[]) rfl (by simp) (by simp) (by simp) (by simp) (by simp) ?_
 intro j hj hI ih
 repeat first|((first|refine ra ?_|refine rb ?_|refine rh ?_);simp)|refine qf ?_|refine qg ?_
 refine Qb rfl (fun za=> ?_) (fun zb=> ?_)
 ·have z1:j<a.length:=by simpa using za
  have z6:j<b.length:=by omega
  have z7:(j:Int)<b.length:=by omega
  have hw:IntKind.i64.wrap ((j:Int)+1)=j+1:=wrap_i64 _ (by omega) (by omega)
  rw [Ed z1,Ed z6] at hI
  repeat first|((first|refine ra ?_|refine rb ?_|refine rh ?_);simp)|refine qf ?_|refine qg ?_
  refine Qo tOk mixed [] (.val 0 (.val 1 (.val 2 (.val 3 (.val 4 (.val 5 (.val 6 (.val 7 (.val 8 (.done)))))))))) rfl (by kernel_rfl) ?_
  simp [z1,z6,z7,j1o]
  refine Qb rfl (fun h2=> ?_) (fun h2=> ?_)
  ·repeat first|((first|refine ra ?_|refine rb ?_|refine rh ?_);simp)|refine qf ?_|refine qg ?_
   have:a≠b:=fun e=>by subst e;simp at h2
   simp [this]
  ·repeat first|((first|refine ra ?_|refine rb ?_|refine rh ?_);simp [hw])|refine qf ?_|refine qg ?_
   have he:a[j]=b[j]:=by
    cases hx:a[j];cases hy:b[j];rw [hx,hy] at h2;simpa using h2
   refine Qx _ (ih z1 ?_) rfl (by simp) ?_ (by simp) (by simp)
   ·rw [hI,he];simp only [List.cons.injEq,true_and]
   ·simp
 ·have z8:j=a.length:=by simp at zb;omega
  subst z8;rw [List.drop_length,List.drop_of_length_le (by omega)] at hI
  repeat first|((first|refine ra ?_|refine rb ?_|refine rh ?_);simp)|refine qf ?_|refine qg ?_
  simpa using hI
theorem f1o (l:List Iv):PC Tryz.prog 112 [LIv l] (fun r=>r= .bool (decide ((l.length:Int)≤12))):=by
 refine Qm tOk Tryz.func112 rfl Tryz.results112 rfl (by simp [Tryz.ntmps112]) ?_
 rw [Tryz.ntmps112];simp only [Qf]
 repeat first|((first|refine ra ?_|refine rb ?_|refine rh ?_);simp)|refine qf ?_|refine qg ?_
end Go.Abs
namespace Go.Abs
open Go Go.Proofs
attribute [simp] T74
@[simp] def encL (l:List Iv):AV:= .list (l.map encIv)
def c1f (l:List Iv):Bool:= !((decide ((12:Int)<l.length) && decide ((l.length:Int)≤254)) || decide ((258:Int)<l.length))
def w2t (ls:List (List Iv)):Bool:=ls.all c1f
def j1b (l:List Iv):Bool:=decide ((l.length:Int)≤12) && decide (ckR l=0)
def w2h (ls:List (List Iv)):Bool:=ls.all j1b
attribute [local irreducible] ckR
end Go.Abs
namespace Go.Abs
open Go Go.Proofs
structure CanonL (l:List Iv):Prop where
 len:l.length≤256
 one:∀y∈l,A2 y=0
 gap:∀j,∀h:j+1<l.length,l[j].hi+2≤l[j+1].lo
theorem Xi {l:List Iv} {j:Nat} {x:Iv} (h:j<l.length) (hi:An l[j]):y02 l (j+1) x=decide (x.lo<l[j].hi+2):=by
 have h1:=(W8 _).1 hi.2
 have:W (l[j].hi+2)=l[j].hi+2:=wrap_i64 _ (by omega) (by omega)
 simp [y02,h,this]
theorem F5 (l:List Iv) (hl:l.length≤256):∀(n j:Nat),l.length - j=n→j≤l.length→(∀h:0<j,∀h':j - 1<l.length,A2 l[j - 1]=0)→(Uu l j (l.drop j)=0↔(∀i,j≤i→∀h:i<l.length,A2 l[i]=0)∧∀i,j≤i+1→∀h:i+1<l.length,l[i].hi+2≤l[i+1].lo)
 |0,j,hn,hj,_=>by
  have:j=l.length:=by omega
  subst this;rw [List.drop_length,Uu];exact ⟨fun _=>⟨fun i h1 h2=>by omega,fun i h1 h2=>by omega⟩,fun _=>rfl⟩
 |n+1,j,hn,hj,hp=>by
  have z6:j<l.length:=by omega
  rw [Ed z6,Uu]
  by_cases h1:(A2 l[j] != 0)=true
  ·rw [if_pos h1]
   have z1:A2 l[j]≠0:=by simpa using h1
   exact ⟨fun h=>absurd h z1,fun h=>absurd (h.1 j (Nat.le_refl _) z6) z1⟩
  ·rw [if_neg h1]
   have z1:A2 l[j]=0:=by simpa using h1
   have ih:=F5 l hl n (j+1) (by omega) (by omega) (fun _ _=>z1)
   by_cases h2:y02 l j l[j]=true
   ·rw [if_pos h2];refine ⟨fun h=>(by cases h),fun h=> ?_⟩
    rcases j with _|j
    ·simp [y02] at h2
    ·have hq:A2 l[j]=0:=hp (by omega) (by simp;omega)
     rw [Xi (by omega) (X7 hq).1] at h2
     have:=h.2 j (Nat.le_refl _) z6
     simp at h2;omega
   ·rw [if_neg h2,ih];constructor
    ·rintro ⟨a,b⟩
     refine ⟨fun i hi h=> ?_,fun i hi h=> ?_⟩
     ·by_cases e:i=j
      ·subst e;exact z1
      ·exact a i (by omega) h
     ·by_cases e:j=i+1
      ·subst e
       have hq:A2 l[i]=0:=hp (by omega) (by simp;omega)
       rw [Xi (by omega) (X7 hq).1] at h2
       simp at h2;exact h2
      ·exact b i (by omega) h
    ·rintro ⟨a,b⟩
     exact ⟨fun i hi h=>a i (by omega) h,fun i hi h=>b i (by omega) h⟩
theorem Xv (l:List Iv):ckR l=0↔CanonL l:=by
 rw [ckR]
 by_cases h:decide ((256:Int)<l.length)=true
 ·rw [if_pos h];simp at h;exact ⟨fun e=>(by cases e),fun e=>(by have:=e.len;omega)⟩
 ·rw [if_neg h];simp at h
  have hl:l.length≤256:=by omega
  have:=F5 l hl l.length 0 rfl (Nat.zero_le _) (fun h=>by omega)
  rw [List.drop_zero] at this;rw [this];constructor
  ·rintro ⟨a,b⟩
   refine ⟨hl,fun y hy=> ?_,fun j h=>b j (by omega) h⟩
   obtain ⟨i,hi,rfl⟩:=List.getElem_of_mem hy
   exact a i (by omega) hi
  ·rintro ⟨_,a,b⟩
   exact ⟨fun i _ h=>a _ (List.getElem_mem h),fun i _ h=>b i h⟩
theorem CanonL.iv {l:List Iv} (h:CanonL l) {j:Nat} (hj:j<l.length): -1099511627776≤l[j].lo∧l[j].lo≤l[j].hi∧l[j].hi≤1099511627776:=by
 obtain ⟨⟨h1,h2⟩,h3⟩:=X7 (h.one _ (List.getElem_mem hj))
 have:=(W8 _).1 h1
 have:=(W8 _).1 h2
 omega
def c1i:List Iv→Int
 |[]=>0
 |x::r=>(x.hi - x.lo+1)+c1i r
attribute [local irreducible] ckR
end Go.Abs
namespace Go.Abs
open Go Go.Proofs
attribute [local irreducible] ckR
def w06 (a b:List Iv):Int:=if ckR a=0 then ckR b else ckR a
def w2o (l:List Iv):AV:=if l.length≤256 then .tup [LIv l,.i 0] else .tup [.list [],.i 5]
def z1s:List Iv→Int→Int×Int
 |[],_=>(0,2)
 |x::r,i=>if i<x.hi - x.lo+1 then (x.lo+i,0) else z1s r (i - (x.hi - x.lo+1))
def atR (l:List Iv) (i:Int):Int×Int:=if ckR l=0 then (if i<0 then (0,2) else z1s l i) else (0,ckR l)
def N1 (x:Iv) (n:Int):Int:=if x.hi<n then -1 else if n<x.lo then 1 else 0
theorem g0o (x:Iv) (n:Int):PC Tryz.prog 205 [encIv x,.i n] (fun r=>r= .i (N1 x n)):=by
 refine Qm tOk Tryz.func205 rfl Tryz.results205 rfl (by simp [Tryz.ntmps205]) ?_
 rw [Tryz.ntmps205];simp only [Qf];simp only [encIv]
 repeat first|((first|refine ra ?_|refine rb ?_|refine rh ?_);simp)|refine qf ?_|refine qg ?_
 refine Qb rfl (fun h=> ?_) (fun h=> ?_)
 ·repeat first|((first|refine ra ?_|refine rb ?_|refine rh ?_);simp)|refine qf ?_|refine qg ?_
  rw [N1,if_pos (by simpa using h)]
 repeat first|((first|refine ra ?_|refine rb ?_|refine rh ?_);simp)|refine qf ?_|refine qg ?_
 refine Qb rfl (fun h2=> ?_) (fun h2=> ?_)
 ·repeat first|((first|refine ra ?_|refine rb ?_|refine rh ?_);simp)|refine qf ?_|refine qg ?_
  rw [N1,if_neg (by simpa using h),if_pos (by simpa using h2)]
 repeat first|((first|refine ra ?_|refine rb ?_|refine rh ?_);simp)|refine qf ?_|refine qg ?_
 rw [N1,if_neg (by simpa using h),if_neg (by simpa using h2)]
def I6 (l:List Iv) (n:Int):Bool:=l.any fun x=>decide (x.lo≤n) && decide (n≤x.hi)
theorem Iu {l:List Iv} (hc:CanonL l):∀ {i j:Nat},i<j→∀(hj:j<l.length),∀(hi:i<l.length),l[i].hi+2≤l[j].lo:=by
 intro i j z1 hj hi
 obtain ⟨d,rfl⟩:∃d,j=i+1+d:=⟨j - (i+1),by omega⟩
 induction d with
 |zero=>exact hc.gap i hj
 |succ d ih=>
  have h1:=ih (by omega) (by omega)
  have h2:=hc.gap (i+1+d) (by omega)
  have h3:=hc.iv (show i+1+d<l.length by omega)
  have h4:i+1+(d+1)=i+1+d+1:=by omega
  simp only [h4];omega
theorem Gk (x:Iv) (n:Int):N1 x n<0↔x.hi<n:=by
 unfold N1
 by_cases h:x.hi<n
 ·rw [if_pos h];simp [h]
 ·rw [if_neg h]
  by_cases h2:n<x.lo
  ·rw [if_pos h2];simp [h]
  ·rw [if_neg h2];simp [h]
theorem c0a (x:Iv) (n:Int):N1 x n=0↔x.lo≤n∧n≤x.hi:=by
 unfold N1
 by_cases h:x.hi<n
 ·rw [if_pos h];constructor<;>intro h'<;>omega
 ·rw [if_neg h]
  by_cases h2:n<x.lo
  ·rw [if_pos h2];constructor<;>intro h'<;>omega
  ·rw [if_neg h2];constructor<;>intro h'<;>omega
theorem j1q {i j m:Nat} (hm:(i+j) / 2=m) (h:i+j≤1000000000):IntKind.i64.wrap ((IntKind.u64.wrap ((i:Int)+j)).fdiv (2 ^ min 1 IntKind.u64.bits))=m:=by
 have h1:IntKind.u64.wrap ((i:Int)+j)=i+j:=by simp [IntKind.wrap,IntKind.bits,IntKind.signed];omega
 have h2:min 1 IntKind.u64.bits=1:=by decide
 rw [h1,h2,Int.fdiv_eq_ediv_of_nonneg _ (by decide),wrap_i64 _ (by omega) (by omega)]
 omega
attribute [local irreducible] N1
set_option maxHeartbeats 2000000 in
theorem Xt (l:List Iv) (n:Int) (hc:CanonL l):PC Tryz.prog 204 [LIv l,.i n,.fn (.func 205) [] []] (fun r=>∃k:Int,r= .tup [.i k,.bool (I6 l n)]):=by
 refine Qm tOk Tryz.func204 rfl Tryz.results204 rfl (by simp [Tryz.ntmps204]) ?_
 rw [Tryz.ntmps204];simp only [Qf]
 have hlen:=hc.len
 repeat first|((first|refine ra ?_|refine rb ?_|refine rh ?_);simp)|refine qf ?_|refine qg ?_
 refine Qq (Qc (sl':=[(0,LIv l),(1,.i n),(2,.fn (.func 205) [] []),(8,.i l.length),(9,.i 0),(10,.i l.length)]) ?_ (by simp))
 refine Qp (F:=fun (u:Nat×Nat)=>⟨[(0,LIv l),(1,.i n),(2,.fn (.func 205) [] []),(8,.i l.length),(9,.i u.1),(10,.i u.2)],[]⟩) (fun u=>u.1≤u.2∧u.2≤l.length∧(∀k,k<u.1→∀hk:k<l.length,N1 l[k] n<0)∧(∀k,u.2≤k→∀hk:k<l.length,¬N1 l[k] n<0)) (fun u=>u.2 - u.1) ?_ (0,l.length) ⟨by simp,by simp,fun k hk=>by simp at hk,fun k hk z1=>by simp only at hk;omega⟩
 rintro ⟨i,j⟩ ⟨h1,h2,h3,h4⟩ ih
 simp only at h1 h2 h3 h4 ih ⊢
 repeat first|((first|refine ra ?_|refine rb ?_|refine rh ?_);simp)|refine qf ?_|refine qg ?_
 refine Qb rfl (fun zd=> ?_) (fun ze=> ?_)
 ·have zf:i<j:=by simpa using zd
  have hw:IntKind.i64.wrap ((i:Int)+j)=i+j:=wrap_i64 _ (by omega) (by omega)
  obtain ⟨m,hm⟩:∃m,(i+j) / 2=m:=⟨_,rfl⟩
  have z8:IntKind.i64.wrap ((IntKind.u64.wrap ((i:Int)+j)).fdiv (2 ^ min 1 IntKind.u64.bits))=m:=j1q hm (by omega)
  have z6:m<l.length:=by omega
  have za:(m:Int)<l.length:=by omega
  have zg:IntKind.i64.wrap ((m:Int)+1)=m+1:=wrap_i64 _ (by omega) (by omega)
  repeat first|((first|refine ra ?_|refine rb ?_|refine rh ?_);simp [hw,z8,z6,za])|refine qf ?_|refine qg ?_
  refine Qe rfl rfl (by simp) (g0o l[m] n) rfl ?_
  rintro _ rfl
  simp
  refine Qb rfl (fun h5=> ?_) (fun h5=> ?_)
  ·repeat first|((first|refine ra ?_|refine rb ?_|refine rh ?_);simp [zg])|refine qf ?_|refine qg ?_
   refine Qc (sl':=[(0,LIv l),(1,.i n),(2,.fn (.func 205) [] []),(8,.i l.length),(9,.i (m+1:Nat)),(10,.i j)]) (ih (m+1,j) ⟨by simp only;omega,h2,fun k hk z1=> ?_,h4⟩ (by simp only;omega)) (by simp)
   have zh:=hc.iv z1
   have zi:=hc.iv z6
   have z7:N1 l[m] n<0:=by simpa using h5
   by_cases e:k=m
   ·subst e;exact z7
   ·have:=Iu hc (show k<m by omega) z6 z1
    rw [Gk] at z7 ⊢;omega
  ·repeat first|((first|refine ra ?_|refine rb ?_|refine rh ?_);simp)|refine qf ?_|refine qg ?_
   refine Qc (sl':=[(0,LIv l),(1,.i n),(2,.fn (.func 205) [] []),(8,.i l.length),(9,.i i),(10,.i m)]) (ih (i,m) ⟨by simp only;omega,by simp only;omega,h3,fun k hk z1=> ?_⟩ (by simp only;omega)) (by simp)
   have zh:=hc.iv z1
   have zi:=hc.iv z6
   have z7:¬N1 l[m] n<0:=by simpa using h5
   by_cases e:k=m
   ·subst e;exact z7
   ·have:=Iu hc (show m<k by omega) z1 z6
    rw [Gk] at z7 ⊢;omega
 ·have zb:i=j:=by simp at ze;omega
  subst zb
  by_cases hil:i<l.length
  ·repeat first|((first|refine ra ?_|refine rb ?_|refine rh ?_);simp [hil])|refine qf ?_|refine qg ?_
   refine Qe rfl rfl (by simp) (g0o l[i] n) rfl ?_
   rintro _ rfl
   simp
   repeat first|((first|refine ra ?_|refine rb ?_|refine rh ?_);simp)|refine qf ?_|refine qg ?_
   have hh:I6 l n=(N1 l[i] n==0):=by
    rw [Bool.eq_iff_iff,beq_iff_eq,c0a,I6,List.any_eq_true];constructor
    ·rintro ⟨x,hx,zc⟩
     obtain ⟨k,hk,rfl⟩:=List.getElem_of_mem hx
     simp at zc
     have e:k=i:=by
      by_cases e1:k<i
      ·have:=(Gk _ _).1 (h3 k e1 hk)
       omega
      ·by_cases e2:i<k
       ·have:=Iu hc e2 hk hil
        have:¬l[i].hi<n:=fun e=>h4 i (Nat.le_refl _) hil ((Gk l[i] n).2 e)
        omega
       ·omega
     subst e;exact zc
    ·intro h;exact ⟨l[i],List.getElem_mem hil,by simpa using h⟩
   rw [hh]
  ·repeat first|((first|refine ra ?_|refine rb ?_|refine rh ?_);simp [hil])|refine qf ?_|refine qg ?_
   refine Wd rfl rfl ?_
   simp
   repeat first|((first|refine ra ?_|refine rb ?_|refine rh ?_);simp)|refine qf ?_|refine qg ?_
   have hh:I6 l n=false:=by
    rw [I6,List.any_eq_false];intro x hx
    obtain ⟨k,hk,rfl⟩:=List.getElem_of_mem hx
    have:=(Gk _ _).1 (h3 k (by omega) hk)
    simp
    intro _;omega
   rw [hh]
theorem j1w (l:List Iv) (n:Int) (hc:CanonL l):PC Tryz.prog 192 [LIv l,.i n] (fun r=>r= .bool (I6 l n)):=by
 refine Qm tOk Tryz.func192 rfl Tryz.results192 rfl (by simp [Tryz.ntmps192]) ?_
 rw [Tryz.ntmps192];simp only [Qf]
 repeat first|((first|refine ra ?_|refine rb ?_|refine rh ?_);simp)|refine qf ?_|refine qg ?_
 refine Qe rfl rfl (by simp) (Xt l n hc) rfl ?_
 rintro _ ⟨k,rfl⟩
 simp
 repeat first|((first|refine ra ?_|refine rb ?_|refine rh ?_);simp)|refine qf ?_|refine qg ?_
attribute [local irreducible] I6
def q1m (l:List Iv) (n:Int):Bool×Int:=if ckR l=0 then (I6 l n,0) else (false,ckR l)
theorem Gf (l:List Iv) (n:Int):PC Tryz.prog 158 [LIv l,.i n] (fun r=>r= .tup [.bool (q1m l n).1,.i (q1m l n).2]):=by
 refine Qm tOk Tryz.func158 rfl Tryz.results158 rfl (by simp [Tryz.ntmps158]) ?_
 rw [Tryz.ntmps158];simp only [Qf]
 repeat first|((first|refine ra ?_|refine rb ?_|refine rh ?_);simp)|refine qf ?_|refine qg ?_
 refine Qe rfl rfl (by simp) (M1 l) rfl ?_
 rintro _ rfl
 simp
 repeat first|((first|refine ra ?_|refine rb ?_|refine rh ?_);simp)|refine qf ?_|refine qg ?_
 refine Qb rfl (fun h=> ?_) (fun h=> ?_)
 ·repeat first|((first|refine ra ?_|refine rb ?_|refine rh ?_);simp)|refine qf ?_|refine qg ?_
  rw [q1m,if_neg (by simpa using h)];exact ⟨rfl,rfl⟩
 have h0:ckR l=0:=by simpa using h
 repeat first|((first|refine ra ?_|refine rb ?_|refine rh ?_);simp)|refine qf ?_|refine qg ?_
 refine Qe rfl rfl (by simp) (j1w l n ((Xv l).1 h0)) rfl ?_
 rintro _ rfl
 simp
 repeat first|((first|refine ra ?_|refine rb ?_|refine rh ?_);simp)|refine qf ?_|refine qg ?_
 rw [q1m,if_pos h0];exact ⟨rfl,rfl⟩
end Go.Abs
namespace Go.Abs
open Go Go.Proofs
attribute [local irreducible] ckR
def d1v (d:Int) (x:Iv):Option Iv:=
 let a:=if x.lo+d< -1099511627776 then -1099511627776 else x.lo+d
 let b:=if 1099511627776<x.hi+d then 1099511627776 else x.hi+d
 if a≤b then some ⟨a,b⟩ else none
def q2r (l:List Iv) (d:Int):List Iv×Int:=if ckR l=0 then (if d< -2199023255552∨2199023255552<d then ([],0) else (l.filterMap (d1v d),0)) else ([],ckR l)
end Go.Abs
namespace Go.Abs
open Go Go.Proofs
def q2p (ls:List (List Iv)):List Iv:=ls.flatten
attribute [local irreducible] q2p
end Go.Abs
namespace Go.Abs
open Go Go.Proofs Go.RowKit Go.Shelf Go.Lib Go.Sort
def Rh (zs:List Int):List Int:=zs.mergeSort fun x y=>decide (x≤y)
theorem Ab (zs:List Int):(Rh zs).length=zs.length:=by simp [Rh]
theorem H4 (H:List AObj) (p:Nat) (zs:List Int) (hp:H[p]? =some (.arr 3 1 (zs.map (AV.int .i64)))) (hl:zs.length≤1000000):
  FC Tryz.prog 176 [.sl p 1 0 zs.length] H (fun r H'=>r= .tup []∧H'=H.set p (.arr 3 1 ((Rh zs).map (AV.int .i64)))):=by
 refine (g0e (xs:=zs.map (AV.int .i64)) (rest:=[]) (R8 Tryz.func176 rfl rfl) (by simp) hp (d1h zs) [] (fun w I m vs a b=>by simpa using a) (fun z1=>z1=(Rh zs).map (AV.int .i64)) ?_ ?_).mono ?_
 ·intro b cap w hH hb hc
  have:=Tryz.slices_Sort_int b 0 cap zs w (Xg hH) hb (by omega)
  refine Calls.mono (by simpa using this) ?_
  rintro e w' ⟨rfl,n,os,rfl⟩
  exact ⟨rfl,_,((Rh zs).map (Value.int .i64)).toArray,n,os,rfl,by simp [Ab],d1h _,by rw [Hm];rfl⟩
 ·rintro h
  have z6:zs=[]:=by simpa using h
  subst z6;exact ⟨by simp [Rh],fun w=>by simpa using Tryz.slices_Sort_int_none none 0 w⟩
 ·rintro r H' ⟨rfl,z1,rfl,rfl⟩
  exact ⟨rfl,rfl⟩
theorem O8 (H:List AObj) (p:Nat) (zs:List Int) (hp:H[p]? =some (.arr 3 1 (zs.map (AV.int .i64)))) (hl:zs.length≤1000000) (z6:(Lib.compact zs).length≤zs.length):
  FC Tryz.prog 177 [.sl p 1 0 zs.length] H (fun r H'=>r= .sl p 1 0 (Lib.compact zs).length∧∃G:List Int,H'=H.set p (.arr 3 1 ((Lib.compact zs++G).map (AV.int .i64)))):=by
 refine (u1x (xs:=zs.map (AV.int .i64)) (R8 Tryz.func177 rfl rfl) (by simp) hp (d1h zs) (fun z1 n=>n=(Lib.compact zs).length∧∃G:List Int,z1=(Lib.compact zs++G).map (AV.int .i64)) (fun ys n h=>by rw [h.1];exact z6) ?_ ?_).mono ?_
 ·intro b cap w hH hb hc hm
  have:=Tryz.slices_Compact_int b 0 cap zs w (Xg hH) (by omega) hc
  refine Calls.mono (by simpa using this) ?_
  rintro e w' ⟨rfl,q,rfl⟩
  exact ⟨_,((Lib.compact zs++List.replicate (zs.length - (Lib.compact zs).length) 0).map (Value.int .i64)).toArray,q,_,rfl,⟨rfl,_,rfl⟩,by simp;omega,d1h _,by rw [←Hm]⟩
 ·rintro h
  have z7:zs=[]:=by simpa using h
  subst z7;exact ⟨⟨rfl,[],rfl⟩,fun w=>by simpa using Tryz.slices_Compact_int_empty none 0 w⟩
 ·rintro r H' ⟨z1,n,rfl,⟨rfl,G,rfl⟩,rfl⟩
  exact ⟨rfl,G,rfl⟩
end Go.Abs
namespace Go.Abs
open Go Go.Proofs
attribute [simp] T40
def Cu:List Iv→List Int
 |[]=>[]
 |x::r=>x.lo::(x.hi+1)::Cu r
theorem Mq:∀(l:List Iv) (x:Iv),Cu (l++[x])=Cu l++[x.lo,x.hi+1]
 |[],x=>rfl
 |y::r,x=>by rw [List.cons_append,Cu,Mq r,Cu];rfl
theorem v0i:∀(l:List Iv),(Cu l).length=2 * l.length
 |[]=>rfl
 |x::r=>by rw [Cu,List.length_cons,List.length_cons,v0i r,List.length_cons];omega
def u0d (l:List Iv):List Int:=Lib.compact (Rh (Cu l))
def w19 (f:Int→Bool):List Int→List Iv→List Iv
 |c::d::r,acc=>w19 f (d::r) (if f c=true then Ww acc ⟨c,d - 1⟩ else acc)
 |_,acc=>acc
def B8 (op:Bool→Bool→Bool) (a b:List Iv):List Iv:=w19 (fun n=>op (I6 a n) (I6 b n)) (u0d (a++b)) []
theorem Oq (zs:List Int):(Lib.compact zs).length≤zs.length:=by
 unfold Lib.compact Lib.compactUpTo;rw [List.length_map];exact Nat.le_trans (List.length_filter_le _ _) (by simp)
attribute [local irreducible] ckR I6 q2p Ww Rh Lib.compact Cu
end Go.Abs
namespace Go.Abs
open Go Go.Proofs
attribute [local irreducible] ckR B8
def x1u (x y:Bool):Bool:=x && !y
def j17 (op:Bool→Bool→Bool) (a b:List Iv):AV:=if w06 a b=0 then w2o (B8 op a b) else .tup [.list [],.i (w06 a b)]
attribute [local irreducible] w06
attribute [local irreducible] j17
end Go.Abs
namespace Go.Abs
theorem push_comm (acc:List Iv) (x y:Iv) (h:x.lo=y.lo) (hx:x.lo≤x.hi) (hy:y.lo≤y.hi):Ww (Ww acc x) y=Ww (Ww acc y) x:=by
 have one:∀(u v:Iv),u.lo=v.lo→u.lo≤u.hi→∀ini:List Iv,Ww (ini++[u]) v=ini++[⟨u.lo,if u.hi<v.hi then v.hi else u.hi⟩]:=fun u v z6 hu ini=>by
  rw [W1,if_pos (by omega)]
 rcases List.eq_nil_or_concat acc with rfl|⟨ini,z,rfl⟩
 ·have e1:Ww [] x=[]++[x]:=rfl
  have e2:Ww [] y=[]++[y]:=rfl
  rw [e1,e2,one x y h hx,one y x h.symm hy,h]
  congr 3
  split<;>split<;>omega
 ·rw [List.concat_eq_append]
  by_cases hz:x.lo≤z.hi+1
  ·have z1:∀(w u:Iv),u.lo≤w.hi+1→Ww (ini++[w]) u=ini++[⟨w.lo,if w.hi<u.hi then u.hi else w.hi⟩]:=fun w u h=>by rw [W1,if_pos h]
   rw [z1 z x hz,z1 z y (by omega),z1 _ y (by simp only;split<;>omega),z1 _ x (by simp only;split<;>omega)]
   congr 3
   simp only
   repeat split
   all_goals omega
  ·have ap:∀u:Iv,u.lo=x.lo→Ww (ini++[z]) u=ini++[z]++[u]:=fun u h=>by rw [W1,if_neg (by omega)]
   rw [ap x rfl,ap y h.symm,one x y h hx,one y x h.symm hy,h]
   congr 3
   split<;>split<;>omega
theorem Ss:∀(A:List Iv) (acc:List Iv) (x:Iv) (B:List Iv),(∀y∈A,y.lo=x.lo∧y.lo≤y.hi)→x.lo≤x.hi→Qv acc (A++x::B)=Qv acc (x::(A++B))
 |[],acc,x,B,_,_=>rfl
 |y::A,acc,x,B,h,hx=>by
  have hy:=h y (by simp)
  have ih:=Ss A (Ww acc y) x B (fun z hz=>h z (by simp [hz])) hx
  simp only [Qv,List.cons_append,List.foldl_cons] at ih ⊢;rw [ih,push_comm acc y x hy.1 hy.2 hx]
theorem Gi:∀(l l':List Iv) (acc:List Iv),l.Perm l'→L3 l→L3 l'→(∀y∈l,y.lo≤y.hi)→Qv acc l=Qv acc l'
 |[],l',acc,hp,_,_,_=>by rw [hp.nil_eq]
 |x::l,l',acc,hp,h1,h2,hf=>by
  obtain ⟨A,B,rfl⟩:=List.append_of_mem (hp.mem_iff.1 (List.mem_cons_self))
  have z6:l.Perm (A++B):=(List.perm_cons x).1 (hp.trans List.perm_middle)
  have hA:∀y∈A,y.lo=x.lo∧y.lo≤y.hi:=fun y hy=>by
   have z1:y∈x::l:=hp.mem_iff.2 (by simp [hy])
   have a1:y.lo≤x.lo:=(List.pairwise_append.1 h2).2.2 y hy x (by simp)
   have a2:x.lo≤y.lo:=by
    rcases List.mem_cons.1 z1 with rfl|h
    ·exact Int.le_refl _
    ·exact (List.pairwise_cons.1 h1).1 y h
   exact ⟨by omega,hf y z1⟩
  rw [Ss A acc x B hA (hf x (by simp))]
  have hb:L3 (A++B):=h2.sublist (List.Sublist.append_left (List.sublist_cons_self x B) A)
  exact Gi l (A++B) (Ww acc x) z6 (List.pairwise_cons.1 h1).2 hb (fun y hy=>hf y (by simp [hy]))
end Go.Abs
namespace Go.Abs
theorem f0l (s:List Iv) (x:Iv):(u0h s x).Perm (x::s):=by
 unfold u0h;refine List.perm_middle.trans ?_;rw [List.take_append_drop]
theorem Gy (s:List Iv) (x:Iv):∀j,j≤s.length→(∀k,I7 s x j≤k→k<j→∀h:k<s.length,x.lo<s[k].lo)∧(∀k,k+1=I7 s x j→∀h:k<s.length,s[k].lo≤x.lo)
 |0,_=>⟨fun k _ h=>by omega,fun k h=>by simp [I7] at h⟩
 |j+1,hj=>by
  obtain ⟨a,b⟩:=Gy s x j (by omega)
  have hg:d1y s j x=decide (x.lo<s[j].lo):=by simp [d1y,show j<s.length by omega]
  rw [I7,hg]
  by_cases h:decide (x.lo<s[j].lo)=true
  ·rw [if_pos h];refine ⟨fun k h1 h2 h3=> ?_,b⟩
   by_cases e:k=j
   ·subst e;simpa using h
   ·exact a k h1 (by omega) h3
  ·rw [if_neg h];refine ⟨fun k h1 h2=>by omega,fun k h1 h2=> ?_⟩
   have e:k=j:=by omega
   subst e;simp at h;omega
theorem y0y (s:List Iv) (x:Iv) (hs:L3 s):L3 (u0h s x):=by
 obtain ⟨a,b⟩:=Gy s x s.length (Nat.le_refl _)
 have hq:=Fe s x s.length
 unfold u0h;generalize I7 s x s.length=q at a b hq
 have z6:∀i j,i<j→∀hi:i<s.length,∀hj:j<s.length,s[i].lo≤s[j].lo:=fun i j h hi hj=>List.pairwise_iff_getElem.1 hs i j hi hj h
 have z7:∀y∈s.take q,y.lo≤x.lo:=fun y hy=>by
  obtain ⟨i,hi,rfl⟩:=List.getElem_of_mem hy
  have za:i<q:=by rw [List.length_take] at hi;omega
  rw [List.getElem_take]
  have h1:=b (q - 1) (by omega) (by omega)
  by_cases e:i=q - 1
  ·subst e;exact h1
  ·have:=z6 i (q - 1) (by omega) (by omega) (by omega);omega
 have z8:∀y∈s.drop q,x.lo≤y.lo:=fun y hy=>by
  obtain ⟨i,hi,rfl⟩:=List.getElem_of_mem hy
  rw [List.length_drop] at hi;rw [List.getElem_drop]
  have:=a (q+i) (by omega) (by omega) (by omega)
  omega
 have z1:=hs
 unfold L3 at z1 ⊢;rw [←List.take_append_drop q s,List.pairwise_append] at z1
 obtain ⟨p1,p2,p3⟩:=z1
 refine List.pairwise_append.2 ⟨p1,List.pairwise_cons.2 ⟨z8,p2⟩,fun y hy z hz=> ?_⟩
 rcases List.mem_cons.1 hz with rfl|h
 ·exact z7 y hy
 ·exact p3 y hy z h
theorem Gc:∀(l acc:List Iv),L3 acc→(l.foldl u0h acc).Perm (acc++l)∧L3 (l.foldl u0h acc)
 |[],acc,h=>⟨by simp,h⟩
 |x::r,acc,h=>by
  obtain ⟨a,b⟩:=Gc r (u0h acc x) (y0y acc x h)
  refine ⟨a.trans ?_,b⟩;exact ((f0l acc x).append_right r).trans List.perm_middle.symm
theorem Ix (l:List Iv):(U6 l).Perm l∧L3 (U6 l):=by
 have:=Gc l [] .nil
 simpa [U6] using this
end Go.Abs
namespace Go.Abs
def M (l:List Iv) (n:Int):Prop:=∃x∈l,x.lo≤n∧n≤x.hi
def Sep (l:List Iv):Prop:=(∀x∈l,x.lo≤x.hi)∧l.Pairwise (fun x y=>x.hi+2≤y.lo)
theorem V0 (n:Int):M [] n↔False:=by simp [M]
theorem W9 (x:Iv) (l:List Iv) (n:Int):M (x::l) n↔(x.lo≤n∧n≤x.hi)∨M l n:=by simp [M]
theorem Lk (a b:List Iv) (n:Int):M (a++b) n↔M a n∨M b n:=by simp [M,or_and_right,exists_or]
theorem Vu (l:List Iv) (n:Int):I6 l n=true↔M l n:=by simp [I6,M]
theorem Sep.tail {x:Iv} {l:List Iv} (h:Sep (x::l)):Sep l:=⟨fun y hy=>h.1 y (by simp [hy]),(List.pairwise_cons.1 h.2).2⟩
theorem Sep.low {x:Iv} {l:List Iv} (h:Sep (x::l)) {n:Int} (hm:M l n):x.hi+2≤n:=by
 obtain ⟨y,hy,h1,h2⟩:=hm
 have:=(List.pairwise_cons.1 h.2).1 y hy
 omega
theorem Sep.lowc {x:Iv} {l:List Iv} (h:Sep (x::l)) {n:Int} (hm:M (x::l) n):x.lo≤n:=by
 rcases (W9 ..).1 hm with h1|h1
 ·exact h1.1
 ·have:=h.low h1
  have:=h.1 x (by simp)
  omega
theorem v0n:∀(a b:List Iv),Sep a→Sep b→(∀n,M a n↔M b n)→a=b
 |[],[],_,_,_=>rfl
 |[],y::b,_,hb,h=>by
  have:=(h y.lo).2 ((W9 ..).2 (.inl ⟨Int.le_refl _,hb.1 y (by simp)⟩))
  exact absurd this (by simp [M])
 |x::a,[],ha,_,h=>by
  have:=(h x.lo).1 ((W9 ..).2 (.inl ⟨Int.le_refl _,ha.1 x (by simp)⟩))
  exact absurd this (by simp [M])
 |x::a,y::b,ha,hb,h=>by
  have hx:=ha.1 x (by simp)
  have hy:=hb.1 y (by simp)
  have e1:x.lo=y.lo:=by
   have h1:=hb.lowc ((h x.lo).1 ((W9 ..).2 (.inl ⟨Int.le_refl _,hx⟩)))
   have h2:=ha.lowc ((h y.lo).2 ((W9 ..).2 (.inl ⟨Int.le_refl _,hy⟩)))
   omega
  have e2:x.hi=y.hi:=by
   rcases Int.lt_trichotomy x.hi y.hi with hlt|heq|hgt
   ·rcases (W9 ..).1 ((h (x.hi+1)).2 ((W9 ..).2 (.inl ⟨by omega,by omega⟩))) with h1|h1
    ·omega
    ·have:=ha.low h1
     omega
   ·exact heq
   ·rcases (W9 ..).1 ((h (y.hi+1)).1 ((W9 ..).2 (.inl ⟨by omega,by omega⟩))) with h1|h1
    ·omega
    ·have:=hb.low h1
     omega
  have e3:x=y:=by cases x;cases y;simp_all
  subst e3;rw [v0n a b ha.tail hb.tail fun n=>⟨fun hm=> ?_,fun hm=> ?_⟩]
  ·have h1:=ha.low hm
   rcases (W9 ..).1 ((h n).1 ((W9 ..).2 (.inr hm))) with h2|h2
   ·omega
   ·exact h2
  ·have h1:=hb.low hm
   rcases (W9 ..).1 ((h n).2 ((W9 ..).2 (.inr hm))) with h2|h2
   ·omega
   ·exact h2
theorem Gg {l:List Iv} (h:CanonL l):Sep l:=
 ⟨fun x hx=>(X7 (h.one x hx)).2,List.pairwise_iff_getElem.2 fun _ _ hi hj z1=>Iu h z1 hj hi⟩
theorem K6 {l:List Iv} (h:CanonL l):∀x∈l,An x:=fun x hx=>(X7 (h.one x hx)).1
theorem x1g {l:List Iv} (h:CanonL l) {n:Int} (hm:M l n): -1099511627776≤n∧n≤1099511627776:=by
 obtain ⟨x,hx,h1,h2⟩:=hm
 have h3:=K6 h x hx
 have h4:=(W8 _).1 h3.1
 have h5:=(W8 _).1 h3.2
 omega
theorem F3 {l:List Iv} (h:Sep l) (hi:∀x∈l,An x) (hl:l.length≤256):CanonL l:=
 ⟨hl,fun y hy=>by
  have h1:=hi y hy
  have h2:=h.1 y hy
  have h4:=h1.1
  have h5:=h1.2
  simp [A2,h4,h5];omega,fun j hj=>List.pairwise_iff_getElem.1 h.2 j (j+1) (by omega) hj (by omega)⟩
theorem c0l (acc:List Iv) (x:Iv) (ha:Sep acc) (hx:x.lo≤x.hi) (hle:∀y∈acc,y.lo≤x.lo):
  Sep (Ww acc x)∧(∀n,M (Ww acc x) n↔M acc n∨(x.lo≤n∧n≤x.hi))∧(∀z,x.lo≤z→∀y∈Ww acc x,y.lo≤z):=by
 rcases List.eq_nil_or_concat acc with rfl|⟨ini,y,rfl⟩
 ·have e:Ww [] x=[x]:=rfl
  rw [e];exact ⟨⟨fun y hy=>by simp at hy;subst hy;exact hx,by simp⟩,fun n=>by simp [M],fun z hz y hy=>by simp at hy;subst hy;exact hz⟩
 ·rw [List.concat_eq_append] at ha hle ⊢;rw [W1]
  have hy:=ha.1 y (by simp)
  have z1:=hle y (by simp)
  obtain ⟨p1,p2,p3⟩:=List.pairwise_append.1 ha.2
  split
  ·rename_i hj
   refine ⟨⟨fun z hz=> ?_,List.pairwise_append.2 ⟨p1,by simp,fun u hu v hv=> ?_⟩⟩,fun n=> ?_,fun z hz u hu=> ?_⟩
   ·rcases List.mem_append.1 hz with h|h
    ·exact ha.1 z (by simp [h])
    ·simp at h;subst h;simp only;split<;>omega
   ·simp at hv;subst hv;exact p3 u hu y (by simp)
   ·rw [Lk,Lk,W9,W9,V0];simp only [or_false]
    by_cases hm:M ini n
    ·simp [hm]
    ·simp only [hm,false_or];split<;>omega
   ·rcases List.mem_append.1 hu with h|h
    ·have:=hle u (by simp [h]);omega
    ·simp at h;subst h;simp only;omega
  ·rename_i hj
   refine ⟨⟨fun z hz=> ?_,List.pairwise_append.2 ⟨ha.2,by simp,fun u hu v hv=> ?_⟩⟩,fun n=>by rw [Lk,W9,V0];simp,fun z hz u hu=> ?_⟩
   ·rcases List.mem_append.1 hz with h|h
    ·exact ha.1 z h
    ·simp at h;subst h;exact hx
   ·simp at hv;subst hv
    rcases List.mem_append.1 hu with h|h
    ·have:=p3 u h y (by simp);omega
    ·simp at h;subst h;omega
   ·rcases List.mem_append.1 hu with h|h
    ·have:=hle u h;omega
    ·simp at h;subst h;exact hz
theorem A7:∀(l acc:List Iv),Sep acc→L3 l→(∀x∈l,x.lo≤x.hi)→(∀y∈acc,∀x∈l,y.lo≤x.lo)→
  Sep (Qv acc l)∧∀n,M (Qv acc l) n↔M acc n∨M l n
 |[],acc,ha,_,_,_=>⟨ha,fun n=>by simp [Qv,M]⟩
 |x::l,acc,ha,hb,hf,hle=>by
  have hp:=c0l acc x ha (hf x (by simp)) (fun y hy=>hle y hy x (by simp))
  have ih:=A7 l (Ww acc x) hp.1 (List.pairwise_cons.1 hb).2 (fun y hy=>hf y (by simp [hy])) (fun y hy z hz=>hp.2.2 z.lo ((List.pairwise_cons.1 hb).1 z hz) y hy)
  refine ⟨ih.1,fun n=> ?_⟩
  have e:Qv acc (x::l)=Qv (Ww acc x) l:=rfl
  rw [e,ih.2 n,hp.2.1 n,W9,or_assoc]
theorem Vs:Sep []:=⟨by simp,by simp⟩
theorem k1v {a b:List Iv} (h:a.Perm b) (n:Int):M a n↔M b n:=by
 simp only [M];exact ⟨fun ⟨x,hx,h1⟩=>⟨x,h.mem_iff.1 hx,h1⟩,fun ⟨x,hx,h1⟩=>⟨x,h.mem_iff.2 hx,h1⟩⟩
theorem Y2 (l:List Iv) (hf:∀x∈l,x.lo≤x.hi):Sep (Eb l)∧∀n,M (Eb l) n↔M l n:=by
 have hs:=Ix l
 have h:=A7 (U6 l) [] Vs hs.2 (fun x hx=>hf x (hs.1.mem_iff.1 hx)) (by simp)
 refine ⟨h.1,fun n=> ?_⟩
 rw [Eb,h.2 n,V0,false_or,k1v hs.1]
def pieces (f:Int→Bool):List Int→List Iv
 |c::d::r=>(if f c=true then [⟨c,d - 1⟩] else [])++pieces f (d::r)
 |_=>[]
end Go.Abs
namespace Go.Abs
open Go Go.Proofs
attribute [local irreducible] j17 w06 B8
def d1r (x y:Bool):Bool:=x || y
def c1h (x y:Bool):Bool:=x && y
def c1o (a b:List Iv):Bool×Int:=if w06 a b=0 then (decide (B8 x1u a b=[]),0) else (false,w06 a b)
end Go.Abs
namespace Go.Abs
open Go Go.Proofs
def E3:List Iv→Int→List Iv
 |[],n=>if n≤1099511627776 then [⟨n,1099511627776⟩] else []
 |x::r,n=>(if n<x.lo then [⟨n,x.lo - 1⟩] else [])++E3 r (x.hi+1)
def Ep (l:List Iv):List Iv:=E3 l (-1099511627776)
end Go.Abs
namespace Go.Abs
open Go
theorem k00:∀(l:List Iv) (z:Int),z∈Cu l↔∃x∈l,z=x.lo∨z=x.hi+1
 |[],z=>by simp [Cu]
 |y::r,z=>by
  rw [Cu,List.mem_cons,List.mem_cons,k00 r z]
  simp [or_assoc]
theorem Xz (zs:List Int) (hs:zs.Pairwise (·≤·)):∀m,m≤zs.length→
  (Lib.compactUpTo zs.toArray m).Pairwise (·<·)∧(∀z,z∈Lib.compactUpTo zs.toArray m↔z∈zs.take m):=by
 intro m
 induction m with
 |zero=>exact fun _=>⟨by simp [Lib.compactUpTo],by simp [Lib.compactUpTo]⟩
 |succ m ih=>
  intro hm
  obtain ⟨h1,h2⟩:=ih (by omega)
  have z1:m<zs.length:=by omega
  have hg:zs.toArray[m]! =zs[m]:=by simp [z1]
  rw [Lib.compactUpTo_succ]
  have ht:zs.take (m+1)=zs.take m++[zs[m]]:=by rw [List.take_succ_eq_append_getElem z1]
  by_cases hk:Lib.keeps zs.toArray m=true
  ·rw [if_pos hk,hg,ht];refine ⟨List.pairwise_append.2 ⟨h1,by simp,fun u hu v hv=> ?_⟩,fun z=>by rw [List.mem_append,List.mem_append,h2]⟩
   simp at hv;subst hv
   obtain ⟨i,hi,rfl⟩:=List.getElem_of_mem ((h2 u).1 hu)
   have za:i<m:=by simp at hi;omega
   rw [List.getElem_take]
   have zb:zs[m]≠zs[m - 1]:=by
    simp [Lib.keeps] at hk
    have z6:m≠0:=by omega
    have hk:=hk.resolve_left z6
    simpa [z1,show m - 1<zs.length by omega] using hk
   have a1:zs[i]≤zs[m - 1]:=by
    rcases Nat.lt_or_ge i (m - 1) with h|h
    ·exact List.pairwise_iff_getElem.1 hs i (m - 1) (by omega) (by omega) h
    ·have:i=m - 1:=by omega
     subst this;exact Int.le_refl _
   have a2:zs[m - 1]≤zs[m]:=List.pairwise_iff_getElem.1 hs (m - 1) m (by omega) (by omega) (by omega)
   omega
  ·rw [if_neg hk,List.append_nil,ht];refine ⟨h1,fun z=> ?_⟩
   rw [h2,List.mem_append];refine ⟨.inl,fun h=>h.elim id fun h=> ?_⟩
   simp at h;subst h;simp only [Lib.keeps,decide_eq_true_eq,not_or] at hk
   have z7:m - 1<zs.length:=by omega
   have z8:zs[m]=zs[m - 1]:=by simpa [z1,z7] using hk.2
   rw [z8];exact List.mem_take_iff_getElem.2 ⟨m - 1,by omega,rfl⟩
theorem k0e (l:List Iv):(u0d l).Pairwise (·<·)∧∀z,z∈u0d l↔∃x∈l,z=x.lo∨z=x.hi+1:=by
 have hs:(Rh (Cu l)).Pairwise (·≤·):=by
  have:=List.pairwise_mergeSort (le:=fun x y:Int=>decide (x≤y)) (fun a b c h1 h2=>by simp at h1 h2 ⊢;omega) (fun a b=>by simp;omega) (Cu l)
  simpa [Rh] using this
 have h:=Xz _ hs _ (Nat.le_refl _)
 refine ⟨h.1,fun z=> ?_⟩
 have h2:=h.2 z
 rw [List.take_length] at h2;rw [u0d,Lib.compact,h2,Rh,List.mem_mergeSort,k00]
theorem k06 (l:List Iv) (cs:List Int) (h:∀x∈l,x.lo∈cs∧x.hi+1∈cs) (c n:Int) (hc:c≤n) (hm:∀d∈cs,d≤n→d≤c):I6 l n=I6 l c:=by
 rw [Bool.eq_iff_iff,Vu,Vu];constructor
 ·rintro ⟨x,hx,h1,h2⟩
  have:=hm _ (h x hx).1 h1
  exact ⟨x,hx,this,by omega⟩
 ·rintro ⟨x,hx,h1,h2⟩
  refine ⟨x,hx,by omega,?_⟩
  by_cases hn:x.hi+1≤n
  ·have:=hm _ (h x hx).2 hn;omega
  ·omega
theorem N9 {l:List Iv} (h:Sep l) (hb:∀n,M l n→ -1099511627776≤n∧n≤1099511627776):∀x∈l,An x:=fun x hx=>
 ⟨(W8 _).2 (hb _ ⟨x,hx,Int.le_refl _,h.1 x hx⟩),(W8 _).2 (hb _ ⟨x,hx,h.1 x hx,Int.le_refl _⟩)⟩
theorem U5:∀(l:List Iv) (s:Int),(∀x∈l,x.lo≤x.hi∧x.hi≤1099511627776)→l.Pairwise (fun x y=>x.hi+2≤y.lo)→(∀x∈l,s≤x.lo)→
  Sep (E3 l s)∧(∀n,M (E3 l s) n↔s≤n∧n≤1099511627776∧¬M l n)∧(E3 l s).length≤l.length+1
 |[],s,_,_,_=>by
  rw [E3];split
  ·exact ⟨⟨fun x hx=>by simp at hx;subst hx;assumption,by simp⟩,fun n=>by rw [W9,V0];simp [V0],by simp⟩
  ·exact ⟨Vs,fun n=>by simp [V0];omega,by simp⟩
 |x::l,s,hf,hp,hs=>by
  have hx:=hf x (by simp)
  have z7:=hs x (by simp)
  have z1:=(List.pairwise_cons.1 hp).1
  obtain ⟨i1,i2,i3⟩:=U5 l (x.hi+1) (fun y hy=>hf y (by simp [hy])) (List.pairwise_cons.1 hp).2 (fun y hy=>by have:=z1 y hy;omega)
  have z6:∀n,M l n→x.hi+2≤n:=by
   rintro n ⟨y,hy,h1,h2⟩
   have:=z1 y hy;omega
  rw [E3];split
  ·refine ⟨⟨fun y hy=> ?_,?_⟩,fun n=> ?_,by simp;omega⟩
   ·rcases List.mem_append.1 hy with h|h
    ·simp at h;subst h;simp only;omega
    ·exact i1.1 y h
   ·refine List.pairwise_append.2 ⟨by simp,i1.2,fun u hu v hv=> ?_⟩
    simp at hu;subst hu
    have:=(i2 v.lo).1 ⟨v,hv,Int.le_refl _,i1.1 v hv⟩
    simp only;omega
   ·rw [Lk,i2,W9,V0,W9]
    by_cases hm:M l n
    ·have:=z6 n hm;simp [hm];omega
    ·simp only [hm,not_false_eq_true,and_true,or_false];omega
  ·refine ⟨⟨fun y hy=>i1.1 y (by simpa using hy),by simpa using i1.2⟩,fun n=> ?_,by simp;omega⟩
   rw [List.nil_append,i2,W9]
   by_cases hm:M l n
   ·simp [hm]
   ·simp only [hm,not_false_eq_true,and_true,or_false];omega
theorem Ux {l:List Iv} (h:CanonL l):Sep (Ep l)∧(∀n,M (Ep l) n↔(-1099511627776≤n∧n≤1099511627776)∧¬M l n)∧(Ep l).length≤l.length+1:=by
 have hs:=Gg h
 have hi:=K6 h
 have:=U5 l (-1099511627776) (fun x hx=>⟨hs.1 x hx,((W8 _).1 (hi x hx).2).2⟩) hs.2 (fun x hx=>((W8 _).1 (hi x hx).1).1)
 exact ⟨this.1,fun n=>by rw [Ep,this.2.1,and_assoc],this.2.2⟩
def z0w (x y:Iv):Option Iv:=if (if x.lo<y.lo then y.lo else x.lo)≤(if y.hi<x.hi then y.hi else x.hi) then some ⟨if x.lo<y.lo then y.lo else x.lo,if y.hi<x.hi then y.hi else x.hi⟩ else none
def L9 (a b:List Iv):List Iv:=a.flatMap fun x=>b.filterMap (z0w x)
theorem Z3 {x y z:Iv} (h:z0w x y=some z):z.lo≤z.hi∧∀n,(z.lo≤n∧n≤z.hi)↔(x.lo≤n∧n≤x.hi)∧(y.lo≤n∧n≤y.hi):=by
 unfold z0w at h
 by_cases hle:(if x.lo<y.lo then y.lo else x.lo)≤(if y.hi<x.hi then y.hi else x.hi)
 ·rw [if_pos hle] at h
  cases h
  refine ⟨hle,fun n=> ?_⟩
  simp only;split<;>split<;>omega
 ·rw [if_neg hle] at h
  cases h
theorem k13 {x y:Iv} {n:Int} (h1:x.lo≤n∧n≤x.hi) (h2:y.lo≤n∧n≤y.hi):∃z,z0w x y=some z∧z.lo≤n∧n≤z.hi:=by
 unfold z0w
 have:(if x.lo<y.lo then y.lo else x.lo)≤(if y.hi<x.hi then y.hi else x.hi):=by split<;>split<;>omega
 rw [if_pos this];refine ⟨_,rfl,?_,?_⟩<;>simp only<;>split<;>omega
theorem Jb (a b:List Iv):(∀x∈L9 a b,x.lo≤x.hi)∧∀n,M (L9 a b) n↔M a n∧M b n:=by
 constructor
 ·intro z hz
  obtain ⟨x,_,hz⟩:=List.mem_flatMap.1 hz
  obtain ⟨y,_,h⟩:=List.mem_filterMap.1 hz
  exact (Z3 h).1
 ·intro n;constructor
  ·rintro ⟨z,hz,h1⟩
   obtain ⟨x,hx,hz⟩:=List.mem_flatMap.1 hz
   obtain ⟨y,hy,h⟩:=List.mem_filterMap.1 hz
   have:=((Z3 h).2 n).1 h1
   exact ⟨⟨x,hx,this.1⟩,⟨y,hy,this.2⟩⟩
  ·rintro ⟨⟨x,hx,h1⟩,⟨y,hy,h2⟩⟩
   obtain ⟨z,hz,h3⟩:=k13 h1 h2
   exact ⟨z,List.mem_flatMap.2 ⟨x,hx,List.mem_filterMap.2 ⟨y,hy,hz⟩⟩,h3⟩
def F8 (a b:List Iv):List Iv:=Eb (L9 a b)
theorem Ip (a b:List Iv):Sep (F8 a b)∧∀n,M (F8 a b) n↔M a n∧M b n:=by
 have h:=Y2 (L9 a b) (Jb a b).1
 exact ⟨h.1,fun n=>by rw [F8,h.2,(Jb a b).2]⟩
end Go.Abs
namespace Go.Abs
open Go
def b2 (b:Bool):Int:=if b=true then 1 else 0
def cnt (p:Int→Bool) (A:Int):Nat→Int
 |0=>0
 |n+1=>cnt p A n+b2 (p (A+n))
def inI (lo hi k:Int):Bool:=decide (lo≤k) && decide (k≤hi)
theorem Cv (lo hi k:Int):inI lo hi k=true↔lo≤k∧k≤hi:=by simp [inI]
theorem q1y (x:Iv) (l:List Iv) (k:Int):I6 (x::l) k=(inI x.lo x.hi k || I6 l k):=by simp [I6,inI]
end Go.Abs
namespace Go.Abs
open Go
end Go.Abs
namespace Go.Abs
open Go
end Go.Abs
namespace Go.Abs
open Go
def w2w (x y:Iv):Bool:=decide (y.lo<x.lo) && decide (x.lo≤y.hi)
def w2v (x y:Iv):Bool:=decide (x.lo≤y.lo) && decide (y.lo≤x.hi)
end Go.Abs
namespace Go.Abs
abbrev Prd:=List (List Iv)
def PM (p:Prd) (t:Nat) (n:Int):Prop:=∃s,p[t]? =some s∧M s n
def inR (n:Int):Prop:= -1099511627776≤n∧n≤1099511627776
def PWf (T:Nat) (p:Prd):Prop:=p.length=T∧∀s∈p,Sep s∧∀n,M s n→inR n
theorem PWf.lt {T:Nat} {p:Prd} (h:PWf T p) {t:Nat} {n:Int} (hm:PM p t n):t<T∧inR n:=by
 obtain ⟨s,hs,hn⟩:=hm
 exact ⟨by rw [←h.1];exact (List.getElem?_eq_some_iff.1 hs).1,(h.2 s (List.mem_of_getElem? hs)).2 n hn⟩
theorem Ox {T:Nat} {p q:Prd} (hp:PWf T p) (hq:PWf T q) (h:∀t n,PM p t n↔PM q t n):p=q:=by
 apply List.ext_getElem (by rw [hp.1,hq.1])
 intro i h1 h2;refine v0n _ _ (hp.2 _ (List.getElem_mem h1)).1 (hq.2 _ (List.getElem_mem h2)).1 fun n=> ?_
 have:=h i n
 unfold PM at this;rw [List.getElem?_eq_getElem h1,List.getElem?_eq_getElem h2] at this
 simpa using this
def Ue (t:Nat) (n:Int) (t':Nat) (n':Int):Prop:=t<t'∨t=t'∧n<n'
theorem Ue.irr {t:Nat} {n:Int} (h:Ue t n t n):False:=by unfold Ue at h;omega
theorem Ue.trans {a b c:Nat} {x y z:Int} (h:Ue a x b y) (k:Ue b y c z):Ue a x c z:=by unfold Ue at *;omega
def j11 (l:List Prd) (t:Nat) (n:Int) (t':Nat) (n':Int):Prop:=∀p∈l,PM p t n↔PM p t' n'
structure Prts (T:Nat) (l L:List Prd):Prop where
 wf:∀p∈L,PWf T p
 ne:∀p∈L,∃t n,PM p t n
 all:∀t n,t<T→inR n→∃p∈L,PM p t n
 cls:∀p∈L,∀t n,PM p t n→∀t' n',PM p t' n'↔t'<T∧inR n'∧j11 l t n t' n'
def z0x (p q:Prd):Prop:=∃t n,PM p t n∧∀t' n',PM q t' n'→Ue t n t' n'
theorem z0x.irr {p:Prd} (h:z0x p p):False:=by
 obtain ⟨t,n,h1,h2⟩:=h
 exact (h2 t n h1).irr
theorem z0x.asymm {p q:Prd} (h:z0x p q) (k:z0x q p):False:=by
 obtain ⟨t,n,h1,h2⟩:=h
 obtain ⟨t',n',k1,k2⟩:=k
 exact ((h2 t' n' k1).trans (k2 t n h1)).irr
theorem Prts.same {T:Nat} {l L L':List Prd} (h:Prts T l L) (h':Prts T l L') {p:Prd} (hp:p∈L):p∈L':=by
 obtain ⟨t,n,hm⟩:=h.ne p hp
 obtain ⟨ht,hn⟩:=(h.wf p hp).lt hm
 obtain ⟨q,hq,z1⟩:=h'.all t n ht hn
 have:p=q:=Ox (h.wf p hp) (h'.wf q hq) fun t' n'=>by rw [h.cls p hp t n hm,h'.cls q hq t n z1]
 rw [this];exact hq
theorem Prts.unique {T:Nat} {l L L':List Prd} (h:Prts T l L) (h':Prts T l L') (s:L.Pairwise z0x) (s':L'.Pairwise z0x):L=L':=by
 have z1:∀ {X:List Prd},X.Pairwise z0x→X.Nodup:=fun hx=>hx.imp (fun h e=>by subst e;exact h.irr)
 refine List.Perm.eq_of_pairwise (le:=z0x) (fun a b _ _ h1 h2=>(h1.asymm h2).elim) s s' ?_
 exact (List.perm_ext_iff_of_nodup (z1 s) (z1 s')).2 fun p=>⟨h.same h',h'.same h⟩
theorem Prts.disj {T:Nat} {l L:List Prd} (h:Prts T l L) {p q:Prd} (hp:p∈L) (hq:q∈L) {t:Nat} {n:Int} (h1:PM p t n) (h2:PM q t n):p=q:=
 Ox (h.wf p hp) (h.wf q hq) fun t' n'=>by rw [h.cls p hp t n h1,h.cls q hq t n h2]
theorem Prts.perm {T:Nat} {l L L':List Prd} (h:Prts T l L) (e:L.Perm L'):Prts T l L':=
 ⟨fun p hp=>h.wf p (e.mem_iff.2 hp),fun p hp=>h.ne p (e.mem_iff.2 hp),fun t n a b=>by obtain ⟨p,hp,hm⟩:=h.all t n a b;exact ⟨p,e.mem_iff.1 hp,hm⟩,fun p hp=>h.cls p (e.mem_iff.2 hp)⟩
def W4 (T:Nat):Prd:=List.replicate T (Ep [])
def W3 (c p:Prd):Prd:=List.zipWith F8 c p
def Rg (p:Prd):Prd:=p.map Ep
def Wp (p:Prd):Bool:=p.all (·.isEmpty)
def Tw (p:Prd) (L:List Prd):List Prd:=L.flatMap fun c=>(if Wp (W3 c p) then [] else [W3 c p])++(if Wp (W3 c (Rg p)) then [] else [W3 c (Rg p)])
def Y1 (T:Nat) (l:List Prd):List Prd:=l.foldl (fun L p=>Tw p L) [W4 T]
def PCk (T:Nat) (p:Prd):Prop:=p.length=T∧∀s∈p,CanonL s
theorem PCk.wf {T:Nat} {p:Prd} (h:PCk T p):PWf T p:=⟨h.1,fun s hs=>⟨Gg (h.2 s hs),fun n hn=>x1g (h.2 s hs) hn⟩⟩
theorem Ai:CanonL []:=⟨by simp,by simp,fun j h=>by simp at h⟩
theorem Px (T t:Nat) (n:Int):PM (W4 T) t n↔t<T∧inR n:=by
 unfold PM W4
 have hg:=(Ux Ai).2.1 n
 constructor
 ·rintro ⟨s,hs,hm⟩
  rw [List.getElem?_replicate] at hs;split at hs
  ·cases hs;exact ⟨by assumption,(hg.1 hm).1⟩
  ·cases hs
 ·rintro ⟨h1,h2⟩
  exact ⟨Ep [],by rw [List.getElem?_replicate,if_pos h1],hg.2 ⟨h2,by simp [M]⟩⟩
theorem Dr (T:Nat):PWf T (W4 T):=⟨by simp [W4],fun s hs=>by
 obtain rfl:=List.eq_of_mem_replicate hs
 exact ⟨(Ux Ai).1,fun n hn=>(((Ux Ai).2.1 n).1 hn).1⟩⟩
theorem W6 {T:Nat} {c p:Prd} (hc:c.length=T) (hp:p.length=T) (t:Nat) (n:Int):PM (W3 c p) t n↔PM c t n∧PM p t n:=by
 unfold PM W3;constructor
 ·rintro ⟨s,hs,hm⟩
  rw [List.getElem?_zipWith] at hs
  cases h1:c[t]? with
  |none=>rw [h1] at hs;simp at hs
  |some a=>
   cases h2:p[t]? with
   |none=>rw [h1,h2] at hs;simp at hs
   |some b=>
    rw [h1,h2] at hs;simp at hs;subst hs
    have:=((Ip a b).2 n).1 hm
    exact ⟨⟨a,rfl,this.1⟩,⟨b,rfl,this.2⟩⟩
 ·rintro ⟨⟨a,h1,m1⟩,⟨b,h2,m2⟩⟩
  exact ⟨F8 a b,by rw [List.getElem?_zipWith,h1,h2],((Ip a b).2 n).2 ⟨m1,m2⟩⟩
theorem Tt {T:Nat} {c p:Prd} (hc:PWf T c) (hp:p.length=T):PWf T (W3 c p):=by
 refine ⟨by simp [W3,hc.1,hp],fun s hs=> ?_⟩
 obtain ⟨i,hi⟩:=List.mem_iff_getElem?.1 hs
 unfold W3 at hi;rw [List.getElem?_zipWith] at hi
 cases h1:c[i]? with
 |none=>rw [h1] at hi;simp at hi
 |some a=>
  cases h2:p[i]? with
  |none=>rw [h1,h2] at hi;simp at hi
  |some b=>
   rw [h1,h2] at hi;simp at hi;subst hi;exact ⟨(Ip a b).1,fun n hn=>(hc.2 a (List.mem_of_getElem? h1)).2 n (((Ip a b).2 n).1 hn).1⟩
theorem Lb {T:Nat} {p:Prd} (hp:PCk T p) (t:Nat) (n:Int):PM (Rg p) t n↔(t<T∧inR n)∧¬PM p t n:=by
 unfold PM Rg;rw [List.getElem?_map];constructor
 ·rintro ⟨s,hs,hm⟩
  obtain ⟨a,ha,rfl⟩:=Option.map_eq_some_iff.1 hs
  have hg:=((Ux (hp.2 a (List.mem_of_getElem? ha))).2.1 n).1 hm
  refine ⟨⟨by rw [←hp.1];exact (List.getElem?_eq_some_iff.1 ha).1,hg.1⟩,?_⟩
  rintro ⟨b,hb,z1⟩
  rw [ha] at hb;cases hb
  exact hg.2 z1
 ·rintro ⟨⟨h1,h2⟩,h3⟩
  have hl:t<p.length:=by rw [hp.1];exact h1
  refine ⟨Ep p[t],by rw [List.getElem?_eq_getElem hl];rfl,((Ux (hp.2 _ (List.getElem_mem hl))).2.1 n).2 ⟨h2,fun hm=>h3 ⟨_,List.getElem?_eq_getElem hl,hm⟩⟩⟩
theorem Rs {T:Nat} {p:Prd} (h:PWf T p):Wp p=true↔∀t n,¬PM p t n:=by
 unfold Wp;rw [List.all_eq_true];constructor
 ·rintro hv t n ⟨s,hs,hm⟩
  have:=hv s (List.mem_of_getElem? hs)
  rw [List.isEmpty_iff] at this;subst this
  simp [M] at hm
 ·intro hv s hs
  obtain ⟨i,hi⟩:=List.mem_iff_getElem?.1 hs
  cases s with
  |nil=>rfl
  |cons x s=>exact absurd ⟨_,hi,(W9 ..).2 (.inl ⟨Int.le_refl _,(h.2 _ hs).1.1 x (by simp)⟩)⟩ (hv i x.lo)
theorem Jp {T:Nat} {l L:List Prd} {p:Prd} (h:Prts T l L) (hp:PCk T p):Prts T (l++[p]) (Tw p L):=by
 have z6:(Rg p).length=T:=by simp [Rg,hp.1]
 have z1:∀q,q∈Tw p L↔∃c∈L,((q=W3 c p)∨(q=W3 c (Rg p)))∧Wp q=false:=by
  intro q;unfold Tw;rw [List.mem_flatMap];constructor
  ·rintro ⟨c,hc,hq⟩
   refine ⟨c,hc,?_⟩
   rcases List.mem_append.1 hq with hq|hq
   ·split at hq
    ·cases hq
    ·rename_i hv;obtain rfl:=List.mem_singleton.1 hq;exact ⟨.inl rfl,by simpa using hv⟩
   ·split at hq
    ·cases hq
    ·rename_i hv;obtain rfl:=List.mem_singleton.1 hq;exact ⟨.inr rfl,by simpa using hv⟩
  ·rintro ⟨c,hc,hq,hv⟩
   refine ⟨c,hc,List.mem_append.2 ?_⟩
   rcases hq with rfl|rfl
   ·left;rw [if_neg (by rw [hv];decide)];simp
   ·right;rw [if_neg (by rw [hv];decide)];simp
 have z7:∀q∈Tw p L,PWf T q:=fun q hq=>by
  obtain ⟨c,hc,rfl|rfl,_⟩:=(z1 q).1 hq
  ·exact Tt (h.wf c hc) hp.1
  ·exact Tt (h.wf c hc) z6
 have zb:∀q∈Tw p L,∃t n,PM q t n:=fun q hq=>by
  obtain ⟨c,hc,_,hv⟩:=(z1 q).1 hq
  by_cases hx:∃t n,PM q t n
  ·exact hx
  ·exfalso
   have:Wp q=true:=(Rs (z7 q hq)).2 fun t n hm=>hx ⟨t,n,hm⟩
   rw [this] at hv;cases hv
 refine ⟨z7,zb,fun t n ht hn=> ?_,fun q hq t n hm t' n'=> ?_⟩
 ·obtain ⟨c,hc,z8⟩:=h.all t n ht hn
  have hv:∀q,(q=W3 c p∨q=W3 c (Rg p))→PM q t n→q∈Tw p L:=fun q hq hm=>(z1 q).2 ⟨c,hc,hq,by
   have hw:PWf T q:=by
    rcases hq with rfl|rfl
    ·exact Tt (h.wf c hc) hp.1
    ·exact Tt (h.wf c hc) z6
   cases hvq:Wp q with
   |false=>rfl
   |true=>exact absurd hm ((Rs hw).1 hvq t n)⟩
  by_cases za:PM p t n
  ·have:=(W6 (h.wf c hc).1 hp.1 t n).2 ⟨z8,za⟩
   exact ⟨_,hv _ (.inl rfl) this,this⟩
  ·have:=(W6 (h.wf c hc).1 z6 t n).2 ⟨z8,(Lb hp t n).2 ⟨⟨ht,hn⟩,za⟩⟩
   exact ⟨_,hv _ (.inr rfl) this,this⟩
 ·obtain ⟨c,hc,zc,_⟩:=(z1 q).1 hq
  have zd:j11 (l++[p]) t n t' n'↔j11 l t n t' n'∧(PM p t n↔PM p t' n'):=by
   constructor
   ·exact fun hs=>⟨fun r hr=>hs r (by simp [hr]),hs p (by simp)⟩
   ·rintro ⟨h1,h2⟩ r hr
    rcases List.mem_append.1 hr with hr|hr
    ·exact h1 r hr
    ·obtain rfl:=List.mem_singleton.1 hr;exact h2
  rw [zd]
  rcases zc with rfl|rfl
  ·obtain ⟨m1,m2⟩:=(W6 (h.wf c hc).1 hp.1 t n).1 hm
   rw [W6 (h.wf c hc).1 hp.1,h.cls c hc t n m1];constructor
   ·rintro ⟨⟨h1,h2,h3⟩,h4⟩;exact ⟨h1,h2,h3,fun _=>h4,fun _=>m2⟩
   ·rintro ⟨h1,h2,h3,h4⟩;exact ⟨⟨h1,h2,h3⟩,h4.1 m2⟩
  ·obtain ⟨m1,m2⟩:=(W6 (h.wf c hc).1 z6 t n).1 hm
   have m3:=((Lb hp t n).1 m2).2
   rw [W6 (h.wf c hc).1 z6,h.cls c hc t n m1,Lb hp];constructor
   ·rintro ⟨⟨h1,h2,h3⟩,h4⟩;exact ⟨h1,h2,h3,fun h=>absurd h m3,fun h=>absurd h h4.2⟩
   ·rintro ⟨h1,h2,h3,h4⟩;exact ⟨⟨h1,h2,h3⟩,⟨h1,h2⟩,fun h=>m3 (h4.2 h)⟩
theorem Ho (T:Nat) (hT:0<T):Prts T [] [W4 T]:=by
 refine ⟨fun p hp=> ?_,fun p hp=> ?_,fun t n ht hn=> ?_,fun p hp t n hm t' n'=> ?_⟩
 ·obtain rfl:=List.mem_singleton.1 hp;exact Dr T
 ·obtain rfl:=List.mem_singleton.1 hp;exact ⟨0,0,(Px T 0 0).2 ⟨hT,by unfold inR;omega⟩⟩
 ·exact ⟨_,List.mem_singleton_self _,(Px T t n).2 ⟨ht,hn⟩⟩
 ·obtain rfl:=List.mem_singleton.1 hp
  rw [Px];exact ⟨fun h=>⟨h.1,h.2,fun r hr=>by cases hr⟩,fun h=>⟨h.1,h.2.1⟩⟩
theorem Xb {T:Nat} (hT:0<T) {l:List Prd} (hl:∀p∈l,PCk T p):Prts T l (Y1 T l):=by
 have key:∀(r d L:List Prd),Prts T d L→(∀p∈r,PCk T p)→Prts T (d++r) (r.foldl (fun L p=>Tw p L) L):=by
  intro r
  induction r with
  |nil=>intro d L h _;simpa using h
  |cons p r ih=>
   intro d L h hr;rw [List.foldl_cons]
   have:=ih (d++[p]) (Tw p L) (Jp h (hr p (by simp))) (fun q hq=>hr q (by simp [hq]))
   simpa using this
 have:=key l [] [W4 T] (Ho T hT) hl
 simpa [Y1] using this
end Go.Abs
namespace Go.Abs
def Qu:Prd→Nat→Nat×Int
 |[],_=>(0,0)
 |(x::_)::_,i=>(i,x.lo)
 |[]::p,i=>Qu p (i+1)
def Z7 (a b:Nat×Int):Bool:=decide (a.1<b.1) || (decide (a.1=b.1) && decide (a.2<b.2))
theorem E6 (a b:Nat×Int):Z7 a b=true↔Ue a.1 a.2 b.1 b.2:=by simp [Z7,Ue]
theorem Z9:∀(p:Prd) (i:Nat),(∀s∈p,Sep s)→(∃s∈p,s≠[])→∃t x r,p[t]? =some (x::r)∧Qu p i=(i+t,x.lo)∧∀j,j<t→p[j]? =some []
 |[],_,_,⟨s,hs,_⟩=>by cases hs
 |(x::r)::p,i,_,_=>⟨0,x,r,rfl,rfl,fun j hj=>by omega⟩
 |[]::p,i,h,⟨s,hs,hn⟩=>by
  have z1:s∈p:=by
   rcases List.mem_cons.1 hs with rfl|hs
   ·exact absurd rfl hn
   ·exact hs
  obtain ⟨t,x,r,h1,h2,h3⟩:=Z9 p (i+1) (fun s hs=>h s (by simp [hs])) ⟨s,z1,hn⟩
  refine ⟨t+1,x,r,by simpa using h1,by rw [Qu,h2];congr 1;omega,fun j hj=> ?_⟩
  cases j with
  |zero=>rfl
  |succ j=>simpa using h3 j (by omega)
theorem Wu {T:Nat} {p:Prd} (h:PWf T p) (hn:∃t n,PM p t n):PM p (Qu p 0).1 (Qu p 0).2∧∀t n,PM p t n→((Qu p 0).1=t∧(Qu p 0).2=n)∨Ue (Qu p 0).1 (Qu p 0).2 t n:=by
 obtain ⟨t0,n0,s0,z1,m0⟩:=hn
 have z6:s0≠[]:=fun e=>by subst e;simp [M] at m0
 obtain ⟨t,x,r,h1,h2,h3⟩:=Z9 p 0 (fun s hs=>(h.2 s hs).1) ⟨s0,List.mem_of_getElem? z1,z6⟩
 rw [Nat.zero_add] at h2;rw [h2]
 have hx:=(h.2 _ (List.mem_of_getElem? h1)).1
 refine ⟨⟨_,h1,(W9 ..).2 (.inl ⟨Int.le_refl _,hx.1 x (by simp)⟩)⟩,fun t' n' hm=> ?_⟩
 obtain ⟨s,hs,hm⟩:=hm
 simp only
 rcases Nat.lt_trichotomy t' t with hlt|rfl|hgt
 ·rw [h3 t' hlt] at hs;cases hs;simp [M] at hm
 ·rw [h1] at hs;cases hs
  have:=hx.lowc hm
  unfold Ue;omega
 ·exact .inr (.inl hgt)
theorem Lu {T:Nat} {p q:Prd} (hp:PWf T p) (z1:∃t n,PM p t n) (hq:PWf T q) (z6:∃t n,PM q t n) (h:Ue (Qu p 0).1 (Qu p 0).2 (Qu q 0).1 (Qu q 0).2):z0x p q:=
 ⟨_,_,(Wu hp z1).1,fun t n hm=>by
  rcases (Wu hq z6).2 t n hm with ⟨e1,e2⟩|h2
  ·rw [←e1,←e2];exact h
  ·exact h.trans h2⟩
def f0v (s:List Prd) (x:Prd):Nat→Nat
 |0=>0
 |j+1=>match s[j]? with
  |some y=>if Z7 (Qu x 0) (Qu y 0)=true then f0v s x j else j+1
  |none=>j+1
def y0u (s:List Prd) (x:Prd):List Prd:=s.take (f0v s x s.length)++x::s.drop (f0v s x s.length)
def f08 (L:List Prd):List Prd:=L.foldl y0u []
theorem Zn (s:List Prd) (x:Prd):∀j,j≤s.length→f0v s x j≤j∧(∀i,f0v s x j≤i→i<j→∀h:i<s.length,Z7 (Qu x 0) (Qu s[i] 0)=true)∧(∀i,i+1=f0v s x j→∀h:i<s.length,Z7 (Qu x 0) (Qu s[i] 0)=false)
 |0,_=>⟨Nat.le_refl _,fun i _ h=>by omega,fun i h=>by simp [f0v] at h⟩
 |j+1,hj=>by
  have z1:j<s.length:=by omega
  rw [f0v,List.getElem?_eq_getElem z1];simp only
  by_cases hb:Z7 (Qu x 0) (Qu s[j] 0)=true
  ·rw [if_pos hb]
   obtain ⟨h1,h2,h3⟩:=Zn s x j (by omega)
   refine ⟨by omega,fun i hi z6 hl=> ?_,h3⟩
   by_cases hij:i=j
   ·subst hij;exact hb
   ·exact h2 i hi (by omega) hl
  ·rw [if_neg hb];refine ⟨Nat.le_refl _,fun i hi z6=>by omega,fun i hi hl=> ?_⟩
   have:i=j:=by omega
   subst this
   simpa using hb
theorem f0a (s:List Prd) (x:Prd):(y0u s x).Perm (x::s):=by
 unfold y0u;refine List.perm_middle.trans ?_;rw [List.take_append_drop]
def K1 (p q:Prd):Prop:=Ue (Qu p 0).1 (Qu p 0).2 (Qu q 0).1 (Qu q 0).2
theorem Bg {s:List Prd} {x:Prd} (hs:s.Pairwise K1) (hd:∀y∈s,Qu y 0≠Qu x 0):(y0u s x).Pairwise K1:=by
 obtain ⟨h1,h2,h3⟩:=Zn s x s.length (Nat.le_refl _)
 unfold y0u;generalize f0v s x s.length=k at *
 have z1:=hs
 rw [←List.take_append_drop k s] at z1
 obtain ⟨p1,p2,p3⟩:=List.pairwise_append.1 z1
 have z7:∀y∈s.drop k,K1 x y:=fun y hy=>by
  obtain ⟨i,hi⟩:=List.mem_iff_getElem?.1 hy
  rw [List.getElem?_drop] at hi
  obtain ⟨hl,e⟩:=List.getElem?_eq_some_iff.1 hi
  have:=h2 (k+i) (by omega) hl hl
  rw [e] at this;exact (E6 _ _).1 this
 have z8:∀i,i+1=k→∀h:i<s.length,K1 s[i] x:=fun i hi hl=>by
  have h4:=h3 i hi hl
  have zc:=hd s[i] (List.getElem_mem hl)
  unfold K1
  rcases Nat.lt_trichotomy (Qu s[i] 0).1 (Qu x 0).1 with a|a|a
  ·exact .inl a
  ·rcases Int.lt_trichotomy (Qu s[i] 0).2 (Qu x 0).2 with b|b|b
   ·exact .inr ⟨a,b⟩
   ·exact absurd (Prod.ext a b) zc
   ·have:Z7 (Qu x 0) (Qu s[i] 0)=true:=(E6 _ _).2 (.inr ⟨a.symm,b⟩)
    rw [this] at h4;cases h4
  ·have:Z7 (Qu x 0) (Qu s[i] 0)=true:=(E6 _ _).2 (.inl a)
   rw [this] at h4;cases h4
 have z6:∀y∈s.take k,K1 y x:=fun y hy=>by
  obtain ⟨i,hi⟩:=List.mem_iff_getElem?.1 hy
  rw [List.getElem?_take] at hi;split at hi
  ·rename_i zd
   obtain ⟨hl,e⟩:=List.getElem?_eq_some_iff.1 hi
   obtain ⟨k',rfl⟩:∃k',k=k'+1:=⟨k - 1,by omega⟩
   have za:k'<s.length:=by omega
   have zb:=z8 k' rfl za
   by_cases hij:i=k'
   ·subst hij;rw [←e];exact zb
   ·have:=List.pairwise_iff_getElem.1 hs i k' hl za (by omega)
    rw [e] at this;exact Ue.trans this zb
  ·cases hi
 refine List.pairwise_append.2 ⟨p1,List.pairwise_cons.2 ⟨z7,p2⟩,fun y hy z hz=> ?_⟩
 rcases List.mem_cons.1 hz with rfl|hz
 ·exact z6 y hy
 ·exact p3 y hy z hz
theorem z0c (L:List Prd) (hd:L.Pairwise (fun p q=>Qu p 0≠Qu q 0)):(f08 L).Perm L∧(f08 L).Pairwise K1:=by
 have key:∀(r s:List Prd),s.Pairwise K1→(s++r).Pairwise (fun p q=>Qu p 0≠Qu q 0)→(r.foldl y0u s).Perm (s++r)∧(r.foldl y0u s).Pairwise K1:=by
  intro r
  induction r with
  |nil=>intro s h _;simpa using h
  |cons x r ih=>
   intro s h hd
   obtain ⟨d1,d2,d3⟩:=List.pairwise_append.1 hd
   have hi:=Bg h (fun y hy=>d3 y hy x (by simp))
   have hp:=f0a s x
   have z1:(y0u s x++r).Perm (s++x::r):=(hp.append_right r).trans (List.perm_middle (l₁:=s) (a:=x) (l₂:=r)).symm
   have z6:(y0u s x++r).Pairwise (fun p q=>Qu p 0≠Qu q 0):=(z1.pairwise_iff (fun h=>Ne.symm h)).2 hd
   obtain ⟨i1,i2⟩:=ih (y0u s x) hi z6
   rw [List.foldl_cons];exact ⟨i1.trans z1,i2⟩
 have h:=key L [] List.Pairwise.nil (by simpa using hd)
 unfold f08
 simpa using h
def Q8 (T:Nat) (l:List Prd):List Prd:=f08 (Y1 T l)
theorem Xk {T:Nat} {l L:List Prd} {p:Prd} (h:Prts T l L) (hp:PCk T p) (hd:L.Pairwise (fun a b=>∀t n,PM a t n→¬PM b t n)):(Tw p L).Pairwise (fun a b=>∀t n,PM a t n→¬PM b t n):=by
 have z7:(Rg p).length=T:=by simp [Rg,hp.1]
 have z8:∀c∈L,∀q∈(if Wp (W3 c p) then [] else [W3 c p])++(if Wp (W3 c (Rg p)) then [] else [W3 c (Rg p)]),∀t n,PM q t n→PM c t n:=by
  intro c hc q hq t n hm
  rcases List.mem_append.1 hq with hq|hq
  ·split at hq
   ·cases hq
   ·obtain rfl:=List.mem_singleton.1 hq;exact ((W6 (h.wf c hc).1 hp.1 t n).1 hm).1
  ·split at hq
   ·cases hq
   ·obtain rfl:=List.mem_singleton.1 hq;exact ((W6 (h.wf c hc).1 z7 t n).1 hm).1
 unfold Tw;rw [List.pairwise_flatMap];refine ⟨fun c hc=> ?_,?_⟩
 ·refine List.pairwise_append.2 ⟨by split<;>simp,by split<;>simp,fun a ha b hb t n z1 z6=> ?_⟩
  split at ha
  ·cases ha
  ·split at hb
   ·cases hb
   ·obtain rfl:=List.mem_singleton.1 ha
    obtain rfl:=List.mem_singleton.1 hb
    exact ((Lb hp t n).1 ((W6 (h.wf c hc).1 z7 t n).1 z6).2).2 ((W6 (h.wf c hc).1 hp.1 t n).1 z1).2
 ·exact hd.imp_of_mem (fun {a b} ha hb hab x hx y hy t n z1 z6=>hab t n (z8 a ha x hx t n z1) (z8 b hb y hy t n z6))
theorem X9 {T:Nat} (hT:0<T) {l:List Prd} (hl:∀p∈l,PCk T p):(Y1 T l).Pairwise (fun a b=>∀t n,PM a t n→¬PM b t n):=by
 have key:∀(r d L:List Prd),Prts T d L→(∀p∈r,PCk T p)→L.Pairwise (fun a b=>∀t n,PM a t n→¬PM b t n)→(r.foldl (fun L p=>Tw p L) L).Pairwise (fun a b=>∀t n,PM a t n→¬PM b t n):=by
  intro r
  induction r with
  |nil=>intro d L _ _ h;simpa using h
  |cons p r ih=>
   intro d L h hr hd;rw [List.foldl_cons];exact ih (d++[p]) (Tw p L) (Jp h (hr p (by simp))) (fun q hq=>hr q (by simp [hq])) (Xk h (hr p (by simp)) hd)
 exact key l [] [W4 T] (Ho T hT) hl (by simp)
theorem Y0 {T:Nat} (hT:0<T) {l:List Prd} (hl:∀p∈l,PCk T p):Prts T l (Q8 T l)∧(Q8 T l).Pairwise z0x:=by
 have h:=Xb hT hl
 have hd:(Y1 T l).Pairwise (fun p q=>Qu p 0≠Qu q 0):=(X9 hT hl).imp_of_mem (fun {a b} ha hb hab e=>by
  have h1:=(Wu (h.wf a ha) (h.ne a ha)).1
  have h2:=(Wu (h.wf b hb) (h.ne b hb)).1
  rw [←e] at h2;exact hab _ _ h1 h2)
 obtain ⟨h1,h2⟩:=z0c _ hd
 have h3:Prts T l (Q8 T l):=h.perm h1.symm
 refine ⟨h3,?_⟩;exact h2.imp_of_mem (fun {a b} ha hb hab=>Lu (h3.wf a ha) (h3.ne a ha) (h3.wf b hb) (h3.ne b hb) hab)
end Go.Abs
namespace Go.Abs
def Qs (l:List Prd) (i:Nat):List Iv:=l.flatMap fun p=>p.getD i []
def Q9 (l:List Prd) (i:Nat):List Int:=u0d (⟨-1099511627776,1099511627776⟩::Qs l i)
def Ts:List Int→List Iv
 |a::b::r=>⟨a,b - 1⟩::Ts (b::r)
 |_=>[]
def Um (l:List Prd) (i:Nat) (n:Int):List Bool:=l.map fun p=>I6 (p.getD i []) n
def Y4 (p:Prd) (i:Nat) (x:Iv):Prd:=p.set i (p.getD i []++[x])
def Ty (T i:Nat) (sg:List Bool) (x:Iv):List (List Bool×Prd)→List (List Bool×Prd)
 |[]=>[(sg,Y4 (List.replicate T []) i x)]
 |(s,p)::r=>if s=sg then (s,Y4 p i x)::r else (s,p)::Ty T i sg x r
def H6 (T:Nat) (l:List Prd):List (Nat×Iv):=(List.range T).flatMap fun i=>(Ts (Q9 l i)).map fun x=>(i,x)
def Od (T:Nat) (l:List Prd):List (List Bool×Prd):=(H6 T l).foldl (fun st a=>Ty T a.1 (Um l a.1 a.2.lo) a.2 st) []
def Ew (p:Prd):Prd:=p.map (Qv [])
def Ei (T:Nat) (l:List Prd):List Prd:=(Od T l).map fun g=>Ew g.2
def v1q (a:Nat×Iv) (t:Nat) (n:Int):Prop:=t=a.1∧a.2.lo≤n∧n≤a.2.hi
structure GInv (T:Nat) (sig:Nat→Int→List Bool) (D:Nat→Int→Prop) (st:List (List Bool×Prd)):Prop where
 len:∀g∈st,g.2.length=T
 asc:∀g∈st,∀s∈g.2,(∀x∈s,x.lo≤x.hi)∧s.Pairwise (fun x y=>x.hi<y.lo)
 mem:∀g∈st,∀t n,PM g.2 t n↔D t n∧sig t n=g.1
 ne:∀g∈st,∃t n,PM g.2 t n
 nd:st.Pairwise (fun g h=>g.1≠h.1)
 all:∀t n,D t n→∃g∈st,g.1=sig t n
 ord:st.Pairwise (fun g h=>∃t n,PM g.2 t n∧∀t' n',PM h.2 t' n'→Ue t n t' n')
theorem Ws {p:Prd} {i:Nat} (h:i<p.length):p.getD i []=p[i]:=by simp [List.getD,h]
theorem z1j {T:Nat} {p:Prd} (hp:p.length=T) {i:Nat} (hi:i<T) (x:Iv) (t:Nat) (n:Int):PM (Y4 p i x) t n↔PM p t n∨v1q (i,x) t n:=by
 unfold PM Y4 v1q
 have z1:i<p.length:=by omega
 rw [Ws z1]
 by_cases ht:t=i
 ·subst ht;rw [List.getElem?_set_self z1,List.getElem?_eq_getElem z1];constructor
  ·rintro ⟨s,hs,hm⟩
   cases hs
   rcases (Lk ..).1 hm with h|h
   ·exact .inl ⟨_,rfl,h⟩
   ·rcases (W9 ..).1 h with h|h
    ·exact .inr ⟨rfl,h⟩
    ·simp [M] at h
  ·rintro (⟨s,hs,hm⟩|⟨_,h⟩)
   ·cases hs;exact ⟨_,rfl,(Lk ..).2 (.inl hm)⟩
   ·exact ⟨_,rfl,(Lk ..).2 (.inr ((W9 ..).2 (.inl h)))⟩
 ·rw [List.getElem?_set_ne (by omega)]
  constructor
  ·exact fun h=> .inl h
  ·rintro (h|⟨h,_⟩)
   ·exact h
   ·exact absurd h ht
theorem g0i {T:Nat} {p:Prd} (hp:p.length=T) {i:Nat} (hi:i<T) {x:Iv} (hx:x.lo≤x.hi) (h:∀s∈p,(∀y∈s,y.lo≤y.hi)∧s.Pairwise (fun y z=>y.hi<z.lo)) (z6:∀t n,PM p t n→Ue t n i x.lo):
  ∀s∈Y4 p i x,(∀y∈s,y.lo≤y.hi)∧s.Pairwise (fun y z=>y.hi<z.lo):=by
 intro s hs
 have z1:i<p.length:=by omega
 rcases List.mem_or_eq_of_mem_set hs with hs|rfl
 ·exact h s hs
 ·rw [Ws z1]
  obtain ⟨h1,h2⟩:=h _ (List.getElem_mem z1)
  refine ⟨fun y hy=> ?_,List.pairwise_append.2 ⟨h2,by simp,fun y hy z hz=> ?_⟩⟩
  ·rcases List.mem_append.1 hy with hy|hy
   ·exact h1 y hy
   ·obtain rfl:=List.mem_singleton.1 hy;exact hx
  ·obtain rfl:=List.mem_singleton.1 hz
   have:=z6 i y.hi ⟨_,List.getElem?_eq_getElem z1,y,hy,h1 y hy,Int.le_refl _⟩
   unfold Ue at this;omega
theorem Ir {T i:Nat} {sg:List Bool} {x:Iv}:∀ {st:List (List Bool×Prd)},(∀g∈st,g.1≠sg)→Ty T i sg x st=st++[(sg,Y4 (List.replicate T []) i x)]
 |[],_=>rfl
 |(s,p)::r,h=>by
  rw [Ty,if_neg (h (s,p) (by simp)),Ir (fun g hg=>h g (by simp [hg]))]
  rfl
theorem A8 {T i:Nat} {sg:List Bool} {x:Iv}:∀ {st:List (List Bool×Prd)},(∃g∈st,g.1=sg)→∃a p b,st=a++(sg,p)::b∧(∀g∈a,g.1≠sg)∧Ty T i sg x st=a++(sg,Y4 p i x)::b
 |[],⟨g,hg,_⟩=>by cases hg
 |(s,p)::r,⟨g,hg,he⟩=>by
  by_cases hs:s=sg
  ·subst hs;exact ⟨[],p,r,rfl,by simp,by rw [Ty,if_pos rfl];rfl⟩
  ·have z1:g∈r:=by
    rcases List.mem_cons.1 hg with rfl|hg
    ·exact absurd he hs
    ·exact hg
   obtain ⟨a,q,b,h1,h2,h3⟩:=A8 (T:=T) (i:=i) (x:=x) ⟨g,z1,he⟩
   refine ⟨(s,p)::a,q,b,by rw [h1];rfl,fun g hg=> ?_,by rw [Ty,if_neg hs,h3];rfl⟩
   rcases List.mem_cons.1 hg with rfl|hg
   ·exact hs
   ·exact h2 g hg
theorem Ll (T t:Nat) (n:Int):¬PM (List.replicate T []) t n:=by
 rintro ⟨s,hs,hm⟩
 obtain rfl:=List.eq_of_mem_replicate (List.mem_of_getElem? hs)
 simp [M] at hm
theorem GInv.step {T:Nat} {sig:Nat→Int→List Bool} {D:Nat→Int→Prop} {st:List (List Bool×Prd)} (h:GInv T sig D st) {i:Nat} {x:Iv} (hi:i<T) (hx:x.lo≤x.hi) (hc:∀n,x.lo≤n→n≤x.hi→sig i n=sig i x.lo) (hD:∀t n,D t n→∀n',x.lo≤n'→n'≤x.hi→Ue t n i n'):
  GInv T sig (fun t n=>D t n∨v1q (i,x) t n) (Ty T i (sig i x.lo) x st):=by
 have z7:∀t n,v1q (i,x) t n→sig t n=sig i x.lo:=fun t n hp=>by obtain ⟨rfl,h1,h2⟩:=hp;exact hc n h1 h2
 have zb:∀t n,D t n→∀t' n',v1q (i,x) t' n'→Ue t n t' n':=fun t n hd t' n' hp=>by obtain ⟨rfl,h1,h2⟩:=hp;exact hD t n hd n' h1 h2
 have zc:v1q (i,x) i x.lo:=⟨rfl,Int.le_refl _,hx⟩
 by_cases hit:∃g∈st,g.1=sig i x.lo
 ·obtain ⟨a,p,b,h1,h2,h3⟩:=A8 (T:=T) (i:=i) (x:=x) hit
  rw [h3];subst h1;generalize zh:sig i x.lo=s0 at *
  have za:(s0,p)∈a++(s0,p)::b:=by simp
  have zd:=h.mem _ za
  have hlen:=h.len _ za
  have zf:=h.nd
  obtain ⟨n1,n2,n3⟩:=List.pairwise_append.1 zf
  obtain ⟨n4,n5⟩:=List.pairwise_cons.1 n2
  obtain ⟨o1,o2,o3⟩:=List.pairwise_append.1 h.ord
  obtain ⟨o4,o5⟩:=List.pairwise_cons.1 o2
  have z1:=fun t n=>z1j hlen hi x t n
  have hold:∀g∈a++(s0,Y4 p i x)::b,(g∈a++(s0,p)::b∧g.1≠s0)∨g=(s0,Y4 p i x):=fun g hg=>by
   rcases List.mem_append.1 hg with hg|hg
   ·exact .inl ⟨by simp [hg],h2 g hg⟩
   ·rcases List.mem_cons.1 hg with rfl|hg
    ·exact .inr rfl
    ·exact .inl ⟨by simp [hg],(n4 g hg).symm⟩
  refine ⟨fun g hg=> ?_,fun g hg=> ?_,fun g hg t n=> ?_,fun g hg=> ?_,?_,fun t n hd=> ?_,?_⟩
  ·rcases hold g hg with ⟨hg,_⟩|rfl
   ·exact h.len g hg
   ·simp [Y4,hlen]
  ·rcases hold g hg with ⟨hg,_⟩|rfl
   ·exact h.asc g hg
   ·exact g0i hlen hi hx (h.asc _ za) (fun t n hm=>hD t n ((zd t n).1 hm).1 x.lo (Int.le_refl _) hx)
  ·rcases hold g hg with ⟨hg,zg⟩|rfl
   ·rw [h.mem g hg t n];constructor
    ·exact fun hh=>⟨.inl hh.1,hh.2⟩
    ·rintro ⟨hd|hd,hs⟩
     ·exact ⟨hd,hs⟩
     ·exact absurd (by rw [←hs,z7 t n hd]) zg
   ·rw [z1,zd];constructor
    ·rintro (⟨hd,hs⟩|hd)
     ·exact ⟨.inl hd,hs⟩
     ·exact ⟨.inr hd,z7 t n hd⟩
    ·rintro ⟨hd|hd,hs⟩
     ·exact .inl ⟨hd,hs⟩
     ·exact .inr hd
  ·rcases hold g hg with ⟨hg,_⟩|rfl
   ·exact h.ne g hg
   ·exact ⟨i,x.lo,(z1 i x.lo).2 (.inr zc)⟩
  ·exact List.pairwise_append.2 ⟨n1,List.pairwise_cons.2 ⟨fun g hg=>n4 g hg,n5⟩,fun g hg k hk=>by
    rcases List.mem_cons.1 hk with rfl|hk
    ·exact h2 g hg
    ·exact n3 g hg k (by simp [hk])⟩
  ·rcases hd with hd|hd
   ·obtain ⟨g,hg,he⟩:=h.all t n hd
    rcases List.mem_append.1 hg with hg|hg
    ·exact ⟨g,by simp [hg],he⟩
    ·rcases List.mem_cons.1 hg with rfl|hg
     ·exact ⟨(s0,Y4 p i x),by simp,he⟩
     ·exact ⟨g,by simp [hg],he⟩
   ·exact ⟨(s0,Y4 p i x),by simp,(z7 t n hd).symm⟩
  ·refine List.pairwise_append.2 ⟨o1,List.pairwise_cons.2 ⟨fun g hg=> ?_,o5⟩,fun g hg k hk=> ?_⟩
   ·obtain ⟨t,n,e1,e2⟩:=o4 g hg
    exact ⟨t,n,(z1 t n).2 (.inl e1),e2⟩
   ·rcases List.mem_cons.1 hk with rfl|hk
    ·obtain ⟨t,n,e1,e2⟩:=o3 g hg (s0,p) (by simp)
     refine ⟨t,n,e1,fun t' n' hm=> ?_⟩
     rcases (z1 t' n').1 hm with hm|hm
     ·exact e2 t' n' hm
     ·exact zb t n ((h.mem g (by simp [hg]) t n).1 e1).1 t' n' hm
    ·exact o3 g hg k (by simp [hk])
 ·have z8:∀g∈st,g.1≠sig i x.lo:=fun g hg he=>hit ⟨g,hg,he⟩
  rw [Ir z8]
  have ze:(List.replicate T ([]:List Iv)).length=T:=by simp
  have z1:=fun t n=>z1j ze hi x t n
  have z6:∀g∈st++[(sig i x.lo,Y4 (List.replicate T []) i x)],g∈st∨g=(sig i x.lo,Y4 (List.replicate T []) i x):=fun g hg=>by
   rcases List.mem_append.1 hg with hg|hg
   ·exact .inl hg
   ·exact .inr (List.mem_singleton.1 hg)
  refine ⟨fun g hg=> ?_,fun g hg=> ?_,fun g hg t n=> ?_,fun g hg=> ?_,?_,fun t n hd=> ?_,?_⟩
  ·rcases z6 g hg with hg|rfl
   ·exact h.len g hg
   ·simp [Y4]
  ·rcases z6 g hg with hg|rfl
   ·exact h.asc g hg
   ·exact g0i ze hi hx (fun s hs=>by obtain rfl:=List.eq_of_mem_replicate hs;simp) (fun t n hm=>absurd hm (Ll T t n))
  ·rcases z6 g hg with hg|rfl
   ·rw [h.mem g hg t n];constructor
    ·exact fun hh=>⟨.inl hh.1,hh.2⟩
    ·rintro ⟨hd|hd,hs⟩
     ·exact ⟨hd,hs⟩
     ·exact absurd (by rw [←hs,z7 t n hd]) (z8 g hg)
   ·rw [z1];constructor
    ·rintro (hm|hd)
     ·exact absurd hm (Ll T t n)
     ·exact ⟨.inr hd,z7 t n hd⟩
    ·rintro ⟨hd|hd,hs⟩
     ·obtain ⟨g,hg,he⟩:=h.all t n hd
      exact absurd (he.trans hs) (z8 g hg)
     ·exact .inr hd
  ·rcases z6 g hg with hg|rfl
   ·exact h.ne g hg
   ·exact ⟨i,x.lo,(z1 i x.lo).2 (.inr zc)⟩
  ·exact List.pairwise_append.2 ⟨h.nd,by simp,fun g hg k hk=>by obtain rfl:=List.mem_singleton.1 hk;exact z8 g hg⟩
  ·rcases hd with hd|hd
   ·obtain ⟨g,hg,he⟩:=h.all t n hd
    exact ⟨g,by simp [hg],he⟩
   ·exact ⟨(sig i x.lo,Y4 (List.replicate T []) i x),by simp,(z7 t n hd).symm⟩
  ·refine List.pairwise_append.2 ⟨h.ord,by simp,fun g hg k hk=> ?_⟩
   obtain rfl:=List.mem_singleton.1 hk
   obtain ⟨t,n,e1⟩:=h.ne g hg
   refine ⟨t,n,e1,fun t' n' hm=> ?_⟩
   rcases (z1 t' n').1 hm with hm|hm
   ·exact absurd hm (Ll T t' n')
   ·exact zb t n ((h.mem g hg t n).1 e1).1 t' n' hm
end Go.Abs
namespace Go.Abs
theorem Am:∀(cs:List Int),cs.Pairwise (·<·)→∀x∈Ts cs,x.lo≤x.hi∧x.lo∈cs∧x.hi+1∈cs∧∀d∈cs,d≤x.hi→d≤x.lo
 |[],_,x,hx=>by simp [Ts] at hx
 |[a],_,x,hx=>by simp [Ts] at hx
 |a::b::r,h,x,hx=>by
  obtain ⟨h1,h2⟩:=List.pairwise_cons.1 h
  rw [Ts] at hx
  rcases List.mem_cons.1 hx with rfl|hx
  ·have z1:=h1 b (by simp)
   refine ⟨by simp only;omega,by simp,by simp,fun d hd hle=> ?_⟩
   simp only at hle ⊢
   rcases List.mem_cons.1 hd with rfl|hd
   ·omega
   ·have:b≤d:=by
     rcases List.mem_cons.1 hd with rfl|hd
     ·omega
     ·have:=(List.pairwise_cons.1 h2).1 d hd;omega
    omega
  ·obtain ⟨k1,k2,k3,k4⟩:=Am (b::r) h2 x hx
   refine ⟨k1,by simp only [List.mem_cons] at k2 ⊢;exact .inr k2,by simp only [List.mem_cons] at k3 ⊢;exact .inr k3,fun d hd hle=> ?_⟩
   rcases List.mem_cons.1 hd with rfl|hd
   ·have:=h1 x.lo k2;omega
   ·exact k4 d hd hle
theorem Bl:∀(cs:List Int),cs.Pairwise (·<·)→(Ts cs).Pairwise (fun x y=>x.hi<y.lo)
 |[],_=>by simp [Ts]
 |[a],_=>by simp [Ts]
 |a::b::r,h=>by
  obtain ⟨h1,h2⟩:=List.pairwise_cons.1 h
  rw [Ts];refine List.pairwise_cons.2 ⟨fun y hy=> ?_,Bl (b::r) h2⟩
  obtain ⟨_,k2,_,_⟩:=Am (b::r) h2 y hy
  have:b≤y.lo:=by
   rcases List.mem_cons.1 k2 with e|k2
   ·omega
   ·have:=(List.pairwise_cons.1 h2).1 y.lo k2;omega
  simp only;omega
theorem Hk:∀(cs:List Int),cs.Pairwise (·<·)→∀n,(∃a∈cs,a≤n)→(∃b∈cs,n<b)→∃x∈Ts cs,x.lo≤n∧n≤x.hi
 |[],_,n,⟨a,ha,_⟩,_=>by cases ha
 |[a],_,n,⟨c,hc,h1⟩,⟨d,hd,h2⟩=>by
  obtain rfl:=List.mem_singleton.1 hc
  obtain rfl:=List.mem_singleton.1 hd
  omega
 |a::b::r,h,n,⟨c,hc,h1⟩,⟨d,hd,h2⟩=>by
  obtain ⟨p1,p2⟩:=List.pairwise_cons.1 h
  rw [Ts]
  have z1:a≤n:=by
   rcases List.mem_cons.1 hc with rfl|hc
   ·exact h1
   ·have:=p1 c hc;omega
  by_cases hb:n<b
  ·exact ⟨⟨a,b - 1⟩,by simp,z1,by simp only;omega⟩
  ·have z6:d∈b::r:=by
    rcases List.mem_cons.1 hd with rfl|hd
    ·omega
    ·exact hd
   obtain ⟨x,hx,e⟩:=Hk (b::r) p2 n ⟨b,by simp,by omega⟩ ⟨d,z6,h2⟩
   exact ⟨x,by simp [hx],e⟩
theorem Ro {l:List Prd} {i:Nat} {x:Iv}:x∈Qs l i↔∃p∈l,x∈p.getD i []:=by simp [Qs]
theorem c0c {T:Nat} {p:Prd} (hp:PCk T p) (i:Nat):CanonL (p.getD i []):=by
 by_cases hi:i<p.length
 ·rw [Ws hi];exact hp.2 _ (List.getElem_mem hi)
 ·have:p.getD i []=[]:=by simp [List.getD,List.getElem?_eq_none (by omega:p.length≤i)]
  rw [this];exact Ai
theorem Tc {T:Nat} {l:List Prd} (hl:∀p∈l,PCk T p) (i:Nat):(Q9 l i).Pairwise (·<·)∧(-1099511627776:Int)∈Q9 l i∧(1099511627777:Int)∈Q9 l i∧
  (∀z∈Q9 l i,-1099511627776≤z∧z≤1099511627777)∧∀p∈l,∀x∈p.getD i [],x.lo∈Q9 l i∧x.hi+1∈Q9 l i:=by
 obtain ⟨h1,h2⟩:=k0e (⟨-1099511627776,1099511627776⟩::Qs l i)
 refine ⟨h1,(h2 _).2 ⟨⟨-1099511627776,1099511627776⟩,by simp,.inl rfl⟩,(h2 _).2 ⟨⟨-1099511627776,1099511627776⟩,by simp,.inr (by simp)⟩,fun z hz=> ?_,fun p hp x hx=>⟨(h2 _).2 ⟨x,?_,.inl rfl⟩,(h2 _).2 ⟨x,?_,.inr rfl⟩⟩⟩
 ·obtain ⟨x,hx,e⟩:=(h2 z).1 hz
  rcases List.mem_cons.1 hx with rfl|hx
  ·simp only at e;omega
  ·obtain ⟨p,hp,hx⟩:=Ro.1 hx
   have hc:=c0c (hl p hp) i
   have h3:=K6 hc x hx
   have h4:=(W8 _).1 h3.1
   have h5:=(W8 _).1 h3.2
   have:=(Gg hc).1 x hx
   omega
 ·exact List.mem_cons_of_mem _ (Ro.2 ⟨p,hp,hx⟩)
 ·exact List.mem_cons_of_mem _ (Ro.2 ⟨p,hp,hx⟩)
theorem j0i {T:Nat} {l:List Prd} (hl:∀p∈l,PCk T p) (i:Nat) {x:Iv} (hx:x∈Ts (Q9 l i)) (n:Int) (h1:x.lo≤n) (h2:n≤x.hi):Um l i n=Um l i x.lo:=by
 obtain ⟨c1,_,_,_,c5⟩:=Tc hl i
 obtain ⟨_,_,_,k4⟩:=Am _ c1 x hx
 unfold Um
 apply List.map_congr_left
 intro p hp;exact k06 _ (Q9 l i) (c5 p hp) x.lo n h1 (fun d hd hle=>k4 d hd (by omega))
theorem Zt {T:Nat} {p:Prd} (hp:p.length=T) {t:Nat} (ht:t<T) (n:Int):I6 (p.getD t []) n=true↔PM p t n:=by
 have z1:t<p.length:=by omega
 rw [Ws z1,Vu];unfold PM;rw [List.getElem?_eq_getElem z1]
 simp
theorem z1w {T:Nat} {l:List Prd} (hl:∀p∈l,PCk T p) {t t':Nat} (ht:t<T) (z1:t'<T) (n n':Int):Um l t n=Um l t' n'↔j11 l t n t' n':=by
 unfold Um j11;constructor
 ·intro h p hp
  have:=(List.map_inj_left.1 h) p hp
  rw [←Zt (hl p hp).1 ht,←Zt (hl p hp).1 z1,this]
 ·intro h
  apply List.map_congr_left
  intro p hp
  have:=h p hp
  rw [←Zt (hl p hp).1 ht,←Zt (hl p hp).1 z1] at this;exact Bool.eq_iff_iff.2 this
theorem GInv.congr {T:Nat} {sig:Nat→Int→List Bool} {D D':Nat→Int→Prop} {st:List (List Bool×Prd)} (h:GInv T sig D st) (e:∀t n,D t n↔D' t n):GInv T sig D' st:=by
 have:D=D':=funext fun t=>funext fun n=>propext (e t n)
 rw [←this];exact h
theorem Z8 {T:Nat} {sig:Nat→Int→List Bool}:∀(A:List (Nat×Iv)) (D:Nat→Int→Prop) (st:List (List Bool×Prd)),GInv T sig D st→(∀a∈A,a.1<T∧a.2.lo≤a.2.hi∧∀n,a.2.lo≤n→n≤a.2.hi→sig a.1 n=sig a.1 a.2.lo)→
  (∀t n,D t n→∀a∈A,∀n',a.2.lo≤n'→n'≤a.2.hi→Ue t n a.1 n')→A.Pairwise (fun a b=>∀n n',a.2.lo≤n→n≤a.2.hi→b.2.lo≤n'→n'≤b.2.hi→Ue a.1 n b.1 n')→
  GInv T sig (fun t n=>D t n∨∃a∈A,v1q a t n) (A.foldl (fun st a=>Ty T a.1 (sig a.1 a.2.lo) a.2 st) st)
 |[],D,st,h,_,_,_=>h.congr (fun t n=>by simp)
 |a::A,D,st,h,h1,h2,h3=>by
  obtain ⟨i,x⟩:=a
  obtain ⟨e1,e2,e3⟩:=h1 (i,x) (by simp)
  obtain ⟨p1,p2⟩:=List.pairwise_cons.1 h3
  have hs:=h.step e1 e2 e3 (fun t n hd n' q1 q2=>h2 t n hd (i,x) (by simp) n' q1 q2)
  rw [List.foldl_cons];refine (Z8 A _ _ hs (fun b hb=>h1 b (by simp [hb])) (fun t n hd b hb n' q1 q2=> ?_) p2).congr (fun t n=> ?_)
  ·rcases hd with hd|hd
   ·exact h2 t n hd b (by simp [hb]) n' q1 q2
   ·obtain ⟨rfl,d1,d2⟩:=hd
    exact p1 b hb n n' d1 d2 q1 q2
  ·simp [or_assoc]
theorem Gh {T:Nat} {l:List Prd} {a:Nat×Iv}:a∈H6 T l↔a.1<T∧a.2∈Ts (Q9 l a.1):=by
 unfold H6;rw [List.mem_flatMap];constructor
 ·rintro ⟨i,hi,h⟩
  obtain ⟨x,hx,rfl⟩:=List.mem_map.1 h
  exact ⟨List.mem_range.1 hi,hx⟩
 ·rintro ⟨h1,h2⟩
  exact ⟨a.1,List.mem_range.2 h1,List.mem_map.2 ⟨a.2,h2,rfl⟩⟩
theorem j0h {T:Nat} {l:List Prd} (hl:∀p∈l,PCk T p):(H6 T l).Pairwise (fun a b=>∀n n',a.2.lo≤n→n≤a.2.hi→b.2.lo≤n'→n'≤b.2.hi→Ue a.1 n b.1 n'):=by
 unfold H6;rw [List.pairwise_flatMap];refine ⟨fun i _=> ?_,?_⟩
 ·rw [List.pairwise_map];refine (Bl _ (Tc hl i).1).imp (fun {x y} h n n' h1 h2 h3 h4=> .inr ⟨rfl,by simp only at h2 h3;omega⟩)
 ·refine List.pairwise_lt_range.imp (fun {i j} h a ha b hb n n' _ _ _ _=> ?_)
  obtain ⟨x,_,rfl⟩:=List.mem_map.1 ha
  obtain ⟨y,_,rfl⟩:=List.mem_map.1 hb
  exact .inl h
theorem j0x {T:Nat} {l:List Prd} (hl:∀p∈l,PCk T p):GInv T (Um l) (fun t n=>t<T∧inR n) (Od T l):=by
 have h0:GInv T (Um l) (fun _ _=>False) []:=⟨by simp,by simp,by simp,by simp,by simp,fun _ _ h=>h.elim,by simp⟩
 refine (Z8 (H6 T l) _ [] h0 (fun a ha=> ?_) (fun _ _ h=>h.elim) (j0h hl)).congr (fun t n=> ?_)
 ·obtain ⟨h1,h2⟩:=Gh.1 ha
  exact ⟨h1,(Am _ (Tc hl a.1).1 _ h2).1,fun n q1 q2=>j0i hl a.1 h2 n q1 q2⟩
 ·obtain ⟨c1,c2,c3,c4,c5⟩:=Tc hl t
  constructor
  ·rintro (h|⟨a,ha,rfl,h1,h2⟩)
   ·exact h.elim
   ·obtain ⟨q1,q2⟩:=Gh.1 ha
    obtain ⟨s1,s2,s3,s4⟩:=Am _ c1 _ q2
    have:=c4 _ s2
    have:=c4 _ s3
    exact ⟨q1,by unfold inR;omega⟩
  ·rintro ⟨h1,h2⟩
   unfold inR at h2
   obtain ⟨x,hx,e1,e2⟩:=Hk _ c1 n ⟨_,c2,h2.1⟩ ⟨_,c3,by omega⟩
   exact .inr ⟨(t,x),Gh.2 ⟨h1,hx⟩,rfl,e1,e2⟩
theorem Is {s:List Iv} (h:(∀x∈s,x.lo≤x.hi)∧s.Pairwise (fun x y=>x.hi<y.lo)):Sep (Qv [] s)∧∀n,M (Qv [] s) n↔M s n:=by
 have hb:L3 s:=h.2.imp_of_mem (fun {x y} hx hy hxy=>by have:=h.1 x hx;omega)
 have:=A7 s [] Vs hb h.1 (by simp)
 refine ⟨this.1,fun n=> ?_⟩
 rw [this.2 n]
 simp [M]
theorem Kj {T:Nat} {p:Prd} (h:∀s∈p,(∀x∈s,x.lo≤x.hi)∧s.Pairwise (fun x y=>x.hi<y.lo)) (t:Nat) (n:Int):PM (Ew p) t n↔PM p t n:=by
 unfold PM Ew;rw [List.getElem?_map];constructor
 ·rintro ⟨s,hs,hm⟩
  obtain ⟨a,ha,rfl⟩:=Option.map_eq_some_iff.1 hs
  exact ⟨a,ha,((Is (h a (List.mem_of_getElem? ha))).2 n).1 hm⟩
 ·rintro ⟨a,ha,hm⟩
  exact ⟨Qv [] a,by rw [ha];rfl,((Is (h a (List.mem_of_getElem? ha))).2 n).2 hm⟩
theorem Ku {T:Nat} {l:List Prd} (hl:∀p∈l,PCk T p):Prts T l (Ei T l)∧(Ei T l).Pairwise z0x:=by
 have h:=j0x hl
 have z1:∀g∈Od T l,∀t n,PM (Ew g.2) t n↔(t<T∧inR n)∧Um l t n=g.1:=fun g hg t n=>by rw [Kj (T:=T) (h.asc g hg),h.mem g hg]
 have z6:∀p∈Ei T l,∃g∈Od T l,p=Ew g.2:=fun p hp=>by
  obtain ⟨g,hg,rfl⟩:=List.mem_map.1 hp
  exact ⟨g,hg,rfl⟩
 refine ⟨⟨fun p hp=> ?_,fun p hp=> ?_,fun t n ht hn=> ?_,fun p hp t n hm t' n'=> ?_⟩,?_⟩
 ·obtain ⟨g,hg,rfl⟩:=z6 p hp
  refine ⟨by simp [Ew,h.len g hg],fun s hs=> ?_⟩
  obtain ⟨i,hi⟩:=List.mem_iff_getElem?.1 hs
  have z7:=hs
  obtain ⟨a,ha,rfl⟩:=List.mem_map.1 hs
  exact ⟨(Is (h.asc g hg a ha)).1,fun n hn=>((z1 g hg i n).1 ⟨_,hi,hn⟩).1.2⟩
 ·obtain ⟨g,hg,rfl⟩:=z6 p hp
  obtain ⟨t,n,hm⟩:=h.ne g hg
  exact ⟨t,n,(Kj (T:=T) (h.asc g hg) t n).2 hm⟩
 ·obtain ⟨g,hg,he⟩:=h.all t n ⟨ht,hn⟩
  exact ⟨Ew g.2,List.mem_map.2 ⟨g,hg,rfl⟩,(z1 g hg t n).2 ⟨⟨ht,hn⟩,he.symm⟩⟩
 ·obtain ⟨g,hg,rfl⟩:=z6 p hp
  obtain ⟨⟨q1,q2⟩,q3⟩:=(z1 g hg t n).1 hm
  rw [z1 g hg];constructor
  ·rintro ⟨⟨h1,h2⟩,h3⟩
   exact ⟨h1,h2,(z1w hl q1 h1 n n').1 (q3.trans h3.symm)⟩
  ·rintro ⟨h1,h2,h3⟩
   exact ⟨⟨h1,h2⟩,((z1w hl q1 h1 n n').2 h3).symm.trans q3⟩
 ·unfold Ei;rw [List.pairwise_map];refine h.ord.imp_of_mem (fun {a b} ha hb hab=> ?_)
  obtain ⟨t,n,e1,e2⟩:=hab
  exact ⟨t,n,(Kj (T:=T) (h.asc a ha) t n).2 e1,fun t' n' hm=>e2 t' n' ((Kj (T:=T) (h.asc b hb) t' n').1 hm)⟩
theorem Jj {T:Nat} (hT:0<T) {l:List Prd} (hl:∀p∈l,PCk T p):Ei T l=Q8 T l:=by
 obtain ⟨a1,a2⟩:=Ku hl
 obtain ⟨b1,b2⟩:=Y0 hT hl
 exact a1.unique b1 a2 b2
end Go.Abs
namespace Go.Abs
structure Sy where
 ty:Int
 num:Int
deriving Inhabited,DecidableEq
structure Mv where
 src:Int
 dst:Int
 on:Prd
deriving Inhabited
structure Aut where
 types:Int
 fin:List Bool
 mv:List Mv
deriving Inhabited
def Ye:Aut:=⟨0,[],[]⟩
def w08:List (List Iv)→Int
 |[]=>0
 |s::r=>if ckR s≠0 then ckR s else w08 r
def El (T:Int) (p:Prd):Int:=if T<1∨16<T then 2 else if (p.length:Int)≠T then 15 else w08 p
def w0e (T:Int) (n:Nat):List Mv→Int
 |[]=>0
 |m::r=>if ¬((0≤m.src∧m.src<n)∧(0≤m.dst∧m.dst<n)) then 2 else if El T m.on≠0 then El T m.on else w0e T n r
def Wk (a:Aut):Int:=if a.types<1∨16<a.types then 2 else if a.fin.length<1∨256<a.fin.length∨2048<a.mv.length then 5 else w0e a.types a.fin.length a.mv
theorem N4:∀(p:List (List Iv)),w08 p=0↔∀s∈p,CanonL s
 |[]=>by simp [w08]
 |s::r=>by
  rw [w08]
  by_cases h:ckR s=0
  ·rw [if_neg (fun k=>k h),N4 r]
   simp [(Xv s).1 h]
  ·rw [if_pos h];refine ⟨fun k=>absurd k h,fun k=>absurd ((Xv s).2 (k s (by simp))) h⟩
theorem Ec (T:Int) (p:Prd):El T p=0↔(1≤T∧T≤16)∧PCk T.toNat p:=by
 unfold El PCk
 by_cases h1:T<1∨16<T
 ·rw [if_pos h1];exact ⟨fun h=>by omega,fun h=>by omega⟩
 ·rw [if_neg h1]
  by_cases h2:(p.length:Int)≠T
  ·rw [if_pos h2];exact ⟨fun h=>by omega,fun h=>by omega⟩
  ·rw [if_neg h2,N4];exact ⟨fun h=>⟨by omega,by omega,h⟩,fun h=>h.2.2⟩
structure OkMv (T:Nat) (n:Nat) (m:Mv):Prop where
 src:0≤m.src∧m.src<n
 dst:0≤m.dst∧m.dst<n
 on:PCk T m.on
structure OkA (a:Aut):Prop where
 types:1≤a.types∧a.types≤16
 fin:1≤a.fin.length∧a.fin.length≤256
 mvs:a.mv.length≤2048
 mv:∀m∈a.mv,OkMv a.types.toNat a.fin.length m
theorem Mb {T:Int} (hT:1≤T∧T≤16) (n:Nat):∀(l:List Mv),w0e T n l=0↔∀m∈l,OkMv T.toNat n m
 |[]=>by simp [w0e]
 |m::r=>by
  rw [w0e]
  by_cases h1:(0≤m.src∧m.src<n)∧(0≤m.dst∧m.dst<n)
  ·rw [if_neg (fun k=>k h1)]
   by_cases h2:El T m.on=0
   ·rw [if_neg (fun k=>k h2),Mb hT n r]
    have h3:=((Ec T m.on).1 h2).2
    constructor
    ·intro h x hx
     rcases List.mem_cons.1 hx with rfl|hx
     ·exact ⟨h1.1,h1.2,h3⟩
     ·exact h x hx
    ·exact fun h x hx=>h x (by simp [hx])
   ·rw [if_pos h2];exact ⟨fun h=>absurd h h2,fun h=>absurd ((Ec T m.on).2 ⟨hT,(h m (by simp)).on⟩) h2⟩
  ·rw [if_pos h1];exact ⟨fun h=>(by cases h),fun h=>absurd ⟨(h m (by simp)).src,(h m (by simp)).dst⟩ h1⟩
theorem Ui (a:Aut):Wk a=0↔OkA a:=by
 unfold Wk
 by_cases h1:a.types<1∨16<a.types
 ·rw [if_pos h1];exact ⟨fun h=>(by cases h),fun h=>by have:=h.types;omega⟩
 ·rw [if_neg h1]
  by_cases h2:a.fin.length<1∨256<a.fin.length∨2048<a.mv.length
  ·rw [if_pos h2];exact ⟨fun h=>(by cases h),fun h=>by have:=h.fin;have:=h.mvs;omega⟩
  ·rw [if_neg h2,Mb (by omega)]
   exact ⟨fun h=>⟨by omega,by omega,by omega,h⟩,fun h=>h.mv⟩
def Tz (p:Prd) (x:Sy):Bool:=decide (0≤x.ty) && decide (x.ty<p.length) && I6 (p.getD x.ty.toNat []) x.num
def Pn (T:Int) (x:Sy):Int:=if x.ty<0∨T≤x.ty then 6 else if x.num< -1099511627776∨1099511627776<x.num then 2 else 0
theorem P7 (T:Int) (x:Sy):Pn T x=0↔(0≤x.ty∧x.ty<T)∧inR x.num:=by
 unfold Pn inR;split
 ·constructor
  ·intro h;cases h
  ·intro h;omega
 ·split
  ·constructor
   ·intro h;cases h
   ·intro h;omega
  ·constructor
   ·intro _;omega
   ·intro _;rfl
theorem E8 {T:Nat} {p:Prd} (hp:p.length=T) (x:Sy) (hx:0≤x.ty):Tz p x=true↔PM p x.ty.toNat x.num:=by
 unfold Tz
 by_cases h:x.ty<p.length
 ·have h1:x.ty.toNat<T:=by omega
  rw [←Zt hp h1]
  simp [h,hx]
 ·have:¬PM p x.ty.toNat x.num:=by
   rintro ⟨s,hs,_⟩
   have:=(List.getElem?_eq_some_iff.1 hs).1
   omega
  simp [h,this]
def Ri (n:Nat):List Int:=(List.range n).map fun i:Nat=>(i:Int)
theorem Rp {n:Nat} {z:Int}:z∈Ri n↔0≤z∧z<n:=by
 unfold Ri;rw [List.mem_map];constructor
 ·rintro ⟨i,hi,rfl⟩
  have:=List.mem_range.1 hi
  omega
 ·rintro ⟨h1,h2⟩
  exact ⟨z.toNat,List.mem_range.2 (by omega),by omega⟩
theorem Fc (n:Nat):(Ri n).Pairwise (·<·):=by
 unfold Ri;rw [List.pairwise_map];exact List.pairwise_lt_range.imp (fun h=>by omega)
def d03 (a:Aut) (l:List Int) (x:Sy) (j:Int):Bool:=a.mv.any fun m=>l.contains m.src && Tz m.on x && decide (m.dst=j)
def Q5 (a:Aut) (l:List Int) (x:Sy):List Int:=(Ri a.fin.length).filter (d03 a l x)
def y17 (a:Aut) (l:List Int) (x:Sy):List Int:=Go.Lib.compact (Rh ((a.mv.filter fun m=>l.contains m.src && Tz m.on x).map (·.dst)))
theorem d0z (zs:List Int):(Rh zs).Pairwise (·≤·):=by
 have:=List.pairwise_mergeSort (le:=fun x y:Int=>decide (x≤y)) (fun a b c h1 h2=>by simp at h1 h2 ⊢;omega) (fun a b=>by simp;omega) zs
 simpa [Rh] using this
theorem Zk (zs:List Int):(Go.Lib.compact (Rh zs)).Pairwise (·<·)∧∀z,z∈Go.Lib.compact (Rh zs)↔z∈zs:=by
 have h:=Xz _ (d0z zs) _ (Nat.le_refl _)
 refine ⟨h.1,fun z=> ?_⟩
 have h2:=h.2 z
 rw [List.take_length] at h2;rw [Go.Lib.compact,h2,Rh,List.mem_mergeSort]
theorem Ym {a b:List Int} (ha:a.Pairwise (·<·)) (hb:b.Pairwise (·<·)) (h:∀z,z∈a↔z∈b):a=b:=by
 have hn:∀ {l:List Int},l.Pairwise (·<·)→l.Nodup:=fun hl=>hl.imp (fun h e=>by omega)
 exact List.Perm.eq_of_pairwise (le:=(·<·)) (fun a b _ _ h1 h2=>by omega) ha hb ((List.perm_ext_iff_of_nodup (hn ha) (hn hb)).2 h)
theorem Y6 (a:Aut) (l:List Int) (x:Sy):(Q5 a l x).Pairwise (·<·):=(Fc _).filter _
theorem Ek {a:Aut} {l:List Int} {x:Sy} {j:Int}:j∈Q5 a l x↔(0≤j∧j<a.fin.length)∧∃m∈a.mv,m.src∈l∧Tz m.on x=true∧m.dst=j:=by
 unfold Q5 d03;rw [List.mem_filter,Rp,List.any_eq_true]
 simp [and_assoc]
theorem x1d {a:Aut} (h:∀m∈a.mv,0≤m.dst∧m.dst<a.fin.length) (l:List Int) (x:Sy):y17 a l x=Q5 a l x:=by
 obtain ⟨h1,h2⟩:=Zk ((a.mv.filter fun m=>l.contains m.src && Tz m.on x).map (·.dst))
 refine Ym h1 (Y6 a l x) fun z=> ?_
 rw [y17,h2,Ek];constructor
 ·intro hz
  obtain ⟨m,hm,rfl⟩:=List.mem_map.1 hz
  obtain ⟨hm,hc⟩:=List.mem_filter.1 hm
  simp at hc;exact ⟨h m hm,m,hm,hc.1,hc.2,rfl⟩
 ·rintro ⟨_,m,hm,c1,c2,rfl⟩
  exact List.mem_map.2 ⟨m,List.mem_filter.2 ⟨hm,by simp [c1,c2]⟩,rfl⟩
theorem Po {a:Aut} {l:List Int} {x:Sy}:∀j∈Q5 a l x,0≤j∧j<a.fin.length:=fun j hj=>(Ek.1 hj).1
def Ql (p:Prd):Sy:=⟨(Qu p 0).1,(Qu p 0).2⟩
def G5 (Q:List (List Int)) (x:List Int):List (List Int):=if x=[]∨x∈Q then Q else Q++[x]
def Wz (Q:List (List Int)) (xs:List (List Int)):List (List Int):=xs.foldl G5 Q
def Rm (a:Aut) (cl:List Prd) (l:List Int):List (List Int):=cl.map fun c=>Q5 a l (Ql c)
def z05 (a:Aut) (cl:List Prd):Nat→Nat→List (List Int)→Option (List (List Int))
 |0,_,_=>none
 |f+1,i,Q=>match Q[i]? with
  |some l=>if 256<(Wz Q (Rm a cl l)).length then none else z05 a cl f (i+1) (Wz Q (Rm a cl l))
  |none=>some Q
theorem d0x (Q:List (List Int)) (x:List Int):∃R,G5 Q x=Q++R∧∀y∈R,y=x∧x≠[]:=by
 unfold G5;split
 ·exact ⟨[],by simp,by simp⟩
 ·rename_i h
  exact ⟨[x],rfl,fun y hy=>⟨List.mem_singleton.1 hy,fun e=>h (.inl e)⟩⟩
theorem Yq:∀(xs:List (List Int)) (Q:List (List Int)),∃R,Wz Q xs=Q++R∧∀y∈R,y∈xs∧y≠[]
 |[],Q=>⟨[],by simp [Wz],by simp⟩
 |x::xs,Q=>by
  obtain ⟨R1,h1,h2⟩:=d0x Q x
  obtain ⟨R2,h3,h4⟩:=Yq xs (G5 Q x)
  refine ⟨R1++R2,?_,fun y hy=> ?_⟩
  ·show Wz (G5 Q x) xs=_
   rw [h3,h1,List.append_assoc]
  ·rcases List.mem_append.1 hy with hy|hy
   ·obtain ⟨rfl,hn⟩:=h2 y hy
    exact ⟨by simp,hn⟩
   ·exact ⟨by simp [(h4 y hy).1],(h4 y hy).2⟩
theorem w03 (Q xs:List (List Int)):Q.length≤(Wz Q xs).length:=by
 obtain ⟨R,h,_⟩:=Yq xs Q
 rw [h];simp
theorem q1d {Q:List (List Int)} {x:List Int} (hx:x≠[]):x∈G5 Q x:=by
 unfold G5;split
 ·rename_i h
  rcases h with h|h
  ·exact absurd h hx
  ·exact h
 ·simp
theorem Ht:∀ {xs:List (List Int)} {Q:List (List Int)} {x:List Int},x∈xs→x≠[]→x∈Wz Q xs
 |[],_,_,h,_=>by cases h
 |y::xs,Q,x,h,hn=>by
  show x∈Wz (G5 Q y) xs
  rcases List.mem_cons.1 h with rfl|h
  ·obtain ⟨R,e,_⟩:=Yq xs (G5 Q x)
   rw [e];exact List.mem_append_left _ (q1d hn)
  ·exact Ht h hn
def z1t (Q:List (List Int)):List (List Int)→Option (List (List Int))
 |[]=>some Q
 |x::xs=>if 256<(G5 Q x).length then none else z1t (G5 Q x) xs
end Go.Abs
namespace Go.Abs
def E0 (p q:Prd):Prd:=List.zipWith (fun a b=>Eb (a++b)) p q
theorem Pr {T:Nat} {p q:Prd} (hp:PWf T p) (hq:PWf T q) (t:Nat) (n:Int):PM (E0 p q) t n↔PM p t n∨PM q t n:=by
 have hf:∀ {a b:List Iv},a∈p→b∈q→∀x∈a++b,x.lo≤x.hi:=fun ha hb x hx=>by
  rcases List.mem_append.1 hx with hx|hx
  ·exact (hp.2 _ ha).1.1 x hx
  ·exact (hq.2 _ hb).1.1 x hx
 unfold PM E0;rw [List.getElem?_zipWith];constructor
 ·rintro ⟨s,hs,hm⟩
  cases h1:p[t]? with
  |none=>rw [h1] at hs;simp at hs
  |some a=>
   cases h2:q[t]? with
   |none=>rw [h1,h2] at hs;simp at hs
   |some b=>
    rw [h1,h2] at hs;simp at hs;subst hs
    have:=((Y2 _ (hf (List.mem_of_getElem? h1) (List.mem_of_getElem? h2))).2 n).1 hm
    rcases (Lk ..).1 this with h|h
    ·exact .inl ⟨a,rfl,h⟩
    ·exact .inr ⟨b,rfl,h⟩
 ·intro h
  have z1:t<T:=by
   rcases h with ⟨s,hs,_⟩|⟨s,hs,_⟩
   ·rw [←hp.1];exact (List.getElem?_eq_some_iff.1 hs).1
   ·rw [←hq.1];exact (List.getElem?_eq_some_iff.1 hs).1
  have h1:t<p.length:=by rw [hp.1];exact z1
  have h2:t<q.length:=by rw [hq.1];exact z1
  rw [List.getElem?_eq_getElem h1,List.getElem?_eq_getElem h2] at h ⊢;refine ⟨_,rfl,((Y2 _ (hf (List.getElem_mem h1) (List.getElem_mem h2))).2 n).2 ((Lk ..).2 ?_)⟩
  rcases h with ⟨s,hs,hm⟩|⟨s,hs,hm⟩
  ·cases hs;exact .inl hm
  ·cases hs;exact .inr hm
theorem Fh {T:Nat} {p q:Prd} (hp:PWf T p) (hq:PWf T q):PWf T (E0 p q):=by
 refine ⟨by simp [E0,hp.1,hq.1],fun s hs=> ?_⟩
 obtain ⟨i,hi⟩:=List.mem_iff_getElem?.1 hs
 have z1:=hi
 unfold E0 at hi;rw [List.getElem?_zipWith] at hi
 cases h1:p[i]? with
 |none=>rw [h1] at hi;simp at hi
 |some a=>
  cases h2:q[i]? with
  |none=>rw [h1,h2] at hi;simp at hi
  |some b=>
   rw [h1,h2] at hi;simp at hi;subst hi;refine ⟨(Y2 _ fun x hx=> ?_).1,fun n hn=> ?_⟩
   ·rcases List.mem_append.1 hx with hx|hx
    ·exact (hp.2 _ (List.mem_of_getElem? h1)).1.1 x hx
    ·exact (hq.2 _ (List.mem_of_getElem? h2)).1.1 x hx
   ·rcases (Pr hp hq i n).1 ⟨_,z1,hn⟩ with h|h
    ·exact (hp.lt h).2
    ·exact (hq.lt h).2
def y0m (Q:List (List Int)) (x:List Int):Option Nat:=Q.findIdx? fun y=>decide (y=x)
theorem Fb {Q:List (List Int)} {x:List Int} {t:Nat} (h:y0m Q x=some t):Q[t]? =some x:=by
 unfold y0m at h
 obtain ⟨h1,h2,_⟩:=List.findIdx?_eq_some_iff_getElem.1 h
 rw [List.getElem?_eq_getElem h1]
 simpa using h2
theorem u05 {Q:List (List Int)} (hn:Q.Nodup) {t:Nat} {x:List Int} (h:Q[t]? =some x):y0m Q x=some t:=by
 unfold y0m
 obtain ⟨h1,h2⟩:=List.getElem?_eq_some_iff.1 h
 refine List.findIdx?_eq_some_iff_getElem.2 ⟨h1,by simpa using h2,fun j hj=> ?_⟩
 have z1:Q[j]≠Q[t]:=fun e=>by
  have:=(List.getElem_inj hn).1 e
  omega
 rw [h2] at z1
 simpa using z1
def R4 (n:Nat) (g:List Mv) (to:Nat) (c:Prd):List Mv:=match g.findIdx? fun m:Mv=>decide (m.dst=(to:Int)) with
 |none=>g++[⟨n,to,c⟩]
 |some i=>match g[i]? with
  |some m=>g.set i { m with on:=E0 m.on c }
  |none=>g
def Cj (a:Aut) (cl:List Prd) (Q:List (List Int)) (n:Nat) (l:List Int):List Mv:=
 cl.foldl (fun g c=>match y0m Q (Q5 a l (Ql c)) with|some t=>R4 n g t c|none=>g) []
def C3 (a:Aut) (cl:List Prd) (Q:List (List Int)):List Mv:=(List.range Q.length).flatMap fun n=>Cj a cl Q n (Q.getD n [])
def Dd (a:Aut) (l:List Int):Bool:=l.any fun s=>a.fin.getD s.toNat false
def Yo (a:Aut) (cl:List Prd) (Q:List (List Int)):Aut:=⟨a.types,Q.map (Dd a),C3 a cl Q⟩
structure MInv (T N n:Nat) (D:Nat→Nat→Int→Prop) (g:List Mv):Prop where
 wf:∀m∈g,PWf T m.on
 src:∀m∈g,m.src=n
 dst:∀m∈g,∃t:Nat,t<N∧m.dst=t
 nd:g.Pairwise (fun m k=>m.dst≠k.dst)
 mem:∀m∈g,∀t:Nat,m.dst=t→∀ty y,PM m.on ty y↔D t ty y
 all:∀t ty y,D t ty y→∃m∈g,m.dst=(t:Int)
theorem MInv.add {T N n:Nat} {D:Nat→Nat→Int→Prop} {g:List Mv} (h:MInv T N n D g) {to:Nat} (ht:to<N) {c:Prd} (hc:PWf T c) (zh:∃ty y,PM c ty y):
  MInv T N n (fun t ty y=>D t ty y∨(t=to∧PM c ty y)) (R4 n g to c):=by
 unfold R4
 cases hf:g.findIdx? fun m:Mv=>decide (m.dst=(to:Int)) with
 |none=>
  rw [List.findIdx?_eq_none_iff] at hf
  have z7:∀m∈g,m.dst≠(to:Int):=fun m hm=>by simpa using hf m hm
  show MInv T N n _ (g++[⟨n,to,c⟩])
  have z1:∀m∈g++[(⟨n,to,c⟩:Mv)],m∈g∨m=⟨n,to,c⟩:=fun m hm=>by
   rcases List.mem_append.1 hm with hm|hm
   ·exact .inl hm
   ·exact .inr (List.mem_singleton.1 hm)
  have hD:∀ty y,¬D to ty y:=fun ty y hd=>by
   obtain ⟨m,hm,e⟩:=h.all to ty y hd
   exact z7 m hm e
  refine ⟨fun m hm=> ?_,fun m hm=> ?_,fun m hm=> ?_,?_,fun m hm t e ty y=> ?_,fun t ty y hd=> ?_⟩
  ·rcases z1 m hm with hm|rfl
   ·exact h.wf m hm
   ·exact hc
  ·rcases z1 m hm with hm|rfl
   ·exact h.src m hm
   ·rfl
  ·rcases z1 m hm with hm|rfl
   ·exact h.dst m hm
   ·exact ⟨to,ht,rfl⟩
  ·exact List.pairwise_append.2 ⟨h.nd,by simp,fun m hm k hk=>by obtain rfl:=List.mem_singleton.1 hk;exact z7 m hm⟩
  ·rcases z1 m hm with hm'|rfl
   ·rw [h.mem m hm' t e];constructor
    ·exact fun hd=> .inl hd
    ·rintro (hd|⟨e2,_⟩)
     ·exact hd
     ·exact absurd (by rw [e,e2]) (z7 m hm')
   ·have:t=to:=by simp at e;omega
    subst this;constructor
    ·exact fun hd=> .inr ⟨rfl,hd⟩
    ·rintro (hd|⟨_,hd⟩)
     ·exact absurd hd (hD ty y)
     ·exact hd
  ·rcases hd with hd|⟨rfl,_⟩
   ·obtain ⟨m,hm,e⟩:=h.all t ty y hd
    exact ⟨m,by simp [hm],e⟩
   ·exact ⟨⟨n,t,c⟩,by simp,rfl⟩
 |some i=>
  obtain ⟨hi,zf,_⟩:=List.findIdx?_eq_some_iff_getElem.1 hf
  simp only [List.getElem?_eq_getElem hi]
  have z6:g[i].dst=(to:Int):=by simpa using zf
  have z8:=List.getElem_mem hi
  have hw:=h.wf _ z8
  have z1:∀m∈g.set i { g[i] with on:=E0 g[i].on c },(m∈g∧m.dst≠(to:Int))∨m={ g[i] with on:=E0 g[i].on c }:=fun m hm=>by
   obtain ⟨j,hj⟩:=List.mem_iff_getElem?.1 hm
   by_cases hij:i=j
   ·subst hij;rw [List.getElem?_set_self hi] at hj;exact .inr (Option.some.inj hj).symm
   ·rw [List.getElem?_set_ne hij] at hj
    obtain ⟨zc,zd⟩:=List.getElem?_eq_some_iff.1 hj
    refine .inl ⟨List.mem_of_getElem? hj,fun e=> ?_⟩
    rcases Nat.lt_or_gt_of_ne hij with hlt|hgt
    ·exact List.pairwise_iff_getElem.1 h.nd i j hi zc hlt (by rw [zd,e,z6])
    ·exact List.pairwise_iff_getElem.1 h.nd j i zc hi hgt (by rw [zd,e,z6])
  refine ⟨fun m hm=> ?_,fun m hm=> ?_,fun m hm=> ?_,?_,fun m hm t e ty y=> ?_,fun t ty y hd=> ?_⟩
  ·rcases z1 m hm with ⟨hm,_⟩|rfl
   ·exact h.wf m hm
   ·exact Fh hw hc
  ·rcases z1 m hm with ⟨hm,_⟩|rfl
   ·exact h.src m hm
   ·have:=h.src g[i] z8
    simpa using this
  ·rcases z1 m hm with ⟨hm,_⟩|rfl
   ·exact h.dst m hm
   ·exact ⟨to,ht,z6⟩
  ·have za:(g.set i { g[i] with on:=E0 g[i].on c }).map (·.dst)=g.map (·.dst):=by
    apply List.ext_getElem?
    intro j;rw [List.getElem?_map,List.getElem?_map]
    by_cases hij:i=j
    ·subst hij;rw [List.getElem?_set_self hi,List.getElem?_eq_getElem hi];rfl
    ·rw [List.getElem?_set_ne hij]
   have hp:(g.map (·.dst)).Pairwise (·≠·):=List.pairwise_map.2 h.nd
   rw [←za] at hp;exact List.pairwise_map.1 hp
  ·rcases z1 m hm with ⟨hm,zg⟩|rfl
   ·rw [h.mem m hm t e];constructor
    ·exact fun hd=> .inl hd
    ·rintro (hd|⟨rfl,_⟩)
     ·exact hd
     ·exact absurd e zg
   ·have:t=to:=by simp only at e;omega
    subst this
    have zb:=Pr hw hc ty y
    have ze:=h.mem _ z8 t z6 ty y
    constructor
    ·intro hd
     rcases zb.1 hd with hd|hd
     ·exact .inl (ze.1 hd)
     ·exact .inr ⟨rfl,hd⟩
    ·rintro (hd|⟨_,hd⟩)
     ·exact zb.2 (.inl (ze.2 hd))
     ·exact zb.2 (.inr hd)
  ·rcases hd with hd|⟨rfl,_⟩
   ·obtain ⟨m,hm,e⟩:=h.all t ty y hd
    obtain ⟨j,hj⟩:=List.mem_iff_getElem?.1 hm
    by_cases hij:i=j
    ·subst hij;rw [List.getElem?_eq_getElem hi] at hj
     cases hj
     exact ⟨_,List.mem_of_getElem? (List.getElem?_set_self hi),e⟩
    ·exact ⟨m,List.mem_of_getElem? (by rw [List.getElem?_set_ne hij];exact hj),e⟩
   ·exact ⟨_,List.mem_of_getElem? (List.getElem?_set_self hi),z6⟩
theorem MInv.congr {T N n:Nat} {D D':Nat→Nat→Int→Prop} {g:List Mv} (h:MInv T N n D g) (e:∀t ty y,D t ty y↔D' t ty y):MInv T N n D' g:=by
 have:D=D':=funext fun t=>funext fun ty=>funext fun y=>propext (e t ty y)
 rw [←this];exact h
theorem Ad {T:Nat} {a:Aut} {cl:List Prd} {Q:List (List Int)} (n:Nat) (l:List Int) (hw:∀c∈cl,PWf T c∧∃ty y,PM c ty y):
  MInv T Q.length n (fun t ty y=>∃c∈cl,y0m Q (Q5 a l (Ql c))=some t∧PM c ty y) (Cj a cl Q n l):=by
 have key:∀(r:List Prd) (D:Nat→Nat→Int→Prop) (g:List Mv),MInv T Q.length n D g→(∀c∈r,PWf T c∧∃ty y,PM c ty y)→
   MInv T Q.length n (fun t ty y=>D t ty y∨∃c∈r,y0m Q (Q5 a l (Ql c))=some t∧PM c ty y) (r.foldl (fun g c=>match y0m Q (Q5 a l (Ql c)) with|some t=>R4 n g t c|none=>g) g):=by
  intro r
  induction r with
  |nil=>intro D g h _;exact h.congr (fun t ty y=>by simp)
  |cons c r ih=>
   intro D g h hr;rw [List.foldl_cons]
   cases hx:y0m Q (Q5 a l (Ql c)) with
   |none=>
    refine (ih D g h (fun d hd=>hr d (by simp [hd]))).congr (fun t ty y=> ?_)
    simp [hx]
   |some to=>
    have z1:=(List.getElem?_eq_some_iff.1 (Fb hx)).1
    have hc:=hr c (by simp)
    refine (ih _ _ (h.add z1 hc.1 hc.2) (fun d hd=>hr d (by simp [hd]))).congr (fun t ty y=> ?_)
    simp only [List.mem_cons,exists_eq_or_imp,hx,Option.some.injEq,or_assoc];constructor
    ·rintro (h|⟨e,h⟩|h)
     ·exact .inl h
     ·exact .inr (.inl ⟨e.symm,h⟩)
     ·exact .inr (.inr h)
    ·rintro (h|⟨e,h⟩|h)
     ·exact .inl h
     ·exact .inr (.inl ⟨e.symm,h⟩)
     ·exact .inr (.inr h)
 have h0:MInv T Q.length n (fun _ _ _=>False) []:=⟨by simp,by simp,by simp,by simp,by simp,fun _ _ _ h=>h.elim⟩
 exact (key cl _ [] h0 hw).congr (fun t ty y=>by simp)
end Go.Abs
namespace Go.Abs
structure Cls (a:Aut) (cl:List Prd):Prop where
 ok:OkA a
 prts:Prts a.types.toNat (a.mv.map (·.on)) cl
 wf:∀c∈cl,PWf a.types.toNat c∧∃ty y,PM c ty y
theorem z19 {a:Aut} (h:OkA a):Cls a (Q8 a.types.toNat (a.mv.map (·.on))):=by
 have hT:0<a.types.toNat:=by have:=h.types;omega
 have hp:=(Y0 hT (l:=a.mv.map (·.on)) (fun p hp=>by obtain ⟨m,hm,rfl⟩:=List.mem_map.1 hp;exact (h.mv m hm).on)).1
 exact ⟨h,hp,fun c hc=>⟨hp.wf c hc,hp.ne c hc⟩⟩
def Eg (a:Aut) (x:Sy):Prop:=(0≤x.ty∧x.ty<a.types)∧inR x.num
theorem z01 {a:Aut} {l:List Int} {x y:Sy} (h:∀m∈a.mv,Tz m.on x=Tz m.on y):Q5 a l x=Q5 a l y:=by
 refine Ym (Y6 ..) (Y6 ..) fun z=> ?_
 rw [Ek,Ek];constructor
 ·rintro ⟨h1,m,hm,h2,h3,h4⟩;exact ⟨h1,m,hm,h2,by rw [←h m hm];exact h3,h4⟩
 ·rintro ⟨h1,m,hm,h2,h3,h4⟩;exact ⟨h1,m,hm,h2,by rw [h m hm];exact h3,h4⟩
theorem Cls.of {a:Aut} {cl:List Prd} (h:Cls a cl) {x:Sy} (hx:Eg a x):∃c∈cl,PM c x.ty.toNat x.num∧∀l,Q5 a l x=Q5 a l (Ql c):=by
 obtain ⟨c,hc,hm⟩:=h.prts.all x.ty.toNat x.num (by have:=hx.1;omega) hx.2
 refine ⟨c,hc,hm,fun l=>z01 fun m z1=> ?_⟩
 have h1:=(Wu (h.wf c hc).1 (h.wf c hc).2).1
 have h2:=((h.prts.cls c hc _ _ hm _ _).1 h1).2.2 m.on (List.mem_map.2 ⟨m,z1,rfl⟩)
 have hl:=(h.ok.mv m z1).on.1
 rw [Bool.eq_iff_iff,E8 hl x hx.1.1,E8 hl (Ql c) (by simp [Ql])]
 simpa [Ql] using h2
theorem Cls.same {a:Aut} {cl:List Prd} (h:Cls a cl) {c:Prd} (hc:c∈cl) {x:Sy} (hx:Eg a x) (hm:PM c x.ty.toNat x.num) (l:List Int):Q5 a l x=Q5 a l (Ql c):=by
 obtain ⟨d,hd,z1,e⟩:=h.of hx
 rw [e l,h.prts.disj hd hc z1 hm]
structure Sub (a:Aut) (cl:List Prd) (Q:List (List Int)):Prop where
 first:Q[0]? =some [0]
 nd:Q.Nodup
 ne:∀l∈Q,l≠[]
 lim:Q.length≤256
 elem:∀l∈Q,l.Pairwise (·<·)∧∀s∈l,0≤s∧s<a.fin.length
 closed:∀l∈Q,∀c∈cl,Q5 a l (Ql c)=[]∨Q5 a l (Ql c)∈Q
theorem q0w {Q:List (List Int)} {x:List Int} (h:Q.Nodup):(G5 Q x).Nodup:=by
 unfold G5;split
 ·exact h
 ·rename_i hx
  exact List.nodup_append.2 ⟨h,by simp,fun a ha b hb e=>by
   obtain rfl:=List.mem_singleton.1 hb
   subst e;exact hx (.inr ha)⟩
theorem Sm:∀(xs:List (List Int)) {Q:List (List Int)},Q.Nodup→(Wz Q xs).Nodup
 |[],_,h=>h
 |x::xs,Q,h=>Sm xs (q0w (x:=x) h)
theorem g0x {a:Aut} (ha:OkA a) (cl:List Prd):∀(f i:Nat) (Q R:List (List Int)),z05 a cl f i Q=some R→Q[0]? =some [0]→Q.Nodup→(∀l∈Q,l≠[])→Q.length≤256→(∀l∈Q,l.Pairwise (·<·)∧∀s∈l,0≤s∧s<a.fin.length)→
  (∀j,j<i→∀l,Q[j]? =some l→∀c∈cl,Q5 a l (Ql c)=[]∨Q5 a l (Ql c)∈Q)→Sub a cl R
 |0,_,_,_,h,_,_,_,_,_,_=>by cases h
 |f+1,i,Q,R,h,h1,h2,h3,h4,h5,h6=>by
  rw [z05] at h
  cases hq:Q[i]? with
  |none=>
   rw [hq] at h;simp only [Option.some.injEq] at h;subst h
   have hi:Q.length≤i:=List.getElem?_eq_none_iff.1 hq
   refine ⟨h1,h2,h3,h4,h5,fun l hl c hc=> ?_⟩
   obtain ⟨j,hj⟩:=List.mem_iff_getElem?.1 hl
   exact h6 j (by have:=(List.getElem?_eq_some_iff.1 hj).1;omega) l hj c hc
  |some l=>
   rw [hq] at h;simp only at h
   by_cases hlim:256<(Wz Q (Rm a cl l)).length
   ·rw [if_pos hlim] at h;cases h
   ·rw [if_neg hlim] at h
    obtain ⟨X,hX,z6⟩:=Yq (Rm a cl l) Q
    have hlen:0<Q.length:=(List.getElem?_eq_some_iff.1 h1).1
    have z1:∀y∈Wz Q (Rm a cl l),y∈Q∨(y≠[]∧∃c∈cl,y=Q5 a l (Ql c)):=fun y hy=>by
     rw [hX] at hy
     rcases List.mem_append.1 hy with hy|hy
     ·exact .inl hy
     ·obtain ⟨p1,p2⟩:=z6 y hy
      obtain ⟨c,hc,rfl⟩:=List.mem_map.1 p1
      exact .inr ⟨p2,c,hc,rfl⟩
    refine g0x ha cl f (i+1) _ R h ?_ (Sm _ h2) ?_ (by omega) ?_ ?_
    ·rw [hX,List.getElem?_append_left hlen];exact h1
    ·intro y hy
     rcases z1 y hy with hy|⟨hy,_⟩
     ·exact h3 y hy
     ·exact hy
    ·intro y hy
     rcases z1 y hy with hy|⟨_,c,_,rfl⟩
     ·exact h5 y hy
     ·exact ⟨Y6 ..,Po⟩
    ·intro j hj k hk c hc
     by_cases hji:j<i
     ·have z7:j<Q.length:=by have:=(List.getElem?_eq_some_iff.1 hq).1;omega
      rw [hX,List.getElem?_append_left z7] at hk
      rcases h6 j hji k hk c hc with h7|h7
      ·exact .inl h7
      ·right;rw [hX];exact List.mem_append_left _ h7
     ·have:j=i:=by omega
      subst this;rw [hX,List.getElem?_append_left (List.getElem?_eq_some_iff.1 hq).1,hq] at hk
      cases hk
      by_cases hn:Q5 a l (Ql c)=[]
      ·exact .inl hn
      ·exact .inr (Ht (List.mem_map.2 ⟨c,hc,rfl⟩) hn)
def Kn (a:Aut) (cl:List Prd):Option (List (List Int)):=z05 a cl 257 0 [[0]]
theorem x05 {a:Aut} (ha:OkA a) {cl:List Prd} {Q:List (List Int)} (h:Kn a cl=some Q):Sub a cl Q:=
 g0x ha cl 257 0 [[0]] Q h rfl (by simp) (by simp) (by simp) (by intro l hl;obtain rfl:=List.mem_singleton.1 hl;exact ⟨by simp,fun s hs=>by obtain rfl:=List.mem_singleton.1 hs;have:=ha.fin;omega⟩) (fun j hj=>by omega)
theorem Sub.step {a:Aut} {cl:List Prd} {Q:List (List Int)} (hs:Sub a cl Q) (hc:Cls a cl) {l:List Int} (hl:l∈Q) {x:Sy} (hx:Eg a x):Q5 a l x=[]∨Q5 a l x∈Q:=by
 obtain ⟨c,h1,_,h3⟩:=hc.of hx
 rw [h3 l];exact hs.closed l hl c h1
theorem Uo {a:Aut} {cl:List Prd} {Q:List (List Int)} {m:Mv}:m∈C3 a cl Q↔∃n l,Q[n]? =some l∧m∈Cj a cl Q n l:=by
 unfold C3;rw [List.mem_flatMap];constructor
 ·rintro ⟨n,hn,hm⟩
  have z1:=List.mem_range.1 hn
  refine ⟨n,Q[n],List.getElem?_eq_getElem z1,?_⟩
  simpa [List.getD,z1] using hm
 ·rintro ⟨n,l,hl,hm⟩
  have z1:=(List.getElem?_eq_some_iff.1 hl).1
  refine ⟨n,List.mem_range.2 z1,?_⟩
  simpa [List.getD,hl] using hm
theorem Dw {a:Aut} {cl:List Prd} {Q:List (List Int)} (hc:Cls a cl) (hs:Sub a cl Q) {n:Nat} {l:List Int} (hl:Q[n]? =some l) {x:Sy} (hx:Eg a x) (t:Nat):
  (∃m∈C3 a cl Q,m.src=(n:Int)∧m.dst=(t:Int)∧Tz m.on x=true)↔Q[t]? =some (Q5 a l x):=by
 have hg:=Ad (a:=a) (Q:=Q) n l hc.wf
 have key:y0m Q (Q5 a l x)=some t↔Q[t]? =some (Q5 a l x):=⟨Fb,u05 hs.nd⟩
 rw [←key];constructor
 ·rintro ⟨m,hm,h1,h2,h3⟩
  obtain ⟨n',l',hl',z6⟩:=Uo.1 hm
  have z7:=Ad (a:=a) (Q:=Q) n' l' hc.wf
  have:n'=n:=by have:=z7.src m z6;omega
  subst this;rw [hl] at hl';cases hl'
  rw [E8 (hg.wf m z6).1 x hx.1.1] at h3
  obtain ⟨c,z1,e1,e2⟩:=(hg.mem m z6 t h2 _ _).1 h3
  rw [hc.same z1 hx e2];exact e1
 ·intro h
  obtain ⟨c,z1,e1,e2⟩:=hc.of hx
  rw [e2] at h
  obtain ⟨m,hm,hd⟩:=hg.all t _ _ ⟨c,z1,h,e1⟩
  refine ⟨m,Uo.2 ⟨n,l,hl,hm⟩,hg.src m hm,hd,?_⟩;rw [E8 (hg.wf m hm).1 x hx.1.1];exact (hg.mem m hm t hd _ _).2 ⟨c,z1,h,e1⟩
theorem f01 {a:Aut} {cl:List Prd} {Q:List (List Int)} (hc:Cls a cl) (hs:Sub a cl Q) {n:Nat} {l:List Int} (hl:Q[n]? =some l) {x:Sy} (hx:Eg a x):
  (Q5 a l x=[]∧Q5 (Yo a cl Q) [(n:Int)] x=[])∨∃t:Nat,Q[t]? =some (Q5 a l x)∧Q5 (Yo a cl Q) [(n:Int)] x=[(t:Int)]:=by
 have z1:∀j,j∈Q5 (Yo a cl Q) [(n:Int)] x↔∃t:Nat,j=t∧Q[t]? =some (Q5 a l x):=fun j=>by
  rw [Ek];constructor
  ·rintro ⟨⟨h1,h2⟩,m,hm,h3,h4,h5⟩
   refine ⟨j.toNat,by omega,(Dw hc hs hl hx j.toNat).1 ⟨m,hm,List.mem_singleton.1 h3,by omega,h4⟩⟩
  ·rintro ⟨t,rfl,ht⟩
   obtain ⟨m,hm,h1,h2,h3⟩:=(Dw hc hs hl hx t).2 ht
   have:=(List.getElem?_eq_some_iff.1 ht).1
   exact ⟨⟨by omega,by simp [Yo];omega⟩,m,hm,by rw [h1];simp,h3,h2⟩
 rcases hs.step hc (List.mem_of_getElem? hl) hx with h0|h0
 ·refine .inl ⟨h0,List.eq_nil_iff_forall_not_mem.2 fun j hj=> ?_⟩
  obtain ⟨t,_,ht⟩:=(z1 j).1 hj
  rw [h0] at ht;exact hs.ne _ (List.mem_of_getElem? ht) rfl
 ·obtain ⟨t,ht⟩:=List.mem_iff_getElem?.1 h0
  refine .inr ⟨t,ht,Ym (Y6 ..) (by simp) fun z=> ?_⟩
  rw [z1 z];constructor
  ·rintro ⟨u,rfl,hu⟩
   obtain ⟨h1,h2⟩:=List.getElem?_eq_some_iff.1 ht
   obtain ⟨h3,h4⟩:=List.getElem?_eq_some_iff.1 hu
   have:u=t:=(List.getElem_inj hs.nd).1 (by rw [h4,h2])
   simp [this]
  ·intro hz;exact ⟨t,List.mem_singleton.1 hz,ht⟩
def O2 (a:Aut) (l:List Int) (w:List Sy):List Int:=w.foldl (Q5 a) l
def S3 (a:Aut) (w:List Sy):Bool:=Dd a (O2 a [0] w)
theorem C2 (a:Aut):∀w,O2 a [] w=[]
 |[]=>rfl
 |x::w=>by
  show O2 a (Q5 a [] x) w=[]
  have:Q5 a [] x=[]:=List.eq_nil_iff_forall_not_mem.2 fun j hj=>by
   obtain ⟨_,m,_,h,_⟩:=Ek.1 hj
   cases h
  rw [this,C2 a w]
theorem x0q {a:Aut} {cl:List Prd} {Q:List (List Int)} (hc:Cls a cl) (hs:Sub a cl Q):∀(w:List Sy),(∀x∈w,Eg a x)→∀(n:Nat) (l:List Int),Q[n]? =some l→
  (O2 a l w=[]∧O2 (Yo a cl Q) [(n:Int)] w=[])∨∃t:Nat,Q[t]? =some (O2 a l w)∧O2 (Yo a cl Q) [(n:Int)] w=[(t:Int)]
 |[],_,n,l,hl=> .inr ⟨n,hl,rfl⟩
 |x::w,hw,n,l,hl=>by
  show (O2 a (Q5 a l x) w=[]∧O2 (Yo a cl Q) (Q5 (Yo a cl Q) [(n:Int)] x) w=[])∨∃t:Nat,Q[t]? =some (O2 a (Q5 a l x) w)∧O2 (Yo a cl Q) (Q5 (Yo a cl Q) [(n:Int)] x) w=[(t:Int)]
  rcases f01 hc hs hl (hw x (by simp)) with ⟨h1,h2⟩|⟨t,h1,h2⟩
  ·rw [h1,h2];exact .inl ⟨C2 _ _,C2 _ _⟩
  ·rw [h2];exact x0q hc hs w (fun y hy=>hw y (by simp [hy])) t _ h1
theorem x1y {a:Aut} {cl:List Prd} {Q:List (List Int)} (hc:Cls a cl) (hs:Sub a cl Q) {w:List Sy} (hw:∀x∈w,Eg a x):S3 (Yo a cl Q) w=S3 a w:=by
 unfold S3
 rcases x0q hc hs w hw 0 [0] hs.first with ⟨h1,h2⟩|⟨t,h1,h2⟩
 ·have z1:O2 (Yo a cl Q) [0] w=[]:=h2
  rw [h1,z1];rfl
 ·have z1:O2 (Yo a cl Q) [0] w=[(t:Int)]:=h2
  rw [z1];simp only [Dd,Yo,List.any_cons,List.any_nil,Bool.or_false,Int.toNat_natCast,List.getD,List.getElem?_map,h1,Option.map_some,Option.getD_some]
def Uh (a:Aut):Prop:=a.mv.Pairwise (fun m k=>m.src=k.src→∀x:Sy,Eg a x→¬(Tz m.on x=true∧Tz k.on x=true))
theorem z0k {a:Aut} {cl:List Prd} {Q:List (List Int)} (hc:Cls a cl) (hs:Sub a cl Q):Uh (Yo a cl Q):=by
 unfold Uh
 show (C3 a cl Q).Pairwise _
 unfold C3;rw [List.pairwise_flatMap];constructor
 ·intro n hn
  have z1:=List.mem_range.1 hn
  have hl:Q[n]? =some Q[n]:=List.getElem?_eq_getElem z1
  have hg:Q.getD n []=Q[n]:=by simp [List.getD,z1]
  rw [hg]
  have hi:=Ad (a:=a) (Q:=Q) n Q[n] hc.wf
  refine hi.nd.imp_of_mem (fun {m k} hm hk hne _ x hx=> ?_)
  rintro ⟨h1,h2⟩
  obtain ⟨t1,_,e1⟩:=hi.dst m hm
  obtain ⟨t2,_,e2⟩:=hi.dst k hk
  have z6:Eg a x:=hx
  have d1:=(Dw hc hs hl z6 t1).1 ⟨m,Uo.2 ⟨n,_,hl,hm⟩,hi.src m hm,e1,h1⟩
  have d2:=(Dw hc hs hl z6 t2).1 ⟨k,Uo.2 ⟨n,_,hl,hk⟩,hi.src k hk,e2,h2⟩
  obtain ⟨p1,p2⟩:=List.getElem?_eq_some_iff.1 d1
  obtain ⟨p3,p4⟩:=List.getElem?_eq_some_iff.1 d2
  have:t1=t2:=(List.getElem_inj hs.nd).1 (by rw [p2,p4])
  exact hne (by rw [e1,e2,this])
 ·refine List.pairwise_lt_range.imp (fun {i j} hij m hm k hk e=> ?_)
  exfalso
  have h1:∀n m,m∈Cj a cl Q n (Q.getD n [])→m.src=(n:Int):=fun n m hm=>(Ad (a:=a) (Q:=Q) n _ hc.wf).src m hm
  have:=h1 i m hm
  have:=h1 j k hk
  omega
end Go.Abs
namespace Go.Abs
theorem Fk {l:List Iv} (h:Sep l) (hb:∀n,M l n→inR n):Sep (Ep l)∧(∀n,M (Ep l) n↔inR n∧¬M l n)∧(Ep l).length≤l.length+1:=by
 have z1:∀x∈l,inR x.lo∧inR x.hi:=fun x hx=>⟨hb _ ⟨x,hx,Int.le_refl _,h.1 x hx⟩,hb _ ⟨x,hx,h.1 x hx,Int.le_refl _⟩⟩
 have:=U5 l (-1099511627776) (fun x hx=>⟨h.1 x hx,(z1 x hx).2.2⟩) h.2 (fun x hx=>(z1 x hx).1.1)
 exact ⟨this.1,fun n=>by rw [Ep,this.2.1,inR,and_assoc],this.2.2⟩
theorem Bj {T:Nat} {p:Prd} (hp:PWf T p) (t:Nat) (n:Int):PM (Rg p) t n↔(t<T∧inR n)∧¬PM p t n:=by
 unfold PM Rg;rw [List.getElem?_map];constructor
 ·rintro ⟨s,hs,hm⟩
  obtain ⟨a,ha,rfl⟩:=Option.map_eq_some_iff.1 hs
  have hw:=hp.2 a (List.mem_of_getElem? ha)
  have hg:=((Fk hw.1 hw.2).2.1 n).1 hm
  refine ⟨⟨by rw [←hp.1];exact (List.getElem?_eq_some_iff.1 ha).1,hg.1⟩,?_⟩
  rintro ⟨b,hb,z1⟩
  rw [ha] at hb;cases hb
  exact hg.2 z1
 ·rintro ⟨⟨h1,h2⟩,h3⟩
  have hl:t<p.length:=by rw [hp.1];exact h1
  have hw:=hp.2 _ (List.getElem_mem hl)
  exact ⟨Ep p[t],by rw [List.getElem?_eq_getElem hl];rfl,((Fk hw.1 hw.2).2.1 n).2 ⟨h2,fun hm=>h3 ⟨_,List.getElem?_eq_getElem hl,hm⟩⟩⟩
theorem Vn {T:Nat} {p:Prd} (hp:PWf T p):PWf T (Rg p):=⟨by simp [Rg,hp.1],fun s hs=>by
 obtain ⟨a,ha,rfl⟩:=List.mem_map.1 hs
 have hw:=hp.2 a ha
 exact ⟨(Fk hw.1 hw.2).1,fun n hn=>(((Fk hw.1 hw.2).2.1 n).1 hn).1⟩⟩
def Uc (T:Nat) (ps:List Prd):Prd:=(List.range T).map fun i=>Eb (Qs ps i)
theorem J1 {T:Nat} {ps:List Prd} (h:∀p∈ps,PWf T p) (i:Nat):∀x∈Qs ps i,x.lo≤x.hi:=fun x hx=>by
 obtain ⟨p,hp,hx⟩:=Ro.1 hx
 have hm:p.getD i []=[]∨p.getD i []∈p:=by
  by_cases hi:i<p.length
  ·exact .inr (by rw [Ws hi];exact List.getElem_mem hi)
  ·exact .inl (by simp [List.getD,hi])
 rcases hm with e|hm
 ·rw [e] at hx;cases hx
 ·exact ((h p hp).2 _ hm).1.1 x hx
theorem Zi {T:Nat} {ps:List Prd} (h:∀p∈ps,PWf T p) (t:Nat) (n:Int):PM (Uc T ps) t n↔∃p∈ps,PM p t n:=by
 unfold PM Uc;rw [List.getElem?_map];constructor
 ·rintro ⟨s,hs,hm⟩
  obtain ⟨i,hi,rfl⟩:=Option.map_eq_some_iff.1 hs
  obtain ⟨z6,e⟩:=List.getElem?_eq_some_iff.1 hi
  rw [List.getElem_range] at e;subst e
  obtain ⟨x,hx,h1⟩:=((Y2 _ (J1 h t)).2 n).1 hm
  obtain ⟨p,hp,hx⟩:=Ro.1 hx
  have ht:t<T:=by simpa using z6
  have z1:t<p.length:=by rw [(h p hp).1];exact ht
  rw [Ws z1] at hx;exact ⟨p,hp,p[t],List.getElem?_eq_getElem z1,x,hx,h1⟩
 ·rintro ⟨p,hp,s,hs,x,hx,h1⟩
  obtain ⟨z1,e⟩:=List.getElem?_eq_some_iff.1 hs
  have ht:t<T:=by rw [←(h p hp).1];exact z1
  refine ⟨Eb (Qs ps t),by simp [ht],((Y2 _ (J1 h t)).2 n).2 ⟨x,Ro.2 ⟨p,hp,?_⟩,h1⟩⟩
  rw [Ws z1,e];exact hx
theorem Hx {T:Nat} {ps:List Prd} (h:∀p∈ps,PWf T p):PWf T (Uc T ps):=by
 refine ⟨by simp [Uc],fun s hs=> ?_⟩
 obtain ⟨i,hi,rfl⟩:=List.mem_map.1 hs
 refine ⟨(Y2 _ (J1 h i)).1,fun n hn=> ?_⟩
 have:PM (Uc T ps) i n:=⟨Eb (Qs ps i),by simp [Uc,List.mem_range.1 hi],hn⟩
 obtain ⟨p,hp,hm⟩:=(Zi h i n).1 this
 exact ((h p hp).lt hm).2
theorem v1o {T:Nat} {c:Prd} (h:PWf T c):Uc T [c]=c:=
 Ox (Hx (by simpa using h)) h fun t n=>by rw [Zi (by simpa using h)];simp
theorem v1j {T:Nat} {p q:Prd} (hp:PWf T p) (hq:PWf T q):Uc T [p,q]=E0 p q:=by
 have h:∀x∈[p,q],PWf T x:=fun x hx=>by
  rcases List.mem_cons.1 hx with rfl|hx
  ·exact hp
  ·obtain rfl:=List.mem_singleton.1 hx;exact hq
 exact Ox (Hx h) (Fh hp hq) fun t n=>by rw [Zi h,Pr hp hq];simp
def Hl (a:Aut) (s:Int):List Prd:=(a.mv.filter fun m=>decide (m.src=s)).map (·.on)
def Wo (a:Aut) (s:Int):Prd:=Rg (Uc a.types.toNat (Hl a s))
def q0b (a:Aut) (s:Int):Prd:=(Hl a s).foldl (fun r p=>W3 r (Rg p)) (W4 a.types.toNat)
structure WfA (a:Aut):Prop where
 types:1≤a.types∧a.types≤16
 fin:1≤a.fin.length
 src:∀m∈a.mv,0≤m.src∧m.src<a.fin.length
 dst:∀m∈a.mv,0≤m.dst∧m.dst<a.fin.length
 on:∀m∈a.mv,PWf a.types.toNat m.on
theorem OkA.wfA {a:Aut} (h:OkA a):WfA a:=⟨h.types,h.fin.1,fun m hm=>(h.mv m hm).src,fun m hm=>(h.mv m hm).dst,fun m hm=>(h.mv m hm).on.wf⟩
theorem Jf {a:Aut} (h:WfA a) (s:Int):∀p∈Hl a s,PWf a.types.toNat p:=fun p hp=>by
 obtain ⟨m,hm,rfl⟩:=List.mem_map.1 hp
 exact h.on m (List.mem_filter.1 hm).1
theorem Py {a:Aut} (h:WfA a) (s:Int) (t:Nat) (n:Int):PM (Wo a s) t n↔(t<a.types.toNat∧inR n)∧∀p∈Hl a s,¬PM p t n:=by
 rw [Wo,Bj (Hx (Jf h s)),Zi (Jf h s)]
 simp
theorem Ik {a:Aut} (h:WfA a) (s:Int):PWf a.types.toNat (Wo a s):=Vn (Hx (Jf h s))
theorem Ch {T:Nat}:∀(l:List Prd) (r:Prd),(∀p∈l,PWf T p)→PWf T r→PWf T (l.foldl (fun r p=>W3 r (Rg p)) r)∧
  ∀t n,PM (l.foldl (fun r p=>W3 r (Rg p)) r) t n↔PM r t n∧∀p∈l,¬PM p t n
 |[],r,_,hr=>⟨hr,fun t n=>by simp⟩
 |p::l,r,hl,hr=>by
  have hp:=hl p (by simp)
  obtain ⟨h1,h2⟩:=Ch l (W3 r (Rg p)) (fun q hq=>hl q (by simp [hq])) (Tt hr (Vn hp).1)
  refine ⟨h1,fun t n=> ?_⟩
  rw [List.foldl_cons,h2,W6 hr.1 (Vn hp).1,Bj hp];constructor
  ·rintro ⟨⟨a,b,c⟩,d⟩
   refine ⟨a,fun q hq=> ?_⟩
   rcases List.mem_cons.1 hq with rfl|hq
   ·exact c
   ·exact d q hq
  ·rintro ⟨a,d⟩
   exact ⟨⟨a,hr.lt a,d p (by simp)⟩,fun q hq=>d q (by simp [hq])⟩
theorem u0z {a:Aut} (h:WfA a) (s:Int):q0b a s=Wo a s:=by
 obtain ⟨h1,h2⟩:=Ch (Hl a s) (W4 a.types.toNat) (Jf h s) (Dr _)
 exact Ox h1 (Ik h s) fun t n=>by rw [q0b,h2,Py h,Px]
theorem Zx {a:Aut} (h:WfA a) (s:Int):Wp (Wo a s)=true↔∀t n,t<a.types.toNat→inR n→∃p∈Hl a s,PM p t n:=by
 rw [Rs (Ik h s)];constructor
 ·intro hv t n ht hn
  have:=hv t n
  rw [Py h] at this
  by_cases hc:∃p∈Hl a s,PM p t n
  ·exact hc
  ·exact absurd ⟨⟨ht,hn⟩,fun p hp hm=>hc ⟨p,hp,hm⟩⟩ this
 ·intro hv t n;rw [Py h]
  rintro ⟨⟨ht,hn⟩,hx⟩
  obtain ⟨p,hp,hm⟩:=hv t n ht hn
  exact hx p hp hm
def Bc (a:Aut):Bool:=decide (256<a.fin.length) || decide (2048<a.mv.length) || a.mv.any fun m=>m.on.any fun s=>decide (256<s.length)
theorem f1w {a:Aut} (h:WfA a):Wk a=0↔Bc a=false:=by
 rw [Ui];unfold Bc;simp only [Bool.or_eq_false_iff,decide_eq_false_iff_not,List.any_eq_false,decide_eq_true_eq];constructor
 ·rintro ⟨h1,h2,h3,h4⟩
  exact ⟨⟨by omega,by omega⟩,fun m hm=>by
   simp only [Bool.not_eq_true,List.any_eq_false,decide_eq_true_eq];exact fun s hs=>by have:=((h4 m hm).on.2 s hs).len;omega⟩
 ·rintro ⟨⟨h1,h2⟩,h3⟩
  refine ⟨h.types,⟨h.fin,by omega⟩,by omega,fun m hm=>⟨h.src m hm,h.dst m hm,(h.on m hm).1,fun s hs=> ?_⟩⟩
  have hw:=(h.on m hm).2 s hs
  have:=h3 m hm
  simp only [Bool.not_eq_true,List.any_eq_false,decide_eq_true_eq] at this;exact F3 hw.1 (N9 hw.1 hw.2) (by have:=this s hs;omega)
def Hi (a:Aut):Int×Aut:=if Bc a then (5,Ye) else (0,a)
def c1l (a:Aut):Int×Aut:=if Wk a≠0 then (5,Ye) else (0,a)
theorem f0m {a c:Aut} (h:WfA a) (hl:Hi a=(0,c)):c=a∧OkA a:=by
 unfold Hi at hl
 cases hb:Bc a
 ·rw [hb,if_neg (by simp)] at hl
  exact ⟨(Prod.mk.inj hl).2.symm,(Ui a).1 ((f1w h).2 hb)⟩
 ·rw [hb,if_pos rfl] at hl
  cases (Prod.mk.inj hl).1
theorem x0z {a:Aut}:(Hi a).1=0∨(Hi a).1=5:=by
 unfold Hi;split
 ·exact .inr rfl
 ·exact .inl rfl
end Go.Abs
namespace Go.Abs
def E2 (a:Aut) (lack:Int→Prd):List Mv:=(List.range a.fin.length).filterMap fun s:Nat=>if Wp (lack s) then none else some ⟨s,a.fin.length,lack s⟩
def Yz (a:Aut):Aut:=⟨a.types,a.fin++[false],a.mv++E2 a (Wo a)++[⟨a.fin.length,a.fin.length,W4 a.types.toNat⟩]⟩
def Ud (a:Aut):Int×Aut:=if (E2 a (Wo a)).isEmpty then (0,a) else Hi (Yz a)
def O0 (a:Aut):Bool:=(List.range a.fin.length).all fun s:Nat=>Wp (q0b a s)
def w2s (a:Aut):Int×Aut:=if O0 a then (0,a) else c1l ⟨a.types,a.fin++[false],a.mv++E2 a (q0b a)++[⟨a.fin.length,a.fin.length,W4 a.types.toNat⟩]⟩
theorem Tk {a:Aut} {lack:Int→Prd} {m:Mv}:m∈E2 a lack↔∃s:Nat,s<a.fin.length∧Wp (lack s)=false∧m=⟨s,a.fin.length,lack s⟩:=by
 unfold E2;rw [List.mem_filterMap];constructor
 ·rintro ⟨s,hs,h⟩
  cases hv:Wp (lack s)
  ·rw [hv,if_neg (by simp)] at h
   cases h
   exact ⟨s,List.mem_range.1 hs,hv,rfl⟩
  ·rw [hv,if_pos rfl] at h;cases h
 ·rintro ⟨s,hs,hv,rfl⟩
  exact ⟨s,List.mem_range.2 hs,by rw [hv,if_neg (by simp)]⟩
theorem Fa {a:Aut} {lack:Int→Prd}:E2 a lack=[]↔∀s:Nat,s<a.fin.length→Wp (lack s)=true:=by
 rw [List.eq_nil_iff_forall_not_mem];constructor
 ·intro h s hs
  cases hv:Wp (lack s)
  ·exact absurd (Tk.2 ⟨s,hs,hv,rfl⟩) (h _)
  ·rfl
 ·intro h m hm
  obtain ⟨s,hs,hv,_⟩:=Tk.1 hm
  rw [h s hs] at hv;cases hv
theorem w18 {a:Aut} (h:WfA a):WfA (Yz a):=by
 have z1:∀m∈(Yz a).mv,m∈a.mv∨(∃s:Nat,s<a.fin.length∧m=⟨s,a.fin.length,Wo a s⟩)∨m=⟨a.fin.length,a.fin.length,W4 a.types.toNat⟩:=fun m hm=>by
  rcases List.mem_append.1 hm with hm|hm
  ·rcases List.mem_append.1 hm with hm|hm
   ·exact .inl hm
   ·obtain ⟨s,hs,_,e⟩:=Tk.1 hm
    exact .inr (.inl ⟨s,hs,e⟩)
  ·exact .inr (.inr (List.mem_singleton.1 hm))
 have hl:(Yz a).fin.length=a.fin.length+1:=by simp [Yz]
 refine ⟨h.types,by rw [hl];omega,fun m hm=> ?_,fun m hm=> ?_,fun m hm=> ?_⟩
 ·rw [hl]
  rcases z1 m hm with hm|⟨s,hs,rfl⟩|rfl
  ·have:=h.src m hm;omega
  ·simp only;omega
  ·simp only;omega
 ·rw [hl]
  rcases z1 m hm with hm|⟨s,hs,rfl⟩|rfl
  ·have:=h.dst m hm;omega
  ·simp only;omega
  ·simp only;omega
 ·rcases z1 m hm with hm|⟨s,hs,rfl⟩|rfl
  ·exact h.on m hm
  ·exact Ik h s
  ·exact Dr _
def D2 (a:Aut):Prop:=∀s:Int,0≤s→s<a.fin.length→∀x,Eg a x→∃m∈a.mv,m.src=s∧Tz m.on x=true
theorem Nl {a:Aut} {x:Sy} (h:Eg a x):x.ty.toNat<a.types.toNat∧inR x.num∧0≤x.ty:=⟨by have:=h.1;omega,h.2,h.1.1⟩
theorem Yj {a:Aut} (h:WfA a) {m:Mv} (hm:m∈a.mv) {x:Sy} (hx:Eg a x):Tz m.on x=true↔PM m.on x.ty.toNat x.num:=E8 (h.on m hm).1 x hx.1.1
theorem Lv {a:Aut} {s:Int} {p:Prd}:p∈Hl a s↔∃m∈a.mv,m.src=s∧m.on=p:=by
 unfold Hl;rw [List.mem_map];constructor
 ·rintro ⟨m,hm,e⟩
  have:=List.mem_filter.1 hm
  exact ⟨m,this.1,by simpa using this.2,e⟩
 ·rintro ⟨m,hm,hs,e⟩
  exact ⟨m,List.mem_filter.2 ⟨hm,by simpa using hs⟩,e⟩
theorem Ny {a:Aut} (h:WfA a):E2 a (Wo a)=[]↔D2 a:=by
 rw [Fa];constructor
 ·intro hv s h0 h1 x hx
  have hs:=hv s.toNat (by omega)
  rw [show ((s.toNat:Nat):Int)=s by omega,Zx h] at hs
  obtain ⟨k1,k2,_⟩:=Nl hx
  obtain ⟨p,hp,hm⟩:=hs _ _ k1 k2
  obtain ⟨m,z1,e,rfl⟩:=Lv.1 hp
  exact ⟨m,z1,e,(Yj h z1 hx).2 hm⟩
 ·intro hf s hs;rw [Zx h];intro t n ht hn
  have hx:Eg a ⟨t,n⟩:=⟨⟨by simp,by simp only;omega⟩,hn⟩
  obtain ⟨m,hm,e,hh⟩:=hf s (by omega) (by omega) _ hx
  exact ⟨m.on,Lv.2 ⟨m,hm,e,rfl⟩,by have:=(Yj h hm hx).1 hh;simpa using this⟩
theorem q1x {a:Aut} (h:WfA a):D2 (Yz a):=by
 intro s h0 h1 x hx
 have z1:Eg a x:=hx
 have hl:(Yz a).fin.length=a.fin.length+1:=by simp [Yz]
 obtain ⟨k1,k2,_⟩:=Nl z1
 by_cases hs:s<a.fin.length
 ·by_cases hp:∃p∈Hl a s,PM p x.ty.toNat x.num
  ·obtain ⟨p,hp,hm⟩:=hp
   obtain ⟨m,z6,e,rfl⟩:=Lv.1 hp
   exact ⟨m,List.mem_append_left _ (List.mem_append_left _ z6),e,(Yj h z6 z1).2 hm⟩
  ·have z7:PM (Wo a s) x.ty.toNat x.num:=(Py h s _ _).2 ⟨⟨k1,k2⟩,fun p z8 hm=>hp ⟨p,z8,hm⟩⟩
   have hv:Wp (Wo a s)=false:=by
    cases hv:Wp (Wo a s)
    ·rfl
    ·exact absurd z7 ((Rs (Ik h s)).1 hv _ _)
   have e:((s.toNat:Nat):Int)=s:=by omega
   refine ⟨⟨s,a.fin.length,Wo a s⟩,List.mem_append_left _ (List.mem_append_right _ (Tk.2 ⟨s.toNat,by omega,by rw [e];exact hv,by rw [e]⟩)),rfl,?_⟩
   exact (E8 (Ik h s).1 x hx.1.1).2 z7
 ·refine ⟨⟨a.fin.length,a.fin.length,W4 a.types.toNat⟩,List.mem_append_right _ (by simp),by simp only;omega,?_⟩
  exact (E8 (Dr _).1 x hx.1.1).2 ((Px ..).2 ⟨k1,k2⟩)
theorem y1w {a:Aut} (h:WfA a) (hd:Uh a):Uh (Yz a):=by
 unfold Uh
 show (a.mv++E2 a (Wo a)++[_]).Pairwise _
 rw [List.pairwise_append,List.pairwise_append];refine ⟨⟨hd,?_,fun m hm k hk e x hx=> ?_⟩,by simp,fun m hm k hk e x hx=> ?_⟩
 ·unfold E2;rw [List.pairwise_filterMap];refine List.pairwise_lt_range.imp (fun {i j} hij m hm k hk e=> ?_)
  have z1:∀(i:Nat) (m:Mv),(if Wp (Wo a i) then none else some (⟨i,a.fin.length,Wo a i⟩:Mv))=some m→m.src=i:=fun i m hm=>by
   split at hm
   ·cases hm
   ·cases hm;rfl
  have:=z1 i m hm
  have:=z1 j k hk
  omega
 ·obtain ⟨s,hs,_,rfl⟩:=Tk.1 hk
  rintro ⟨h1,h2⟩
  have z6:Eg a x:=hx
  have p1:=(Yj h hm z6).1 h1
  have p2:=(E8 (Ik h s).1 x hx.1.1).1 h2
  exact ((Py h s _ _).1 p2).2 _ (Lv.2 ⟨m,hm,e,rfl⟩) p1
 ·obtain rfl:=List.mem_singleton.1 hk
  exfalso
  have e':m.src=(a.fin.length:Int):=e
  rcases List.mem_append.1 hm with hm|hm
  ·have:=h.src m hm;omega
  ·obtain ⟨s,hs,_,rfl⟩:=Tk.1 hm
   simp only at e';omega
theorem w1c {a:Aut} (h:WfA a) {l l':List Int} (hl:∀j:Int,j<a.fin.length→(j∈l'↔j∈l)) (x:Sy):∀j:Int,j<a.fin.length→(j∈Q5 (Yz a) l' x↔j∈Q5 a l x):=by
 intro j hj;rw [Ek,Ek]
 have hlen:(Yz a).fin.length=a.fin.length+1:=by simp [Yz]
 constructor
 ·rintro ⟨h1,m,hm,h2,h3,h4⟩
  rcases List.mem_append.1 hm with hm|hm
  ·rcases List.mem_append.1 hm with hm|hm
   ·exact ⟨⟨h1.1,hj⟩,m,hm,(hl _ (h.src m hm).2).1 h2,h3,h4⟩
   ·obtain ⟨s,hs,_,rfl⟩:=Tk.1 hm
    simp only at h4;omega
  ·obtain rfl:=List.mem_singleton.1 hm
   simp only at h4;omega
 ·rintro ⟨h1,m,hm,h2,h3,h4⟩
  exact ⟨⟨h1.1,by omega⟩,m,List.mem_append_left _ (List.mem_append_left _ hm),(hl _ (h.src m hm).2).2 h2,h3,h4⟩
theorem k0o {a:Aut} (h:WfA a):∀(w:List Sy) (l l':List Int),(∀j:Int,j<a.fin.length→(j∈l'↔j∈l))→∀j:Int,j<a.fin.length→(j∈O2 (Yz a) l' w↔j∈O2 a l w)
 |[],_,_,hl=>hl
 |x::w,_,_,hl=>k0o h w _ _ (w1c h hl x)
theorem runIn {a:Aut}:∀(w:List Sy) (l:List Int),(∀j∈l,0≤j∧j<a.fin.length)→∀j∈O2 a l w,0≤j∧j<a.fin.length
 |[],_,hl=>hl
 |x::w,_,_=>runIn w _ (fun _ hj=>Po _ hj)
theorem Va {a:Aut} (h:WfA a):∀j∈[(0:Int)],0≤j∧j<a.fin.length:=fun j hj=>by
 obtain rfl:=List.mem_singleton.1 hj
 have:=h.fin;omega
theorem Dz {a:Aut} {l:List Int}:Dd a l=true↔∃s∈l,a.fin.getD s.toNat false=true:=by rw [Dd,List.any_eq_true]
theorem u1e {a:Aut} (h:WfA a) (w:List Sy):S3 (Yz a) w=S3 a w:=by
 unfold S3;rw [Bool.eq_iff_iff,Dz,Dz]
 have hr:=k0o h w [0] [0] (fun _ _=>Iff.rfl)
 have z7:=runIn w _ (Va (w18 h))
 have z6:=runIn w _ (Va h)
 have hlen:(Yz a).fin.length=a.fin.length+1:=by simp [Yz]
 have z1:∀s:Int,0≤s→s<a.fin.length→(Yz a).fin.getD s.toNat false=a.fin.getD s.toNat false:=fun s h0 h1=>by
  simp only [Yz,List.getD_eq_getElem?_getD];rw [List.getElem?_append_left (by omega)]
 constructor
 ·rintro ⟨s,hs,hf⟩
  have:=z7 s hs
  by_cases hlt:s<a.fin.length
  ·exact ⟨s,(hr s hlt).1 hs,by rw [←z1 s this.1 hlt];exact hf⟩
  ·have:s.toNat=a.fin.length:=by omega
   rw [this] at hf
   simp [Yz] at hf
 ·rintro ⟨s,hs,hf⟩
  have:=z6 s hs
  exact ⟨s,(hr s this.2).2 hs,by rw [z1 s this.1 this.2];exact hf⟩
theorem Ki {a c:Aut} (h:OkA a) (hc:Ud a=(0,c)):OkA c∧c.types=a.types∧D2 c∧(Uh a→Uh c)∧∀w,S3 c w=S3 a w:=by
 unfold Ud at hc;split at hc
 ·rename_i hn
  cases hc
  exact ⟨h,rfl,(Ny h.wfA).1 (List.isEmpty_iff.1 hn),id,fun _=>rfl⟩
 ·obtain ⟨rfl,hk⟩:=f0m (w18 h.wfA) hc
  exact ⟨hk,rfl,q1x h.wfA,y1w h.wfA,u1e h.wfA⟩
theorem v1x (a:Aut):(Ud a).1=0∨(Ud a).1=5:=by
 unfold Ud;split
 ·exact .inl rfl
 ·exact x0z
end Go.Abs
namespace Go.Abs
def Yb (T:Int):List Prd→Int
 |[]=>0
 |p::r=>if El T p≠0 then El T p else Yb T r
def A5 (L:List Prd):Bool:=decide (256<L.length) || L.any fun p=>p.any fun s=>decide (256<s.length)
def Rb (T:Int) (l:List Prd):Int×List Prd:=if T<1∨16<T then (2,[]) else if 256<l.length then (5,[]) else if Yb T l≠0 then (Yb T l,[]) else
 if A5 (Ei T.toNat l) then (5,[]) else (0,Ei T.toNat l)
def x0m (T:Int) (l:List Prd):Int×List Prd:=if T<1∨16<T then (2,[]) else if 256<l.length then (5,[]) else if Yb T l≠0 then (Yb T l,[]) else
 if A5 (Q8 T.toNat l) then (5,[]) else (0,Q8 T.toNat l)
theorem U1 {T:Int}:∀(l:List Prd),Yb T l=0↔∀p∈l,El T p=0
 |[]=>by simp [Yb]
 |p::r=>by
  rw [Yb]
  by_cases h:El T p=0
  ·rw [if_neg (fun k=>k h),U1 r];simp [h]
  ·rw [if_pos h];exact ⟨fun k=>absurd k h,fun k=>absurd (k p (by simp)) h⟩
theorem x0i (T:Int) (l:List Prd):x0m T l=Rb T l:=by
 unfold x0m Rb;split
 ·rfl
 ·rename_i hT
  split
  ·rfl
  ·split
   ·rfl
   ·rename_i hc
    have z1:∀p∈l,PCk T.toNat p:=fun p hp=>((Ec T p).1 ((U1 l).1 (by simpa using hc) p hp)).2
    rw [Jj (by omega) z1]
theorem f0e {T:Int} (hT:1≤T∧T≤16) {l:List Prd} (hl:∀p∈l,PCk T.toNat p):(Rb T l).1=5∨Rb T l=(0,Q8 T.toNat l):=by
 unfold Rb
 have hc:Yb T l=0:=(U1 l).2 fun p hp=>(Ec T p).2 ⟨hT,hl p hp⟩
 rw [if_neg (by omega)]
 split
 ·exact .inl rfl
 ·rw [if_neg (by simp [hc])]
  split
  ·exact .inl rfl
  ·exact .inr (by rw [Jj (by omega) hl])
def onA (a:Aut):List Prd:=a.mv.map (·.on)
def Iw (a:Aut):Int×List Prd×List (List Int):=if Wk a≠0 then (Wk a,[],[]) else
 if (Rb a.types (onA a)).1≠0 then ((Rb a.types (onA a)).1,[],[]) else
 match Kn a (Rb a.types (onA a)).2 with
 |none=>(5,[],[])
 |some Q=>(0,(Rb a.types (onA a)).2,Q)
def Er (a:Aut):Int×Aut:=if (Iw a).1≠0 then ((Iw a).1,Ye) else Hi (Yo a (Iw a).2.1 (Iw a).2.2)
def A1 (a:Aut):Int×Aut:=if Wk a≠0 then (Wk a,Ye) else Ud a
def Ul (a:Aut):Aut:={ a with fin:=a.fin.map (!·) }
def J3 (a:Aut):Int×Aut:=if (Er a).1≠0 then ((Er a).1,Ye) else if (Ud (Er a).2).1≠0 then ((Ud (Er a).2).1,Ye) else (0,Ul (Ud (Er a).2).2)
theorem N5 {a:Aut} (h:OkA a):∀p∈onA a,PCk a.types.toNat p:=fun p hp=>by
 obtain ⟨m,hm,rfl⟩:=List.mem_map.1 hp
 exact (h.mv m hm).on
theorem Fi {a:Aut} (h:OkA a):Iw a=(5,[],[])∨∃Q,Iw a=(0,Q8 a.types.toNat (onA a),Q)∧Kn a (Q8 a.types.toNat (onA a))=some Q∧Sub a (Q8 a.types.toNat (onA a)) Q∧Cls a (Q8 a.types.toNat (onA a)):=by
 unfold Iw;rw [if_neg (fun k=>k ((Ui a).2 h))]
 rcases f0e h.types (N5 h) with hm|hm
 ·rw [if_pos (by rw [hm];decide),hm];exact .inl rfl
 ·rw [hm,if_neg (by simp)]
  cases hs:Kn a (Q8 a.types.toNat (onA a)) with
  |none=>exact .inl rfl
  |some Q=>exact .inr ⟨Q,rfl,rfl,x05 h hs,z19 h⟩
theorem Vo {a:Aut} (h:Wk a≠0):Iw a=(Wk a,[],[]):=if_pos h
theorem A3 {a:Aut} {cl:List Prd} {Q:List (List Int)} (hc:Cls a cl) {m:Mv} (hm:m∈C3 a cl Q):(∃n:Nat,n<Q.length∧m.src=n)∧(∃t:Nat,t<Q.length∧m.dst=t)∧PWf a.types.toNat m.on:=by
 obtain ⟨n,l,hl,hg⟩:=Uo.1 hm
 have hi:=Ad (a:=a) (Q:=Q) n l hc.wf
 exact ⟨⟨n,(List.getElem?_eq_some_iff.1 hl).1,hi.src m hg⟩,hi.dst m hg,hi.wf m hg⟩
theorem z1d {a:Aut} {cl:List Prd} {Q:List (List Int)} (hc:Cls a cl) (hs:Sub a cl Q):WfA (Yo a cl Q):=by
 have h0:=(List.getElem?_eq_some_iff.1 hs.first).1
 have hl:(Yo a cl Q).fin.length=Q.length:=by simp [Yo]
 refine ⟨hc.ok.types,by omega,fun m hm=> ?_,fun m hm=> ?_,fun m hm=>(A3 hc hm).2.2⟩
 ·obtain ⟨⟨n,h1,h2⟩,_⟩:=A3 hc hm
  rw [hl,h2];omega
 ·obtain ⟨_,⟨n,h1,h2⟩,_⟩:=A3 hc hm
  rw [hl,h2];omega
theorem B2 {a d:Aut} (h:OkA a) (hd:Er a=(0,d)):∃Q,Kn a (Q8 a.types.toNat (onA a))=some Q∧Sub a (Q8 a.types.toNat (onA a)) Q∧Cls a (Q8 a.types.toNat (onA a))∧
  Iw a=(0,Q8 a.types.toNat (onA a),Q)∧d=Yo a (Q8 a.types.toNat (onA a)) Q∧OkA d∧Uh d∧d.types=a.types∧∀w,(∀x∈w,Eg a x)→S3 d w=S3 a w:=by
 unfold Er at hd
 rcases Fi h with hs|⟨Q,hs,hq,z1,z6⟩
 ·rw [hs,if_pos (by decide)] at hd
  cases (Prod.mk.inj hd).1
 ·rw [hs,if_neg (by simp)] at hd
  obtain ⟨rfl,hk⟩:=f0m (z1d z6 z1) hd
  exact ⟨Q,hq,z1,z6,hs,rfl,hk,z0k z6 z1,rfl,fun w hw=>x1y z6 z1 hw⟩
theorem v1k {a:Aut} (h:OkA a):(Er a).1=0∨(Er a).1=5:=by
 unfold Er
 rcases Fi h with hs|⟨Q,hs,_⟩
 ·rw [hs];exact .inr rfl
 ·rw [hs,if_neg (by simp)];exact x0z
theorem x19 {a:Aut} (h:OkA a):OkA (Ul a):=⟨h.types,by simpa [Ul] using h.fin,h.mvs,fun m hm=>by have:=h.mv m hm;exact ⟨by simpa [Ul] using this.src,by simpa [Ul] using this.dst,this.on⟩⟩
theorem Bv (a:Aut):(Ul a).fin.length=a.fin.length:=by simp [Ul]
theorem k0x (a:Aut) (l:List Int) (x:Sy):Q5 (Ul a) l x=Q5 a l x:=by
 unfold Q5;rw [Bv];rfl
theorem Mt (a:Aut):∀(w:List Sy) (l:List Int),O2 (Ul a) l w=O2 a l w
 |[],_=>rfl
 |x::w,l=>by
  show O2 (Ul a) (Q5 (Ul a) l x) w=O2 a (Q5 a l x) w
  rw [k0x,Mt a w]
theorem f0b {a:Aut} (h:D2 a):D2 (Ul a):=fun s h0 h1 x hx=>h s h0 (by rw [Bv] at h1;exact h1) x hx
theorem q1l {a:Aut} (h:Uh a):Uh (Ul a):=h
theorem Nd {a:Aut} (hw:WfA a) (hd:Uh a) (hf:D2 a) {s:Int} (h0:0≤s) (h1:s<a.fin.length) {x:Sy} (hx:Eg a x):∃t:Int,0≤t∧t<a.fin.length∧Q5 a [s] x=[t]:=by
 obtain ⟨m,hm,e,hh⟩:=hf s h0 h1 x hx
 refine ⟨m.dst,(hw.dst m hm).1,(hw.dst m hm).2,Ym (Y6 ..) (by simp) fun z=> ?_⟩
 rw [Ek];constructor
 ·rintro ⟨_,k,hk,h2,h3,h4⟩
  obtain h2:=List.mem_singleton.1 h2
  have:k=m∨k.dst=m.dst:=by
   obtain ⟨i,hi⟩:=List.mem_iff_getElem?.1 hm
   obtain ⟨j,hj⟩:=List.mem_iff_getElem?.1 hk
   obtain ⟨z7,z1⟩:=List.getElem?_eq_some_iff.1 hi
   obtain ⟨z8,z6⟩:=List.getElem?_eq_some_iff.1 hj
   by_cases hij:i=j
   ·subst hij;left;rw [←z1,←z6]
   ·exfalso
    rcases Nat.lt_or_gt_of_ne hij with hlt|hgt
    ·have:=List.pairwise_iff_getElem.1 hd i j z7 z8 hlt
     rw [z1,z6] at this;exact this (by rw [e,h2]) x hx ⟨hh,h3⟩
    ·have:=List.pairwise_iff_getElem.1 hd j i z8 z7 hgt
     rw [z1,z6] at this;exact this (by rw [e,h2]) x hx ⟨h3,hh⟩
  rcases this with rfl|this
  ·rw [←h4];simp
  ·rw [←h4,this];simp
 ·intro hz
  obtain rfl:=List.mem_singleton.1 hz
  exact ⟨hw.dst m hm,m,hm,by rw [e];simp,hh,rfl⟩
theorem u00 {a:Aut} (hw:WfA a) (hd:Uh a) (hf:D2 a):∀(w:List Sy) (s:Int),0≤s→s<a.fin.length→(∀x∈w,Eg a x)→∃t:Int,0≤t∧t<a.fin.length∧O2 a [s] w=[t]
 |[],s,h0,h1,_=>⟨s,h0,h1,rfl⟩
 |x::w,s,h0,h1,hx=>by
  obtain ⟨t,t0,t1,e⟩:=Nd hw hd hf h0 h1 (hx x (by simp))
  show ∃u:Int,0≤u∧u<a.fin.length∧O2 a (Q5 a [s] x) w=[u]
  rw [e];exact u00 hw hd hf w t t0 t1 (fun y hy=>hx y (by simp [hy]))
theorem w14 {a:Aut} (hw:WfA a) (hd:Uh a) (hf:D2 a) {w:List Sy} (hx:∀x∈w,Eg a x):S3 (Ul a) w= !S3 a w:=by
 obtain ⟨t,t0,t1,e⟩:=u00 hw hd hf w 0 (Int.le_refl _) (by have:=hw.fin;omega) hx
 unfold S3;rw [Mt,e]
 have hl:t.toNat<a.fin.length:=by omega
 simp [Dd,Ul,List.getD_eq_getElem?_getD,hl]
theorem w16 {a c:Aut} (h:OkA a) (hc:J3 a=(0,c)):OkA c∧Uh c∧D2 c∧c.types=a.types∧∀w,(∀x∈w,Eg a x)→S3 c w= !S3 a w:=by
 unfold J3 at hc;split at hc
 ·rename_i h1
  exact absurd (Prod.mk.inj hc).1 h1
 ·split at hc
  ·rename_i h1 h2
   exact absurd (Prod.mk.inj hc).1 h2
  ·rename_i h1 h2
   have hd:Er a=(0,(Er a).2):=Prod.ext (by simpa using h1) rfl
   have hk:Ud (Er a).2=(0,(Ud (Er a).2).2):=Prod.ext (by simpa using h2) rfl
   obtain ⟨Q,_,_,_,_,_,d1,d2,d3,d4⟩:=B2 h hd
   obtain ⟨k1,k2,k3,k4,k5⟩:=Ki d1 hk
   obtain rfl:=(Prod.mk.inj hc).2
   have z1:((Ud (Er a).2).2).types=a.types:=by rw [k2,d3]
   refine ⟨x19 k1,q1l (k4 d2),f0b k3,z1,fun w hw=> ?_⟩
   rw [w14 k1.wfA (k4 d2) k3 (fun x hx=>by have:=hw x hx;unfold Eg at *;rw [z1];exact this),k5,d4 w hw]
theorem x1o {a:Aut} (h:OkA a):(J3 a).1=0∨(J3 a).1=5:=by
 unfold J3
 have h1:=v1k h
 have h2:=v1x (Er a).2
 split
 ·exact h1
 ·split
  ·exact h2
  ·exact .inl rfl
theorem c0z {a:Aut} {cl:List Prd} (hc:Cls a cl) {c:Prd} (hm:c∈cl):Eg a (Ql c):=by
 have h:=(Wu (hc.wf c hm).1 (hc.wf c hm).2).1
 have h2:=(hc.wf c hm).1.lt h
 exact ⟨⟨by simp [Ql],by simp only [Ql];omega⟩,h2.2⟩
end Go.Abs
namespace Go.Abs
def z1u (p:Prd):Bool:=decide (p.length≤4) && p.all fun s=>decide (s.length≤12)
def z1i (a:Aut):Bool:=decide (a.fin.length≤8) && decide (a.mv.length≤16) && a.mv.all fun m=>z1u m.on
theorem Bm {p:Prd}:z1u p=true↔p.length≤4∧∀s∈p,s.length≤12:=by simp [z1u]
theorem q1g (l:List Iv):(Eb l).length≤l.length:=by
 have h1:=Rk (U6 l) []
 have h2:=(Ix l).1.length_eq
 rw [Eb];simp at h1;omega
def Ak (a:Aut) (l:List Int) (x:Sy):Int×List Int:=if Wk a≠0 then (Wk a,[]) else if 256<l.length then (5,[]) else
 if l.any (fun s=>decide (s<0) || decide ((a.fin.length:Int)≤s)) then (6,[]) else if Pn a.types x≠0 then (Pn a.types x,[]) else (0,Q5 a l x)
theorem j0o {a:Aut} (h:OkA a) {l:List Int} (hl:l.length≤256) (hr:∀s∈l,0≤s∧s<a.fin.length) {x:Sy} (hx:Eg a x):Ak a l x=(0,Q5 a l x):=by
 unfold Ak;rw [if_neg (fun k=>k ((Ui a).2 h)),if_neg (by omega),if_neg,if_neg (fun k=>k ((P7 _ _).2 hx))]
 rw [Bool.not_eq_true,List.any_eq_false];intro s hs
 have:=hr s hs
 simp;omega
theorem C7 {n:Nat} {l:List Int} (h:l.Pairwise (·<·)) (hr:∀s∈l,0≤s∧s<n):l.length≤n:=by
 have he:l=(Ri n).filter fun z=>decide (z∈l):=Ym h ((Fc n).filter _) fun z=>by
  rw [List.mem_filter,Rp];exact ⟨fun hz=>⟨hr z hz,by simpa using hz⟩,fun hz=>by simpa using hz.2⟩
 have h1:=List.length_filter_le (fun z=>decide (z∈l)) (Ri n)
 rw [←he] at h1
 simpa [Ri] using h1
theorem J9 {a:Aut} (h:OkA a) (l:List Int) (x:Sy):(Q5 a l x).length≤256:=by
 have:=C7 (Y6 a l x) Po
 have:=h.fin;omega
def y0p (p q:Prd):Bool:= !Wp (W3 p q)
def q09 (a:Aut):Bool:=(List.range a.mv.length).all fun i=>(List.range i).all fun k=> !(decide ((a.mv.getD i default).src=(a.mv.getD k default).src) && y0p (a.mv.getD i default).on (a.mv.getD k default).on)
theorem Kr {T:Nat} {p q:Prd} (hp:PWf T p) (hq:PWf T q):y0p p q=true↔∃t n,PM p t n∧PM q t n:=by
 unfold y0p
 cases hv:Wp (W3 p q)
 ·simp only [Bool.not_false,true_iff]
  apply Classical.byContradiction
  intro hn
  have:=(Rs (Tt hp hq.1)).2 (fun t n hm=>hn ⟨t,n,(W6 hp.1 hq.1 t n).1 hm⟩)
  rw [hv] at this;cases this
 ·simp only [Bool.not_true,Bool.false_eq_true,false_iff]
  rintro ⟨t,n,hm⟩
  exact (Rs (Tt hp hq.1)).1 hv t n ((W6 hp.1 hq.1 t n).2 hm)
theorem v1u {a:Aut} (h:WfA a):q09 a=true↔Uh a:=by
 unfold q09 Uh;rw [List.all_eq_true,List.pairwise_iff_getElem]
 have hg:∀(i:Nat) (hi:i<a.mv.length),a.mv.getD i default=a.mv[i]:=fun i hi=>by simp [List.getD,hi]
 constructor
 ·intro hs i j hi hj z6 e x hx
  rintro ⟨h1,h2⟩
  have:=hs j (List.mem_range.2 hj)
  rw [List.all_eq_true] at this
  have:=this i (List.mem_range.2 z6)
  rw [hg j hj,hg i hi,e] at this
  have hc:y0p a.mv[j].on a.mv[i].on=true:=(Kr (h.on _ (List.getElem_mem hj)) (h.on _ (List.getElem_mem hi))).2 ⟨_,_,(Yj h (List.getElem_mem hj) hx).1 h2,(Yj h (List.getElem_mem hi) hx).1 h1⟩
  rw [hc] at this;simp at this
 ·intro hd i hi
  have hi:=List.mem_range.1 hi
  rw [List.all_eq_true];intro k hk
  have hk:=List.mem_range.1 hk
  have z1:k<a.mv.length:=by omega
  rw [hg i hi,hg k z1]
  by_cases e:a.mv[i].src=a.mv[k].src
  ·cases hc:y0p a.mv[i].on a.mv[k].on
   ·simp
   ·exfalso
    obtain ⟨t,n,h1,h2⟩:=(Kr (h.on _ (List.getElem_mem hi)) (h.on _ (List.getElem_mem z1))).1 hc
    have hb:=(h.on _ (List.getElem_mem hi)).lt h1
    have hx:Eg a ⟨t,n⟩:=⟨⟨by simp,by simp only;omega⟩,hb.2⟩
    exact hd k i z1 hi hk e.symm ⟨t,n⟩ hx ⟨(Yj h (List.getElem_mem z1) hx).2 (by simpa using h2),(Yj h (List.getElem_mem hi) hx).2 (by simpa using h1)⟩
  ·simp [e]
end Go.Abs
namespace Go.Abs
open Go Go.Proofs
attribute [simp] T74 T76 T91 T78 T23 T22 T25 T53 T45 T28
@[simp] def encP (p:Prd):AV:= .agg [.list (p.map encL)]
abbrev LP (l:List Prd):AV:= .list (l.map encP)
@[simp] def encSy (x:Sy):AV:= .agg [.i x.ty,.i x.num]
@[simp] def encMv (m:Mv):AV:= .agg [.i m.src,.i m.dst,.list (m.on.map encL)]
@[simp] def encA (a:Aut):AV:= .agg [.i a.types,.list (a.fin.map .bool),.list (a.mv.map encMv)]
attribute [local irreducible] ckR
set_option maxHeartbeats 1000000 in
theorem P4 (T:Int) (p:Prd):PC Tryz.prog 82 [.i T,encP p] (fun r=>r= .i (El T p)):=by
 refine Qm tOk Tryz.func82 rfl Tryz.results82 rfl (by simp [Tryz.ntmps82]) ?_
 rw [Tryz.ntmps82];simp only [Qf];simp only [encP];refine Wy 1 0 rfl rfl (fun hlen=> ?_)
 rw [List.length_map] at hlen
 repeat first|((first|refine ra ?_|refine rb ?_|refine rh ?_);simp)|refine qf ?_|refine qg ?_
 refine Qb rfl (fun h=> ?_) (fun h=> ?_)
 ·repeat first|((first|refine ra ?_|refine rb ?_|refine rh ?_);simp)|refine qf ?_|refine qg ?_
  rw [El,if_pos (by simpa using h)]
 have h':¬(T<1∨16<T):=by simpa using h
 repeat first|((first|refine ra ?_|refine rb ?_|refine rh ?_);simp)|refine qf ?_|refine qg ?_
 refine Qb rfl (fun h2=> ?_) (fun h2=> ?_)
 ·repeat first|((first|refine ra ?_|refine rb ?_|refine rh ?_);simp)|refine qf ?_|refine qg ?_
  rw [El,if_neg h',if_pos (by simpa using h2)]
 have z7:(p.length:Int)=T:=by simpa using h2
 have hE:El T p=w08 p:=by rw [El,if_neg h',if_neg (by simpa using z7)]
 rw [hE]
 repeat first|((first|refine ra ?_|refine rb ?_|refine rh ?_);simp)|refine qf ?_|refine qg ?_
 refine Qy p.length (fun j=>w08 p=w08 (p.drop j)) (fun j=>[(22,.list (p.map encL)),(23,.i p.length),(24,.i j)]) (fun _=>[]) rfl (by simp) (by simp) (by simp) (by simp) (by simp) ?_
 intro j hj hI ih
 repeat first|((first|refine ra ?_|refine rb ?_|refine rh ?_);simp)|refine qf ?_|refine qg ?_
 refine Qb rfl (fun z8=> ?_) (fun za=> ?_)
 ·have z1:j<p.length:=by simpa using z8
  have hw:IntKind.i64.wrap ((j:Int)+1)=j+1:=wrap_i64 _ (by omega) (by omega)
  rw [Ed z1,w08] at hI
  repeat first|((first|refine ra ?_|refine rb ?_|refine rh ?_);simp [z1])|refine qf ?_|refine qg ?_
  refine Qe rfl rfl (by simp) (M1 p[j]) rfl ?_
  rintro _ rfl
  simp
  repeat first|((first|refine ra ?_|refine rb ?_|refine rh ?_);simp)|refine qf ?_|refine qg ?_
  refine Qb rfl (fun h3=> ?_) (fun h3=> ?_)
  ·repeat first|((first|refine ra ?_|refine rb ?_|refine rh ?_);simp)|refine qf ?_|refine qg ?_
   rw [hI,if_pos (by simpa using h3)]
  rw [if_neg (by simpa using h3)] at hI
  repeat first|((first|refine ra ?_|refine rb ?_|refine rh ?_);simp [hw])|refine qf ?_|refine qg ?_
  refine Qx _ (ih z1 hI) rfl (by simp) ?_ (by simp) (by simp)
  simp
 ·have z6:j=p.length:=by simp at za;omega
  subst z6
  repeat first|((first|refine ra ?_|refine rb ?_|refine rh ?_);simp)|refine qf ?_|refine qg ?_
  rw [hI,List.drop_length];rfl
set_option maxHeartbeats 1000000 in
theorem w0b (T:Int) (p:Prd):PC Tryz.prog 116 [.i T,encP p] (fun r=>r= .i (El T p)):=by
 refine Qm tOk Tryz.func116 rfl Tryz.results116 rfl (by simp [Tryz.ntmps116]) ?_
 rw [Tryz.ntmps116];simp only [Qf];simp only [encP];refine Wy 1 0 rfl rfl (fun hlen=> ?_)
 rw [List.length_map] at hlen
 repeat first|((first|refine ra ?_|refine rb ?_|refine rh ?_);simp)|refine qf ?_|refine qg ?_
 refine Qb rfl (fun h=> ?_) (fun h=> ?_)
 ·repeat first|((first|refine ra ?_|refine rb ?_|refine rh ?_);simp)|refine qf ?_|refine qg ?_
  rw [El,if_pos (by simpa using h)]
 have h':¬(T<1∨16<T):=by simpa using h
 repeat first|((first|refine ra ?_|refine rb ?_|refine rh ?_);simp)|refine qf ?_|refine qg ?_
 refine Qb rfl (fun h2=> ?_) (fun h2=> ?_)
 ·repeat first|((first|refine ra ?_|refine rb ?_|refine rh ?_);simp)|refine qf ?_|refine qg ?_
  rw [El,if_neg h',if_pos (by simpa using h2)]
 have z7:(p.length:Int)=T:=by simpa using h2
 have hE:El T p=w08 p:=by rw [El,if_neg h',if_neg (by simpa using z7)]
 rw [hE]
 repeat first|((first|refine ra ?_|refine rb ?_|refine rh ?_);simp)|refine qf ?_|refine qg ?_
 refine Qy p.length (fun j=>w08 p=w08 (p.drop j)) (fun j=>[(0,.i T),(3,.vptr 0 0),(5,.i j)]) (fun _=>[.vars [.list (p.map encL)]]) rfl (by simp) (by simp) (by simp) (by simp) (by simp) ?_
 intro j hj hI ih
 repeat first|((first|refine ra ?_|refine rb ?_|refine rh ?_);simp)|refine qf ?_|refine qg ?_
 refine Qb rfl (fun z8=> ?_) (fun za=> ?_)
 ·have z1:j<p.length:=by have k:(j:Int)<T:=(by simpa using z8);omega
  have hw:IntKind.i64.wrap ((j:Int)+1)=j+1:=wrap_i64 _ (by omega) (by omega)
  rw [Ed z1,w08] at hI
  repeat first|((first|refine ra ?_|refine rb ?_|refine rh ?_);simp [z1])|refine qf ?_|refine qg ?_
  refine Qe rfl rfl (by simp) (u0m p[j]) rfl ?_
  rintro _ rfl
  simp
  repeat first|((first|refine ra ?_|refine rb ?_|refine rh ?_);simp)|refine qf ?_|refine qg ?_
  refine Qb rfl (fun h3=> ?_) (fun h3=> ?_)
  ·repeat first|((first|refine ra ?_|refine rb ?_|refine rh ?_);simp)|refine qf ?_|refine qg ?_
   rw [hI,if_pos (by simpa using h3)]
  rw [if_neg (by simpa using h3)] at hI
  repeat first|((first|refine ra ?_|refine rb ?_|refine rh ?_);simp [hw])|refine qf ?_|refine qg ?_
  refine Qx _ (ih z1 hI) rfl (by simp) ?_ (by simp) (by simp)
  simp
 ·have z6:j=p.length:=by have k:¬(j:Int)<T:=(by simpa using za);omega
  subst z6
  repeat first|((first|refine ra ?_|refine rb ?_|refine rh ?_);simp)|refine qf ?_|refine qg ?_
  rw [hI,List.drop_length];rfl
end Go.Abs
namespace Go.Abs
open Go Go.Proofs
def Gz:List Prd→Int
 |[]=>0
 |p::r=>if El p.length p≠0 then El p.length p else Gz r
attribute [local irreducible] El
set_option maxHeartbeats 1000000 in
theorem Jl (l:List Prd):PC Tryz.prog 157 [LP l] (fun r=>r= .i (Gz l)):=by
 refine Qm tOk Tryz.func157 rfl Tryz.results157 rfl (by simp [Tryz.ntmps157]) ?_
 rw [Tryz.ntmps157];simp only [Qf];refine Y7 0 rfl (fun hlen=> ?_)
 rw [List.length_map] at hlen
 repeat first|((first|refine ra ?_|refine rb ?_|refine rh ?_);simp)|refine qf ?_|refine qg ?_
 refine Qy l.length (fun j=>Gz l=Gz (l.drop j)) (fun j=>[(6,LP l),(7,.i l.length),(8,.i j)]) (fun _=>[]) rfl (by simp) (by simp) (by simp) (by simp) (by simp) ?_
 intro j hj hI ih
 repeat first|((first|refine ra ?_|refine rb ?_|refine rh ?_);simp)|refine qf ?_|refine qg ?_
 refine Qb rfl (fun z7=> ?_) (fun z8=> ?_)
 ·have z1:j<l.length:=by simpa using z7
  have hw:IntKind.i64.wrap ((j:Int)+1)=j+1:=wrap_i64 _ (by omega) (by omega)
  rw [Ed z1,Gz] at hI
  repeat first|((first|refine ra ?_|refine rb ?_|refine rh ?_);simp [z1])|refine qf ?_|refine qg ?_
  refine Qe rfl rfl (by simp) (P4 l[j].length l[j]) rfl ?_
  rintro _ rfl
  simp
  repeat first|((first|refine ra ?_|refine rb ?_|refine rh ?_);simp)|refine qf ?_|refine qg ?_
  refine Qb rfl (fun h3=> ?_) (fun h3=> ?_)
  ·repeat first|((first|refine ra ?_|refine rb ?_|refine rh ?_);simp)|refine qf ?_|refine qg ?_
   rw [hI,if_pos (by simpa using h3)]
  rw [if_neg (by simpa using h3)] at hI
  repeat first|((first|refine ra ?_|refine rb ?_|refine rh ?_);simp [hw])|refine qf ?_|refine qg ?_
  refine Qx _ (ih z1 hI) rfl (by simp) ?_ (by simp) (by simp)
  simp
 ·have z6:j=l.length:=by simp at z8;omega
  subst z6
  repeat first|((first|refine ra ?_|refine rb ?_|refine rh ?_);simp)|refine qf ?_|refine qg ?_
  rw [hI,List.drop_length];rfl
def y0w (p:Prd) (x:Sy):Int:=if Gz [p]≠0 then Gz [p] else Pn p.length x
def z0j (p:Prd) (x:Sy):Bool×Int:=if y0w p x≠0 then (false,y0w p x) else (Tz p x,0)
attribute [local irreducible] Gz q1m
theorem z1q {T:Int} {p:Prd} (h:El T p=0):Gz [p]=0∧(p.length:Int)=T:=by
 obtain ⟨h1,h2⟩:=(Ec T p).1 h
 have hl:(p.length:Int)=T:=by have:=h2.1;omega
 exact ⟨by unfold Gz;rw [hl,if_neg (fun k=>k h)];unfold Gz;rfl,hl⟩
theorem g0v {p:Prd} (h:Gz [p]=0):∀s∈p,CanonL s:=by
 unfold Gz at h
 by_cases hc:El p.length p=0
 ·exact ((Ec _ p).1 hc).2.2
 ·rw [if_pos hc] at h;exact absurd h hc
set_option maxHeartbeats 1000000 in
theorem Zy (p:Prd) (x:Sy):PC Tryz.prog 99 [encP p,encSy x] (fun r=>r= .tup [.bool (z0j p x).1,.i (z0j p x).2]):=by
 refine Qm tOk Tryz.func99 rfl Tryz.results99 rfl (by simp [Tryz.ntmps99]) ?_
 rw [Tryz.ntmps99];simp only [Qf];simp only [encP,encSy];refine Wy 0 0 rfl rfl (fun hlen=> ?_)
 rw [List.length_map] at hlen
 repeat first|((first|refine ra ?_|refine rb ?_|refine rh ?_);simp)|refine qf ?_|refine qg ?_
 refine Si 2 rfl ?_
 simp
 refine Qe rfl rfl (by simp) (Jl [p]) rfl ?_
 rintro _ rfl
 simp
 repeat first|((first|refine ra ?_|refine rb ?_|refine rh ?_);simp)|refine qf ?_|refine qg ?_
 refine Qb rfl (fun h=> ?_) (fun h=> ?_)
 ·repeat first|((first|refine ra ?_|refine rb ?_|refine rh ?_);simp)|refine qf ?_|refine qg ?_
  have h':Gz [p]≠0:=by simpa using h
  have hE:y0w p x=Gz [p]:=by rw [y0w,if_pos h']
  rw [z0j,hE,if_pos h'];exact ⟨rfl,rfl⟩
 have h':Gz [p]=0:=by simpa using h
 have hE:y0w p x=Pn p.length x:=by rw [y0w,if_neg (fun k=>k h')]
 repeat first|((first|refine ra ?_|refine rb ?_|refine rh ?_);simp)|refine qf ?_|refine qg ?_
 refine Qb rfl (fun h1=> ?_) (fun h1=> ?_)
 ·repeat first|((first|refine ra ?_|refine rb ?_|refine rh ?_);simp)|refine qf ?_|refine qg ?_
  have z6:x.ty<0∨(p.length:Int)≤x.ty:=by simpa using h1
  have z1:y0w p x=6:=by rw [hE,Pn,if_pos z6]
  rw [z0j,z1];exact ⟨rfl,rfl⟩
 have z6:¬(x.ty<0∨(p.length:Int)≤x.ty):=by simpa using h1
 repeat first|((first|refine ra ?_|refine rb ?_|refine rh ?_);simp)|refine qf ?_|refine qg ?_
 refine Qb rfl (fun h2=> ?_) (fun h2=> ?_)
 ·repeat first|((first|refine ra ?_|refine rb ?_|refine rh ?_);simp)|refine qf ?_|refine qg ?_
  have z7:x.num< -1099511627776∨1099511627776<x.num:=by simpa using h2
  have z1:y0w p x=2:=by rw [hE,Pn,if_neg z6,if_pos z7]
  rw [z0j,z1];exact ⟨rfl,rfl⟩
 have z7:¬(x.num< -1099511627776∨1099511627776<x.num):=by simpa using h2
 have z1:y0w p x=0:=by rw [hE,Pn,if_neg z6,if_neg z7]
 repeat first|((first|refine ra ?_|refine rb ?_|refine rh ?_);simp)|refine qf ?_|refine qg ?_
 have zb:0≤x.ty:=by omega
 have zc:x.ty<(p.length:Int):=by omega
 have z8:x.ty.toNat<p.length:=by omega
 refine Qo tOk mixed [] (.val 0 (.val 1 (.val 2 (.val 3 (.val 4 (.val 5 (.val 6 (.val 7 (.one 8 (.val 9 (.val 10 (.val 11 (.val 12 (.done)))))))))))))) rfl (by kernel_rfl) ?_
 simp [zb,zc,z8]
 refine Qe rfl rfl (by simp) (Gf p[x.ty.toNat] x.num) rfl ?_
 rintro _ rfl
 simp
 repeat first|((first|refine ra ?_|refine rb ?_|refine rh ?_);simp)|refine qf ?_|refine qg ?_
 have hc:=g0v h' _ (List.getElem_mem z8)
 have za:q1m p[x.ty.toNat] x.num=(I6 p[x.ty.toNat] x.num,0):=by rw [q1m,if_pos ((Xv _).2 hc)]
 rw [z0j,z1,if_neg (fun k=>k rfl),za]
 refine ⟨?_,rfl⟩
 simp [Tz,zb,zc,List.getD,z8]
theorem v1i {T:Int} {p:Prd} (h:El T p=0) (x:Sy):z0j p x=if Pn T x≠0 then (false,Pn T x) else (Tz p x,0):=by
 obtain ⟨h1,h2⟩:=z1q h
 have hE:y0w p x=Pn T x:=by rw [y0w,if_neg (fun k=>k h1),h2]
 rw [z0j,hE]
end Go.Abs
namespace Go.Abs
open Go Go.Proofs
abbrev Q4 (a:Aut):List AV:=[.i a.types,.list (a.fin.map .bool),.list (a.mv.map encMv)]
theorem x1f (p:Prd) (x:Sy):PC Tryz.prog 175 [encP p,encSy x] (fun r=>r= .bool ((z0j p x).2==0 && (z0j p x).1)):=by
 refine Qm tOk Tryz.func175 rfl Tryz.results175 rfl (by simp [Tryz.ntmps175]) ?_
 rw [Tryz.ntmps175];simp only [Qf];simp only [encP,encSy]
 repeat first|((first|refine ra ?_|refine rb ?_|refine rh ?_);simp)|refine qf ?_|refine qg ?_
 refine Qe rfl rfl (by simp) (Zy p x) rfl ?_
 rintro _ rfl
 simp
 repeat first|((first|refine ra ?_|refine rb ?_|refine rh ?_);simp)|refine qf ?_|refine qg ?_
def stB (a:Aut) (n:Int):Bool:=decide (0≤n) && decide (n<a.fin.length)
theorem Lg (a:Aut) (n:Int):stB a n=true↔0≤n∧n<a.fin.length:=by simp [stB]
theorem Lh (H:List AObj) (id:Nat) (a:Aut) (hid:H[id]? =some (.vars (Q4 a))) (n:Int):FC Tryz.prog 134 [.i n,.vptr id 0] H (fun r H'=>r= .bool (stB a n)∧H'=H):=by
 refine Wt tOk Tryz.func134 rfl Tryz.results134 rfl (by simp [Tryz.ntmps134]) ?_
 rw [Tryz.ntmps134];simp only [Qf]
 repeat first|((first|refine ra ?_|refine rb ?_|refine rh ?_);simp [hid,stB])|refine qf ?_|refine qg ?_
attribute [local irreducible] El stB
set_option maxHeartbeats 2000000 in
theorem Yw (a:Aut):PC Tryz.prog 73 [encA a] (fun r=>r= .i (Wk a)):=by
 refine Qm tOk Tryz.func73 rfl Tryz.results73 rfl (by simp [Tryz.ntmps73]) ?_
 rw [Tryz.ntmps73];simp only [Qf];simp only [encA];refine Wy 0 1 rfl rfl (fun z7=> ?_)
 refine Wy 0 2 rfl rfl (fun z8=> ?_)
 rw [List.length_map] at z7 z8
 repeat first|((first|refine ra ?_|refine rb ?_|refine rh ?_);simp)|refine qf ?_|refine qg ?_
 refine Qb rfl (fun h=> ?_) (fun h=> ?_)
 ·repeat first|((first|refine ra ?_|refine rb ?_|refine rh ?_);simp)|refine qf ?_|refine qg ?_
  rw [Wk,if_pos (by simpa using h)]
 have h1:¬(a.types<1∨16<a.types):=by simpa using h
 repeat first|((first|refine ra ?_|refine rb ?_|refine rh ?_);simp)|refine qf ?_|refine qg ?_
 refine Qb rfl (fun h=> ?_) (fun h=> ?_)
 ·repeat first|((first|refine ra ?_|refine rb ?_|refine rh ?_);simp)|refine qf ?_|refine qg ?_
  rw [Wk,if_neg h1,if_pos];simp at h;omega
 have h2:¬(a.fin.length<1∨256<a.fin.length∨2048<a.mv.length):=by simp at h;omega
 have hE:Wk a=w0e a.types a.fin.length a.mv:=by rw [Wk,if_neg h1,if_neg h2]
 rw [hE]
 repeat first|((first|refine ra ?_|refine rb ?_|refine rh ?_);simp)|refine qf ?_|refine qg ?_
 refine Qy a.mv.length (fun j=>w0e a.types a.fin.length a.mv=w0e a.types a.fin.length (a.mv.drop j)) (fun j=>[(1,.vptr 0 0),(3,.fn (.func 134) [] [.vptr 0 0]),(33,.list (a.mv.map encMv)),(34,.i a.mv.length),(35,.i j)]) (fun _=>[.vars (Q4 a)]) rfl (by simp) (by simp) (by simp) (by simp) (by simp) ?_
 intro j hj hI ih
 repeat first|((first|refine ra ?_|refine rb ?_|refine rh ?_);simp)|refine qf ?_|refine qg ?_
 refine Qb rfl (fun za=> ?_) (fun zb=> ?_)
 ·have z1:j<a.mv.length:=by simpa using za
  have hw:IntKind.i64.wrap ((j:Int)+1)=j+1:=wrap_i64 _ (by omega) (by omega)
  rw [Ed z1,w0e] at hI
  repeat first|((first|refine ra ?_|refine rb ?_|refine rh ?_);simp [z1])|refine qf ?_|refine qg ?_
  cases hb:stB a a.mv[j].src with
  |false=>
   refine Qz rfl rfl (Lh _ 0 a rfl a.mv[j].src) rfl ?_
   rintro r H' ⟨rfl,rfl⟩
   simp [hb]
   repeat first|((first|refine ra ?_|refine rb ?_|refine rh ?_);simp)|refine qf ?_|refine qg ?_
   refine Wd rfl rfl ?_
   simp
   refine Qj rfl ?_
   repeat first|((first|refine ra ?_|refine rb ?_|refine rh ?_);simp)|refine qf ?_|refine qg ?_
   rw [hI,if_pos (fun k=>by rw [(Lg _ _).2 k.1] at hb;cases hb)]
  |true=>
   refine Qz rfl rfl (Lh _ 0 a rfl a.mv[j].src) rfl ?_
   rintro r H' ⟨rfl,rfl⟩
   simp [hb]
   repeat first|((first|refine ra ?_|refine rb ?_|refine rh ?_);simp)|refine qf ?_|refine qg ?_
   refine Qz rfl rfl (Lh _ 0 a rfl a.mv[j].dst) rfl ?_
   rintro r H' ⟨rfl,rfl⟩
   simp
   repeat first|((first|refine ra ?_|refine rb ?_|refine rh ?_);simp)|refine qf ?_|refine qg ?_
   refine Qb rfl (fun h3=> ?_) (fun h3=> ?_)
   ·repeat first|((first|refine ra ?_|refine rb ?_|refine rh ?_);simp)|refine qf ?_|refine qg ?_
    rw [hI,if_pos (fun k=>by rw [(Lg _ _).2 k.2] at h3;cases h3)]
   have hd:stB a a.mv[j].dst=true:=by simpa using h3
   rw [if_neg (fun k=>k ⟨(Lg _ _).1 hb,(Lg _ _).1 hd⟩)] at hI
   repeat first|((first|refine ra ?_|refine rb ?_|refine rh ?_);simp)|refine qf ?_|refine qg ?_
   refine Qe rfl rfl (by simp) (P4 a.types a.mv[j].on) rfl ?_
   rintro _ rfl
   simp
   repeat first|((first|refine ra ?_|refine rb ?_|refine rh ?_);simp)|refine qf ?_|refine qg ?_
   refine Qb rfl (fun h4=> ?_) (fun h4=> ?_)
   ·repeat first|((first|refine ra ?_|refine rb ?_|refine rh ?_);simp)|refine qf ?_|refine qg ?_
    rw [hI,if_pos (by simpa using h4)]
   rw [if_neg (by simpa using h4)] at hI
   repeat first|((first|refine ra ?_|refine rb ?_|refine rh ?_);simp [hw])|refine qf ?_|refine qg ?_
   refine Qx _ (ih z1 hI) rfl (by simp) ?_ (by simp) (by simp)
   simp
 ·have z6:j=a.mv.length:=by simp at zb;omega
  subst z6
  repeat first|((first|refine ra ?_|refine rb ?_|refine rh ?_);simp)|refine qf ?_|refine qg ?_
  rw [hI,List.drop_length];rfl
set_option maxHeartbeats 2000000 in
theorem z0y (a:Aut):PC Tryz.prog 51 [encA a] (fun r=>r= .i (Wk a)):=by
 refine Qm tOk Tryz.func51 rfl Tryz.results51 rfl (by simp [Tryz.ntmps51]) ?_
 rw [Tryz.ntmps51];simp only [Qf];simp only [encA];refine Wy 0 1 rfl rfl (fun z7=> ?_)
 refine Wy 0 2 rfl rfl (fun z8=> ?_)
 rw [List.length_map] at z7 z8
 repeat first|((first|refine ra ?_|refine rb ?_|refine rh ?_);simp)|refine qf ?_|refine qg ?_
 refine Qb rfl (fun h=> ?_) (fun h=> ?_)
 ·repeat first|((first|refine ra ?_|refine rb ?_|refine rh ?_);simp)|refine qf ?_|refine qg ?_
  rw [Wk,if_pos (by simpa using h)]
 have h1:¬(a.types<1∨16<a.types):=by simpa using h
 repeat first|((first|refine ra ?_|refine rb ?_|refine rh ?_);simp)|refine qf ?_|refine qg ?_
 refine Qb rfl (fun h=> ?_) (fun h=> ?_)
 ·repeat first|((first|refine ra ?_|refine rb ?_|refine rh ?_);simp)|refine qf ?_|refine qg ?_
  rw [Wk,if_neg h1,if_pos];simp at h;omega
 have h2:¬(a.fin.length<1∨256<a.fin.length∨2048<a.mv.length):=by simp at h;omega
 have hE:Wk a=w0e a.types a.fin.length a.mv:=by rw [Wk,if_neg h1,if_neg h2]
 rw [hE]
 repeat first|((first|refine ra ?_|refine rb ?_|refine rh ?_);simp)|refine qf ?_|refine qg ?_
 refine Qy a.mv.length (fun j=>w0e a.types a.fin.length a.mv=w0e a.types a.fin.length (a.mv.drop j)) (fun j=>[(1,.vptr 0 0),(3,.i a.fin.length),(4,.i j)]) (fun _=>[.vars (Q4 a)]) rfl (by simp) (by simp) (by simp) (by simp) (by simp) ?_
 intro j hj hI ih
 repeat first|((first|refine ra ?_|refine rb ?_|refine rh ?_);simp)|refine qf ?_|refine qg ?_
 refine Qb rfl (fun za=> ?_) (fun zb=> ?_)
 ·have z1:j<a.mv.length:=by simpa using za
  have hw:IntKind.i64.wrap ((j:Int)+1)=j+1:=wrap_i64 _ (by omega) (by omega)
  rw [Ed z1,w0e] at hI
  repeat first|((first|refine ra ?_|refine rb ?_|refine rh ?_);simp [z1])|refine qf ?_|refine qg ?_
  refine Qb rfl (fun h3=> ?_) (fun h3=> ?_)
  ·repeat first|((first|refine ra ?_|refine rb ?_|refine rh ?_);simp)|refine qf ?_|refine qg ?_
   rw [hI,if_pos];simp at h3;omega
  rw [if_neg (by simp at h3 ⊢;omega)] at hI
  repeat first|((first|refine ra ?_|refine rb ?_|refine rh ?_);simp)|refine qf ?_|refine qg ?_
  refine Qe rfl rfl (by simp) (w0b a.types a.mv[j].on) rfl ?_
  rintro _ rfl
  simp
  repeat first|((first|refine ra ?_|refine rb ?_|refine rh ?_);simp)|refine qf ?_|refine qg ?_
  refine Qb rfl (fun h4=> ?_) (fun h4=> ?_)
  ·repeat first|((first|refine ra ?_|refine rb ?_|refine rh ?_);simp)|refine qf ?_|refine qg ?_
   rw [hI,if_pos (by simpa using h4)]
  rw [if_neg (by simpa using h4)] at hI
  repeat first|((first|refine ra ?_|refine rb ?_|refine rh ?_);simp [hw])|refine qf ?_|refine qg ?_
  refine Qx _ (ih z1 hI) rfl (by simp) ?_ (by simp) (by simp)
  simp
 ·have z6:j=a.mv.length:=by simp at zb;omega
  subst z6
  repeat first|((first|refine ra ?_|refine rb ?_|refine rh ?_);simp)|refine qf ?_|refine qg ?_
  rw [hI,List.drop_length];rfl
end Go.Abs
