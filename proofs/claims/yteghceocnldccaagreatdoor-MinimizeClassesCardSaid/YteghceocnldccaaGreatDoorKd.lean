/- Part Kd of the proof: an abstract machine over the model, and what the functions of the program hand back in its terms. No condition. -/
import Derived.Test.YteghceocnldccaaGreatDoorKc
set_option linter.all false
set_option linter.unusedSimpArgs false
set_option maxRecDepth 100000
namespace Go.Abs
open Go Go.Proofs
def Ea (l:List Iv):List Iv:=Qv [] (Em l)
theorem W3 (ini:List Iv) (y x:Iv):Wz (ini++[y]) x=if x.lo≤y.hi+1 then ini++[⟨y.lo,if y.hi<x.hi then x.hi else y.hi⟩] else ini++[y]++[x]:=by
 simp [Wz]
theorem c02 (s:List Iv) (x y:Iv):y∈Z9 s x↔y=x∨y∈s:=by
 have:(s.take (Yc s x s.length)++s.drop (Yc s x s.length))=s:=List.take_append_drop _ _
 rw [Z9,List.mem_append,List.mem_cons]
 conv=>rhs;rw [←this,List.mem_append]
 constructor<;>rintro (h|h|h)<;>simp [h]
theorem Jl:∀(l acc:List Iv) (y:Iv),y∈l.foldl Z9 acc↔y∈acc∨y∈l
 |[],acc,y=>by simp
 |x::r,acc,y=>by
  rw [List.foldl_cons,Jl r,c02,List.mem_cons];constructor
  ·rintro ((h|h)|h)<;>simp [h]
  ·rintro (h|h|h)<;>simp [h]
theorem g0q (l:List Iv) (y:Iv):y∈Em l↔y∈l:=by rw [Em,Jl];simp
attribute [local irreducible] Em
set_option maxHeartbeats 2000000 in
theorem j06 (l:List Iv) (hl:l.length≤1000000000) (zk:∀y∈l,Us y):PC Tryz.prog 128 [LIv l] (fun r=>r=LIv (Ea l)):=by
 refine Ql tOk Tryz.func128 rfl Tryz.results128 rfl (by simp [Tryz.ntmps128]) ?_
 rw [Tryz.ntmps128];simp only [Qg]
 repeat first|((first|refine ra ?_|refine rb ?_|refine rh ?_);simp)|refine qf ?_|refine qg ?_
 refine Qe rfl rfl (by simp) (d0d l hl) rfl ?_
 rintro _ rfl
 simp
 repeat first|((first|refine ra ?_|refine rb ?_|refine rh ?_);simp)|refine qf ?_|refine qg ?_
 have hl':(Em l).length≤1000000000:=by rw [Fl];exact hl
 have z8:∀y∈Em l,Us y:=fun y hy=>zk y ((g0q l y).1 hy)
 unfold Ea;generalize Em l=s at hl' z8 ⊢;refine Q6 4 187 2 rfl ?_
 simp
 refine Qp (Qc (sl':=[(3,LIv s),(4,.sl 0 2 0 0),(5,.i 0)]) ?_ (by simp))
 refine Qo (F:=fun (u:Nat×Nat×List AObj)=>⟨[(3,LIv s),(4,.sl u.2.1 2 0 (Qv [] (s.take u.1)).length),(5,.i u.1)],u.2.2⟩)
  (fun u=>u.1≤s.length∧u.2.2[u.2.1]? =some (.arr 187 2 ((Qv [] (s.take u.1)).map encIv))) (fun u=>s.length - u.1) ?_ (0,0,[.arr 187 2 []]) ⟨by simp,rfl⟩
 rintro ⟨j,q,H2⟩ ⟨hj,g1⟩ ih
 simp only at hj g1 ih ⊢
 repeat first|((first|refine ra ?_|refine rb ?_|refine rh ?_);simp)|refine qf ?_|refine qg ?_
 refine Qb rfl (fun zl=> ?_) (fun zm=> ?_)
 ·have z1:j<s.length:=by simpa using zl
  have hw:IntKind.i64.wrap ((j:Int)+1)=j+1:=wrap_i64 _ (by omega) (by omega)
  have zc:(Qv [] (s.take j)).length≤1000000000:=Nat.le_trans (Ex _ _) (by simp;omega)
  have zd:∀y∈Qv [] (s.take j),Us y:=Ir _ _ (by simp) (fun y hy=>z8 y (List.mem_of_mem_take hy))
  have zh:Qv [] (s.take (j+1))=Wz (Qv [] (s.take j)) s[j]:=by rw [List.take_succ_eq_append_getElem z1,Ug]
  have z6:∀(q':Nat) (H':List AObj),H'[q']? =some (.arr 187 2 ((Wz (Qv [] (s.take j)) s[j]).map encIv))→_:=fun q' H' h=>ih (j+1,q',H') ⟨by simp;omega,by rw [zh];exact h⟩ (by simp;omega)
  clear ih;simp only [zh] at z6;generalize Qv [] (s.take j)=acc at g1 zc zd z6 ⊢
  repeat first|((first|refine ra ?_|refine rb ?_|refine rh ?_);simp)|refine qf ?_|refine qg ?_
  rcases List.eq_nil_or_concat acc with rfl|⟨ini,y,rfl⟩
  ·have zi:IntKind.i64.wrap (-1)= -1:=by decide
   repeat first|((first|refine ra ?_|refine rb ?_|refine rh ?_);simp [zi])|refine qf ?_|refine qg ?_
   refine Qn tOk mixed [] (.val 0 (.val 1 (.val 2 (.val 3 (.val 4 (.val 5 (.val 6 (.val 7 (.val 8 (.val 9 (.val 10 (.val 11 (.val 12 (.val 13 (.val 14 (.val 15 (.done))))))))))))))))) rfl (by kernel_rfl) ?_
   simp [zi,z1,g1]
   refine Qk rfl ?_
   simp
   repeat first|((first|refine ra ?_|refine rb ?_|refine rh ?_);simp [z1,g1])|refine qf ?_|refine qg ?_
   refine Qd tOk rfl rfl Uv rfl Si rfl (by decide) (by decide) rfl rfl rfl ?_
   simp [Qa g1,Qi g1]
   refine ⟨by simp [Wh,Qa g1,Qi g1]<;>omega,?_⟩
   repeat first|((first|refine ra ?_|refine rb ?_|refine rh ?_);simp [hw])|refine qf ?_|refine qg ?_
   exact Qc (sl':=[(3,LIv s),(4,.sl (H2.length+1) 2 0 1),(5,.i (j+1:Nat))]) (z6 (H2.length+1) _ (by rw [List.getElem?_append_right (by simp)];simp [Wz])) (by simp)
  ·have hy:=zd y (by simp)
   have zn:=(W5 _).1 hy.2
   have zj:IntKind.i64.wrap (y.hi+1)=y.hi+1:=wrap_i64 _ (by omega) (by omega)
   rw [List.concat_eq_append] at g1 zc zd z6 ⊢
   have hlen:(ini++[y]).length=ini.length+1:=by simp
   rw [hlen] at zc ⊢
   have zb:IntKind.i64.wrap (ini.length:Int)=ini.length:=wrap_i64 _ (by omega) (by omega)
   have hg:((ini++[y]).map encIv)[ini.length]? =some (encIv y):=by simp
   have z7:(ini.length:Int)<ini.length+1:=by omega
   repeat first|((first|refine ra ?_|refine rb ?_|refine rh ?_);simp [zb])|refine qf ?_|refine qg ?_
   have za:¬((ini.length:Int)<0):=by omega
   refine Qn tOk mixed [] (.val 0 (.val 1 (.val 2 (.val 3 (.val 4 (.val 5 (.val 6 (.val 7 (.val 8 (.val 9 (.val 10 (.val 11 (.val 12 (.val 13 (.val 14 (.val 15 (.done))))))))))))))))) rfl (by kernel_rfl) ?_
   simp [z1,g1,zb,hg,zj,z7,za]
   rw [W3] at z6;refine Qb rfl (fun h1=> ?_) (fun h1=> ?_)
   ·have ze:¬(s[j].lo≤y.hi+1):=by simp at h1;omega
    rw [if_neg ze] at z6
    repeat first|((first|refine ra ?_|refine rb ?_|refine rh ?_);simp [z1,g1])|refine qf ?_|refine qg ?_
    refine Qd tOk rfl rfl Uv rfl Si rfl (by decide) (by decide) rfl rfl rfl ?_
    simp [Qa g1,Qi g1]
    refine ⟨by simp [Wh,Qa g1,Qi g1]<;>omega,?_⟩
    repeat first|((first|refine ra ?_|refine rb ?_|refine rh ?_);simp [hw])|refine qf ?_|refine qg ?_
    exact Qc (sl':=[(3,LIv s),(4,.sl (H2.length+1) 2 0 (ini.length+1+1)),(5,.i (j+1:Nat))]) (by
     have:=z6 (H2.length+1) (H2.set q .dead++[.arr 187 2 [encIv s[j]],.arr 187 2 ((ini++[y]++[s[j]]).map encIv)]) (by rw [List.getElem?_append_right (by simp)];simp)
     simpa using this) (by simp)
   ·have ze:s[j].lo≤y.hi+1:=by simp at h1;omega
    rw [if_pos ze] at z6
    repeat first|((first|refine ra ?_|refine rb ?_|refine rh ?_);simp)|refine qf ?_|refine qg ?_
    refine Qn tOk mixed [] (.val 0 (.val 1 (.val 2 (.val 3 (.val 4 (.val 5 (.val 6 (.val 7 (.val 8 (.val 9 (.val 10 (.done)))))))))))) rfl (by kernel_rfl) ?_
    simp [z1,g1,zb,hg,zj,z7,za]
    refine Qb rfl (fun h2=> ?_) (fun h2=> ?_)
    ·have zf:y.hi<s[j].hi:=by simpa using h2
     rw [if_pos zf] at z6
     repeat first|((first|refine ra ?_|refine rb ?_|refine rh ?_);simp [z1,g1,hg,zb,z7,hw])|refine qf ?_|refine qg ?_
     exact Qc (sl':=[(3,LIv s),(4,.sl q 2 0 (ini.length+1)),(5,.i (j+1:Nat))]) (by
      have:=z6 q (H2.set q (.arr 187 2 ((ini++[(⟨y.lo,s[j].hi⟩:Iv)]).map encIv))) (Qj g1 _)
      simpa using this) (by simp)
    ·have zf:¬(y.hi<s[j].hi):=by simpa using h2
     rw [if_neg zf] at z6
     repeat first|((first|refine ra ?_|refine rb ?_|refine rh ?_);simp [hw])|refine qf ?_|refine qg ?_
     exact Qc (sl':=[(3,LIv s),(4,.sl q 2 0 (ini.length+1)),(5,.i (j+1:Nat))]) (by
      have:=z6 q H2 g1
      simpa using this) (by simp)
 ·have zg:j=s.length:=by simp at zm;omega
  subst zg;rw [List.take_length] at g1
  repeat first|((first|refine ra ?_|refine rb ?_|refine rh ?_);simp [g1])|refine qf ?_|refine qg ?_
  rw [List.take_of_length_le (by simp)]
end Go.Abs
namespace Go.Abs
open Go Go.Proofs
attribute [local irreducible] Ea
def w29 (l:List Iv):AV:=if u0o l=0 then .tup [LIv (Ea l),.i 0] else .tup [.list [],.i (u0o l)]
attribute [local irreducible] Sn
theorem g1p (a b c d:Int):eqA T 9 187 (.agg [.int .i64 a,.int .i64 b]) (.agg [.int .i64 c,.int .i64 d])=some (a==c && b==d):=by
 simp [eqA,Ye,Gd,TI.agg]
theorem u17 (a b:List Iv):PC Tryz.prog 133 [LIv a,LIv b] (fun r=>r= .bool (decide (a=b))):=by
 refine Ql tOk Tryz.func133 rfl Tryz.results133 rfl (by simp [Tryz.ntmps133]) ?_
 rw [Tryz.ntmps133];simp only [Qg];refine U0 0 rfl (fun hlen=> ?_)
 rw [List.length_map] at hlen
 repeat first|((first|refine ra ?_|refine rb ?_|refine rh ?_);simp)|refine qf ?_|refine qg ?_
 refine Qb rfl (fun h=> ?_) (fun h=> ?_)
 ·repeat first|((first|refine ra ?_|refine rb ?_|refine rh ?_);simp)|refine qf ?_|refine qg ?_
  have:a≠b:=fun e=>by subst e;simp at h
  simp [this]
 have zc:a.length=b.length:=by simp at h;omega
 repeat first|((first|refine ra ?_|refine rb ?_|refine rh ?_);simp)|refine qf ?_|refine qg ?_
 refine Qs a.length (fun j=>decide (a=b)=decide (a.drop j=b.drop j)) (fun j=>[(0,LIv a),(1,LIv b),(5,.i j)]) (fun _=>[]) rfl (by simp) (by simp) (by simp) (by simp) (by simp) ?_
 intro j hj hI ih
 repeat first|((first|refine ra ?_|refine rb ?_|refine rh ?_);simp)|refine qf ?_|refine qg ?_
 refine Qb rfl (fun za=> ?_) (fun zb=> ?_)
 ·have z1:j<a.length:=by simpa using za
  have z6:j<b.length:=by omega
  have z7:(j:Int)<b.length:=by omega
  have hw:IntKind.i64.wrap ((j:Int)+1)=j+1:=wrap_i64 _ (by omega) (by omega)
  rw [W7 z1,W7 z6] at hI
  repeat first|((first|refine ra ?_|refine rb ?_|refine rh ?_);simp)|refine qf ?_|refine qg ?_
  refine Qn tOk mixed [] (.val 0 (.val 1 (.val 2 (.val 3 (.val 4 (.val 5 (.val 6 (.val 7 (.val 8 (.done)))))))))) rfl (by kernel_rfl) ?_
  simp [z1,z6,z7,g1p]
  refine Qb rfl (fun h2=> ?_) (fun h2=> ?_)
  ·repeat first|((first|refine ra ?_|refine rb ?_|refine rh ?_);simp)|refine qf ?_|refine qg ?_
   have:a≠b:=fun e=>by subst e;simp at h2
   simp [this]
  ·repeat first|((first|refine ra ?_|refine rb ?_|refine rh ?_);simp [hw])|refine qf ?_|refine qg ?_
   have he:a[j]=b[j]:=by
    cases hx:a[j];cases hy:b[j];rw [hx,hy] at h2;simpa using h2
   refine Qr _ (ih z1 ?_) rfl (by simp) ?_ (by simp) (by simp)
   ·rw [hI,he];simp only [List.cons.injEq,true_and]
   ·simp
 ·have z8:j=a.length:=by simp at zb;omega
  subst z8;rw [List.drop_length,List.drop_of_length_le (by omega)] at hI
  repeat first|((first|refine ra ?_|refine rb ?_|refine rh ?_);simp)|refine qf ?_|refine qg ?_
  simpa using hI
theorem f1z (l:List Iv):PC Tryz.prog 112 [LIv l] (fun r=>r= .bool (decide ((l.length:Int)≤12))):=by
 refine Ql tOk Tryz.func112 rfl Tryz.results112 rfl (by simp [Tryz.ntmps112]) ?_
 rw [Tryz.ntmps112];simp only [Qg]
 repeat first|((first|refine ra ?_|refine rb ?_|refine rh ?_);simp)|refine qf ?_|refine qg ?_
end Go.Abs
namespace Go.Abs
open Go Go.Proofs
attribute [simp] T74
@[simp] def encL (l:List Iv):AV:= .list (l.map encIv)
def w2u (l:List Iv):Bool:= !((decide ((12:Int)<l.length) && decide ((l.length:Int)≤254)) || decide ((258:Int)<l.length))
def y2n (ls:List (List Iv)):Bool:=ls.all w2u
def d1l (l:List Iv):Bool:=decide ((l.length:Int)≤12) && decide (ckR l=0)
def z2j (ls:List (List Iv)):Bool:=ls.all d1l
attribute [local irreducible] ckR
end Go.Abs
namespace Go.Abs
open Go Go.Proofs
structure CanonL (l:List Iv):Prop where
 len:l.length≤256
 one:∀y∈l,Sn y=0
 gap:∀j,∀h:j+1<l.length,l[j].hi+2≤l[j+1].lo
theorem Xw {l:List Iv} {j:Nat} {x:Iv} (h:j<l.length) (hi:Us l[j]):u0e l (j+1) x=decide (x.lo<l[j].hi+2):=by
 have h1:=(W5 _).1 hi.2
 have:W (l[j].hi+2)=l[j].hi+2:=wrap_i64 _ (by omega) (by omega)
 simp [u0e,h,this]
theorem Gx (l:List Iv) (hl:l.length≤256):∀(n j:Nat),l.length - j=n→j≤l.length→(∀h:0<j,∀h':j - 1<l.length,Sn l[j - 1]=0)→(Ii l j (l.drop j)=0↔(∀i,j≤i→∀h:i<l.length,Sn l[i]=0)∧∀i,j≤i+1→∀h:i+1<l.length,l[i].hi+2≤l[i+1].lo)
 |0,j,hn,hj,_=>by
  have:j=l.length:=by omega
  subst this;rw [List.drop_length,Ii];exact ⟨fun _=>⟨fun i h1 h2=>by omega,fun i h1 h2=>by omega⟩,fun _=>rfl⟩
 |n+1,j,hn,hj,hp=>by
  have z6:j<l.length:=by omega
  rw [W7 z6,Ii]
  by_cases h1:(Sn l[j] != 0)=true
  ·rw [if_pos h1]
   have z1:Sn l[j]≠0:=by simpa using h1
   exact ⟨fun h=>absurd h z1,fun h=>absurd (h.1 j (Nat.le_refl _) z6) z1⟩
  ·rw [if_neg h1]
   have z1:Sn l[j]=0:=by simpa using h1
   have ih:=Gx l hl n (j+1) (by omega) (by omega) (fun _ _=>z1)
   by_cases h2:u0e l j l[j]=true
   ·rw [if_pos h2];refine ⟨fun h=>(by cases h),fun h=> ?_⟩
    rcases j with _|j
    ·simp [u0e] at h2
    ·have hq:Sn l[j]=0:=hp (by omega) (by simp;omega)
     rw [Xw (by omega) (Vc hq).1] at h2
     have:=h.2 j (Nat.le_refl _) z6
     simp at h2;omega
   ·rw [if_neg h2,ih];constructor
    ·rintro ⟨a,b⟩
     refine ⟨fun i hi h=> ?_,fun i hi h=> ?_⟩
     ·by_cases e:i=j
      ·subst e;exact z1
      ·exact a i (by omega) h
     ·by_cases e:j=i+1
      ·subst e
       have hq:Sn l[i]=0:=hp (by omega) (by simp;omega)
       rw [Xw (by omega) (Vc hq).1] at h2
       simp at h2;exact h2
      ·exact b i (by omega) h
    ·rintro ⟨a,b⟩
     exact ⟨fun i hi h=>a i (by omega) h,fun i hi h=>b i (by omega) h⟩
theorem Xm (l:List Iv):ckR l=0↔CanonL l:=by
 rw [ckR]
 by_cases h:decide ((256:Int)<l.length)=true
 ·rw [if_pos h];simp at h;exact ⟨fun e=>(by cases e),fun e=>(by have:=e.len;omega)⟩
 ·rw [if_neg h];simp at h
  have hl:l.length≤256:=by omega
  have:=Gx l hl l.length 0 rfl (Nat.zero_le _) (fun h=>by omega)
  rw [List.drop_zero] at this;rw [this];constructor
  ·rintro ⟨a,b⟩
   refine ⟨hl,fun y hy=> ?_,fun j h=>b j (by omega) h⟩
   obtain ⟨i,hi,rfl⟩:=List.getElem_of_mem hy
   exact a i (by omega) hi
  ·rintro ⟨_,a,b⟩
   exact ⟨fun i _ h=>a _ (List.getElem_mem h),fun i _ h=>b i h⟩
theorem CanonL.iv {l:List Iv} (h:CanonL l) {j:Nat} (hj:j<l.length): -1099511627776≤l[j].lo∧l[j].lo≤l[j].hi∧l[j].hi≤1099511627776:=by
 obtain ⟨⟨h1,h2⟩,h3⟩:=Vc (h.one _ (List.getElem_mem hj))
 have:=(W5 _).1 h1
 have:=(W5 _).1 h2
 omega
def q2z:List Iv→Int
 |[]=>0
 |x::r=>(x.hi - x.lo+1)+q2z r
attribute [local irreducible] ckR
end Go.Abs
namespace Go.Abs
open Go Go.Proofs
attribute [local irreducible] ckR
def y0t (a b:List Iv):Int:=if ckR a=0 then ckR b else ckR a
def y2l (l:List Iv):AV:=if l.length≤256 then .tup [LIv l,.i 0] else .tup [.list [],.i 5]
def x1a:List Iv→Int→Int×Int
 |[],_=>(0,2)
 |x::r,i=>if i<x.hi - x.lo+1 then (x.lo+i,0) else x1a r (i - (x.hi - x.lo+1))
def atR (l:List Iv) (i:Int):Int×Int:=if ckR l=0 then (if i<0 then (0,2) else x1a l i) else (0,ckR l)
def q0w (x:Iv) (n:Int):Int:=if x.hi<n then -1 else if n<x.lo then 1 else 0
theorem f08 (x:Iv) (n:Int):PC Tryz.prog 205 [encIv x,.i n] (fun r=>r= .i (q0w x n)):=by
 refine Ql tOk Tryz.func205 rfl Tryz.results205 rfl (by simp [Tryz.ntmps205]) ?_
 rw [Tryz.ntmps205];simp only [Qg];simp only [encIv]
 repeat first|((first|refine ra ?_|refine rb ?_|refine rh ?_);simp)|refine qf ?_|refine qg ?_
 refine Qb rfl (fun h=> ?_) (fun h=> ?_)
 ·repeat first|((first|refine ra ?_|refine rb ?_|refine rh ?_);simp)|refine qf ?_|refine qg ?_
  rw [q0w,if_pos (by simpa using h)]
 repeat first|((first|refine ra ?_|refine rb ?_|refine rh ?_);simp)|refine qf ?_|refine qg ?_
 refine Qb rfl (fun h2=> ?_) (fun h2=> ?_)
 ·repeat first|((first|refine ra ?_|refine rb ?_|refine rh ?_);simp)|refine qf ?_|refine qg ?_
  rw [q0w,if_neg (by simpa using h),if_pos (by simpa using h2)]
 repeat first|((first|refine ra ?_|refine rb ?_|refine rh ?_);simp)|refine qf ?_|refine qg ?_
 rw [q0w,if_neg (by simpa using h),if_neg (by simpa using h2)]
def Ot (l:List Iv) (n:Int):Bool:=l.any fun x=>decide (x.lo≤n) && decide (n≤x.hi)
theorem I8 {l:List Iv} (hc:CanonL l):∀ {i j:Nat},i<j→∀(hj:j<l.length),∀(hi:i<l.length),l[i].hi+2≤l[j].lo:=by
 intro i j z1 hj hi
 obtain ⟨d,rfl⟩:∃d,j=i+1+d:=⟨j - (i+1),by omega⟩
 induction d with
 |zero=>exact hc.gap i hj
 |succ d ih=>
  have h1:=ih (by omega) (by omega)
  have h2:=hc.gap (i+1+d) (by omega)
  have h3:=hc.iv (show i+1+d<l.length by omega)
  have h4:i+1+(d+1)=i+1+d+1:=by omega
  simp only [h4];omega
theorem Gj (x:Iv) (n:Int):q0w x n<0↔x.hi<n:=by
 unfold q0w
 by_cases h:x.hi<n
 ·rw [if_pos h];simp [h]
 ·rw [if_neg h]
  by_cases h2:n<x.lo
  ·rw [if_pos h2];simp [h]
  ·rw [if_neg h2];simp [h]
theorem y1f (x:Iv) (n:Int):q0w x n=0↔x.lo≤n∧n≤x.hi:=by
 unfold q0w
 by_cases h:x.hi<n
 ·rw [if_pos h];constructor<;>intro h'<;>omega
 ·rw [if_neg h]
  by_cases h2:n<x.lo
  ·rw [if_pos h2];constructor<;>intro h'<;>omega
  ·rw [if_neg h2];constructor<;>intro h'<;>omega
theorem c1z {i j m:Nat} (hm:(i+j) / 2=m) (h:i+j≤1000000000):IntKind.i64.wrap ((IntKind.u64.wrap ((i:Int)+j)).fdiv (2 ^ min 1 IntKind.u64.bits))=m:=by
 have h1:IntKind.u64.wrap ((i:Int)+j)=i+j:=by simp [IntKind.wrap,IntKind.bits,IntKind.signed];omega
 have h2:min 1 IntKind.u64.bits=1:=by decide
 rw [h1,h2,Int.fdiv_eq_ediv_of_nonneg _ (by decide),wrap_i64 _ (by omega) (by omega)]
 omega
attribute [local irreducible] q0w
set_option maxHeartbeats 2000000 in
theorem Xl (l:List Iv) (n:Int) (hc:CanonL l):PC Tryz.prog 204 [LIv l,.i n,.fn (.func 205) [] []] (fun r=>∃k:Int,r= .tup [.i k,.bool (Ot l n)]):=by
 refine Ql tOk Tryz.func204 rfl Tryz.results204 rfl (by simp [Tryz.ntmps204]) ?_
 rw [Tryz.ntmps204];simp only [Qg]
 have hlen:=hc.len
 repeat first|((first|refine ra ?_|refine rb ?_|refine rh ?_);simp)|refine qf ?_|refine qg ?_
 refine Qp (Qc (sl':=[(0,LIv l),(1,.i n),(2,.fn (.func 205) [] []),(8,.i l.length),(9,.i 0),(10,.i l.length)]) ?_ (by simp))
 refine Qo (F:=fun (u:Nat×Nat)=>⟨[(0,LIv l),(1,.i n),(2,.fn (.func 205) [] []),(8,.i l.length),(9,.i u.1),(10,.i u.2)],[]⟩) (fun u=>u.1≤u.2∧u.2≤l.length∧(∀k,k<u.1→∀hk:k<l.length,q0w l[k] n<0)∧(∀k,u.2≤k→∀hk:k<l.length,¬q0w l[k] n<0)) (fun u=>u.2 - u.1) ?_ (0,l.length) ⟨by simp,by simp,fun k hk=>by simp at hk,fun k hk z1=>by simp only at hk;omega⟩
 rintro ⟨i,j⟩ ⟨h1,h2,h3,h4⟩ ih
 simp only at h1 h2 h3 h4 ih ⊢
 repeat first|((first|refine ra ?_|refine rb ?_|refine rh ?_);simp)|refine qf ?_|refine qg ?_
 refine Qb rfl (fun zd=> ?_) (fun ze=> ?_)
 ·have zf:i<j:=by simpa using zd
  have hw:IntKind.i64.wrap ((i:Int)+j)=i+j:=wrap_i64 _ (by omega) (by omega)
  obtain ⟨m,hm⟩:∃m,(i+j) / 2=m:=⟨_,rfl⟩
  have z8:IntKind.i64.wrap ((IntKind.u64.wrap ((i:Int)+j)).fdiv (2 ^ min 1 IntKind.u64.bits))=m:=c1z hm (by omega)
  have z6:m<l.length:=by omega
  have za:(m:Int)<l.length:=by omega
  have zg:IntKind.i64.wrap ((m:Int)+1)=m+1:=wrap_i64 _ (by omega) (by omega)
  repeat first|((first|refine ra ?_|refine rb ?_|refine rh ?_);simp [hw,z8,z6,za])|refine qf ?_|refine qg ?_
  refine Qe rfl rfl (by simp) (f08 l[m] n) rfl ?_
  rintro _ rfl
  simp
  refine Qb rfl (fun h5=> ?_) (fun h5=> ?_)
  ·repeat first|((first|refine ra ?_|refine rb ?_|refine rh ?_);simp [zg])|refine qf ?_|refine qg ?_
   refine Qc (sl':=[(0,LIv l),(1,.i n),(2,.fn (.func 205) [] []),(8,.i l.length),(9,.i (m+1:Nat)),(10,.i j)]) (ih (m+1,j) ⟨by simp only;omega,h2,fun k hk z1=> ?_,h4⟩ (by simp only;omega)) (by simp)
   have zh:=hc.iv z1
   have zi:=hc.iv z6
   have z7:q0w l[m] n<0:=by simpa using h5
   by_cases e:k=m
   ·subst e;exact z7
   ·have:=I8 hc (show k<m by omega) z6 z1
    rw [Gj] at z7 ⊢;omega
  ·repeat first|((first|refine ra ?_|refine rb ?_|refine rh ?_);simp)|refine qf ?_|refine qg ?_
   refine Qc (sl':=[(0,LIv l),(1,.i n),(2,.fn (.func 205) [] []),(8,.i l.length),(9,.i i),(10,.i m)]) (ih (i,m) ⟨by simp only;omega,by simp only;omega,h3,fun k hk z1=> ?_⟩ (by simp only;omega)) (by simp)
   have zh:=hc.iv z1
   have zi:=hc.iv z6
   have z7:¬q0w l[m] n<0:=by simpa using h5
   by_cases e:k=m
   ·subst e;exact z7
   ·have:=I8 hc (show m<k by omega) z1 z6
    rw [Gj] at z7 ⊢;omega
 ·have zb:i=j:=by simp at ze;omega
  subst zb
  by_cases hil:i<l.length
  ·repeat first|((first|refine ra ?_|refine rb ?_|refine rh ?_);simp [hil])|refine qf ?_|refine qg ?_
   refine Qe rfl rfl (by simp) (f08 l[i] n) rfl ?_
   rintro _ rfl
   simp
   repeat first|((first|refine ra ?_|refine rb ?_|refine rh ?_);simp)|refine qf ?_|refine qg ?_
   have hh:Ot l n=(q0w l[i] n==0):=by
    rw [Bool.eq_iff_iff,beq_iff_eq,y1f,Ot,List.any_eq_true];constructor
    ·rintro ⟨x,hx,zc⟩
     obtain ⟨k,hk,rfl⟩:=List.getElem_of_mem hx
     simp at zc
     have e:k=i:=by
      by_cases e1:k<i
      ·have:=(Gj _ _).1 (h3 k e1 hk)
       omega
      ·by_cases e2:i<k
       ·have:=I8 hc e2 hk hil
        have:¬l[i].hi<n:=fun e=>h4 i (Nat.le_refl _) hil ((Gj l[i] n).2 e)
        omega
       ·omega
     subst e;exact zc
    ·intro h;exact ⟨l[i],List.getElem_mem hil,by simpa using h⟩
   rw [hh]
  ·repeat first|((first|refine ra ?_|refine rb ?_|refine rh ?_);simp [hil])|refine qf ?_|refine qg ?_
   refine Q7 rfl rfl ?_
   simp
   repeat first|((first|refine ra ?_|refine rb ?_|refine rh ?_);simp)|refine qf ?_|refine qg ?_
   have hh:Ot l n=false:=by
    rw [Ot,List.any_eq_false];intro x hx
    obtain ⟨k,hk,rfl⟩:=List.getElem_of_mem hx
    have:=(Gj _ _).1 (h3 k (by omega) hk)
    simp
    intro _;omega
   rw [hh]
theorem f1q (l:List Iv) (n:Int) (hc:CanonL l):PC Tryz.prog 192 [LIv l,.i n] (fun r=>r= .bool (Ot l n)):=by
 refine Ql tOk Tryz.func192 rfl Tryz.results192 rfl (by simp [Tryz.ntmps192]) ?_
 rw [Tryz.ntmps192];simp only [Qg]
 repeat first|((first|refine ra ?_|refine rb ?_|refine rh ?_);simp)|refine qf ?_|refine qg ?_
 refine Qe rfl rfl (by simp) (Xl l n hc) rfl ?_
 rintro _ ⟨k,rfl⟩
 simp
 repeat first|((first|refine ra ?_|refine rb ?_|refine rh ?_);simp)|refine qf ?_|refine qg ?_
attribute [local irreducible] Ot
def q1t (l:List Iv) (n:Int):Bool×Int:=if ckR l=0 then (Ot l n,0) else (false,ckR l)
theorem Fc (l:List Iv) (n:Int):PC Tryz.prog 158 [LIv l,.i n] (fun r=>r= .tup [.bool (q1t l n).1,.i (q1t l n).2]):=by
 refine Ql tOk Tryz.func158 rfl Tryz.results158 rfl (by simp [Tryz.ntmps158]) ?_
 rw [Tryz.ntmps158];simp only [Qg]
 repeat first|((first|refine ra ?_|refine rb ?_|refine rh ?_);simp)|refine qf ?_|refine qg ?_
 refine Qe rfl rfl (by simp) (q01 l) rfl ?_
 rintro _ rfl
 simp
 repeat first|((first|refine ra ?_|refine rb ?_|refine rh ?_);simp)|refine qf ?_|refine qg ?_
 refine Qb rfl (fun h=> ?_) (fun h=> ?_)
 ·repeat first|((first|refine ra ?_|refine rb ?_|refine rh ?_);simp)|refine qf ?_|refine qg ?_
  rw [q1t,if_neg (by simpa using h)];exact ⟨rfl,rfl⟩
 have h0:ckR l=0:=by simpa using h
 repeat first|((first|refine ra ?_|refine rb ?_|refine rh ?_);simp)|refine qf ?_|refine qg ?_
 refine Qe rfl rfl (by simp) (f1q l n ((Xm l).1 h0)) rfl ?_
 rintro _ rfl
 simp
 repeat first|((first|refine ra ?_|refine rb ?_|refine rh ?_);simp)|refine qf ?_|refine qg ?_
 rw [q1t,if_pos h0];exact ⟨rfl,rfl⟩
end Go.Abs
namespace Go.Abs
open Go Go.Proofs
attribute [local irreducible] ckR
def q2k (d:Int) (x:Iv):Option Iv:=
 let a:=if x.lo+d< -1099511627776 then -1099511627776 else x.lo+d
 let b:=if 1099511627776<x.hi+d then 1099511627776 else x.hi+d
 if a≤b then some ⟨a,b⟩ else none
def w28 (l:List Iv) (d:Int):List Iv×Int:=if ckR l=0 then (if d< -2199023255552∨2199023255552<d then ([],0) else (l.filterMap (q2k d),0)) else ([],ckR l)
end Go.Abs
namespace Go.Abs
open Go Go.Proofs
def z2e (ls:List (List Iv)):List Iv:=ls.flatten
attribute [local irreducible] z2e
end Go.Abs
namespace Go.Abs
open Go Go.Proofs Go.RowKit Go.Shelf Go.Lib Go.Sort
def Rt (zs:List Int):List Int:=zs.mergeSort fun x y=>decide (x≤y)
theorem U2 (zs:List Int):(Rt zs).length=zs.length:=by simp [Rt]
theorem Je (H:List AObj) (p:Nat) (zs:List Int) (hp:H[p]? =some (.arr 3 1 (zs.map (AV.int .i64)))) (hl:zs.length≤1000000):
  FC Tryz.prog 176 [.sl p 1 0 zs.length] H (fun r H'=>r= .tup []∧H'=H.set p (.arr 3 1 ((Rt zs).map (AV.int .i64)))):=by
 refine (f0f (xs:=zs.map (AV.int .i64)) (rest:=[]) (Tj Tryz.func176 rfl rfl) (by simp) hp (q2b zs) [] (fun w I m vs a b=>by simpa using a) (fun z1=>z1=(Rt zs).map (AV.int .i64)) ?_ ?_).mono ?_
 ·intro b cap w hH hb hc
  have:=Tryz.slices_Sort_int b 0 cap zs w (C5 hH) hb (by omega)
  refine Calls.mono (by simpa using this) ?_
  rintro e w' ⟨rfl,n,os,rfl⟩
  exact ⟨rfl,_,((Rt zs).map (Value.int .i64)).toArray,n,os,rfl,by simp [U2],q2b _,by rw [Jr];rfl⟩
 ·rintro h
  have z6:zs=[]:=by simpa using h
  subst z6;exact ⟨by simp [Rt],fun w=>by simpa using Tryz.slices_Sort_int_none none 0 w⟩
 ·rintro r H' ⟨rfl,z1,rfl,rfl⟩
  exact ⟨rfl,rfl⟩
theorem Ah (H:List AObj) (p:Nat) (zs:List Int) (hp:H[p]? =some (.arr 3 1 (zs.map (AV.int .i64)))) (hl:zs.length≤1000000) (z6:(Lib.compact zs).length≤zs.length):
  FC Tryz.prog 177 [.sl p 1 0 zs.length] H (fun r H'=>r= .sl p 1 0 (Lib.compact zs).length∧∃G:List Int,H'=H.set p (.arr 3 1 ((Lib.compact zs++G).map (AV.int .i64)))):=by
 refine (k19 (xs:=zs.map (AV.int .i64)) (Tj Tryz.func177 rfl rfl) (by simp) hp (q2b zs) (fun z1 n=>n=(Lib.compact zs).length∧∃G:List Int,z1=(Lib.compact zs++G).map (AV.int .i64)) (fun ys n h=>by rw [h.1];exact z6) ?_ ?_).mono ?_
 ·intro b cap w hH hb hc hm
  have:=Tryz.slices_Compact_int b 0 cap zs w (C5 hH) (by omega) hc
  refine Calls.mono (by simpa using this) ?_
  rintro e w' ⟨rfl,q,rfl⟩
  exact ⟨_,((Lib.compact zs++List.replicate (zs.length - (Lib.compact zs).length) 0).map (Value.int .i64)).toArray,q,_,rfl,⟨rfl,_,rfl⟩,by simp;omega,q2b _,by rw [←Jr]⟩
 ·rintro h
  have z7:zs=[]:=by simpa using h
  subst z7;exact ⟨⟨rfl,[],rfl⟩,fun w=>by simpa using Tryz.slices_Compact_int_empty none 0 w⟩
 ·rintro r H' ⟨z1,n,rfl,⟨rfl,G,rfl⟩,rfl⟩
  exact ⟨rfl,G,rfl⟩
end Go.Abs
namespace Go.Abs
open Go Go.Proofs
attribute [simp] T40
def N3:List Iv→List Int
 |[]=>[]
 |x::r=>x.lo::(x.hi+1)::N3 r
theorem w0l:∀(l:List Iv) (x:Iv),N3 (l++[x])=N3 l++[x.lo,x.hi+1]
 |[],x=>rfl
 |y::r,x=>by rw [List.cons_append,N3,w0l r,N3];rfl
theorem v0x:∀(l:List Iv),(N3 l).length=2 * l.length
 |[]=>rfl
 |x::r=>by rw [N3,List.length_cons,List.length_cons,v0x r,List.length_cons];omega
def u01 (l:List Iv):List Int:=Lib.compact (Rt (N3 l))
def x1k (f:Int→Bool):List Int→List Iv→List Iv
 |c::d::r,acc=>x1k f (d::r) (if f c=true then Wz acc ⟨c,d - 1⟩ else acc)
 |_,acc=>acc
def q00 (op:Bool→Bool→Bool) (a b:List Iv):List Iv:=x1k (fun n=>op (Ot a n) (Ot b n)) (u01 (a++b)) []
theorem Uo (zs:List Int):(Lib.compact zs).length≤zs.length:=by
 unfold Lib.compact Lib.compactUpTo;rw [List.length_map];exact Nat.le_trans (List.length_filter_le _ _) (by simp)
attribute [local irreducible] ckR Ot z2e Wz Rt Lib.compact N3
end Go.Abs
namespace Go.Abs
open Go Go.Proofs
attribute [local irreducible] ckR q00
def u1y (x y:Bool):Bool:=x && !y
def g1f (op:Bool→Bool→Bool) (a b:List Iv):AV:=if y0t a b=0 then y2l (q00 op a b) else .tup [.list [],.i (y0t a b)]
attribute [local irreducible] y0t
attribute [local irreducible] g1f
end Go.Abs
namespace Go.Abs
theorem push_comm (acc:List Iv) (x y:Iv) (h:x.lo=y.lo) (hx:x.lo≤x.hi) (hy:y.lo≤y.hi):Wz (Wz acc x) y=Wz (Wz acc y) x:=by
 have one:∀(u v:Iv),u.lo=v.lo→u.lo≤u.hi→∀ini:List Iv,Wz (ini++[u]) v=ini++[⟨u.lo,if u.hi<v.hi then v.hi else u.hi⟩]:=fun u v z6 hu ini=>by
  rw [W3,if_pos (by omega)]
 rcases List.eq_nil_or_concat acc with rfl|⟨ini,z,rfl⟩
 ·have e1:Wz [] x=[]++[x]:=rfl
  have e2:Wz [] y=[]++[y]:=rfl
  rw [e1,e2,one x y h hx,one y x h.symm hy,h]
  congr 3
  split<;>split<;>omega
 ·rw [List.concat_eq_append]
  by_cases hz:x.lo≤z.hi+1
  ·have z1:∀(w u:Iv),u.lo≤w.hi+1→Wz (ini++[w]) u=ini++[⟨w.lo,if w.hi<u.hi then u.hi else w.hi⟩]:=fun w u h=>by rw [W3,if_pos h]
   rw [z1 z x hz,z1 z y (by omega),z1 _ y (by simp only;split<;>omega),z1 _ x (by simp only;split<;>omega)]
   congr 3
   simp only
   repeat split
   all_goals omega
  ·have ap:∀u:Iv,u.lo=x.lo→Wz (ini++[z]) u=ini++[z]++[u]:=fun u h=>by rw [W3,if_neg (by omega)]
   rw [ap x rfl,ap y h.symm,one x y h hx,one y x h.symm hy,h]
   congr 3
   split<;>split<;>omega
theorem Sw:∀(A:List Iv) (acc:List Iv) (x:Iv) (B:List Iv),(∀y∈A,y.lo=x.lo∧y.lo≤y.hi)→x.lo≤x.hi→Qv acc (A++x::B)=Qv acc (x::(A++B))
 |[],acc,x,B,_,_=>rfl
 |y::A,acc,x,B,h,hx=>by
  have hy:=h y (by simp)
  have ih:=Sw A (Wz acc y) x B (fun z hz=>h z (by simp [hz])) hx
  simp only [Qv,List.cons_append,List.foldl_cons] at ih ⊢;rw [ih,push_comm acc y x hy.1 hy.2 hx]
theorem Fj:∀(l l':List Iv) (acc:List Iv),l.Perm l'→Zz l→Zz l'→(∀y∈l,y.lo≤y.hi)→Qv acc l=Qv acc l'
 |[],l',acc,hp,_,_,_=>by rw [hp.nil_eq]
 |x::l,l',acc,hp,h1,h2,hf=>by
  obtain ⟨A,B,rfl⟩:=List.append_of_mem (hp.mem_iff.1 (List.mem_cons_self))
  have z6:l.Perm (A++B):=(List.perm_cons x).1 (hp.trans List.perm_middle)
  have hA:∀y∈A,y.lo=x.lo∧y.lo≤y.hi:=fun y hy=>by
   have z1:y∈x::l:=hp.mem_iff.2 (by simp [hy])
   have a1:y.lo≤x.lo:=(List.pairwise_append.1 h2).2.2 y hy x (by simp)
   have a2:x.lo≤y.lo:=by
    rcases List.mem_cons.1 z1 with rfl|h
    ·exact Int.le_refl _
    ·exact (List.pairwise_cons.1 h1).1 y h
   exact ⟨by omega,hf y z1⟩
  rw [Sw A acc x B hA (hf x (by simp))]
  have hb:Zz (A++B):=h2.sublist (List.Sublist.append_left (List.sublist_cons_self x B) A)
  exact Fj l (A++B) (Wz acc x) z6 (List.pairwise_cons.1 h1).2 hb (fun y hy=>hf y (by simp [hy]))
end Go.Abs
namespace Go.Abs
theorem d0i (s:List Iv) (x:Iv):(Z9 s x).Perm (x::s):=by
 unfold Z9;refine List.perm_middle.trans ?_;rw [List.take_append_drop]
theorem Hk (s:List Iv) (x:Iv):∀j,j≤s.length→(∀k,Yc s x j≤k→k<j→∀h:k<s.length,x.lo<s[k].lo)∧(∀k,k+1=Yc s x j→∀h:k<s.length,s[k].lo≤x.lo)
 |0,_=>⟨fun k _ h=>by omega,fun k h=>by simp [Yc] at h⟩
 |j+1,hj=>by
  obtain ⟨a,b⟩:=Hk s x j (by omega)
  have hg:g1n s j x=decide (x.lo<s[j].lo):=by simp [g1n,show j<s.length by omega]
  rw [Yc,hg]
  by_cases h:decide (x.lo<s[j].lo)=true
  ·rw [if_pos h];refine ⟨fun k h1 h2 h3=> ?_,b⟩
   by_cases e:k=j
   ·subst e;simpa using h
   ·exact a k h1 (by omega) h3
  ·rw [if_neg h];refine ⟨fun k h1 h2=>by omega,fun k h1 h2=> ?_⟩
   have e:k=j:=by omega
   subst e;simp at h;omega
theorem g0w (s:List Iv) (x:Iv) (hs:Zz s):Zz (Z9 s x):=by
 obtain ⟨a,b⟩:=Hk s x s.length (Nat.le_refl _)
 have hq:=Hd s x s.length
 unfold Z9;generalize Yc s x s.length=q at a b hq
 have z6:∀i j,i<j→∀hi:i<s.length,∀hj:j<s.length,s[i].lo≤s[j].lo:=fun i j h hi hj=>List.pairwise_iff_getElem.1 hs i j hi hj h
 have z7:∀y∈s.take q,y.lo≤x.lo:=fun y hy=>by
  obtain ⟨i,hi,rfl⟩:=List.getElem_of_mem hy
  have za:i<q:=by rw [List.length_take] at hi;omega
  rw [List.getElem_take]
  have h1:=b (q - 1) (by omega) (by omega)
  by_cases e:i=q - 1
  ·subst e;exact h1
  ·have:=z6 i (q - 1) (by omega) (by omega) (by omega);omega
 have z8:∀y∈s.drop q,x.lo≤y.lo:=fun y hy=>by
  obtain ⟨i,hi,rfl⟩:=List.getElem_of_mem hy
  rw [List.length_drop] at hi;rw [List.getElem_drop]
  have:=a (q+i) (by omega) (by omega) (by omega)
  omega
 have z1:=hs
 unfold Zz at z1 ⊢;rw [←List.take_append_drop q s,List.pairwise_append] at z1
 obtain ⟨p1,p2,p3⟩:=z1
 refine List.pairwise_append.2 ⟨p1,List.pairwise_cons.2 ⟨z8,p2⟩,fun y hy z hz=> ?_⟩
 rcases List.mem_cons.1 hz with rfl|h
 ·exact z7 y hy
 ·exact p3 y hy z h
theorem Ge:∀(l acc:List Iv),Zz acc→(l.foldl Z9 acc).Perm (acc++l)∧Zz (l.foldl Z9 acc)
 |[],acc,h=>⟨by simp,h⟩
 |x::r,acc,h=>by
  obtain ⟨a,b⟩:=Ge r (Z9 acc x) (g0w acc x h)
  refine ⟨a.trans ?_,b⟩;exact ((d0i acc x).append_right r).trans List.perm_middle.symm
theorem I7 (l:List Iv):(Em l).Perm l∧Zz (Em l):=by
 have:=Ge l [] .nil
 simpa [Em] using this
end Go.Abs
namespace Go.Abs
def M (l:List Iv) (n:Int):Prop:=∃x∈l,x.lo≤n∧n≤x.hi
def Sep (l:List Iv):Prop:=(∀x∈l,x.lo≤x.hi)∧l.Pairwise (fun x y=>x.hi+2≤y.lo)
theorem Bq (n:Int):M [] n↔False:=by simp [M]
theorem Ef (x:Iv) (l:List Iv) (n:Int):M (x::l) n↔(x.lo≤n∧n≤x.hi)∨M l n:=by simp [M]
theorem Zv (a b:List Iv) (n:Int):M (a++b) n↔M a n∨M b n:=by simp [M,or_and_right,exists_or]
theorem Nq (l:List Iv) (n:Int):Ot l n=true↔M l n:=by simp [Ot,M]
theorem Sep.tail {x:Iv} {l:List Iv} (h:Sep (x::l)):Sep l:=⟨fun y hy=>h.1 y (by simp [hy]),(List.pairwise_cons.1 h.2).2⟩
theorem Sep.low {x:Iv} {l:List Iv} (h:Sep (x::l)) {n:Int} (hm:M l n):x.hi+2≤n:=by
 obtain ⟨y,hy,h1,h2⟩:=hm
 have:=(List.pairwise_cons.1 h.2).1 y hy
 omega
theorem Sep.lowc {x:Iv} {l:List Iv} (h:Sep (x::l)) {n:Int} (hm:M (x::l) n):x.lo≤n:=by
 rcases (Ef ..).1 hm with h1|h1
 ·exact h1.1
 ·have:=h.low h1
  have:=h.1 x (by simp)
  omega
theorem j08:∀(a b:List Iv),Sep a→Sep b→(∀n,M a n↔M b n)→a=b
 |[],[],_,_,_=>rfl
 |[],y::b,_,hb,h=>by
  have:=(h y.lo).2 ((Ef ..).2 (.inl ⟨Int.le_refl _,hb.1 y (by simp)⟩))
  exact absurd this (by simp [M])
 |x::a,[],ha,_,h=>by
  have:=(h x.lo).1 ((Ef ..).2 (.inl ⟨Int.le_refl _,ha.1 x (by simp)⟩))
  exact absurd this (by simp [M])
 |x::a,y::b,ha,hb,h=>by
  have hx:=ha.1 x (by simp)
  have hy:=hb.1 y (by simp)
  have e1:x.lo=y.lo:=by
   have h1:=hb.lowc ((h x.lo).1 ((Ef ..).2 (.inl ⟨Int.le_refl _,hx⟩)))
   have h2:=ha.lowc ((h y.lo).2 ((Ef ..).2 (.inl ⟨Int.le_refl _,hy⟩)))
   omega
  have e2:x.hi=y.hi:=by
   rcases Int.lt_trichotomy x.hi y.hi with hlt|heq|hgt
   ·rcases (Ef ..).1 ((h (x.hi+1)).2 ((Ef ..).2 (.inl ⟨by omega,by omega⟩))) with h1|h1
    ·omega
    ·have:=ha.low h1
     omega
   ·exact heq
   ·rcases (Ef ..).1 ((h (y.hi+1)).1 ((Ef ..).2 (.inl ⟨by omega,by omega⟩))) with h1|h1
    ·omega
    ·have:=hb.low h1
     omega
  have e3:x=y:=by cases x;cases y;simp_all
  subst e3;rw [j08 a b ha.tail hb.tail fun n=>⟨fun hm=> ?_,fun hm=> ?_⟩]
  ·have h1:=ha.low hm
   rcases (Ef ..).1 ((h n).1 ((Ef ..).2 (.inr hm))) with h2|h2
   ·omega
   ·exact h2
  ·have h1:=hb.low hm
   rcases (Ef ..).1 ((h n).2 ((Ef ..).2 (.inr hm))) with h2|h2
   ·omega
   ·exact h2
theorem Fo {l:List Iv} (h:CanonL l):Sep l:=
 ⟨fun x hx=>(Vc (h.one x hx)).2,List.pairwise_iff_getElem.2 fun _ _ hi hj z1=>I8 h z1 hj hi⟩
theorem Ln {l:List Iv} (h:CanonL l):∀x∈l,Us x:=fun x hx=>(Vc (h.one x hx)).1
theorem j1d {l:List Iv} (h:CanonL l) {n:Int} (hm:M l n): -1099511627776≤n∧n≤1099511627776:=by
 obtain ⟨x,hx,h1,h2⟩:=hm
 have h3:=Ln h x hx
 have h4:=(W5 _).1 h3.1
 have h5:=(W5 _).1 h3.2
 omega
theorem Fg {l:List Iv} (h:Sep l) (hi:∀x∈l,Us x) (hl:l.length≤256):CanonL l:=
 ⟨hl,fun y hy=>by
  have h1:=hi y hy
  have h2:=h.1 y hy
  have h4:=h1.1
  have h5:=h1.2
  simp [Sn,h4,h5];omega,fun j hj=>List.pairwise_iff_getElem.1 h.2 j (j+1) (by omega) hj (by omega)⟩
theorem w1l (acc:List Iv) (x:Iv) (ha:Sep acc) (hx:x.lo≤x.hi) (hle:∀y∈acc,y.lo≤x.lo):
  Sep (Wz acc x)∧(∀n,M (Wz acc x) n↔M acc n∨(x.lo≤n∧n≤x.hi))∧(∀z,x.lo≤z→∀y∈Wz acc x,y.lo≤z):=by
 rcases List.eq_nil_or_concat acc with rfl|⟨ini,y,rfl⟩
 ·have e:Wz [] x=[x]:=rfl
  rw [e];exact ⟨⟨fun y hy=>by simp at hy;subst hy;exact hx,by simp⟩,fun n=>by simp [M],fun z hz y hy=>by simp at hy;subst hy;exact hz⟩
 ·rw [List.concat_eq_append] at ha hle ⊢;rw [W3]
  have hy:=ha.1 y (by simp)
  have z1:=hle y (by simp)
  obtain ⟨p1,p2,p3⟩:=List.pairwise_append.1 ha.2
  split
  ·rename_i hj
   refine ⟨⟨fun z hz=> ?_,List.pairwise_append.2 ⟨p1,by simp,fun u hu v hv=> ?_⟩⟩,fun n=> ?_,fun z hz u hu=> ?_⟩
   ·rcases List.mem_append.1 hz with h|h
    ·exact ha.1 z (by simp [h])
    ·simp at h;subst h;simp only;split<;>omega
   ·simp at hv;subst hv;exact p3 u hu y (by simp)
   ·rw [Zv,Zv,Ef,Ef,Bq];simp only [or_false]
    by_cases hm:M ini n
    ·simp [hm]
    ·simp only [hm,false_or];split<;>omega
   ·rcases List.mem_append.1 hu with h|h
    ·have:=hle u (by simp [h]);omega
    ·simp at h;subst h;simp only;omega
  ·rename_i hj
   refine ⟨⟨fun z hz=> ?_,List.pairwise_append.2 ⟨ha.2,by simp,fun u hu v hv=> ?_⟩⟩,fun n=>by rw [Zv,Ef,Bq];simp,fun z hz u hu=> ?_⟩
   ·rcases List.mem_append.1 hz with h|h
    ·exact ha.1 z h
    ·simp at h;subst h;exact hx
   ·simp at hv;subst hv
    rcases List.mem_append.1 hu with h|h
    ·have:=p3 u h y (by simp);omega
    ·simp at h;subst h;omega
   ·rcases List.mem_append.1 hu with h|h
    ·have:=hle u h;omega
    ·simp at h;subst h;exact hz
theorem A6:∀(l acc:List Iv),Sep acc→Zz l→(∀x∈l,x.lo≤x.hi)→(∀y∈acc,∀x∈l,y.lo≤x.lo)→
  Sep (Qv acc l)∧∀n,M (Qv acc l) n↔M acc n∨M l n
 |[],acc,ha,_,_,_=>⟨ha,fun n=>by simp [Qv,M]⟩
 |x::l,acc,ha,hb,hf,hle=>by
  have hp:=w1l acc x ha (hf x (by simp)) (fun y hy=>hle y hy x (by simp))
  have ih:=A6 l (Wz acc x) hp.1 (List.pairwise_cons.1 hb).2 (fun y hy=>hf y (by simp [hy])) (fun y hy z hz=>hp.2.2 z.lo ((List.pairwise_cons.1 hb).1 z hz) y hy)
  refine ⟨ih.1,fun n=> ?_⟩
  have e:Qv acc (x::l)=Qv (Wz acc x) l:=rfl
  rw [e,ih.2 n,hp.2.1 n,Ef,or_assoc]
theorem Lq:Sep []:=⟨by simp,by simp⟩
theorem d1w {a b:List Iv} (h:a.Perm b) (n:Int):M a n↔M b n:=by
 simp only [M];exact ⟨fun ⟨x,hx,h1⟩=>⟨x,h.mem_iff.1 hx,h1⟩,fun ⟨x,hx,h1⟩=>⟨x,h.mem_iff.2 hx,h1⟩⟩
theorem Y8 (l:List Iv) (hf:∀x∈l,x.lo≤x.hi):Sep (Ea l)∧∀n,M (Ea l) n↔M l n:=by
 have hs:=I7 l
 have h:=A6 (Em l) [] Lq hs.2 (fun x hx=>hf x (hs.1.mem_iff.1 hx)) (by simp)
 refine ⟨h.1,fun n=> ?_⟩
 rw [Ea,h.2 n,Bq,false_or,d1w hs.1]
def pieces (f:Int→Bool):List Int→List Iv
 |c::d::r=>(if f c=true then [⟨c,d - 1⟩] else [])++pieces f (d::r)
 |_=>[]
end Go.Abs
namespace Go.Abs
open Go Go.Proofs
attribute [local irreducible] g1f y0t q00
def w2r (x y:Bool):Bool:=x || y
def q22 (x y:Bool):Bool:=x && y
def q2s (a b:List Iv):Bool×Int:=if y0t a b=0 then (decide (q00 u1y a b=[]),0) else (false,y0t a b)
end Go.Abs
namespace Go.Abs
open Go Go.Proofs
def Ez:List Iv→Int→List Iv
 |[],n=>if n≤1099511627776 then [⟨n,1099511627776⟩] else []
 |x::r,n=>(if n<x.lo then [⟨n,x.lo - 1⟩] else [])++Ez r (x.hi+1)
def Wu (l:List Iv):List Iv:=Ez l (-1099511627776)
end Go.Abs
namespace Go.Abs
open Go
theorem k03:∀(l:List Iv) (z:Int),z∈N3 l↔∃x∈l,z=x.lo∨z=x.hi+1
 |[],z=>by simp [N3]
 |y::r,z=>by
  rw [N3,List.mem_cons,List.mem_cons,k03 r z]
  simp [or_assoc]
theorem C4 (zs:List Int) (hs:zs.Pairwise (·≤·)):∀m,m≤zs.length→
  (Lib.compactUpTo zs.toArray m).Pairwise (·<·)∧(∀z,z∈Lib.compactUpTo zs.toArray m↔z∈zs.take m):=by
 intro m
 induction m with
 |zero=>exact fun _=>⟨by simp [Lib.compactUpTo],by simp [Lib.compactUpTo]⟩
 |succ m ih=>
  intro hm
  obtain ⟨h1,h2⟩:=ih (by omega)
  have z1:m<zs.length:=by omega
  have hg:zs.toArray[m]! =zs[m]:=by simp [z1]
  rw [Lib.compactUpTo_succ]
  have ht:zs.take (m+1)=zs.take m++[zs[m]]:=by rw [List.take_succ_eq_append_getElem z1]
  by_cases hk:Lib.keeps zs.toArray m=true
  ·rw [if_pos hk,hg,ht];refine ⟨List.pairwise_append.2 ⟨h1,by simp,fun u hu v hv=> ?_⟩,fun z=>by rw [List.mem_append,List.mem_append,h2]⟩
   simp at hv;subst hv
   obtain ⟨i,hi,rfl⟩:=List.getElem_of_mem ((h2 u).1 hu)
   have za:i<m:=by simp at hi;omega
   rw [List.getElem_take]
   have zb:zs[m]≠zs[m - 1]:=by
    simp [Lib.keeps] at hk
    have z6:m≠0:=by omega
    have hk:=hk.resolve_left z6
    simpa [z1,show m - 1<zs.length by omega] using hk
   have a1:zs[i]≤zs[m - 1]:=by
    rcases Nat.lt_or_ge i (m - 1) with h|h
    ·exact List.pairwise_iff_getElem.1 hs i (m - 1) (by omega) (by omega) h
    ·have:i=m - 1:=by omega
     subst this;exact Int.le_refl _
   have a2:zs[m - 1]≤zs[m]:=List.pairwise_iff_getElem.1 hs (m - 1) m (by omega) (by omega) (by omega)
   omega
  ·rw [if_neg hk,List.append_nil,ht];refine ⟨h1,fun z=> ?_⟩
   rw [h2,List.mem_append];refine ⟨.inl,fun h=>h.elim id fun h=> ?_⟩
   simp at h;subst h;simp only [Lib.keeps,decide_eq_true_eq,not_or] at hk
   have z7:m - 1<zs.length:=by omega
   have z8:zs[m]=zs[m - 1]:=by simpa [z1,z7] using hk.2
   rw [z8];exact List.mem_take_iff_getElem.2 ⟨m - 1,by omega,rfl⟩
theorem k06 (l:List Iv):(u01 l).Pairwise (·<·)∧∀z,z∈u01 l↔∃x∈l,z=x.lo∨z=x.hi+1:=by
 have hs:(Rt (N3 l)).Pairwise (·≤·):=by
  have:=List.pairwise_mergeSort (le:=fun x y:Int=>decide (x≤y)) (fun a b c h1 h2=>by simp at h1 h2 ⊢;omega) (fun a b=>by simp;omega) (N3 l)
  simpa [Rt] using this
 have h:=C4 _ hs _ (Nat.le_refl _)
 refine ⟨h.1,fun z=> ?_⟩
 have h2:=h.2 z
 rw [List.take_length] at h2;rw [u01,Lib.compact,h2,Rt,List.mem_mergeSort,k03]
theorem u0z (l:List Iv) (cs:List Int) (h:∀x∈l,x.lo∈cs∧x.hi+1∈cs) (c n:Int) (hc:c≤n) (hm:∀d∈cs,d≤n→d≤c):Ot l n=Ot l c:=by
 rw [Bool.eq_iff_iff,Nq,Nq];constructor
 ·rintro ⟨x,hx,h1,h2⟩
  have:=hm _ (h x hx).1 h1
  exact ⟨x,hx,this,by omega⟩
 ·rintro ⟨x,hx,h1,h2⟩
  refine ⟨x,hx,by omega,?_⟩
  by_cases hn:x.hi+1≤n
  ·have:=hm _ (h x hx).2 hn;omega
  ·omega
theorem q0v {l:List Iv} (h:Sep l) (hb:∀n,M l n→ -1099511627776≤n∧n≤1099511627776):∀x∈l,Us x:=fun x hx=>
 ⟨(W5 _).2 (hb _ ⟨x,hx,Int.le_refl _,h.1 x hx⟩),(W5 _).2 (hb _ ⟨x,hx,h.1 x hx,Int.le_refl _⟩)⟩
theorem It:∀(l:List Iv) (s:Int),(∀x∈l,x.lo≤x.hi∧x.hi≤1099511627776)→l.Pairwise (fun x y=>x.hi+2≤y.lo)→(∀x∈l,s≤x.lo)→
  Sep (Ez l s)∧(∀n,M (Ez l s) n↔s≤n∧n≤1099511627776∧¬M l n)∧(Ez l s).length≤l.length+1
 |[],s,_,_,_=>by
  rw [Ez];split
  ·exact ⟨⟨fun x hx=>by simp at hx;subst hx;assumption,by simp⟩,fun n=>by rw [Ef,Bq];simp [Bq],by simp⟩
  ·exact ⟨Lq,fun n=>by simp [Bq];omega,by simp⟩
 |x::l,s,hf,hp,hs=>by
  have hx:=hf x (by simp)
  have z7:=hs x (by simp)
  have z1:=(List.pairwise_cons.1 hp).1
  obtain ⟨i1,i2,i3⟩:=It l (x.hi+1) (fun y hy=>hf y (by simp [hy])) (List.pairwise_cons.1 hp).2 (fun y hy=>by have:=z1 y hy;omega)
  have z6:∀n,M l n→x.hi+2≤n:=by
   rintro n ⟨y,hy,h1,h2⟩
   have:=z1 y hy;omega
  rw [Ez];split
  ·refine ⟨⟨fun y hy=> ?_,?_⟩,fun n=> ?_,by simp;omega⟩
   ·rcases List.mem_append.1 hy with h|h
    ·simp at h;subst h;simp only;omega
    ·exact i1.1 y h
   ·refine List.pairwise_append.2 ⟨by simp,i1.2,fun u hu v hv=> ?_⟩
    simp at hu;subst hu
    have:=(i2 v.lo).1 ⟨v,hv,Int.le_refl _,i1.1 v hv⟩
    simp only;omega
   ·rw [Zv,i2,Ef,Bq,Ef]
    by_cases hm:M l n
    ·have:=z6 n hm;simp [hm];omega
    ·simp only [hm,not_false_eq_true,and_true,or_false];omega
  ·refine ⟨⟨fun y hy=>i1.1 y (by simpa using hy),by simpa using i1.2⟩,fun n=> ?_,by simp;omega⟩
   rw [List.nil_append,i2,Ef]
   by_cases hm:M l n
   ·simp [hm]
   ·simp only [hm,not_false_eq_true,and_true,or_false];omega
theorem Ux {l:List Iv} (h:CanonL l):Sep (Wu l)∧(∀n,M (Wu l) n↔(-1099511627776≤n∧n≤1099511627776)∧¬M l n)∧(Wu l).length≤l.length+1:=by
 have hs:=Fo h
 have hi:=Ln h
 have:=It l (-1099511627776) (fun x hx=>⟨hs.1 x hx,((W5 _).1 (hi x hx).2).2⟩) hs.2 (fun x hx=>((W5 _).1 (hi x hx).1).1)
 exact ⟨this.1,fun n=>by rw [Wu,this.2.1,and_assoc],this.2.2⟩
def Oh (x y:Iv):Option Iv:=if (if x.lo<y.lo then y.lo else x.lo)≤(if y.hi<x.hi then y.hi else x.hi) then some ⟨if x.lo<y.lo then y.lo else x.lo,if y.hi<x.hi then y.hi else x.hi⟩ else none
def Eu (a b:List Iv):List Iv:=a.flatMap fun x=>b.filterMap (Oh x)
theorem He {x y z:Iv} (h:Oh x y=some z):z.lo≤z.hi∧∀n,(z.lo≤n∧n≤z.hi)↔(x.lo≤n∧n≤x.hi)∧(y.lo≤n∧n≤y.hi):=by
 unfold Oh at h
 by_cases hle:(if x.lo<y.lo then y.lo else x.lo)≤(if y.hi<x.hi then y.hi else x.hi)
 ·rw [if_pos hle] at h
  cases h
  refine ⟨hle,fun n=> ?_⟩
  simp only;split<;>split<;>omega
 ·rw [if_neg hle] at h
  cases h
theorem d1n {x y:Iv} {n:Int} (h1:x.lo≤n∧n≤x.hi) (h2:y.lo≤n∧n≤y.hi):∃z,Oh x y=some z∧z.lo≤n∧n≤z.hi:=by
 unfold Oh
 have:(if x.lo<y.lo then y.lo else x.lo)≤(if y.hi<x.hi then y.hi else x.hi):=by split<;>split<;>omega
 rw [if_pos this];refine ⟨_,rfl,?_,?_⟩<;>simp only<;>split<;>omega
theorem Ax (a b:List Iv):(∀x∈Eu a b,x.lo≤x.hi)∧∀n,M (Eu a b) n↔M a n∧M b n:=by
 constructor
 ·intro z hz
  obtain ⟨x,_,hz⟩:=List.mem_flatMap.1 hz
  obtain ⟨y,_,h⟩:=List.mem_filterMap.1 hz
  exact (He h).1
 ·intro n;constructor
  ·rintro ⟨z,hz,h1⟩
   obtain ⟨x,hx,hz⟩:=List.mem_flatMap.1 hz
   obtain ⟨y,hy,h⟩:=List.mem_filterMap.1 hz
   have:=((He h).2 n).1 h1
   exact ⟨⟨x,hx,this.1⟩,⟨y,hy,this.2⟩⟩
  ·rintro ⟨⟨x,hx,h1⟩,⟨y,hy,h2⟩⟩
   obtain ⟨z,hz,h3⟩:=d1n h1 h2
   exact ⟨z,List.mem_flatMap.2 ⟨x,hx,List.mem_filterMap.2 ⟨y,hy,hz⟩⟩,h3⟩
def Rg (a b:List Iv):List Iv:=Ea (Eu a b)
theorem Iw (a b:List Iv):Sep (Rg a b)∧∀n,M (Rg a b) n↔M a n∧M b n:=by
 have h:=Y8 (Eu a b) (Ax a b).1
 exact ⟨h.1,fun n=>by rw [Rg,h.2,(Ax a b).2]⟩
end Go.Abs
namespace Go.Abs
open Go
def b2 (b:Bool):Int:=if b=true then 1 else 0
def cnt (p:Int→Bool) (A:Int):Nat→Int
 |0=>0
 |n+1=>cnt p A n+b2 (p (A+n))
def inI (lo hi k:Int):Bool:=decide (lo≤k) && decide (k≤hi)
theorem Nf (lo hi k:Int):inI lo hi k=true↔lo≤k∧k≤hi:=by simp [inI]
theorem w18 (x:Iv) (l:List Iv) (k:Int):Ot (x::l) k=(inI x.lo x.hi k || Ot l k):=by simp [Ot,inI]
end Go.Abs
namespace Go.Abs
open Go
end Go.Abs
namespace Go.Abs
open Go
end Go.Abs
namespace Go.Abs
open Go
def v1n (x y:Iv):Bool:=decide (y.lo<x.lo) && decide (x.lo≤y.hi)
def y0x (x y:Iv):Bool:=decide (x.lo≤y.lo) && decide (y.lo≤x.hi)
theorem f04 (x:Iv):∀(b:List Iv),(b.filterMap (Oh x)).length≤b.countP (v1n x)+b.countP (y0x x)
 |[]=>by simp
 |y::b=>by
  have ih:=f04 x b
  rw [List.countP_cons,List.countP_cons]
  cases h:Oh x y with
  |none=>rw [List.filterMap_cons_none h];omega
  |some z=>
   rw [List.filterMap_cons_some h,List.length_cons]
   have hz:=He h
   have hm:=(hz.2 z.lo).1 ⟨Int.le_refl _,hz.1⟩
   have:v1n x y=true∨y0x x y=true:=by simp [v1n,y0x];omega
   rcases this with h'|h'<;>rw [if_pos h']<;>omega
theorem k0n (x:Iv):∀(b:List Iv),Sep b→b.countP (v1n x)≤1
 |[],_=>by simp
 |y::b,hs=>by
  rw [List.countP_cons];split
  ·rename_i h
   simp [v1n] at h
   have:b.countP (v1n x)=0:=List.countP_eq_zero.2 fun z hz=>by
    have:=(List.pairwise_cons.1 hs.2).1 z hz
    simp [v1n];omega
   omega
  ·have:=k0n x b hs.tail;omega
theorem q0n (y:Iv):∀(a:List Iv),Sep a→a.countP (fun x=>y0x x y)≤1
 |[],_=>by simp
 |x::a,hs=>by
  rw [List.countP_cons];split
  ·rename_i h
   simp [y0x] at h
   have:a.countP (fun x=>y0x x y)=0:=List.countP_eq_zero.2 fun z hz=>by
    have:=(List.pairwise_cons.1 hs.2).1 z hz
    simp [y0x];omega
   omega
  ·have:=q0n y a hs.tail;omega
theorem q0b (a:List Iv) (ha:Sep a):∀(b:List Iv),(a.map fun x=>b.countP (y0x x)).sum≤b.length
 |[]=>by
  have:∀a:List Iv,(a.map fun x=>([]:List Iv).countP (y0x x)).sum=0:=fun a=>by
   induction a with
   |nil=>rfl
   |cons x a ih=>simpa using ih
  rw [this];simp
 |y::b=>by
  have ih:=q0b a ha b
  have h1:=q0n y a ha
  have:∀a:List Iv,(a.map fun x=>(y::b).countP (y0x x)).sum=(a.map fun x=>b.countP (y0x x)).sum+a.countP (fun x=>y0x x y):=fun a=>by
   induction a with
   |nil=>rfl
   |cons x a ih=>
    rw [List.map_cons,List.sum_cons,ih,List.map_cons,List.sum_cons,List.countP_cons,List.countP_cons];omega
  rw [this,List.length_cons];omega
theorem Vq (a b:List Iv) (ha:Sep a) (hb:Sep b):(Eu a b).length≤a.length+b.length:=by
 have h:∀a:List Iv,(Eu a b).length≤a.length+(a.map fun x=>b.countP (y0x x)).sum:=fun a=>by
  induction a with
  |nil=>simp [Eu]
  |cons x a ih=>
   have e:Eu (x::a) b=b.filterMap (Oh x)++Eu a b:=rfl
   have h1:=f04 x b
   have h2:=k0n x b hb
   rw [e,List.length_append,List.map_cons,List.sum_cons,List.length_cons];omega
 have h1:=h a
 have h2:=q0b a ha b
 omega
theorem z13 {a b:List Iv} (h:(∀x∈a,Us x)∨(∀y∈b,Us y)):∀z∈Eu a b,Us z:=by
 intro z hz
 have hp:=Ax a b
 have hf:=hp.1 z hz
 have m1:=(hp.2 z.lo).1 ⟨z,hz,Int.le_refl _,hf⟩
 have m2:=(hp.2 z.hi).1 ⟨z,hz,hf,Int.le_refl _⟩
 have key:∀l:List Iv,(∀x∈l,Us x)→∀n,M l n→inB n=true:=fun l hl n ⟨x,hx,h1,h2⟩=>by
  have h3:=(W5 _).1 (hl x hx).1
  have h4:=(W5 _).1 (hl x hx).2
  exact (W5 _).2 (by omega)
 rcases h with h|h
 ·exact ⟨key a h _ m1.1,key a h _ m2.1⟩
 ·exact ⟨key b h _ m1.2,key b h _ m2.2⟩
end Go.Abs
namespace Go.Abs
abbrev Prd:=List (List Iv)
def PM (p:Prd) (t:Nat) (n:Int):Prop:=∃s,p[t]? =some s∧M s n
def inR (n:Int):Prop:= -1099511627776≤n∧n≤1099511627776
def PWf (T:Nat) (p:Prd):Prop:=p.length=T∧∀s∈p,Sep s∧∀n,M s n→inR n
theorem PWf.lt {T:Nat} {p:Prd} (h:PWf T p) {t:Nat} {n:Int} (hm:PM p t n):t<T∧inR n:=by
 obtain ⟨s,hs,hn⟩:=hm
 exact ⟨by rw [←h.1];exact (List.getElem?_eq_some_iff.1 hs).1,(h.2 s (List.mem_of_getElem? hs)).2 n hn⟩
theorem O8 {T:Nat} {p q:Prd} (hp:PWf T p) (hq:PWf T q) (h:∀t n,PM p t n↔PM q t n):p=q:=by
 apply List.ext_getElem (by rw [hp.1,hq.1])
 intro i h1 h2;refine j08 _ _ (hp.2 _ (List.getElem_mem h1)).1 (hq.2 _ (List.getElem_mem h2)).1 fun n=> ?_
 have:=h i n
 unfold PM at this;rw [List.getElem?_eq_getElem h1,List.getElem?_eq_getElem h2] at this
 simpa using this
def Uq (t:Nat) (n:Int) (t':Nat) (n':Int):Prop:=t<t'∨t=t'∧n<n'
theorem Uq.irr {t:Nat} {n:Int} (h:Uq t n t n):False:=by unfold Uq at h;omega
theorem Uq.trans {a b c:Nat} {x y z:Int} (h:Uq a x b y) (k:Uq b y c z):Uq a x c z:=by unfold Uq at *;omega
def d1g (l:List Prd) (t:Nat) (n:Int) (t':Nat) (n':Int):Prop:=∀p∈l,PM p t n↔PM p t' n'
structure Prts (T:Nat) (l L:List Prd):Prop where
 wf:∀p∈L,PWf T p
 ne:∀p∈L,∃t n,PM p t n
 all:∀t n,t<T→inR n→∃p∈L,PM p t n
 cls:∀p∈L,∀t n,PM p t n→∀t' n',PM p t' n'↔t'<T∧inR n'∧d1g l t n t' n'
def y0i (p q:Prd):Prop:=∃t n,PM p t n∧∀t' n',PM q t' n'→Uq t n t' n'
theorem y0i.irr {p:Prd} (h:y0i p p):False:=by
 obtain ⟨t,n,h1,h2⟩:=h
 exact (h2 t n h1).irr
theorem y0i.asymm {p q:Prd} (h:y0i p q) (k:y0i q p):False:=by
 obtain ⟨t,n,h1,h2⟩:=h
 obtain ⟨t',n',k1,k2⟩:=k
 exact ((h2 t' n' k1).trans (k2 t n h1)).irr
theorem Prts.same {T:Nat} {l L L':List Prd} (h:Prts T l L) (h':Prts T l L') {p:Prd} (hp:p∈L):p∈L':=by
 obtain ⟨t,n,hm⟩:=h.ne p hp
 obtain ⟨ht,hn⟩:=(h.wf p hp).lt hm
 obtain ⟨q,hq,z1⟩:=h'.all t n ht hn
 have:p=q:=O8 (h.wf p hp) (h'.wf q hq) fun t' n'=>by rw [h.cls p hp t n hm,h'.cls q hq t n z1]
 rw [this];exact hq
theorem Prts.unique {T:Nat} {l L L':List Prd} (h:Prts T l L) (h':Prts T l L') (s:L.Pairwise y0i) (s':L'.Pairwise y0i):L=L':=by
 have z1:∀ {X:List Prd},X.Pairwise y0i→X.Nodup:=fun hx=>hx.imp (fun h e=>by subst e;exact h.irr)
 refine List.Perm.eq_of_pairwise (le:=y0i) (fun a b _ _ h1 h2=>(h1.asymm h2).elim) s s' ?_
 exact (List.perm_ext_iff_of_nodup (z1 s) (z1 s')).2 fun p=>⟨h.same h',h'.same h⟩
theorem Prts.disj {T:Nat} {l L:List Prd} (h:Prts T l L) {p q:Prd} (hp:p∈L) (hq:q∈L) {t:Nat} {n:Int} (h1:PM p t n) (h2:PM q t n):p=q:=
 O8 (h.wf p hp) (h.wf q hq) fun t' n'=>by rw [h.cls p hp t n h1,h.cls q hq t n h2]
theorem Prts.perm {T:Nat} {l L L':List Prd} (h:Prts T l L) (e:L.Perm L'):Prts T l L':=
 ⟨fun p hp=>h.wf p (e.mem_iff.2 hp),fun p hp=>h.ne p (e.mem_iff.2 hp),fun t n a b=>by obtain ⟨p,hp,hm⟩:=h.all t n a b;exact ⟨p,e.mem_iff.1 hp,hm⟩,fun p hp=>h.cls p (e.mem_iff.2 hp)⟩
def Wy (T:Nat):Prd:=List.replicate T (Wu [])
def Wa (c p:Prd):Prd:=List.zipWith Rg c p
def W2 (p:Prd):Prd:=p.map Wu
def We (p:Prd):Bool:=p.all (·.isEmpty)
def Eg (p:Prd) (L:List Prd):List Prd:=L.flatMap fun c=>(if We (Wa c p) then [] else [Wa c p])++(if We (Wa c (W2 p)) then [] else [Wa c (W2 p)])
def Ed (T:Nat) (l:List Prd):List Prd:=l.foldl (fun L p=>Eg p L) [Wy T]
def PCk (T:Nat) (p:Prd):Prop:=p.length=T∧∀s∈p,CanonL s
theorem PCk.wf {T:Nat} {p:Prd} (h:PCk T p):PWf T p:=⟨h.1,fun s hs=>⟨Fo (h.2 s hs),fun n hn=>j1d (h.2 s hs) hn⟩⟩
theorem Pl:CanonL []:=⟨by simp,by simp,fun j h=>by simp at h⟩
theorem P8 (T t:Nat) (n:Int):PM (Wy T) t n↔t<T∧inR n:=by
 unfold PM Wy
 have hg:=(Ux Pl).2.1 n
 constructor
 ·rintro ⟨s,hs,hm⟩
  rw [List.getElem?_replicate] at hs;split at hs
  ·cases hs;exact ⟨by assumption,(hg.1 hm).1⟩
  ·cases hs
 ·rintro ⟨h1,h2⟩
  exact ⟨Wu [],by rw [List.getElem?_replicate,if_pos h1],hg.2 ⟨h2,by simp [M]⟩⟩
theorem P2 (T:Nat):PWf T (Wy T):=⟨by simp [Wy],fun s hs=>by
 obtain rfl:=List.eq_of_mem_replicate hs
 exact ⟨(Ux Pl).1,fun n hn=>(((Ux Pl).2.1 n).1 hn).1⟩⟩
theorem Ec {T:Nat} {c p:Prd} (hc:c.length=T) (hp:p.length=T) (t:Nat) (n:Int):PM (Wa c p) t n↔PM c t n∧PM p t n:=by
 unfold PM Wa;constructor
 ·rintro ⟨s,hs,hm⟩
  rw [List.getElem?_zipWith] at hs
  cases h1:c[t]? with
  |none=>rw [h1] at hs;simp at hs
  |some a=>
   cases h2:p[t]? with
   |none=>rw [h1,h2] at hs;simp at hs
   |some b=>
    rw [h1,h2] at hs;simp at hs;subst hs
    have:=((Iw a b).2 n).1 hm
    exact ⟨⟨a,rfl,this.1⟩,⟨b,rfl,this.2⟩⟩
 ·rintro ⟨⟨a,h1,m1⟩,⟨b,h2,m2⟩⟩
  exact ⟨Rg a b,by rw [List.getElem?_zipWith,h1,h2],((Iw a b).2 n).2 ⟨m1,m2⟩⟩
theorem Td {T:Nat} {c p:Prd} (hc:PWf T c) (hp:p.length=T):PWf T (Wa c p):=by
 refine ⟨by simp [Wa,hc.1,hp],fun s hs=> ?_⟩
 obtain ⟨i,hi⟩:=List.mem_iff_getElem?.1 hs
 unfold Wa at hi;rw [List.getElem?_zipWith] at hi
 cases h1:c[i]? with
 |none=>rw [h1] at hi;simp at hi
 |some a=>
  cases h2:p[i]? with
  |none=>rw [h1,h2] at hi;simp at hi
  |some b=>
   rw [h1,h2] at hi;simp at hi;subst hi;exact ⟨(Iw a b).1,fun n hn=>(hc.2 a (List.mem_of_getElem? h1)).2 n (((Iw a b).2 n).1 hn).1⟩
theorem L1 {T:Nat} {p:Prd} (hp:PCk T p) (t:Nat) (n:Int):PM (W2 p) t n↔(t<T∧inR n)∧¬PM p t n:=by
 unfold PM W2;rw [List.getElem?_map];constructor
 ·rintro ⟨s,hs,hm⟩
  obtain ⟨a,ha,rfl⟩:=Option.map_eq_some_iff.1 hs
  have hg:=((Ux (hp.2 a (List.mem_of_getElem? ha))).2.1 n).1 hm
  refine ⟨⟨by rw [←hp.1];exact (List.getElem?_eq_some_iff.1 ha).1,hg.1⟩,?_⟩
  rintro ⟨b,hb,z1⟩
  rw [ha] at hb;cases hb
  exact hg.2 z1
 ·rintro ⟨⟨h1,h2⟩,h3⟩
  have hl:t<p.length:=by rw [hp.1];exact h1
  refine ⟨Wu p[t],by rw [List.getElem?_eq_getElem hl];rfl,((Ux (hp.2 _ (List.getElem_mem hl))).2.1 n).2 ⟨h2,fun hm=>h3 ⟨_,List.getElem?_eq_getElem hl,hm⟩⟩⟩
theorem E9 {T:Nat} {p:Prd} (h:PWf T p):We p=true↔∀t n,¬PM p t n:=by
 unfold We;rw [List.all_eq_true];constructor
 ·rintro hv t n ⟨s,hs,hm⟩
  have:=hv s (List.mem_of_getElem? hs)
  rw [List.isEmpty_iff] at this;subst this
  simp [M] at hm
 ·intro hv s hs
  obtain ⟨i,hi⟩:=List.mem_iff_getElem?.1 hs
  cases s with
  |nil=>rfl
  |cons x s=>exact absurd ⟨_,hi,(Ef ..).2 (.inl ⟨Int.le_refl _,(h.2 _ hs).1.1 x (by simp)⟩)⟩ (hv i x.lo)
theorem Ju {T:Nat} {l L:List Prd} {p:Prd} (h:Prts T l L) (hp:PCk T p):Prts T (l++[p]) (Eg p L):=by
 have z6:(W2 p).length=T:=by simp [W2,hp.1]
 have z1:∀q,q∈Eg p L↔∃c∈L,((q=Wa c p)∨(q=Wa c (W2 p)))∧We q=false:=by
  intro q;unfold Eg;rw [List.mem_flatMap];constructor
  ·rintro ⟨c,hc,hq⟩
   refine ⟨c,hc,?_⟩
   rcases List.mem_append.1 hq with hq|hq
   ·split at hq
    ·cases hq
    ·rename_i hv;obtain rfl:=List.mem_singleton.1 hq;exact ⟨.inl rfl,by simpa using hv⟩
   ·split at hq
    ·cases hq
    ·rename_i hv;obtain rfl:=List.mem_singleton.1 hq;exact ⟨.inr rfl,by simpa using hv⟩
  ·rintro ⟨c,hc,hq,hv⟩
   refine ⟨c,hc,List.mem_append.2 ?_⟩
   rcases hq with rfl|rfl
   ·left;rw [if_neg (by rw [hv];decide)];simp
   ·right;rw [if_neg (by rw [hv];decide)];simp
 have z7:∀q∈Eg p L,PWf T q:=fun q hq=>by
  obtain ⟨c,hc,rfl|rfl,_⟩:=(z1 q).1 hq
  ·exact Td (h.wf c hc) hp.1
  ·exact Td (h.wf c hc) z6
 have zb:∀q∈Eg p L,∃t n,PM q t n:=fun q hq=>by
  obtain ⟨c,hc,_,hv⟩:=(z1 q).1 hq
  by_cases hx:∃t n,PM q t n
  ·exact hx
  ·exfalso
   have:We q=true:=(E9 (z7 q hq)).2 fun t n hm=>hx ⟨t,n,hm⟩
   rw [this] at hv;cases hv
 refine ⟨z7,zb,fun t n ht hn=> ?_,fun q hq t n hm t' n'=> ?_⟩
 ·obtain ⟨c,hc,z8⟩:=h.all t n ht hn
  have hv:∀q,(q=Wa c p∨q=Wa c (W2 p))→PM q t n→q∈Eg p L:=fun q hq hm=>(z1 q).2 ⟨c,hc,hq,by
   have hw:PWf T q:=by
    rcases hq with rfl|rfl
    ·exact Td (h.wf c hc) hp.1
    ·exact Td (h.wf c hc) z6
   cases hvq:We q with
   |false=>rfl
   |true=>exact absurd hm ((E9 hw).1 hvq t n)⟩
  by_cases za:PM p t n
  ·have:=(Ec (h.wf c hc).1 hp.1 t n).2 ⟨z8,za⟩
   exact ⟨_,hv _ (.inl rfl) this,this⟩
  ·have:=(Ec (h.wf c hc).1 z6 t n).2 ⟨z8,(L1 hp t n).2 ⟨⟨ht,hn⟩,za⟩⟩
   exact ⟨_,hv _ (.inr rfl) this,this⟩
 ·obtain ⟨c,hc,zc,_⟩:=(z1 q).1 hq
  have zd:d1g (l++[p]) t n t' n'↔d1g l t n t' n'∧(PM p t n↔PM p t' n'):=by
   constructor
   ·exact fun hs=>⟨fun r hr=>hs r (by simp [hr]),hs p (by simp)⟩
   ·rintro ⟨h1,h2⟩ r hr
    rcases List.mem_append.1 hr with hr|hr
    ·exact h1 r hr
    ·obtain rfl:=List.mem_singleton.1 hr;exact h2
  rw [zd]
  rcases zc with rfl|rfl
  ·obtain ⟨m1,m2⟩:=(Ec (h.wf c hc).1 hp.1 t n).1 hm
   rw [Ec (h.wf c hc).1 hp.1,h.cls c hc t n m1];constructor
   ·rintro ⟨⟨h1,h2,h3⟩,h4⟩;exact ⟨h1,h2,h3,fun _=>h4,fun _=>m2⟩
   ·rintro ⟨h1,h2,h3,h4⟩;exact ⟨⟨h1,h2,h3⟩,h4.1 m2⟩
  ·obtain ⟨m1,m2⟩:=(Ec (h.wf c hc).1 z6 t n).1 hm
   have m3:=((L1 hp t n).1 m2).2
   rw [Ec (h.wf c hc).1 z6,h.cls c hc t n m1,L1 hp];constructor
   ·rintro ⟨⟨h1,h2,h3⟩,h4⟩;exact ⟨h1,h2,h3,fun h=>absurd h m3,fun h=>absurd h h4.2⟩
   ·rintro ⟨h1,h2,h3,h4⟩;exact ⟨⟨h1,h2,h3⟩,⟨h1,h2⟩,fun h=>m3 (h4.2 h)⟩
theorem Kp (T:Nat) (hT:0<T):Prts T [] [Wy T]:=by
 refine ⟨fun p hp=> ?_,fun p hp=> ?_,fun t n ht hn=> ?_,fun p hp t n hm t' n'=> ?_⟩
 ·obtain rfl:=List.mem_singleton.1 hp;exact P2 T
 ·obtain rfl:=List.mem_singleton.1 hp;exact ⟨0,0,(P8 T 0 0).2 ⟨hT,by unfold inR;omega⟩⟩
 ·exact ⟨_,List.mem_singleton_self _,(P8 T t n).2 ⟨ht,hn⟩⟩
 ·obtain rfl:=List.mem_singleton.1 hp
  rw [P8];exact ⟨fun h=>⟨h.1,h.2,fun r hr=>by cases hr⟩,fun h=>⟨h.1,h.2.1⟩⟩
theorem Rh {T:Nat} (hT:0<T) {l:List Prd} (hl:∀p∈l,PCk T p):Prts T l (Ed T l):=by
 have key:∀(r d L:List Prd),Prts T d L→(∀p∈r,PCk T p)→Prts T (d++r) (r.foldl (fun L p=>Eg p L) L):=by
  intro r
  induction r with
  |nil=>intro d L h _;simpa using h
  |cons p r ih=>
   intro d L h hr;rw [List.foldl_cons]
   have:=ih (d++[p]) (Eg p L) (Ju h (hr p (by simp))) (fun q hq=>hr q (by simp [hq]))
   simpa using this
 have:=key l [] [Wy T] (Kp T hT) hl
 simpa [Ed] using this
end Go.Abs
namespace Go.Abs
def Qw:Prd→Nat→Nat×Int
 |[],_=>(0,0)
 |(x::_)::_,i=>(i,x.lo)
 |[]::p,i=>Qw p (i+1)
def K0 (a b:Nat×Int):Bool:=decide (a.1<b.1) || (decide (a.1=b.1) && decide (a.2<b.2))
theorem Rp (a b:Nat×Int):K0 a b=true↔Uq a.1 a.2 b.1 b.2:=by simp [K0,Uq]
theorem Xb:∀(p:Prd) (i:Nat),(∀s∈p,Sep s)→(∃s∈p,s≠[])→∃t x r,p[t]? =some (x::r)∧Qw p i=(i+t,x.lo)∧∀j,j<t→p[j]? =some []
 |[],_,_,⟨s,hs,_⟩=>by cases hs
 |(x::r)::p,i,_,_=>⟨0,x,r,rfl,rfl,fun j hj=>by omega⟩
 |[]::p,i,h,⟨s,hs,hn⟩=>by
  have z1:s∈p:=by
   rcases List.mem_cons.1 hs with rfl|hs
   ·exact absurd rfl hn
   ·exact hs
  obtain ⟨t,x,r,h1,h2,h3⟩:=Xb p (i+1) (fun s hs=>h s (by simp [hs])) ⟨s,z1,hn⟩
  refine ⟨t+1,x,r,by simpa using h1,by rw [Qw,h2];congr 1;omega,fun j hj=> ?_⟩
  cases j with
  |zero=>rfl
  |succ j=>simpa using h3 j (by omega)
theorem Wv {T:Nat} {p:Prd} (h:PWf T p) (hn:∃t n,PM p t n):PM p (Qw p 0).1 (Qw p 0).2∧∀t n,PM p t n→((Qw p 0).1=t∧(Qw p 0).2=n)∨Uq (Qw p 0).1 (Qw p 0).2 t n:=by
 obtain ⟨t0,n0,s0,z1,m0⟩:=hn
 have z6:s0≠[]:=fun e=>by subst e;simp [M] at m0
 obtain ⟨t,x,r,h1,h2,h3⟩:=Xb p 0 (fun s hs=>(h.2 s hs).1) ⟨s0,List.mem_of_getElem? z1,z6⟩
 rw [Nat.zero_add] at h2;rw [h2]
 have hx:=(h.2 _ (List.mem_of_getElem? h1)).1
 refine ⟨⟨_,h1,(Ef ..).2 (.inl ⟨Int.le_refl _,hx.1 x (by simp)⟩)⟩,fun t' n' hm=> ?_⟩
 obtain ⟨s,hs,hm⟩:=hm
 simp only
 rcases Nat.lt_trichotomy t' t with hlt|rfl|hgt
 ·rw [h3 t' hlt] at hs;cases hs;simp [M] at hm
 ·rw [h1] at hs;cases hs
  have:=hx.lowc hm
  unfold Uq;omega
 ·exact .inr (.inl hgt)
theorem Za {T:Nat} {p q:Prd} (hp:PWf T p) (z1:∃t n,PM p t n) (hq:PWf T q) (z6:∃t n,PM q t n) (h:Uq (Qw p 0).1 (Qw p 0).2 (Qw q 0).1 (Qw q 0).2):y0i p q:=
 ⟨_,_,(Wv hp z1).1,fun t n hm=>by
  rcases (Wv hq z6).2 t n hm with ⟨e1,e2⟩|h2
  ·rw [←e1,←e2];exact h
  ·exact h.trans h2⟩
def Z7 (s:List Prd) (x:Prd):Nat→Nat
 |0=>0
 |j+1=>match s[j]? with
  |some y=>if K0 (Qw x 0) (Qw y 0)=true then Z7 s x j else j+1
  |none=>j+1
def L3 (s:List Prd) (x:Prd):List Prd:=s.take (Z7 s x s.length)++x::s.drop (Z7 s x s.length)
def Zq (L:List Prd):List Prd:=L.foldl L3 []
theorem X4 (s:List Prd) (x:Prd):∀j,j≤s.length→Z7 s x j≤j∧(∀i,Z7 s x j≤i→i<j→∀h:i<s.length,K0 (Qw x 0) (Qw s[i] 0)=true)∧(∀i,i+1=Z7 s x j→∀h:i<s.length,K0 (Qw x 0) (Qw s[i] 0)=false)
 |0,_=>⟨Nat.le_refl _,fun i _ h=>by omega,fun i h=>by simp [Z7] at h⟩
 |j+1,hj=>by
  have z1:j<s.length:=by omega
  rw [Z7,List.getElem?_eq_getElem z1];simp only
  by_cases hb:K0 (Qw x 0) (Qw s[j] 0)=true
  ·rw [if_pos hb]
   obtain ⟨h1,h2,h3⟩:=X4 s x j (by omega)
   refine ⟨by omega,fun i hi z6 hl=> ?_,h3⟩
   by_cases hij:i=j
   ·subst hij;exact hb
   ·exact h2 i hi (by omega) hl
  ·rw [if_neg hb];refine ⟨Nat.le_refl _,fun i hi z6=>by omega,fun i hi hl=> ?_⟩
   have:i=j:=by omega
   subst this
   simpa using hb
theorem Ao (s:List Prd) (x:Prd):(L3 s x).Perm (x::s):=by
 unfold L3;refine List.perm_middle.trans ?_;rw [List.take_append_drop]
def Lo (p q:Prd):Prop:=Uq (Qw p 0).1 (Qw p 0).2 (Qw q 0).1 (Qw q 0).2
theorem V9 {s:List Prd} {x:Prd} (hs:s.Pairwise Lo) (hd:∀y∈s,Qw y 0≠Qw x 0):(L3 s x).Pairwise Lo:=by
 obtain ⟨h1,h2,h3⟩:=X4 s x s.length (Nat.le_refl _)
 unfold L3;generalize Z7 s x s.length=k at *
 have z1:=hs
 rw [←List.take_append_drop k s] at z1
 obtain ⟨p1,p2,p3⟩:=List.pairwise_append.1 z1
 have z7:∀y∈s.drop k,Lo x y:=fun y hy=>by
  obtain ⟨i,hi⟩:=List.mem_iff_getElem?.1 hy
  rw [List.getElem?_drop] at hi
  obtain ⟨hl,e⟩:=List.getElem?_eq_some_iff.1 hi
  have:=h2 (k+i) (by omega) hl hl
  rw [e] at this;exact (Rp _ _).1 this
 have z8:∀i,i+1=k→∀h:i<s.length,Lo s[i] x:=fun i hi hl=>by
  have h4:=h3 i hi hl
  have zc:=hd s[i] (List.getElem_mem hl)
  unfold Lo
  rcases Nat.lt_trichotomy (Qw s[i] 0).1 (Qw x 0).1 with a|a|a
  ·exact .inl a
  ·rcases Int.lt_trichotomy (Qw s[i] 0).2 (Qw x 0).2 with b|b|b
   ·exact .inr ⟨a,b⟩
   ·exact absurd (Prod.ext a b) zc
   ·have:K0 (Qw x 0) (Qw s[i] 0)=true:=(Rp _ _).2 (.inr ⟨a.symm,b⟩)
    rw [this] at h4;cases h4
  ·have:K0 (Qw x 0) (Qw s[i] 0)=true:=(Rp _ _).2 (.inl a)
   rw [this] at h4;cases h4
 have z6:∀y∈s.take k,Lo y x:=fun y hy=>by
  obtain ⟨i,hi⟩:=List.mem_iff_getElem?.1 hy
  rw [List.getElem?_take] at hi;split at hi
  ·rename_i zd
   obtain ⟨hl,e⟩:=List.getElem?_eq_some_iff.1 hi
   obtain ⟨k',rfl⟩:∃k',k=k'+1:=⟨k - 1,by omega⟩
   have za:k'<s.length:=by omega
   have zb:=z8 k' rfl za
   by_cases hij:i=k'
   ·subst hij;rw [←e];exact zb
   ·have:=List.pairwise_iff_getElem.1 hs i k' hl za (by omega)
    rw [e] at this;exact Uq.trans this zb
  ·cases hi
 refine List.pairwise_append.2 ⟨p1,List.pairwise_cons.2 ⟨z7,p2⟩,fun y hy z hz=> ?_⟩
 rcases List.mem_cons.1 hz with rfl|hz
 ·exact z6 y hy
 ·exact p3 y hy z hz
theorem Js (L:List Prd) (hd:L.Pairwise (fun p q=>Qw p 0≠Qw q 0)):(Zq L).Perm L∧(Zq L).Pairwise Lo:=by
 have key:∀(r s:List Prd),s.Pairwise Lo→(s++r).Pairwise (fun p q=>Qw p 0≠Qw q 0)→(r.foldl L3 s).Perm (s++r)∧(r.foldl L3 s).Pairwise Lo:=by
  intro r
  induction r with
  |nil=>intro s h _;simpa using h
  |cons x r ih=>
   intro s h hd
   obtain ⟨d1,d2,d3⟩:=List.pairwise_append.1 hd
   have hi:=V9 h (fun y hy=>d3 y hy x (by simp))
   have hp:=Ao s x
   have z1:(L3 s x++r).Perm (s++x::r):=(hp.append_right r).trans (List.perm_middle (l₁:=s) (a:=x) (l₂:=r)).symm
   have z6:(L3 s x++r).Pairwise (fun p q=>Qw p 0≠Qw q 0):=(z1.pairwise_iff (fun h=>Ne.symm h)).2 hd
   obtain ⟨i1,i2⟩:=ih (L3 s x) hi z6
   rw [List.foldl_cons];exact ⟨i1.trans z1,i2⟩
 have h:=key L [] List.Pairwise.nil (by simpa using hd)
 unfold Zq
 simpa using h
def Q0 (T:Nat) (l:List Prd):List Prd:=Zq (Ed T l)
theorem X0 {T:Nat} {l L:List Prd} {p:Prd} (h:Prts T l L) (hp:PCk T p) (hd:L.Pairwise (fun a b=>∀t n,PM a t n→¬PM b t n)):(Eg p L).Pairwise (fun a b=>∀t n,PM a t n→¬PM b t n):=by
 have z7:(W2 p).length=T:=by simp [W2,hp.1]
 have z8:∀c∈L,∀q∈(if We (Wa c p) then [] else [Wa c p])++(if We (Wa c (W2 p)) then [] else [Wa c (W2 p)]),∀t n,PM q t n→PM c t n:=by
  intro c hc q hq t n hm
  rcases List.mem_append.1 hq with hq|hq
  ·split at hq
   ·cases hq
   ·obtain rfl:=List.mem_singleton.1 hq;exact ((Ec (h.wf c hc).1 hp.1 t n).1 hm).1
  ·split at hq
   ·cases hq
   ·obtain rfl:=List.mem_singleton.1 hq;exact ((Ec (h.wf c hc).1 z7 t n).1 hm).1
 unfold Eg;rw [List.pairwise_flatMap];refine ⟨fun c hc=> ?_,?_⟩
 ·refine List.pairwise_append.2 ⟨by split<;>simp,by split<;>simp,fun a ha b hb t n z1 z6=> ?_⟩
  split at ha
  ·cases ha
  ·split at hb
   ·cases hb
   ·obtain rfl:=List.mem_singleton.1 ha
    obtain rfl:=List.mem_singleton.1 hb
    exact ((L1 hp t n).1 ((Ec (h.wf c hc).1 z7 t n).1 z6).2).2 ((Ec (h.wf c hc).1 hp.1 t n).1 z1).2
 ·exact hd.imp_of_mem (fun {a b} ha hb hab x hx y hy t n z1 z6=>hab t n (z8 a ha x hx t n z1) (z8 b hb y hy t n z6))
theorem S3 {T:Nat} (hT:0<T) {l:List Prd} (hl:∀p∈l,PCk T p):(Ed T l).Pairwise (fun a b=>∀t n,PM a t n→¬PM b t n):=by
 have key:∀(r d L:List Prd),Prts T d L→(∀p∈r,PCk T p)→L.Pairwise (fun a b=>∀t n,PM a t n→¬PM b t n)→(r.foldl (fun L p=>Eg p L) L).Pairwise (fun a b=>∀t n,PM a t n→¬PM b t n):=by
  intro r
  induction r with
  |nil=>intro d L _ _ h;simpa using h
  |cons p r ih=>
   intro d L h hr hd;rw [List.foldl_cons];exact ih (d++[p]) (Eg p L) (Ju h (hr p (by simp))) (fun q hq=>hr q (by simp [hq])) (X0 h (hr p (by simp)) hd)
 exact key l [] [Wy T] (Kp T hT) hl (by simp)
theorem Ua {T:Nat} (hT:0<T) {l:List Prd} (hl:∀p∈l,PCk T p):Prts T l (Q0 T l)∧(Q0 T l).Pairwise y0i:=by
 have h:=Rh hT hl
 have hd:(Ed T l).Pairwise (fun p q=>Qw p 0≠Qw q 0):=(S3 hT hl).imp_of_mem (fun {a b} ha hb hab e=>by
  have h1:=(Wv (h.wf a ha) (h.ne a ha)).1
  have h2:=(Wv (h.wf b hb) (h.ne b hb)).1
  rw [←e] at h2;exact hab _ _ h1 h2)
 obtain ⟨h1,h2⟩:=Js _ hd
 have h3:Prts T l (Q0 T l):=h.perm h1.symm
 refine ⟨h3,?_⟩;exact h2.imp_of_mem (fun {a b} ha hb hab=>Za (h3.wf a ha) (h3.ne a ha) (h3.wf b hb) (h3.ne b hb) hab)
end Go.Abs
namespace Go.Abs
def Qt (l:List Prd) (i:Nat):List Iv:=l.flatMap fun p=>p.getD i []
def Wb (l:List Prd) (i:Nat):List Int:=u01 (⟨-1099511627776,1099511627776⟩::Qt l i)
def Tl:List Int→List Iv
 |a::b::r=>⟨a,b - 1⟩::Tl (b::r)
 |_=>[]
def Uw (l:List Prd) (i:Nat) (n:Int):List Bool:=l.map fun p=>Ot (p.getD i []) n
def Uj (p:Prd) (i:Nat) (x:Iv):Prd:=p.set i (p.getD i []++[x])
def Tv (T i:Nat) (sg:List Bool) (x:Iv):List (List Bool×Prd)→List (List Bool×Prd)
 |[]=>[(sg,Uj (List.replicate T []) i x)]
 |(s,p)::r=>if s=sg then (s,Uj p i x)::r else (s,p)::Tv T i sg x r
def Jg (T:Nat) (l:List Prd):List (Nat×Iv):=(List.range T).flatMap fun i=>(Tl (Wb l i)).map fun x=>(i,x)
def Iq (T:Nat) (l:List Prd):List (List Bool×Prd):=(Jg T l).foldl (fun st a=>Tv T a.1 (Uw l a.1 a.2.lo) a.2 st) []
def E8 (p:Prd):Prd:=p.map (Qv [])
def W9 (T:Nat) (l:List Prd):List Prd:=(Iq T l).map fun g=>E8 g.2
def v1w (a:Nat×Iv) (t:Nat) (n:Int):Prop:=t=a.1∧a.2.lo≤n∧n≤a.2.hi
structure GInv (T:Nat) (sig:Nat→Int→List Bool) (D:Nat→Int→Prop) (st:List (List Bool×Prd)):Prop where
 len:∀g∈st,g.2.length=T
 asc:∀g∈st,∀s∈g.2,(∀x∈s,x.lo≤x.hi)∧s.Pairwise (fun x y=>x.hi<y.lo)
 mem:∀g∈st,∀t n,PM g.2 t n↔D t n∧sig t n=g.1
 ne:∀g∈st,∃t n,PM g.2 t n
 nd:st.Pairwise (fun g h=>g.1≠h.1)
 all:∀t n,D t n→∃g∈st,g.1=sig t n
 ord:st.Pairwise (fun g h=>∃t n,PM g.2 t n∧∀t' n',PM h.2 t' n'→Uq t n t' n')
theorem Wo {p:Prd} {i:Nat} (h:i<p.length):p.getD i []=p[i]:=by simp [List.getD,h]
theorem x1m {T:Nat} {p:Prd} (hp:p.length=T) {i:Nat} (hi:i<T) (x:Iv) (t:Nat) (n:Int):PM (Uj p i x) t n↔PM p t n∨v1w (i,x) t n:=by
 unfold PM Uj v1w
 have z1:i<p.length:=by omega
 rw [Wo z1]
 by_cases ht:t=i
 ·subst ht;rw [List.getElem?_set_self z1,List.getElem?_eq_getElem z1];constructor
  ·rintro ⟨s,hs,hm⟩
   cases hs
   rcases (Zv ..).1 hm with h|h
   ·exact .inl ⟨_,rfl,h⟩
   ·rcases (Ef ..).1 h with h|h
    ·exact .inr ⟨rfl,h⟩
    ·simp [M] at h
  ·rintro (⟨s,hs,hm⟩|⟨_,h⟩)
   ·cases hs;exact ⟨_,rfl,(Zv ..).2 (.inl hm)⟩
   ·exact ⟨_,rfl,(Zv ..).2 (.inr ((Ef ..).2 (.inl h)))⟩
 ·rw [List.getElem?_set_ne (by omega)]
  constructor
  ·exact fun h=> .inl h
  ·rintro (h|⟨h,_⟩)
   ·exact h
   ·exact absurd h ht
theorem j0e {T:Nat} {p:Prd} (hp:p.length=T) {i:Nat} (hi:i<T) {x:Iv} (hx:x.lo≤x.hi) (h:∀s∈p,(∀y∈s,y.lo≤y.hi)∧s.Pairwise (fun y z=>y.hi<z.lo)) (z6:∀t n,PM p t n→Uq t n i x.lo):
  ∀s∈Uj p i x,(∀y∈s,y.lo≤y.hi)∧s.Pairwise (fun y z=>y.hi<z.lo):=by
 intro s hs
 have z1:i<p.length:=by omega
 rcases List.mem_or_eq_of_mem_set hs with hs|rfl
 ·exact h s hs
 ·rw [Wo z1]
  obtain ⟨h1,h2⟩:=h _ (List.getElem_mem z1)
  refine ⟨fun y hy=> ?_,List.pairwise_append.2 ⟨h2,by simp,fun y hy z hz=> ?_⟩⟩
  ·rcases List.mem_append.1 hy with hy|hy
   ·exact h1 y hy
   ·obtain rfl:=List.mem_singleton.1 hy;exact hx
  ·obtain rfl:=List.mem_singleton.1 hz
   have:=z6 i y.hi ⟨_,List.getElem?_eq_getElem z1,y,hy,h1 y hy,Int.le_refl _⟩
   unfold Uq at this;omega
theorem I1 {T i:Nat} {sg:List Bool} {x:Iv}:∀ {st:List (List Bool×Prd)},(∀g∈st,g.1≠sg)→Tv T i sg x st=st++[(sg,Uj (List.replicate T []) i x)]
 |[],_=>rfl
 |(s,p)::r,h=>by
  rw [Tv,if_neg (h (s,p) (by simp)),I1 (fun g hg=>h g (by simp [hg]))]
  rfl
theorem A1 {T i:Nat} {sg:List Bool} {x:Iv}:∀ {st:List (List Bool×Prd)},(∃g∈st,g.1=sg)→∃a p b,st=a++(sg,p)::b∧(∀g∈a,g.1≠sg)∧Tv T i sg x st=a++(sg,Uj p i x)::b
 |[],⟨g,hg,_⟩=>by cases hg
 |(s,p)::r,⟨g,hg,he⟩=>by
  by_cases hs:s=sg
  ·subst hs;exact ⟨[],p,r,rfl,by simp,by rw [Tv,if_pos rfl];rfl⟩
  ·have z1:g∈r:=by
    rcases List.mem_cons.1 hg with rfl|hg
    ·exact absurd he hs
    ·exact hg
   obtain ⟨a,q,b,h1,h2,h3⟩:=A1 (T:=T) (i:=i) (x:=x) ⟨g,z1,he⟩
   refine ⟨(s,p)::a,q,b,by rw [h1];rfl,fun g hg=> ?_,by rw [Tv,if_neg hs,h3];rfl⟩
   rcases List.mem_cons.1 hg with rfl|hg
   ·exact hs
   ·exact h2 g hg
theorem Zi (T t:Nat) (n:Int):¬PM (List.replicate T []) t n:=by
 rintro ⟨s,hs,hm⟩
 obtain rfl:=List.eq_of_mem_replicate (List.mem_of_getElem? hs)
 simp [M] at hm
theorem GInv.step {T:Nat} {sig:Nat→Int→List Bool} {D:Nat→Int→Prop} {st:List (List Bool×Prd)} (h:GInv T sig D st) {i:Nat} {x:Iv} (hi:i<T) (hx:x.lo≤x.hi) (hc:∀n,x.lo≤n→n≤x.hi→sig i n=sig i x.lo) (hD:∀t n,D t n→∀n',x.lo≤n'→n'≤x.hi→Uq t n i n'):
  GInv T sig (fun t n=>D t n∨v1w (i,x) t n) (Tv T i (sig i x.lo) x st):=by
 have z7:∀t n,v1w (i,x) t n→sig t n=sig i x.lo:=fun t n hp=>by obtain ⟨rfl,h1,h2⟩:=hp;exact hc n h1 h2
 have zb:∀t n,D t n→∀t' n',v1w (i,x) t' n'→Uq t n t' n':=fun t n hd t' n' hp=>by obtain ⟨rfl,h1,h2⟩:=hp;exact hD t n hd n' h1 h2
 have zc:v1w (i,x) i x.lo:=⟨rfl,Int.le_refl _,hx⟩
 by_cases hit:∃g∈st,g.1=sig i x.lo
 ·obtain ⟨a,p,b,h1,h2,h3⟩:=A1 (T:=T) (i:=i) (x:=x) hit
  rw [h3];subst h1;generalize zh:sig i x.lo=s0 at *
  have za:(s0,p)∈a++(s0,p)::b:=by simp
  have zd:=h.mem _ za
  have hlen:=h.len _ za
  have zf:=h.nd
  obtain ⟨n1,n2,n3⟩:=List.pairwise_append.1 zf
  obtain ⟨n4,n5⟩:=List.pairwise_cons.1 n2
  obtain ⟨o1,o2,o3⟩:=List.pairwise_append.1 h.ord
  obtain ⟨o4,o5⟩:=List.pairwise_cons.1 o2
  have z1:=fun t n=>x1m hlen hi x t n
  have hold:∀g∈a++(s0,Uj p i x)::b,(g∈a++(s0,p)::b∧g.1≠s0)∨g=(s0,Uj p i x):=fun g hg=>by
   rcases List.mem_append.1 hg with hg|hg
   ·exact .inl ⟨by simp [hg],h2 g hg⟩
   ·rcases List.mem_cons.1 hg with rfl|hg
    ·exact .inr rfl
    ·exact .inl ⟨by simp [hg],(n4 g hg).symm⟩
  refine ⟨fun g hg=> ?_,fun g hg=> ?_,fun g hg t n=> ?_,fun g hg=> ?_,?_,fun t n hd=> ?_,?_⟩
  ·rcases hold g hg with ⟨hg,_⟩|rfl
   ·exact h.len g hg
   ·simp [Uj,hlen]
  ·rcases hold g hg with ⟨hg,_⟩|rfl
   ·exact h.asc g hg
   ·exact j0e hlen hi hx (h.asc _ za) (fun t n hm=>hD t n ((zd t n).1 hm).1 x.lo (Int.le_refl _) hx)
  ·rcases hold g hg with ⟨hg,zg⟩|rfl
   ·rw [h.mem g hg t n];constructor
    ·exact fun hh=>⟨.inl hh.1,hh.2⟩
    ·rintro ⟨hd|hd,hs⟩
     ·exact ⟨hd,hs⟩
     ·exact absurd (by rw [←hs,z7 t n hd]) zg
   ·rw [z1,zd];constructor
    ·rintro (⟨hd,hs⟩|hd)
     ·exact ⟨.inl hd,hs⟩
     ·exact ⟨.inr hd,z7 t n hd⟩
    ·rintro ⟨hd|hd,hs⟩
     ·exact .inl ⟨hd,hs⟩
     ·exact .inr hd
  ·rcases hold g hg with ⟨hg,_⟩|rfl
   ·exact h.ne g hg
   ·exact ⟨i,x.lo,(z1 i x.lo).2 (.inr zc)⟩
  ·exact List.pairwise_append.2 ⟨n1,List.pairwise_cons.2 ⟨fun g hg=>n4 g hg,n5⟩,fun g hg k hk=>by
    rcases List.mem_cons.1 hk with rfl|hk
    ·exact h2 g hg
    ·exact n3 g hg k (by simp [hk])⟩
  ·rcases hd with hd|hd
   ·obtain ⟨g,hg,he⟩:=h.all t n hd
    rcases List.mem_append.1 hg with hg|hg
    ·exact ⟨g,by simp [hg],he⟩
    ·rcases List.mem_cons.1 hg with rfl|hg
     ·exact ⟨(s0,Uj p i x),by simp,he⟩
     ·exact ⟨g,by simp [hg],he⟩
   ·exact ⟨(s0,Uj p i x),by simp,(z7 t n hd).symm⟩
  ·refine List.pairwise_append.2 ⟨o1,List.pairwise_cons.2 ⟨fun g hg=> ?_,o5⟩,fun g hg k hk=> ?_⟩
   ·obtain ⟨t,n,e1,e2⟩:=o4 g hg
    exact ⟨t,n,(z1 t n).2 (.inl e1),e2⟩
   ·rcases List.mem_cons.1 hk with rfl|hk
    ·obtain ⟨t,n,e1,e2⟩:=o3 g hg (s0,p) (by simp)
     refine ⟨t,n,e1,fun t' n' hm=> ?_⟩
     rcases (z1 t' n').1 hm with hm|hm
     ·exact e2 t' n' hm
     ·exact zb t n ((h.mem g (by simp [hg]) t n).1 e1).1 t' n' hm
    ·exact o3 g hg k (by simp [hk])
 ·have z8:∀g∈st,g.1≠sig i x.lo:=fun g hg he=>hit ⟨g,hg,he⟩
  rw [I1 z8]
  have ze:(List.replicate T ([]:List Iv)).length=T:=by simp
  have z1:=fun t n=>x1m ze hi x t n
  have z6:∀g∈st++[(sig i x.lo,Uj (List.replicate T []) i x)],g∈st∨g=(sig i x.lo,Uj (List.replicate T []) i x):=fun g hg=>by
   rcases List.mem_append.1 hg with hg|hg
   ·exact .inl hg
   ·exact .inr (List.mem_singleton.1 hg)
  refine ⟨fun g hg=> ?_,fun g hg=> ?_,fun g hg t n=> ?_,fun g hg=> ?_,?_,fun t n hd=> ?_,?_⟩
  ·rcases z6 g hg with hg|rfl
   ·exact h.len g hg
   ·simp [Uj]
  ·rcases z6 g hg with hg|rfl
   ·exact h.asc g hg
   ·exact j0e ze hi hx (fun s hs=>by obtain rfl:=List.eq_of_mem_replicate hs;simp) (fun t n hm=>absurd hm (Zi T t n))
  ·rcases z6 g hg with hg|rfl
   ·rw [h.mem g hg t n];constructor
    ·exact fun hh=>⟨.inl hh.1,hh.2⟩
    ·rintro ⟨hd|hd,hs⟩
     ·exact ⟨hd,hs⟩
     ·exact absurd (by rw [←hs,z7 t n hd]) (z8 g hg)
   ·rw [z1];constructor
    ·rintro (hm|hd)
     ·exact absurd hm (Zi T t n)
     ·exact ⟨.inr hd,z7 t n hd⟩
    ·rintro ⟨hd|hd,hs⟩
     ·obtain ⟨g,hg,he⟩:=h.all t n hd
      exact absurd (he.trans hs) (z8 g hg)
     ·exact .inr hd
  ·rcases z6 g hg with hg|rfl
   ·exact h.ne g hg
   ·exact ⟨i,x.lo,(z1 i x.lo).2 (.inr zc)⟩
  ·exact List.pairwise_append.2 ⟨h.nd,by simp,fun g hg k hk=>by obtain rfl:=List.mem_singleton.1 hk;exact z8 g hg⟩
  ·rcases hd with hd|hd
   ·obtain ⟨g,hg,he⟩:=h.all t n hd
    exact ⟨g,by simp [hg],he⟩
   ·exact ⟨(sig i x.lo,Uj (List.replicate T []) i x),by simp,(z7 t n hd).symm⟩
  ·refine List.pairwise_append.2 ⟨h.ord,by simp,fun g hg k hk=> ?_⟩
   obtain rfl:=List.mem_singleton.1 hk
   obtain ⟨t,n,e1⟩:=h.ne g hg
   refine ⟨t,n,e1,fun t' n' hm=> ?_⟩
   rcases (z1 t' n').1 hm with hm|hm
   ·exact absurd hm (Zi T t' n')
   ·exact zb t n ((h.mem g hg t n).1 e1).1 t' n' hm
end Go.Abs
namespace Go.Abs
theorem Py:∀(cs:List Int),cs.Pairwise (·<·)→∀x∈Tl cs,x.lo≤x.hi∧x.lo∈cs∧x.hi+1∈cs∧∀d∈cs,d≤x.hi→d≤x.lo
 |[],_,x,hx=>by simp [Tl] at hx
 |[a],_,x,hx=>by simp [Tl] at hx
 |a::b::r,h,x,hx=>by
  obtain ⟨h1,h2⟩:=List.pairwise_cons.1 h
  rw [Tl] at hx
  rcases List.mem_cons.1 hx with rfl|hx
  ·have z1:=h1 b (by simp)
   refine ⟨by simp only;omega,by simp,by simp,fun d hd hle=> ?_⟩
   simp only at hle ⊢
   rcases List.mem_cons.1 hd with rfl|hd
   ·omega
   ·have:b≤d:=by
     rcases List.mem_cons.1 hd with rfl|hd
     ·omega
     ·have:=(List.pairwise_cons.1 h2).1 d hd;omega
    omega
  ·obtain ⟨k1,k2,k3,k4⟩:=Py (b::r) h2 x hx
   refine ⟨k1,by simp only [List.mem_cons] at k2 ⊢;exact .inr k2,by simp only [List.mem_cons] at k3 ⊢;exact .inr k3,fun d hd hle=> ?_⟩
   rcases List.mem_cons.1 hd with rfl|hd
   ·have:=h1 x.lo k2;omega
   ·exact k4 d hd hle
theorem q0q:∀(cs:List Int),cs.Pairwise (·<·)→(Tl cs).Pairwise (fun x y=>x.hi<y.lo)
 |[],_=>by simp [Tl]
 |[a],_=>by simp [Tl]
 |a::b::r,h=>by
  obtain ⟨h1,h2⟩:=List.pairwise_cons.1 h
  rw [Tl];refine List.pairwise_cons.2 ⟨fun y hy=> ?_,q0q (b::r) h2⟩
  obtain ⟨_,k2,_,_⟩:=Py (b::r) h2 y hy
  have:b≤y.lo:=by
   rcases List.mem_cons.1 k2 with e|k2
   ·omega
   ·have:=(List.pairwise_cons.1 h2).1 y.lo k2;omega
  simp only;omega
theorem J0:∀(cs:List Int),cs.Pairwise (·<·)→∀n,(∃a∈cs,a≤n)→(∃b∈cs,n<b)→∃x∈Tl cs,x.lo≤n∧n≤x.hi
 |[],_,n,⟨a,ha,_⟩,_=>by cases ha
 |[a],_,n,⟨c,hc,h1⟩,⟨d,hd,h2⟩=>by
  obtain rfl:=List.mem_singleton.1 hc
  obtain rfl:=List.mem_singleton.1 hd
  omega
 |a::b::r,h,n,⟨c,hc,h1⟩,⟨d,hd,h2⟩=>by
  obtain ⟨p1,p2⟩:=List.pairwise_cons.1 h
  rw [Tl]
  have z1:a≤n:=by
   rcases List.mem_cons.1 hc with rfl|hc
   ·exact h1
   ·have:=p1 c hc;omega
  by_cases hb:n<b
  ·exact ⟨⟨a,b - 1⟩,by simp,z1,by simp only;omega⟩
  ·have z6:d∈b::r:=by
    rcases List.mem_cons.1 hd with rfl|hd
    ·omega
    ·exact hd
   obtain ⟨x,hx,e⟩:=J0 (b::r) p2 n ⟨b,by simp,by omega⟩ ⟨d,z6,h2⟩
   exact ⟨x,by simp [hx],e⟩
theorem Ry {l:List Prd} {i:Nat} {x:Iv}:x∈Qt l i↔∃p∈l,x∈p.getD i []:=by simp [Qt]
theorem c0y {T:Nat} {p:Prd} (hp:PCk T p) (i:Nat):CanonL (p.getD i []):=by
 by_cases hi:i<p.length
 ·rw [Wo hi];exact hp.2 _ (List.getElem_mem hi)
 ·have:p.getD i []=[]:=by simp [List.getD,List.getElem?_eq_none (by omega:p.length≤i)]
  rw [this];exact Pl
theorem Tr {T:Nat} {l:List Prd} (hl:∀p∈l,PCk T p) (i:Nat):(Wb l i).Pairwise (·<·)∧(-1099511627776:Int)∈Wb l i∧(1099511627777:Int)∈Wb l i∧
  (∀z∈Wb l i,-1099511627776≤z∧z≤1099511627777)∧∀p∈l,∀x∈p.getD i [],x.lo∈Wb l i∧x.hi+1∈Wb l i:=by
 obtain ⟨h1,h2⟩:=k06 (⟨-1099511627776,1099511627776⟩::Qt l i)
 refine ⟨h1,(h2 _).2 ⟨⟨-1099511627776,1099511627776⟩,by simp,.inl rfl⟩,(h2 _).2 ⟨⟨-1099511627776,1099511627776⟩,by simp,.inr (by simp)⟩,fun z hz=> ?_,fun p hp x hx=>⟨(h2 _).2 ⟨x,?_,.inl rfl⟩,(h2 _).2 ⟨x,?_,.inr rfl⟩⟩⟩
 ·obtain ⟨x,hx,e⟩:=(h2 z).1 hz
  rcases List.mem_cons.1 hx with rfl|hx
  ·simp only at e;omega
  ·obtain ⟨p,hp,hx⟩:=Ry.1 hx
   have hc:=c0y (hl p hp) i
   have h3:=Ln hc x hx
   have h4:=(W5 _).1 h3.1
   have h5:=(W5 _).1 h3.2
   have:=(Fo hc).1 x hx
   omega
 ·exact List.mem_cons_of_mem _ (Ry.2 ⟨p,hp,hx⟩)
 ·exact List.mem_cons_of_mem _ (Ry.2 ⟨p,hp,hx⟩)
theorem g0m {T:Nat} {l:List Prd} (hl:∀p∈l,PCk T p) (i:Nat) {x:Iv} (hx:x∈Tl (Wb l i)) (n:Int) (h1:x.lo≤n) (h2:n≤x.hi):Uw l i n=Uw l i x.lo:=by
 obtain ⟨c1,_,_,_,c5⟩:=Tr hl i
 obtain ⟨_,_,_,k4⟩:=Py _ c1 x hx
 unfold Uw
 apply List.map_congr_left
 intro p hp;exact u0z _ (Wb l i) (c5 p hp) x.lo n h1 (fun d hd hle=>k4 d hd (by omega))
theorem Vd {T:Nat} {p:Prd} (hp:p.length=T) {t:Nat} (ht:t<T) (n:Int):Ot (p.getD t []) n=true↔PM p t n:=by
 have z1:t<p.length:=by omega
 rw [Wo z1,Nq];unfold PM;rw [List.getElem?_eq_getElem z1]
 simp
theorem x1i {T:Nat} {l:List Prd} (hl:∀p∈l,PCk T p) {t t':Nat} (ht:t<T) (z1:t'<T) (n n':Int):Uw l t n=Uw l t' n'↔d1g l t n t' n':=by
 unfold Uw d1g;constructor
 ·intro h p hp
  have:=(List.map_inj_left.1 h) p hp
  rw [←Vd (hl p hp).1 ht,←Vd (hl p hp).1 z1,this]
 ·intro h
  apply List.map_congr_left
  intro p hp
  have:=h p hp
  rw [←Vd (hl p hp).1 ht,←Vd (hl p hp).1 z1] at this;exact Bool.eq_iff_iff.2 this
theorem GInv.congr {T:Nat} {sig:Nat→Int→List Bool} {D D':Nat→Int→Prop} {st:List (List Bool×Prd)} (h:GInv T sig D st) (e:∀t n,D t n↔D' t n):GInv T sig D' st:=by
 have:D=D':=funext fun t=>funext fun n=>propext (e t n)
 rw [←this];exact h
theorem Ve {T:Nat} {sig:Nat→Int→List Bool}:∀(A:List (Nat×Iv)) (D:Nat→Int→Prop) (st:List (List Bool×Prd)),GInv T sig D st→(∀a∈A,a.1<T∧a.2.lo≤a.2.hi∧∀n,a.2.lo≤n→n≤a.2.hi→sig a.1 n=sig a.1 a.2.lo)→
  (∀t n,D t n→∀a∈A,∀n',a.2.lo≤n'→n'≤a.2.hi→Uq t n a.1 n')→A.Pairwise (fun a b=>∀n n',a.2.lo≤n→n≤a.2.hi→b.2.lo≤n'→n'≤b.2.hi→Uq a.1 n b.1 n')→
  GInv T sig (fun t n=>D t n∨∃a∈A,v1w a t n) (A.foldl (fun st a=>Tv T a.1 (sig a.1 a.2.lo) a.2 st) st)
 |[],D,st,h,_,_,_=>h.congr (fun t n=>by simp)
 |a::A,D,st,h,h1,h2,h3=>by
  obtain ⟨i,x⟩:=a
  obtain ⟨e1,e2,e3⟩:=h1 (i,x) (by simp)
  obtain ⟨p1,p2⟩:=List.pairwise_cons.1 h3
  have hs:=h.step e1 e2 e3 (fun t n hd n' q1 q2=>h2 t n hd (i,x) (by simp) n' q1 q2)
  rw [List.foldl_cons];refine (Ve A _ _ hs (fun b hb=>h1 b (by simp [hb])) (fun t n hd b hb n' q1 q2=> ?_) p2).congr (fun t n=> ?_)
  ·rcases hd with hd|hd
   ·exact h2 t n hd b (by simp [hb]) n' q1 q2
   ·obtain ⟨rfl,d1,d2⟩:=hd
    exact p1 b hb n n' d1 d2 q1 q2
  ·simp [or_assoc]
theorem Fi {T:Nat} {l:List Prd} {a:Nat×Iv}:a∈Jg T l↔a.1<T∧a.2∈Tl (Wb l a.1):=by
 unfold Jg;rw [List.mem_flatMap];constructor
 ·rintro ⟨i,hi,h⟩
  obtain ⟨x,hx,rfl⟩:=List.mem_map.1 h
  exact ⟨List.mem_range.1 hi,hx⟩
 ·rintro ⟨h1,h2⟩
  exact ⟨a.1,List.mem_range.2 h1,List.mem_map.2 ⟨a.2,h2,rfl⟩⟩
theorem j04 {T:Nat} {l:List Prd} (hl:∀p∈l,PCk T p):(Jg T l).Pairwise (fun a b=>∀n n',a.2.lo≤n→n≤a.2.hi→b.2.lo≤n'→n'≤b.2.hi→Uq a.1 n b.1 n'):=by
 unfold Jg;rw [List.pairwise_flatMap];refine ⟨fun i _=> ?_,?_⟩
 ·rw [List.pairwise_map];refine (q0q _ (Tr hl i).1).imp (fun {x y} h n n' h1 h2 h3 h4=> .inr ⟨rfl,by simp only at h2 h3;omega⟩)
 ·refine List.pairwise_lt_range.imp (fun {i j} h a ha b hb n n' _ _ _ _=> ?_)
  obtain ⟨x,_,rfl⟩:=List.mem_map.1 ha
  obtain ⟨y,_,rfl⟩:=List.mem_map.1 hb
  exact .inl h
theorem v0o {T:Nat} {l:List Prd} (hl:∀p∈l,PCk T p):GInv T (Uw l) (fun t n=>t<T∧inR n) (Iq T l):=by
 have h0:GInv T (Uw l) (fun _ _=>False) []:=⟨by simp,by simp,by simp,by simp,by simp,fun _ _ h=>h.elim,by simp⟩
 refine (Ve (Jg T l) _ [] h0 (fun a ha=> ?_) (fun _ _ h=>h.elim) (j04 hl)).congr (fun t n=> ?_)
 ·obtain ⟨h1,h2⟩:=Fi.1 ha
  exact ⟨h1,(Py _ (Tr hl a.1).1 _ h2).1,fun n q1 q2=>g0m hl a.1 h2 n q1 q2⟩
 ·obtain ⟨c1,c2,c3,c4,c5⟩:=Tr hl t
  constructor
  ·rintro (h|⟨a,ha,rfl,h1,h2⟩)
   ·exact h.elim
   ·obtain ⟨q1,q2⟩:=Fi.1 ha
    obtain ⟨s1,s2,s3,s4⟩:=Py _ c1 _ q2
    have:=c4 _ s2
    have:=c4 _ s3
    exact ⟨q1,by unfold inR;omega⟩
  ·rintro ⟨h1,h2⟩
   unfold inR at h2
   obtain ⟨x,hx,e1,e2⟩:=J0 _ c1 n ⟨_,c2,h2.1⟩ ⟨_,c3,by omega⟩
   exact .inr ⟨(t,x),Fi.2 ⟨h1,hx⟩,rfl,e1,e2⟩
theorem Ix {s:List Iv} (h:(∀x∈s,x.lo≤x.hi)∧s.Pairwise (fun x y=>x.hi<y.lo)):Sep (Qv [] s)∧∀n,M (Qv [] s) n↔M s n:=by
 have hb:Zz s:=h.2.imp_of_mem (fun {x y} hx hy hxy=>by have:=h.1 x hx;omega)
 have:=A6 s [] Lq hb h.1 (by simp)
 refine ⟨this.1,fun n=> ?_⟩
 rw [this.2 n]
 simp [M]
theorem L7 {T:Nat} {p:Prd} (h:∀s∈p,(∀x∈s,x.lo≤x.hi)∧s.Pairwise (fun x y=>x.hi<y.lo)) (t:Nat) (n:Int):PM (E8 p) t n↔PM p t n:=by
 unfold PM E8;rw [List.getElem?_map];constructor
 ·rintro ⟨s,hs,hm⟩
  obtain ⟨a,ha,rfl⟩:=Option.map_eq_some_iff.1 hs
  exact ⟨a,ha,((Ix (h a (List.mem_of_getElem? ha))).2 n).1 hm⟩
 ·rintro ⟨a,ha,hm⟩
  exact ⟨Qv [] a,by rw [ha];rfl,((Ix (h a (List.mem_of_getElem? ha))).2 n).2 hm⟩
theorem Pe {T:Nat} {l:List Prd} (hl:∀p∈l,PCk T p):Prts T l (W9 T l)∧(W9 T l).Pairwise y0i:=by
 have h:=v0o hl
 have z1:∀g∈Iq T l,∀t n,PM (E8 g.2) t n↔(t<T∧inR n)∧Uw l t n=g.1:=fun g hg t n=>by rw [L7 (T:=T) (h.asc g hg),h.mem g hg]
 have z6:∀p∈W9 T l,∃g∈Iq T l,p=E8 g.2:=fun p hp=>by
  obtain ⟨g,hg,rfl⟩:=List.mem_map.1 hp
  exact ⟨g,hg,rfl⟩
 refine ⟨⟨fun p hp=> ?_,fun p hp=> ?_,fun t n ht hn=> ?_,fun p hp t n hm t' n'=> ?_⟩,?_⟩
 ·obtain ⟨g,hg,rfl⟩:=z6 p hp
  refine ⟨by simp [E8,h.len g hg],fun s hs=> ?_⟩
  obtain ⟨i,hi⟩:=List.mem_iff_getElem?.1 hs
  have z7:=hs
  obtain ⟨a,ha,rfl⟩:=List.mem_map.1 hs
  exact ⟨(Ix (h.asc g hg a ha)).1,fun n hn=>((z1 g hg i n).1 ⟨_,hi,hn⟩).1.2⟩
 ·obtain ⟨g,hg,rfl⟩:=z6 p hp
  obtain ⟨t,n,hm⟩:=h.ne g hg
  exact ⟨t,n,(L7 (T:=T) (h.asc g hg) t n).2 hm⟩
 ·obtain ⟨g,hg,he⟩:=h.all t n ⟨ht,hn⟩
  exact ⟨E8 g.2,List.mem_map.2 ⟨g,hg,rfl⟩,(z1 g hg t n).2 ⟨⟨ht,hn⟩,he.symm⟩⟩
 ·obtain ⟨g,hg,rfl⟩:=z6 p hp
  obtain ⟨⟨q1,q2⟩,q3⟩:=(z1 g hg t n).1 hm
  rw [z1 g hg];constructor
  ·rintro ⟨⟨h1,h2⟩,h3⟩
   exact ⟨h1,h2,(x1i hl q1 h1 n n').1 (q3.trans h3.symm)⟩
  ·rintro ⟨h1,h2,h3⟩
   exact ⟨⟨h1,h2⟩,((x1i hl q1 h1 n n').2 h3).symm.trans q3⟩
 ·unfold W9;rw [List.pairwise_map];refine h.ord.imp_of_mem (fun {a b} ha hb hab=> ?_)
  obtain ⟨t,n,e1,e2⟩:=hab
  exact ⟨t,n,(L7 (T:=T) (h.asc a ha) t n).2 e1,fun t' n' hm=>e2 t' n' ((L7 (T:=T) (h.asc b hb) t' n').1 hm)⟩
theorem A4 {T:Nat} (hT:0<T) {l:List Prd} (hl:∀p∈l,PCk T p):W9 T l=Q0 T l:=by
 obtain ⟨a1,a2⟩:=Pe hl
 obtain ⟨b1,b2⟩:=Ua hT hl
 exact a1.unique b1 a2 b2
end Go.Abs
namespace Go.Abs
structure Sy where
 ty:Int
 num:Int
deriving Inhabited,DecidableEq
structure Mv where
 src:Int
 dst:Int
 on:Prd
deriving Inhabited
structure Aut where
 types:Int
 fin:List Bool
 mv:List Mv
deriving Inhabited
def Ud:Aut:=⟨0,[],[]⟩
def y0u:List (List Iv)→Int
 |[]=>0
 |s::r=>if ckR s≠0 then ckR s else y0u r
def Ev (T:Int) (p:Prd):Int:=if T<1∨16<T then 2 else if (p.length:Int)≠T then 15 else y0u p
def y0e (T:Int) (n:Nat):List Mv→Int
 |[]=>0
 |m::r=>if ¬((0≤m.src∧m.src<n)∧(0≤m.dst∧m.dst<n)) then 2 else if Ev T m.on≠0 then Ev T m.on else y0e T n r
def Wt (a:Aut):Int:=if a.types<1∨16<a.types then 2 else if a.fin.length<1∨256<a.fin.length∨2048<a.mv.length then 5 else y0e a.types a.fin.length a.mv
theorem q0r:∀(p:List (List Iv)),y0u p=0↔∀s∈p,CanonL s
 |[]=>by simp [y0u]
 |s::r=>by
  rw [y0u]
  by_cases h:ckR s=0
  ·rw [if_neg (fun k=>k h),q0r r]
   simp [(Xm s).1 h]
  ·rw [if_pos h];refine ⟨fun k=>absurd k h,fun k=>absurd ((Xm s).2 (k s (by simp))) h⟩
theorem Eh (T:Int) (p:Prd):Ev T p=0↔(1≤T∧T≤16)∧PCk T.toNat p:=by
 unfold Ev PCk
 by_cases h1:T<1∨16<T
 ·rw [if_pos h1];exact ⟨fun h=>by omega,fun h=>by omega⟩
 ·rw [if_neg h1]
  by_cases h2:(p.length:Int)≠T
  ·rw [if_pos h2];exact ⟨fun h=>by omega,fun h=>by omega⟩
  ·rw [if_neg h2,q0r];exact ⟨fun h=>⟨by omega,by omega,h⟩,fun h=>h.2.2⟩
structure OkMv (T:Nat) (n:Nat) (m:Mv):Prop where
 src:0≤m.src∧m.src<n
 dst:0≤m.dst∧m.dst<n
 on:PCk T m.on
structure OkA (a:Aut):Prop where
 types:1≤a.types∧a.types≤16
 fin:1≤a.fin.length∧a.fin.length≤256
 mvs:a.mv.length≤2048
 mv:∀m∈a.mv,OkMv a.types.toNat a.fin.length m
theorem Mo {T:Int} (hT:1≤T∧T≤16) (n:Nat):∀(l:List Mv),y0e T n l=0↔∀m∈l,OkMv T.toNat n m
 |[]=>by simp [y0e]
 |m::r=>by
  rw [y0e]
  by_cases h1:(0≤m.src∧m.src<n)∧(0≤m.dst∧m.dst<n)
  ·rw [if_neg (fun k=>k h1)]
   by_cases h2:Ev T m.on=0
   ·rw [if_neg (fun k=>k h2),Mo hT n r]
    have h3:=((Eh T m.on).1 h2).2
    constructor
    ·intro h x hx
     rcases List.mem_cons.1 hx with rfl|hx
     ·exact ⟨h1.1,h1.2,h3⟩
     ·exact h x hx
    ·exact fun h x hx=>h x (by simp [hx])
   ·rw [if_pos h2];exact ⟨fun h=>absurd h h2,fun h=>absurd ((Eh T m.on).2 ⟨hT,(h m (by simp)).on⟩) h2⟩
  ·rw [if_pos h1];exact ⟨fun h=>(by cases h),fun h=>absurd ⟨(h m (by simp)).src,(h m (by simp)).dst⟩ h1⟩
theorem P7 (a:Aut):Wt a=0↔OkA a:=by
 unfold Wt
 by_cases h1:a.types<1∨16<a.types
 ·rw [if_pos h1];exact ⟨fun h=>(by cases h),fun h=>by have:=h.types;omega⟩
 ·rw [if_neg h1]
  by_cases h2:a.fin.length<1∨256<a.fin.length∨2048<a.mv.length
  ·rw [if_pos h2];exact ⟨fun h=>(by cases h),fun h=>by have:=h.fin;have:=h.mvs;omega⟩
  ·rw [if_neg h2,Mo (by omega)]
   exact ⟨fun h=>⟨by omega,by omega,by omega,h⟩,fun h=>h.mv⟩
def Yl (p:Prd) (x:Sy):Bool:=decide (0≤x.ty) && decide (x.ty<p.length) && Ot (p.getD x.ty.toNat []) x.num
def Vr (T:Int) (x:Sy):Int:=if x.ty<0∨T≤x.ty then 6 else if x.num< -1099511627776∨1099511627776<x.num then 2 else 0
theorem w1k (T:Int) (x:Sy):Vr T x=0↔(0≤x.ty∧x.ty<T)∧inR x.num:=by
 unfold Vr inR;split
 ·constructor
  ·intro h;cases h
  ·intro h;omega
 ·split
  ·constructor
   ·intro h;cases h
   ·intro h;omega
  ·constructor
   ·intro _;omega
   ·intro _;rfl
theorem Rk {T:Nat} {p:Prd} (hp:p.length=T) (x:Sy) (hx:0≤x.ty):Yl p x=true↔PM p x.ty.toNat x.num:=by
 unfold Yl
 by_cases h:x.ty<p.length
 ·have h1:x.ty.toNat<T:=by omega
  rw [←Vd hp h1]
  simp [h,hx]
 ·have:¬PM p x.ty.toNat x.num:=by
   rintro ⟨s,hs,_⟩
   have:=(List.getElem?_eq_some_iff.1 hs).1
   omega
  simp [h,this]
def Ti (n:Nat):List Int:=(List.range n).map fun i:Nat=>(i:Int)
theorem Tq {n:Nat} {z:Int}:z∈Ti n↔0≤z∧z<n:=by
 unfold Ti;rw [List.mem_map];constructor
 ·rintro ⟨i,hi,rfl⟩
  have:=List.mem_range.1 hi
  omega
 ·rintro ⟨h1,h2⟩
  exact ⟨z.toNat,List.mem_range.2 (by omega),by omega⟩
theorem G7 (n:Nat):(Ti n).Pairwise (·<·):=by
 unfold Ti;rw [List.pairwise_map];exact List.pairwise_lt_range.imp (fun h=>by omega)
def d1o (a:Aut) (l:List Int) (x:Sy) (j:Int):Bool:=a.mv.any fun m=>l.contains m.src && Yl m.on x && decide (m.dst=j)
def Wg (a:Aut) (l:List Int) (x:Sy):List Int:=(Ti a.fin.length).filter (d1o a l x)
def j1j (a:Aut) (l:List Int) (x:Sy):List Int:=Go.Lib.compact (Rt ((a.mv.filter fun m=>l.contains m.src && Yl m.on x).map (·.dst)))
theorem y1i (zs:List Int):(Rt zs).Pairwise (·≤·):=by
 have:=List.pairwise_mergeSort (le:=fun x y:Int=>decide (x≤y)) (fun a b c h1 h2=>by simp at h1 h2 ⊢;omega) (fun a b=>by simp;omega) zs
 simpa [Rt] using this
theorem Cy (zs:List Int):(Go.Lib.compact (Rt zs)).Pairwise (·<·)∧∀z,z∈Go.Lib.compact (Rt zs)↔z∈zs:=by
 have h:=C4 _ (y1i zs) _ (Nat.le_refl _)
 refine ⟨h.1,fun z=> ?_⟩
 have h2:=h.2 z
 rw [List.take_length] at h2;rw [Go.Lib.compact,h2,Rt,List.mem_mergeSort]
theorem Yx {a b:List Int} (ha:a.Pairwise (·<·)) (hb:b.Pairwise (·<·)) (h:∀z,z∈a↔z∈b):a=b:=by
 have hn:∀ {l:List Int},l.Pairwise (·<·)→l.Nodup:=fun hl=>hl.imp (fun h e=>by omega)
 exact List.Perm.eq_of_pairwise (le:=(·<·)) (fun a b _ _ h1 h2=>by omega) ha hb ((List.perm_ext_iff_of_nodup (hn ha) (hn hb)).2 h)
theorem Ul (a:Aut) (l:List Int) (x:Sy):(Wg a l x).Pairwise (·<·):=(G7 _).filter _
theorem Et {a:Aut} {l:List Int} {x:Sy} {j:Int}:j∈Wg a l x↔(0≤j∧j<a.fin.length)∧∃m∈a.mv,m.src∈l∧Yl m.on x=true∧m.dst=j:=by
 unfold Wg d1o;rw [List.mem_filter,Tq,List.any_eq_true]
 simp [and_assoc]
theorem k1z {a:Aut} (h:∀m∈a.mv,0≤m.dst∧m.dst<a.fin.length) (l:List Int) (x:Sy):j1j a l x=Wg a l x:=by
 obtain ⟨h1,h2⟩:=Cy ((a.mv.filter fun m=>l.contains m.src && Yl m.on x).map (·.dst))
 refine Yx h1 (Ul a l x) fun z=> ?_
 rw [j1j,h2,Et];constructor
 ·intro hz
  obtain ⟨m,hm,rfl⟩:=List.mem_map.1 hz
  obtain ⟨hm,hc⟩:=List.mem_filter.1 hm
  simp at hc;exact ⟨h m hm,m,hm,hc.1,hc.2,rfl⟩
 ·rintro ⟨_,m,hm,c1,c2,rfl⟩
  exact List.mem_map.2 ⟨m,List.mem_filter.2 ⟨hm,by simp [c1,c2]⟩,rfl⟩
theorem Pu {a:Aut} {l:List Int} {x:Sy}:∀j∈Wg a l x,0≤j∧j<a.fin.length:=fun j hj=>(Et.1 hj).1
def Qm (p:Prd):Sy:=⟨(Qw p 0).1,(Qw p 0).2⟩
def Hl (Q:List (List Int)) (x:List Int):List (List Int):=if x=[]∨x∈Q then Q else Q++[x]
def W8 (Q:List (List Int)) (xs:List (List Int)):List (List Int):=xs.foldl Hl Q
def Rv (a:Aut) (cl:List Prd) (l:List Int):List (List Int):=cl.map fun c=>Wg a l (Qm c)
def y00 (a:Aut) (cl:List Prd):Nat→Nat→List (List Int)→Option (List (List Int))
 |0,_,_=>none
 |f+1,i,Q=>match Q[i]? with
  |some l=>if 256<(W8 Q (Rv a cl l)).length then none else y00 a cl f (i+1) (W8 Q (Rv a cl l))
  |none=>some Q
theorem w1h (Q:List (List Int)) (x:List Int):∃R,Hl Q x=Q++R∧∀y∈R,y=x∧x≠[]:=by
 unfold Hl;split
 ·exact ⟨[],by simp,by simp⟩
 ·rename_i h
  exact ⟨[x],rfl,fun y hy=>⟨List.mem_singleton.1 hy,fun e=>h (.inl e)⟩⟩
theorem Y1:∀(xs:List (List Int)) (Q:List (List Int)),∃R,W8 Q xs=Q++R∧∀y∈R,y∈xs∧y≠[]
 |[],Q=>⟨[],by simp [W8],by simp⟩
 |x::xs,Q=>by
  obtain ⟨R1,h1,h2⟩:=w1h Q x
  obtain ⟨R2,h3,h4⟩:=Y1 xs (Hl Q x)
  refine ⟨R1++R2,?_,fun y hy=> ?_⟩
  ·show W8 (Hl Q x) xs=_
   rw [h3,h1,List.append_assoc]
  ·rcases List.mem_append.1 hy with hy|hy
   ·obtain ⟨rfl,hn⟩:=h2 y hy
    exact ⟨by simp,hn⟩
   ·exact ⟨by simp [(h4 y hy).1],(h4 y hy).2⟩
theorem z0h (Q xs:List (List Int)):Q.length≤(W8 Q xs).length:=by
 obtain ⟨R,h,_⟩:=Y1 xs Q
 rw [h];simp
theorem c03 {Q:List (List Int)} {x:List Int} (hx:x≠[]):x∈Hl Q x:=by
 unfold Hl;split
 ·rename_i h
  rcases h with h|h
  ·exact absurd h hx
  ·exact h
 ·simp
theorem J1:∀ {xs:List (List Int)} {Q:List (List Int)} {x:List Int},x∈xs→x≠[]→x∈W8 Q xs
 |[],_,_,h,_=>by cases h
 |y::xs,Q,x,h,hn=>by
  show x∈W8 (Hl Q y) xs
  rcases List.mem_cons.1 h with rfl|h
  ·obtain ⟨R,e,_⟩:=Y1 xs (Hl Q x)
   rw [e];exact List.mem_append_left _ (c03 hn)
  ·exact J1 h hn
def x1q (Q:List (List Int)):List (List Int)→Option (List (List Int))
 |[]=>some Q
 |x::xs=>if 256<(Hl Q x).length then none else x1q (Hl Q x) xs
end Go.Abs
namespace Go.Abs
def Rb (p q:Prd):Prd:=List.zipWith (fun a b=>Ea (a++b)) p q
theorem Pf {T:Nat} {p q:Prd} (hp:PWf T p) (hq:PWf T q) (t:Nat) (n:Int):PM (Rb p q) t n↔PM p t n∨PM q t n:=by
 have hf:∀ {a b:List Iv},a∈p→b∈q→∀x∈a++b,x.lo≤x.hi:=fun ha hb x hx=>by
  rcases List.mem_append.1 hx with hx|hx
  ·exact (hp.2 _ ha).1.1 x hx
  ·exact (hq.2 _ hb).1.1 x hx
 unfold PM Rb;rw [List.getElem?_zipWith];constructor
 ·rintro ⟨s,hs,hm⟩
  cases h1:p[t]? with
  |none=>rw [h1] at hs;simp at hs
  |some a=>
   cases h2:q[t]? with
   |none=>rw [h1,h2] at hs;simp at hs
   |some b=>
    rw [h1,h2] at hs;simp at hs;subst hs
    have:=((Y8 _ (hf (List.mem_of_getElem? h1) (List.mem_of_getElem? h2))).2 n).1 hm
    rcases (Zv ..).1 this with h|h
    ·exact .inl ⟨a,rfl,h⟩
    ·exact .inr ⟨b,rfl,h⟩
 ·intro h
  have z1:t<T:=by
   rcases h with ⟨s,hs,_⟩|⟨s,hs,_⟩
   ·rw [←hp.1];exact (List.getElem?_eq_some_iff.1 hs).1
   ·rw [←hq.1];exact (List.getElem?_eq_some_iff.1 hs).1
  have h1:t<p.length:=by rw [hp.1];exact z1
  have h2:t<q.length:=by rw [hq.1];exact z1
  rw [List.getElem?_eq_getElem h1,List.getElem?_eq_getElem h2] at h ⊢;refine ⟨_,rfl,((Y8 _ (hf (List.getElem_mem h1) (List.getElem_mem h2))).2 n).2 ((Zv ..).2 ?_)⟩
  rcases h with ⟨s,hs,hm⟩|⟨s,hs,hm⟩
  ·cases hs;exact .inl hm
  ·cases hs;exact .inr hm
theorem G4 {T:Nat} {p q:Prd} (hp:PWf T p) (hq:PWf T q):PWf T (Rb p q):=by
 refine ⟨by simp [Rb,hp.1,hq.1],fun s hs=> ?_⟩
 obtain ⟨i,hi⟩:=List.mem_iff_getElem?.1 hs
 have z1:=hi
 unfold Rb at hi;rw [List.getElem?_zipWith] at hi
 cases h1:p[i]? with
 |none=>rw [h1] at hi;simp at hi
 |some a=>
  cases h2:q[i]? with
  |none=>rw [h1,h2] at hi;simp at hi
  |some b=>
   rw [h1,h2] at hi;simp at hi;subst hi;refine ⟨(Y8 _ fun x hx=> ?_).1,fun n hn=> ?_⟩
   ·rcases List.mem_append.1 hx with hx|hx
    ·exact (hp.2 _ (List.mem_of_getElem? h1)).1.1 x hx
    ·exact (hq.2 _ (List.mem_of_getElem? h2)).1.1 x hx
   ·rcases (Pf hp hq i n).1 ⟨_,z1,hn⟩ with h|h
    ·exact (hp.lt h).2
    ·exact (hq.lt h).2
def v0g (Q:List (List Int)) (x:List Int):Option Nat:=Q.findIdx? fun y=>decide (y=x)
theorem G9 {Q:List (List Int)} {x:List Int} {t:Nat} (h:v0g Q x=some t):Q[t]? =some x:=by
 unfold v0g at h
 obtain ⟨h1,h2,_⟩:=List.findIdx?_eq_some_iff_getElem.1 h
 rw [List.getElem?_eq_getElem h1]
 simpa using h2
theorem u06 {Q:List (List Int)} (hn:Q.Nodup) {t:Nat} {x:List Int} (h:Q[t]? =some x):v0g Q x=some t:=by
 unfold v0g
 obtain ⟨h1,h2⟩:=List.getElem?_eq_some_iff.1 h
 refine List.findIdx?_eq_some_iff_getElem.2 ⟨h1,by simpa using h2,fun j hj=> ?_⟩
 have z1:Q[j]≠Q[t]:=fun e=>by
  have:=(List.getElem_inj hn).1 e
  omega
 rw [h2] at z1
 simpa using z1
def Te (n:Nat) (g:List Mv) (to:Nat) (c:Prd):List Mv:=match g.findIdx? fun m:Mv=>decide (m.dst=(to:Int)) with
 |none=>g++[⟨n,to,c⟩]
 |some i=>match g[i]? with
  |some m=>g.set i { m with on:=Rb m.on c }
  |none=>g
def Vo (a:Aut) (cl:List Prd) (Q:List (List Int)) (n:Nat) (l:List Int):List Mv:=
 cl.foldl (fun g c=>match v0g Q (Wg a l (Qm c)) with|some t=>Te n g t c|none=>g) []
def Bc (a:Aut) (cl:List Prd) (Q:List (List Int)):List Mv:=(List.range Q.length).flatMap fun n=>Vo a cl Q n (Q.getD n [])
def Fq (a:Aut) (l:List Int):Bool:=l.any fun s=>a.fin.getD s.toNat false
def Y3 (a:Aut) (cl:List Prd) (Q:List (List Int)):Aut:=⟨a.types,Q.map (Fq a),Bc a cl Q⟩
structure MInv (T N n:Nat) (D:Nat→Nat→Int→Prop) (g:List Mv):Prop where
 wf:∀m∈g,PWf T m.on
 src:∀m∈g,m.src=n
 dst:∀m∈g,∃t:Nat,t<N∧m.dst=t
 nd:g.Pairwise (fun m k=>m.dst≠k.dst)
 mem:∀m∈g,∀t:Nat,m.dst=t→∀ty y,PM m.on ty y↔D t ty y
 all:∀t ty y,D t ty y→∃m∈g,m.dst=(t:Int)
theorem MInv.add {T N n:Nat} {D:Nat→Nat→Int→Prop} {g:List Mv} (h:MInv T N n D g) {to:Nat} (ht:to<N) {c:Prd} (hc:PWf T c) (zh:∃ty y,PM c ty y):
  MInv T N n (fun t ty y=>D t ty y∨(t=to∧PM c ty y)) (Te n g to c):=by
 unfold Te
 cases hf:g.findIdx? fun m:Mv=>decide (m.dst=(to:Int)) with
 |none=>
  rw [List.findIdx?_eq_none_iff] at hf
  have z7:∀m∈g,m.dst≠(to:Int):=fun m hm=>by simpa using hf m hm
  show MInv T N n _ (g++[⟨n,to,c⟩])
  have z1:∀m∈g++[(⟨n,to,c⟩:Mv)],m∈g∨m=⟨n,to,c⟩:=fun m hm=>by
   rcases List.mem_append.1 hm with hm|hm
   ·exact .inl hm
   ·exact .inr (List.mem_singleton.1 hm)
  have hD:∀ty y,¬D to ty y:=fun ty y hd=>by
   obtain ⟨m,hm,e⟩:=h.all to ty y hd
   exact z7 m hm e
  refine ⟨fun m hm=> ?_,fun m hm=> ?_,fun m hm=> ?_,?_,fun m hm t e ty y=> ?_,fun t ty y hd=> ?_⟩
  ·rcases z1 m hm with hm|rfl
   ·exact h.wf m hm
   ·exact hc
  ·rcases z1 m hm with hm|rfl
   ·exact h.src m hm
   ·rfl
  ·rcases z1 m hm with hm|rfl
   ·exact h.dst m hm
   ·exact ⟨to,ht,rfl⟩
  ·exact List.pairwise_append.2 ⟨h.nd,by simp,fun m hm k hk=>by obtain rfl:=List.mem_singleton.1 hk;exact z7 m hm⟩
  ·rcases z1 m hm with hm'|rfl
   ·rw [h.mem m hm' t e];constructor
    ·exact fun hd=> .inl hd
    ·rintro (hd|⟨e2,_⟩)
     ·exact hd
     ·exact absurd (by rw [e,e2]) (z7 m hm')
   ·have:t=to:=by simp at e;omega
    subst this;constructor
    ·exact fun hd=> .inr ⟨rfl,hd⟩
    ·rintro (hd|⟨_,hd⟩)
     ·exact absurd hd (hD ty y)
     ·exact hd
  ·rcases hd with hd|⟨rfl,_⟩
   ·obtain ⟨m,hm,e⟩:=h.all t ty y hd
    exact ⟨m,by simp [hm],e⟩
   ·exact ⟨⟨n,t,c⟩,by simp,rfl⟩
 |some i=>
  obtain ⟨hi,zf,_⟩:=List.findIdx?_eq_some_iff_getElem.1 hf
  simp only [List.getElem?_eq_getElem hi]
  have z6:g[i].dst=(to:Int):=by simpa using zf
  have z8:=List.getElem_mem hi
  have hw:=h.wf _ z8
  have z1:∀m∈g.set i { g[i] with on:=Rb g[i].on c },(m∈g∧m.dst≠(to:Int))∨m={ g[i] with on:=Rb g[i].on c }:=fun m hm=>by
   obtain ⟨j,hj⟩:=List.mem_iff_getElem?.1 hm
   by_cases hij:i=j
   ·subst hij;rw [List.getElem?_set_self hi] at hj;exact .inr (Option.some.inj hj).symm
   ·rw [List.getElem?_set_ne hij] at hj
    obtain ⟨zc,zd⟩:=List.getElem?_eq_some_iff.1 hj
    refine .inl ⟨List.mem_of_getElem? hj,fun e=> ?_⟩
    rcases Nat.lt_or_gt_of_ne hij with hlt|hgt
    ·exact List.pairwise_iff_getElem.1 h.nd i j hi zc hlt (by rw [zd,e,z6])
    ·exact List.pairwise_iff_getElem.1 h.nd j i zc hi hgt (by rw [zd,e,z6])
  refine ⟨fun m hm=> ?_,fun m hm=> ?_,fun m hm=> ?_,?_,fun m hm t e ty y=> ?_,fun t ty y hd=> ?_⟩
  ·rcases z1 m hm with ⟨hm,_⟩|rfl
   ·exact h.wf m hm
   ·exact G4 hw hc
  ·rcases z1 m hm with ⟨hm,_⟩|rfl
   ·exact h.src m hm
   ·have:=h.src g[i] z8
    simpa using this
  ·rcases z1 m hm with ⟨hm,_⟩|rfl
   ·exact h.dst m hm
   ·exact ⟨to,ht,z6⟩
  ·have za:(g.set i { g[i] with on:=Rb g[i].on c }).map (·.dst)=g.map (·.dst):=by
    apply List.ext_getElem?
    intro j;rw [List.getElem?_map,List.getElem?_map]
    by_cases hij:i=j
    ·subst hij;rw [List.getElem?_set_self hi,List.getElem?_eq_getElem hi];rfl
    ·rw [List.getElem?_set_ne hij]
   have hp:(g.map (·.dst)).Pairwise (·≠·):=List.pairwise_map.2 h.nd
   rw [←za] at hp;exact List.pairwise_map.1 hp
  ·rcases z1 m hm with ⟨hm,zg⟩|rfl
   ·rw [h.mem m hm t e];constructor
    ·exact fun hd=> .inl hd
    ·rintro (hd|⟨rfl,_⟩)
     ·exact hd
     ·exact absurd e zg
   ·have:t=to:=by simp only at e;omega
    subst this
    have zb:=Pf hw hc ty y
    have ze:=h.mem _ z8 t z6 ty y
    constructor
    ·intro hd
     rcases zb.1 hd with hd|hd
     ·exact .inl (ze.1 hd)
     ·exact .inr ⟨rfl,hd⟩
    ·rintro (hd|⟨_,hd⟩)
     ·exact zb.2 (.inl (ze.2 hd))
     ·exact zb.2 (.inr hd)
  ·rcases hd with hd|⟨rfl,_⟩
   ·obtain ⟨m,hm,e⟩:=h.all t ty y hd
    obtain ⟨j,hj⟩:=List.mem_iff_getElem?.1 hm
    by_cases hij:i=j
    ·subst hij;rw [List.getElem?_eq_getElem hi] at hj
     cases hj
     exact ⟨_,List.mem_of_getElem? (List.getElem?_set_self hi),e⟩
    ·exact ⟨m,List.mem_of_getElem? (by rw [List.getElem?_set_ne hij];exact hj),e⟩
   ·exact ⟨_,List.mem_of_getElem? (List.getElem?_set_self hi),z6⟩
theorem MInv.congr {T N n:Nat} {D D':Nat→Nat→Int→Prop} {g:List Mv} (h:MInv T N n D g) (e:∀t ty y,D t ty y↔D' t ty y):MInv T N n D' g:=by
 have:D=D':=funext fun t=>funext fun ty=>funext fun y=>propext (e t ty y)
 rw [←this];exact h
theorem P9 {T:Nat} {a:Aut} {cl:List Prd} {Q:List (List Int)} (n:Nat) (l:List Int) (hw:∀c∈cl,PWf T c∧∃ty y,PM c ty y):
  MInv T Q.length n (fun t ty y=>∃c∈cl,v0g Q (Wg a l (Qm c))=some t∧PM c ty y) (Vo a cl Q n l):=by
 have key:∀(r:List Prd) (D:Nat→Nat→Int→Prop) (g:List Mv),MInv T Q.length n D g→(∀c∈r,PWf T c∧∃ty y,PM c ty y)→
   MInv T Q.length n (fun t ty y=>D t ty y∨∃c∈r,v0g Q (Wg a l (Qm c))=some t∧PM c ty y) (r.foldl (fun g c=>match v0g Q (Wg a l (Qm c)) with|some t=>Te n g t c|none=>g) g):=by
  intro r
  induction r with
  |nil=>intro D g h _;exact h.congr (fun t ty y=>by simp)
  |cons c r ih=>
   intro D g h hr;rw [List.foldl_cons]
   cases hx:v0g Q (Wg a l (Qm c)) with
   |none=>
    refine (ih D g h (fun d hd=>hr d (by simp [hd]))).congr (fun t ty y=> ?_)
    simp [hx]
   |some to=>
    have z1:=(List.getElem?_eq_some_iff.1 (G9 hx)).1
    have hc:=hr c (by simp)
    refine (ih _ _ (h.add z1 hc.1 hc.2) (fun d hd=>hr d (by simp [hd]))).congr (fun t ty y=> ?_)
    simp only [List.mem_cons,exists_eq_or_imp,hx,Option.some.injEq,or_assoc];constructor
    ·rintro (h|⟨e,h⟩|h)
     ·exact .inl h
     ·exact .inr (.inl ⟨e.symm,h⟩)
     ·exact .inr (.inr h)
    ·rintro (h|⟨e,h⟩|h)
     ·exact .inl h
     ·exact .inr (.inl ⟨e.symm,h⟩)
     ·exact .inr (.inr h)
 have h0:MInv T Q.length n (fun _ _ _=>False) []:=⟨by simp,by simp,by simp,by simp,by simp,fun _ _ _ h=>h.elim⟩
 exact (key cl _ [] h0 hw).congr (fun t ty y=>by simp)
end Go.Abs
namespace Go.Abs
structure Cls (a:Aut) (cl:List Prd):Prop where
 ok:OkA a
 prts:Prts a.types.toNat (a.mv.map (·.on)) cl
 wf:∀c∈cl,PWf a.types.toNat c∧∃ty y,PM c ty y
theorem x1d {a:Aut} (h:OkA a):Cls a (Q0 a.types.toNat (a.mv.map (·.on))):=by
 have hT:0<a.types.toNat:=by have:=h.types;omega
 have hp:=(Ua hT (l:=a.mv.map (·.on)) (fun p hp=>by obtain ⟨m,hm,rfl⟩:=List.mem_map.1 hp;exact (h.mv m hm).on)).1
 exact ⟨h,hp,fun c hc=>⟨hp.wf c hc,hp.ne c hc⟩⟩
def Rj (a:Aut) (x:Sy):Prop:=(0≤x.ty∧x.ty<a.types)∧inR x.num
theorem w0y {a:Aut} {l:List Int} {x y:Sy} (h:∀m∈a.mv,Yl m.on x=Yl m.on y):Wg a l x=Wg a l y:=by
 refine Yx (Ul ..) (Ul ..) fun z=> ?_
 rw [Et,Et];constructor
 ·rintro ⟨h1,m,hm,h2,h3,h4⟩;exact ⟨h1,m,hm,h2,by rw [←h m hm];exact h3,h4⟩
 ·rintro ⟨h1,m,hm,h2,h3,h4⟩;exact ⟨h1,m,hm,h2,by rw [h m hm];exact h3,h4⟩
theorem Cls.of {a:Aut} {cl:List Prd} (h:Cls a cl) {x:Sy} (hx:Rj a x):∃c∈cl,PM c x.ty.toNat x.num∧∀l,Wg a l x=Wg a l (Qm c):=by
 obtain ⟨c,hc,hm⟩:=h.prts.all x.ty.toNat x.num (by have:=hx.1;omega) hx.2
 refine ⟨c,hc,hm,fun l=>w0y fun m z1=> ?_⟩
 have h1:=(Wv (h.wf c hc).1 (h.wf c hc).2).1
 have h2:=((h.prts.cls c hc _ _ hm _ _).1 h1).2.2 m.on (List.mem_map.2 ⟨m,z1,rfl⟩)
 have hl:=(h.ok.mv m z1).on.1
 rw [Bool.eq_iff_iff,Rk hl x hx.1.1,Rk hl (Qm c) (by simp [Qm])]
 simpa [Qm] using h2
theorem Cls.same {a:Aut} {cl:List Prd} (h:Cls a cl) {c:Prd} (hc:c∈cl) {x:Sy} (hx:Rj a x) (hm:PM c x.ty.toNat x.num) (l:List Int):Wg a l x=Wg a l (Qm c):=by
 obtain ⟨d,hd,z1,e⟩:=h.of hx
 rw [e l,h.prts.disj hd hc z1 hm]
structure Sub (a:Aut) (cl:List Prd) (Q:List (List Int)):Prop where
 first:Q[0]? =some [0]
 nd:Q.Nodup
 ne:∀l∈Q,l≠[]
 lim:Q.length≤256
 elem:∀l∈Q,l.Pairwise (·<·)∧∀s∈l,0≤s∧s<a.fin.length
 closed:∀l∈Q,∀c∈cl,Wg a l (Qm c)=[]∨Wg a l (Qm c)∈Q
theorem x0q {Q:List (List Int)} {x:List Int} (h:Q.Nodup):(Hl Q x).Nodup:=by
 unfold Hl;split
 ·exact h
 ·rename_i hx
  exact List.nodup_append.2 ⟨h,by simp,fun a ha b hb e=>by
   obtain rfl:=List.mem_singleton.1 hb
   subst e;exact hx (.inr ha)⟩
theorem Dc:∀(xs:List (List Int)) {Q:List (List Int)},Q.Nodup→(W8 Q xs).Nodup
 |[],_,h=>h
 |x::xs,Q,h=>Dc xs (x0q (x:=x) h)
theorem k0v {a:Aut} (ha:OkA a) (cl:List Prd):∀(f i:Nat) (Q R:List (List Int)),y00 a cl f i Q=some R→Q[0]? =some [0]→Q.Nodup→(∀l∈Q,l≠[])→Q.length≤256→(∀l∈Q,l.Pairwise (·<·)∧∀s∈l,0≤s∧s<a.fin.length)→
  (∀j,j<i→∀l,Q[j]? =some l→∀c∈cl,Wg a l (Qm c)=[]∨Wg a l (Qm c)∈Q)→Sub a cl R
 |0,_,_,_,h,_,_,_,_,_,_=>by cases h
 |f+1,i,Q,R,h,h1,h2,h3,h4,h5,h6=>by
  rw [y00] at h
  cases hq:Q[i]? with
  |none=>
   rw [hq] at h;simp only [Option.some.injEq] at h;subst h
   have hi:Q.length≤i:=List.getElem?_eq_none_iff.1 hq
   refine ⟨h1,h2,h3,h4,h5,fun l hl c hc=> ?_⟩
   obtain ⟨j,hj⟩:=List.mem_iff_getElem?.1 hl
   exact h6 j (by have:=(List.getElem?_eq_some_iff.1 hj).1;omega) l hj c hc
  |some l=>
   rw [hq] at h;simp only at h
   by_cases hlim:256<(W8 Q (Rv a cl l)).length
   ·rw [if_pos hlim] at h;cases h
   ·rw [if_neg hlim] at h
    obtain ⟨X,hX,z6⟩:=Y1 (Rv a cl l) Q
    have hlen:0<Q.length:=(List.getElem?_eq_some_iff.1 h1).1
    have z1:∀y∈W8 Q (Rv a cl l),y∈Q∨(y≠[]∧∃c∈cl,y=Wg a l (Qm c)):=fun y hy=>by
     rw [hX] at hy
     rcases List.mem_append.1 hy with hy|hy
     ·exact .inl hy
     ·obtain ⟨p1,p2⟩:=z6 y hy
      obtain ⟨c,hc,rfl⟩:=List.mem_map.1 p1
      exact .inr ⟨p2,c,hc,rfl⟩
    refine k0v ha cl f (i+1) _ R h ?_ (Dc _ h2) ?_ (by omega) ?_ ?_
    ·rw [hX,List.getElem?_append_left hlen];exact h1
    ·intro y hy
     rcases z1 y hy with hy|⟨hy,_⟩
     ·exact h3 y hy
     ·exact hy
    ·intro y hy
     rcases z1 y hy with hy|⟨_,c,_,rfl⟩
     ·exact h5 y hy
     ·exact ⟨Ul ..,Pu⟩
    ·intro j hj k hk c hc
     by_cases hji:j<i
     ·have z7:j<Q.length:=by have:=(List.getElem?_eq_some_iff.1 hq).1;omega
      rw [hX,List.getElem?_append_left z7] at hk
      rcases h6 j hji k hk c hc with h7|h7
      ·exact .inl h7
      ·right;rw [hX];exact List.mem_append_left _ h7
     ·have:j=i:=by omega
      subst this;rw [hX,List.getElem?_append_left (List.getElem?_eq_some_iff.1 hq).1,hq] at hk
      cases hk
      by_cases hn:Wg a l (Qm c)=[]
      ·exact .inl hn
      ·exact .inr (J1 (List.mem_map.2 ⟨c,hc,rfl⟩) hn)
def Zh (a:Aut) (cl:List Prd):Option (List (List Int)):=y00 a cl 257 0 [[0]]
theorem u0l {a:Aut} (ha:OkA a) {cl:List Prd} {Q:List (List Int)} (h:Zh a cl=some Q):Sub a cl Q:=
 k0v ha cl 257 0 [[0]] Q h rfl (by simp) (by simp) (by simp) (by intro l hl;obtain rfl:=List.mem_singleton.1 hl;exact ⟨by simp,fun s hs=>by obtain rfl:=List.mem_singleton.1 hs;have:=ha.fin;omega⟩) (fun j hj=>by omega)
theorem Sub.step {a:Aut} {cl:List Prd} {Q:List (List Int)} (hs:Sub a cl Q) (hc:Cls a cl) {l:List Int} (hl:l∈Q) {x:Sy} (hx:Rj a x):Wg a l x=[]∨Wg a l x∈Q:=by
 obtain ⟨c,h1,_,h3⟩:=hc.of hx
 rw [h3 l];exact hs.closed l hl c h1
theorem U9 {a:Aut} {cl:List Prd} {Q:List (List Int)} {m:Mv}:m∈Bc a cl Q↔∃n l,Q[n]? =some l∧m∈Vo a cl Q n l:=by
 unfold Bc;rw [List.mem_flatMap];constructor
 ·rintro ⟨n,hn,hm⟩
  have z1:=List.mem_range.1 hn
  refine ⟨n,Q[n],List.getElem?_eq_getElem z1,?_⟩
  simpa [List.getD,z1] using hm
 ·rintro ⟨n,l,hl,hm⟩
  have z1:=(List.getElem?_eq_some_iff.1 hl).1
  refine ⟨n,List.mem_range.2 z1,?_⟩
  simpa [List.getD,hl] using hm
theorem Dv {a:Aut} {cl:List Prd} {Q:List (List Int)} (hc:Cls a cl) (hs:Sub a cl Q) {n:Nat} {l:List Int} (hl:Q[n]? =some l) {x:Sy} (hx:Rj a x) (t:Nat):
  (∃m∈Bc a cl Q,m.src=(n:Int)∧m.dst=(t:Int)∧Yl m.on x=true)↔Q[t]? =some (Wg a l x):=by
 have hg:=P9 (a:=a) (Q:=Q) n l hc.wf
 have key:v0g Q (Wg a l x)=some t↔Q[t]? =some (Wg a l x):=⟨G9,u06 hs.nd⟩
 rw [←key];constructor
 ·rintro ⟨m,hm,h1,h2,h3⟩
  obtain ⟨n',l',hl',z6⟩:=U9.1 hm
  have z7:=P9 (a:=a) (Q:=Q) n' l' hc.wf
  have:n'=n:=by have:=z7.src m z6;omega
  subst this;rw [hl] at hl';cases hl'
  rw [Rk (hg.wf m z6).1 x hx.1.1] at h3
  obtain ⟨c,z1,e1,e2⟩:=(hg.mem m z6 t h2 _ _).1 h3
  rw [hc.same z1 hx e2];exact e1
 ·intro h
  obtain ⟨c,z1,e1,e2⟩:=hc.of hx
  rw [e2] at h
  obtain ⟨m,hm,hd⟩:=hg.all t _ _ ⟨c,z1,h,e1⟩
  refine ⟨m,U9.2 ⟨n,l,hl,hm⟩,hg.src m hm,hd,?_⟩;rw [Rk (hg.wf m hm).1 x hx.1.1];exact (hg.mem m hm t hd _ _).2 ⟨c,z1,h,e1⟩
theorem w1e {a:Aut} {cl:List Prd} {Q:List (List Int)} (hc:Cls a cl) (hs:Sub a cl Q) {n:Nat} {l:List Int} (hl:Q[n]? =some l) {x:Sy} (hx:Rj a x):
  (Wg a l x=[]∧Wg (Y3 a cl Q) [(n:Int)] x=[])∨∃t:Nat,Q[t]? =some (Wg a l x)∧Wg (Y3 a cl Q) [(n:Int)] x=[(t:Int)]:=by
 have z1:∀j,j∈Wg (Y3 a cl Q) [(n:Int)] x↔∃t:Nat,j=t∧Q[t]? =some (Wg a l x):=fun j=>by
  rw [Et];constructor
  ·rintro ⟨⟨h1,h2⟩,m,hm,h3,h4,h5⟩
   refine ⟨j.toNat,by omega,(Dv hc hs hl hx j.toNat).1 ⟨m,hm,List.mem_singleton.1 h3,by omega,h4⟩⟩
  ·rintro ⟨t,rfl,ht⟩
   obtain ⟨m,hm,h1,h2,h3⟩:=(Dv hc hs hl hx t).2 ht
   have:=(List.getElem?_eq_some_iff.1 ht).1
   exact ⟨⟨by omega,by simp [Y3];omega⟩,m,hm,by rw [h1];simp,h3,h2⟩
 rcases hs.step hc (List.mem_of_getElem? hl) hx with h0|h0
 ·refine .inl ⟨h0,List.eq_nil_iff_forall_not_mem.2 fun j hj=> ?_⟩
  obtain ⟨t,_,ht⟩:=(z1 j).1 hj
  rw [h0] at ht;exact hs.ne _ (List.mem_of_getElem? ht) rfl
 ·obtain ⟨t,ht⟩:=List.mem_iff_getElem?.1 h0
  refine .inr ⟨t,ht,Yx (Ul ..) (by simp) fun z=> ?_⟩
  rw [z1 z];constructor
  ·rintro ⟨u,rfl,hu⟩
   obtain ⟨h1,h2⟩:=List.getElem?_eq_some_iff.1 ht
   obtain ⟨h3,h4⟩:=List.getElem?_eq_some_iff.1 hu
   have:u=t:=(List.getElem_inj hs.nd).1 (by rw [h4,h2])
   simp [this]
  ·intro hz;exact ⟨t,List.mem_singleton.1 hz,ht⟩
def Xa (a:Aut) (l:List Int) (w:List Sy):List Int:=w.foldl (Wg a) l
def Nu (a:Aut) (w:List Sy):Bool:=Fq a (Xa a [0] w)
theorem Bb (a:Aut):∀w,Xa a [] w=[]
 |[]=>rfl
 |x::w=>by
  show Xa a (Wg a [] x) w=[]
  have:Wg a [] x=[]:=List.eq_nil_iff_forall_not_mem.2 fun j hj=>by
   obtain ⟨_,m,_,h,_⟩:=Et.1 hj
   cases h
  rw [this,Bb a w]
theorem v02 {a:Aut} {cl:List Prd} {Q:List (List Int)} (hc:Cls a cl) (hs:Sub a cl Q):∀(w:List Sy),(∀x∈w,Rj a x)→∀(n:Nat) (l:List Int),Q[n]? =some l→
  (Xa a l w=[]∧Xa (Y3 a cl Q) [(n:Int)] w=[])∨∃t:Nat,Q[t]? =some (Xa a l w)∧Xa (Y3 a cl Q) [(n:Int)] w=[(t:Int)]
 |[],_,n,l,hl=> .inr ⟨n,hl,rfl⟩
 |x::w,hw,n,l,hl=>by
  show (Xa a (Wg a l x) w=[]∧Xa (Y3 a cl Q) (Wg (Y3 a cl Q) [(n:Int)] x) w=[])∨∃t:Nat,Q[t]? =some (Xa a (Wg a l x) w)∧Xa (Y3 a cl Q) (Wg (Y3 a cl Q) [(n:Int)] x) w=[(t:Int)]
  rcases w1e hc hs hl (hw x (by simp)) with ⟨h1,h2⟩|⟨t,h1,h2⟩
  ·rw [h1,h2];exact .inl ⟨Bb _ _,Bb _ _⟩
  ·rw [h2];exact v02 hc hs w (fun y hy=>hw y (by simp [hy])) t _ h1
theorem u1v {a:Aut} {cl:List Prd} {Q:List (List Int)} (hc:Cls a cl) (hs:Sub a cl Q) {w:List Sy} (hw:∀x∈w,Rj a x):Nu (Y3 a cl Q) w=Nu a w:=by
 unfold Nu
 rcases v02 hc hs w hw 0 [0] hs.first with ⟨h1,h2⟩|⟨t,h1,h2⟩
 ·have z1:Xa (Y3 a cl Q) [0] w=[]:=h2
  rw [h1,z1];rfl
 ·have z1:Xa (Y3 a cl Q) [0] w=[(t:Int)]:=h2
  rw [z1];simp only [Fq,Y3,List.any_cons,List.any_nil,Bool.or_false,Int.toNat_natCast,List.getD,List.getElem?_map,h1,Option.map_some,Option.getD_some]
def Sj (a:Aut):Prop:=a.mv.Pairwise (fun m k=>m.src=k.src→∀x:Sy,Rj a x→¬(Yl m.on x=true∧Yl k.on x=true))
theorem x0g {a:Aut} {cl:List Prd} {Q:List (List Int)} (hc:Cls a cl) (hs:Sub a cl Q):Sj (Y3 a cl Q):=by
 unfold Sj
 show (Bc a cl Q).Pairwise _
 unfold Bc;rw [List.pairwise_flatMap];constructor
 ·intro n hn
  have z1:=List.mem_range.1 hn
  have hl:Q[n]? =some Q[n]:=List.getElem?_eq_getElem z1
  have hg:Q.getD n []=Q[n]:=by simp [List.getD,z1]
  rw [hg]
  have hi:=P9 (a:=a) (Q:=Q) n Q[n] hc.wf
  refine hi.nd.imp_of_mem (fun {m k} hm hk hne _ x hx=> ?_)
  rintro ⟨h1,h2⟩
  obtain ⟨t1,_,e1⟩:=hi.dst m hm
  obtain ⟨t2,_,e2⟩:=hi.dst k hk
  have z6:Rj a x:=hx
  have d1:=(Dv hc hs hl z6 t1).1 ⟨m,U9.2 ⟨n,_,hl,hm⟩,hi.src m hm,e1,h1⟩
  have d2:=(Dv hc hs hl z6 t2).1 ⟨k,U9.2 ⟨n,_,hl,hk⟩,hi.src k hk,e2,h2⟩
  obtain ⟨p1,p2⟩:=List.getElem?_eq_some_iff.1 d1
  obtain ⟨p3,p4⟩:=List.getElem?_eq_some_iff.1 d2
  have:t1=t2:=(List.getElem_inj hs.nd).1 (by rw [p2,p4])
  exact hne (by rw [e1,e2,this])
 ·refine List.pairwise_lt_range.imp (fun {i j} hij m hm k hk e=> ?_)
  exfalso
  have h1:∀n m,m∈Vo a cl Q n (Q.getD n [])→m.src=(n:Int):=fun n m hm=>(P9 (a:=a) (Q:=Q) n _ hc.wf).src m hm
  have:=h1 i m hm
  have:=h1 j k hk
  omega
end Go.Abs
namespace Go.Abs
theorem Oz {l:List Iv} (h:Sep l) (hb:∀n,M l n→inR n):Sep (Wu l)∧(∀n,M (Wu l) n↔inR n∧¬M l n)∧(Wu l).length≤l.length+1:=by
 have z1:∀x∈l,inR x.lo∧inR x.hi:=fun x hx=>⟨hb _ ⟨x,hx,Int.le_refl _,h.1 x hx⟩,hb _ ⟨x,hx,h.1 x hx,Int.le_refl _⟩⟩
 have:=It l (-1099511627776) (fun x hx=>⟨h.1 x hx,(z1 x hx).2.2⟩) h.2 (fun x hx=>(z1 x hx).1.1)
 exact ⟨this.1,fun n=>by rw [Wu,this.2.1,inR,and_assoc],this.2.2⟩
theorem q09 {T:Nat} {p:Prd} (hp:PWf T p) (t:Nat) (n:Int):PM (W2 p) t n↔(t<T∧inR n)∧¬PM p t n:=by
 unfold PM W2;rw [List.getElem?_map];constructor
 ·rintro ⟨s,hs,hm⟩
  obtain ⟨a,ha,rfl⟩:=Option.map_eq_some_iff.1 hs
  have hw:=hp.2 a (List.mem_of_getElem? ha)
  have hg:=((Oz hw.1 hw.2).2.1 n).1 hm
  refine ⟨⟨by rw [←hp.1];exact (List.getElem?_eq_some_iff.1 ha).1,hg.1⟩,?_⟩
  rintro ⟨b,hb,z1⟩
  rw [ha] at hb;cases hb
  exact hg.2 z1
 ·rintro ⟨⟨h1,h2⟩,h3⟩
  have hl:t<p.length:=by rw [hp.1];exact h1
  have hw:=hp.2 _ (List.getElem_mem hl)
  exact ⟨Wu p[t],by rw [List.getElem?_eq_getElem hl];rfl,((Oz hw.1 hw.2).2.1 n).2 ⟨h2,fun hm=>h3 ⟨_,List.getElem?_eq_getElem hl,hm⟩⟩⟩
theorem O4 {T:Nat} {p:Prd} (hp:PWf T p):PWf T (W2 p):=⟨by simp [W2,hp.1],fun s hs=>by
 obtain ⟨a,ha,rfl⟩:=List.mem_map.1 hs
 have hw:=hp.2 a ha
 exact ⟨(Oz hw.1 hw.2).1,fun n hn=>(((Oz hw.1 hw.2).2.1 n).1 hn).1⟩⟩
def Up (T:Nat) (ps:List Prd):Prd:=(List.range T).map fun i=>Ea (Qt ps i)
theorem K7 {T:Nat} {ps:List Prd} (h:∀p∈ps,PWf T p) (i:Nat):∀x∈Qt ps i,x.lo≤x.hi:=fun x hx=>by
 obtain ⟨p,hp,hx⟩:=Ry.1 hx
 have hm:p.getD i []=[]∨p.getD i []∈p:=by
  by_cases hi:i<p.length
  ·exact .inr (by rw [Wo hi];exact List.getElem_mem hi)
  ·exact .inl (by simp [List.getD,hi])
 rcases hm with e|hm
 ·rw [e] at hx;cases hx
 ·exact ((h p hp).2 _ hm).1.1 x hx
theorem Vp {T:Nat} {ps:List Prd} (h:∀p∈ps,PWf T p) (t:Nat) (n:Int):PM (Up T ps) t n↔∃p∈ps,PM p t n:=by
 unfold PM Up;rw [List.getElem?_map];constructor
 ·rintro ⟨s,hs,hm⟩
  obtain ⟨i,hi,rfl⟩:=Option.map_eq_some_iff.1 hs
  obtain ⟨z6,e⟩:=List.getElem?_eq_some_iff.1 hi
  rw [List.getElem_range] at e;subst e
  obtain ⟨x,hx,h1⟩:=((Y8 _ (K7 h t)).2 n).1 hm
  obtain ⟨p,hp,hx⟩:=Ry.1 hx
  have ht:t<T:=by simpa using z6
  have z1:t<p.length:=by rw [(h p hp).1];exact ht
  rw [Wo z1] at hx;exact ⟨p,hp,p[t],List.getElem?_eq_getElem z1,x,hx,h1⟩
 ·rintro ⟨p,hp,s,hs,x,hx,h1⟩
  obtain ⟨z1,e⟩:=List.getElem?_eq_some_iff.1 hs
  have ht:t<T:=by rw [←(h p hp).1];exact z1
  refine ⟨Ea (Qt ps t),by simp [ht],((Y8 _ (K7 h t)).2 n).2 ⟨x,Ry.2 ⟨p,hp,?_⟩,h1⟩⟩
  rw [Wo z1,e];exact hx
theorem Kn {T:Nat} {ps:List Prd} (h:∀p∈ps,PWf T p):PWf T (Up T ps):=by
 refine ⟨by simp [Up],fun s hs=> ?_⟩
 obtain ⟨i,hi,rfl⟩:=List.mem_map.1 hs
 refine ⟨(Y8 _ (K7 h i)).1,fun n hn=> ?_⟩
 have:PM (Up T ps) i n:=⟨Ea (Qt ps i),by simp [Up,List.mem_range.1 hi],hn⟩
 obtain ⟨p,hp,hm⟩:=(Vp h i n).1 this
 exact ((h p hp).lt hm).2
theorem k1s {T:Nat} {c:Prd} (h:PWf T c):Up T [c]=c:=
 O8 (Kn (by simpa using h)) h fun t n=>by rw [Vp (by simpa using h)];simp
theorem j1r {T:Nat} {p q:Prd} (hp:PWf T p) (hq:PWf T q):Up T [p,q]=Rb p q:=by
 have h:∀x∈[p,q],PWf T x:=fun x hx=>by
  rcases List.mem_cons.1 hx with rfl|hx
  ·exact hp
  ·obtain rfl:=List.mem_singleton.1 hx;exact hq
 exact O8 (Kn h) (G4 hp hq) fun t n=>by rw [Vp h,Pf hp hq];simp
def Gk (a:Aut) (s:Int):List Prd:=(a.mv.filter fun m=>decide (m.src=s)).map (·.on)
def Ww (a:Aut) (s:Int):Prd:=W2 (Up a.types.toNat (Gk a s))
def Sg (a:Aut) (s:Int):Prd:=(Gk a s).foldl (fun r p=>Wa r (W2 p)) (Wy a.types.toNat)
structure WfA (a:Aut):Prop where
 types:1≤a.types∧a.types≤16
 fin:1≤a.fin.length
 src:∀m∈a.mv,0≤m.src∧m.src<a.fin.length
 dst:∀m∈a.mv,0≤m.dst∧m.dst<a.fin.length
 on:∀m∈a.mv,PWf a.types.toNat m.on
theorem OkA.wfA {a:Aut} (h:OkA a):WfA a:=⟨h.types,h.fin.1,fun m hm=>(h.mv m hm).src,fun m hm=>(h.mv m hm).dst,fun m hm=>(h.mv m hm).on.wf⟩
theorem Jy {a:Aut} (h:WfA a) (s:Int):∀p∈Gk a s,PWf a.types.toNat p:=fun p hp=>by
 obtain ⟨m,hm,rfl⟩:=List.mem_map.1 hp
 exact h.on m (List.mem_filter.1 hm).1
theorem P3 {a:Aut} (h:WfA a) (s:Int) (t:Nat) (n:Int):PM (Ww a s) t n↔(t<a.types.toNat∧inR n)∧∀p∈Gk a s,¬PM p t n:=by
 rw [Ww,q09 (Kn (Jy h s)),Vp (Jy h s)]
 simp
theorem I6 {a:Aut} (h:WfA a) (s:Int):PWf a.types.toNat (Ww a s):=O4 (Kn (Jy h s))
theorem Cc {T:Nat}:∀(l:List Prd) (r:Prd),(∀p∈l,PWf T p)→PWf T r→PWf T (l.foldl (fun r p=>Wa r (W2 p)) r)∧
  ∀t n,PM (l.foldl (fun r p=>Wa r (W2 p)) r) t n↔PM r t n∧∀p∈l,¬PM p t n
 |[],r,_,hr=>⟨hr,fun t n=>by simp⟩
 |p::l,r,hl,hr=>by
  have hp:=hl p (by simp)
  obtain ⟨h1,h2⟩:=Cc l (Wa r (W2 p)) (fun q hq=>hl q (by simp [hq])) (Td hr (O4 hp).1)
  refine ⟨h1,fun t n=> ?_⟩
  rw [List.foldl_cons,h2,Ec hr.1 (O4 hp).1,q09 hp];constructor
  ·rintro ⟨⟨a,b,c⟩,d⟩
   refine ⟨a,fun q hq=> ?_⟩
   rcases List.mem_cons.1 hq with rfl|hq
   ·exact c
   ·exact d q hq
  ·rintro ⟨a,d⟩
   exact ⟨⟨a,hr.lt a,d p (by simp)⟩,fun q hq=>d q (by simp [hq])⟩
theorem f05 {a:Aut} (h:WfA a) (s:Int):Sg a s=Ww a s:=by
 obtain ⟨h1,h2⟩:=Cc (Gk a s) (Wy a.types.toNat) (Jy h s) (P2 _)
 exact O8 h1 (I6 h s) fun t n=>by rw [Sg,h2,P3 h,P8]
theorem Xd {a:Aut} (h:WfA a) (s:Int):We (Ww a s)=true↔∀t n,t<a.types.toNat→inR n→∃p∈Gk a s,PM p t n:=by
 rw [E9 (I6 h s)];constructor
 ·intro hv t n ht hn
  have:=hv t n
  rw [P3 h] at this
  by_cases hc:∃p∈Gk a s,PM p t n
  ·exact hc
  ·exact absurd ⟨⟨ht,hn⟩,fun p hp hm=>hc ⟨p,hp,hm⟩⟩ this
 ·intro hv t n;rw [P3 h]
  rintro ⟨⟨ht,hn⟩,hx⟩
  obtain ⟨p,hp,hm⟩:=hv t n ht hn
  exact hx p hp hm
def Bw (a:Aut):Bool:=decide (256<a.fin.length) || decide (2048<a.mv.length) || a.mv.any fun m=>m.on.any fun s=>decide (256<s.length)
theorem d1v {a:Aut} (h:WfA a):Wt a=0↔Bw a=false:=by
 rw [P7];unfold Bw;simp only [Bool.or_eq_false_iff,decide_eq_false_iff_not,List.any_eq_false,decide_eq_true_eq];constructor
 ·rintro ⟨h1,h2,h3,h4⟩
  exact ⟨⟨by omega,by omega⟩,fun m hm=>by
   simp only [Bool.not_eq_true,List.any_eq_false,decide_eq_true_eq];exact fun s hs=>by have:=((h4 m hm).on.2 s hs).len;omega⟩
 ·rintro ⟨⟨h1,h2⟩,h3⟩
  refine ⟨h.types,⟨h.fin,by omega⟩,by omega,fun m hm=>⟨h.src m hm,h.dst m hm,(h.on m hm).1,fun s hs=> ?_⟩⟩
  have hw:=(h.on m hm).2 s hs
  have:=h3 m hm
  simp only [Bool.not_eq_true,List.any_eq_false,decide_eq_true_eq] at this;exact Fg hw.1 (q0v hw.1 hw.2) (by have:=this s hs;omega)
def Z0 (a:Aut):Int×Aut:=if Bw a then (5,Ud) else (0,a)
def q20 (a:Aut):Int×Aut:=if Wt a≠0 then (5,Ud) else (0,a)
theorem g0x {a c:Aut} (h:WfA a) (hl:Z0 a=(0,c)):c=a∧OkA a:=by
 unfold Z0 at hl
 cases hb:Bw a
 ·rw [hb,if_neg (by simp)] at hl
  exact ⟨(Prod.mk.inj hl).2.symm,(P7 a).1 ((d1v h).2 hb)⟩
 ·rw [hb,if_pos rfl] at hl
  cases (Prod.mk.inj hl).1
end Go.Abs
namespace Go.Abs
def Re (a:Aut) (lack:Int→Prd):List Mv:=(List.range a.fin.length).filterMap fun s:Nat=>if We (lack s) then none else some ⟨s,a.fin.length,lack s⟩
def Y7 (a:Aut):Aut:=⟨a.types,a.fin++[false],a.mv++Re a (Ww a)++[⟨a.fin.length,a.fin.length,Wy a.types.toNat⟩]⟩
def Px (a:Aut):Int×Aut:=if (Re a (Ww a)).isEmpty then (0,a) else Z0 (Y7 a)
def Yp (a:Aut):Bool:=(List.range a.fin.length).all fun s:Nat=>We (Sg a s)
def y2o (a:Aut):Int×Aut:=if Yp a then (0,a) else q20 ⟨a.types,a.fin++[false],a.mv++Re a (Sg a)++[⟨a.fin.length,a.fin.length,Wy a.types.toNat⟩]⟩
theorem Ya {a:Aut} {lack:Int→Prd} {m:Mv}:m∈Re a lack↔∃s:Nat,s<a.fin.length∧We (lack s)=false∧m=⟨s,a.fin.length,lack s⟩:=by
 unfold Re;rw [List.mem_filterMap];constructor
 ·rintro ⟨s,hs,h⟩
  cases hv:We (lack s)
  ·rw [hv,if_neg (by simp)] at h
   cases h
   exact ⟨s,List.mem_range.1 hs,hv,rfl⟩
  ·rw [hv,if_pos rfl] at h;cases h
 ·rintro ⟨s,hs,hv,rfl⟩
  exact ⟨s,List.mem_range.2 hs,by rw [hv,if_neg (by simp)]⟩
theorem Gm {a:Aut} {lack:Int→Prd}:Re a lack=[]↔∀s:Nat,s<a.fin.length→We (lack s)=true:=by
 rw [List.eq_nil_iff_forall_not_mem];constructor
 ·intro h s hs
  cases hv:We (lack s)
  ·exact absurd (Ya.2 ⟨s,hs,hv,rfl⟩) (h _)
  ·rfl
 ·intro h m hm
  obtain ⟨s,hs,hv,_⟩:=Ya.1 hm
  rw [h s hs] at hv;cases hv
theorem x1w {a:Aut} (h:WfA a):WfA (Y7 a):=by
 have z1:∀m∈(Y7 a).mv,m∈a.mv∨(∃s:Nat,s<a.fin.length∧m=⟨s,a.fin.length,Ww a s⟩)∨m=⟨a.fin.length,a.fin.length,Wy a.types.toNat⟩:=fun m hm=>by
  rcases List.mem_append.1 hm with hm|hm
  ·rcases List.mem_append.1 hm with hm|hm
   ·exact .inl hm
   ·obtain ⟨s,hs,_,e⟩:=Ya.1 hm
    exact .inr (.inl ⟨s,hs,e⟩)
  ·exact .inr (.inr (List.mem_singleton.1 hm))
 have hl:(Y7 a).fin.length=a.fin.length+1:=by simp [Y7]
 refine ⟨h.types,by rw [hl];omega,fun m hm=> ?_,fun m hm=> ?_,fun m hm=> ?_⟩
 ·rw [hl]
  rcases z1 m hm with hm|⟨s,hs,rfl⟩|rfl
  ·have:=h.src m hm;omega
  ·simp only;omega
  ·simp only;omega
 ·rw [hl]
  rcases z1 m hm with hm|⟨s,hs,rfl⟩|rfl
  ·have:=h.dst m hm;omega
  ·simp only;omega
  ·simp only;omega
 ·rcases z1 m hm with hm|⟨s,hs,rfl⟩|rfl
  ·exact h.on m hm
  ·exact I6 h s
  ·exact P2 _
def v0a (a:Aut):Prop:=∀s:Int,0≤s→s<a.fin.length→∀x,Rj a x→∃m∈a.mv,m.src=s∧Yl m.on x=true
theorem M6 {a:Aut} {x:Sy} (h:Rj a x):x.ty.toNat<a.types.toNat∧inR x.num∧0≤x.ty:=⟨by have:=h.1;omega,h.2,h.1.1⟩
theorem Yr {a:Aut} (h:WfA a) {m:Mv} (hm:m∈a.mv) {x:Sy} (hx:Rj a x):Yl m.on x=true↔PM m.on x.ty.toNat x.num:=Rk (h.on m hm).1 x hx.1.1
theorem Zl {a:Aut} {s:Int} {p:Prd}:p∈Gk a s↔∃m∈a.mv,m.src=s∧m.on=p:=by
 unfold Gk;rw [List.mem_map];constructor
 ·rintro ⟨m,hm,e⟩
  have:=List.mem_filter.1 hm
  exact ⟨m,this.1,by simpa using this.2,e⟩
 ·rintro ⟨m,hm,hs,e⟩
  exact ⟨m,List.mem_filter.2 ⟨hm,by simpa using hs⟩,e⟩
theorem Mn {a:Aut} (h:WfA a):Re a (Ww a)=[]↔v0a a:=by
 rw [Gm];constructor
 ·intro hv s h0 h1 x hx
  have hs:=hv s.toNat (by omega)
  rw [show ((s.toNat:Nat):Int)=s by omega,Xd h] at hs
  obtain ⟨k1,k2,_⟩:=M6 hx
  obtain ⟨p,hp,hm⟩:=hs _ _ k1 k2
  obtain ⟨m,z1,e,rfl⟩:=Zl.1 hp
  exact ⟨m,z1,e,(Yr h z1 hx).2 hm⟩
 ·intro hf s hs;rw [Xd h];intro t n ht hn
  have hx:Rj a ⟨t,n⟩:=⟨⟨by simp,by simp only;omega⟩,hn⟩
  obtain ⟨m,hm,e,hh⟩:=hf s (by omega) (by omega) _ hx
  exact ⟨m.on,Zl.2 ⟨m,hm,e,rfl⟩,by have:=(Yr h hm hx).1 hh;simpa using this⟩
theorem w1i {a:Aut} (h:WfA a):v0a (Y7 a):=by
 intro s h0 h1 x hx
 have z1:Rj a x:=hx
 have hl:(Y7 a).fin.length=a.fin.length+1:=by simp [Y7]
 obtain ⟨k1,k2,_⟩:=M6 z1
 by_cases hs:s<a.fin.length
 ·by_cases hp:∃p∈Gk a s,PM p x.ty.toNat x.num
  ·obtain ⟨p,hp,hm⟩:=hp
   obtain ⟨m,z6,e,rfl⟩:=Zl.1 hp
   exact ⟨m,List.mem_append_left _ (List.mem_append_left _ z6),e,(Yr h z6 z1).2 hm⟩
  ·have z7:PM (Ww a s) x.ty.toNat x.num:=(P3 h s _ _).2 ⟨⟨k1,k2⟩,fun p z8 hm=>hp ⟨p,z8,hm⟩⟩
   have hv:We (Ww a s)=false:=by
    cases hv:We (Ww a s)
    ·rfl
    ·exact absurd z7 ((E9 (I6 h s)).1 hv _ _)
   have e:((s.toNat:Nat):Int)=s:=by omega
   refine ⟨⟨s,a.fin.length,Ww a s⟩,List.mem_append_left _ (List.mem_append_right _ (Ya.2 ⟨s.toNat,by omega,by rw [e];exact hv,by rw [e]⟩)),rfl,?_⟩
   exact (Rk (I6 h s).1 x hx.1.1).2 z7
 ·refine ⟨⟨a.fin.length,a.fin.length,Wy a.types.toNat⟩,List.mem_append_right _ (by simp),by simp only;omega,?_⟩
  exact (Rk (P2 _).1 x hx.1.1).2 ((P8 ..).2 ⟨k1,k2⟩)
theorem v1j {a:Aut} (h:WfA a) (hd:Sj a):Sj (Y7 a):=by
 unfold Sj
 show (a.mv++Re a (Ww a)++[_]).Pairwise _
 rw [List.pairwise_append,List.pairwise_append];refine ⟨⟨hd,?_,fun m hm k hk e x hx=> ?_⟩,by simp,fun m hm k hk e x hx=> ?_⟩
 ·unfold Re;rw [List.pairwise_filterMap];refine List.pairwise_lt_range.imp (fun {i j} hij m hm k hk e=> ?_)
  have z1:∀(i:Nat) (m:Mv),(if We (Ww a i) then none else some (⟨i,a.fin.length,Ww a i⟩:Mv))=some m→m.src=i:=fun i m hm=>by
   split at hm
   ·cases hm
   ·cases hm;rfl
  have:=z1 i m hm
  have:=z1 j k hk
  omega
 ·obtain ⟨s,hs,_,rfl⟩:=Ya.1 hk
  rintro ⟨h1,h2⟩
  have z6:Rj a x:=hx
  have p1:=(Yr h hm z6).1 h1
  have p2:=(Rk (I6 h s).1 x hx.1.1).1 h2
  exact ((P3 h s _ _).1 p2).2 _ (Zl.2 ⟨m,hm,e,rfl⟩) p1
 ·obtain rfl:=List.mem_singleton.1 hk
  exfalso
  have e':m.src=(a.fin.length:Int):=e
  rcases List.mem_append.1 hm with hm|hm
  ·have:=h.src m hm;omega
  ·obtain ⟨s,hs,_,rfl⟩:=Ya.1 hm
   simp only at e';omega
theorem w1g {a:Aut} (h:WfA a) {l l':List Int} (hl:∀j:Int,j<a.fin.length→(j∈l'↔j∈l)) (x:Sy):∀j:Int,j<a.fin.length→(j∈Wg (Y7 a) l' x↔j∈Wg a l x):=by
 intro j hj;rw [Et,Et]
 have hlen:(Y7 a).fin.length=a.fin.length+1:=by simp [Y7]
 constructor
 ·rintro ⟨h1,m,hm,h2,h3,h4⟩
  rcases List.mem_append.1 hm with hm|hm
  ·rcases List.mem_append.1 hm with hm|hm
   ·exact ⟨⟨h1.1,hj⟩,m,hm,(hl _ (h.src m hm).2).1 h2,h3,h4⟩
   ·obtain ⟨s,hs,_,rfl⟩:=Ya.1 hm
    simp only at h4;omega
  ·obtain rfl:=List.mem_singleton.1 hm
   simp only at h4;omega
 ·rintro ⟨h1,m,hm,h2,h3,h4⟩
  exact ⟨⟨h1.1,by omega⟩,m,List.mem_append_left _ (List.mem_append_left _ hm),(hl _ (h.src m hm).2).2 h2,h3,h4⟩
theorem k02 {a:Aut} (h:WfA a):∀(w:List Sy) (l l':List Int),(∀j:Int,j<a.fin.length→(j∈l'↔j∈l))→∀j:Int,j<a.fin.length→(j∈Xa (Y7 a) l' w↔j∈Xa a l w)
 |[],_,_,hl=>hl
 |x::w,_,_,hl=>k02 h w _ _ (w1g h hl x)
theorem runIn {a:Aut}:∀(w:List Sy) (l:List Int),(∀j∈l,0≤j∧j<a.fin.length)→∀j∈Xa a l w,0≤j∧j<a.fin.length
 |[],_,hl=>hl
 |x::w,_,_=>runIn w _ (fun _ hj=>Pu _ hj)
theorem k0t {a:Aut} (h:WfA a):∀j∈[(0:Int)],0≤j∧j<a.fin.length:=fun j hj=>by
 obtain rfl:=List.mem_singleton.1 hj
 have:=h.fin;omega
theorem w0g {a:Aut} {l:List Int}:Fq a l=true↔∃s∈l,a.fin.getD s.toNat false=true:=by rw [Fq,List.any_eq_true]
theorem v1x {a:Aut} (h:WfA a) (w:List Sy):Nu (Y7 a) w=Nu a w:=by
 unfold Nu;rw [Bool.eq_iff_iff,w0g,w0g]
 have hr:=k02 h w [0] [0] (fun _ _=>Iff.rfl)
 have z7:=runIn w _ (k0t (x1w h))
 have z6:=runIn w _ (k0t h)
 have hlen:(Y7 a).fin.length=a.fin.length+1:=by simp [Y7]
 have z1:∀s:Int,0≤s→s<a.fin.length→(Y7 a).fin.getD s.toNat false=a.fin.getD s.toNat false:=fun s h0 h1=>by
  simp only [Y7,List.getD_eq_getElem?_getD];rw [List.getElem?_append_left (by omega)]
 constructor
 ·rintro ⟨s,hs,hf⟩
  have:=z7 s hs
  by_cases hlt:s<a.fin.length
  ·exact ⟨s,(hr s hlt).1 hs,by rw [←z1 s this.1 hlt];exact hf⟩
  ·have:s.toNat=a.fin.length:=by omega
   rw [this] at hf
   simp [Y7] at hf
 ·rintro ⟨s,hs,hf⟩
  have:=z6 s hs
  exact ⟨s,(hr s this.2).2 hs,by rw [z1 s this.1 this.2];exact hf⟩
theorem q1o {a c:Aut} (h:OkA a) (hc:Px a=(0,c)):OkA c∧c.types=a.types∧v0a c∧(Sj a→Sj c)∧∀w,Nu c w=Nu a w:=by
 unfold Px at hc;split at hc
 ·rename_i hn
  cases hc
  exact ⟨h,rfl,(Mn h.wfA).1 (List.isEmpty_iff.1 hn),id,fun _=>rfl⟩
 ·obtain ⟨rfl,hk⟩:=g0x (x1w h.wfA) hc
  exact ⟨hk,rfl,w1i h.wfA,v1j h.wfA,v1x h.wfA⟩
end Go.Abs
namespace Go.Abs
def Yg (T:Int):List Prd→Int
 |[]=>0
 |p::r=>if Ev T p≠0 then Ev T p else Yg T r
def A5 (L:List Prd):Bool:=decide (256<L.length) || L.any fun p=>p.any fun s=>decide (256<s.length)
def Rm (T:Int) (l:List Prd):Int×List Prd:=if T<1∨16<T then (2,[]) else if 256<l.length then (5,[]) else if Yg T l≠0 then (Yg T l,[]) else
 if A5 (W9 T.toNat l) then (5,[]) else (0,W9 T.toNat l)
def g0z (T:Int) (l:List Prd):Int×List Prd:=if T<1∨16<T then (2,[]) else if 256<l.length then (5,[]) else if Yg T l≠0 then (Yg T l,[]) else
 if A5 (Q0 T.toNat l) then (5,[]) else (0,Q0 T.toNat l)
theorem Ie {T:Int}:∀(l:List Prd),Yg T l=0↔∀p∈l,Ev T p=0
 |[]=>by simp [Yg]
 |p::r=>by
  rw [Yg]
  by_cases h:Ev T p=0
  ·rw [if_neg (fun k=>k h),Ie r];simp [h]
  ·rw [if_pos h];exact ⟨fun k=>absurd k h,fun k=>absurd (k p (by simp)) h⟩
theorem d0j (T:Int) (l:List Prd):g0z T l=Rm T l:=by
 unfold g0z Rm;split
 ·rfl
 ·rename_i hT
  split
  ·rfl
  ·split
   ·rfl
   ·rename_i hc
    have z1:∀p∈l,PCk T.toNat p:=fun p hp=>((Eh T p).1 ((Ie l).1 (by simpa using hc) p hp)).2
    rw [A4 (by omega) z1]
theorem f0b {T:Int} (hT:1≤T∧T≤16) {l:List Prd} (hl:∀p∈l,PCk T.toNat p):(Rm T l).1=5∨Rm T l=(0,Q0 T.toNat l):=by
 unfold Rm
 have hc:Yg T l=0:=(Ie l).2 fun p hp=>(Eh T p).2 ⟨hT,hl p hp⟩
 rw [if_neg (by omega)]
 split
 ·exact .inl rfl
 ·rw [if_neg (by simp [hc])]
  split
  ·exact .inl rfl
  ·exact .inr (by rw [A4 (by omega) hl])
def onA (a:Aut):List Prd:=a.mv.map (·.on)
def Oc (a:Aut):Int×List Prd×List (List Int):=if Wt a≠0 then (Wt a,[],[]) else
 if (Rm a.types (onA a)).1≠0 then ((Rm a.types (onA a)).1,[],[]) else
 match Zh a (Rm a.types (onA a)).2 with
 |none=>(5,[],[])
 |some Q=>(0,(Rm a.types (onA a)).2,Q)
def R9 (a:Aut):Int×Aut:=if (Oc a).1≠0 then ((Oc a).1,Ud) else Z0 (Y3 a (Oc a).2.1 (Oc a).2.2)
def Sk (a:Aut):Int×Aut:=if Wt a≠0 then (Wt a,Ud) else Px a
def c1v (a:Aut):Aut:={ a with fin:=a.fin.map (!·) }
def z2x (a:Aut):Int×Aut:=if (R9 a).1≠0 then ((R9 a).1,Ud) else if (Px (R9 a).2).1≠0 then ((Px (R9 a).2).1,Ud) else (0,c1v (Px (R9 a).2).2)
theorem Jq {a:Aut} (h:OkA a):∀p∈onA a,PCk a.types.toNat p:=fun p hp=>by
 obtain ⟨m,hm,rfl⟩:=List.mem_map.1 hp
 exact (h.mv m hm).on
theorem C9 {a:Aut} (h:OkA a):Oc a=(5,[],[])∨∃Q,Oc a=(0,Q0 a.types.toNat (onA a),Q)∧Zh a (Q0 a.types.toNat (onA a))=some Q∧Sub a (Q0 a.types.toNat (onA a)) Q∧Cls a (Q0 a.types.toNat (onA a)):=by
 unfold Oc;rw [if_neg (fun k=>k ((P7 a).2 h))]
 rcases f0b h.types (Jq h) with hm|hm
 ·rw [if_pos (by rw [hm];decide),hm];exact .inl rfl
 ·rw [hm,if_neg (by simp)]
  cases hs:Zh a (Q0 a.types.toNat (onA a)) with
  |none=>exact .inl rfl
  |some Q=>exact .inr ⟨Q,rfl,rfl,u0l h hs,x1d h⟩
theorem Br {a:Aut} (h:Wt a≠0):Oc a=(Wt a,[],[]):=if_pos h
theorem A8 {a:Aut} {cl:List Prd} {Q:List (List Int)} (hc:Cls a cl) {m:Mv} (hm:m∈Bc a cl Q):(∃n:Nat,n<Q.length∧m.src=n)∧(∃t:Nat,t<Q.length∧m.dst=t)∧PWf a.types.toNat m.on:=by
 obtain ⟨n,l,hl,hg⟩:=U9.1 hm
 have hi:=P9 (a:=a) (Q:=Q) n l hc.wf
 exact ⟨⟨n,(List.getElem?_eq_some_iff.1 hl).1,hi.src m hg⟩,hi.dst m hg,hi.wf m hg⟩
theorem x1h {a:Aut} {cl:List Prd} {Q:List (List Int)} (hc:Cls a cl) (hs:Sub a cl Q):WfA (Y3 a cl Q):=by
 have h0:=(List.getElem?_eq_some_iff.1 hs.first).1
 have hl:(Y3 a cl Q).fin.length=Q.length:=by simp [Y3]
 refine ⟨hc.ok.types,by omega,fun m hm=> ?_,fun m hm=> ?_,fun m hm=>(A8 hc hm).2.2⟩
 ·obtain ⟨⟨n,h1,h2⟩,_⟩:=A8 hc hm
  rw [hl,h2];omega
 ·obtain ⟨_,⟨n,h1,h2⟩,_⟩:=A8 hc hm
  rw [hl,h2];omega
theorem z1a {a d:Aut} (h:OkA a) (hd:R9 a=(0,d)):∃Q,Zh a (Q0 a.types.toNat (onA a))=some Q∧Sub a (Q0 a.types.toNat (onA a)) Q∧Cls a (Q0 a.types.toNat (onA a))∧
  Oc a=(0,Q0 a.types.toNat (onA a),Q)∧d=Y3 a (Q0 a.types.toNat (onA a)) Q∧OkA d∧Sj d∧d.types=a.types∧∀w,(∀x∈w,Rj a x)→Nu d w=Nu a w:=by
 unfold R9 at hd
 rcases C9 h with hs|⟨Q,hs,hq,z1,z6⟩
 ·rw [hs,if_pos (by decide)] at hd
  cases (Prod.mk.inj hd).1
 ·rw [hs,if_neg (by simp)] at hd
  obtain ⟨rfl,hk⟩:=g0x (x1h z6 z1) hd
  exact ⟨Q,hq,z1,z6,hs,rfl,hk,x0g z6 z1,rfl,fun w hw=>u1v z6 z1 hw⟩
theorem q15 {a:Aut} (hw:WfA a) (hd:Sj a) (hf:v0a a) {s:Int} (h0:0≤s) (h1:s<a.fin.length) {x:Sy} (hx:Rj a x):∃t:Int,0≤t∧t<a.fin.length∧Wg a [s] x=[t]:=by
 obtain ⟨m,hm,e,hh⟩:=hf s h0 h1 x hx
 refine ⟨m.dst,(hw.dst m hm).1,(hw.dst m hm).2,Yx (Ul ..) (by simp) fun z=> ?_⟩
 rw [Et];constructor
 ·rintro ⟨_,k,hk,h2,h3,h4⟩
  obtain h2:=List.mem_singleton.1 h2
  have:k=m∨k.dst=m.dst:=by
   obtain ⟨i,hi⟩:=List.mem_iff_getElem?.1 hm
   obtain ⟨j,hj⟩:=List.mem_iff_getElem?.1 hk
   obtain ⟨z7,z1⟩:=List.getElem?_eq_some_iff.1 hi
   obtain ⟨z8,z6⟩:=List.getElem?_eq_some_iff.1 hj
   by_cases hij:i=j
   ·subst hij;left;rw [←z1,←z6]
   ·exfalso
    rcases Nat.lt_or_gt_of_ne hij with hlt|hgt
    ·have:=List.pairwise_iff_getElem.1 hd i j z7 z8 hlt
     rw [z1,z6] at this;exact this (by rw [e,h2]) x hx ⟨hh,h3⟩
    ·have:=List.pairwise_iff_getElem.1 hd j i z8 z7 hgt
     rw [z1,z6] at this;exact this (by rw [e,h2]) x hx ⟨h3,hh⟩
  rcases this with rfl|this
  ·rw [←h4];simp
  ·rw [←h4,this];simp
 ·intro hz
  obtain rfl:=List.mem_singleton.1 hz
  exact ⟨hw.dst m hm,m,hm,by rw [e];simp,hh,rfl⟩
theorem z1j {a:Aut} {cl:List Prd} (hc:Cls a cl) {c:Prd} (hm:c∈cl):Rj a (Qm c):=by
 have h:=(Wv (hc.wf c hm).1 (hc.wf c hm).2).1
 have h2:=(hc.wf c hm).1.lt h
 exact ⟨⟨by simp [Qm],by simp only [Qm];omega⟩,h2.2⟩
end Go.Abs
namespace Go.Abs
def x1b (p:Prd):Bool:=decide (p.length≤4) && p.all fun s=>decide (s.length≤12)
def u1s (a:Aut):Bool:=decide (a.fin.length≤8) && decide (a.mv.length≤16) && a.mv.all fun m=>x1b m.on
theorem q0a {p:Prd}:x1b p=true↔p.length≤4∧∀s∈p,s.length≤12:=by simp [x1b]
theorem q0c (l:List Iv):(Ea l).length≤l.length:=by
 have h1:=Ex (Em l) []
 have h2:=(I7 l).1.length_eq
 rw [Ea];simp at h1;omega
theorem z1t {l:List Iv} (h:Sep l) (hb:∀n,M l n→inR n):(Wu l).length≤l.length+1:=(Oz h hb).2.2
theorem g0e (T:Nat):∀x∈Wy T,x.length=1:=fun x hx=>by
 obtain rfl:=List.eq_of_mem_replicate hx
 rfl
def q2p (a:Aut) (l:List Int) (x:Sy):Int×List Int:=if Wt a≠0 then (Wt a,[]) else if 256<l.length then (5,[]) else
 if l.any (fun s=>decide (s<0) || decide ((a.fin.length:Int)≤s)) then (6,[]) else if Vr a.types x≠0 then (Vr a.types x,[]) else (0,Wg a l x)
theorem Nd {n:Nat} {l:List Int} (h:l.Pairwise (·<·)) (hr:∀s∈l,0≤s∧s<n):l.length≤n:=by
 have he:l=(Ti n).filter fun z=>decide (z∈l):=Yx h ((G7 n).filter _) fun z=>by
  rw [List.mem_filter,Tq];exact ⟨fun hz=>⟨hr z hz,by simpa using hz⟩,fun hz=>by simpa using hz.2⟩
 have h1:=List.length_filter_le (fun z=>decide (z∈l)) (Ti n)
 rw [←he] at h1
 simpa [Ti] using h1
theorem Lt {a:Aut} (h:OkA a) (l:List Int) (x:Sy):(Wg a l x).length≤256:=by
 have:=Nd (Ul a l x) Pu
 have:=h.fin;omega
def M9 (p q:Prd):Bool:= !We (Wa p q)
def Be (a:Aut):Bool:=(List.range a.mv.length).all fun i=>(List.range i).all fun k=> !(decide ((a.mv.getD i default).src=(a.mv.getD k default).src) && M9 (a.mv.getD i default).on (a.mv.getD k default).on)
theorem L8 {T:Nat} {p q:Prd} (hp:PWf T p) (hq:PWf T q):M9 p q=true↔∃t n,PM p t n∧PM q t n:=by
 unfold M9
 cases hv:We (Wa p q)
 ·simp only [Bool.not_false,true_iff]
  apply Classical.byContradiction
  intro hn
  have:=(E9 (Td hp hq.1)).2 (fun t n hm=>hn ⟨t,n,(Ec hp.1 hq.1 t n).1 hm⟩)
  rw [hv] at this;cases this
 ·simp only [Bool.not_true,Bool.false_eq_true,false_iff]
  rintro ⟨t,n,hm⟩
  exact (E9 (Td hp hq.1)).1 hv t n ((Ec hp.1 hq.1 t n).2 hm)
theorem k1q {a:Aut} (h:WfA a):Be a=true↔Sj a:=by
 unfold Be Sj;rw [List.all_eq_true,List.pairwise_iff_getElem]
 have hg:∀(i:Nat) (hi:i<a.mv.length),a.mv.getD i default=a.mv[i]:=fun i hi=>by simp [List.getD,hi]
 constructor
 ·intro hs i j hi hj z6 e x hx
  rintro ⟨h1,h2⟩
  have:=hs j (List.mem_range.2 hj)
  rw [List.all_eq_true] at this
  have:=this i (List.mem_range.2 z6)
  rw [hg j hj,hg i hi,e] at this
  have hc:M9 a.mv[j].on a.mv[i].on=true:=(L8 (h.on _ (List.getElem_mem hj)) (h.on _ (List.getElem_mem hi))).2 ⟨_,_,(Yr h (List.getElem_mem hj) hx).1 h2,(Yr h (List.getElem_mem hi) hx).1 h1⟩
  rw [hc] at this;simp at this
 ·intro hd i hi
  have hi:=List.mem_range.1 hi
  rw [List.all_eq_true];intro k hk
  have hk:=List.mem_range.1 hk
  have z1:k<a.mv.length:=by omega
  rw [hg i hi,hg k z1]
  by_cases e:a.mv[i].src=a.mv[k].src
  ·cases hc:M9 a.mv[i].on a.mv[k].on
   ·simp
   ·exfalso
    obtain ⟨t,n,h1,h2⟩:=(L8 (h.on _ (List.getElem_mem hi)) (h.on _ (List.getElem_mem z1))).1 hc
    have hb:=(h.on _ (List.getElem_mem hi)).lt h1
    have hx:Rj a ⟨t,n⟩:=⟨⟨by simp,by simp only;omega⟩,hb.2⟩
    exact hd k i z1 hi hk e.symm ⟨t,n⟩ hx ⟨(Yr h (List.getElem_mem z1) hx).2 (by simpa using h2),(Yr h (List.getElem_mem hi) hx).2 (by simpa using h1)⟩
  ·simp [e]
end Go.Abs
namespace Go.Abs
open Go Go.Proofs
attribute [simp] T74 T76 T91 T78 T23 T22 T25 T53 T45 T28
@[simp] def encP (p:Prd):AV:= .agg [.list (p.map encL)]
abbrev LP (l:List Prd):AV:= .list (l.map encP)
@[simp] def encSy (x:Sy):AV:= .agg [.i x.ty,.i x.num]
@[simp] def encMv (m:Mv):AV:= .agg [.i m.src,.i m.dst,.list (m.on.map encL)]
@[simp] def encA (a:Aut):AV:= .agg [.i a.types,.list (a.fin.map .bool),.list (a.mv.map encMv)]
attribute [local irreducible] ckR
set_option maxHeartbeats 1000000 in
theorem Pt (T:Int) (p:Prd):PC Tryz.prog 82 [.i T,encP p] (fun r=>r= .i (Ev T p)):=by
 refine Ql tOk Tryz.func82 rfl Tryz.results82 rfl (by simp [Tryz.ntmps82]) ?_
 rw [Tryz.ntmps82];simp only [Qg];simp only [encP];refine Wx 1 0 rfl rfl (fun hlen=> ?_)
 rw [List.length_map] at hlen
 repeat first|((first|refine ra ?_|refine rb ?_|refine rh ?_);simp)|refine qf ?_|refine qg ?_
 refine Qb rfl (fun h=> ?_) (fun h=> ?_)
 ·repeat first|((first|refine ra ?_|refine rb ?_|refine rh ?_);simp)|refine qf ?_|refine qg ?_
  rw [Ev,if_pos (by simpa using h)]
 have h':¬(T<1∨16<T):=by simpa using h
 repeat first|((first|refine ra ?_|refine rb ?_|refine rh ?_);simp)|refine qf ?_|refine qg ?_
 refine Qb rfl (fun h2=> ?_) (fun h2=> ?_)
 ·repeat first|((first|refine ra ?_|refine rb ?_|refine rh ?_);simp)|refine qf ?_|refine qg ?_
  rw [Ev,if_neg h',if_pos (by simpa using h2)]
 have z7:(p.length:Int)=T:=by simpa using h2
 have hE:Ev T p=y0u p:=by rw [Ev,if_neg h',if_neg (by simpa using z7)]
 rw [hE]
 repeat first|((first|refine ra ?_|refine rb ?_|refine rh ?_);simp)|refine qf ?_|refine qg ?_
 refine Qs p.length (fun j=>y0u p=y0u (p.drop j)) (fun j=>[(22,.list (p.map encL)),(23,.i p.length),(24,.i j)]) (fun _=>[]) rfl (by simp) (by simp) (by simp) (by simp) (by simp) ?_
 intro j hj hI ih
 repeat first|((first|refine ra ?_|refine rb ?_|refine rh ?_);simp)|refine qf ?_|refine qg ?_
 refine Qb rfl (fun z8=> ?_) (fun za=> ?_)
 ·have z1:j<p.length:=by simpa using z8
  have hw:IntKind.i64.wrap ((j:Int)+1)=j+1:=wrap_i64 _ (by omega) (by omega)
  rw [W7 z1,y0u] at hI
  repeat first|((first|refine ra ?_|refine rb ?_|refine rh ?_);simp [z1])|refine qf ?_|refine qg ?_
  refine Qe rfl rfl (by simp) (q01 p[j]) rfl ?_
  rintro _ rfl
  simp
  repeat first|((first|refine ra ?_|refine rb ?_|refine rh ?_);simp)|refine qf ?_|refine qg ?_
  refine Qb rfl (fun h3=> ?_) (fun h3=> ?_)
  ·repeat first|((first|refine ra ?_|refine rb ?_|refine rh ?_);simp)|refine qf ?_|refine qg ?_
   rw [hI,if_pos (by simpa using h3)]
  rw [if_neg (by simpa using h3)] at hI
  repeat first|((first|refine ra ?_|refine rb ?_|refine rh ?_);simp [hw])|refine qf ?_|refine qg ?_
  refine Qr _ (ih z1 hI) rfl (by simp) ?_ (by simp) (by simp)
  simp
 ·have z6:j=p.length:=by simp at za;omega
  subst z6
  repeat first|((first|refine ra ?_|refine rb ?_|refine rh ?_);simp)|refine qf ?_|refine qg ?_
  rw [hI,List.drop_length];rfl
set_option maxHeartbeats 1000000 in
theorem y0m (T:Int) (p:Prd):PC Tryz.prog 116 [.i T,encP p] (fun r=>r= .i (Ev T p)):=by
 refine Ql tOk Tryz.func116 rfl Tryz.results116 rfl (by simp [Tryz.ntmps116]) ?_
 rw [Tryz.ntmps116];simp only [Qg];simp only [encP];refine Wx 1 0 rfl rfl (fun hlen=> ?_)
 rw [List.length_map] at hlen
 repeat first|((first|refine ra ?_|refine rb ?_|refine rh ?_);simp)|refine qf ?_|refine qg ?_
 refine Qb rfl (fun h=> ?_) (fun h=> ?_)
 ·repeat first|((first|refine ra ?_|refine rb ?_|refine rh ?_);simp)|refine qf ?_|refine qg ?_
  rw [Ev,if_pos (by simpa using h)]
 have h':¬(T<1∨16<T):=by simpa using h
 repeat first|((first|refine ra ?_|refine rb ?_|refine rh ?_);simp)|refine qf ?_|refine qg ?_
 refine Qb rfl (fun h2=> ?_) (fun h2=> ?_)
 ·repeat first|((first|refine ra ?_|refine rb ?_|refine rh ?_);simp)|refine qf ?_|refine qg ?_
  rw [Ev,if_neg h',if_pos (by simpa using h2)]
 have z7:(p.length:Int)=T:=by simpa using h2
 have hE:Ev T p=y0u p:=by rw [Ev,if_neg h',if_neg (by simpa using z7)]
 rw [hE]
 repeat first|((first|refine ra ?_|refine rb ?_|refine rh ?_);simp)|refine qf ?_|refine qg ?_
 refine Qs p.length (fun j=>y0u p=y0u (p.drop j)) (fun j=>[(0,.i T),(3,.vptr 0 0),(5,.i j)]) (fun _=>[.vars [.list (p.map encL)]]) rfl (by simp) (by simp) (by simp) (by simp) (by simp) ?_
 intro j hj hI ih
 repeat first|((first|refine ra ?_|refine rb ?_|refine rh ?_);simp)|refine qf ?_|refine qg ?_
 refine Qb rfl (fun z8=> ?_) (fun za=> ?_)
 ·have z1:j<p.length:=by have k:(j:Int)<T:=(by simpa using z8);omega
  have hw:IntKind.i64.wrap ((j:Int)+1)=j+1:=wrap_i64 _ (by omega) (by omega)
  rw [W7 z1,y0u] at hI
  repeat first|((first|refine ra ?_|refine rb ?_|refine rh ?_);simp [z1])|refine qf ?_|refine qg ?_
  refine Qe rfl rfl (by simp) (f0l p[j]) rfl ?_
  rintro _ rfl
  simp
  repeat first|((first|refine ra ?_|refine rb ?_|refine rh ?_);simp)|refine qf ?_|refine qg ?_
  refine Qb rfl (fun h3=> ?_) (fun h3=> ?_)
  ·repeat first|((first|refine ra ?_|refine rb ?_|refine rh ?_);simp)|refine qf ?_|refine qg ?_
   rw [hI,if_pos (by simpa using h3)]
  rw [if_neg (by simpa using h3)] at hI
  repeat first|((first|refine ra ?_|refine rb ?_|refine rh ?_);simp [hw])|refine qf ?_|refine qg ?_
  refine Qr _ (ih z1 hI) rfl (by simp) ?_ (by simp) (by simp)
  simp
 ·have z6:j=p.length:=by have k:¬(j:Int)<T:=(by simpa using za);omega
  subst z6
  repeat first|((first|refine ra ?_|refine rb ?_|refine rh ?_);simp)|refine qf ?_|refine qg ?_
  rw [hI,List.drop_length];rfl
end Go.Abs
namespace Go.Abs
open Go Go.Proofs
def Hm:List Prd→Int
 |[]=>0
 |p::r=>if Ev p.length p≠0 then Ev p.length p else Hm r
attribute [local irreducible] Ev
set_option maxHeartbeats 1000000 in
theorem Ko (l:List Prd):PC Tryz.prog 157 [LP l] (fun r=>r= .i (Hm l)):=by
 refine Ql tOk Tryz.func157 rfl Tryz.results157 rfl (by simp [Tryz.ntmps157]) ?_
 rw [Tryz.ntmps157];simp only [Qg];refine U0 0 rfl (fun hlen=> ?_)
 rw [List.length_map] at hlen
 repeat first|((first|refine ra ?_|refine rb ?_|refine rh ?_);simp)|refine qf ?_|refine qg ?_
 refine Qs l.length (fun j=>Hm l=Hm (l.drop j)) (fun j=>[(6,LP l),(7,.i l.length),(8,.i j)]) (fun _=>[]) rfl (by simp) (by simp) (by simp) (by simp) (by simp) ?_
 intro j hj hI ih
 repeat first|((first|refine ra ?_|refine rb ?_|refine rh ?_);simp)|refine qf ?_|refine qg ?_
 refine Qb rfl (fun z7=> ?_) (fun z8=> ?_)
 ·have z1:j<l.length:=by simpa using z7
  have hw:IntKind.i64.wrap ((j:Int)+1)=j+1:=wrap_i64 _ (by omega) (by omega)
  rw [W7 z1,Hm] at hI
  repeat first|((first|refine ra ?_|refine rb ?_|refine rh ?_);simp [z1])|refine qf ?_|refine qg ?_
  refine Qe rfl rfl (by simp) (Pt l[j].length l[j]) rfl ?_
  rintro _ rfl
  simp
  repeat first|((first|refine ra ?_|refine rb ?_|refine rh ?_);simp)|refine qf ?_|refine qg ?_
  refine Qb rfl (fun h3=> ?_) (fun h3=> ?_)
  ·repeat first|((first|refine ra ?_|refine rb ?_|refine rh ?_);simp)|refine qf ?_|refine qg ?_
   rw [hI,if_pos (by simpa using h3)]
  rw [if_neg (by simpa using h3)] at hI
  repeat first|((first|refine ra ?_|refine rb ?_|refine rh ?_);simp [hw])|refine qf ?_|refine qg ?_
  refine Qr _ (ih z1 hI) rfl (by simp) ?_ (by simp) (by simp)
  simp
 ·have z6:j=l.length:=by simp at z8;omega
  subst z6
  repeat first|((first|refine ra ?_|refine rb ?_|refine rh ?_);simp)|refine qf ?_|refine qg ?_
  rw [hI,List.drop_length];rfl
def u0r (p:Prd) (x:Sy):Int:=if Hm [p]≠0 then Hm [p] else Vr p.length x
def y0f (p:Prd) (x:Sy):Bool×Int:=if u0r p x≠0 then (false,u0r p x) else (Yl p x,0)
attribute [local irreducible] Hm q1t
theorem y17 {T:Int} {p:Prd} (h:Ev T p=0):Hm [p]=0∧(p.length:Int)=T:=by
 obtain ⟨h1,h2⟩:=(Eh T p).1 h
 have hl:(p.length:Int)=T:=by have:=h2.1;omega
 exact ⟨by unfold Hm;rw [hl,if_neg (fun k=>k h)];unfold Hm;rfl,hl⟩
theorem j0x {p:Prd} (h:Hm [p]=0):∀s∈p,CanonL s:=by
 unfold Hm at h
 by_cases hc:Ev p.length p=0
 ·exact ((Eh _ p).1 hc).2.2
 ·rw [if_pos hc] at h;exact absurd h hc
set_option maxHeartbeats 1000000 in
theorem Vf (p:Prd) (x:Sy):PC Tryz.prog 99 [encP p,encSy x] (fun r=>r= .tup [.bool (y0f p x).1,.i (y0f p x).2]):=by
 refine Ql tOk Tryz.func99 rfl Tryz.results99 rfl (by simp [Tryz.ntmps99]) ?_
 rw [Tryz.ntmps99];simp only [Qg];simp only [encP,encSy];refine Wx 0 0 rfl rfl (fun hlen=> ?_)
 rw [List.length_map] at hlen
 repeat first|((first|refine ra ?_|refine rb ?_|refine rh ?_);simp)|refine qf ?_|refine qg ?_
 refine Uy 2 rfl ?_
 simp
 refine Qe rfl rfl (by simp) (Ko [p]) rfl ?_
 rintro _ rfl
 simp
 repeat first|((first|refine ra ?_|refine rb ?_|refine rh ?_);simp)|refine qf ?_|refine qg ?_
 refine Qb rfl (fun h=> ?_) (fun h=> ?_)
 ·repeat first|((first|refine ra ?_|refine rb ?_|refine rh ?_);simp)|refine qf ?_|refine qg ?_
  have h':Hm [p]≠0:=by simpa using h
  have hE:u0r p x=Hm [p]:=by rw [u0r,if_pos h']
  rw [y0f,hE,if_pos h'];exact ⟨rfl,rfl⟩
 have h':Hm [p]=0:=by simpa using h
 have hE:u0r p x=Vr p.length x:=by rw [u0r,if_neg (fun k=>k h')]
 repeat first|((first|refine ra ?_|refine rb ?_|refine rh ?_);simp)|refine qf ?_|refine qg ?_
 refine Qb rfl (fun h1=> ?_) (fun h1=> ?_)
 ·repeat first|((first|refine ra ?_|refine rb ?_|refine rh ?_);simp)|refine qf ?_|refine qg ?_
  have z6:x.ty<0∨(p.length:Int)≤x.ty:=by simpa using h1
  have z1:u0r p x=6:=by rw [hE,Vr,if_pos z6]
  rw [y0f,z1];exact ⟨rfl,rfl⟩
 have z6:¬(x.ty<0∨(p.length:Int)≤x.ty):=by simpa using h1
 repeat first|((first|refine ra ?_|refine rb ?_|refine rh ?_);simp)|refine qf ?_|refine qg ?_
 refine Qb rfl (fun h2=> ?_) (fun h2=> ?_)
 ·repeat first|((first|refine ra ?_|refine rb ?_|refine rh ?_);simp)|refine qf ?_|refine qg ?_
  have z7:x.num< -1099511627776∨1099511627776<x.num:=by simpa using h2
  have z1:u0r p x=2:=by rw [hE,Vr,if_neg z6,if_pos z7]
  rw [y0f,z1];exact ⟨rfl,rfl⟩
 have z7:¬(x.num< -1099511627776∨1099511627776<x.num):=by simpa using h2
 have z1:u0r p x=0:=by rw [hE,Vr,if_neg z6,if_neg z7]
 repeat first|((first|refine ra ?_|refine rb ?_|refine rh ?_);simp)|refine qf ?_|refine qg ?_
 have zb:0≤x.ty:=by omega
 have zc:x.ty<(p.length:Int):=by omega
 have z8:x.ty.toNat<p.length:=by omega
 refine Qn tOk mixed [] (.val 0 (.val 1 (.val 2 (.val 3 (.val 4 (.val 5 (.val 6 (.val 7 (.one 8 (.val 9 (.val 10 (.val 11 (.val 12 (.done)))))))))))))) rfl (by kernel_rfl) ?_
 simp [zb,zc,z8]
 refine Qe rfl rfl (by simp) (Fc p[x.ty.toNat] x.num) rfl ?_
 rintro _ rfl
 simp
 repeat first|((first|refine ra ?_|refine rb ?_|refine rh ?_);simp)|refine qf ?_|refine qg ?_
 have hc:=j0x h' _ (List.getElem_mem z8)
 have za:q1t p[x.ty.toNat] x.num=(Ot p[x.ty.toNat] x.num,0):=by rw [q1t,if_pos ((Xm _).2 hc)]
 rw [y0f,z1,if_neg (fun k=>k rfl),za]
 refine ⟨?_,rfl⟩
 simp [Yl,zb,zc,List.getD,z8]
theorem k18 {T:Int} {p:Prd} (h:Ev T p=0) (x:Sy):y0f p x=if Vr T x≠0 then (false,Vr T x) else (Yl p x,0):=by
 obtain ⟨h1,h2⟩:=y17 h
 have hE:u0r p x=Vr T x:=by rw [u0r,if_neg (fun k=>k h1),h2]
 rw [y0f,hE]
end Go.Abs
namespace Go.Abs
open Go Go.Proofs
abbrev Q3 (a:Aut):List AV:=[.i a.types,.list (a.fin.map .bool),.list (a.mv.map encMv)]
theorem u1a (p:Prd) (x:Sy):PC Tryz.prog 175 [encP p,encSy x] (fun r=>r= .bool ((y0f p x).2==0 && (y0f p x).1)):=by
 refine Ql tOk Tryz.func175 rfl Tryz.results175 rfl (by simp [Tryz.ntmps175]) ?_
 rw [Tryz.ntmps175];simp only [Qg];simp only [encP,encSy]
 repeat first|((first|refine ra ?_|refine rb ?_|refine rh ?_);simp)|refine qf ?_|refine qg ?_
 refine Qe rfl rfl (by simp) (Vf p x) rfl ?_
 rintro _ rfl
 simp
 repeat first|((first|refine ra ?_|refine rb ?_|refine rh ?_);simp)|refine qf ?_|refine qg ?_
def stB (a:Aut) (n:Int):Bool:=decide (0≤n) && decide (n<a.fin.length)
theorem Zm (a:Aut) (n:Int):stB a n=true↔0≤n∧n<a.fin.length:=by simp [stB]
theorem Zn (H:List AObj) (id:Nat) (a:Aut) (hid:H[id]? =some (.vars (Q3 a))) (n:Int):FC Tryz.prog 134 [.i n,.vptr id 0] H (fun r H'=>r= .bool (stB a n)∧H'=H):=by
 refine W4 tOk Tryz.func134 rfl Tryz.results134 rfl (by simp [Tryz.ntmps134]) ?_
 rw [Tryz.ntmps134];simp only [Qg]
 repeat first|((first|refine ra ?_|refine rb ?_|refine rh ?_);simp [hid,stB])|refine qf ?_|refine qg ?_
attribute [local irreducible] Ev stB
set_option maxHeartbeats 2000000 in
theorem Iu (a:Aut):PC Tryz.prog 73 [encA a] (fun r=>r= .i (Wt a)):=by
 refine Ql tOk Tryz.func73 rfl Tryz.results73 rfl (by simp [Tryz.ntmps73]) ?_
 rw [Tryz.ntmps73];simp only [Qg];simp only [encA];refine Wx 0 1 rfl rfl (fun z7=> ?_)
 refine Wx 0 2 rfl rfl (fun z8=> ?_)
 rw [List.length_map] at z7 z8
 repeat first|((first|refine ra ?_|refine rb ?_|refine rh ?_);simp)|refine qf ?_|refine qg ?_
 refine Qb rfl (fun h=> ?_) (fun h=> ?_)
 ·repeat first|((first|refine ra ?_|refine rb ?_|refine rh ?_);simp)|refine qf ?_|refine qg ?_
  rw [Wt,if_pos (by simpa using h)]
 have h1:¬(a.types<1∨16<a.types):=by simpa using h
 repeat first|((first|refine ra ?_|refine rb ?_|refine rh ?_);simp)|refine qf ?_|refine qg ?_
 refine Qb rfl (fun h=> ?_) (fun h=> ?_)
 ·repeat first|((first|refine ra ?_|refine rb ?_|refine rh ?_);simp)|refine qf ?_|refine qg ?_
  rw [Wt,if_neg h1,if_pos];simp at h;omega
 have h2:¬(a.fin.length<1∨256<a.fin.length∨2048<a.mv.length):=by simp at h;omega
 have hE:Wt a=y0e a.types a.fin.length a.mv:=by rw [Wt,if_neg h1,if_neg h2]
 rw [hE]
 repeat first|((first|refine ra ?_|refine rb ?_|refine rh ?_);simp)|refine qf ?_|refine qg ?_
 refine Qs a.mv.length (fun j=>y0e a.types a.fin.length a.mv=y0e a.types a.fin.length (a.mv.drop j)) (fun j=>[(1,.vptr 0 0),(3,.fn (.func 134) [] [.vptr 0 0]),(33,.list (a.mv.map encMv)),(34,.i a.mv.length),(35,.i j)]) (fun _=>[.vars (Q3 a)]) rfl (by simp) (by simp) (by simp) (by simp) (by simp) ?_
 intro j hj hI ih
 repeat first|((first|refine ra ?_|refine rb ?_|refine rh ?_);simp)|refine qf ?_|refine qg ?_
 refine Qb rfl (fun za=> ?_) (fun zb=> ?_)
 ·have z1:j<a.mv.length:=by simpa using za
  have hw:IntKind.i64.wrap ((j:Int)+1)=j+1:=wrap_i64 _ (by omega) (by omega)
  rw [W7 z1,y0e] at hI
  repeat first|((first|refine ra ?_|refine rb ?_|refine rh ?_);simp [z1])|refine qf ?_|refine qg ?_
  cases hb:stB a a.mv[j].src with
  |false=>
   refine Q5 rfl rfl (Zn _ 0 a rfl a.mv[j].src) rfl ?_
   rintro r H' ⟨rfl,rfl⟩
   simp [hb]
   repeat first|((first|refine ra ?_|refine rb ?_|refine rh ?_);simp)|refine qf ?_|refine qg ?_
   refine Q7 rfl rfl ?_
   simp
   refine Qk rfl ?_
   repeat first|((first|refine ra ?_|refine rb ?_|refine rh ?_);simp)|refine qf ?_|refine qg ?_
   rw [hI,if_pos (fun k=>by rw [(Zm _ _).2 k.1] at hb;cases hb)]
  |true=>
   refine Q5 rfl rfl (Zn _ 0 a rfl a.mv[j].src) rfl ?_
   rintro r H' ⟨rfl,rfl⟩
   simp [hb]
   repeat first|((first|refine ra ?_|refine rb ?_|refine rh ?_);simp)|refine qf ?_|refine qg ?_
   refine Q5 rfl rfl (Zn _ 0 a rfl a.mv[j].dst) rfl ?_
   rintro r H' ⟨rfl,rfl⟩
   simp
   repeat first|((first|refine ra ?_|refine rb ?_|refine rh ?_);simp)|refine qf ?_|refine qg ?_
   refine Qb rfl (fun h3=> ?_) (fun h3=> ?_)
   ·repeat first|((first|refine ra ?_|refine rb ?_|refine rh ?_);simp)|refine qf ?_|refine qg ?_
    rw [hI,if_pos (fun k=>by rw [(Zm _ _).2 k.2] at h3;cases h3)]
   have hd:stB a a.mv[j].dst=true:=by simpa using h3
   rw [if_neg (fun k=>k ⟨(Zm _ _).1 hb,(Zm _ _).1 hd⟩)] at hI
   repeat first|((first|refine ra ?_|refine rb ?_|refine rh ?_);simp)|refine qf ?_|refine qg ?_
   refine Qe rfl rfl (by simp) (Pt a.types a.mv[j].on) rfl ?_
   rintro _ rfl
   simp
   repeat first|((first|refine ra ?_|refine rb ?_|refine rh ?_);simp)|refine qf ?_|refine qg ?_
   refine Qb rfl (fun h4=> ?_) (fun h4=> ?_)
   ·repeat first|((first|refine ra ?_|refine rb ?_|refine rh ?_);simp)|refine qf ?_|refine qg ?_
    rw [hI,if_pos (by simpa using h4)]
   rw [if_neg (by simpa using h4)] at hI
   repeat first|((first|refine ra ?_|refine rb ?_|refine rh ?_);simp [hw])|refine qf ?_|refine qg ?_
   refine Qr _ (ih z1 hI) rfl (by simp) ?_ (by simp) (by simp)
   simp
 ·have z6:j=a.mv.length:=by simp at zb;omega
  subst z6
  repeat first|((first|refine ra ?_|refine rb ?_|refine rh ?_);simp)|refine qf ?_|refine qg ?_
  rw [hI,List.drop_length];rfl
set_option maxHeartbeats 2000000 in
theorem w05 (a:Aut):PC Tryz.prog 51 [encA a] (fun r=>r= .i (Wt a)):=by
 refine Ql tOk Tryz.func51 rfl Tryz.results51 rfl (by simp [Tryz.ntmps51]) ?_
 rw [Tryz.ntmps51];simp only [Qg];simp only [encA];refine Wx 0 1 rfl rfl (fun z7=> ?_)
 refine Wx 0 2 rfl rfl (fun z8=> ?_)
 rw [List.length_map] at z7 z8
 repeat first|((first|refine ra ?_|refine rb ?_|refine rh ?_);simp)|refine qf ?_|refine qg ?_
 refine Qb rfl (fun h=> ?_) (fun h=> ?_)
 ·repeat first|((first|refine ra ?_|refine rb ?_|refine rh ?_);simp)|refine qf ?_|refine qg ?_
  rw [Wt,if_pos (by simpa using h)]
 have h1:¬(a.types<1∨16<a.types):=by simpa using h
 repeat first|((first|refine ra ?_|refine rb ?_|refine rh ?_);simp)|refine qf ?_|refine qg ?_
 refine Qb rfl (fun h=> ?_) (fun h=> ?_)
 ·repeat first|((first|refine ra ?_|refine rb ?_|refine rh ?_);simp)|refine qf ?_|refine qg ?_
  rw [Wt,if_neg h1,if_pos];simp at h;omega
 have h2:¬(a.fin.length<1∨256<a.fin.length∨2048<a.mv.length):=by simp at h;omega
 have hE:Wt a=y0e a.types a.fin.length a.mv:=by rw [Wt,if_neg h1,if_neg h2]
 rw [hE]
 repeat first|((first|refine ra ?_|refine rb ?_|refine rh ?_);simp)|refine qf ?_|refine qg ?_
 refine Qs a.mv.length (fun j=>y0e a.types a.fin.length a.mv=y0e a.types a.fin.length (a.mv.drop j)) (fun j=>[(1,.vptr 0 0),(3,.i a.fin.length),(4,.i j)]) (fun _=>[.vars (Q3 a)]) rfl (by simp) (by simp) (by simp) (by simp) (by simp) ?_
 intro j hj hI ih
 repeat first|((first|refine ra ?_|refine rb ?_|refine rh ?_);simp)|refine qf ?_|refine qg ?_
 refine Qb rfl (fun za=> ?_) (fun zb=> ?_)
 ·have z1:j<a.mv.length:=by simpa using za
  have hw:IntKind.i64.wrap ((j:Int)+1)=j+1:=wrap_i64 _ (by omega) (by omega)
  rw [W7 z1,y0e] at hI
  repeat first|((first|refine ra ?_|refine rb ?_|refine rh ?_);simp [z1])|refine qf ?_|refine qg ?_
  refine Qb rfl (fun h3=> ?_) (fun h3=> ?_)
  ·repeat first|((first|refine ra ?_|refine rb ?_|refine rh ?_);simp)|refine qf ?_|refine qg ?_
   rw [hI,if_pos];simp at h3;omega
  rw [if_neg (by simp at h3 ⊢;omega)] at hI
  repeat first|((first|refine ra ?_|refine rb ?_|refine rh ?_);simp)|refine qf ?_|refine qg ?_
  refine Qe rfl rfl (by simp) (y0m a.types a.mv[j].on) rfl ?_
  rintro _ rfl
  simp
  repeat first|((first|refine ra ?_|refine rb ?_|refine rh ?_);simp)|refine qf ?_|refine qg ?_
  refine Qb rfl (fun h4=> ?_) (fun h4=> ?_)
  ·repeat first|((first|refine ra ?_|refine rb ?_|refine rh ?_);simp)|refine qf ?_|refine qg ?_
   rw [hI,if_pos (by simpa using h4)]
  rw [if_neg (by simpa using h4)] at hI
  repeat first|((first|refine ra ?_|refine rb ?_|refine rh ?_);simp [hw])|refine qf ?_|refine qg ?_
  refine Qr _ (ih z1 hI) rfl (by simp) ?_ (by simp) (by simp)
  simp
 ·have z6:j=a.mv.length:=by simp at zb;omega
  subst z6
  repeat first|((first|refine ra ?_|refine rb ?_|refine rh ?_);simp)|refine qf ?_|refine qg ?_
  rw [hI,List.drop_length];rfl
end Go.Abs
