/- Part We of the proof: steps on the way to the last part. No condition. -/
import Derived.Test.YtjmkolhkojgjpaaGreatDoorWd
import Derived.Test.YtjmkolhkojgjpaaGreatDoorWc
set_option linter.all false
open List renaming mem_filter->xH,mem_flatMap->xQ,mem_filterMap->wH,mem_cons->yB,mem_map->zO,mem_of_find?_eq_some->ua,find?_eq_none->u9,Nodup->sB,pairwise_flatMap->vH,pairwise_map->xK,any_eq_true->wL,map_map->vE,nodup_append->vL,map_congr_left->xD,mem_append->zV,length_map->yE,foldl_cons->xV,range->yQ,range_succ->wQ,foldl_append->wJ,getElem?_eq_some_iff->zB,findIdx?_eq_none_iff->vT,mem_of_getElem?->zJ,findIdx?_eq_some_iff_getElem->xM,getElem?_eq_getElem->zI,pairwise_iff_getElem->yK,getElem?_append_right->zF,getElem_mem->zL,getElem?_append_left->zH,pairwise_append->yH,mem_singleton->zP,getD->yL,perm_middle->vO,take_append_drop->xI,mem_iff_getElem?->yO,pairwise_cons->yJ,perm_ext_iff_of_nodup->ud,getElem?_eq_none->y_,mem_append_left->yY,mem_range->yU,length_append->zW,length->ug,findIdx?_cons->tG,ext_getElem->xT,getElem_map->ut,flatMap_def->uY,map_const'->uo,map_cons->xJ,sum_cons->so,length_cons->yZ,length_flatMap->vZ,getElem_of_mem->yX,find?_some->t_,pairwise_mergeSort->ur,mergeSort_perm->wP,eq_nil_iff_forall_not_mem->vv,sum_replicate_nat->uj,all_eq_true->zX,drop_length->xX,getElem?_set_self->zK,getElem?_set_ne->zE,all_eq_false->uP
open Nat renaming lt_trichotomy->wR,strongRecOn->sj,le_refl->zS
open Bool renaming and_eq_true->z_,eq_iff_iff->x_,or_eq_true->vD
open Option renaming map_some->wC,getD_some->ww
open Prod renaming ext->u6,ext_iff->th
open Int renaming toNat_natCast->ue,le_refl->xC
set_option maxHeartbeats 2000000
set_option linter.unusedSimpArgs false
set_option maxRecDepth 100000
open Go.Proofs.Tryz
namespace Go.Abs
def Wz(a:Aut)(s:Int):List Mv:=a.mv.filter λm=>decide (m.src=s) && !Ws m.on
def Ee(a b:Aut)(s:Int×Int):List (Sy×(Int×Int)):=(Wz a s.1).flatMap λm=>(Wz b s.2).filterMap λn=>if Ws (Wp m.on n.on)then none else some (Qh (Wp m.on n.on),(m.dst,n.dst))
def R7{a:Aut}{s:Int}{m:Mv}:m∈Wz a s↔m∈a.mv/\m.src=s/\Ws m.on=false:=by unfold Wz;rw[xH];simp
def F3{a b:Aut}{s:Int×Int}{e:Sy×(Int×Int)}:e∈Ee a b s↔∃m∈Wz a s.1,∃n∈Wz b s.2,Ws (Wp m.on n.on)=false/\e=(Qh (Wp m.on n.on),(m.dst,n.dst)):=by
 unfold Ee;rw[xQ];constructor
 ·rintro⟨m,hm,h⟩;obtain⟨n,hn,h⟩:=wH.1 h;cases hv:Ws (Wp m.on n.on)
  ·rw[hv,if_neg (by simp)]at h;cases h;exact⟨m,hm,n,hn,hv,rfl⟩
  rw[hv,if_pos rfl]at h;cases h
 rintro⟨m,hm,n,hn,hv,rfl⟩;exact⟨m,hm,wH.2 ⟨n,hn,by rw[hv,if_neg (by simp)]⟩⟩
def Ub{T:Nat}{p:Prd}(h:PWf T p):Ws p=false↔∃t n,PM p t n:=by
 cases hv:Ws p
 ·simp only[true_iff];apply Classical.byContradiction;intro hn;have:=(Rv h).2 (λt n hm=>hn ⟨t,n,hm⟩);rw[hv]at this;cases this
 simp only[Bool.true_eq_false,false_iff];rintro⟨t,n,hm⟩;exact(Rv h).1 hv t n hm
def Y9{T:Nat}{p:Prd}(h:PWf T p)(hn:∃t n,PM p t n):okT T (Qh p)/\PM p (Qh p).ty.toNat (Qh p).num/\∀x,okT T x->PM p x.ty.toNat x.num->Qh p=x\/sLt (Qh p) x:=by
 have h1:=El h hn;have h2:=h.lt h1.1;refine⟨⟨by simp[Qh],by simpa[Qh]using h2.1,h2.2⟩,by simpa[Qh]using h1.1,λx hx hm=>?_⟩;rcases h1.2 _ _ hm with⟨e1,e2⟩|hlt
 ·left;unfold Qh;rw[e1,e2,show((x.ty.toNat:Nat):Int)=x.ty by have:=hx.1;omega]
 right;have:=q13 hlt;have e:(⟨(x.ty.toNat:Int),x.num⟩:Sy)=x:=by rw[show((x.ty.toNat:Nat):Int)=x.ty by have:=hx.1;omega]
 rw[e]at this;exact this
def S3{a b:Aut}(ha:Dfa a)(hb:Dfa b)(ht:b.types=a.types){s:Int×Int}(h1:inS a s.1)(h2:inS b s.2):
  (∀e∈Ee a b s,Q9 a e.1/\e.2=Rl a b s e.1)/\∀y,Q9 a y->∃e∈Ee a b s,e.2=Rl a b s y/\(e.1=y\/sLt e.1 y):=by
 have z1:∀x,Q9 a x->Q9 b x:=λx hx=>by unfold Q9 at *;rw[ht];exact hx
 have z7:∀ {m n:Mv},m∈a.mv->n∈b.mv->PWf a.types.toNat m.on/\PWf a.types.toNat n.on:=λhm hn=>⟨ha.ok.wfA.on _ hm,by rw[<-ht];exact hb.ok.wfA.on _ hn⟩
 constructor
 ·intro e he;obtain⟨m,hm,n,hn,hv,rfl⟩:=F3.1 he;obtain⟨m1,m2,_⟩:=R7.1 hm;obtain⟨n1,n2,_⟩:=R7.1 hn;obtain⟨w1,w2⟩:=z7 m1 n1;have hw:=Ta w1 w2.1;obtain⟨k1,k2,_⟩:=Y9 hw ((Ub hw).1 hv);have hk:=U8.1 k1;obtain⟨p1,p2⟩:=(Er w1.1 w2.1 _ _).1 k2;refine⟨hk,?_⟩;unfold Rl;rw[<-m2,<-n2,ha.to_of m1 hk ((E7 w1.1 _ hk.1.1).2 p1),hb.to_of n1 (z1 _ hk) ((E7 w2.1 _ hk.1.1).2 p2)]
 intro y hy;obtain⟨m,m1,m2,m3,m4⟩:=ha.move h1 hy;obtain⟨n,n1,n2,n3,n4⟩:=hb.move h2 (z1 y hy);obtain⟨w1,w2⟩:=z7 m1 n1;have hw:=Ta w1 w2.1;have p1:=(E7 w1.1 y hy.1.1).1 m3;have p2:=(E7 w2.1 y hy.1.1).1 n3;have z6:=(Er w1.1 w2.1 _ _).2 ⟨p1,p2⟩;have hv:=(Ub hw).2 ⟨_,_,z6⟩;refine⟨_,F3.2 ⟨m,R7.2 ⟨m1,m2,(Ub w1).2 ⟨_,_,p1⟩⟩,n,R7.2 ⟨n1,n2,(Ub w2).2 ⟨_,_,p2⟩⟩,hv,rfl⟩,?_,(Y9 hw ⟨_,_,z6⟩).2.2 y (U8.2 hy) z6⟩;unfold Rl;rw[m4,n4]
def lkN(near:List ((Int×Int)×Nat))(s:Int×Int):Option Nat:=(near.find? λe=>decide (e.1=s)).map (·.2)
def La(a:Aut)(near:List ((Int×Int)×Nat))(d:Nat)(s:Int×Int):Bool:=match d with
 |0=>Ys a a s
 |d+1=>(Ee a a s).any λe=>decide (lkN near e.2=some d)
def Yk(a:Aut)(near:List ((Int×Int)×Nat))(d:Nat):List (Int×Int):=(Sl a a).filter λs=>decide (lkN near s=none) && La a near d s
def L6(a:Aut):Nat->Nat->List ((Int×Int)×Nat)->List ((Int×Int)×Nat)
 |0,_,near=>near
 |f+1,d,near=>if Yk a near d=[]then near else L6 a f (d+1) (near++(Yk a near d).map λs=>(s,d))
def U0(a:Aut):List ((Int×Int)×Nat):=L6 a (a.fin.length * a.fin.length+1) 1 ((Yk a [] 0).map λs=>(s,0))
def inP(a:Aut)(s:Int×Int):Prop:=inS a s.1/\inS a s.2
def Mn(a:Aut)(s:Int×Int)(d:Nat):Prop:=∃w:List Sy,w.length=d/\(∀x∈w,Q9 a x)/\Ys a a (Tj (Rl a a) s w)=true
def Az(a:Aut)(s:Int×Int)(d:Nat):Prop:=Mn a s d/\∀k,k<d->¬Mn a s k
def Lg{a:Aut}{s:Int×Int}:Mn a s 0↔Ys a a s=true:=by
 constructor
 ·rintro⟨w,hw,_,h⟩;obtain rfl:=List.length_eq_zero_iff.1 hw;exact h
 intro h;exact⟨[],rfl,by simp,h⟩
def Fa{a:Aut}{s:Int×Int}{d:Nat}:Mn a s (d+1)↔∃y,Q9 a y/\Mn a (Rl a a s y) d:=by
 constructor
 ·rintro⟨w,hw,ho,h⟩;cases w with
  |nil=>cases hw
  |cons y w=>exact⟨y,ho y (by simp),w,by simpa using hw,λx hx=>ho x (by simp[hx]),h⟩
 rintro⟨y,hy,w,hw,ho,h⟩;exact⟨y::w,by simp[hw],λx hx=>(yB.1 hx).elim (λe=>by rw[e];exact hy) (ho x),h⟩
def Cd{a:Aut}{s:Int×Int}{d k:Nat}(h:Az a s d)(h':Az a s k):d=k:=by
 rcases wR d k with hlt|e|hlt
 ·exact absurd h.1 (h'.2 d hlt)
 ·exact e
 exact absurd h'.1 (h.2 k hlt)
def x08{a:Aut}{s:Int×Int}:∀(d:Nat),Mn a s d->∃k,k<=d/\Az a s k:=by
 intro d;induction d using sj with
 |_ d ih=>
  intro h;by_cases hk:∃k,k<d/\Mn a s k
  ·obtain⟨k,h1,h2⟩:=hk;obtain⟨j,h3,h4⟩:=ih k h1 h2;exact⟨j,by omega,h4⟩
  exact⟨d,zS _,h,λk h1 h2=>hk ⟨k,h1,h2⟩⟩
def F2{a:Aut}{s:Int×Int}{d:Nat}(h:Az a s (d+1)):∃y,Q9 a y/\Az a (Rl a a s y) d:=by obtain⟨y,hy,h1⟩:=Fa.1 h.1;refine⟨y,hy,h1,λk hk h2=>?_⟩;exact h.2 (k+1) (by omega) (Fa.2 ⟨y,hy,h2⟩)
def F5{a:Aut}(ha:Dfa a){s:Int×Int}(hs:inP a s){y:Sy}(hy:Q9 a y):inP a (Rl a a s y):=⟨(ha.next hs.1 hy).1,(ha.next hs.2 hy).1⟩
structure NInv (a:Aut) (d:Nat) (near:List ((Int×Int)×Nat)):Prop where
 lk:∀s,inP a s->∀k,lkN near s=some k↔(k<d/\Az a s k)
 keys:(near.map (·.1)).Nodup
 dom:∀e∈near,e.1∈Sl a a
def v2t(A:List ((Int×Int)×Nat))(B:List (Int×Int))(d:Nat)(s:Int×Int):lkN (A++B.map λt=>(t,d)) s=match lkN A s with|some k=>some k|none=>if s∈B then some d else none:=by
 unfold lkN;rw[List.find?_append];cases hA:A.find? λe=>decide (e.1=s)with
 |some e=>rfl
 |none=>
  simp only[Option.none_or,Option.map_none];by_cases hs:s∈B
  ·rw[if_pos hs];obtain⟨e,he⟩:=Option.isSome_iff_exists.1 (List.find?_isSome.2 ⟨(s,d),zO.2 ⟨s,hs,rfl⟩,by simp⟩:(List.find? (λe:(Int×Int)×Nat=>decide (e.1=s)) (B.map λt=>(t,d))).isSome);rw[he];obtain⟨t,_,rfl⟩:=zO.1 (ua he);rfl
  rw[if_neg hs];rw[u9.2 (λe he=>by
   obtain⟨t,ht,rfl⟩:=zO.1 he;simp only[decide_eq_true_eq];rintro rfl;exact hs ht)]
  rfl
def H5{A:List ((Int×Int)×Nat)}{s:Int×Int}:lkN A s=none↔s∉A.map (·.1):=by
 unfold lkN;rw[Option.map_eq_none_iff,u9];constructor
 ·intro h hs;obtain⟨e,he,rfl⟩:=zO.1 hs;exact h e he (by simp)
 intro h e he;simp only[decide_eq_true_eq];rintro rfl;exact h (zO.2 ⟨e,he,rfl⟩)
def v1r{a:Aut}{s:Int×Int}(h:s∈Sl a a):inP a s:=by obtain⟨i,hi,hs⟩:=xQ.1 h;obtain⟨j,hj,rfl⟩:=zO.1 hs;exact⟨Wy.1 hi,Wy.1 hj⟩
def Xj(a:Aut):(Sl a a).Nodup:=by have hr:∀n,(W9 n).Nodup:=λn=>(J3 n).imp (λh e=>by omega);unfold Sl sB;rw[vH];refine⟨λi _=>xK.2 ((hr _).imp λh e=>h (Prod.mk.inj e).2),(hr _).imp λ{i j} hij x hx y hy e=>?_⟩;obtain⟨u,_,rfl⟩:=zO.1 hx;obtain⟨v,_,rfl⟩:=zO.1 hy;exact hij (Prod.mk.inj e).1
def K0{a:Aut}(ha:Dfa a){d:Nat}{near:List ((Int×Int)×Nat)}(h:NInv a d near){s:Int×Int}:s∈Yk a near d↔inP a s/\Az a s d:=by
 unfold Yk;rw[xH];simp only[z_,decide_eq_true_eq];have z1:∀s,inP a s->(lkN near s=none↔∀k,k<d->¬Mn a s k):=λs hs=>by
  constructor
  ·intro hn k hk hd;obtain⟨j,h1,h2⟩:=x08 k hd;have:=(h.lk s hs j).2 ⟨by omega,h2⟩;rw[hn]at this;cases this
  intro hk;cases hl:lkN near s with
  |none=>rfl
  |some k=>obtain⟨h1,h2⟩:=(h.lk s hs k).1 hl;exact absurd h2.1 (hk k h1)
 constructor
 ·rintro⟨h1,h2,h3⟩;have hs:=v1r h1;have hk:=(z1 s hs).1 h2;refine⟨hs,?_,hk⟩;cases d with
  |zero=>exact Lg.2 h3
  |succ d=>simp only[La,wL,decide_eq_true_eq]at h3;obtain⟨e,he,hl⟩:=h3;obtain⟨e1,e2⟩:=(S3 ha ha rfl hs.1 hs.2).1 e he;rw[e2]at hl;exact Fa.2 ⟨e.1,e1,((h.lk _ (F5 ha hs e1) d).1 hl).2.1⟩
 rintro⟨hs,h2⟩;refine⟨S1 hs.1 hs.2,(z1 s hs).2 h2.2,?_⟩;cases d with
 |zero=>exact Lg.1 h2.1
 |succ d=>obtain⟨y,hy,hm⟩:=F2 h2;obtain⟨e,he,e1,_⟩:=(S3 ha ha rfl hs.1 hs.2).2 y hy;simp only[La,wL,decide_eq_true_eq];exact⟨e,he,by rw[e1];exact(h.lk _ (F5 ha hs hy) d).2 ⟨by omega,hm⟩⟩
def NInv.step{a:Aut}(ha:Dfa a){d:Nat}{near:List ((Int×Int)×Nat)}(h:NInv a d near):NInv a (d+1) (near++(Yk a near d).map λs=>(s,d)):=by
 refine⟨λs hs k=>?_,?_,λe he=>?_⟩
 ·rw[v2t];cases hl:lkN near s with
  |some j=>
   obtain⟨h1,h2⟩:=(h.lk s hs j).1 hl;simp only[Option.some.injEq];constructor
   ·rintro rfl;exact⟨by omega,h2⟩
   rintro⟨_,h3⟩;exact Cd h2 h3
  |none=>
   simp only;have z1:∀k,k<d->¬Az a s k:=λk hk hm=>by have:=(h.lk s hs k).2 ⟨hk,hm⟩;rw[hl]at this;cases this
   by_cases hf:s∈Yk a near d
   ·rw[if_pos hf];have hm:=((K0 ha h).1 hf).2;simp only[Option.some.injEq];constructor
    ·rintro rfl;exact⟨by omega,hm⟩
    rintro⟨_,h3⟩;exact Cd hm h3
   rw[if_neg hf];constructor
   ·intro hc;cases hc
   rintro⟨h1,h3⟩;by_cases hkd:k<d
   ·exact absurd h3 (z1 k hkd)
   have:k=d:=by omega
   subst this;exact absurd ((K0 ha h).2 ⟨hs,h3⟩) hf
 ·rw[List.map_append,vE,vL];refine⟨h.keys,?_,λx hx y hy e=>?_⟩
  ·have:(Yk a near d).map ((·.1)∘λs=>(s,d))=Yk a near d:=by exact(xD (g:=id) (λ_ _=>rfl)).trans (List.map_id _)
   rw[this];exact(Xj a).filter _
  subst e;obtain⟨t,ht,rfl⟩:=zO.1 hy;have:=(xH.1 ht).2;simp only[z_,decide_eq_true_eq]at this;exact H5.1 this.1 hx
 rcases zV.1 he with he|he
 ·exact h.dom e he
 obtain⟨t,ht,rfl⟩:=zO.1 he;exact(xH.1 ht).1
def x09{a:Aut}(ha:Dfa a):∀(k d:Nat) (s:Int×Int),inP a s->Az a s (d+k)->∃t,inP a t/\Az a t d
 |0,_,s,hs,h=>⟨s,hs,h⟩
 |k+1,d,s,hs,h=>by obtain⟨y,hy,hm⟩:=F2 (d:=d+k) h;exact x09 ha k d _ (F5 ha hs hy) hm
def x1u{a:Aut}(ha:Dfa a):∀(f d:Nat) (near:List ((Int×Int)×Nat)),a.fin.length * a.fin.length+1<=near.length+f->NInv a d near->∀s,inP a s->∀k,lkN (L6 a f d near) s=some k↔Az a s k
 |0,d,near,hf,h=>by
  exfalso;have:=Yd _ (Sl a a) h.keys (λs hs=>by
   obtain⟨e,he,rfl⟩:=zO.1 hs;exact h.dom e he)
  rw[Pj,yE]at this;omega
 |f+1,d,near,hf,h=>by
  rw[L6];by_cases he:Yk a near d=[]
  ·rw[if_pos he];intro s hs k;rw[h.lk s hs k];refine⟨λhk=>hk.2,λhm=>⟨?_,hm⟩⟩;by_cases hkd:k<d
   ·exact hkd
   exfalso;obtain⟨t,ht,z1⟩:=x09 ha (k - d) d s hs (by rw[show d+(k - d)=k by omega];exact hm);have:=(K0 ha h).2 ⟨ht,z1⟩;rw[he]at this;cases this
  rw[if_neg he];have hl:=List.length_pos_iff.2 he;exact x1u ha f (d+1) _ (by simp;omega) (h.step ha)
def q1r{a:Aut}(ha:Dfa a):∀s,inP a s->∀k,lkN (U0 a) s=some k↔Az a s k:=by
 have h0:NInv a 0 []:=⟨λs _ k=>by simp[lkN],by simp,by simp⟩
 have h1:=h0.step ha;rw[List.nil_append]at h1;exact x1u ha _ 1 _ (by omega) h1
def L5(x y:Sy):Bool:=decide (x.ty<y.ty) || (decide (x.ty=y.ty) && decide (x.num<y.num))
def f2a(es:List (Sy×(Int×Int))):Option (Sy×(Int×Int)):=es.foldl (λb e=>match b with|none=>some e|some c=>if L5 e.1 c.1 then some e else some c) none
def Gt(x y:Sy):L5 x y=true↔sLt x y:=by simp[L5,sLt]
def K6:∀(es:List (Sy×(Int×Int))) (c:Sy×(Int×Int)),∃e,es.foldl (λb e=>match b with|none=>some e|some c=>if L5 e.1 c.1 then some e else some c) (some c)=some e/\(e=c\/e∈es)/\(e.1=c.1\/sLt e.1 c.1)/\∀f∈es,e.1=f.1\/sLt e.1 f.1
 |[],c=>⟨c,rfl,.inl rfl,.inl rfl,by simp⟩
 |f::es,c=>by
  rw[xV];simp only;cases hb:L5 f.1 c.1 with
  |true=>
   rw[if_pos rfl];have z6:=(Gt _ _).1 hb;obtain⟨e,h1,h2,h3,h4⟩:=K6 es f;refine⟨e,h1,.inr ?_,.inr ?_,λg hg=>?_⟩
   ·rcases h2 with rfl|h2
    ·simp
    simp[h2]
   ·rcases h3 with h3|h3
    ·rw[h3];exact z6
    exact h3.trans z6
   rcases yB.1 hg with rfl|hg
   ·exact h3
   exact h4 g hg
  |false=>
   rw[if_neg (by simp)];obtain⟨e,h1,h2,h3,h4⟩:=K6 es c;refine⟨e,h1,h2.imp id (λh=>List.mem_cons_of_mem _ h),h3,λg hg=>?_⟩;rcases yB.1 hg with rfl|hg
   ·have hn:¬sLt g.1 c.1:=λh=>by rw[(Gt _ _).2 h]at hb;cases hb
    have z1:c.1=g.1\/sLt c.1 g.1:=by
     rcases sLt.tri g.1 c.1 with h|h|h
     ·exact absurd h hn
     ·exact .inl h.symm
     exact .inr h
    rcases h3 with h3|h3
    ·rw[h3];exact z1
    rcases z1 with z1|z1
    ·rw[<-z1];exact .inr h3
    exact .inr (h3.trans z1)
   exact h4 g hg
def z18{es:List (Sy×(Int×Int))}(h:es≠[]):∃e,f2a es=some e/\e∈es/\∀f∈es,e.1=f.1\/sLt e.1 f.1:=by
 cases es with
 |nil=>exact absurd rfl h
 |cons c es=>
  obtain⟨e,h1,h2,h3,h4⟩:=K6 es c;refine⟨e,h1,by rcases h2 with rfl|h2<;>simp[*],λf hf=>?_⟩;rcases yB.1 hf with rfl|hf
  ·exact h3
  exact h4 f hf
def Ji(a:Aut)(near:List ((Int×Int)×Nat)):Nat->Int×Int->List Sy
 |0,_=>[]
 |d+1,s=>match f2a ((Ee a a s).filter λe=>decide (lkN near e.2=some d))with
  |some e=>e.1::Ji a near d e.2
  |none=>⟨0,0⟩::Ji a near d (0,0)
def x2h{x y:Sy}{v w:List Sy}(h:x=y\/sLt x y)(hl:v.length=w.length)(hv:x=y->lle v w):lle (x::v) (y::w):=by
 rcases h with rfl|h
 ·rcases hv rfl with rfl|hv
  ·exact .inl rfl
  rcases hv with hv|⟨h1,h2⟩
  ·omega
  exact .inr (.inr ⟨by simp[h1],.inr ⟨rfl,h2⟩⟩)
 exact .inr (.inr ⟨by simp[hl],.inl h⟩)
def q0e{a:Aut}(ha:Dfa a){near:List ((Int×Int)×Nat)}(hn:∀s,inP a s->∀k,lkN near s=some k↔Az a s k):∀(d:Nat) (s:Int×Int),inP a s->Az a s d->(Ji a near d s).length=d/\w2n a a s.1 s.2 (Ji a near d s)
 |0,s,hs,h=>⟨rfl,by simp[Ji],Lg.1 h.1,λv hv hg=>by
   cases v with
   |nil=>exact .inl rfl
   |cons x v=>exact .inr (.inl (by simp[Ji]))⟩
 |d+1,s,hs,h=>by
  obtain⟨y,hy,hm⟩:=F2 h;obtain⟨e0,z8,za,_⟩:=(S3 ha ha rfl hs.1 hs.2).2 y hy;have zb:(Ee a a s).filter (λe=>decide (lkN near e.2=some d))≠[]:=List.ne_nil_of_mem (xH.2 ⟨z8,by
   rw[za];simpa using(hn _ (F5 ha hs hy) d).2 hm⟩)
  obtain⟨e,h1,h2,h3⟩:=z18 zb;obtain⟨zc,zd⟩:=xH.1 h2;obtain⟨e1,e2⟩:=(S3 ha ha rfl hs.1 hs.2).1 e zc;have z1:inP a e.2:=by rw[e2];exact F5 ha hs e1
  have ze:Az a e.2 d:=(hn _ z1 d).1 (by simpa using zd);obtain⟨i1,i2⟩:=q0e ha hn d e.2 z1 ze;rw[Ji,h1];simp only;refine⟨by simp[i1],λx hx=>?_,?_,λv hv hg=>?_⟩
  ·rcases yB.1 hx with rfl|hx
   ·exact e1
   exact i2.okw x hx
  ·have:=i2.goodw;show Ys a a (Tj (Rl a a) (Rl a a s e.1) (Ji a near d e.2))=true;rw[<-e2];exact this
  by_cases hlen:v.length=d+1
  ·cases v with
   |nil=>cases hlen
   |cons z v=>
    have hz:=hv z (by simp);have z6:v.length=d:=by simpa using hlen
    have z7:Ys a a (Tj (Rl a a) (Rl a a s z) v)=true:=hg;have zf:Az a (Rl a a s z) d:=by refine⟨⟨v,z6,λx hx=>hv x (by simp[hx]),z7⟩,λk hk hd=>?_⟩;exact h.2 (k+1) (by omega) (Fa.2 ⟨z,hz,hd⟩)
    obtain⟨f,hf,f1,f2⟩:=(S3 ha ha rfl hs.1 hs.2).2 z hz;have zg:f∈(Ee a a s).filter (λe=>decide (lkN near e.2=some d)):=xH.2 ⟨hf,by
     rw[f1];simpa using(hn _ (F5 ha hs hz) d).2 zf⟩
    have hle:e.1=z\/sLt e.1 z:=by
     rcases h3 f zg with h4|h4
     ·rcases f2 with f2|f2
      ·exact .inl (h4.trans f2)
      rw[h4];exact .inr f2
     rcases f2 with f2|f2
     ·rw[<-f2];exact .inr h4
     exact .inr (h4.trans f2)
    refine x2h hle (by rw[i1,z6]) λzh=>?_;refine i2.least v (λx hx=>hv x (by simp[hx])) ?_;show Ys a a (Tj (Rl a a) e.2 v)=true;rw[e2,zh];exact z7
  have zi:d+1<=v.length:=by
   by_cases hlt:v.length<d+1
   ·exact absurd ⟨v,rfl,hv,hg⟩ (h.2 _ hlt)
   omega
  exact .inr (.inl (by simp[i1];omega))
def y2o{a:Aut}(ha:Dfa a){p q:Int}(hp:inS a p)(hq:inS a q):(Fu a a p q).1=(lkN (U0 a) (p,q)).map λd=>Ji a (U0 a) d (p,q):=by
 have hn:=q1r ha;have z1:inP a (p,q):=⟨hp,hq⟩
 rcases Jr ha ha rfl hp hq with⟨w,h1,h2⟩|⟨h1,h2⟩
 ·obtain⟨d,_,hm⟩:=x08 (a:=a) (s:=(p,q)) w.length ⟨w,rfl,h2.okw,h2.goodw⟩;rw[h1,(hn _ z1 d).2 hm,wC,h2.unique (q0e ha hn d _ z1 hm).2]
 rw[h1];cases hl:lkN (U0 a) (p,q)with
 |none=>rfl
 |some d=>exfalso;obtain⟨w,_,hw,hg⟩:=((hn _ z1 d).1 hl).1;exact(Ds a a p q w).1 hg (h2 w hw)
structure EqvB (n:Nat) (E:Nat->Nat->Bool):Prop where
 refl:∀i,i<n->E i i=true
 symm:∀i k,i<n->k<n->E i k=true->E k i=true
 trans:∀i k j,i<n->k<n->j<n->E i k=true->E k j=true->E i j=true
def Vm(E:Nat->Nat->Bool)(st:List Nat×List Nat)(i:Nat):List Nat×List Nat:=
 match st.1.findIdx? (E i)with
 |some t=>(st.1,st.2++[t])
 |none=>(st.1++[i],st.2++[st.1.length])
def Gf(E:Nat->Nat->Bool)(n:Nat):List Nat×List Nat:=(yQ n).foldl (Vm E) ([],[])
def w0a(E:Nat->Nat->Bool)(n:Nat):Gf E (n+1)=Vm E (Gf E n) n:=by rw[Gf,wQ,wJ];rfl
structure ClsS (E:Nat->Nat->Bool) (n:Nat) (fs out:List Nat):Prop where
 len:out.length=n
 asc:fs.Pairwise (·<·)
 lt:∀r∈fs,r<n
 apart:fs.Pairwise (λr s=>E r s=false)
 num:∀i,i<n->∃t r,out[i]?=some t/\fs[t]?=some r/\r<=i/\E i r=true
def Ep{α:Type}{l:List α}{i:Nat}{x:α}(h:l[i]?=some x):i<l.length:=(zB.1 h).1
def j0d{α:Type}{l:List α}{f:α->Bool}{t:Nat}{x:α}(ht:l[t]?=some x)(hx:f x=true)(hu:∀(i j:Nat) (a b:α),l[i]?=some a->l[j]?=some b->f a=true->f b=true->i=j):l.findIdx? f=some t:=by
 cases hf:l.findIdx? f with
 |none=>rw[vT]at hf;have:=hf x (zJ ht);rw[hx]at this;cases this
 |some u=>obtain⟨z1,z6,_⟩:=xM.1 hf;rw[hu u t l[u] x (zI z1) ht z6 hx]
def ClsS.uniq{E:Nat->Nat->Bool}{N n:Nat}(hE:EqvB N E)(hn:n<=N){fs out:List Nat}(h:ClsS E n fs out){i:Nat}(hi:i<N){u v r s:Nat}(hr:fs[u]?=some r)(hs:fs[v]?=some s)(e1:E i r=true)(e2:E i s=true):u=v:=by
 have z7:=zJ hr;have z8:=zJ hs;have za:=h.lt r z7;have zb:=h.lt s z8;have z1:E r s=true:=hE.trans r i s (by omega) hi (by omega) (hE.symm i r hi (by omega) e1) e2;have z6:E s r=true:=hE.symm r s (by omega) (by omega) z1;obtain⟨hu,rfl⟩:=zB.1 hr;obtain⟨hv,rfl⟩:=zB.1 hs;rcases wR u v with k|k|k
 ·have:=(yK.1 h.apart) u v hu hv k;rw[this]at z1;cases z1
 ·exact k
 have:=(yK.1 h.apart) v u hv hu k;rw[this]at z6;cases z6
def w0x{E:Nat->Nat->Bool}{N:Nat}(hE:EqvB N E):∀n,n<=N->ClsS E n (Gf E n).1 (Gf E n).2
 |0,_=>⟨rfl,by simp[Gf],by simp[Gf],by simp[Gf],λi hi=>by omega⟩
 |n+1,hn=>by
  have h:=w0x hE n (by omega);rw[w0a];generalize Gf E n=st at *
  obtain⟨fs,out⟩:=st;simp only at h;unfold Vm;simp only;cases hf:fs.findIdx? (E n)with
  |some t=>
   obtain⟨h1,h2,_⟩:=xM.1 hf;simp only;refine⟨by simp[h.len],h.asc,λr hr=>by have:=h.lt r hr;omega,h.apart,λi hi=>?_⟩;by_cases e:i=n
   ·subst e;exact⟨t,fs[t],by rw[zF (by rw[h.len];omega)];simp[h.len],zI h1,by have:=h.lt _ (zL h1);omega,h2⟩
   obtain⟨t',r,a1,a2,a3,a4⟩:=h.num i (by omega);exact⟨t',r,by rw[zH (by rw[h.len];omega)];exact a1,a2,a3,a4⟩
  |none=>
   rw[vT]at hf;simp only;refine⟨by simp[h.len],yH.2 ⟨h.asc,by simp,λr hr s hs=>by rw[zP.1 hs];exact h.lt r hr⟩,λr hr=>?_,yH.2 ⟨h.apart,by simp,λr hr s hs=>?_⟩,λi hi=>?_⟩
   ·rcases zV.1 hr with hr|hr
    ·have:=h.lt r hr;omega
    rw[zP.1 hr];omega
   ·rw[zP.1 hs];have z1:=h.lt r hr;have:=hf r hr;cases hc:E r n
    ·rfl
    rw[hE.symm r n (by omega) (by omega) hc]at this;cases this
   by_cases e:i=n
   ·subst e;exact⟨fs.length,i,by rw[zF (by rw[h.len];omega)];simp[h.len],by rw[zF (by omega)];simp,by omega,hE.refl i (by omega)⟩
   obtain⟨t',r,a1,a2,a3,a4⟩:=h.num i (by omega);exact⟨t',r,by rw[zH (by rw[h.len];omega)];exact a1,by rw[zH (Ep a2)];exact a2,a3,a4⟩
def ClsS.same{E:Nat->Nat->Bool}{n:Nat}(hE:EqvB n E){fs out:List Nat}(h:ClsS E n fs out){i k:Nat}(hi:i<n)(hk:k<n):out.getD i 0=out.getD k 0↔E i k=true:=by
 obtain⟨t,r,a1,a2,a3,a4⟩:=h.num i hi;obtain⟨u,s,b1,b2,b3,b4⟩:=h.num k hk;simp only[yL,a1,b1,ww];constructor
 ·intro e;subst e;rw[a2]at b2;cases b2;exact hE.trans i r k hi (by omega) hk a4 (hE.symm k r hk (by omega) b4)
 intro e;refine h.uniq hE (zS n) hi a2 b2 a4 ?_;exact hE.trans i k s hi hk (by omega) e b4
def ClsS.first{E:Nat->Nat->Bool}{n:Nat}(hE:EqvB n E){fs out:List Nat}(h:ClsS E n fs out){t r:Nat}(ht:fs[t]?=some r):out.findIdx? (λc=>decide (c=t))=some r:=by
 have hr:=h.lt r (zJ ht);rw[xM];refine⟨by rw[h.len];exact hr,?_,λj hj=>?_⟩
 ·obtain⟨u,s,a1,a2,a3,a4⟩:=h.num r hr;have hu:u=t:=h.uniq hE (zS n) hr a2 ht a4 (hE.refl r hr);obtain⟨hl,e⟩:=zB.1 a1;rw[e,hu];simp
 obtain⟨u,s,a1,a2,a3,a4⟩:=h.num j (by omega);obtain⟨hl,e⟩:=zB.1 a1;rw[e];have:u≠t:=λe'=>by subst e';rw[ht]at a2;cases a2;omega
 simpa using this
def ClsS.lt_fs{E:Nat->Nat->Bool}{n:Nat}{fs out:List Nat}(h:ClsS E n fs out){i:Nat}(hi:i<n):out.getD i 0<fs.length:=by obtain⟨t,r,a1,a2,_,_⟩:=h.num i hi;simp only[yL,a1,ww];exact Ep a2
def eqW(a b:Aut)(p q:Int):Prop:=∀w,(∀x∈w,Q9 a x)->Lz a p w=Lz b q w
def eqS(a:Aut)(i k:Nat):Bool:=(lkN (U0 a) ((i:Int),(k:Int))).isNone
def Sr{a:Aut}{i:Nat}(h:i<a.fin.length):inS a (i:Int):=⟨by omega,by omega⟩
def u1h{a b:Aut}(ha:Dfa a)(hb:Dfa b)(ht:b.types=a.types){p q:Int}(hp:inS a p)(hq:inS b q):(Fu a b p q).1=none↔eqW a b p q:=by
 rcases Jr ha hb ht hp hq with⟨w,h1,h2⟩|⟨h1,h2⟩
 ·rw[h1];exact⟨λh=>(by cases h),λh=>absurd (h w h2.okw) ((Ds a b p q w).1 h2.goodw)⟩
 exact⟨λ_=>h2,λ_=>h1⟩
def Sj{a:Aut}(ha:Dfa a){i k:Nat}(hi:i<a.fin.length)(hk:k<a.fin.length):eqS a i k=true↔eqW a a i k:=by rw[<-u1h ha ha rfl (Sr hi) (Sr hk),y2o ha (Sr hi) (Sr hk),eqS];cases lkN (U0 a) ((i:Int),(k:Int))<;>simp
def q2s{a:Aut}(ha:Dfa a):EqvB a.fin.length (eqS a):=
 ⟨λi hi=>(Sj ha hi hi).2 λ_ _=>rfl,λi k hi hk h=>(Sj ha hk hi).2 λw hw=>((Sj ha hi hk).1 h w hw).symm,
  λi k j hi hk hj h h'=>(Sj ha hi hj).2 λw hw=>((Sj ha hi hk).1 h w hw).trans ((Sj ha hk hj).1 h' w hw)⟩
def fsA(a:Aut):List Nat:=(Gf (eqS a) a.fin.length).1
def clA(a:Aut):List Nat:=(Gf (eqS a) a.fin.length).2
def k28{a:Aut}(ha:Dfa a):ClsS (eqS a) a.fin.length (fsA a) (clA a):=w0x (q2s ha) _ (zS _)
def g1n{a:Aut}(ha:Dfa a){i k:Nat}(hi:i<a.fin.length)(hk:k<a.fin.length):(clA a).getD i 0=(clA a).getD k 0↔eqW a a i k:=by rw[(k28 ha).same (q2s ha) hi hk,Sj ha hi hk]
section
section
variable {α:Type} (key:α->Nat×Int)
def Vc(s:List α)(x:α):Nat->Nat
 |0=>0
 |j+1=>match s[j]? with
  |some y=>if Ma (key x) (key y)=true then Vc s x j else j+1
  |none=>j+1
def u1x(s:List α)(x:α):List α:=s.take (Vc key s x s.length)++x::s.drop (Vc key s x s.length)
def d1b(L:List α):List α:=L.foldl (u1x key) []
def ltG(p q:α):Prop:=Ov (key p).1 (key p).2 (key q).1 (key q).2
theorem Cf(s:List α)(x:α):∀j,j<=s.length->Vc key s x j<=j/\(∀i,Vc key s x j<=i->i<j->∀h:i<s.length,Ma (key x) (key s[i])=true)/\(∀i,i+1=Vc key s x j->∀h:i<s.length,Ma (key x) (key s[i])=false)
 |0,_=>⟨zS _,λi _ h=>by omega,λi h=>by simp[Vc]at h⟩
 |j+1,hj=>by
  have z1:j<s.length:=by omega
  rw[Vc,zI z1];simp only;by_cases hb:Ma (key x) (key s[j])=true
  ·rw[if_pos hb];obtain⟨h1,h2,h3⟩:=Cf s x j (by omega);refine⟨by omega,λi hi z6 hl=>?_,h3⟩;by_cases hij:i=j
   ·subst hij;exact hb
   exact h2 i hi (by omega) hl
  rw[if_neg hb];refine⟨zS _,λi hi z6=>by omega,λi hi hl=>?_⟩;have:i=j:=by omega
  subst this;simpa using hb
theorem z19(s:List α)(x:α):(u1x key s x).Perm (x::s):=by unfold u1x;refine vO.trans ?_;rw[xI]
theorem y0i{s:List α}{x:α}(hs:s.Pairwise (ltG key))(hd:∀y∈s,key y≠key x):(u1x key s x).Pairwise (ltG key):=by
 obtain⟨h1,h2,h3⟩:=Cf key s x s.length (zS _);unfold u1x;generalize Vc key s x s.length=k at *
 have z1:=hs;rw[<-xI k s]at z1;obtain⟨p1,p2,p3⟩:=yH.1 z1;have z7:∀y∈s.drop k,ltG key x y:=λy hy=>by obtain⟨i,hi⟩:=yO.1 hy;rw[List.getElem?_drop]at hi;obtain⟨hl,e⟩:=zB.1 hi;have:=h2 (k+i) (by omega) hl hl;rw[e]at this;exact(Tp _ _).1 this
 have z8:∀i,i+1=k->∀h:i<s.length,ltG key s[i] x:=λi hi hl=>by
  have h4:=h3 i hi hl;have zc:=hd s[i] (zL hl);unfold ltG;rcases wR (key s[i]).1 (key x).1 with a|a|a
  ·exact .inl a
  ·rcases Int.lt_trichotomy (key s[i]).2 (key x).2 with b|b|b
   ·exact .inr ⟨a,b⟩
   ·exact absurd (u6 a b) zc
   have:Ma (key x) (key s[i])=true:=(Tp _ _).2 (.inr ⟨a.symm,b⟩);rw[this]at h4;cases h4
  have:Ma (key x) (key s[i])=true:=(Tp _ _).2 (.inl a);rw[this]at h4;cases h4
 have z6:∀y∈s.take k,ltG key y x:=λy hy=>by
  obtain⟨i,hi⟩:=yO.1 hy;rw[List.getElem?_take]at hi;split at hi
  ·rename_i zd;obtain⟨hl,e⟩:=zB.1 hi;obtain⟨k',rfl⟩:∃k',k=k'+1:=⟨k - 1,by omega⟩
   have za:k'<s.length:=by omega
   have zb:=z8 k' rfl za;by_cases hij:i=k'
   ·subst hij;rw[<-e];exact zb
   have:=yK.1 hs i k' hl za (by omega);rw[e]at this;exact Ov.trans this zb
  cases hi
 refine yH.2 ⟨p1,yJ.2 ⟨z7,p2⟩,λy hy z hz=>?_⟩;rcases yB.1 hz with rfl|hz
 ·exact z6 y hy
 exact p3 y hy z hz
theorem Zs(L:List α)(hd:L.Pairwise (λp q=>key p≠key q)):(d1b key L).Perm L/\(d1b key L).Pairwise (ltG key):=by
 have go:∀(r s:List α),s.Pairwise (ltG key)->(s++r).Pairwise (λp q=>key p≠key q)->(r.foldl (u1x key) s).Perm (s++r)/\(r.foldl (u1x key) s).Pairwise (ltG key):=by
  intro r;induction r with
  |nil=>intro s h _;simpa using h
  |cons x r ih=>intro s h hd;obtain⟨d1,d2,d3⟩:=yH.1 hd;have hi:=y0i key h (λy hy=>d3 y hy x (by simp));have hp:=z19 key s x;have z1:(u1x key s x++r).Perm (s++x::r):=(hp.append_right r).trans (vO (l₁:=s) (a:=x) (l₂:=r)).symm;have z6:(u1x key s x++r).Pairwise (λp q=>key p≠key q):=(z1.pairwise_iff (λh=>Ne.symm h)).2 hd;obtain⟨i1,i2⟩:=ih (u1x key s x) hi z6;rw[xV];exact⟨i1.trans z1,i2⟩
 have h:=go L [] List.Pairwise.nil (by simpa using hd);unfold d1b;simpa using h
theorem w29{l l':List α}(hs:l.Pairwise (ltG key))(z1:l'.Pairwise (ltG key))(hp:∀x,x∈l↔x∈l'):l=l':=by have z6:∀ {X:List α},X.Pairwise (ltG key)->X.Nodup:=λhx=>hx.imp (λh e=>by subst e;exact Ov.irr h);refine List.Perm.eq_of_pairwise (le:=ltG key) (λa b _ _ h k=>(Ov.irr (h.trans k)).elim) hs z1 ?_;exact(ud (z6 hs) (z6 z1)).2 hp
end
def clD(cl:List Nat)(m:Mv):Nat:=cl.getD m.dst.toNat 0
def kyM(m:Mv):Nat×Int:=Qu m.on 0
def k29(a:Aut)(cl:List Nat)(s:Int):List Mv:=(Wz a s).foldl (λg m=>Ym 0 g (clD cl m) m.on) []
def j1j(a:Aut)(cl:List Nat)(s:Int):List Mv:=d1b kyM (k29 a cl s)
def G9(a:Aut)(cl:List Nat)(s:Int)(t:Nat)(ty:Nat)(y:Int):Prop:=∃m∈Wz a s,clD cl m=t/\PM m.on ty y
structure MrgS (T:Nat) (D:Nat->Nat->Int->Prop) (g:List Mv):Prop where
 wf:∀m∈g,PWf T m.on
 src:∀m∈g,m.src=0
 dst:∀m∈g,∃t:Nat,m.dst=t
 nd:g.Pairwise (λm k=>m.dst≠k.dst)
 mem:∀m∈g,∀t:Nat,m.dst=t->∀ty y,PM m.on ty y↔D t ty y
 all:∀t ty y,D t ty y->∃m∈g,m.dst=(t:Int)
 ne:∀m∈g,∃ty y,PM m.on ty y
def k1u{n to:Nat}{g:List Mv}{c:Prd}{T:Nat}(hg:∀m∈g,∃ty y,PM m.on ty y)(hw:∀m∈g,PWf T m.on)(hc:PWf T c)(z1:∃ty y,PM c ty y):∀m∈Ym n g to c,∃ty y,PM m.on ty y:=by
 intro m hm;unfold Ym at hm;split at hm
 ·rcases zV.1 hm with hm|hm
  ·exact hg m hm
  rw[zP.1 hm];exact z1
 split at hm
 ·rename_i m2 z6;rcases List.mem_or_eq_of_mem_set hm with hm|rfl
  ·exact hg m hm
  obtain⟨ty,y,h⟩:=z1;exact⟨ty,y,(Dr (hw _ (zJ z6)) hc ty y).2 (.inr h)⟩
 exact hg m hm
def v2k{a:Aut}(h:WfA a){s:Int}{m:Mv}(hm:m∈Wz a s):PWf a.types.toNat m.on/\∃ty y,PM m.on ty y:=by obtain⟨h1,h2,h3⟩:=R7.1 hm;exact⟨h.on m h1,(Ub (h.on m h1)).1 h3⟩
def q0p{a:Aut}(ha:Dfa a)(cl:List Nat)(s:Int):MrgS a.types.toNat (G9 a cl s) (k29 a cl s):=by
 obtain⟨N,hN⟩:∃N,∀m∈Wz a s,clD cl m<N:=by
  refine⟨(cl.foldl max 0)+1,λm _=>?_⟩;have key:∀(l:List Nat) (b:Nat),b<=l.foldl max b/\∀x∈l,x<=l.foldl max b:=by
   intro l;induction l with
   |nil=>intro b;simp
   |cons x l ih=>
    intro b;obtain⟨h1,h2⟩:=ih (max b x);rw[xV];refine⟨by omega,λy hy=>?_⟩;rcases yB.1 hy with rfl|hy
    ·omega
    exact h2 y hy
  unfold clD;by_cases hl:m.dst.toNat<cl.length
  ·have:=(key cl 0).2 _ (zL hl);simp only[yL,zI hl,ww];omega
  simp[yL,y_ (by omega:cl.length<=m.dst.toNat)]
 have key:∀(r:List Mv) (D:Nat->Nat->Int->Prop) (g:List Mv),MInv a.types.toNat N 0 D g->(∀m∈g,∃ty y,PM m.on ty y)->(∀m∈r,m∈Wz a s)->
   MInv a.types.toNat N 0 (λt ty y=>D t ty y\/∃m∈r,clD cl m=t/\PM m.on ty y) (r.foldl (λg m=>Ym 0 g (clD cl m) m.on) g)/\∀m∈r.foldl (λg m=>Ym 0 g (clD cl m) m.on) g,∃ty y,PM m.on ty y:=by
  intro r;induction r with
  |nil=>intro D g h hn _;exact⟨h.congr (λt ty y=>by simp),hn⟩
  |cons c r ih=>
   intro D g h hn hr;rw[xV];have hc:=v2k ha.ok.wfA (hr c (by simp));obtain⟨i1,i2⟩:=ih _ _ (h.add (hN c (hr c (by simp))) hc.1 hc.2) (k1u hn h.wf hc.1 hc.2) (λd hd=>hr d (by simp[hd]));refine⟨i1.congr (λt ty y=>?_),i2⟩;simp only[yB,exists_eq_or_imp,or_assoc];constructor
   ·rintro(h|⟨e,h⟩|h)
    ·exact .inl h
    ·exact .inr (.inl ⟨e.symm,h⟩)
    exact .inr (.inr h)
   rintro(h|⟨e,h⟩|h)
   ·exact .inl h
   ·exact .inr (.inl ⟨e.symm,h⟩)
   exact .inr (.inr h)
 have h0:MInv a.types.toNat N 0 (λ_ _ _=>False) []:=⟨by simp,by simp,by simp,by simp,by simp,λ_ _ _ h=>h.elim⟩
 obtain⟨h1,h2⟩:=key (Wz a s) _ [] h0 (by simp) (λm hm=>hm);have h3:=h1.congr (D':=G9 a cl s) (λt ty y=>by simp[G9]);exact⟨h3.wf,h3.src,λm hm=>by obtain⟨t,_,e⟩:=h3.dst m hm;exact⟨t,e⟩,h3.nd,h3.mem,h3.all,h2⟩
def MrgS.perm{T:Nat}{D:Nat->Nat->Int->Prop}{g g':List Mv}(h:MrgS T D g)(hp:g.Perm g'):MrgS T D g':=
 ⟨λm hm=>h.wf m (hp.mem_iff.2 hm),λm hm=>h.src m (hp.mem_iff.2 hm),λm hm=>h.dst m (hp.mem_iff.2 hm),(hp.pairwise_iff (λh=>Ne.symm h)).1 h.nd,λm hm=>h.mem m (hp.mem_iff.2 hm),
  λt ty y hd=>by obtain⟨m,hm,e⟩:=h.all t ty y hd;exact⟨m,hp.mem_iff.1 hm,e⟩,λm hm=>h.ne m (hp.mem_iff.2 hm)⟩
def MrgS.sub{T:Nat}{D:Nat->Nat->Int->Prop}{g g':List Mv}(h:MrgS T D g)(h':MrgS T D g'){m:Mv}(hm:m∈g):m∈g':=by
 obtain⟨t,ht⟩:=h.dst m hm;obtain⟨ty,y,hy⟩:=h.ne m hm;obtain⟨k,hk,z1⟩:=h'.all t ty y ((h.mem m hm t ht ty y).1 hy);have z6:m.on=k.on:=Pu (h.wf m hm) (h'.wf k hk) λt' n'=>by rw[h.mem m hm t ht,h'.mem k hk t z1]
 have:m=k:=by cases m;cases k;simp only at ht z1 z6;have e1:=h.src _ hm;have e2:=h'.src _ hk;simp only at e1 e2;subst z6;rw[e1,e2,ht,z1]
 rw[this];exact hk
def MrgS.apart{T:Nat}{D:Nat->Nat->Int->Prop}{g:List Mv}(h:MrgS T D g)(hD:∀t t' ty y,D t ty y->D t' ty y->t=t'):g.Pairwise (λp q=>kyM p≠kyM q):=
 h.nd.imp_of_mem λ{p q} hp hq z1 e=>by obtain⟨t,ht⟩:=h.dst p hp;obtain⟨u,hu⟩:=h.dst q hq;have h1:=(El (h.wf p hp) (h.ne p hp)).1;have h2:=(El (h.wf q hq) (h.ne q hq)).1;unfold kyM at e;rw[e]at h1;have:=hD t u _ _ ((h.mem p hp t ht _ _).1 h1) ((h.mem q hq u hu _ _).1 h2);rw[ht,hu,this]at z1;exact z1 rfl
def MrgS.uniq{T:Nat}{D:Nat->Nat->Int->Prop}{g g':List Mv}(h:MrgS T D g)(h':MrgS T D g')(s:g.Pairwise (ltG kyM))(s':g'.Pairwise (ltG kyM)):g=g':=
 w29 kyM s s' λ_=>⟨h.sub h',h'.sub h⟩
def Dfa.dom{a:Aut}(ha:Dfa a){cl:List Nat}{s:Int}{t ty:Nat}{y:Int}:G9 a cl s t ty y↔(∃x:Sy,Q9 a x/\x.ty.toNat=ty/\x.num=y/\∃m∈a.mv,m.src=s/\Ry m.on x=true/\cl.getD m.dst.toNat 0=t):=by
 constructor
 ·rintro⟨m,hm,h1,h2⟩;obtain⟨g1,g2,g3⟩:=R7.1 hm;obtain⟨z6,z1⟩:=(ha.ok.wfA.on m g1).lt h2;have hx:Q9 a ⟨ty,y⟩:=⟨⟨by simp,by have:=ha.ok.types;simp;omega⟩,z1⟩
  exact⟨⟨ty,y⟩,hx,by simp,rfl,m,g1,g2,(Tc ha.ok.wfA g1 hx).2 (by simpa using h2),h1⟩
 rintro⟨x,hx,rfl,rfl,m,hm,h1,h2,h3⟩;have hp:=(Tc ha.ok.wfA hm hx).1 h2;exact⟨m,R7.2 ⟨hm,h1,(Ub (ha.ok.wfA.on m hm)).2 ⟨_,_,hp⟩⟩,h3,hp⟩
def Pz{a:Aut}(ha:Dfa a){cl:List Nat}{s:Int}(hs:inS a s){t ty:Nat}{y:Int}:G9 a cl s t ty y↔∃x:Sy,Q9 a x/\x.ty.toNat=ty/\x.num=y/\cl.getD (toL a s x).toNat 0=t:=by
 rw[ha.dom];constructor
 ·rintro⟨x,hx,h1,h2,m,hm,rfl,h4,h5⟩;exact⟨x,hx,h1,h2,by rw[ha.to_of hm hx h4];exact h5⟩
 rintro⟨x,hx,h1,h2,h3⟩;obtain⟨m,hm,e1,e2,e3⟩:=ha.move hs hx;exact⟨x,hx,h1,h2,m,hm,e1,e2,by rw[e3];exact h3⟩
def v2f{x y:Sy}{a:Aut}(hx:Q9 a x)(hy:Q9 a y)(h:x.ty.toNat=y.ty.toNat)(h2:x.num=y.num):x=y:=by
 have:=hx.1.1;have:=hy.1.1;cases x;cases y;simp only at *
 have:∀ {a b:Int},0<=a->0<=b->a.toNat=b.toNat->a=b:=λh0 h1 h=>by omega
 simp only[Sy.mk.injEq];exact⟨this ‹_› ‹_› h,h2⟩
def B9{a:Aut}(ha:Dfa a){cl:List Nat}{s:Int}(hs:inS a s){t t' ty:Nat}{y:Int}(h:G9 a cl s t ty y)(h':G9 a cl s t' ty y):t=t':=by obtain⟨x,hx,h1,h2,h3⟩:=(Pz ha hs).1 h;obtain⟨x',z1,z6,z7,z8⟩:=(Pz ha hs).1 h';have:x=x':=v2f hx z1 (h1.trans z6.symm) (h2.trans z7.symm);subst this;exact h3.symm.trans z8
def Yc{a:Aut}(ha:Dfa a)(cl:List Nat){s:Int}(hs:inS a s):MrgS a.types.toNat (G9 a cl s) (j1j a cl s)/\(j1j a cl s).Pairwise (ltG kyM):=by have h:=q0p ha cl s;obtain⟨h1,h2⟩:=Zs kyM (k29 a cl s) (h.apart λt t' ty y=>B9 ha hs);exact⟨h.perm h1.symm,h2⟩
def Aw(a:Aut)(cl:List Nat)(s:Int)(t:Nat):List Prd:=((Wz a s).filter λm=>decide (clD cl m=t)).map (·.on)
def q1a{a:Aut}(ha:Dfa a)(cl:List Nat)(s:Int){ks:List Nat}(z7:ks.Nodup)(hk:∀t,t∈ks↔∃m∈Wz a s,clD cl m=t):
  MrgS a.types.toNat (G9 a cl s) (ks.map λt:Nat=>(⟨0,(t:Int),Oh a.types.toNat (Aw a cl s t)⟩:Mv)):=by
 have z1:∀t,∀p∈Aw a cl s t,PWf a.types.toNat p:=λt p hp=>by obtain⟨m,hm,rfl⟩:=zO.1 hp;exact(v2k ha.ok.wfA (xH.1 hm).1).1
 have z6:∀t ty y,PM (Oh a.types.toNat (Aw a cl s t)) ty y↔G9 a cl s t ty y:=λt ty y=>by
  rw[Kh (z1 t)];constructor
  ·rintro⟨p,hp,h⟩;obtain⟨m,hm,rfl⟩:=zO.1 hp;obtain⟨h1,h2⟩:=xH.1 hm;exact⟨m,h1,by simpa using h2,h⟩
  rintro⟨m,hm,h1,h2⟩;exact⟨m.on,zO.2 ⟨m,xH.2 ⟨hm,by simpa using h1⟩,rfl⟩,h2⟩
 refine⟨λm hm=>?_,λm hm=>?_,λm hm=>?_,?_,λm hm t e ty y=>?_,λt ty y hd=>?_,λm hm=>?_⟩
 ·obtain⟨t,_,rfl⟩:=zO.1 hm;exact S9 (z1 t)
 ·obtain⟨t,_,rfl⟩:=zO.1 hm;rfl
 ·obtain⟨t,_,rfl⟩:=zO.1 hm;exact⟨t,rfl⟩
 ·exact xK.2 (z7.imp λh e=>h (Int.ofNat.inj e))
 ·obtain⟨u,_,rfl⟩:=zO.1 hm;have:u=t:=Int.ofNat.inj e;subst this;exact z6 u ty y
 ·obtain⟨m,hm,h1,h2⟩:=hd;exact⟨_,zO.2 ⟨t,(hk t).2 ⟨m,hm,h1⟩,rfl⟩,rfl⟩
 obtain⟨t,ht,rfl⟩:=zO.1 hm;obtain⟨m,hm,h1⟩:=(hk t).1 ht;obtain⟨ty,y,hp⟩:=(v2k ha.ok.wfA hm).2;exact⟨ty,y,(z6 t ty y).2 ⟨m,hm,h1,hp⟩⟩
end
section
def w2g(cl:List Nat)(t:Nat):Nat:=(cl.findIdx? λc=>decide (c=t)).getD 0
def L8(a:Aut)(t:Nat):Prop:=t<(fsA a).length
def En(a:Aut)(s:Int):Nat:=(clA a).getD s.toNat 0
def Yf(a:Aut)(t:Nat):Nat:=w2g (clA a) t
def A3{a:Aut}{s:Int}(h:inS a s):s.toNat<a.fin.length/\((s.toNat:Nat):Int)=s:=by unfold inS at h;omega
def Yb{a:Aut}(ha:Dfa a){t:Nat}(ht:L8 a t):Yf a t<a.fin.length/\En a (Yf a t)=t:=by
 have h:=k28 ha;have hf:=h.first (q2s ha) (zI ht);have hr:Yf a t=(fsA a)[t]:=by rw[Yf,w2g,hf];rfl
 rw[xM]at hf;obtain⟨h1,h2,_⟩:=hf;rw[hr];refine⟨by rw[h.len]at h1;exact h1,?_⟩;simp only[En,ue,yL,zI h1,ww];simpa using h2
def Yy{a:Aut}(ha:Dfa a){t:Nat}(ht:L8 a t):inS a (Yf a t:Int):=Sr (Yb ha ht).1
def S6{a:Aut}(ha:Dfa a){s:Int}(hs:inS a s):L8 a (En a s):=(k28 ha).lt_fs (A3 hs).1
def y03{a:Aut}(ha:Dfa a){s t:Int}(hs:inS a s)(ht:inS a t):En a s=En a t↔eqW a a s t:=by have h1:=A3 hs;have h2:=A3 ht;rw[En,En,g1n ha h1.1 h2.1,h1.2,h2.2]
def x0n{a:Aut}(ha:Dfa a){s:Int}(hs:inS a s):eqW a a (Yf a (En a s)) s:=
 (y03 ha (Yy ha (S6 ha hs)) hs).1 (Yb ha (S6 ha hs)).2
def eqW.step{a b:Aut}{s t:Int}(h:eqW a b s t){x:Sy}(hx:Q9 a x):eqW a b (toL a s x) (toL b t x):=λw hw=>h (x::w) (λy hy=>by
 rcases yB.1 hy with rfl|hy
 ·exact hx
 exact hw y hy)
def Fk(o:List Nat)(c:Nat):List Nat:=if c∈o then o else o++[c]
def W1(o:List Nat)(l:List Mv):List Nat:=l.foldl (λo m=>Fk o m.dst.toNat) o
def Yt(a:Aut)(t:Nat):List Mv:=j1j a (clA a) (Yf a t:Int)
def Ii(a:Aut):Nat->Nat->List Nat->List Nat
 |0,_,o=>o
 |f+1,n,o=>match o[n]? with
  |none=>o
  |some c=>Ii a f (n+1) (W1 o (Yt a c))
def Ox(a:Aut):List Nat:=Ii a (a.fin.length+1) 0 [En a 0]
def Kz(o:List Nat)(c:Nat):Nat:=(o.findIdx? λd=>decide (d=c)).getD 0
def mvN(a:Aut)(o:List Nat)(n:Nat):List Mv:=(Yt a (o.getD n 0)).map λm=>⟨n,(Kz o m.dst.toNat:Int),m.on⟩
def A5(a:Aut)(o:List Nat):Aut:=⟨a.types,o.map λc=>a.fin.getD (Yf a c) false,(yQ o.length).flatMap (mvN a o)⟩
def Wn(a:Aut):Aut:=A5 a (Ox a)
def H8(o:List Nat)(c:Nat):∃r,Fk o c=o++r/\∀x∈r,x=c:=by
 unfold Fk;split
 ·exact⟨[],by simp,by simp⟩
 exact⟨[c],rfl,λx hx=>zP.1 hx⟩
def x0q(o:List Nat)(c:Nat):c∈Fk o c:=by
 unfold Fk;split
 ·assumption
 simp
def j0n{o:List Nat}(h:o.Nodup)(c:Nat):(Fk o c).Nodup:=by
 unfold Fk;split
 ·exact h
 rename_i hc;exact vL.2 ⟨h,by simp,λx hx y hy e=>by rw[zP.1 hy]at e;exact hc (e▸hx)⟩
def Oe:∀(l:List Mv) (o:List Nat),o.Nodup->(∃r,W1 o l=o++r/\∀x∈r,∃m∈l,x=m.dst.toNat)/\(W1 o l).Nodup/\∀m∈l,m.dst.toNat∈W1 o l
 |[],o,h=>⟨⟨[],by simp[W1],by simp⟩,h,by simp⟩
 |m::l,o,h=>by
  obtain⟨⟨r,h1,h2⟩,h3,h4⟩:=Oe l (Fk o m.dst.toNat) (j0n h _);obtain⟨r',h5,h6⟩:=H8 o m.dst.toNat;have he:W1 o (m::l)=W1 (Fk o m.dst.toNat) l:=rfl;rw[he];refine⟨⟨r'++r,by rw[h1,h5,List.append_assoc],λx hx=>?_⟩,h3,λk hk=>?_⟩
  ·rcases zV.1 hx with hx|hx
   ·exact⟨m,by simp,h6 x hx⟩
   obtain⟨k,hk,e⟩:=h2 x hx;exact⟨k,by simp[hk],e⟩
  rcases yB.1 hk with rfl|hk
  ·rw[h1];exact yY _ (x0q _ _)
  exact h4 k hk
def Ol{a:Aut}(ha:Dfa a){t:Nat}(ht:L8 a t){m:Mv}(hm:m∈Yt a t):∃x,Q9 a x/\m.dst=(En a (toL a (Yf a t) x):Nat)/\inS a (toL a (Yf a t) x)/\L8 a (En a (toL a (Yf a t) x))/\PM m.on x.ty.toNat x.num:=by have hs:=Yy ha ht;have h:=(Yc ha (clA a) hs).1;obtain⟨u,hu⟩:=h.dst m hm;obtain⟨ty,y,hy⟩:=h.ne m hm;obtain⟨x,hx,rfl,rfl,h3⟩:=(Pz ha hs).1 ((h.mem m hm u hu ty y).1 hy);have z1:=(ha.next hs hx).1;exact⟨x,hx,by rw[hu,<-h3];rfl,z1,S6 ha z1,hy⟩
structure OrdS (a:Aut) (o:List Nat):Prop where
 first:o[0]?=some (En a 0)
 nd:o.Nodup
 cl:∀c∈o,L8 a c
 closed:∀c∈o,∀m∈Yt a c,m.dst.toNat∈o
def y1a{a:Aut}(ha:Dfa a):(fsA a).length<=a.fin.length:=by
 have h:=k28 ha;have z1:(fsA a).Nodup:=h.asc.imp λh e=>by omega
 have:=z1.length_le_of_subset (l₂:=yQ a.fin.length) λr hr=>yU.2 (h.lt r hr);simpa using this
def Cn{a:Aut}(ha:Dfa a){o:List Nat}(hn:o.Nodup)(hc:∀c∈o,L8 a c):o.length<=a.fin.length:=by have:=hn.length_le_of_subset (l₂:=yQ (fsA a).length) λc hx=>yU.2 (hc c hx);have h2:=y1a ha;simp at this;omega
def M4{a:Aut}(ha:Dfa a):∀(f n:Nat) (o:List Nat),a.fin.length+1<=n+f->n<=o.length->o[0]?=some (En a 0)->o.Nodup->(∀c∈o,L8 a c)->(∀i c,i<n->o[i]?=some c->∀m∈Yt a c,m.dst.toNat∈o)->OrdS a (Ii a f n o)
 |0,n,o,hf,hn,h0,z6,z1,hc=>by have:=Cn ha z6 z1;omega
 |f+1,n,o,hf,hn,h0,z6,z1,hc=>by
  unfold Ii;cases hon:o[n]? with
  |none=>
   simp only;have hl:o.length<=n:=by simpa using hon
   refine⟨h0,z6,z1,λc hx m hm=>?_⟩;obtain⟨i,hi⟩:=yO.1 hx;exact hc i c (by have:=Ep hi;omega) hi m hm
  |some c=>
   simp only;have z8:=Ep hon;obtain⟨⟨r,h1,h2⟩,h3,h4⟩:=Oe (Yt a c) o z6;have z7:=z1 c (zJ hon);refine M4 ha f (n+1) _ (by omega) (by rw[h1,zW];omega) ?_ h3 (λd hd=>?_) λi d hi hd m hm=>?_
   ·rw[h1,zH (by omega)];exact h0
   ·rw[h1]at hd;rcases zV.1 hd with hd|hd
    ·exact z1 d hd
    obtain⟨m,hm,e⟩:=h2 d hd;obtain⟨x,_,e2,_,e4,_⟩:=Ol ha z7 hm;rw[e,e2];simpa using e4
   rw[h1,zH (by omega)]at hd;by_cases e:i=n
   ·subst e;rw[hon]at hd;cases hd;exact h4 m hm
   rw[h1];exact yY _ (hc i d (by omega) hd m hm)
def Yl{a:Aut}(ha:Dfa a):OrdS a (Ox a):=
 M4 ha _ 0 _ (by omega) (by simp) rfl (by simp) (λc hc=>by rw[zP.1 hc];exact S6 ha ha.zero) (λi c hi=>by omega)
section
variable {a b:Aut} (ha:Dfa a) (hb:Dfa b) (ht:b.types=a.types)
def y0h(a b:Aut)(c d:Nat):Prop:=L8 a c/\L8 b d/\eqW a b (Yf a c) (Yf b d)
structure LkO (a b:Aut) (o o':List Nat):Prop where
 len:o.length=o'.length
 k:∀(i c d:Nat),o[i]?=some c->o'[i]?=some d->y0h a b c d
theorem Ei{a b:Aut}(ht:b.types=a.types){x:Sy}:Q9 b x↔Q9 a x:=by unfold Q9;rw[ht]
include ha hb ht
theorem Kx{c d d':Nat}(h:y0h a b c d)(h':y0h a b c d'):d=d':=by
 have e:En b (Yf b d)=En b (Yf b d'):=(y03 hb (Yy hb h.2.1) (Yy hb h'.2.1)).2 λw hw=>by have z1:∀x∈w,Q9 a x:=λx hx=>(Ei ht).1 (hw x hx);exact(h.2.2 w z1).symm.trans (h'.2.2 w z1)
 rw[(Yb hb h.2.1).2,(Yb hb h'.2.1).2]at e;exact e
theorem Gg{c c' d:Nat}(h:y0h a b c d)(h':y0h a b c' d):c=c':=by have e:En a (Yf a c)=En a (Yf a c'):=(y03 ha (Yy ha h.1) (Yy ha h'.1)).2 λw hw=>(h.2.2 w hw).trans (h'.2.2 w hw).symm;rw[(Yb ha h.1).2,(Yb ha h'.1).2]at e;exact e
theorem y1v{s t:Int}(hs:inS a s)(z1:inS b t)(h:eqW a b s t):y0h a b (En a s) (En b t):=
 ⟨S6 ha hs,S6 hb z1,λw hw=>((x0n ha hs w hw).trans (h w hw)).trans (x0n hb z1 w λx hx=>(Ei ht).2 (hw x hx)).symm⟩
theorem LkO.mem{o o':List Nat}(h:LkO a b o o'){c d:Nat}(hk:y0h a b c d):c∈o↔d∈o':=by
 constructor
 ·intro hc;obtain⟨i,hi⟩:=yO.1 hc;have hl:=Ep hi;have hl':i<o'.length:=by have:=h.len;omega
  have hd:=zI hl';rw[Kx ha hb ht hk (h.k i c _ hi hd)];exact zL hl'
 intro hd;obtain⟨i,hi⟩:=yO.1 hd;have hl:=Ep hi;have hl':i<o.length:=by have:=h.len;omega
 have hc:=zI hl';rw[Gg ha hb ht hk (h.k i _ d hc hi)];exact zL hl'
theorem LkO.step{o o':List Nat}(h:LkO a b o o'){c d:Nat}(hk:y0h a b c d):LkO a b (Fk o c) (Fk o' d):=by
 unfold Fk;have hm:=h.mem ha hb ht hk;by_cases hc:c∈o
 ·rw[if_pos hc,if_pos (hm.1 hc)];exact h
 rw[if_neg hc,if_neg (λhd=>hc (hm.2 hd))];refine⟨by simp[h.len],λi x y hx hy=>?_⟩;by_cases hi:i<o.length
 ·rw[zH hi]at hx;rw[zH (by rw[<-h.len];exact hi)]at hy;exact h.k i x y hx hy
 have z1:=Ep hx;simp at z1;have:i=o.length:=by omega
 subst this;rw[zF (by omega)]at hx;rw[zF (by rw[h.len];omega)]at hy;simp[h.len]at hx hy;rw[<-hx,<-hy];exact hk
theorem v07{c d:Nat}(h:y0h a b c d):(Yt a c).map (·.on)=(Yt b d).map (·.on)/\∀(i:Nat) (m k:Mv),(Yt a c)[i]?=some m->(Yt b d)[i]?=some k->m.on=k.on/\y0h a b m.dst.toNat k.dst.toNat:=by
 have hs:=Yy ha h.1;have z7:=Yy hb h.2.1;obtain⟨g1,s1⟩:=Yc ha (clA a) hs;obtain⟨g2,s2⟩:=Yc hb (clA b) z7;have key:∀x,Q9 a x->y0h a b (En a (toL a (Yf a c) x)) (En b (toL b (Yf b d) x)):=λx hx=>
  y1v ha hb ht (ha.next hs hx).1 (hb.next z7 ((Ei ht).2 hx)).1 (h.2.2.step hx)
 have z6:∀(m:Mv) (k:Mv) (x:Sy),m∈Yt a c->k∈Yt b d->Q9 a x->PM m.on x.ty.toNat x.num->PM k.on x.ty.toNat x.num->m.on=k.on/\y0h a b m.dst.toNat k.dst.toNat:=by
  intro m k x hm hk hx p1 p2;obtain⟨u,hu⟩:=g1.dst m hm;obtain⟨v,hv⟩:=g2.dst k hk;have zb:∀(z:Sy),Q9 a z->(PM m.on z.ty.toNat z.num↔En a (toL a (Yf a c) z)=u):=λz hz=>by
   rw[g1.mem m hm u hu,Pz ha hs];constructor
   ·rintro⟨z',zc,e1,e2,e3⟩;rw[<-v2f zc hz e1 e2];exact e3
   intro e;exact⟨z,hz,rfl,rfl,e⟩
  have zd:∀(z:Sy),Q9 a z->(PM k.on z.ty.toNat z.num↔En b (toL b (Yf b d) z)=v):=λz hz=>by
   rw[g2.mem k hk v hv,Pz hb z7];constructor
   ·rintro⟨z',zc,e1,e2,e3⟩;rw[<-v2f zc ((Ei ht).2 hz) e1 e2];exact e3
   intro e;exact⟨z,(Ei ht).2 hz,rfl,rfl,e⟩
  have ze:y0h a b u v:=by have:=key x hx;rw[(zb x hx).1 p1,(zd x hx).1 p2]at this;exact this
  have zf:=g2.wf k hk;rw[ht]at zf;refine⟨Pu (g1.wf m hm) zf λt n=>?_,by rw[hu,hv];simpa using ze⟩;have zg:∀ {p:Prd},PWf a.types.toNat p->PM p t n->Q9 a ⟨t,n⟩:=λhp zh=>by obtain⟨zm,zi⟩:=hp.lt zh;exact⟨⟨by simp,by have:=ha.ok.types;simp;omega⟩,zi⟩
  constructor
  ·intro hp;have hz:=zg (g1.wf m hm) hp;have e1:=(zb ⟨t,n⟩ hz).1 (by simpa using hp);have:=key ⟨t,n⟩ hz;rw[e1]at this;have e2:=Kx ha hb ht this ze;simpa using(zd ⟨t,n⟩ hz).2 e2
  intro hp;have hz:=zg zf hp;have e1:=(zd ⟨t,n⟩ hz).1 (by simpa using hp);have:=key ⟨t,n⟩ hz;rw[e1]at this;have e2:=Gg ha hb ht this ze;simpa using(zb ⟨t,n⟩ hz).2 e2
 have zj:∀m∈Yt a c,∃k∈Yt b d,∃x,Q9 a x/\PM m.on x.ty.toNat x.num/\PM k.on x.ty.toNat x.num:=λm hm=>by obtain⟨x,hx,_,_,_,hp⟩:=Ol ha h.1 hm;have za:=(Ei ht).2 hx;obtain⟨k,hk,e⟩:=g2.all _ x.ty.toNat x.num ((Pz hb z7).2 ⟨x,za,rfl,rfl,rfl⟩);exact⟨k,hk,x,hx,hp,(g2.mem k hk _ e _ _).2 ((Pz hb z7).2 ⟨x,za,rfl,rfl,rfl⟩)⟩
 have z8:∀k∈Yt b d,∃m∈Yt a c,∃x,Q9 a x/\PM m.on x.ty.toNat x.num/\PM k.on x.ty.toNat x.num:=λk hk=>by obtain⟨x,za,_,_,_,hp⟩:=Ol hb h.2.1 hk;have hx:=(Ei ht).1 za;obtain⟨m,hm,e⟩:=g1.all _ x.ty.toNat x.num ((Pz ha hs).2 ⟨x,hx,rfl,rfl,rfl⟩);exact⟨m,hm,x,hx,(g1.mem m hm _ e _ _).2 ((Pz ha hs).2 ⟨x,hx,rfl,rfl,rfl⟩),hp⟩
 have z1:(Yt a c).map (·.on)=(Yt b d).map (·.on):=by
  refine w29 (λp:Prd=>Qu p 0) (xK.2 s1) (xK.2 s2) λp=>?_;constructor
  ·intro hp;obtain⟨m,hm,rfl⟩:=zO.1 hp;obtain⟨k,hk,x,hx,p1,p2⟩:=zj m hm;exact zO.2 ⟨k,hk,(z6 m k x hm hk hx p1 p2).1.symm⟩
  intro hp;obtain⟨k,hk,rfl⟩:=zO.1 hp;obtain⟨m,hm,x,hx,p1,p2⟩:=z8 k hk;exact zO.2 ⟨m,hm,(z6 m k x hm hk hx p1 p2).1⟩
 refine⟨z1,λi m k hi hk=>?_⟩;have zk:m.on=k.on:=by have e:=congrArg (λl=>l[i]?) z1;simp only[List.getElem?_map,hi,hk,wC,Option.some.injEq]at e;exact e
 have hm:=zJ hi;have zl:=zJ hk;obtain⟨x,hx,_,_,_,hp⟩:=Ol ha h.1 hm;exact z6 m k x hm zl hx hp (zk▸hp)
theorem LkO.all:∀(l l':List Mv) (o o':List Nat),l.length=l'.length->(∀(i:Nat) (m k:Mv),l[i]?=some m->l'[i]?=some k->y0h a b m.dst.toNat k.dst.toNat)->LkO a b o o'->LkO a b (W1 o l) (W1 o' l')
 |[],[],_,_,_,_,h=>h
 |[],_::_,_,_,hl,_,_=>by simp at hl
 |_::_,[],_,_,hl,_,_=>by simp at hl
 |m::l,k::l',o,o',hl,hk,h=>LkO.all l l' _ _ (by simpa using hl) (λi x y hx hy=>hk (i+1) x y (by simpa using hx) (by simpa using hy)) (h.step ha hb ht (hk 0 m k rfl rfl))
theorem LkO.bfs:∀(f n:Nat) (o o':List Nat),LkO a b o o'->LkO a b (Ii a f n o) (Ii b f n o')
 |0,_,_,_,h=>h
 |f+1,n,o,o',h=>by
  unfold Ii;cases hc:o[n]? with
  |none=>
   have:o'[n]? =none:=by rw[List.getElem?_eq_none_iff]at hc |-;rw[<-h.len];exact hc
   rw[this];exact h
  |some c=>
   have hl:=Ep hc;have hl':n<o'.length:=by rw[<-h.len];exact hl
   rw[zI hl'];simp only;have hk:=h.k n c _ hc (zI hl');obtain⟨e1,e2⟩:=v07 ha hb ht hk;have hlen:(Yt a c).length=(Yt b o'[n]).length:=by have:=congrArg ug e1;simpa using this
   exact LkO.bfs f (n+1) _ _ (LkO.all ha hb ht _ _ _ _ hlen (λi m k hi hk=>(e2 i m k hi hk).2) h)
end
def Sk{a:Aut}(ha:Dfa a):∀(f n:Nat) (o:List Nat),a.fin.length+1<=n+f->n<=o.length->o.Nodup->(∀c∈o,L8 a c)->∀g,Ii a (f+g) n o=Ii a f n o
 |0,n,o,hf,hn,z6,z1,g=>by have:=Cn ha z6 z1;omega
 |f+1,n,o,hf,hn,z6,z1,g=>by
  have e:f+1+g=(f+g)+1:=by omega
  rw[e];unfold Ii;cases hon:o[n]? with
  |none=>rfl
  |some c=>
   simp only;have z8:=Ep hon;obtain⟨⟨r,h1,h2⟩,h3,h4⟩:=Oe (Yt a c) o z6;have z7:=z1 c (zJ hon);refine Sk ha f (n+1) _ (by omega) (by rw[h1,zW];omega) h3 (λd hd=>?_) g;rw[h1]at hd;rcases zV.1 hd with hd|hd
   ·exact z1 d hd
   obtain⟨m,hm,e⟩:=h2 d hd;obtain⟨x,_,e2,_,e4,_⟩:=Ol ha z7 hm;rw[e,e2];simpa using e4
def c1l{a b:Aut}(ha:Dfa a)(hb:Dfa b)(ht:b.types=a.types){o o':List Nat}(h:LkO a b o o'){c d:Nat}(hk:y0h a b c d):Kz o c=Kz o' d:=by
 have z1:∀(i:Nat) (x y:Nat),o[i]?=some x->o'[i]?=some y->(decide (x=c)=decide (y=d)):=λi x y hx hy=>by
  have:=h.k i x y hx hy;rw[decide_eq_decide];constructor
  ·intro e;subst e;exact Kx ha hb ht this hk
  intro e;subst e;exact Gg ha hb ht this hk
 have key:∀(o o':List Nat),o.length=o'.length->(∀(i:Nat) (x y:Nat),o[i]?=some x->o'[i]?=some y->(decide (x=c)=decide (y=d)))->(o.findIdx? λe=>decide (e=c))=(o'.findIdx? λe=>decide (e=d)):=by
  intro o;induction o with
  |nil=>
   intro o' hl _;cases o' with
   |nil=>rfl
   |cons y o'=>simp at hl
  |cons x o ih=>
   intro o' hl hf;cases o' with
   |nil=>simp at hl
   |cons y o'=>rw[tG,tG,hf 0 x y rfl rfl,ih o' (by simpa using hl) λi u v hu hv=>hf (i+1) u v (by simpa using hu) (by simpa using hv)]
 unfold Kz;rw[key o o' h.len z1]
def f0n{a b:Aut}(ha:Dfa a)(hb:Dfa b)(ht:b.types=a.types)(hw:eqW a b 0 0):Wn a=Wn b:=by
 have h0:LkO a b [En a 0] [En b 0]:=⟨rfl,λi c d hc hd=>by
  have hi:=Ep hc;simp at hi;subst hi;simp at hc hd;rw[<-hc,<-hd];exact y1v ha hb ht ha.zero hb.zero hw⟩
 have z1:∀ {x:Aut},Dfa x->∀c∈[En x 0],L8 x c:=λhx c hc=>by rw[zP.1 hc];exact S6 hx hx.zero
 have hL:LkO a b (Ox a) (Ox b):=by have h1:=LkO.bfs ha hb ht (a.fin.length+1+b.fin.length) 0 _ _ h0;rw[show a.fin.length+1+b.fin.length=b.fin.length+1+a.fin.length by omega]at h1;have e2:=Sk hb (b.fin.length+1) 0 [En b 0] (by omega) (by simp) (by simp) (z1 hb) a.fin.length;rw[e2,show b.fin.length+1+a.fin.length=a.fin.length+1+b.fin.length by omega,Sk ha (a.fin.length+1) 0 [En a 0] (by omega) (by simp) (by simp) (z1 ha) b.fin.length]at h1;exact h1
 have z7:∀n,n<(Ox a).length->mvN a (Ox a) n=mvN b (Ox b) n:=λn hn=>by
  have z6:n<(Ox b).length:=by rw[<-hL.len];exact hn
  have hk:=hL.k n _ _ (zI hn) (zI z6);obtain⟨e1,e2⟩:=v07 ha hb ht hk;have g1:(Ox a).getD n 0=(Ox a)[n]:=by simp[yL,hn]
  have g2:(Ox b).getD n 0=(Ox b)[n]:=by simp[yL,z6]
  unfold mvN;rw[g1,g2];have hlen:(Yt a (Ox a)[n]).length=(Yt b (Ox b)[n]).length:=by have:=congrArg ug e1;simpa using this
  refine xT (by simpa using hlen) λi h1 h2=>?_;simp only[yE]at h1 h2;obtain⟨e3,e4⟩:=e2 i _ _ (zI h1) (zI h2);simp only[ut];rw[e3,c1l ha hb ht hL e4]
 unfold Wn A5;rw[ht]
 congr 1
 ·refine xT (by simpa using hL.len) λi h1 h2=>?_;simp only[yE]at h1 h2;have hk:=hL.k i _ _ (zI h1) (zI h2);simp only[ut];have:=hk.2.2 [] (by simp);simpa[Lz,stF]using this
 rw[<-hL.len];rw[uY,uY]
 congr 1
 exact xD λn hn=>z7 n (yU.1 hn)
end
section
def g2b{α:Type}{l:List α}(h:l.Nodup){i j:Nat}(hi:i<l.length)(hj:j<l.length)(e:l[i]=l[j]):i=j:=by
 rcases wR i j with k|k|k
 ·exact absurd e (yK.1 h i j hi hj k)
 ·exact k
 exact absurd e.symm (yK.1 h j i hj hi k)
def y1g{o:List Nat}(hn:o.Nodup){i c:Nat}(h:o[i]?=some c):Kz o c=i:=by
 unfold Kz;have:(o.findIdx? λd=>decide (d=c))=some i:=j0d h (by simp) λi j x y hx hy e1 e2=>by
  have e3:x=c:=by simpa using e1
  have e4:y=c:=by simpa using e2
  subst e3 e4;obtain⟨hi,e5⟩:=zB.1 hx;obtain⟨hj,e6⟩:=zB.1 hy;exact g2b hn hi hj (e5.trans e6.symm)
 rw[this];rfl
def u0l{o:List Nat}(hn:o.Nodup){c:Nat}(h:c∈o):o[Kz o c]?=some c:=by obtain⟨i,hi⟩:=yO.1 h;rw[y1g hn hi];exact hi
def O4{a:Aut}{o:List Nat}{m:Mv}:m∈(A5 a o).mv↔∃(n c:Nat),o[n]?=some c/\∃k∈Yt a c,m=⟨n,(Kz o k.dst.toNat:Int),k.on⟩:=by
 unfold A5 mvN;simp only[xQ,yU,zO];constructor
 ·rintro⟨n,hn,k,hk,rfl⟩;have e:o.getD n 0=o[n]:=by simp[yL,hn]
  rw[e]at hk;exact⟨n,_,zI hn,k,hk,rfl⟩
 rintro⟨n,c,hn,k,hk,rfl⟩;have e:o.getD n 0=c:=by simp[yL,hn]
 exact⟨n,Ep hn,k,by rw[e];exact hk,rfl⟩
def J5{a:Aut}(o:List Nat):(A5 a o).fin.length=o.length:=by simp[A5]
def y0t(a:Aut):(Wn a).types=a.types:=rfl
def B6{a:Aut}(ha:Dfa a):WfA (Wn a):=by
 have ho:=Yl ha;have z1:(Wn a).fin.length=(Ox a).length:=J5 _;have z6:=Ep ho.first;refine⟨ha.ok.types,by omega,λm hm=>?_,λm hm=>?_,λm hm=>?_⟩
 ·obtain⟨n,c,hn,k,hk,rfl⟩:=O4.1 hm;have:=Ep hn;rw[z1];exact⟨by simp,by simpa using this⟩
 ·obtain⟨n,c,hn,k,hk,rfl⟩:=O4.1 hm;have:=Ep (u0l ho.nd (ho.closed c (zJ hn) k hk));rw[z1];exact⟨by simp,by simpa using this⟩
 obtain⟨n,c,hn,k,hk,rfl⟩:=O4.1 hm;exact(Yc ha (clA a) (Yy ha (ho.cl c (zJ hn)))).1.wf k hk
def g0h{a:Aut}(ha:Dfa a):Ha (Wn a):=λs h0 h1 x hx=>by
 have ho:=Yl ha;have z6:(Wn a).fin.length=(Ox a).length:=J5 _;have z1:Q9 a x:=hx;have hn:s.toNat<(Ox a).length:=by omega
 have hc:=ho.cl _ (zL hn);have hs:=Yy ha hc;have h:=(Yc ha (clA a) hs).1;have hd:G9 a (clA a) (Yf a (Ox a)[s.toNat]) (En a (toL a (Yf a (Ox a)[s.toNat]) x)) x.ty.toNat x.num:=(Pz ha hs).2 ⟨x,z1,rfl,rfl,rfl⟩;obtain⟨k,hk,e⟩:=h.all _ _ _ hd;have hm:=O4.2 ⟨s.toNat,_,zI hn,k,hk,rfl⟩;refine⟨_,hm,by simp;omega,?_⟩;exact(Tc (B6 ha) hm hx).2 ((h.mem k hk _ e _ _).2 hd)
def d0g{a:Aut}(ha:Dfa a):Ih (Wn a):=by
 have ho:=Yl ha;unfold Ih Wn A5;simp only;rw[vH];have hg:∀n,n<(Ox a).length->(Ox a).getD n 0=(Ox a)[n]?.getD 0:=λn hn=>by simp[yL]
 constructor
 ·intro n hn;have z1:=yU.1 hn;have hc:=ho.cl _ (zL z1);have hs:=Yy ha hc;have h:=(Yc ha (clA a) hs).1;have e:(Ox a).getD n 0=(Ox a)[n]:=by simp[yL,z1]
  unfold mvN;rw[e];refine xK.2 (h.nd.imp_of_mem λ{m k} hm hk hne _ x hx=>?_);rintro⟨h1,h2⟩;have z6:Q9 a x:=hx;have p1:=(E7 (h.wf m hm).1 x z6.1.1).1 h1;have p2:=(E7 (h.wf k hk).1 x z6.1.1).1 h2;obtain⟨u,hu⟩:=h.dst m hm;obtain⟨v,hv⟩:=h.dst k hk;have:=B9 ha hs ((h.mem m hm u hu _ _).1 p1) ((h.mem k hk v hv _ _).1 p2);exact hne (by rw[hu,hv,this])
 refine yK.2 λi j hi hj z7 m hm k hk e=>?_;simp only[List.getElem_range]at hm hk;unfold mvN at hm hk;obtain⟨m',_,rfl⟩:=zO.1 hm;obtain⟨k',_,rfl⟩:=zO.1 hk;simp at e;omega
def D2{α β:Type}(rs:List β)(hn:rs.Nodup)(p:β->α->Bool)(hp:∀s t x,p s x=true->p t x=true->s=t):∀l:List α,(rs.map λs=>(l.filter (p s)).length).sum<=l.length
 |[]=>by have:(rs.map λs=>(([]:List α).filter (p s)).length)=rs.map λ_=>0:=xD λs _=>rfl;rw[this,uo];simp
 |x::l=>by
  have ih:=D2 rs hn p hp l;have key:∀(rs:List β),rs.Nodup->(rs.map λs=>((x::l).filter (p s)).length).sum<=(rs.map λs=>(l.filter (p s)).length).sum+(bif rs.any (λs=>p s x)then 1 else 0):=by
   intro rs;induction rs with
   |nil=>intro _;simp
   |cons s rs ih2=>
    intro z1;obtain⟨z6,z7⟩:=List.nodup_cons.1 z1;have:=ih2 z7;simp only[xJ,so,List.any_cons];by_cases hps:p s x=true
    ·have z8:rs.any (λs=>p s x)=false:=by rw[List.any_eq_false];intro t ht za;exact z6 (hp s t x hps za▸ht)
     rw[z8]at this;rw[List.filter_cons_of_pos hps,hps];simp only[Bool.true_or,cond_true,cond_false,yZ]at this |-;omega
    rw[List.filter_cons_of_neg hps,show p s x=false by simpa using hps];simp only[Bool.false_or];omega
  have:=key rs hn;rw[yZ];cases hc:rs.any (λs=>p s x)<;>rw[hc]at this<;>simp only[cond_true,cond_false]at this<;>omega
def c16(a:Aut)(cl:List Nat)(s:Int):(k29 a cl s).length<=(Wz a s).length:=by
 have h1:∀(n:Nat) (g:List Mv) (to:Nat) (c:Prd),(Ym n g to c).length<=g.length+1:=λn g to c=>by
  unfold Ym;split
  ·simp
  split<;>simp
 have h2:∀(r g:List Mv),(r.foldl (λg m=>Ym 0 g (clD cl m) m.on) g).length<=g.length+r.length:=by
  intro r;induction r with
  |nil=>intro g;simp
  |cons m r ih=>intro g;have e:=ih (Ym 0 g (clD cl m) m.on);have e2:=h1 0 g (clD cl m) m.on;rw[xV,yZ];omega
 have:=h2 (Wz a s) [];simpa[k29]using this
def C1{a:Aut}(ha:Dfa a){t:Nat}(ht:L8 a t):(Yt a t).length<=(Wz a (Yf a t)).length:=by have h:=q0p ha (clA a) (Yf a t);have hp:=(Zs kyM (k29 a (clA a) (Yf a t)) (h.apart λt' t'' ty y=>B9 ha (Yy ha ht))).1.length_eq;have:=c16 a (clA a) (Yf a t);unfold Yt j1j;omega
def Mm{a:Aut}(ha:Dfa a):(Wn a).mv.length<=a.mv.length:=by
 have ho:=Yl ha;have z1:∀c∈Ox a,∀d∈Ox a,Yf a c=Yf a d->c=d:=λc hc d hd e=>by have e1:=(Yb ha (ho.cl c hc)).2;have e2:=(Yb ha (ho.cl d hd)).2;rw[<-e1,<-e2,e]
 have hlen:(Wn a).mv.length=((Ox a).map λc=>(Yt a c).length).sum:=by
  unfold Wn A5;simp only[vZ]
  congr 1
  refine xT (by simp) λi h1 h2=>?_;have hi:i<(Ox a).length:=by simpa using h1
  simp[mvN,yL,hi]
 have hle:((Ox a).map λc=>(Yt a c).length).sum<=(((Ox a).map λc=>((Yf a c:Nat):Int)).map λs=>(Wz a s).length).sum:=by
  rw[vE];have key:∀l:List Nat,(∀c∈l,L8 a c)->(l.map λc=>(Yt a c).length).sum<=(l.map ((λs=>(Wz a s).length)∘λc=>((Yf a c:Nat):Int))).sum:=by
   intro l;induction l with
   |nil=>intro _;simp
   |cons c l ih=>intro hc;have h1:=ih λd hd=>hc d (by simp[hd]);have h2:=C1 ha (hc c (by simp));simp only[xJ,so,Function.comp_apply];omega
  exact key _ ho.cl
 have z6:((Ox a).map λc=>((Yf a c:Nat):Int)).Nodup:=by refine xK.2 ?_;refine List.Pairwise.imp_of_mem ?_ ho.nd;intro c d hc hd z7 e;exact z7 (z1 c hc d hd (by omega))
 have:=D2 _ z6 (λs (m:Mv)=>decide (m.src=s) && !Ws m.on) (λs t x h1 h2=>by
  simp only[z_,decide_eq_true_eq]at h1 h2;rw[<-h1.1,<-h2.1]) a.mv
 rw[hlen];unfold Wz at hle;omega
def f0s{a:Aut}(ha:Dfa a):(Wn a).fin.length<=a.fin.length:=by have ho:=Yl ha;rw[Wn,J5];exact Cn ha ho.nd ho.cl
def Zb(m:Aut):Bool:=m.mv.any λk=>k.on.any λs=>decide (256<s.length)
def j0k{a:Aut}(ha:Dfa a):Cw (Wn a)=Zb (Wn a):=by have h1:=f0s ha;have h2:=Mm ha;have h3:=ha.ok.fin;have h4:=ha.ok.mvs;unfold Cw Zb;rw[decide_eq_false (by omega),decide_eq_false (by omega)];simp
def Kn{a:Aut}(ha:Dfa a)(hb:Zb (Wn a)=false):Dfa (Wn a):=
 ⟨(I8 _).1 ((w2f (B6 ha)).2 (by rw[j0k ha];exact hb)),d0g ha,g0h ha⟩
section
variable {a:Aut} (ha:Dfa a) (hb:Zb (Wn a)=false)
include ha hb
theorem d1t{n c:Nat}(hn:(Ox a)[n]?=some c){x:Sy}(hx:Q9 a x):toL (Wn a) n x=(Kz (Ox a) (En a (toL a (Yf a c) x)):Nat)/\En a (toL a (Yf a c) x)∈Ox a:=by have ho:=Yl ha;have hd:=Kn ha hb;have hc:=ho.cl _ (zJ hn);have hs:=Yy ha hc;have h:=(Yc ha (clA a) hs).1;have z6:G9 a (clA a) (Yf a c) (En a (toL a (Yf a c) x)) x.ty.toNat x.num:=(Pz ha hs).2 ⟨x,hx,rfl,rfl,rfl⟩;obtain⟨k,hk,e⟩:=h.all _ _ _ z6;have hm:=O4.2 ⟨n,c,hn,k,hk,rfl⟩;have z1:=ho.closed c (zJ hn) k hk;rw[e]at z1;simp only[ue]at z1;refine⟨?_,z1⟩;have:=hd.to_of hm (x:=x) hx ((Tc hd.ok.wfA hm hx).2 ((h.mem k hk _ e _ _).2 z6));simp only[e,ue]at this;exact this
theorem X8:∀(w:List Sy) {n c:Nat},(Ox a)[n]?=some c->(∀x∈w,Q9 a x)->Lz (Wn a) n w=Lz a (Yf a c) w
 |[],n,c,hn,_=>by simp only[Lz,stF,List.foldl_nil,ue];simp[Wn,A5,yL,hn]
 |x::w,n,c,hn,hw=>by have hx:=hw x (by simp);have ho:=Yl ha;obtain⟨h1,h2⟩:=d1t ha hb hn hx;have ih:=X8 w (u0l ho.nd h2) (λy hy=>hw y (by simp[hy]));have hc:=ho.cl _ (zJ hn);have z1:=(ha.next (Yy ha hc) hx).1;have e:=x0n ha z1 w (λy hy=>hw y (by simp[hy]));have e1:Lz (Wn a) n (x::w)=Lz (Wn a) (toL (Wn a) n x) w:=rfl;have e2:Lz a (Yf a c) (x::w)=Lz a (toL a (Yf a c) x) w:=rfl;rw[e1,e2,h1,ih,e]
theorem j0g:eqW (Wn a) a 0 0:=λw hw=>by have ho:=Yl ha;have h1:=X8 ha hb w ho.first hw;have h2:=x0n ha ha.zero w hw;simp only[Int.cast_ofNat_Int]at h1;exact h1.trans h2
theorem v1m{w:List Sy}(hw:∀x∈w,Q9 a x):Eo (Wn a) w=Eo a w:=by rw[(Kn ha hb).acc (w:=w) hw,ha.acc hw];exact j0g ha hb w hw
end
def Jd(a:Aut):Int×Aut:=if(W7 a).1≠0 then((W7 a).1,Yj)else if(Ad (W7 a).2).1≠0 then((Ad (W7 a).2).1,Yj)else
 if Zb (Wn (Ad (W7 a).2).2)then(5,Yj)else(0,Wn (Ad (W7 a).2).2)
def x1y{a d c:Aut}(h:OkA a)(hd:W7 a=(0,d))(hc:Ad d=(0,c)):Dfa c/\c.types=a.types/\∀w,(∀x∈w,Q9 a x)->Eo c w=Eo a w:=by obtain⟨Q,_,_,_,_,_,z1,ddet,z6,dacc⟩:=Uu h hd;obtain⟨z7,z8,cfull,cdet,cacc⟩:=Cu z1 hc;exact⟨⟨z7,cdet ddet,cfull⟩,z8.trans z6,λw hw=>(cacc w).trans (dacc w hw)⟩
def B4{a m:Aut}(h:OkA a)(hm:Jd a=(0,m)):∃c,Dfa c/\c.types=a.types/\m=Wn c/\Zb (Wn c)=false/\∀w,(∀x∈w,Q9 a x)->Eo c w=Eo a w:=by
 unfold Jd at hm;split at hm
 ·rename_i hd;exact absurd (th.1 hm).1 hd
 rename_i hd;split at hm
 ·rename_i hc;exact absurd (th.1 hm).1 hc
 rename_i hc;split at hm
 ·simp at hm
 rename_i hb;obtain⟨h1,h2,h3⟩:=x1y h (d:=(W7 a).2) (c:=(Ad (W7 a).2).2) (u6 (by simpa using hd) rfl) (u6 (by simpa using hc) rfl);exact⟨_,h1,h2,(th.1 hm).2.symm,by simpa using hb,h3⟩
def q1z{a:Aut}(h:OkA a):(Jd a).1=0\/(Jd a).1=5:=by
 unfold Jd;split
 ·rename_i hd;rcases C3 h with k|k
  ·exact absurd k hd
  exact .inr k
 split
 ·rename_i hc;rcases d00 (W7 a).2 with k|k
  ·exact absurd k hc
  exact .inr k
 split
 ·exact .inr rfl
 exact .inl rfl
def q2o{a b m:Aut}(ha:OkA a)(hb:OkA b)(ht:b.types=a.types)(hw:∀w,(∀x∈w,Q9 a x)->Eo a w=Eo b w){n:Aut}(hm:Jd a=(0,m))(hn:Jd b=(0,n)):m=n:=by
 obtain⟨c,c1,c2,rfl,c4,c5⟩:=B4 ha hm;obtain⟨d,d1,d2,rfl,d4,d5⟩:=B4 hb hn;have z6:d.types=c.types:=by rw[d2,ht,c2]
 refine f0n c1 d1 z6 λw z1=>?_;have h1:∀x∈w,Q9 a x:=λx hx=>(Ei c2).1 (z1 x hx);have h2:∀x∈w,Q9 b x:=λx hx=>(Ei ht).2 (h1 x hx);have h3:∀x∈w,Q9 d x:=λx hx=>(Ei z6).2 (z1 x hx);rw[<-c1.acc z1,<-d1.acc h3,c5 w h1,d5 w h2];exact hw w h1
def q1o{a m:Aut}(ha:OkA a)(hm:Jd a=(0,m)):OkA m/\Dfa m/\m.types=a.types/\(∀w,(∀x∈w,Q9 a x)->Eo m w=Eo a w)/\((Jd m).1=5\/Jd m=(0,m)):=by
 obtain⟨c,c1,c2,rfl,c4,c5⟩:=B4 ha hm;have hd:=Kn c1 c4;have z1:∀w,(∀x∈w,Q9 a x)->Eo (Wn c) w=Eo a w:=λw hw=>by rw[v1m c1 c4 (λx hx=>(Ei c2).2 (hw x hx))];exact c5 w hw
 refine⟨hd.ok,hd,c2,z1,?_⟩;rcases q1z hd.ok with h0|h5
 ·obtain⟨n,hn⟩:∃n,Jd (Wn c)=(0,n):=⟨_,u6 h0 rfl⟩
  have:=q2o ha hd.ok c2 (λw hw=>(z1 w hw).symm) hm hn;exact .inr (by rw[hn,<-this])
 exact .inl h5
end
def addI(o:List Int)(c:Int):List Int:=if c∈o then o else o++[c]
structure Dta (a:Aut):Prop where
 ok:OkA a
 det:Ih a
def q3j{α:Type}{R:α->α->Prop}{l:List α}(h:l.Pairwise R){x y:α}(hx:x∈l)(hy:y∈l)(h1:¬R x y)(h2:¬R y x):x=y:=by
 obtain⟨i,hi,rfl⟩:=yX hx;obtain⟨j,hj,rfl⟩:=yX hy;rcases wR i j with k|k|k
 ·exact absurd (yK.1 h i j hi hj k) h1
 ·subst k;rfl
 exact absurd (yK.1 h j i hj hi k) h2
def Dta.one{a:Aut}(h:Dta a){m k:Mv}(hm:m∈a.mv)(hk:k∈a.mv)(hs:m.src=k.src){x:Sy}(hx:Q9 a x)(h1:Ry m.on x=true)(h2:Ry k.on x=true):m=k:=
 q3j h.det hm hk (λhr=>hr hs x hx ⟨h1,h2⟩) (λhr=>hr hs.symm x hx ⟨h2,h1⟩)
def Dta.to_of{a:Aut}(h:Dta a){m:Mv}(hm:m∈a.mv){x:Sy}(hx:Q9 a x)(hh:Ry m.on x=true):toL a m.src x=m.dst:=by
 unfold toL;cases hf:a.mv.find? (λk=>decide (k.src=m.src) && Ry k.on x)with
 |none=>rw[u9]at hf;have:=hf m hm;simp[hh]at this
 |some k=>have h1:=t_ hf;simp only[z_,decide_eq_true_eq]at h1;rw[h.one (ua hf) hm h1.1 hx h1.2 hh]
def Hm{a:Aut}(s:Int)(x:Sy):(toL a s x= -1/\∀m∈a.mv,m.src=s->Ry m.on x=false)\/∃m∈a.mv,m.src=s/\Ry m.on x=true/\toL a s x=m.dst:=by
 unfold toL;cases hf:a.mv.find? (λk=>decide (k.src=s) && Ry k.on x)with
 |none=>rw[u9]at hf;refine .inl ⟨rfl,λm hm e=>?_⟩;have:=hf m hm;simpa[e]using this
 |some k=>have h1:=t_ hf;simp only[z_,decide_eq_true_eq]at h1;exact .inr ⟨k,ua hf,h1.1,h1.2,rfl⟩
def c20{a:Aut}(h:OkA a)(s:Int)(x:Sy):toL a s x= -1\/inS a (toL a s x):=by
 rcases Hm (a:=a) s x with⟨h1,_⟩|⟨m,hm,_,_,e⟩
 ·exact .inl h1
 rw[e];exact .inr (h.mv m hm).dst
section
def x2k{a:Aut}(h:OkA a)(x:Sy):toL a (-1) x= -1:=by
 rcases Hm (a:=a) (-1) x with⟨h1,_⟩|⟨m,hm,h2,_,_⟩
 ·exact h1
 have:=(h.mv m hm).src.1;omega
def inD(a:Aut)(s:Int):Prop:=s= -1\/inS a s
def Xv{a:Aut}(h:OkA a)(s:Int)(x:Sy):inD a (toL a s x):=c20 h s x
def v0u(a:Aut)(s:Int):Bool:=decide (s≠ -1) && a.fin.getD s.toNat false
def mvS(a:Aut)(s:Int):List Mv:=a.mv.filter λm=>decide (m.src=s)
def Ec(a:Aut)(s:Int):List (Option Mv):=(mvS a s).map some++[none]
def Fg:Option Mv->Int
 |some m=>m.dst
 |none=> -1
def w0s(a:Aut)(s:Int):Option Mv->Prd
 |some m=>m.on
 |none=>Tt (Oh a.types.toNat ((mvS a s).map (·.on)))
def f03(a:Aut)(s:Int)(o:Option Mv)(x:Sy):Prop:=PM (w0s a s o) x.ty.toNat x.num
def Tf{a:Aut}{s:Int}{m:Mv}:m∈mvS a s↔m∈a.mv/\m.src=s:=by unfold mvS;rw[xH,decide_eq_true_eq]
def Oa{a:Aut}{s:Int}{o:Option Mv}:o∈Ec a s↔o=none\/∃m∈mvS a s,o=some m:=by
 unfold Ec;rw[zV,zO,zP];constructor
 ·rintro(⟨m,hm,rfl⟩|rfl)
  ·exact .inr ⟨m,hm,rfl⟩
  exact .inl rfl
 rintro(rfl|⟨m,hm,rfl⟩)
 ·exact .inr rfl
 exact .inl ⟨m,hm,rfl⟩
def Jg{a:Aut}(h:OkA a)(s:Int):∀p∈(mvS a s).map (·.on),PWf a.types.toNat p:=λr hr=>by obtain⟨m,hm,rfl⟩:=zO.1 hr;exact h.wfA.on m (Tf.1 hm).1
def Bc{a:Aut}(h:OkA a){s:Int}{o:Option Mv}(ho:o∈Ec a s):PWf a.types.toNat (w0s a s o):=by
 rcases Oa.1 ho with rfl|⟨m,hm,rfl⟩
 ·exact Ct (S9 (Jg h s))
 exact h.wfA.on m (Tf.1 hm).1
def O6{a:Aut}(h:OkA a)(s:Int){x:Sy}(hx:Q9 a x):f03 a s none x↔∀m∈mvS a s,Ry m.on x=false:=by
 unfold f03 w0s;rw[Hq (S9 (Jg h s)),Kh (Jg h s)];have hk:=U8.2 hx;constructor
 ·rintro⟨_,hn⟩ m hm;cases hh:Ry m.on x with
  |false=>rfl
  |true=>exact absurd ⟨m.on,zO.2 ⟨m,hm,rfl⟩,(Tc h.wfA (Tf.1 hm).1 hx).1 hh⟩ hn
 intro hn;refine⟨hk.2,?_⟩;rintro⟨r,hr,z1⟩;obtain⟨m,hm,rfl⟩:=zO.1 hr;have:=hn m hm;rw[(Tc h.wfA (Tf.1 hm).1 hx).2 z1]at this;cases this
def O9{a:Aut}(h:OkA a){s:Int}{m:Mv}(hm:m∈mvS a s){x:Sy}(hx:Q9 a x):f03 a s (some m) x↔Ry m.on x=true:=(Tc h.wfA (Tf.1 hm).1 hx).symm
def v0g{a:Aut}(h:Dta a){s:Int}{o:Option Mv}(ho:o∈Ec a s){x:Sy}(hx:Q9 a x)(hh:f03 a s o x):toL a s x=Fg o:=by
 rcases Oa.1 ho with rfl|⟨m,hm,rfl⟩
 ·have hn:=(O6 h.ok s hx).1 hh;rcases Hm (a:=a) s x with⟨h1,_⟩|⟨m,h1,h2,h3,_⟩
  ·exact h1
  rw[hn m (Tf.2 ⟨h1,h2⟩)]at h3;cases h3
 obtain⟨h1,h2⟩:=Tf.1 hm;rw[<-h2];exact h.to_of h1 hx ((O9 h.ok hm hx).1 hh)
def x1z{a:Aut}(h:OkA a)(s:Int){x:Sy}(hx:Q9 a x):∃o∈Ec a s,f03 a s o x:=by
 by_cases hn:∀m∈mvS a s,Ry m.on x=false
 ·exact⟨none,Oa.2 (.inl rfl),(O6 h s hx).2 hn⟩
 have:∃m∈mvS a s,Ry m.on x=true:=Classical.byContradiction λk=>hn λm hm=>by
  cases hh:Ry m.on x with
  |false=>rfl
  |true=>exact absurd ⟨m,hm,hh⟩ k
 obtain⟨m,hm,hh⟩:=this;exact⟨some m,Oa.2 (.inr ⟨m,hm,rfl⟩),(O9 h hm hx).2 hh⟩
def u0j{a:Aut}(h:Dta a)(s:Int):(Ec a s).Pairwise (λo r=>∀x,Q9 a x->f03 a s o x->¬f03 a s r x):=by
 unfold Ec;rw[yH,xK];refine⟨?_,List.pairwise_singleton ..,λo ho r hr x hx h1 h2=>?_⟩
 ·have hp:(mvS a s).Pairwise (λm k=>m.src=k.src->∀x:Sy,Q9 a x->¬(Ry m.on x=true/\Ry k.on x=true)):=h.det.filter _;refine hp.imp_of_mem λ{m k} hm hk hr x hx h1 h2=>?_;have e:m.src=k.src:=by rw[(Tf.1 hm).2,(Tf.1 hk).2]
  exact hr e x hx ⟨(O9 h.ok hm hx).1 h1,(O9 h.ok hk hx).1 h2⟩
 rw[zP.1 hr]at h2;obtain⟨m,hm,rfl⟩:=zO.1 ho;have:=(O6 h.ok s hx).1 h2 m hm;rw[(O9 h.ok hm hx).1 h1]at this;cases this
def w07(a b:Aut)(s:Int×Int)(o r:Option Mv):Prd:=Wp (w0s a s.1 o) (w0s b s.2 r)
def c1d(a b:Aut)(s:Int×Int)(o r:Option Mv):Option (Sy×(Int×Int)):=if Ws (w07 a b s o r)then none else some (Qh (w07 a b s o r),(Fg o,Fg r))
def Np(a b:Aut)(s:Int×Int):List (Sy×(Int×Int)):=(Ec a s.1).flatMap λo=>(Ec b s.2).filterMap (c1d a b s o)
section
variable {a b:Aut} (ha:Dta a) (hb:Dta b) (ht:b.types=a.types) {s:Int×Int}
include ha hb ht
theorem y1h{o r:Option Mv}(ho:o∈Ec a s.1)(hr:r∈Ec b s.2):PWf a.types.toNat (w07 a b s o r)/\∀t n,PM (w07 a b s o r) t n↔PM (w0s a s.1 o) t n/\PM (w0s b s.2 r) t n:=by have w1:=Bc ha.ok ho;have w2:=Bc hb.ok hr;rw[ht]at w2;exact⟨Ta w1 w2.1,Er w1.1 w2.1⟩
theorem Ie{o r:Option Mv}(ho:o∈Ec a s.1)(hr:r∈Ec b s.2){e:Sy×(Int×Int)}(he:c1d a b s o r=some e):Q9 a e.1/\f03 a s.1 o e.1/\f03 b s.2 r e.1/\e.2=(Fg o,Fg r)/\∀y,Q9 a y->f03 a s.1 o y->f03 b s.2 r y->e.1=y\/sLt e.1 y:=by
 obtain⟨hw,z1⟩:=y1h ha hb ht ho hr;unfold c1d at he;split at he
 ·cases he
 rename_i hv;obtain rfl:=Option.some.inj he;obtain⟨k1,k2,k3⟩:=Y9 hw ((Ub hw).1 (by simpa using hv));obtain⟨p1,p2⟩:=(z1 _ _).1 k2;exact⟨U8.1 k1,p1,p2,rfl,λy hy h1 h2=>k3 y (U8.2 hy) ((z1 _ _).2 ⟨h1,h2⟩)⟩
theorem y1k{e:Sy×(Int×Int)}:e∈Np a b s↔∃o∈Ec a s.1,∃r∈Ec b s.2,c1d a b s o r=some e:=by unfold Np;rw[xQ];simp only[wH]
theorem g2i{e:Sy×(Int×Int)}(he:e∈Np a b s):Q9 a e.1/\e.2=Rl a b s e.1:=by obtain⟨o,ho,r,hr,h⟩:=(y1k ha hb ht).1 he;obtain⟨k1,k2,k3,k4,_⟩:=Ie ha hb ht ho hr h;refine⟨k1,?_⟩;rw[k4];unfold Rl;rw[v0g ha ho k1 k2,v0g hb hr ((Ei ht).2 k1) k3]
theorem x2i{y:Sy}(hy:Q9 a y):∃e∈Np a b s,e.2=Rl a b s y/\(e.1=y\/sLt e.1 y):=by
 have z1:=(Ei ht).2 hy;obtain⟨o,ho,h1⟩:=x1z ha.ok s.1 hy;obtain⟨r,hr,h2⟩:=x1z hb.ok s.2 z1;obtain⟨hw,z6⟩:=y1h ha hb ht ho hr;have hv:Ws (w07 a b s o r)=false:=(Ub hw).2 ⟨_,_,(z6 _ _).2 ⟨h1,h2⟩⟩;have he:c1d a b s o r=some (Qh (w07 a b s o r),(Fg o,Fg r)):=by unfold c1d;rw[hv,if_neg (by simp)]
 refine⟨_,(y1k ha hb ht).2 ⟨o,ho,r,hr,he⟩,?_,(Ie ha hb ht ho hr he).2.2.2.2 y hy h1 h2⟩;unfold Rl;rw[v0g ha ho hy h1,v0g hb hr z1 h2]
theorem w25:(Np a b s).Pairwise (λe e'=>e.1≠e'.1):=by
 unfold Np;rw[vH];refine⟨λo ho=>?_,(u0j ha s.1).imp_of_mem λ{o o'} ho ho' hd x hx y hy e=>?_⟩
 ·rw[List.pairwise_filterMap];refine(u0j hb s.2).imp_of_mem λ{r r'} hr z1 hd x hx y hy e=>?_;obtain⟨k1,_,k3,_⟩:=Ie ha hb ht ho hr hx;obtain⟨_,_,j3,_⟩:=Ie ha hb ht ho z1 hy;rw[<-e]at j3;exact hd x.1 ((Ei ht).2 k1) k3 j3
 obtain⟨r,hr,h1⟩:=wH.1 hx;obtain⟨r',z1,h2⟩:=wH.1 hy;obtain⟨k1,k2,_⟩:=Ie ha hb ht ho hr h1;obtain⟨_,j2,_⟩:=Ie ha hb ht ho' z1 h2;rw[<-e]at j2;exact hd x.1 k1 k2 j2
end
def w0u(e e':Sy×(Int×Int)):Bool:= !L5 e'.1 e.1
def Iy(a b:Aut)(s:Int×Int):List (Sy×(Int×Int)):=(Np a b s).mergeSort w0u
def j08(x y z:Sy×(Int×Int))(h1:w0u x y=true)(h2:w0u y z=true):w0u x z=true:=by
 unfold w0u at *
 cases hz:L5 z.1 x.1 with
 |false=>rfl
 |true=>
  exfalso;rw[Gt]at hz;have n1:¬sLt y.1 x.1:=λk=>by rw[(Gt _ _).2 k]at h1;simp at h1
  have n2:¬sLt z.1 y.1:=λk=>by rw[(Gt _ _).2 k]at h2;simp at h2
  rcases sLt.tri x.1 y.1 with k|k|k
  ·exact n2 (hz.trans k)
  ·rw[k]at hz;exact n2 hz
  exact n1 k
def g0d(x y:Sy×(Int×Int)):(w0u x y || w0u y x)=true:=by
 unfold w0u;cases h1:L5 y.1 x.1 with
 |false=>rfl
 |true=>
  cases h2:L5 x.1 y.1 with
  |false=>rfl
  |true=>exact absurd (((Gt _ _).1 h1).trans ((Gt _ _).1 h2)) (λk=>sLt.irr k)
def Zr{L:List (Sy×(Int×Int))}(hp:L.Pairwise λx y=>w0u x y=true)(hn:L.Pairwise λe e'=>e.1≠e'.1):L.Pairwise λx y=>sLt x.1 y.1:=by
 refine(hp.and hn).imp λ{x y} h=>?_;have n1:¬sLt y.1 x.1:=λk=>by have:=h.1;unfold w0u at this;rw[(Gt _ _).2 k]at this;simp at this
 rcases sLt.tri x.1 y.1 with k|k|k
 ·exact k
 ·exact absurd k h.2
 exact absurd k n1
def v03{a b:Aut}(ha:Dta a)(hb:Dta b)(ht:b.types=a.types)(s:Int×Int):(Iy a b s).Pairwise λx y=>sLt x.1 y.1:=by refine Zr (ur j08 g0d _) ?_;exact(wP (Np a b s) w0u).symm.pairwise (w25 ha hb ht) (λ{x y} h=>h.symm)
def Du{a b:Aut}(ha:Dta a)(hb:Dta b)(ht:b.types=a.types)(s:Int×Int):SuccOk (Q9 a) (Rl a b) s (Iy a b s):=by have hm:∀e,e∈Iy a b s↔e∈Np a b s:=λe=>(wP (Np a b s) w0u).mem_iff;refine⟨v03 ha hb ht s,λe he=>g2i ha hb ht ((hm e).1 he),λy hy=>?_⟩;obtain⟨e,he,h⟩:=x2i ha hb ht (s:=s) hy;exact⟨e,(hm e).2 he,h⟩
def d0f{a b:Aut}(ha:Dta a)(hb:Dta b)(ht:b.types=a.types)(s:Int×Int){L:List (Sy×(Int×Int))}(hp:L.Perm (Np a b s))(hs:L.Pairwise λx y=>w0u x y=true):L=Iy a b s:=by have h1:=Zr hs (hp.symm.pairwise (w25 ha hb ht) (λ{x y} h=>h.symm));refine List.Perm.eq_of_pairwise (le:=λx y=>sLt x.1 y.1) (λx y _ _ k1 k2=>absurd (k1.trans k2) (λk=>sLt.irr k)) h1 (v03 ha hb ht s) (hp.trans (wP (Np a b s) w0u).symm)
end
structure FirstP (ok:Sy->Prop) (P:List Sy->Bool) (w:List Sy):Prop where
 okw:∀x∈w,ok x
 hit:P w=true
 least:∀v,(∀x∈v,ok x)->P v=true->lle w v
def FirstP.uniq{ok:Sy->Prop}{P:List Sy->Bool}{v w:List Sy}(h:FirstP ok P v)(k:FirstP ok P w):v=w:=
 (h.least w k.okw k.hit).anti (k.least v h.okw h.hit)
def FirstP.congr{ok:Sy->Prop}{P Q:List Sy->Bool}{w:List Sy}(h:FirstP ok P w)(e:∀v,(∀x∈v,ok x)->P v=Q v):FirstP ok Q w:=
 ⟨h.okw,by rw[<-e w h.okw];exact h.hit,λv hv hq=>h.least v hv (by rw[e v hv];exact hq)⟩
def FirstP.sub{ok ok':Sy->Prop}{P:List Sy->Bool}{w:List Sy}(h:FirstP ok P w)(e:∀x,ok x↔ok' x):FirstP ok' P w:=
 ⟨λx hx=>(e x).1 (h.okw x hx),h.hit,λv hv hq=>h.least v (λx hx=>(e x).2 (hv x hx)) hq⟩
def FirstW.toP{σ:Type}{ok:Sy->Prop}{step:σ->Sy->σ}{good:σ->Bool}{s:σ}{w:List Sy}(h:FirstW ok step good s w):FirstP ok (λv=>good (Tj step s v)) w:=⟨h.okw,h.goodw,h.least⟩
def q1c(s:Int):List Int:=if s= -1 then []else [s]
def k1p{a:Aut}(h:Dta a){s:Int}{x:Sy}(hx:Q9 a x):Qv a [s] x=q1c (toL a s x):=by
 unfold q1c;rcases Hm (a:=a) s x with⟨h1,h2⟩|⟨m,m1,m2,m3,m4⟩
 ·rw[if_pos h1];refine vv.2 λj hj=>?_;obtain⟨_,m,hm,k1,k2,_⟩:=Q5.1 hj;rw[h2 m hm (zP.1 k1)]at k2;cases k2
 have hd:=(h.ok.mv m m1).dst;rw[if_neg (by rw[m4];omega)];refine Yv (Up ..) (by simp) λz=>?_;rw[Q5,zP];constructor
 ·rintro⟨_,k,hk,k1,k2,rfl⟩;rw[<-h.to_of hk hx k2,zP.1 k1]
 rintro rfl;rw[m4];exact⟨hd,m,m1,by rw[m2];simp,m3,rfl⟩
def V2(a:Aut)(x:Sy):Qv a [] x=[]:=vv.2 λj hj=>by obtain⟨_,m,hm,k1,_⟩:=Q5.1 hj;cases k1
def u1j{a:Aut}(h:Dta a):∀(w:List Sy) (s:Int),(∀x∈w,Q9 a x)->Is a (q1c s) w=q1c (stF a s w)
 |[],_,_=>rfl
 |x::w,s,hw=>by
  have hx:=hw x (by simp);have ih:=u1j h w (toL a s x) λy hy=>hw y (by simp[hy]);show Is a (Qv a (q1c s) x) w=q1c (stF a (toL a s x) w);rw[<-ih]
  congr 1
  by_cases hs:s= -1
  ·subst hs;rw[x2k h.ok];unfold q1c;rw[if_pos rfl,V2]
  have:q1c s=[s]:=by unfold q1c;rw[if_neg hs]
  rw[this,k1p h hx]
def z2n(a:Aut)(s:Int):Pr a (q1c s)=v0u a s:=by
 unfold q1c v0u Pr;by_cases hs:s= -1
 ·rw[if_pos hs,hs];rfl
 rw[if_neg hs];simp[hs]
def z1w{a:Aut}(h:Dta a){w:List Sy}(hw:∀x∈w,Q9 a x):Eo a w=v0u a (stF a 0 w):=by unfold Eo;rw[<-z2n,<-u1j h w 0 hw];rfl
def Zy(n:Nat):List Int:= -1::W9 n
def k0f(a b:Aut):List (Int×Int):=(Zy a.fin.length).flatMap λi=>(Zy b.fin.length).map λj=>(i,j)
def Jo(a b:Aut):(k0f a b).length=(a.fin.length+1) * (b.fin.length+1):=by unfold k0f;rw[vZ,xD (g:=λ_=>b.fin.length+1) (λi _=>by simp[W9,Zy]),uo,uj];simp[W9,Zy]
def Xn{a:Aut}{s:Int}:s∈Zy a.fin.length↔inD a s:=by unfold Zy inD;rw[yB,Wy];exact Iff.rfl
def Kv{a b:Aut}{s:Int×Int}(h1:inD a s.1)(h2:inD b s.2):s∈k0f a b:=by unfold k0f;exact xQ.2 ⟨s.1,Xn.2 h1,zO.2 ⟨s.2,Xn.2 h2,rfl⟩⟩
def q06(wn:Bool->Bool->Bool)(a b:Aut)(s:Int×Int):Bool:=wn (v0u a s.1) (v0u b s.2)
def Lc(a b:Aut)(wn:Bool->Bool->Bool):Option (List Sy)×List ((Int×Int)×List Sy):=Xi (q06 wn a b) (Iy a b) ((a.fin.length+1) * (b.fin.length+1)+1) 0 [((0,0),[])]
def wnd(wn:Bool->Bool->Bool)(a b:Aut)(v:List Sy):Bool:=wn (Eo a v) (Eo b v)
def v0a{a b:Aut}(ha:Dta a)(hb:Dta b)(ht:b.types=a.types)(wn:Bool->Bool->Bool){v:List Sy}(hv:∀x∈v,Q9 a x):q06 wn a b (Tj (Rl a b) (0,0) v)=wnd wn a b v:=by rw[Ik];unfold q06 wnd;rw[z1w ha hv,z1w hb λx hx=>(Ei ht).2 (hv x hx)]
def Y1{a b:Aut}(ha:Dta a)(hb:Dta b)(ht:b.types=a.types)(wn:Bool->Bool->Bool):
  (∃w L,Lc a b wn=(some w,L)/\FirstP (Q9 a) (wnd wn a b) w)\/
  (∃L,Lc a b wn=(none,L)/\(L.map (·.1)).Nodup/\(∀s,s∈L.map (·.1)↔∃v,(∀x∈v,Q9 a x)/\Tj (Rl a b) (0,0) v=s)/\(∀s∈L.map (·.1),inD a s.1/\inD b s.2)/\∀v,(∀x∈v,Q9 a x)->wnd wn a b v=false):=by
 have hz:inD a 0/\inD b 0:=⟨.inr ⟨xC _,by have:=ha.ok.fin;omega⟩,.inr ⟨xC _,by have:=hb.ok.fin;omega⟩⟩
 rcases Dc (ok:=Q9 a) (step:=Rl a b) (good:=q06 wn a b) (succ:=Iy a b) (s0:=(0,0)) (G:=λs=>inD a s.1/\inD b s.2) (λs _=>Du ha hb ht s)
  (λs _ e he=>by
   rw[((Du ha hb ht s).mem e he).2];exact⟨Xv ha.ok _ _,Xv hb.ok _ _⟩) (k0f a b) (λs hs=>Kv hs.1 hs.2) ((a.fin.length+1) * (b.fin.length+1)+1) 0 [((0,0),[])] (by rw[Jo];omega) (by simp) (P7 (s0:=((0:Int),(0:Int))) hz)with⟨w,L,h1,h2⟩|⟨L,h1,h2,h3,h4⟩
 ·exact .inl ⟨w,L,h1,h2.toP.congr λv hv=>v0a ha hb ht wn hv⟩
 refine .inr ⟨L,h1,h2,λs=>⟨λhs=>?_,λ⟨v,hv,e⟩=>?_⟩,λs hs=>?_,λv hv=>?_⟩
 ·obtain⟨e,he,rfl⟩:=zO.1 hs;exact⟨e.2,(h3 e he).1,(h3 e he).2.1⟩
 ·rw[<-e];exact(h4 v hv).1
 ·obtain⟨e,he,rfl⟩:=zO.1 hs;exact(h3 e he).2.2
 rw[<-v0a ha hb ht wn hv];exact(h4 v hv).2
def Xb{a:Aut}{x y:Sy}(h:∀m∈a.mv,Ry m.on x=Ry m.on y)(l:List Int):Qv a l x=Qv a l y:=by unfold Qv;refine List.filter_congr λj _=>?_;unfold z2z;rw[x_,wL,wL];refine exists_congr λm=>and_congr_right λhm=>?_;rw[h m hm]
abbrev SS:=List Int×List Int
def y0r(a b:Aut)(s:SS)(x:Sy):SS:=(Qv a s.1 x,Qv b s.2 x)
def q0y(a b:Aut)(s:SS):List (Sy×SS):=(Ao a b).map λx=>(x,y0r a b s x)
def v2s(wn:Bool->Bool->Bool)(a b:Aut)(s:SS):Bool:=wn (Pr a s.1) (Pr b s.2)
def j2b(a b:Aut)(wn:Bool->Bool->Bool):Option (List Sy)×List (SS×List Sy):=Xi (v2s wn a b) (q0y a b) 66050 0 [(([0],[0]),[])]
def w2i(a b:Aut):∀(w:List Sy) (l m:List Int),Tj (y0r a b) (l,m) w=(Is a l w,Is b m w)
 |[],_,_=>rfl
 |x::w,l,m=>w2i a b w (Qv a l x) (Qv b m x)
def u03{a b:Aut}(ha:OkA a)(hb:OkA b)(ht:b.types=a.types)(s:SS):SuccOk (Q9 a) (y0r a b) s (q0y a b s):=by
 have hl:=q24 ha hb ht;refine⟨?_,λe he=>?_,λy hy=>?_⟩
 ·unfold q0y;exact xK.2 (hl.ascS.imp λh=>h)
 ·obtain⟨x,hx,rfl⟩:=zO.1 he;obtain⟨c,hc,rfl⟩:=zO.1 hx;exact⟨U8.1 (hl.least hc).1,rfl⟩
 obtain⟨c,hc,hm,hle,z1⟩:=hl.cov (U8.2 hy);refine⟨(Qh c,y0r a b s (Qh c)),zO.2 ⟨Qh c,zO.2 ⟨c,hc,rfl⟩,rfl⟩,?_,hle⟩;unfold y0r;rw[Xb (λm hm=>(z1 m.on (yY _ (Vg hm))).symm),Xb (a:=b) (λm hm=>(z1 m.on (List.mem_append_right _ (Vg hm))).symm)]
def g0w(P Q:List (List Int)):List SS:=([]::P).flatMap λi=>([]::Q).map λj=>(i,j)
def x12(P Q:List (List Int)):(g0w P Q).length=(P.length+1) * (Q.length+1):=by unfold g0w;rw[vZ,xD (g:=λ_=>Q.length+1) (λi _=>by simp),uo,uj];simp
def q1b{P Q:List (List Int)}{s:SS}(h1:s.1=[]\/s.1∈P)(h2:s.2=[]\/s.2∈Q):s∈g0w P Q:=by unfold g0w;exact xQ.2 ⟨s.1,yB.2 h1,zO.2 ⟨s.2,yB.2 h2,rfl⟩⟩
def q0n{a b x y:Aut}(ha:OkA a)(hb:OkA b)(ht:b.types=a.types)(da:W7 a=(0,x))(db:W7 b=(0,y))(wn:Bool->Bool->Bool):
  (∃w L,j2b a b wn=(some w,L)/\FirstP (Q9 a) (wnd wn a b) w)\/(∃L,j2b a b wn=(none,L)/\∀v,(∀z∈v,Q9 a z)->wnd wn a b v=false):=by
 obtain⟨P,_,hP,z1,_⟩:=Uu ha da;obtain⟨Q,_,hQ,z6,_⟩:=Uu hb db;have step:∀(c:Aut) (cl:List Prd) (Q:List (List Int)),Sub c cl Q->Cls c cl->∀(l:List Int) (z:Sy),Q9 c z->(l=[]\/l∈Q)->(Qv c l z=[]\/Qv c l z∈Q):=λc cl Q hs hc l z hz hl=>by
  rcases hl with rfl|hl
  ·exact .inl (V2 _ _)
  exact hs.step hc hl hz
 have hw:∀v,v2s wn a b (Tj (y0r a b) ([0],[0]) v)=wnd wn a b v:=λv=>by rw[w2i];rfl
 have hlen:(g0w P Q).length+1<=0+66050:=by have h1:=hP.lim;have h2:=hQ.lim;rw[x12];have:=Nat.mul_le_mul (show P.length+1<=257 by omega) (show Q.length+1<=257 by omega);omega
 rcases Dc (ok:=Q9 a) (step:=y0r a b) (good:=v2s wn a b) (succ:=q0y a b) (s0:=(([0]:List Int),([0]:List Int))) (G:=λs=>(s.1=[]\/s.1∈P)/\(s.2=[]\/s.2∈Q)) (λs _=>u03 ha hb ht s)
  (λs hs e he=>by
   obtain⟨h1,h2⟩:=(u03 ha hb ht s).mem e he;rw[h2];exact⟨step _ _ _ hP z1 _ _ h1 hs.1,step _ _ _ hQ z6 _ _ ((Ei ht).2 h1) hs.2⟩) (g0w P Q) (λs hs=>q1b hs.1 hs.2) 66050 0 [(([0],[0]),[])] hlen (by simp) (P7 (s0:=(([0]:List Int),([0]:List Int))) ⟨.inr (zJ hP.first),.inr (zJ hQ.first)⟩)with⟨w,L,h1,h2⟩|⟨L,h1,_,_,h4⟩
 ·exact .inl ⟨w,L,h1,h2.toP.congr λv _=>hw v⟩
 exact .inr ⟨L,h1,λv hv=>by rw[<-hw v];exact(h4 v hv).2⟩
def Z5{a b x y:Aut}(ha:OkA a)(hb:OkA b)(ht:b.types=a.types)(da:W7 a=(0,x))(db:W7 b=(0,y))(wn:Bool->Bool->Bool):(j2b a b wn).1=(Lc x y wn).1:=by
 obtain⟨_,_,_,_,_,_,xo,xd,xt,xa⟩:=Uu ha da;obtain⟨_,_,_,_,_,_,yo,yd,yt,ya⟩:=Uu hb db;have z6:y.types=x.types:=by rw[yt,xt,ht]
 have z1:∀z,Q9 x z↔Q9 a z:=λz=>Ei xt;have hw:∀v,(∀z∈v,Q9 a z)->wnd wn x y v=wnd wn a b v:=λv hv=>by unfold wnd;rw[xa v hv,ya v λz hz=>(Ei ht).2 (hv z hz)]
 rcases q0n ha hb ht da db wn with⟨w,L,h1,h2⟩|⟨L,h1,h2⟩
 ·rcases Y1 ⟨xo,xd⟩ ⟨yo,yd⟩ z6 wn with⟨v,M,k1,k2⟩|⟨M,k1,_,_,_,k2⟩
  ·rw[h1,k1];have:=(k2.sub z1).congr hw;rw[this.uniq h2]
  exfalso;have:=k2 w λz hz=>(z1 z).2 (h2.okw z hz);rw[hw w h2.okw,h2.hit]at this;cases this
 rcases Y1 ⟨xo,xd⟩ ⟨yo,yd⟩ z6 wn with⟨v,M,k1,k2⟩|⟨M,k1,_,_,_,k2⟩
 ·exfalso;have hv:=λz hz=>(z1 z).1 (k2.okw z hz);have:=h2 v hv;rw[<-hw v hv,k2.hit]at this;cases this
 rw[h1,k1]
def neB(x y:Bool):Bool:=x != y
def Fv{a b:Aut}(ha:Dfa a)(hb:Dfa b)(ht:b.types=a.types):(Fu a b 0 0).1=(Lc a b neB).1:=by
 have da:Dta a:=⟨ha.ok,ha.det⟩
 have db:Dta b:=⟨hb.ok,hb.det⟩
 have hz:=ha.zero;have z1:=hb.zero;have hd:∀v,(∀z∈v,Q9 a z)->(Lz a 0 v≠Lz b 0 v↔wnd neB a b v=true):=λv hv=>by unfold wnd neB;rw[ha.acc hv,hb.acc λz hz=>(Ei ht).2 (hv z hz)];simp
 rcases Jr ha hb ht hz z1 with⟨w,h1,h2⟩|⟨h1,h2⟩
 ·have hf:FirstP (Q9 a) (wnd neB a b) w:=by refine⟨h2.okw,(hd w h2.okw).1 ((Ds a b 0 0 w).1 h2.goodw),λv hv hp=>h2.least v hv ((Ds a b 0 0 v).2 ((hd v hv).2 hp))⟩
  rcases Y1 da db ht neB with⟨v,M,k1,k2⟩|⟨M,k1,_,_,_,k2⟩
  ·rw[h1,k1,hf.uniq k2]
  have:=k2 w hf.okw;rw[hf.hit]at this;cases this
 rcases Y1 da db ht neB with⟨v,M,k1,k2⟩|⟨M,k1,_,_,_,k2⟩
 ·exact absurd (h2 v k2.okw) ((hd v k2.okw).2 k2.hit)
 rw[h1,k1]
def pLt(p q:Int×Int):Prop:=p.1<q.1\/(p.1=q.1/\p.2<q.2)
def pLt.irr{p:Int×Int}(h:pLt p p):False:=by unfold pLt at h;omega
def pLt.trans{p q r:Int×Int}(h:pLt p q)(k:pLt q r):pLt p r:=by unfold pLt at *;omega
def pLt.tri(p q:Int×Int):pLt p q\/p=q\/pLt q p:=by
 unfold pLt;by_cases h1:p.1=q.1
 ·by_cases h2:p.2=q.2
  ·exact .inr (.inl (u6 h1 h2))
  omega
 omega
def Fy{L M:List (Int×Int)}(h:L.Pairwise pLt)(k:M.Pairwise pLt)(e:∀s,s∈L↔s∈M):L=M:=by
 have nd:∀ {X:List (Int×Int)},X.Pairwise pLt->X.Nodup:=λhx=>hx.imp λh e=>by subst e;exact h.irr
 exact List.Perm.eq_of_pairwise (le:=pLt) (λp q _ _ h1 h2=>(h1.trans h2).irr.elim) h k ((ud (nd h) (nd k)).2 e)
def pLe(p q:Int×Int):Bool:=decide (p.1<q.1) || (decide (p.1=q.1) && decide (p.2<=q.2))
def v19(p q r:Int×Int)(h:pLe p q=true)(k:pLe q r=true):pLe p r=true:=by unfold pLe at *;simp only[vD,z_,decide_eq_true_eq]at *;omega
def w16(p q:Int×Int):(pLe p q || pLe q p)=true:=by unfold pLe;simp only[vD,z_,decide_eq_true_eq];omega
def z2a{p q:Int×Int}(h:pLe p q=true)(hn:p≠q):pLt p q:=by
 unfold pLe at h;simp only[vD,z_,decide_eq_true_eq]at h;rcases pLt.tri p q with k|k|k
 ·exact k
 ·exact absurd k hn
 unfold pLt at k;omega
def Y8(L:List (Int×Int)):List (Int×Int):=L.mergeSort pLe
def Ho{L:List (Int×Int)}(h:L.Nodup):(Y8 L).Pairwise pLt:=by have h1:=ur v19 w16 L;have h2:(Y8 L).Nodup:=(wP L pLe).symm.nodup h;exact(h1.and h2).imp λh=>z2a h.1 h.2
def Yh{L:List (Int×Int)}{s:Int×Int}:s∈Y8 L↔s∈L:=(wP L pLe).mem_iff
def f0v{L M:List (Int×Int)}(h:L.Nodup)(hp:M.Perm L)(hs:M.Pairwise λp q=>pLe p q=true):M=Y8 L:=by have hn:M.Nodup:=hp.symm.nodup h;exact Fy ((hs.and hn).imp λh=>z2a h.1 h.2) (Ho h) λs=>by rw[Yh];exact hp.mem_iff
def d08(a b:Aut)(s:Int×Int):Prop:=∃v,(∀x∈v,Q9 a x)/\Tj (Rl a b) (0,0) v=s
def y0c(a b:Aut):List (Int×Int):=(Xi (λ_=>false) (Ml a b) ((a.fin.length+1) * (b.fin.length+1)+1) 0 [((0,0),[])]).2.map (·.1)
def Y7(a b:Aut):List (Int×Int):=(Lc a b neB).2.map (·.1)
def k07{a b:Aut}(ha:OkA a)(hb:OkA b)(ht:b.types=a.types):(y0c a b).Nodup/\(∀s,s∈y0c a b↔d08 a b s)/\∀s∈y0c a b,inD a s.1/\inD b s.2:=by
 have hz:inD a 0/\inD b 0:=⟨.inr ⟨xC _,by have:=ha.fin;omega⟩,.inr ⟨xC _,by have:=hb.fin;omega⟩⟩
 rcases Dc (ok:=Q9 a) (step:=Rl a b) (good:=λ_=>false) (succ:=Ml a b) (s0:=((0:Int),(0:Int))) (G:=λs=>inD a s.1/\inD b s.2) (λs _=>F4 ha hb ht s)
  (λs _ e he=>by
   rw[((F4 ha hb ht s).mem e he).2];exact⟨Xv ha _ _,Xv hb _ _⟩) (k0f a b) (λs hs=>Kv hs.1 hs.2) ((a.fin.length+1) * (b.fin.length+1)+1) 0 [((0,0),[])] (by rw[Jo];omega) (by simp) (P7 (s0:=((0:Int),(0:Int))) hz)with⟨w,L,_,h2⟩|⟨L,h1,h2,h3,h4⟩
 ·exact absurd h2.goodw (by simp)
 unfold y0c;rw[h1];refine⟨h2,λs=>⟨λhs=>?_,λ⟨v,hv,e⟩=>by rw[<-e];exact(h4 v hv).1⟩,λs hs=>?_⟩
 ·obtain⟨e,he,rfl⟩:=zO.1 hs;exact⟨e.2,(h3 e he).1,(h3 e he).2.1⟩
 obtain⟨e,he,rfl⟩:=zO.1 hs;exact(h3 e he).2.2
def Kf{a b:Aut}(ha:Dta a)(hb:Dta b)(ht:b.types=a.types)(hn:(Lc a b neB).1=none):(Y7 a b).Nodup/\Y8 (Y7 a b)=Y8 (y0c a b)/\∀s,s∈Y7 a b↔d08 a b s:=by
 obtain⟨r1,r2,_⟩:=k07 ha.ok hb.ok ht;rcases Y1 ha hb ht neB with⟨w,L,h1,_⟩|⟨L,h1,h2,h3,_⟩
 ·rw[h1]at hn;cases hn
 have e:Y7 a b=L.map (·.1):=by unfold Y7;rw[h1]
 have e2:∀s,s∈Y7 a b↔d08 a b s:=λs=>by rw[e];exact h3 s
 have n1:(Y7 a b).Nodup:=by rw[e];exact h2
 exact⟨n1,Fy (Ho n1) (Ho r1) (λs=>by rw[Yh,Yh,r2 s,e2 s]),e2⟩
def w0v(a b:Aut)(s:Int×Int):Bool:=a.fin.getD s.1.toNat false==b.fin.getD s.2.toNat false
def L9(a b:Aut)(l:List (Int×Int)):Bool:=decide ((0,0)∈l) && l.all λs=>w0v a b s && (Ml a b s).all λe=>decide (e.2∈l)
def He(a b:Aut)(l:List (Int×Int)):Bool:=(l.all λs=>w0v a b s && (Iy a b s).all λe=>decide (e.2∈l)) && decide ((0,0)∈l)
def Hs{a b:Aut}{s:Int×Int}{L:List (Sy×(Int×Int))}(h:SuccOk (Q9 a) (Rl a b) s L)(l:List (Int×Int)):(L.all λe=>decide (e.2∈l))=true↔∀y,Q9 a y->Rl a b s y∈l:=by
 rw[zX];constructor
 ·intro k y hy;obtain⟨e,he,e1,_⟩:=h.cov y hy;rw[<-e1];simpa using k e he
 intro k e he;obtain⟨h1,h2⟩:=h.mem e he;rw[h2];simpa using k e.1 h1
def Vj{a b:Aut}(ha:OkA a)(hb:OkA b)(ht:b.types=a.types)(l:List (Int×Int)):L9 a b l=true↔(0,0)∈l/\∀s∈l,w0v a b s=true/\∀y,Q9 a y->Rl a b s y∈l:=by
 unfold L9;rw[z_,decide_eq_true_eq,zX];refine and_congr_right λ_=>⟨λh s hs=>?_,λh s hs=>?_⟩
 ·have:=h s hs;rw[z_]at this;exact⟨this.1,(Hs (F4 ha hb ht s) l).1 this.2⟩
 rw[z_];exact⟨(h s hs).1,(Hs (F4 ha hb ht s) l).2 (h s hs).2⟩
def c06{a b:Aut}(ha:Dta a)(hb:Dta b)(ht:b.types=a.types)(l:List (Int×Int)):He a b l=L9 a b l:=by
 rw[x_,Vj ha.ok hb.ok ht];unfold He;rw[z_,decide_eq_true_eq,zX];rw[and_comm];refine and_congr_right λ_=>⟨λh s hs=>?_,λh s hs=>?_⟩
 ·have:=h s hs;rw[z_]at this;exact⟨this.1,(Hs (Du ha hb ht s) l).1 this.2⟩
 rw[z_];exact⟨(h s hs).1,(Hs (Du ha hb ht s) l).2 (h s hs).2⟩
def g0v{a b:Aut}(ha:Dfa a)(hb:Dfa b)(ht:b.types=a.types){l:List (Int×Int)}(h:L9 a b l=true):∀w,(∀x∈w,Q9 a x)->Eo a w=Eo b w:=by
 obtain⟨h0,hc⟩:=(Vj ha.ok hb.ok ht l).1 h;have key:∀(w:List Sy) (s:Int×Int),s∈l->(∀x∈w,Q9 a x)->Tj (Rl a b) s w∈l:=by
  intro w;induction w with
  |nil=>intro s hs _;exact hs
  |cons x w ih=>intro s hs hw;exact ih _ ((hc s hs).2 x (hw x (by simp))) λy hy=>hw y (by simp[hy])
 intro w hw;have hm:=(hc _ (key w (0,0) h0 hw)).1;rw[Ik]at hm;rw[ha.acc hw,hb.acc λx hx=>(Ei ht).2 (hw x hx)];unfold w0v at hm;exact beq_iff_eq.1 hm
def q0h{a b:Aut}(ha:Dfa a)(hb:Dfa b)(ht:b.types=a.types)(hn:(Lc a b neB).1=none):L9 a b (Y8 (Y7 a b))=true:=by
 have da:Dta a:=⟨ha.ok,ha.det⟩
 have db:Dta b:=⟨hb.ok,hb.det⟩
 obtain⟨_,_,hr⟩:=Kf da db ht hn;have z1:∀v,(∀x∈v,Q9 a x)->wnd neB a b v=false:=by
  rcases Y1 da db ht neB with⟨w,L,h1,_⟩|⟨L,_,_,_,_,h2⟩
  ·rw[h1]at hn;cases hn
  exact h2
 rw[Vj ha.ok hb.ok ht];refine⟨by rw[Yh,hr];exact⟨[],by simp,rfl⟩,λs hs=>?_⟩;rw[Yh,hr]at hs;obtain⟨v,hv,e⟩:=hs;refine⟨?_,λy hy=>?_⟩
 ·have:=z1 v hv;unfold wnd neB at this;rw[ha.acc hv,hb.acc λx hx=>(Ei ht).2 (hv x hx)]at this;rw[Ik]at e;rw[<-e];unfold w0v;unfold Lz at this;simpa using this
 rw[Yh,hr];refine⟨v++[y],λx hx=>(zV.1 hx).elim (hv x) (λk=>by rw[zP.1 k];exact hy),?_⟩;rw[<-e];simp[Tj,wJ]
section
def Ft(b:Aut)(p:Int):List Sy->Prop
 |[]=>b.fin.getD p.toNat false=true
 |x::w=>∃q,q∈Qv b [p] x/\Ft b q w
def Xo{b:Aut}{l:List Int}{x:Sy}{q:Int}:q∈Qv b l x↔∃p∈l,q∈Qv b [p] x:=by
 rw[Q5];constructor
 ·rintro⟨h0,m,hm,h1,h2,h3⟩;exact⟨m.src,h1,Q5.2 ⟨h0,m,hm,by simp,h2,h3⟩⟩
 rintro⟨p,hp,hq⟩;obtain⟨h0,m,hm,h1,h2,h3⟩:=Q5.1 hq;rw[zP]at h1;exact⟨h0,m,hm,by rw[h1];exact hp,h2,h3⟩
def Kw(b:Aut):∀(w:List Sy) (l:List Int),Pr b (Is b l w)=true↔∃p∈l,Ft b p w
 |[],l=>by show Pr b l=true↔_;unfold Pr;rw[wL];exact Iff.rfl
 |x::w,l=>by
  show Pr b (Is b (Qv b l x) w)=true↔_;rw[Kw b w];constructor
  ·rintro⟨q,hq,h⟩;obtain⟨p,hp,z1⟩:=Xo.1 hq;exact⟨p,hp,q,z1,h⟩
  rintro⟨p,hp,q,hq,h⟩;exact⟨q,Xo.2 ⟨p,hp,hq⟩,h⟩
def dB(a b:Aut)(s:Int×List Int)(d:Nat):Prop:=∃w:List Sy,w.length=d/\(∀x∈w,Q9 a x)/\Ft b s.1 w/\Pr a (Is a s.2 w)=false
def mB(a b:Aut)(s:Int×List Int)(d:Nat):Prop:=dB a b s d/\∀k,k<d->¬dB a b s k
def x2n{a b:Aut}{s:Int×List Int}{d k:Nat}(h:mB a b s d)(h':mB a b s k):d=k:=by
 rcases wR d k with hlt|e|hlt
 ·exact absurd h.1 (h'.2 d hlt)
 ·exact e
 exact absurd h'.1 (h.2 k hlt)
def f2l{a b:Aut}{s:Int×List Int}:∀(d:Nat),dB a b s d->∃k,k<=d/\mB a b s k:=by
 intro d;induction d using sj with
 |_ d ih=>
  intro h;by_cases hk:∃k,k<d/\dB a b s k
  ·obtain⟨k,h1,h2⟩:=hk;obtain⟨j,h3,h4⟩:=ih k h1 h2;exact⟨j,by omega,h4⟩
  exact⟨d,zS _,h,λk h1 h2=>hk ⟨k,h1,h2⟩⟩
def gB(b:Aut)(Q:List (List Int))(s:Int×List Int):Prop:=inS b s.1/\(s.2=[]\/s.2∈Q)
section
variable {a b:Aut} {Q:List (List Int)} (hst:∀l∈Q,∀x,Q9 a x->Qv a l x=[]\/Qv a l x∈Q)
include hst
theorem z2u{s:Int×List Int}(hs:gB b Q s){d:Nat}(h:mB a b s (d+1)):∃s',gB b Q s'/\mB a b s' d:=by
 obtain⟨⟨w,hw,ho,h1,h2⟩,z1⟩:=h;cases w with
 |nil=>cases hw
 |cons x w=>
  obtain⟨q,hq,h3⟩:=h1;have hx:=ho x (by simp);refine⟨(q,Qv a s.2 x),⟨⟨(Ur q hq).1,(Ur q hq).2⟩,?_⟩,⟨w,by simpa using hw,λy hy=>ho y (by simp[hy]),h3,h2⟩,λk hk hd=>?_⟩
  ·rcases hs.2 with h|h
   ·rw[h];exact .inl (V2 a x)
   exact hst _ h x hx
  obtain⟨v,hv,z6,v1,v2⟩:=hd;exact z1 (k+1) (by omega) ⟨x::v,by simp[hv],λy hy=>(yB.1 hy).elim (λe=>by rw[e];exact hx) (z6 y),⟨q,hq,v1⟩,v2⟩
theorem w26:∀(k d:Nat) (s:Int×List Int),gB b Q s->mB a b s (d+k)->∃s',gB b Q s'/\mB a b s' d
 |0,_,s,hs,h=>⟨s,hs,h⟩
 |k+1,d,s,hs,h=>by obtain⟨s',h1,h2⟩:=z2u hst hs (d:=d+k) h;exact w26 k d s' h1 h2
theorem k1f{s:Int×List Int}(hs:gB b Q s){d:Nat}(h:mB a b s d):d+1<=b.fin.length * (Q.length+1):=by
 have hex:∀k,∃t:Int×List Int,k<=d->gB b Q t/\mB a b t k:=λk=>by
  by_cases hk:k<=d
  ·obtain⟨t,h1,h2⟩:=w26 hst (d - k) k s hs (by rw[show k+(d - k)=d by omega];exact h);exact⟨t,λ_=>⟨h1,h2⟩⟩
  exact⟨s,λh=>absurd h hk⟩
 obtain⟨f,hf⟩:=Classical.axiomOfChoice hex;have hU:∀t,gB b Q t->t∈(W9 b.fin.length).flatMap λi=>([]::Q).map λj=>(i,j):=λt ht=>
  xQ.2 ⟨t.1,Wy.2 ht.1,zO.2 ⟨t.2,yB.2 ht.2,rfl⟩⟩
 have hlen:((W9 b.fin.length).flatMap λi=>([]::Q).map λj=>(i,j)).length=b.fin.length * (Q.length+1):=by rw[vZ,xD (g:=λ_=>Q.length+1) (λi _=>by simp),uo,uj];simp[W9]
 have hn:((yQ (d+1)).map f).Nodup:=by unfold sB;rw[xK];refine(List.nodup_range (n:=d+1)).imp_of_mem λ{i j} hi hj hij e=>?_;have h1:=(hf i (by have:=yU.1 hi;omega)).2;have h2:=(hf j (by have:=yU.1 hj;omega)).2;rw[e]at h1;exact hij (x2n h1 h2)
 have:=hn.length_le_of_subset (l₂:=(W9 b.fin.length).flatMap λi=>([]::Q).map λj=>(i,j)) λt ht=>by obtain⟨i,hi,rfl⟩:=zO.1 ht;exact hU _ (hf i (by have:=yU.1 hi;omega)).1
 rw[yE,List.length_range,hlen]at this;exact this
end
def q1n{v w:List Sy}(h:lle v w):v.length<=w.length:=by
 rcases h with rfl|h|h
 ·exact zS _
 ·omega
 omega
def x15(x y:Bool):Bool:=y && !x
end
def Ze:List Iv->List Iv->Option Int
 |x::l,y::m=>if max x.lo y.lo<=min x.hi y.hi then some (max x.lo y.lo)else if x.hi<y.hi then Ze l (y::m)else Ze (x::l) m
 |_,_=>none
termination_by l m=>l.length+m.length
def v0f(m:List Iv):Ze [] m=none:=by simp[Ze]
def q0c(x:Iv)(l:List Iv):Ze (x::l) []=none:=by simp[Ze]
def y15(x y:Iv)(l m:List Iv):Ze (x::l) (y::m)=if max x.lo y.lo<=min x.hi y.hi then some (max x.lo y.lo)else if x.hi<y.hi then Ze l (y::m)else Ze (x::l) m:=by rw[Ze]
def y17{x:Iv}{l:List Iv}(h:Sep (x::l)):∀n,M l n->x.hi<n:=by rintro n ⟨y,hy,h1,h2⟩;have:=(yJ.1 h.2).1 y hy;omega
def Et{x:Iv}{l:List Iv}{n:Int}:M (x::l) n↔(x.lo<=n/\n<=x.hi)\/M l n:=by
 constructor
 ·rintro⟨y,hy,h⟩;rcases yB.1 hy with rfl|hy
  ·exact .inl h
  exact .inr ⟨y,hy,h⟩
 rintro(h|⟨y,hy,h⟩)
 ·exact⟨x,by simp,h⟩
 exact⟨y,by simp[hy],h⟩
def M7{n:Int}:¬M [] n:=by rintro⟨y,hy,_⟩;cases hy
def B0{x:Iv}{l:List Iv}(h:Sep (x::l)):Sep l:=⟨λy hy=>h.1 y (by simp[hy]),(yJ.1 h.2).2⟩
def Kj(l m:List Iv)(hl:Sep l)(hm:Sep m):match Ze l m with|some n=>M l n/\M m n/\∀k,M l k->M m k->n<=k|none=>∀k,M l k->¬M m k:=by
 match l,m with
 |[],m=>rw[v0f];exact λk h=>absurd h M7
 |x::l,[]=>rw[q0c];exact λk _ h=>absurd h M7
 |x::l,y::m=>
  have hx:=hl.1 x (by simp);have hy:=hm.1 y (by simp);have sx:=y17 hl;have sy:=y17 hm;rw[Ze];by_cases h1:max x.lo y.lo<=min x.hi y.hi
  ·rw[if_pos h1];refine⟨Et.2 (.inl (by omega)),Et.2 (.inl (by omega)),λk k1 k2=>?_⟩;have:x.lo<=k:=by
    rcases Et.1 k1 with h|h
    ·exact h.1
    have:=sx k h;omega
   have:y.lo<=k:=by
    rcases Et.1 k2 with h|h
    ·exact h.1
    have:=sy k h;omega
   omega
  rw[if_neg h1];by_cases h2:x.hi<y.hi
  ·rw[if_pos h2];have ih:=Kj l (y::m) (B0 hl) hm;have z1:∀k,(x.lo<=k/\k<=x.hi)->¬M (y::m) k:=λk h hk=>by
    rcases Et.1 hk with h'|h'
    ·omega
    have:=sy k h';omega
   cases hc:Ze l (y::m)with
   |some n=>
    rw[hc]at ih;obtain⟨i1,i2,i3⟩:=ih;refine⟨Et.2 (.inr i1),i2,λk k1 k2=>?_⟩;rcases Et.1 k1 with h|h
    ·exact absurd k2 (z1 k h)
    exact i3 k h k2
   |none=>
    rw[hc]at ih;intro k k1 k2;rcases Et.1 k1 with h|h
    ·exact z1 k h k2
    exact ih k h k2
  rw[if_neg h2];have ih:=Kj (x::l) m hl (B0 hm);have z1:∀k,(y.lo<=k/\k<=y.hi)->¬M (x::l) k:=λk h hk=>by
   rcases Et.1 hk with h'|h'
   ·omega
   have:=sx k h';omega
  cases hc:Ze (x::l) m with
  |some n=>
   rw[hc]at ih;obtain⟨i1,i2,i3⟩:=ih;refine⟨i1,Et.2 (.inr i2),λk k1 k2=>?_⟩;rcases Et.1 k2 with h|h
   ·exact absurd k1 (z1 k h)
   exact i3 k k1 h
  |none=>
   rw[hc]at ih;intro k k1 k2;rcases Et.1 k2 with h|h
   ·exact z1 k h k1
   exact ih k k1 h
termination_by l.length+m.length
def lqB(p q:Prd):Nat->Nat->Option Sy
 |0,_=>none
 |f+1,t=>match Ze (p.getD t []) (q.getD t [])with
  |some n=>some ⟨t,n⟩
  |none=>lqB p q f (t+1)
def Re(p q:Prd):Option Sy:=if Ws (Wp p q)then none else some (Qh (Wp p q))
def x0j{T:Nat}{p:Prd}(h:PWf T p)(t:Nat):Sep (p.getD t []):=by
 by_cases ht:t<p.length
 ·rw[Ef ht];exact(h.2 _ (zL ht)).1
 rw[show p.getD t []=[] by simp[yL,y_ (by omega:p.length<=t)]];exact⟨by simp,by simp⟩
def Uz{p:Prd}{t:Nat}{n:Int}:PM p t n↔M (p.getD t []) n:=by
 constructor
 ·rintro⟨s,hs,h⟩;simpa[yL,hs]using h
 intro h;by_cases ht:t<p.length
 ·rw[Ef ht]at h;exact⟨_,zI ht,h⟩
 rw[show p.getD t []=[] by simp[yL,y_ (by omega:p.length<=t)]]at h;exact absurd h M7
def q3p{T:Nat}{p q:Prd}(hp:PWf T p)(hq:PWf T q):lqB p q T 0=Re p q:=by
 have hw:=Ta hp hq.1;have key:∀(f t:Nat),t+f=T->(∀t' n,t'<t->¬PM (Wp p q) t' n)->lqB p q f t=Re p q:=by
  intro f;induction f with
  |zero=>intro t ht z1;have:Ws (Wp p q)=true:=(Rv hw).2 λt' n hm=>z1 t' n (by have:=(hw.lt hm).1;omega) hm;rw[lqB,Re,if_pos this]
  |succ f ih=>
   intro t ht z1;have hs:=Kj _ _ (x0j hp t) (x0j hq t);rw[lqB];cases hc:Ze (p.getD t []) (q.getD t [])with
   |some n=>
    rw[hc]at hs;obtain⟨h1,h2,h3⟩:=hs;have hm:PM (Wp p q) t n:=(Er hp.1 hq.1 t n).2 ⟨Uz.2 h1,Uz.2 h2⟩;have hv:Ws (Wp p q)=false:=(Ub hw).2 ⟨t,n,hm⟩;rw[Re,if_neg (by rw[hv];simp)];obtain⟨g1,g2,g3⟩:=Y9 hw ⟨t,n,hm⟩;have z6:=hw.lt hm;show some (⟨(t:Int),n⟩:Sy)=some (Qh (Wp p q))
    congr 1
    rcases g3 ⟨t,n⟩ ⟨by simp,by simpa using z6.1,z6.2⟩ (by simpa using hm)with e|e
    ·exact e.symm
    exfalso;unfold sLt at e;simp only at e;have z8:=g1.1;by_cases hle:(Qh (Wp p q)).ty.toNat<t
    ·exact z1 _ _ hle g2
    have z7:(Qh (Wp p q)).ty=t:=by omega
    rw[z7]at g2;have:=(Er hp.1 hq.1 t (Qh (Wp p q)).num).1 (by simpa using g2);have:=h3 _ (Uz.1 this.1) (Uz.1 this.2);omega
   |none=>
    rw[hc]at hs;refine ih (t+1) (by omega) λt' n za hm=>?_;by_cases e:t'=t
    ·subst e;have:=(Er hp.1 hq.1 t' n).1 hm;exact hs n (Uz.1 this.1) (Uz.1 this.2)
    exact z1 t' n (by omega) hm
 exact key T 0 (by omega) (λt' n h=>by omega)
def w1i{T:Nat}{p:Prd}(hp:PWf T p):Wp p p=p:=Pu (Ta hp hp.1) hp λt n=>by rw[Er hp.1 hp.1];simp
def y01{T:Nat}{p:Prd}(hp:PWf T p):Re p p=if Ws p then none else some (Qh p):=by rw[Re,w1i hp]
def d1o(a b:Aut)(s:Int×Int):Ee a b s=(Wz a s.1).flatMap λm=>(Wz b s.2).filterMap λn=>(Re m.on n.on).map λx=>(x,(m.dst,n.dst)):=by
 unfold Ee Re
 congr 1
 funext m
 congr 1
 funext n;split<;>simp
def Dq(a:Aut):Int:=if Wu a≠0 then Wu a else if y0n a=false\/z07 a=false then 3 else 0
def I1(a:Aut):Dq a=0↔Dfa a:=by
 unfold Dq;by_cases h:Wu a=0
 ·have z1:=(I8 a).1 h;rw[if_neg (λk=>k h)];have h1:=z0w z1.wfA;have h2:z07 a=true↔Ha a:=by rw[<-u0r z1.wfA,N4];unfold z07;rw[zX];simp only[yU];exact forall_congr' λs=>forall_congr' λ_=>by rw[k2n z1.wfA]
  constructor
  ·intro k;split at k
   ·cases k
   rename_i hn;refine⟨z1,h1.1 ?_,h2.1 ?_⟩
   ·cases hs:y0n a
    ·exact absurd (.inl hs) hn
    rfl
   cases hs:z07 a
   ·exact absurd (.inr hs) hn
   rfl
  intro k;rw[if_neg];rintro(hs|hs)
  ·rw[h1.2 k.det]at hs;cases hs
  rw[h2.2 k.full]at hs;cases hs
 rw[if_pos h];exact⟨λk=>absurd k h,λk=>absurd ((I8 a).2 k.ok) h⟩
section
open Go Go.Proofs
attribute [simp] T68 T70 T87 T73 T23 T22 T25 T52 T26 T88
@[simp] def encP (p:Prd):AV:= .agg [.list (p.map encL)]
abbrev LP (l:List Prd):AV:= .list (l.map encP)
@[simp] def encSy (x:Sy):AV:= .agg [.i x.ty,.i x.num]
@[simp] def encMv (m:Mv):AV:= .agg [.i m.src,.i m.dst,.list (m.on.map encL)]
@[simp] def encA (a:Aut):AV:= .agg [.i a.types,.list (a.fin.map .bool),.list (a.mv.map encMv)]
attribute [local irreducible] ckR
def De(T:Int)(p:Prd):PC prog 58 [.i T,encP p] (λr=>r= .i (E9 T p)):=by
 refine pcB func58 results58 ntmps58 ?_;simp only[Qd];simp only[encP];refine Wv 1 0 rfl rfl (λhlen=>?_);rw[yE]at hlen;repeat(refine s_ ?_;simp)
 refine Qa rfl (λh=>?_) (λh=>?_)
 ·repeat(refine s_ ?_;simp)
  rw[E9,if_pos (by simpa using h)]
 have h':¬(T<1\/16<T):=by simpa using h
 repeat(refine s_ ?_;simp)
 refine Qa rfl (λh2=>?_) (λh2=>?_)
 ·repeat(refine s_ ?_;simp)
  rw[E9,if_neg h',if_pos (by simpa using h2)]
 have z7:(p.length:Int)=T:=by simpa using h2
 have hE:E9 T p=u06 p:=by rw[E9,if_neg h',if_neg (by simpa using z7)]
 rw[hE];repeat(refine s_ ?_;simp)
 refine Qr p.length (λj=>u06 p=u06 (p.drop j)) (λj=>[(22,.list (p.map encL)),(23,.i p.length),(24,.i j)]) (λ_=>[]) rfl (by simp) (by simp) (by simp) (by simp) (by simp) ?_;intro j hj hI ih;repeat(refine s_ ?_;simp)
 refine Qa rfl (λz8=>?_) (λza=>?_)
 ·have z1:j<p.length:=by simpa using z8
  have hw:=wz j (by omega);rw[Eh z1,u06]at hI;repeat(refine s_ ?_;simp[z1])
  refine pcL (Jb p[j]) ?_;simp;repeat(refine s_ ?_;simp)
  refine Qa rfl (λh3=>?_) (λh3=>?_)
  ·repeat(refine s_ ?_;simp)
   rw[hI,if_pos (by simpa using h3)]
  rw[if_neg (by simpa using h3)]at hI;repeat(refine s_ ?_;simp[hw])
  refine Qt _ (ih z1 hI) rfl (by simp) ?_ (by simp) (by simp);simp
 have z6:j=p.length:=by simp at za;omega
 subst z6;repeat(refine s_ ?_;simp)
 rw[hI,xX];rfl
def k0x(T:Int)(p:Prd):PC prog 158 [.i T,encP p] (λr=>r= .i (E9 T p)):=by
 refine pcB func158 results158 ntmps158 ?_;simp only[Qd];simp only[encP];refine Wv 1 0 rfl rfl (λhlen=>?_);rw[yE]at hlen;repeat(refine s_ ?_;simp)
 refine Qa rfl (λh=>?_) (λh=>?_)
 ·repeat(refine s_ ?_;simp)
  rw[E9,if_pos (by simpa using h)]
 have h':¬(T<1\/16<T):=by simpa using h
 repeat(refine s_ ?_;simp)
 refine Qa rfl (λh2=>?_) (λh2=>?_)
 ·repeat(refine s_ ?_;simp)
  rw[E9,if_neg h',if_pos (by simpa using h2)]
 have z7:(p.length:Int)=T:=by simpa using h2
 have hE:E9 T p=u06 p:=by rw[E9,if_neg h',if_neg (by simpa using z7)]
 rw[hE];repeat(refine s_ ?_;simp)
 refine Qr p.length (λj=>u06 p=u06 (p.drop j)) (λj=>[(0,.i T),(3,.vptr 0 0),(5,.i j)]) (λ_=>[.vars [.list (p.map encL)]]) rfl (by simp) (by simp) (by simp) (by simp) (by simp) ?_;intro j hj hI ih;repeat(refine s_ ?_;simp)
 refine Qa rfl (λz8=>?_) (λza=>?_)
 ·have z1:j<p.length:=by have k:(j:Int)<T:=(by simpa using z8);omega
  have hw:=wz j (by omega);rw[Eh z1,u06]at hI;repeat(refine s_ ?_;simp[z1])
  refine pcL (v1e p[j]) ?_;simp;repeat(refine s_ ?_;simp)
  refine Qa rfl (λh3=>?_) (λh3=>?_)
  ·repeat(refine s_ ?_;simp)
   rw[hI,if_pos (by simpa using h3)]
  rw[if_neg (by simpa using h3)]at hI;repeat(refine s_ ?_;simp[hw])
  refine Qt _ (ih z1 hI) rfl (by simp) ?_ (by simp) (by simp);simp
 have z6:j=p.length:=by have k:¬(j:Int)<T:=(by simpa using za);omega
 subst z6;repeat(refine s_ ?_;simp)
 rw[hI,xX];rfl
end
section
open Go Go.Proofs
def A0:List Prd->Int
 |[]=>0
 |p::r=>if E9 p.length p≠0 then E9 p.length p else A0 r
attribute [local irreducible] E9
def Ag(l:List Prd):PC prog 102 [LP l] (λr=>r= .i (A0 l)):=by
 refine pcB func102 results102 ntmps102 ?_;simp only[Qd];refine Y5 0 rfl (λhlen=>?_);rw[yE]at hlen;repeat(refine s_ ?_;simp)
 refine Qr l.length (λj=>A0 l=A0 (l.drop j)) (λj=>[(6,LP l),(7,.i l.length),(8,.i j)]) (λ_=>[]) rfl (by simp) (by simp) (by simp) (by simp) (by simp) ?_;intro j hj hI ih;repeat(refine s_ ?_;simp)
 refine Qa rfl (λz7=>?_) (λz8=>?_)
 ·have z1:j<l.length:=by simpa using z7
  have hw:=wz j (by omega);rw[Eh z1,A0]at hI;repeat(refine s_ ?_;simp[z1])
  refine pcL (De l[j].length l[j]) ?_;simp;repeat(refine s_ ?_;simp)
  refine Qa rfl (λh3=>?_) (λh3=>?_)
  ·repeat(refine s_ ?_;simp)
   rw[hI,if_pos (by simpa using h3)]
  rw[if_neg (by simpa using h3)]at hI;repeat(refine s_ ?_;simp[hw])
  refine Qt _ (ih z1 hI) rfl (by simp) ?_ (by simp) (by simp);simp
 have z6:j=l.length:=by simp at z8;omega
 subst z6;repeat(refine s_ ?_;simp)
 rw[hI,xX];rfl
def y13(p:Prd)(x:Sy):Int:=if A0 [p]≠0 then A0 [p]else Zg p.length x
def Nj(p:Prd)(x:Sy):Bool×Int:=if y13 p x≠0 then(false,y13 p x)else(Ry p x,0)
attribute [local irreducible] A0 c13
def z2e{T:Int}{p:Prd}(h:E9 T p=0):A0 [p]=0/\(p.length:Int)=T:=by
 obtain⟨h1,h2⟩:=(Eg T p).1 h;have hl:(p.length:Int)=T:=by have:=h2.1;omega
 exact⟨by unfold A0;rw[hl,if_neg (λk=>k h)];unfold A0;rfl,hl⟩
def c0i{p:Prd}(h:A0 [p]=0):∀s∈p,CanonL s:=by
 unfold A0 at h;by_cases hc:E9 p.length p=0
 ·exact((Eg _ p).1 hc).2.2
 rw[if_pos hc]at h;exact absurd h hc
def Yi(p:Prd)(x:Sy):PC prog 43 [encP p,encSy x] (λr=>r= .tup [.bool (Nj p x).1,.i (Nj p x).2]):=by
 refine pcB func43 results43 ntmps43 ?_;simp only[Qd];simp only[encP,encSy];refine Wv 0 0 rfl rfl (λhlen=>?_);rw[yE]at hlen;repeat(refine s_ ?_;simp)
 refine Ek 2 rfl ?_;simp;refine pcL (Ag [p]) ?_;simp;repeat(refine s_ ?_;simp)
 refine Qa rfl (λh=>?_) (λh=>?_)
 ·repeat(refine s_ ?_;simp)
  have h':A0 [p]≠0:=by simpa using h
  have hE:y13 p x=A0 [p]:=by rw[y13,if_pos h']
  rw[Nj,hE,if_pos h'];exact⟨rfl,rfl⟩
 have h':A0 [p]=0:=by simpa using h
 have hE:y13 p x=Zg p.length x:=by rw[y13,if_neg (λk=>k h')]
 repeat(refine s_ ?_;simp)
 refine Qa rfl (λh1=>?_) (λh1=>?_)
 ·repeat(refine s_ ?_;simp)
  have z6:x.ty<0\/(p.length:Int)<=x.ty:=by simpa using h1
  have z1:y13 p x=6:=by rw[hE,Zg,if_pos z6]
  rw[Nj,z1];exact⟨rfl,rfl⟩
 have z6:¬(x.ty<0\/(p.length:Int)<=x.ty):=by simpa using h1
 repeat(refine s_ ?_;simp)
 refine Qa rfl (λh2=>?_) (λh2=>?_)
 ·repeat(refine s_ ?_;simp)
  have z7:x.num< -1099511627776\/1099511627776<x.num:=by simpa using h2
  have z1:y13 p x=2:=by rw[hE,Zg,if_neg z6,if_pos z7]
  rw[Nj,z1];exact⟨rfl,rfl⟩
 have z7:¬(x.num< -1099511627776\/1099511627776<x.num):=by simpa using h2
 have z1:y13 p x=0:=by rw[hE,Zg,if_neg z6,if_neg z7]
 repeat(refine s_ ?_;simp)
 have zb:0<=x.ty:=by omega
 have zc:x.ty<(p.length:Int):=by omega
 have z8:x.ty.toNat<p.length:=by omega
 refine drT [] (.pv 0 8 (.one 8 (.pv 9 4 (.done)))) ?_;simp[zb,zc,z8];refine pcL (Lu p[x.ty.toNat] x.num) ?_;simp;repeat(refine s_ ?_;simp)
 have hc:=c0i h' _ (zL z8);have za:c13 p[x.ty.toNat] x.num=(Ul p[x.ty.toNat] x.num,0):=by rw[c13,if_pos ((Gr _).2 hc)]
 rw[Nj,z1,if_neg (λk=>k rfl),za];refine⟨?_,rfl⟩;simp[Ry,zb,zc,yL,z8]
def z04{T:Int}{p:Prd}(h:E9 T p=0)(x:Sy):Nj p x=if Zg T x≠0 then(false,Zg T x)else(Ry p x,0):=by
 obtain⟨h1,h2⟩:=z2e h;have hE:y13 p x=Zg T x:=by rw[y13,if_neg (λk=>k h1),h2]
 rw[Nj,hE]
end
section
open Go Go.Proofs
abbrev Qj (a:Aut):List AV:=[.i a.types,.list (a.fin.map .bool),.list (a.mv.map encMv)]
def v2h(p:Prd)(x:Sy):PC prog 170 [encP p,encSy x] (λr=>r= .bool ((Nj p x).2==0 && (Nj p x).1)):=by
 refine pcB func170 results170 ntmps170 ?_;simp only[Qd];simp only[encP,encSy];repeat(refine s_ ?_;simp)
 refine pcL (Yi p x) ?_;simp;repeat(refine s_ ?_;simp)
def q0x(p:Prd)(x:Sy):PC prog 45 [encP p,encSy x] (λr=>r= .bool ((Nj p x).1 && (Nj p x).2==0)):=by
 refine pcB func45 results45 ntmps45 ?_;simp only[Qd];simp only[encP,encSy];repeat(refine s_ ?_;simp)
 refine pcL (Yi p x) ?_;simp;repeat(refine s_ ?_;simp)
def stB(a:Aut)(n:Int):Bool:=decide (0<=n) && decide (n<a.fin.length)
def Vb(a:Aut)(n:Int):stB a n=true↔0<=n/\n<a.fin.length:=by simp[stB]
def Nb(H:List AObj)(id:Nat)(a:Aut)(hid:H[id]?=some (.vars (Qj a)))(n:Int):FC prog 98 [.i n,.vptr id 0] H (λr H'=>r= .bool (stB a n)/\H'=H):=by refine fcB func98 results98 ntmps98 ?_;simp only[Qd];repeat(refine s_ ?_;simp[hid,stB])
attribute [local irreducible] E9 stB
def Tm(a:Aut):PC prog 41 [encA a] (λr=>r= .i (Wu a)):=by
 refine pcB func41 results41 ntmps41 ?_;simp only[Qd];simp only[encA];refine Wv 0 1 rfl rfl (λz7=>?_);refine Wv 0 2 rfl rfl (λz8=>?_);rw[yE]at z7 z8;repeat(refine s_ ?_;simp)
 refine Qa rfl (λh=>?_) (λh=>?_)
 ·repeat(refine s_ ?_;simp)
  rw[Wu,if_pos (by simpa using h)]
 have h1:¬(a.types<1\/16<a.types):=by simpa using h
 repeat(refine s_ ?_;simp)
 refine Qa rfl (λh=>?_) (λh=>?_)
 ·repeat(refine s_ ?_;simp)
  rw[Wu,if_neg h1,if_pos];simp at h;omega
 have h2:¬(a.fin.length<1\/256<a.fin.length\/2048<a.mv.length):=by simp at h;omega
 have hE:Wu a=k0r a.types a.fin.length a.mv:=by rw[Wu,if_neg h1,if_neg h2]
 rw[hE];repeat(refine s_ ?_;simp)
 refine Qr a.mv.length (λj=>k0r a.types a.fin.length a.mv=k0r a.types a.fin.length (a.mv.drop j)) (λj=>[(1,.vptr 0 0),(3,.fn (.func 98) [] [.vptr 0 0]),(33,.list (a.mv.map encMv)),(34,.i a.mv.length),(35,.i j)]) (λ_=>[.vars (Qj a)]) rfl (by simp) (by simp) (by simp) (by simp) (by simp) ?_;intro j hj hI ih;repeat(refine s_ ?_;simp)
 refine Qa rfl (λza=>?_) (λzb=>?_)
 ·have z1:j<a.mv.length:=by simpa using za
  have hw:=wz j (by omega);rw[Eh z1,k0r]at hI;repeat(refine s_ ?_;simp[z1])
  cases hb:stB a a.mv[j].src with
  |false=>
   refine Qm rfl rfl (Nb _ 0 a rfl a.mv[j].src) rfl ?_;rintro r H' ⟨rfl,rfl⟩;simp[hb];repeat(refine s_ ?_;simp)
   refine Wq rfl rfl ?_;simp;refine Qk rfl ?_;repeat(refine s_ ?_;simp)
   rw[hI,if_pos (λk=>by rw[(Vb _ _).2 k.1]at hb;cases hb)]
  |true=>
   refine Qm rfl rfl (Nb _ 0 a rfl a.mv[j].src) rfl ?_;rintro r H' ⟨rfl,rfl⟩;simp[hb];repeat(refine s_ ?_;simp)
   refine Qm rfl rfl (Nb _ 0 a rfl a.mv[j].dst) rfl ?_;rintro r H' ⟨rfl,rfl⟩;simp;repeat(refine s_ ?_;simp)
   refine Qa rfl (λh3=>?_) (λh3=>?_)
   ·repeat(refine s_ ?_;simp)
    rw[hI,if_pos (λk=>by rw[(Vb _ _).2 k.2]at h3;cases h3)]
   have hd:stB a a.mv[j].dst=true:=by simpa using h3
   rw[if_neg (λk=>k ⟨(Vb _ _).1 hb,(Vb _ _).1 hd⟩)]at hI;repeat(refine s_ ?_;simp)
   refine pcL (De a.types a.mv[j].on) ?_;simp;repeat(refine s_ ?_;simp)
   refine Qa rfl (λh4=>?_) (λh4=>?_)
   ·repeat(refine s_ ?_;simp)
    rw[hI,if_pos (by simpa using h4)]
   rw[if_neg (by simpa using h4)]at hI;repeat(refine s_ ?_;simp[hw])
   refine Qt _ (ih z1 hI) rfl (by simp) ?_ (by simp) (by simp);simp
 have z6:j=a.mv.length:=by simp at zb;omega
 subst z6;repeat(refine s_ ?_;simp)
 rw[hI,xX];rfl
def Zo(a:Aut):PC prog 90 [encA a] (λr=>r= .i (Wu a)):=by
 refine pcB func90 results90 ntmps90 ?_;simp only[Qd];simp only[encA];refine Wv 0 1 rfl rfl (λz7=>?_);refine Wv 0 2 rfl rfl (λz8=>?_);rw[yE]at z7 z8;repeat(refine s_ ?_;simp)
 refine Qa rfl (λh=>?_) (λh=>?_)
 ·repeat(refine s_ ?_;simp)
  rw[Wu,if_pos (by simpa using h)]
 have h1:¬(a.types<1\/16<a.types):=by simpa using h
 repeat(refine s_ ?_;simp)
 refine Qa rfl (λh=>?_) (λh=>?_)
 ·repeat(refine s_ ?_;simp)
  rw[Wu,if_neg h1,if_pos];simp at h;omega
 have h2:¬(a.fin.length<1\/256<a.fin.length\/2048<a.mv.length):=by simp at h;omega
 have hE:Wu a=k0r a.types a.fin.length a.mv:=by rw[Wu,if_neg h1,if_neg h2]
 rw[hE];repeat(refine s_ ?_;simp)
 refine Qr a.mv.length (λj=>k0r a.types a.fin.length a.mv=k0r a.types a.fin.length (a.mv.drop j)) (λj=>[(1,.vptr 0 0),(3,.i a.fin.length),(4,.i j)]) (λ_=>[.vars (Qj a)]) rfl (by simp) (by simp) (by simp) (by simp) (by simp) ?_;intro j hj hI ih;repeat(refine s_ ?_;simp)
 refine Qa rfl (λza=>?_) (λzb=>?_)
 ·have z1:j<a.mv.length:=by simpa using za
  have hw:=wz j (by omega);rw[Eh z1,k0r]at hI;repeat(refine s_ ?_;simp[z1])
  refine Qa rfl (λh3=>?_) (λh3=>?_)
  ·repeat(refine s_ ?_;simp)
   rw[hI,if_pos];simp at h3;omega
  rw[if_neg (by simp at h3 |-;omega)]at hI;repeat(refine s_ ?_;simp)
  refine pcL (k0x a.types a.mv[j].on) ?_;simp;repeat(refine s_ ?_;simp)
  refine Qa rfl (λh4=>?_) (λh4=>?_)
  ·repeat(refine s_ ?_;simp)
   rw[hI,if_pos (by simpa using h4)]
  rw[if_neg (by simpa using h4)]at hI;repeat(refine s_ ?_;simp[hw])
  refine Qt _ (ih z1 hI) rfl (by simp) ?_ (by simp) (by simp);simp
 have z6:j=a.mv.length:=by simp at zb;omega
 subst z6;repeat(refine s_ ?_;simp)
 rw[hI,xX];rfl
end
section
open Go Go.Proofs
attribute [local irreducible] ckR Ul
attribute [local irreducible] w0h Rg
def Bv(x:Iv)(r:List Iv)(n:Int):Te (x::r) n=(if n<x.lo then [⟨n,x.lo - 1⟩]else [])++Te r (x.hi+1):=rfl
def Ns(n:Int):Te [] n=if n<=1099511627776 then [⟨n,1099511627776⟩]else []:=rfl
def q2x(l:List Iv):Te l (-1099511627776)=Rk l:=rfl
attribute [local irreducible] Rk Te
end
section
open Go Go.Proofs
structure GL (K G:List AObj) (S p:Nat) (pre post:List AV) (e sz:Nat) (xs:List AV):Prop where
 cell:G[S]?=some (.vars (pre++ .sl p sz 0 xs.length::post))
 arr:G[p]?=some (.arr e sz xs)
 ge:K.length<=p
 lt:S<K.length
 len:K.length<=G.length
 keep:∀j,j<K.length->j≠S->G[j]? =K[j]?
def GL.kp{K G:List AObj}{S p:Nat}{pre post:List AV}{e sz:Nat}{xs:List AV}(h:GL K G S p pre post e sz xs){j:Nat}{x:AObj}(hj:j≠S)(hx:K[j]?=some x):G[j]?=some x:=by rw[h.keep j (zB.1 hx).1 hj];exact hx
def GL.start{K:List AObj}{S:Nat}(pre post:List AV)(e sz:Nat)(h:S<K.length):GL K ((K++[AObj.arr e sz []]).set S (.vars (pre++ .sl K.length sz 0 0::post))) S K.length pre post e sz []:=
 ⟨zK (by simp;omega),by rw[zE (by omega)];simp,zS _,h,by simp,λj hj z1=>by
  rw[zE (λe=>z1 e.symm),zH hj]⟩
def GL.put{K G:List AObj}{S p:Nat}{pre post:List AV}{e sz:Nat}{xs:List AV}(h:GL K G S p pre post e sz xs)(A:AObj)(y:AV){n:Nat}(hn:n=xs.length):
  GL K ((G.set p .dead++[A,AObj.arr e sz (xs++[y])]).set S (.vars (pre++ .sl (G.length+1) sz 0 (n+1)::post))) S (G.length+1) pre post e sz (xs++[y]):=by
 have hl:=h.len;have z6:=h.lt;have z7:=h.ge;subst hn;refine⟨by rw[zK (by simp;omega)];simp,by rw[zE (by omega),zF (by simp)];simp,by omega,z6,by simp;omega,λj hj z1=>?_⟩;rw[zE (λe=>z1 e.symm),zH (by simp;omega),zE (by omega)];exact h.keep j hj z1
def GL.at{K G:List AObj}{S p:Nat}{pre post:List AV}{e sz:Nat}{xs:List AV}(h:GL K G S p pre post e sz xs)(L:List AObj):(G.set p .dead++L)[S]?=some (.vars (pre++ .sl p sz 0 xs.length::post)):=by have hl:=h.len;have z1:=h.lt;have z6:=h.ge;rw[zH (by simp;omega),zE (by omega)];exact h.cell
def upL(F:Nat->List Iv)(j:Nat):List AV:=(yQ j).map λi=>encL (F i)
def Bg(F:Nat->List Iv)(j:Nat):upL F (j+1)=upL F j++[encL (F j)]:=by simp[upL,wQ]
def Tw(F:Nat->List Iv)(j:Nat):(upL F j).length=j:=by simp[upL]
def y0q(F:Nat->List Iv)(n:Nat):upL F n=((yQ n).map F).map encL:=by simp[upL]
def k05{α β:Type}(d:α)(f:α->β)(p:List α):(yQ p.length).map (λi=>f (p.getD i d))=p.map f:=by
 refine xT (by simp) λi h1 h2=>?_;have h:i<p.length:=by simpa using h1
 simp[yL,h]
def Bk(F:Nat->List Iv):upL F 0=[]:=rfl
attribute [local irreducible] upL
end
section
open Go Go.Proofs
def q3y{T:Nat}{p:Prd}(h:PWf T p){s:List Iv}(hs:s∈p):∀x∈s,Fc x:=q04 (h.2 s hs).1 (h.2 s hs).2
attribute [local irreducible] Iw Rg
def Ll:∀(p:Prd) (i:Nat),(∃s∈p,s≠[])->∃t x r,p[t]?=some (x::r)/\Qu p i=(i+t,x.lo)/\∀j,j<t->p[j]?=some []
 |[],i,h=>by obtain⟨s,hs,_⟩:=h;cases hs
 |[]::p,i,h=>by
  obtain⟨t,x,r,h1,h2,h3⟩:=Ll p (i+1) (by obtain⟨s,hs,hn⟩:=h;rcases yB.1 hs with rfl|hs;exact absurd rfl hn;exact⟨s,hs,hn⟩);refine⟨t+1,x,r,by simpa using h1,by rw[Qu,h2];congr 1;omega,λj hj=>?_⟩;cases j with
  |zero=>rfl
  |succ j=>simpa using h3 j (by omega)
 |(x::r)::p,i,_=>⟨0,x,r,rfl,by simp[Qu],λj hj=>by omega⟩
end
section
open Go Go.Proofs
attribute [local irreducible] Iw Rg upL Rk
end
section
open Go Go.Proofs
attribute [local irreducible] Ul
def f00(a:Aut)(i k:Nat):Bool:=decide ((a.mv.getD i default).src=(a.mv.getD k default).src) && f07 (a.mv.getD i default).on (a.mv.getD k default).on
def w1l{a:Aut}{i k:Nat}(hi:i<a.mv.length)(hk:k<i)(h:f00 a i k=true):y0n a=false:=by unfold y0n;rw[uP];refine⟨i,yU.2 hi,?_⟩;rw[Bool.not_eq_true,uP];exact⟨k,yU.2 hk,by unfold f00 at h;rw[h];simp⟩
def c17{a:Aut}(h:∀i,i<a.mv.length->∀k,k<i->f00 a i k=false):y0n a=true:=by unfold y0n;rw[zX];intro i hi;rw[zX];intro k hk;have:=h i (yU.1 hi) k (yU.1 hk);unfold f00 at this;rw[this];rfl
def f1y{a:Aut}{i k:Nat}(hi:i<a.mv.length)(hk:k<a.mv.length):f00 a i k=(decide (a.mv[i].src=a.mv[k].src) && f07 a.mv[i].on a.mv[k].on):=by simp[f00,yL,hi,hk]
def Gv{a:Aut}(h:OkA a){m:Mv}(hm:m∈a.mv):∀s∈m.on,s.length<=256:=λs hs=>((h.mv m hm).on.2 s hs).len
attribute [local irreducible] f00 f07 Wp Ws
def q26(a:Aut):Bool×Int:=if Wu a=0 then(y0n a,0)else(false,Wu a)
end
end Go.Abs
