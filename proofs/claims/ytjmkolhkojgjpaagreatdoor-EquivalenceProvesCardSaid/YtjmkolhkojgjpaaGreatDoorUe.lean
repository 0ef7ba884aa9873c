/- Part Ue of the proof: steps on the way to the last part. No condition. -/
import Derived.Test.YtjmkolhkojgjpaaGreatDoorUd
import Derived.Test.YtjmkolhkojgjpaaGreatDoorUc
set_option linter.all false
open List renaming find?_eq_none->vM,mem_of_find?_eq_some->vC,find?_some->uL,mem_singleton->zP,find?_cons->tN,pairwise_map->xI,mem_append->zV,mem_map->zO,mem_append_left->yX,mem_append_right->vF,length_flatMap->vG,map_congr_left->xC,map_const'->vL,sum_replicate_nat->vR,mem_flatMap->xV,mem_filter->xJ,mem_filterMap->wI,mem_cons->zZ,Nodup->sj,pairwise_flatMap->vA,any_eq_true->wP,map_map->vX,nodup_append->vN,length_map->zY,nil_append->xZ,foldl_cons->xS,range->yR,range_succ->wM,foldl_append->wL,getElem?_eq_some_iff->zB,findIdx?_eq_none_iff->vQ,mem_of_getElem?->zJ,findIdx?_eq_some_iff_getElem->xM,getElem?_eq_getElem->zI,pairwise_iff_getElem->yJ,getElem?_append_right->zH,getElem_mem->zK,getElem?_append_left->zF,pairwise_append->yE,getD->yS,perm_middle->vJ,take_append_drop->xO,mem_iff_getElem?->yK,pairwise_cons->yP,perm_ext_iff_of_nodup->ua,getElem?_eq_none->xD,mem_range->yT,length_append->z_,length->vS,findIdx?_cons->tx,ext_getElem->ws,getElem_map->uQ,flatMap_def->uR,map_cons->xA,sum_cons->uG,length_cons->yV,getElem_of_mem->yY,pairwise_mergeSort->uj,mergeSort_perm->wS,eq_nil_iff_forall_not_mem->w_,all_eq_true->zW,drop_length->xH,append_nil->xB,take_of_length_le->zT,getElem?_set_self->zL,getElem?_set_ne->zE,cons_append->u7
open Int renaming le_refl->yZ,toNat_natCast->ub
open Bool renaming eq_iff_iff->xT,and_eq_true->zX,or_eq_true->wV
open Nat renaming lt_trichotomy->wT,strongRecOn->tX,le_refl->zQ
open Option renaming map_some->wG,getD_some->wC
open Prod renaming ext->uo,ext_iff->u_
set_option maxHeartbeats 2000000
set_option linter.unusedSimpArgs false
set_option maxRecDepth 100000
open Go.Proofs.Tryz
namespace Go.Abs
structure Dfa (a:Aut):Prop where
 ok:OkA a
 det:A2 a
 full:z0g a
def toL(a:Aut)(s:Int)(x:Sy):Int:=match a.mv.find? (λm=>decide (m.src=s) && Tj m.on x)with|some m=>m.dst|none=> -1
def inS(a:Aut)(s:Int):Prop:=0<=s/\s<a.fin.length
def Dfa.next{a:Aut}(h:Dfa a){s:Int}(hs:inS a s){x:Sy}(hx:Wk a x):inS a (toL a s x)/\Q1 a [s] x=[toL a s x]:=by
 obtain⟨t,t0,t1,e⟩:=v1m h.ok.wfA h.det h.full hs.1 hs.2 hx;obtain⟨m,hm,h1,h2⟩:=h.full s hs.1 hs.2 x hx;have hf:toL a s x=t:=by
  unfold toL;cases hq:a.mv.find? (λm=>decide (m.src=s) && Tj m.on x)with
  |none=>have:=vM.1 hq m hm;simp[h1,h2]at this
  |some k=>have hk:=vC hq;have hp:=uL hq;simp at hp;have z1:k.dst∈Q1 a [s] x:=Wu.2 ⟨h.ok.wfA.dst k hk,k,hk,by rw[hp.1];simp,hp.2,rfl⟩;rw[e]at z1;exact zP.1 z1
 rw[hf];exact⟨⟨t0,t1⟩,e⟩
def Dfa.to_of{a:Aut}(h:Dfa a){m:Mv}(hm:m∈a.mv){x:Sy}(hx:Wk a x)(hh:Tj m.on x=true):toL a m.src x=m.dst:=by have hs:inS a m.src:=h.ok.wfA.src m hm;have h1:=(h.next hs hx).2;have z1:m.dst∈Q1 a [m.src] x:=Wu.2 ⟨h.ok.wfA.dst m hm,m,hm,by simp,hh,rfl⟩;rw[h1]at z1;exact(zP.1 z1).symm
def Dfa.move{a:Aut}(h:Dfa a){s:Int}(hs:inS a s){x:Sy}(hx:Wk a x):∃m∈a.mv,m.src=s/\Tj m.on x=true/\m.dst=toL a s x:=by obtain⟨m,hm,h1,h2⟩:=h.full s hs.1 hs.2 x hx;exact⟨m,hm,h1,h2,by rw[<-h1,h.to_of hm hx h2]⟩
def x0n{a:Aut}{x y:Sy}(h:∀m∈a.mv,Tj m.on x=Tj m.on y)(s:Int):toL a s x=toL a s y:=by
 unfold toL;have:a.mv.find? (λm=>decide (m.src=s) && Tj m.on x)=a.mv.find? (λm=>decide (m.src=s) && Tj m.on y):=by
  generalize a.mv=l at h;induction l with
  |nil=>rfl
  |cons m l ih=>rw[tN,tN,h m (by simp),ih (λk hk=>h k (by simp[hk]))]
 rw[this]
def stF(a:Aut)(s:Int)(w:List Sy):Int:=w.foldl (toL a) s
def Lb(a:Aut)(s:Int)(w:List Sy):Bool:=a.fin.getD (stF a s w).toNat false
def Dfa.run{a:Aut}(h:Dfa a):∀(w:List Sy) (s:Int),inS a s->(∀x∈w,Wk a x)->inS a (stF a s w)/\Pb a [s] w=[stF a s w]
 |[],s,hs,_=>⟨hs,rfl⟩
 |x::w,s,hs,hx=>by obtain⟨h1,h2⟩:=h.next hs (hx x (by simp));have:=h.run w _ h1 (λy hy=>hx y (by simp[hy]));refine⟨this.1,?_⟩;show Pb a (Q1 a [s] x) w=_;rw[h2];exact this.2
def Dfa.zero{a:Aut}(h:Dfa a):inS a 0:=⟨yZ _,by have:=h.ok.fin;omega⟩
def Dfa.acc{a:Aut}(h:Dfa a){w:List Sy}(hw:∀x∈w,Wk a x):Rc a w=Lb a 0 w:=by unfold Rc Lb;rw[(h.run w 0 h.zero hw).2];simp[P6]
structure Ltr (T:Nat) (l cl:List Prd):Prop where
 prts:Prts T l cl
 asc:cl.Pairwise u04
 len:∀p∈l,p.length=T
def okT(T:Nat)(x:Sy):Prop:=0<=x.ty/\x.ty.toNat<T/\inR x.num
def k2b{T:Nat}(hT:0<T){l:List Prd}(hl:∀p∈l,PCk T p):Ltr T l (Q7 T l):=by obtain⟨h1,h2⟩:=I5 hT hl;exact⟨h1,h2,λp hp=>(hl p hp).1⟩
def c0s{p:Prd}{t:Nat}{n:Int}(h:Ol (Qy p 0).1 (Qy p 0).2 t n):sLt (Qm p) ⟨t,n⟩:=by unfold Ol at h;unfold sLt Qm;simp only;omega
def Ltr.least{T:Nat}{l cl:List Prd}(h:Ltr T l cl){c:Prd}(hc:c∈cl):okT T (Qm c)/\PM c (Qm c).ty.toNat (Qm c).num:=by have h1:=(Eb (h.prts.wf c hc) (h.prts.ne c hc)).1;have h2:=(h.prts.wf c hc).lt h1;exact⟨⟨by simp[Qm],by simpa[Qm]using h2.1,h2.2⟩,by simpa[Qm]using h1⟩
def Ltr.sig{T:Nat}{l cl:List Prd}(h:Ltr T l cl){c:Prd}(hc:c∈cl){x y:Sy}(hx:okT T x)(hy:okT T y)(z1:PM c x.ty.toNat x.num)(z6:PM c y.ty.toNat y.num):∀p∈l,Tj p x=Tj p y:=λp hp=>by have h2:=((h.prts.cls c hc _ _ z1 _ _).1 z6).2.2 p hp;rw[xT,Rs (h.len p hp) x hx.1,Rs (h.len p hp) y hy.1];exact h2
def Ltr.cov{T:Nat}{l cl:List Prd}(h:Ltr T l cl){x:Sy}(hx:okT T x):∃c∈cl,PM c x.ty.toNat x.num/\(Qm c=x\/sLt (Qm c) x)/\∀p∈l,Tj p x=Tj p (Qm c):=by
 obtain⟨c,hc,hm⟩:=h.prts.all x.ty.toNat x.num hx.2.1 hx.2.2;obtain⟨h1,h2⟩:=h.least hc;refine⟨c,hc,hm,?_,h.sig hc hx h1 hm h2⟩;rcases(Eb (h.prts.wf c hc) (h.prts.ne c hc)).2 _ _ hm with⟨e1,e2⟩|hlt
 ·left;unfold Qm;rw[e1,e2,show((x.ty.toNat:Nat):Int)=x.ty by have:=hx.1;omega]
 right;have:=c0s hlt;have e:(⟨(x.ty.toNat:Int),x.num⟩:Sy)=x:=by rw[show((x.ty.toNat:Nat):Int)=x.ty by have:=hx.1;omega]
 rw[e]at this;exact this
def Ltr.ascS{T:Nat}{l cl:List Prd}(h:Ltr T l cl):(cl.map Qm).Pairwise sLt:=by
 refine xI.2 (h.asc.imp_of_mem λ{p q} hp hq hlt=>?_);obtain⟨t,n,hm,z1⟩:=hlt;have h1:=z1 _ _ (Eb (h.prts.wf q hq) (h.prts.ne q hq)).1;have h2:Ol (Qy p 0).1 (Qy p 0).2 (Qy q 0).1 (Qy q 0).2:=by
  rcases(Eb (h.prts.wf p hp) (h.prts.ne p hp)).2 t n hm with⟨e1,e2⟩|h3
  ·rw[e1,e2];exact h1
  exact h3.trans h1
 exact c0s h2
def Ah(a b:Aut):List Sy:=(Q7 a.types.toNat (onA a++onA b)).map Qm
def Rb(a b:Aut)(s:Int×Int)(x:Sy):Int×Int:=(toL a s.1 x,toL b s.2 x)
def Bm(a b:Aut)(s:Int×Int):List (Sy×(Int×Int)):=(Ah a b).map λx=>(x,Rb a b s x)
def U6{a:Aut}{x:Sy}:okT a.types.toNat x↔Wk a x:=by
 unfold okT Wk;constructor
 ·rintro⟨h1,h2,h3⟩;exact⟨⟨h1,by omega⟩,h3⟩
 rintro⟨⟨h1,h2⟩,h3⟩;exact⟨h1,by omega,h3⟩
def c1q{a b:Aut}(ha:OkA a)(hb:OkA b)(ht:b.types=a.types):Ltr a.types.toNat (onA a++onA b) (Q7 a.types.toNat (onA a++onA b)):=
 k2b (by have:=ha.types;omega) λp hp=>by
  rcases zV.1 hp with hp|hp
  ·exact x0i ha p hp
  rw[<-ht];exact x0i hb p hp
def X3{a:Aut}{m:Mv}(h:m∈a.mv):m.on∈onA a:=zO.2 ⟨m,h,rfl⟩
def Fh{a b:Aut}(ha:OkA a)(hb:OkA b)(ht:b.types=a.types)(s:Int×Int):SuccOk (Wk a) (Rb a b) s (Bm a b s):=by
 have hl:=c1q ha hb ht;refine⟨?_,λe he=>?_,λy hy=>?_⟩
 ·unfold Bm;exact xI.2 (hl.ascS.imp λh=>h)
 ·obtain⟨x,hx,rfl⟩:=zO.1 he;obtain⟨c,hc,rfl⟩:=zO.1 hx;exact⟨U6.1 (hl.least hc).1,rfl⟩
 obtain⟨c,hc,hm,hle,z1⟩:=hl.cov (U6.2 hy);refine⟨(Qm c,Rb a b s (Qm c)),zO.2 ⟨Qm c,zO.2 ⟨c,hc,rfl⟩,rfl⟩,?_,hle⟩;unfold Rb;rw[x0n (λm hm=>(z1 m.on (yX _ (X3 hm))).symm),x0n (a:=b) (λm hm=>(z1 m.on (vF _ (X3 hm))).symm)]
def Yg(a b:Aut)(s:Int×Int):Bool:=a.fin.getD s.1.toNat false != b.fin.getD s.2.toNat false
def Fc(a b:Aut)(p q:Int):Option (List Sy)×List ((Int×Int)×List Sy):=Xf (Yg a b) (Bm a b) (a.fin.length * b.fin.length+1) 0 [((p,q),[])]
def Ih(a b:Aut):∀(w:List Sy) (p q:Int),R9 (Rb a b) (p,q) w=(stF a p w,stF b q w)
 |[],_,_=>rfl
 |x::w,p,q=>Ih a b w (toL a p x) (toL b q x)
def A0(a b:Aut):List (Int×Int):=(Ee a.fin.length).flatMap λi=>(Ee b.fin.length).map λj=>(i,j)
def Pm(a b:Aut):(A0 a b).length=a.fin.length * b.fin.length:=by unfold A0;rw[vG,xC (g:=λ_=>b.fin.length) (λi _=>by simp[Ee]),vL,vR];simp[Ee]
def D0{a b:Aut}{s:Int×Int}(h1:inS a s.1)(h2:inS b s.2):s∈A0 a b:=by unfold A0;rw[xV];exact⟨s.1,Wy.2 h1,zO.2 ⟨s.2,Wy.2 h2,rfl⟩⟩
def c1s(a b:Aut)(p q:Int)(w:List Sy):Prop:=FirstW (Wk a) (Rb a b) (Yg a b) (p,q) w
def Df(a b:Aut)(p q:Int)(w:List Sy):Yg a b (R9 (Rb a b) (p,q) w)=true↔Lb a p w≠Lb b q w:=by rw[Ih];simp[Yg,Lb]
def K8{a b:Aut}(ha:Dfa a)(hb:Dfa b)(ht:b.types=a.types){p q:Int}(hp:inS a p)(hq:inS b q):
  (∃w,(Fc a b p q).1=some w/\c1s a b p q w)\/((Fc a b p q).1=none/\∀w,(∀x∈w,Wk a x)->Lb a p w=Lb b q w):=by
 have z1:∀x,Wk a x->Wk b x:=λx hx=>by unfold Wk at *;rw[ht];exact hx
 rcases Dx (ok:=Wk a) (step:=Rb a b) (good:=Yg a b) (succ:=Bm a b) (s0:=(p,q)) (G:=λs=>inS a s.1/\inS b s.2) (λs _=>Fh ha.ok hb.ok ht s)
  (λs hs e he=>by
   obtain⟨h1,h2⟩:=(Fh ha.ok hb.ok ht s).mem e he;rw[h2];exact⟨(ha.next hs.1 h1).1,(hb.next hs.2 (z1 _ h1)).1⟩) (A0 a b) (λs hs=>D0 hs.1 hs.2) (a.fin.length * b.fin.length+1) 0 [((p,q),[])] (by rw[Pm];omega) (by simp) (Py ⟨hp,hq⟩)with⟨w,L,h1,h2⟩|⟨L,h1,_,_,h2⟩
 ·exact .inl ⟨w,by rw[Fc,h1],h2⟩
 refine .inr ⟨by rw[Fc,h1],λw hw=>?_⟩;have:=(h2 w hw).2;by_cases hd:Lb a p w=Lb b q w
 ·exact hd
 rw[(Df a b p q w).2 hd]at this;cases this
def We(a:Aut)(s:Int):List Mv:=a.mv.filter λm=>decide (m.src=s) && !Wj m.on
def W4(a b:Aut)(s:Int×Int):List (Sy×(Int×Int)):=(We a s.1).flatMap λm=>(We b s.2).filterMap λn=>if Wj (W1 m.on n.on)then none else some (Qm (W1 m.on n.on),(m.dst,n.dst))
def Ry{a:Aut}{s:Int}{m:Mv}:m∈We a s↔m∈a.mv/\m.src=s/\Wj m.on=false:=by unfold We;rw[xJ];simp
def Fy{a b:Aut}{s:Int×Int}{e:Sy×(Int×Int)}:e∈W4 a b s↔∃m∈We a s.1,∃n∈We b s.2,Wj (W1 m.on n.on)=false/\e=(Qm (W1 m.on n.on),(m.dst,n.dst)):=by
 unfold W4;rw[xV];constructor
 ·rintro⟨m,hm,h⟩;obtain⟨n,hn,h⟩:=wI.1 h;cases hv:Wj (W1 m.on n.on)
  ·rw[hv,if_neg (by simp)]at h;cases h;exact⟨m,hm,n,hn,hv,rfl⟩
  rw[hv,if_pos rfl]at h;cases h
 rintro⟨m,hm,n,hn,hv,rfl⟩;exact⟨m,hm,wI.2 ⟨n,hn,by rw[hv,if_neg (by simp)]⟩⟩
def Yp{T:Nat}{p:Prd}(h:PWf T p):Wj p=false↔∃t n,PM p t n:=by
 cases hv:Wj p
 ·simp only[true_iff];apply Classical.byContradiction;intro hn;have:=(Rp h).2 (λt n hm=>hn ⟨t,n,hm⟩);rw[hv]at this;cases this
 simp only[Bool.true_eq_false,false_iff];rintro⟨t,n,hm⟩;exact(Rp h).1 hv t n hm
def Y6{T:Nat}{p:Prd}(h:PWf T p)(hn:∃t n,PM p t n):okT T (Qm p)/\PM p (Qm p).ty.toNat (Qm p).num/\∀x,okT T x->PM p x.ty.toNat x.num->Qm p=x\/sLt (Qm p) x:=by
 have h1:=Eb h hn;have h2:=h.lt h1.1;refine⟨⟨by simp[Qm],by simpa[Qm]using h2.1,h2.2⟩,by simpa[Qm]using h1.1,λx hx hm=>?_⟩;rcases h1.2 _ _ hm with⟨e1,e2⟩|hlt
 ·left;unfold Qm;rw[e1,e2,show((x.ty.toNat:Nat):Int)=x.ty by have:=hx.1;omega]
 right;have:=c0s hlt;have e:(⟨(x.ty.toNat:Int),x.num⟩:Sy)=x:=by rw[show((x.ty.toNat:Nat):Int)=x.ty by have:=hx.1;omega]
 rw[e]at this;exact this
def Dj{a b:Aut}(ha:Dfa a)(hb:Dfa b)(ht:b.types=a.types){s:Int×Int}(h1:inS a s.1)(h2:inS b s.2):
  (∀e∈W4 a b s,Wk a e.1/\e.2=Rb a b s e.1)/\∀y,Wk a y->∃e∈W4 a b s,e.2=Rb a b s y/\(e.1=y\/sLt e.1 y):=by
 have z1:∀x,Wk a x->Wk b x:=λx hx=>by unfold Wk at *;rw[ht];exact hx
 have z7:∀ {m n:Mv},m∈a.mv->n∈b.mv->PWf a.types.toNat m.on/\PWf a.types.toNat n.on:=λhm hn=>⟨ha.ok.wfA.on _ hm,by rw[<-ht];exact hb.ok.wfA.on _ hn⟩
 constructor
 ·intro e he;obtain⟨m,hm,n,hn,hv,rfl⟩:=Fy.1 he;obtain⟨m1,m2,_⟩:=Ry.1 hm;obtain⟨n1,n2,_⟩:=Ry.1 hn;obtain⟨w1,w2⟩:=z7 m1 n1;have hw:=Tc w1 w2.1;obtain⟨k1,k2,_⟩:=Y6 hw ((Yp hw).1 hv);have hk:=U6.1 k1;obtain⟨p1,p2⟩:=(El w1.1 w2.1 _ _).1 k2;refine⟨hk,?_⟩;unfold Rb;rw[<-m2,<-n2,ha.to_of m1 hk ((Rs w1.1 _ hk.1.1).2 p1),hb.to_of n1 (z1 _ hk) ((Rs w2.1 _ hk.1.1).2 p2)]
 intro y hy;obtain⟨m,m1,m2,m3,m4⟩:=ha.move h1 hy;obtain⟨n,n1,n2,n3,n4⟩:=hb.move h2 (z1 y hy);obtain⟨w1,w2⟩:=z7 m1 n1;have hw:=Tc w1 w2.1;have p1:=(Rs w1.1 y hy.1.1).1 m3;have p2:=(Rs w2.1 y hy.1.1).1 n3;have z6:=(El w1.1 w2.1 _ _).2 ⟨p1,p2⟩;have hv:=(Yp hw).2 ⟨_,_,z6⟩;refine⟨_,Fy.2 ⟨m,Ry.2 ⟨m1,m2,(Yp w1).2 ⟨_,_,p1⟩⟩,n,Ry.2 ⟨n1,n2,(Yp w2).2 ⟨_,_,p2⟩⟩,hv,rfl⟩,?_,(Y6 hw ⟨_,_,z6⟩).2.2 y (U6.2 hy) z6⟩;unfold Rb;rw[m4,n4]
def lkN(near:List ((Int×Int)×Nat))(s:Int×Int):Option Nat:=(near.find? λe=>decide (e.1=s)).map (·.2)
def Jm(a:Aut)(near:List ((Int×Int)×Nat))(d:Nat)(s:Int×Int):Bool:=match d with
 |0=>Yg a a s
 |d+1=>(W4 a a s).any λe=>decide (lkN near e.2=some d)
def T7(a:Aut)(near:List ((Int×Int)×Nat))(d:Nat):List (Int×Int):=(A0 a a).filter λs=>decide (lkN near s=none) && Jm a near d s
def Lh(a:Aut):Nat->Nat->List ((Int×Int)×Nat)->List ((Int×Int)×Nat)
 |0,_,near=>near
 |f+1,d,near=>if T7 a near d=[]then near else Lh a f (d+1) (near++(T7 a near d).map λs=>(s,d))
def U0(a:Aut):List ((Int×Int)×Nat):=Lh a (a.fin.length * a.fin.length+1) 1 ((T7 a [] 0).map λs=>(s,0))
def inP(a:Aut)(s:Int×Int):Prop:=inS a s.1/\inS a s.2
def Bw(a:Aut)(s:Int×Int)(d:Nat):Prop:=∃w:List Sy,w.length=d/\(∀x∈w,Wk a x)/\Yg a a (R9 (Rb a a) s w)=true
def Aj(a:Aut)(s:Int×Int)(d:Nat):Prop:=Bw a s d/\∀k,k<d->¬Bw a s k
def Kh{a:Aut}{s:Int×Int}:Bw a s 0↔Yg a a s=true:=by
 constructor
 ·rintro⟨w,hw,_,h⟩;obtain rfl:=List.length_eq_zero_iff.1 hw;exact h
 intro h;exact⟨[],rfl,by simp,h⟩
def S6{a:Aut}{s:Int×Int}{d:Nat}:Bw a s (d+1)↔∃y,Wk a y/\Bw a (Rb a a s y) d:=by
 constructor
 ·rintro⟨w,hw,ho,h⟩;cases w with
  |nil=>cases hw
  |cons y w=>exact⟨y,ho y (by simp),w,by simpa using hw,λx hx=>ho x (by simp[hx]),h⟩
 rintro⟨y,hy,w,hw,ho,h⟩;exact⟨y::w,by simp[hw],λx hx=>(zZ.1 hx).elim (λe=>by rw[e];exact hy) (ho x),h⟩
def Z3{a:Aut}{s:Int×Int}{d k:Nat}(h:Aj a s d)(h':Aj a s k):d=k:=by
 rcases wT d k with hlt|e|hlt
 ·exact absurd h.1 (h'.2 d hlt)
 ·exact e
 exact absurd h'.1 (h.2 k hlt)
def x0m{a:Aut}{s:Int×Int}:∀(d:Nat),Bw a s d->∃k,k<=d/\Aj a s k:=by
 intro d;induction d using tX with
 |_ d ih=>
  intro h;by_cases hk:∃k,k<d/\Bw a s k
  ·obtain⟨k,h1,h2⟩:=hk;obtain⟨j,h3,h4⟩:=ih k h1 h2;exact⟨j,by omega,h4⟩
  exact⟨d,zQ _,h,λk h1 h2=>hk ⟨k,h1,h2⟩⟩
def Fb{a:Aut}{s:Int×Int}{d:Nat}(h:Aj a s (d+1)):∃y,Wk a y/\Aj a (Rb a a s y) d:=by obtain⟨y,hy,h1⟩:=S6.1 h.1;refine⟨y,hy,h1,λk hk h2=>?_⟩;exact h.2 (k+1) (by omega) (S6.2 ⟨y,hy,h2⟩)
def Fp{a:Aut}(ha:Dfa a){s:Int×Int}(hs:inP a s){y:Sy}(hy:Wk a y):inP a (Rb a a s y):=⟨(ha.next hs.1 hy).1,(ha.next hs.2 hy).1⟩
structure NInv (a:Aut) (d:Nat) (near:List ((Int×Int)×Nat)):Prop where
 lk:∀s,inP a s->∀k,lkN near s=some k↔(k<d/\Aj a s k)
 keys:(near.map (·.1)).Nodup
 dom:∀e∈near,e.1∈A0 a a
def z2l(A:List ((Int×Int)×Nat))(B:List (Int×Int))(d:Nat)(s:Int×Int):lkN (A++B.map λt=>(t,d)) s=match lkN A s with|some k=>some k|none=>if s∈B then some d else none:=by
 unfold lkN;rw[List.find?_append];cases hA:A.find? λe=>decide (e.1=s)with
 |some e=>rfl
 |none=>
  simp only[Option.none_or,Option.map_none];by_cases hs:s∈B
  ·rw[if_pos hs];obtain⟨e,he⟩:=Option.isSome_iff_exists.1 (List.find?_isSome.2 ⟨(s,d),zO.2 ⟨s,hs,rfl⟩,by simp⟩:(List.find? (λe:(Int×Int)×Nat=>decide (e.1=s)) (B.map λt=>(t,d))).isSome);rw[he];obtain⟨t,_,rfl⟩:=zO.1 (vC he);rfl
  rw[if_neg hs];rw[vM.2 (λe he=>by
   obtain⟨t,ht,rfl⟩:=zO.1 he;simp only[decide_eq_true_eq];rintro rfl;exact hs ht)]
  rfl
def C2{A:List ((Int×Int)×Nat)}{s:Int×Int}:lkN A s=none↔s∉A.map (·.1):=by
 unfold lkN;rw[Option.map_eq_none_iff,vM];constructor
 ·intro h hs;obtain⟨e,he,rfl⟩:=zO.1 hs;exact h e he (by simp)
 intro h e he;simp only[decide_eq_true_eq];rintro rfl;exact h (zO.2 ⟨e,he,rfl⟩)
def x1p{a:Aut}{s:Int×Int}(h:s∈A0 a a):inP a s:=by obtain⟨i,hi,hs⟩:=xV.1 h;obtain⟨j,hj,rfl⟩:=zO.1 hs;exact⟨Wy.1 hi,Wy.1 hj⟩
def Zx(a:Aut):(A0 a a).Nodup:=by have hr:∀n,(Ee n).Nodup:=λn=>(Ky n).imp (λh e=>by omega);unfold A0 sj;rw[vA];refine⟨λi _=>xI.2 ((hr _).imp λh e=>h (Prod.mk.inj e).2),(hr _).imp λ{i j} hij x hx y hy e=>?_⟩;obtain⟨u,_,rfl⟩:=zO.1 hx;obtain⟨v,_,rfl⟩:=zO.1 hy;exact hij (Prod.mk.inj e).1
def Ka{a:Aut}(ha:Dfa a){d:Nat}{near:List ((Int×Int)×Nat)}(h:NInv a d near){s:Int×Int}:s∈T7 a near d↔inP a s/\Aj a s d:=by
 unfold T7;rw[xJ];simp only[zX,decide_eq_true_eq];have z1:∀s,inP a s->(lkN near s=none↔∀k,k<d->¬Bw a s k):=λs hs=>by
  constructor
  ·intro hn k hk hd;obtain⟨j,h1,h2⟩:=x0m k hd;have:=(h.lk s hs j).2 ⟨by omega,h2⟩;rw[hn]at this;cases this
  intro hk;cases hl:lkN near s with
  |none=>rfl
  |some k=>obtain⟨h1,h2⟩:=(h.lk s hs k).1 hl;exact absurd h2.1 (hk k h1)
 constructor
 ·rintro⟨h1,h2,h3⟩;have hs:=x1p h1;have hk:=(z1 s hs).1 h2;refine⟨hs,?_,hk⟩;cases d with
  |zero=>exact Kh.2 h3
  |succ d=>simp only[Jm,wP,decide_eq_true_eq]at h3;obtain⟨e,he,hl⟩:=h3;obtain⟨e1,e2⟩:=(Dj ha ha rfl hs.1 hs.2).1 e he;rw[e2]at hl;exact S6.2 ⟨e.1,e1,((h.lk _ (Fp ha hs e1) d).1 hl).2.1⟩
 rintro⟨hs,h2⟩;refine⟨D0 hs.1 hs.2,(z1 s hs).2 h2.2,?_⟩;cases d with
 |zero=>exact Kh.1 h2.1
 |succ d=>obtain⟨y,hy,hm⟩:=Fb h2;obtain⟨e,he,e1,_⟩:=(Dj ha ha rfl hs.1 hs.2).2 y hy;simp only[Jm,wP,decide_eq_true_eq];exact⟨e,he,by rw[e1];exact(h.lk _ (Fp ha hs hy) d).2 ⟨by omega,hm⟩⟩
def NInv.step{a:Aut}(ha:Dfa a){d:Nat}{near:List ((Int×Int)×Nat)}(h:NInv a d near):NInv a (d+1) (near++(T7 a near d).map λs=>(s,d)):=by
 refine⟨λs hs k=>?_,?_,λe he=>?_⟩
 ·rw[z2l];cases hl:lkN near s with
  |some j=>
   obtain⟨h1,h2⟩:=(h.lk s hs j).1 hl;simp only[Option.some.injEq];constructor
   ·rintro rfl;exact⟨by omega,h2⟩
   rintro⟨_,h3⟩;exact Z3 h2 h3
  |none=>
   simp only;have z1:∀k,k<d->¬Aj a s k:=λk hk hm=>by have:=(h.lk s hs k).2 ⟨hk,hm⟩;rw[hl]at this;cases this
   by_cases hf:s∈T7 a near d
   ·rw[if_pos hf];have hm:=((Ka ha h).1 hf).2;simp only[Option.some.injEq];constructor
    ·rintro rfl;exact⟨by omega,hm⟩
    rintro⟨_,h3⟩;exact Z3 hm h3
   rw[if_neg hf];constructor
   ·intro hc;cases hc
   rintro⟨h1,h3⟩;by_cases hkd:k<d
   ·exact absurd h3 (z1 k hkd)
   have:k=d:=by omega
   subst this;exact absurd ((Ka ha h).2 ⟨hs,h3⟩) hf
 ·rw[List.map_append,vX,vN];refine⟨h.keys,?_,λx hx y hy e=>?_⟩
  ·have:(T7 a near d).map ((·.1)∘λs=>(s,d))=T7 a near d:=by exact(xC (g:=id) (λ_ _=>rfl)).trans (List.map_id _)
   rw[this];exact(Zx a).filter _
  subst e;obtain⟨t,ht,rfl⟩:=zO.1 hy;have:=(xJ.1 ht).2;simp only[zX,decide_eq_true_eq]at this;exact C2.1 this.1 hx
 rcases zV.1 he with he|he
 ·exact h.dom e he
 obtain⟨t,ht,rfl⟩:=zO.1 he;exact(xJ.1 ht).1
def u0d{a:Aut}(ha:Dfa a):∀(k d:Nat) (s:Int×Int),inP a s->Aj a s (d+k)->∃t,inP a t/\Aj a t d
 |0,_,s,hs,h=>⟨s,hs,h⟩
 |k+1,d,s,hs,h=>by obtain⟨y,hy,hm⟩:=Fb (d:=d+k) h;exact u0d ha k d _ (Fp ha hs hy) hm
def q1t{a:Aut}(ha:Dfa a):∀(f d:Nat) (near:List ((Int×Int)×Nat)),a.fin.length * a.fin.length+1<=near.length+f->NInv a d near->∀s,inP a s->∀k,lkN (Lh a f d near) s=some k↔Aj a s k
 |0,d,near,hf,h=>by
  exfalso;have:=Yu _ (A0 a a) h.keys (λs hs=>by
   obtain⟨e,he,rfl⟩:=zO.1 hs;exact h.dom e he)
  rw[Pm,zY]at this;omega
 |f+1,d,near,hf,h=>by
  rw[Lh];by_cases he:T7 a near d=[]
  ·rw[if_pos he];intro s hs k;rw[h.lk s hs k];refine⟨λhk=>hk.2,λhm=>⟨?_,hm⟩⟩;by_cases hkd:k<d
   ·exact hkd
   exfalso;obtain⟨t,ht,z1⟩:=u0d ha (k - d) d s hs (by rw[show d+(k - d)=k by omega];exact hm);have:=(Ka ha h).2 ⟨ht,z1⟩;rw[he]at this;cases this
  rw[if_neg he];have hl:=List.length_pos_iff.2 he;exact q1t ha f (d+1) _ (by simp;omega) (h.step ha)
def w1c{a:Aut}(ha:Dfa a):∀s,inP a s->∀k,lkN (U0 a) s=some k↔Aj a s k:=by
 have h0:NInv a 0 []:=⟨λs _ k=>by simp[lkN],by simp,by simp⟩
 have h1:=h0.step ha;rw[xZ]at h1;exact q1t ha _ 1 _ (by omega) h1
def Lq(x y:Sy):Bool:=decide (x.ty<y.ty) || (decide (x.ty=y.ty) && decide (x.num<y.num))
def k2f(es:List (Sy×(Int×Int))):Option (Sy×(Int×Int)):=es.foldl (λb e=>match b with|none=>some e|some c=>if Lq e.1 c.1 then some e else some c) none
def Gh(x y:Sy):Lq x y=true↔sLt x y:=by simp[Lq,sLt]
def K1:∀(es:List (Sy×(Int×Int))) (c:Sy×(Int×Int)),∃e,es.foldl (λb e=>match b with|none=>some e|some c=>if Lq e.1 c.1 then some e else some c) (some c)=some e/\(e=c\/e∈es)/\(e.1=c.1\/sLt e.1 c.1)/\∀f∈es,e.1=f.1\/sLt e.1 f.1
 |[],c=>⟨c,rfl,.inl rfl,.inl rfl,by simp⟩
 |f::es,c=>by
  rw[xS];simp only;cases hb:Lq f.1 c.1 with
  |true=>
   rw[if_pos rfl];have z6:=(Gh _ _).1 hb;obtain⟨e,h1,h2,h3,h4⟩:=K1 es f;refine⟨e,h1,.inr ?_,.inr ?_,λg hg=>?_⟩
   ·rcases h2 with rfl|h2
    ·simp
    simp[h2]
   ·rcases h3 with h3|h3
    ·rw[h3];exact z6
    exact h3.trans z6
   rcases zZ.1 hg with rfl|hg
   ·exact h3
   exact h4 g hg
  |false=>
   rw[if_neg (by simp)];obtain⟨e,h1,h2,h3,h4⟩:=K1 es c;refine⟨e,h1,h2.imp id (λh=>List.mem_cons_of_mem _ h),h3,λg hg=>?_⟩;rcases zZ.1 hg with rfl|hg
   ·have hn:¬sLt g.1 c.1:=λh=>by rw[(Gh _ _).2 h]at hb;cases hb
    have z1:c.1=g.1\/sLt c.1 g.1:=by
     rcases sLt.tri g.1 c.1 with h|h|h
     ·exact absurd h hn
     ·exact .inl h.symm
     exact .inr h
    rcases h3 with h3|h3
    ·rw[h3];exact z1
    rcases z1 with z1|z1
    ·rw[<-z1];exact .inr h3
    exact .inr (h3.trans z1)
   exact h4 g hg
def y1h{es:List (Sy×(Int×Int))}(h:es≠[]):∃e,k2f es=some e/\e∈es/\∀f∈es,e.1=f.1\/sLt e.1 f.1:=by
 cases es with
 |nil=>exact absurd rfl h
 |cons c es=>
  obtain⟨e,h1,h2,h3,h4⟩:=K1 es c;refine⟨e,h1,by rcases h2 with rfl|h2<;>simp[*],λf hf=>?_⟩;rcases zZ.1 hf with rfl|hf
  ·exact h3
  exact h4 f hf
def Kc(a:Aut)(near:List ((Int×Int)×Nat)):Nat->Int×Int->List Sy
 |0,_=>[]
 |d+1,s=>match k2f ((W4 a a s).filter λe=>decide (lkN near e.2=some d))with
  |some e=>e.1::Kc a near d e.2
  |none=>⟨0,0⟩::Kc a near d (0,0)
def x20{x y:Sy}{v w:List Sy}(h:x=y\/sLt x y)(hl:v.length=w.length)(hv:x=y->lle v w):lle (x::v) (y::w):=by
 rcases h with rfl|h
 ·rcases hv rfl with rfl|hv
  ·exact .inl rfl
  rcases hv with hv|⟨h1,h2⟩
  ·omega
  exact .inr (.inr ⟨by simp[h1],.inr ⟨rfl,h2⟩⟩)
 exact .inr (.inr ⟨by simp[hl],.inl h⟩)
def B7{a:Aut}(ha:Dfa a){near:List ((Int×Int)×Nat)}(hn:∀s,inP a s->∀k,lkN near s=some k↔Aj a s k):∀(d:Nat) (s:Int×Int),inP a s->Aj a s d->(Kc a near d s).length=d/\c1s a a s.1 s.2 (Kc a near d s)
 |0,s,hs,h=>⟨rfl,by simp[Kc],Kh.1 h.1,λv hv hg=>by
   cases v with
   |nil=>exact .inl rfl
   |cons x v=>exact .inr (.inl (by simp[Kc]))⟩
 |d+1,s,hs,h=>by
  obtain⟨y,hy,hm⟩:=Fb h;obtain⟨e0,z8,za,_⟩:=(Dj ha ha rfl hs.1 hs.2).2 y hy;have zb:(W4 a a s).filter (λe=>decide (lkN near e.2=some d))≠[]:=List.ne_nil_of_mem (xJ.2 ⟨z8,by
   rw[za];simpa using(hn _ (Fp ha hs hy) d).2 hm⟩)
  obtain⟨e,h1,h2,h3⟩:=y1h zb;obtain⟨zc,zd⟩:=xJ.1 h2;obtain⟨e1,e2⟩:=(Dj ha ha rfl hs.1 hs.2).1 e zc;have z1:inP a e.2:=by rw[e2];exact Fp ha hs e1
  have ze:Aj a e.2 d:=(hn _ z1 d).1 (by simpa using zd);obtain⟨i1,i2⟩:=B7 ha hn d e.2 z1 ze;rw[Kc,h1];simp only;refine⟨by simp[i1],λx hx=>?_,?_,λv hv hg=>?_⟩
  ·rcases zZ.1 hx with rfl|hx
   ·exact e1
   exact i2.okw x hx
  ·have:=i2.goodw;show Yg a a (R9 (Rb a a) (Rb a a s e.1) (Kc a near d e.2))=true;rw[<-e2];exact this
  by_cases hlen:v.length=d+1
  ·cases v with
   |nil=>cases hlen
   |cons z v=>
    have hz:=hv z (by simp);have z6:v.length=d:=by simpa using hlen
    have z7:Yg a a (R9 (Rb a a) (Rb a a s z) v)=true:=hg;have zf:Aj a (Rb a a s z) d:=by refine⟨⟨v,z6,λx hx=>hv x (by simp[hx]),z7⟩,λk hk hd=>?_⟩;exact h.2 (k+1) (by omega) (S6.2 ⟨z,hz,hd⟩)
    obtain⟨f,hf,f1,f2⟩:=(Dj ha ha rfl hs.1 hs.2).2 z hz;have zg:f∈(W4 a a s).filter (λe=>decide (lkN near e.2=some d)):=xJ.2 ⟨hf,by
     rw[f1];simpa using(hn _ (Fp ha hs hz) d).2 zf⟩
    have hle:e.1=z\/sLt e.1 z:=by
     rcases h3 f zg with h4|h4
     ·rcases f2 with f2|f2
      ·exact .inl (h4.trans f2)
      rw[h4];exact .inr f2
     rcases f2 with f2|f2
     ·rw[<-f2];exact .inr h4
     exact .inr (h4.trans f2)
    refine x20 hle (by rw[i1,z6]) λzh=>?_;refine i2.least v (λx hx=>hv x (by simp[hx])) ?_;show Yg a a (R9 (Rb a a) e.2 v)=true;rw[e2,zh];exact z7
  have zi:d+1<=v.length:=by
   by_cases hlt:v.length<d+1
   ·exact absurd ⟨v,rfl,hv,hg⟩ (h.2 _ hlt)
   omega
  exact .inr (.inl (by simp[i1];omega))
def z27{a:Aut}(ha:Dfa a){p q:Int}(hp:inS a p)(hq:inS a q):(Fc a a p q).1=(lkN (U0 a) (p,q)).map λd=>Kc a (U0 a) d (p,q):=by
 have hn:=w1c ha;have z1:inP a (p,q):=⟨hp,hq⟩
 rcases K8 ha ha rfl hp hq with⟨w,h1,h2⟩|⟨h1,h2⟩
 ·obtain⟨d,_,hm⟩:=x0m (a:=a) (s:=(p,q)) w.length ⟨w,rfl,h2.okw,h2.goodw⟩;rw[h1,(hn _ z1 d).2 hm,wG,h2.unique (B7 ha hn d _ z1 hm).2]
 rw[h1];cases hl:lkN (U0 a) (p,q)with
 |none=>rfl
 |some d=>exfalso;obtain⟨w,_,hw,hg⟩:=((hn _ z1 d).1 hl).1;exact(Df a a p q w).1 hg (h2 w hw)
structure EqvB (n:Nat) (E:Nat->Nat->Bool):Prop where
 refl:∀i,i<n->E i i=true
 symm:∀i k,i<n->k<n->E i k=true->E k i=true
 trans:∀i k j,i<n->k<n->j<n->E i k=true->E k j=true->E i j=true
def Co(E:Nat->Nat->Bool)(st:List Nat×List Nat)(i:Nat):List Nat×List Nat:=
 match st.1.findIdx? (E i)with
 |some t=>(st.1,st.2++[t])
 |none=>(st.1++[i],st.2++[st.1.length])
def Di(E:Nat->Nat->Bool)(n:Nat):List Nat×List Nat:=(yR n).foldl (Co E) ([],[])
def Bu(E:Nat->Nat->Bool)(n:Nat):Di E (n+1)=Co E (Di E n) n:=by rw[Di,wM,wL];rfl
structure ClsS (E:Nat->Nat->Bool) (n:Nat) (fs out:List Nat):Prop where
 len:out.length=n
 asc:fs.Pairwise (·<·)
 lt:∀r∈fs,r<n
 apart:fs.Pairwise (λr s=>E r s=false)
 num:∀i,i<n->∃t r,out[i]?=some t/\fs[t]?=some r/\r<=i/\E i r=true
def Ef{α:Type}{l:List α}{i:Nat}{x:α}(h:l[i]?=some x):i<l.length:=(zB.1 h).1
def g0v{α:Type}{l:List α}{f:α->Bool}{t:Nat}{x:α}(ht:l[t]?=some x)(hx:f x=true)(hu:∀(i j:Nat) (a b:α),l[i]?=some a->l[j]?=some b->f a=true->f b=true->i=j):l.findIdx? f=some t:=by
 cases hf:l.findIdx? f with
 |none=>rw[vQ]at hf;have:=hf x (zJ ht);rw[hx]at this;cases this
 |some u=>obtain⟨z1,z6,_⟩:=xM.1 hf;rw[hu u t l[u] x (zI z1) ht z6 hx]
def ClsS.uniq{E:Nat->Nat->Bool}{N n:Nat}(hE:EqvB N E)(hn:n<=N){fs out:List Nat}(h:ClsS E n fs out){i:Nat}(hi:i<N){u v r s:Nat}(hr:fs[u]?=some r)(hs:fs[v]?=some s)(e1:E i r=true)(e2:E i s=true):u=v:=by
 have z7:=zJ hr;have z8:=zJ hs;have za:=h.lt r z7;have zb:=h.lt s z8;have z1:E r s=true:=hE.trans r i s (by omega) hi (by omega) (hE.symm i r hi (by omega) e1) e2;have z6:E s r=true:=hE.symm r s (by omega) (by omega) z1;obtain⟨hu,rfl⟩:=zB.1 hr;obtain⟨hv,rfl⟩:=zB.1 hs;rcases wT u v with k|k|k
 ·have:=(yJ.1 h.apart) u v hu hv k;rw[this]at z1;cases z1
 ·exact k
 have:=(yJ.1 h.apart) v u hv hu k;rw[this]at z6;cases z6
def w0w{E:Nat->Nat->Bool}{N:Nat}(hE:EqvB N E):∀n,n<=N->ClsS E n (Di E n).1 (Di E n).2
 |0,_=>⟨rfl,by simp[Di],by simp[Di],by simp[Di],λi hi=>by omega⟩
 |n+1,hn=>by
  have h:=w0w hE n (by omega);rw[Bu];generalize Di E n=st at *
  obtain⟨fs,out⟩:=st;simp only at h;unfold Co;simp only;cases hf:fs.findIdx? (E n)with
  |some t=>
   obtain⟨h1,h2,_⟩:=xM.1 hf;simp only;refine⟨by simp[h.len],h.asc,λr hr=>by have:=h.lt r hr;omega,h.apart,λi hi=>?_⟩;by_cases e:i=n
   ·subst e;exact⟨t,fs[t],by rw[zH (by rw[h.len];omega)];simp[h.len],zI h1,by have:=h.lt _ (zK h1);omega,h2⟩
   obtain⟨t',r,a1,a2,a3,a4⟩:=h.num i (by omega);exact⟨t',r,by rw[zF (by rw[h.len];omega)];exact a1,a2,a3,a4⟩
  |none=>
   rw[vQ]at hf;simp only;refine⟨by simp[h.len],yE.2 ⟨h.asc,by simp,λr hr s hs=>by rw[zP.1 hs];exact h.lt r hr⟩,λr hr=>?_,yE.2 ⟨h.apart,by simp,λr hr s hs=>?_⟩,λi hi=>?_⟩
   ·rcases zV.1 hr with hr|hr
    ·have:=h.lt r hr;omega
    rw[zP.1 hr];omega
   ·rw[zP.1 hs];have z1:=h.lt r hr;have:=hf r hr;cases hc:E r n
    ·rfl
    rw[hE.symm r n (by omega) (by omega) hc]at this;cases this
   by_cases e:i=n
   ·subst e;exact⟨fs.length,i,by rw[zH (by rw[h.len];omega)];simp[h.len],by rw[zH (by omega)];simp,by omega,hE.refl i (by omega)⟩
   obtain⟨t',r,a1,a2,a3,a4⟩:=h.num i (by omega);exact⟨t',r,by rw[zF (by rw[h.len];omega)];exact a1,by rw[zF (Ef a2)];exact a2,a3,a4⟩
def ClsS.same{E:Nat->Nat->Bool}{n:Nat}(hE:EqvB n E){fs out:List Nat}(h:ClsS E n fs out){i k:Nat}(hi:i<n)(hk:k<n):out.getD i 0=out.getD k 0↔E i k=true:=by
 obtain⟨t,r,a1,a2,a3,a4⟩:=h.num i hi;obtain⟨u,s,b1,b2,b3,b4⟩:=h.num k hk;simp only[yS,a1,b1,wC];constructor
 ·intro e;subst e;rw[a2]at b2;cases b2;exact hE.trans i r k hi (by omega) hk a4 (hE.symm k r hk (by omega) b4)
 intro e;refine h.uniq hE (zQ n) hi a2 b2 a4 ?_;exact hE.trans i k s hi hk (by omega) e b4
def ClsS.first{E:Nat->Nat->Bool}{n:Nat}(hE:EqvB n E){fs out:List Nat}(h:ClsS E n fs out){t r:Nat}(ht:fs[t]?=some r):out.findIdx? (λc=>decide (c=t))=some r:=by
 have hr:=h.lt r (zJ ht);rw[xM];refine⟨by rw[h.len];exact hr,?_,λj hj=>?_⟩
 ·obtain⟨u,s,a1,a2,a3,a4⟩:=h.num r hr;have hu:u=t:=h.uniq hE (zQ n) hr a2 ht a4 (hE.refl r hr);obtain⟨hl,e⟩:=zB.1 a1;rw[e,hu];simp
 obtain⟨u,s,a1,a2,a3,a4⟩:=h.num j (by omega);obtain⟨hl,e⟩:=zB.1 a1;rw[e];have:u≠t:=λe'=>by subst e';rw[ht]at a2;cases a2;omega
 simpa using this
def ClsS.lt_fs{E:Nat->Nat->Bool}{n:Nat}{fs out:List Nat}(h:ClsS E n fs out){i:Nat}(hi:i<n):out.getD i 0<fs.length:=by obtain⟨t,r,a1,a2,_,_⟩:=h.num i hi;simp only[yS,a1,wC];exact Ef a2
def eqW(a b:Aut)(p q:Int):Prop:=∀w,(∀x∈w,Wk a x)->Lb a p w=Lb b q w
def eqS(a:Aut)(i k:Nat):Bool:=(lkN (U0 a) ((i:Int),(k:Int))).isNone
def Sf{a:Aut}{i:Nat}(h:i<a.fin.length):inS a (i:Int):=⟨by omega,by omega⟩
def w1q{a b:Aut}(ha:Dfa a)(hb:Dfa b)(ht:b.types=a.types){p q:Int}(hp:inS a p)(hq:inS b q):(Fc a b p q).1=none↔eqW a b p q:=by
 rcases K8 ha hb ht hp hq with⟨w,h1,h2⟩|⟨h1,h2⟩
 ·rw[h1];exact⟨λh=>(by cases h),λh=>absurd (h w h2.okw) ((Df a b p q w).1 h2.goodw)⟩
 exact⟨λ_=>h2,λ_=>h1⟩
def Ay{a:Aut}(ha:Dfa a){i k:Nat}(hi:i<a.fin.length)(hk:k<a.fin.length):eqS a i k=true↔eqW a a i k:=by rw[<-w1q ha ha rfl (Sf hi) (Sf hk),z27 ha (Sf hi) (Sf hk),eqS];cases lkN (U0 a) ((i:Int),(k:Int))<;>simp
def g1x{a:Aut}(ha:Dfa a):EqvB a.fin.length (eqS a):=
 ⟨λi hi=>(Ay ha hi hi).2 λ_ _=>rfl,λi k hi hk h=>(Ay ha hk hi).2 λw hw=>((Ay ha hi hk).1 h w hw).symm,
  λi k j hi hk hj h h'=>(Ay ha hi hj).2 λw hw=>((Ay ha hi hk).1 h w hw).trans ((Ay ha hk hj).1 h' w hw)⟩
def fsA(a:Aut):List Nat:=(Di (eqS a) a.fin.length).1
def clA(a:Aut):List Nat:=(Di (eqS a) a.fin.length).2
def v2g{a:Aut}(ha:Dfa a):ClsS (eqS a) a.fin.length (fsA a) (clA a):=w0w (g1x ha) _ (zQ _)
def f1k{a:Aut}(ha:Dfa a){i k:Nat}(hi:i<a.fin.length)(hk:k<a.fin.length):(clA a).getD i 0=(clA a).getD k 0↔eqW a a i k:=by rw[(v2g ha).same (g1x ha) hi hk,Ay ha hi hk]
section
section
variable {α:Type} (key:α->Nat×Int)
def Vv(s:List α)(x:α):Nat->Nat
 |0=>0
 |j+1=>match s[j]? with
  |some y=>if q0e (key x) (key y)=true then Vv s x j else j+1
  |none=>j+1
def v1e(s:List α)(x:α):List α:=s.take (Vv key s x s.length)++x::s.drop (Vv key s x s.length)
def u17(L:List α):List α:=L.foldl (v1e key) []
def ltG(p q:α):Prop:=Ol (key p).1 (key p).2 (key q).1 (key q).2
theorem L3(s:List α)(x:α):∀j,j<=s.length->Vv key s x j<=j/\(∀i,Vv key s x j<=i->i<j->∀h:i<s.length,q0e (key x) (key s[i])=true)/\(∀i,i+1=Vv key s x j->∀h:i<s.length,q0e (key x) (key s[i])=false)
 |0,_=>⟨zQ _,λi _ h=>by omega,λi h=>by simp[Vv]at h⟩
 |j+1,hj=>by
  have z1:j<s.length:=by omega
  rw[Vv,zI z1];simp only;by_cases hb:q0e (key x) (key s[j])=true
  ·rw[if_pos hb];obtain⟨h1,h2,h3⟩:=L3 s x j (by omega);refine⟨by omega,λi hi z6 hl=>?_,h3⟩;by_cases hij:i=j
   ·subst hij;exact hb
   exact h2 i hi (by omega) hl
  rw[if_neg hb];refine⟨zQ _,λi hi z6=>by omega,λi hi hl=>?_⟩;have:i=j:=by omega
  subst this;simpa using hb
theorem y1o(s:List α)(x:α):(v1e key s x).Perm (x::s):=by unfold v1e;refine vJ.trans ?_;rw[xO]
theorem z0k{s:List α}{x:α}(hs:s.Pairwise (ltG key))(hd:∀y∈s,key y≠key x):(v1e key s x).Pairwise (ltG key):=by
 obtain⟨h1,h2,h3⟩:=L3 key s x s.length (zQ _);unfold v1e;generalize Vv key s x s.length=k at *
 have z1:=hs;rw[<-xO k s]at z1;obtain⟨p1,p2,p3⟩:=yE.1 z1;have z7:∀y∈s.drop k,ltG key x y:=λy hy=>by obtain⟨i,hi⟩:=yK.1 hy;rw[List.getElem?_drop]at hi;obtain⟨hl,e⟩:=zB.1 hi;have:=h2 (k+i) (by omega) hl hl;rw[e]at this;exact(Ta _ _).1 this
 have z8:∀i,i+1=k->∀h:i<s.length,ltG key s[i] x:=λi hi hl=>by
  have h4:=h3 i hi hl;have zc:=hd s[i] (zK hl);unfold ltG;rcases wT (key s[i]).1 (key x).1 with a|a|a
  ·exact .inl a
  ·rcases Int.lt_trichotomy (key s[i]).2 (key x).2 with b|b|b
   ·exact .inr ⟨a,b⟩
   ·exact absurd (uo a b) zc
   have:q0e (key x) (key s[i])=true:=(Ta _ _).2 (.inr ⟨a.symm,b⟩);rw[this]at h4;cases h4
  have:q0e (key x) (key s[i])=true:=(Ta _ _).2 (.inl a);rw[this]at h4;cases h4
 have z6:∀y∈s.take k,ltG key y x:=λy hy=>by
  obtain⟨i,hi⟩:=yK.1 hy;rw[List.getElem?_take]at hi;split at hi
  ·rename_i zd;obtain⟨hl,e⟩:=zB.1 hi;obtain⟨k',rfl⟩:∃k',k=k'+1:=⟨k - 1,by omega⟩
   have za:k'<s.length:=by omega
   have zb:=z8 k' rfl za;by_cases hij:i=k'
   ·subst hij;rw[<-e];exact zb
   have:=yJ.1 hs i k' hl za (by omega);rw[e]at this;exact Ol.trans this zb
  cases hi
 refine yE.2 ⟨p1,yP.2 ⟨z7,p2⟩,λy hy z hz=>?_⟩;rcases zZ.1 hz with rfl|hz
 ·exact z6 y hy
 exact p3 y hy z hz
theorem Xl(L:List α)(hd:L.Pairwise (λp q=>key p≠key q)):(u17 key L).Perm L/\(u17 key L).Pairwise (ltG key):=by
 have go:∀(r s:List α),s.Pairwise (ltG key)->(s++r).Pairwise (λp q=>key p≠key q)->(r.foldl (v1e key) s).Perm (s++r)/\(r.foldl (v1e key) s).Pairwise (ltG key):=by
  intro r;induction r with
  |nil=>intro s h _;simpa using h
  |cons x r ih=>intro s h hd;obtain⟨d1,d2,d3⟩:=yE.1 hd;have hi:=z0k key h (λy hy=>d3 y hy x (by simp));have hp:=y1o key s x;have z1:(v1e key s x++r).Perm (s++x::r):=(hp.append_right r).trans (vJ (l₁:=s) (a:=x) (l₂:=r)).symm;have z6:(v1e key s x++r).Pairwise (λp q=>key p≠key q):=(z1.pairwise_iff (λh=>Ne.symm h)).2 hd;obtain⟨i1,i2⟩:=ih (v1e key s x) hi z6;rw[xS];exact⟨i1.trans z1,i2⟩
 have h:=go L [] List.Pairwise.nil (by simpa using hd);unfold u17;simpa using h
theorem c17{l l':List α}(hs:l.Pairwise (ltG key))(z1:l'.Pairwise (ltG key))(hp:∀x,x∈l↔x∈l'):l=l':=by have z6:∀ {X:List α},X.Pairwise (ltG key)->X.Nodup:=λhx=>hx.imp (λh e=>by subst e;exact Ol.irr h);refine List.Perm.eq_of_pairwise (le:=ltG key) (λa b _ _ h k=>(Ol.irr (h.trans k)).elim) hs z1 ?_;exact(ua (z6 hs) (z6 z1)).2 hp
end
def clD(cl:List Nat)(m:Mv):Nat:=cl.getD m.dst.toNat 0
def kyM(m:Mv):Nat×Int:=Qy m.on 0
def v2h(a:Aut)(cl:List Nat)(s:Int):List Mv:=(We a s).foldl (λg m=>T8 0 g (clD cl m) m.on) []
def u1d(a:Aut)(cl:List Nat)(s:Int):List Mv:=u17 kyM (v2h a cl s)
def Gx(a:Aut)(cl:List Nat)(s:Int)(t:Nat)(ty:Nat)(y:Int):Prop:=∃m∈We a s,clD cl m=t/\PM m.on ty y
structure MrgS (T:Nat) (D:Nat->Nat->Int->Prop) (g:List Mv):Prop where
 wf:∀m∈g,PWf T m.on
 src:∀m∈g,m.src=0
 dst:∀m∈g,∃t:Nat,m.dst=t
 nd:g.Pairwise (λm k=>m.dst≠k.dst)
 mem:∀m∈g,∀t:Nat,m.dst=t->∀ty y,PM m.on ty y↔D t ty y
 all:∀t ty y,D t ty y->∃m∈g,m.dst=(t:Int)
 ne:∀m∈g,∃ty y,PM m.on ty y
def j1b{n to:Nat}{g:List Mv}{c:Prd}{T:Nat}(hg:∀m∈g,∃ty y,PM m.on ty y)(hw:∀m∈g,PWf T m.on)(hc:PWf T c)(z1:∃ty y,PM c ty y):∀m∈T8 n g to c,∃ty y,PM m.on ty y:=by
 intro m hm;unfold T8 at hm;split at hm
 ·rcases zV.1 hm with hm|hm
  ·exact hg m hm
  rw[zP.1 hm];exact z1
 split at hm
 ·rename_i m2 z6;rcases List.mem_or_eq_of_mem_set hm with hm|rfl
  ·exact hg m hm
  obtain⟨ty,y,h⟩:=z1;exact⟨ty,y,(De (hw _ (zJ z6)) hc ty y).2 (.inr h)⟩
 exact hg m hm
def w2s{a:Aut}(h:WfA a){s:Int}{m:Mv}(hm:m∈We a s):PWf a.types.toNat m.on/\∃ty y,PM m.on ty y:=by obtain⟨h1,h2,h3⟩:=Ry.1 hm;exact⟨h.on m h1,(Yp (h.on m h1)).1 h3⟩
def N7{a:Aut}(ha:Dfa a)(cl:List Nat)(s:Int):MrgS a.types.toNat (Gx a cl s) (v2h a cl s):=by
 obtain⟨N,hN⟩:∃N,∀m∈We a s,clD cl m<N:=by
  refine⟨(cl.foldl max 0)+1,λm _=>?_⟩;have key:∀(l:List Nat) (b:Nat),b<=l.foldl max b/\∀x∈l,x<=l.foldl max b:=by
   intro l;induction l with
   |nil=>intro b;simp
   |cons x l ih=>
    intro b;obtain⟨h1,h2⟩:=ih (max b x);rw[xS];refine⟨by omega,λy hy=>?_⟩;rcases zZ.1 hy with rfl|hy
    ·omega
    exact h2 y hy
  unfold clD;by_cases hl:m.dst.toNat<cl.length
  ·have:=(key cl 0).2 _ (zK hl);simp only[yS,zI hl,wC];omega
  simp[yS,xD (by omega:cl.length<=m.dst.toNat)]
 have key:∀(r:List Mv) (D:Nat->Nat->Int->Prop) (g:List Mv),MInv a.types.toNat N 0 D g->(∀m∈g,∃ty y,PM m.on ty y)->(∀m∈r,m∈We a s)->
   MInv a.types.toNat N 0 (λt ty y=>D t ty y\/∃m∈r,clD cl m=t/\PM m.on ty y) (r.foldl (λg m=>T8 0 g (clD cl m) m.on) g)/\∀m∈r.foldl (λg m=>T8 0 g (clD cl m) m.on) g,∃ty y,PM m.on ty y:=by
  intro r;induction r with
  |nil=>intro D g h hn _;exact⟨h.congr (λt ty y=>by simp),hn⟩
  |cons c r ih=>
   intro D g h hn hr;rw[xS];have hc:=w2s ha.ok.wfA (hr c (by simp));obtain⟨i1,i2⟩:=ih _ _ (h.add (hN c (hr c (by simp))) hc.1 hc.2) (j1b hn h.wf hc.1 hc.2) (λd hd=>hr d (by simp[hd]));refine⟨i1.congr (λt ty y=>?_),i2⟩;simp only[zZ,exists_eq_or_imp,or_assoc];constructor
   ·rintro(h|⟨e,h⟩|h)
    ·exact .inl h
    ·exact .inr (.inl ⟨e.symm,h⟩)
    exact .inr (.inr h)
   rintro(h|⟨e,h⟩|h)
   ·exact .inl h
   ·exact .inr (.inl ⟨e.symm,h⟩)
   exact .inr (.inr h)
 have h0:MInv a.types.toNat N 0 (λ_ _ _=>False) []:=⟨by simp,by simp,by simp,by simp,by simp,λ_ _ _ h=>h.elim⟩
 obtain⟨h1,h2⟩:=key (We a s) _ [] h0 (by simp) (λm hm=>hm);have h3:=h1.congr (D':=Gx a cl s) (λt ty y=>by simp[Gx]);exact⟨h3.wf,h3.src,λm hm=>by obtain⟨t,_,e⟩:=h3.dst m hm;exact⟨t,e⟩,h3.nd,h3.mem,h3.all,h2⟩
def MrgS.perm{T:Nat}{D:Nat->Nat->Int->Prop}{g g':List Mv}(h:MrgS T D g)(hp:g.Perm g'):MrgS T D g':=
 ⟨λm hm=>h.wf m (hp.mem_iff.2 hm),λm hm=>h.src m (hp.mem_iff.2 hm),λm hm=>h.dst m (hp.mem_iff.2 hm),(hp.pairwise_iff (λh=>Ne.symm h)).1 h.nd,λm hm=>h.mem m (hp.mem_iff.2 hm),
  λt ty y hd=>by obtain⟨m,hm,e⟩:=h.all t ty y hd;exact⟨m,hp.mem_iff.1 hm,e⟩,λm hm=>h.ne m (hp.mem_iff.2 hm)⟩
def MrgS.sub{T:Nat}{D:Nat->Nat->Int->Prop}{g g':List Mv}(h:MrgS T D g)(h':MrgS T D g'){m:Mv}(hm:m∈g):m∈g':=by
 obtain⟨t,ht⟩:=h.dst m hm;obtain⟨ty,y,hy⟩:=h.ne m hm;obtain⟨k,hk,z1⟩:=h'.all t ty y ((h.mem m hm t ht ty y).1 hy);have z6:m.on=k.on:=Pk (h.wf m hm) (h'.wf k hk) λt' n'=>by rw[h.mem m hm t ht,h'.mem k hk t z1]
 have:m=k:=by cases m;cases k;simp only at ht z1 z6;have e1:=h.src _ hm;have e2:=h'.src _ hk;simp only at e1 e2;subst z6;rw[e1,e2,ht,z1]
 rw[this];exact hk
def MrgS.apart{T:Nat}{D:Nat->Nat->Int->Prop}{g:List Mv}(h:MrgS T D g)(hD:∀t t' ty y,D t ty y->D t' ty y->t=t'):g.Pairwise (λp q=>kyM p≠kyM q):=
 h.nd.imp_of_mem λ{p q} hp hq z1 e=>by obtain⟨t,ht⟩:=h.dst p hp;obtain⟨u,hu⟩:=h.dst q hq;have h1:=(Eb (h.wf p hp) (h.ne p hp)).1;have h2:=(Eb (h.wf q hq) (h.ne q hq)).1;unfold kyM at e;rw[e]at h1;have:=hD t u _ _ ((h.mem p hp t ht _ _).1 h1) ((h.mem q hq u hu _ _).1 h2);rw[ht,hu,this]at z1;exact z1 rfl
def MrgS.uniq{T:Nat}{D:Nat->Nat->Int->Prop}{g g':List Mv}(h:MrgS T D g)(h':MrgS T D g')(s:g.Pairwise (ltG kyM))(s':g'.Pairwise (ltG kyM)):g=g':=
 c17 kyM s s' λ_=>⟨h.sub h',h'.sub h⟩
def Dfa.dom{a:Aut}(ha:Dfa a){cl:List Nat}{s:Int}{t ty:Nat}{y:Int}:Gx a cl s t ty y↔(∃x:Sy,Wk a x/\x.ty.toNat=ty/\x.num=y/\∃m∈a.mv,m.src=s/\Tj m.on x=true/\cl.getD m.dst.toNat 0=t):=by
 constructor
 ·rintro⟨m,hm,h1,h2⟩;obtain⟨g1,g2,g3⟩:=Ry.1 hm;obtain⟨z6,z1⟩:=(ha.ok.wfA.on m g1).lt h2;have hx:Wk a ⟨ty,y⟩:=⟨⟨by simp,by have:=ha.ok.types;simp;omega⟩,z1⟩
  exact⟨⟨ty,y⟩,hx,by simp,rfl,m,g1,g2,(R0 ha.ok.wfA g1 hx).2 (by simpa using h2),h1⟩
 rintro⟨x,hx,rfl,rfl,m,hm,h1,h2,h3⟩;have hp:=(R0 ha.ok.wfA hm hx).1 h2;exact⟨m,Ry.2 ⟨hm,h1,(Yp (ha.ok.wfA.on m hm)).2 ⟨_,_,hp⟩⟩,h3,hp⟩
def Pe{a:Aut}(ha:Dfa a){cl:List Nat}{s:Int}(hs:inS a s){t ty:Nat}{y:Int}:Gx a cl s t ty y↔∃x:Sy,Wk a x/\x.ty.toNat=ty/\x.num=y/\cl.getD (toL a s x).toNat 0=t:=by
 rw[ha.dom];constructor
 ·rintro⟨x,hx,h1,h2,m,hm,rfl,h4,h5⟩;exact⟨x,hx,h1,h2,by rw[ha.to_of hm hx h4];exact h5⟩
 rintro⟨x,hx,h1,h2,h3⟩;obtain⟨m,hm,e1,e2,e3⟩:=ha.move hs hx;exact⟨x,hx,h1,h2,m,hm,e1,e2,by rw[e3];exact h3⟩
def y2m{x y:Sy}{a:Aut}(hx:Wk a x)(hy:Wk a y)(h:x.ty.toNat=y.ty.toNat)(h2:x.num=y.num):x=y:=by
 have:=hx.1.1;have:=hy.1.1;cases x;cases y;simp only at *
 have:∀ {a b:Int},0<=a->0<=b->a.toNat=b.toNat->a=b:=λh0 h1 h=>by omega
 simp only[Sy.mk.injEq];exact⟨this ‹_› ‹_› h,h2⟩
def Ci{a:Aut}(ha:Dfa a){cl:List Nat}{s:Int}(hs:inS a s){t t' ty:Nat}{y:Int}(h:Gx a cl s t ty y)(h':Gx a cl s t' ty y):t=t':=by obtain⟨x,hx,h1,h2,h3⟩:=(Pe ha hs).1 h;obtain⟨x',z1,z6,z7,z8⟩:=(Pe ha hs).1 h';have:x=x':=y2m hx z1 (h1.trans z6.symm) (h2.trans z7.symm);subst this;exact h3.symm.trans z8
def T1{a:Aut}(ha:Dfa a)(cl:List Nat){s:Int}(hs:inS a s):MrgS a.types.toNat (Gx a cl s) (u1d a cl s)/\(u1d a cl s).Pairwise (ltG kyM):=by have h:=N7 ha cl s;obtain⟨h1,h2⟩:=Xl kyM (v2h a cl s) (h.apart λt t' ty y=>Ci ha hs);exact⟨h.perm h1.symm,h2⟩
def Al(a:Aut)(cl:List Nat)(s:Int)(t:Nat):List Prd:=((We a s).filter λm=>decide (clD cl m=t)).map (·.on)
def w1r{a:Aut}(ha:Dfa a)(cl:List Nat)(s:Int){ks:List Nat}(z7:ks.Nodup)(hk:∀t,t∈ks↔∃m∈We a s,clD cl m=t):
  MrgS a.types.toNat (Gx a cl s) (ks.map λt:Nat=>(⟨0,(t:Int),Iu a.types.toNat (Al a cl s t)⟩:Mv)):=by
 have z1:∀t,∀p∈Al a cl s t,PWf a.types.toNat p:=λt p hp=>by obtain⟨m,hm,rfl⟩:=zO.1 hp;exact(w2s ha.ok.wfA (xJ.1 hm).1).1
 have z6:∀t ty y,PM (Iu a.types.toNat (Al a cl s t)) ty y↔Gx a cl s t ty y:=λt ty y=>by
  rw[K3 (z1 t)];constructor
  ·rintro⟨p,hp,h⟩;obtain⟨m,hm,rfl⟩:=zO.1 hp;obtain⟨h1,h2⟩:=xJ.1 hm;exact⟨m,h1,by simpa using h2,h⟩
  rintro⟨m,hm,h1,h2⟩;exact⟨m.on,zO.2 ⟨m,xJ.2 ⟨hm,by simpa using h1⟩,rfl⟩,h2⟩
 refine⟨λm hm=>?_,λm hm=>?_,λm hm=>?_,?_,λm hm t e ty y=>?_,λt ty y hd=>?_,λm hm=>?_⟩
 ·obtain⟨t,_,rfl⟩:=zO.1 hm;exact Sp (z1 t)
 ·obtain⟨t,_,rfl⟩:=zO.1 hm;rfl
 ·obtain⟨t,_,rfl⟩:=zO.1 hm;exact⟨t,rfl⟩
 ·exact xI.2 (z7.imp λh e=>h (Int.ofNat.inj e))
 ·obtain⟨u,_,rfl⟩:=zO.1 hm;have:u=t:=Int.ofNat.inj e;subst this;exact z6 u ty y
 ·obtain⟨m,hm,h1,h2⟩:=hd;exact⟨_,zO.2 ⟨t,(hk t).2 ⟨m,hm,h1⟩,rfl⟩,rfl⟩
 obtain⟨t,ht,rfl⟩:=zO.1 hm;obtain⟨m,hm,h1⟩:=(hk t).1 ht;obtain⟨ty,y,hp⟩:=(w2s ha.ok.wfA hm).2;exact⟨ty,y,(z6 t ty y).2 ⟨m,hm,h1,hp⟩⟩
end
section
def c16(cl:List Nat)(t:Nat):Nat:=(cl.findIdx? λc=>decide (c=t)).getD 0
def Ln(a:Aut)(t:Nat):Prop:=t<(fsA a).length
def Ea(a:Aut)(s:Int):Nat:=(clA a).getD s.toNat 0
def Tz(a:Aut)(t:Nat):Nat:=c16 (clA a) t
def An{a:Aut}{s:Int}(h:inS a s):s.toNat<a.fin.length/\((s.toNat:Nat):Int)=s:=by unfold inS at h;omega
def Ts{a:Aut}(ha:Dfa a){t:Nat}(ht:Ln a t):Tz a t<a.fin.length/\Ea a (Tz a t)=t:=by
 have h:=v2g ha;have hf:=h.first (g1x ha) (zI ht);have hr:Tz a t=(fsA a)[t]:=by rw[Tz,c16,hf];rfl
 rw[xM]at hf;obtain⟨h1,h2,_⟩:=hf;rw[hr];refine⟨by rw[h.len]at h1;exact h1,?_⟩;simp only[Ea,ub,yS,zI h1,wC];simpa using h2
def Yx{a:Aut}(ha:Dfa a){t:Nat}(ht:Ln a t):inS a (Tz a t:Int):=Sf (Ts ha ht).1
def Dc{a:Aut}(ha:Dfa a){s:Int}(hs:inS a s):Ln a (Ea a s):=(v2g ha).lt_fs (An hs).1
def w0n{a:Aut}(ha:Dfa a){s t:Int}(hs:inS a s)(ht:inS a t):Ea a s=Ea a t↔eqW a a s t:=by have h1:=An hs;have h2:=An ht;rw[Ea,Ea,f1k ha h1.1 h2.1,h1.2,h2.2]
def v0x{a:Aut}(ha:Dfa a){s:Int}(hs:inS a s):eqW a a (Tz a (Ea a s)) s:=
 (w0n ha (Yx ha (Dc ha hs)) hs).1 (Ts ha (Dc ha hs)).2
def eqW.step{a b:Aut}{s t:Int}(h:eqW a b s t){x:Sy}(hx:Wk a x):eqW a b (toL a s x) (toL b t x):=λw hw=>h (x::w) (λy hy=>by
 rcases zZ.1 hy with rfl|hy
 ·exact hx
 exact hw y hy)
def F0(o:List Nat)(c:Nat):List Nat:=if c∈o then o else o++[c]
def Wn(o:List Nat)(l:List Mv):List Nat:=l.foldl (λo m=>F0 o m.dst.toNat) o
def Yi(a:Aut)(t:Nat):List Mv:=u1d a (clA a) (Tz a t:Int)
def Iq(a:Aut):Nat->Nat->List Nat->List Nat
 |0,_,o=>o
 |f+1,n,o=>match o[n]? with
  |none=>o
  |some c=>Iq a f (n+1) (Wn o (Yi a c))
def Ot(a:Aut):List Nat:=Iq a (a.fin.length+1) 0 [Ea a 0]
def Km(o:List Nat)(c:Nat):Nat:=(o.findIdx? λd=>decide (d=c)).getD 0
def mvN(a:Aut)(o:List Nat)(n:Nat):List Mv:=(Yi a (o.getD n 0)).map λm=>⟨n,(Km o m.dst.toNat:Int),m.on⟩
def Ao(a:Aut)(o:List Nat):Aut:=⟨a.types,o.map λc=>a.fin.getD (Tz a c) false,(yR o.length).flatMap (mvN a o)⟩
def Wc(a:Aut):Aut:=Ao a (Ot a)
def Hb(o:List Nat)(c:Nat):∃r,F0 o c=o++r/\∀x∈r,x=c:=by
 unfold F0;split
 ·exact⟨[],by simp,by simp⟩
 exact⟨[c],rfl,λx hx=>zP.1 hx⟩
def u0c(o:List Nat)(c:Nat):c∈F0 o c:=by
 unfold F0;split
 ·assumption
 simp
def j0n{o:List Nat}(h:o.Nodup)(c:Nat):(F0 o c).Nodup:=by
 unfold F0;split
 ·exact h
 rename_i hc;exact vN.2 ⟨h,by simp,λx hx y hy e=>by rw[zP.1 hy]at e;exact hc (e▸hx)⟩
def I6:∀(l:List Mv) (o:List Nat),o.Nodup->(∃r,Wn o l=o++r/\∀x∈r,∃m∈l,x=m.dst.toNat)/\(Wn o l).Nodup/\∀m∈l,m.dst.toNat∈Wn o l
 |[],o,h=>⟨⟨[],by simp[Wn],by simp⟩,h,by simp⟩
 |m::l,o,h=>by
  obtain⟨⟨r,h1,h2⟩,h3,h4⟩:=I6 l (F0 o m.dst.toNat) (j0n h _);obtain⟨r',h5,h6⟩:=Hb o m.dst.toNat;have he:Wn o (m::l)=Wn (F0 o m.dst.toNat) l:=rfl;rw[he];refine⟨⟨r'++r,by rw[h1,h5,List.append_assoc],λx hx=>?_⟩,h3,λk hk=>?_⟩
  ·rcases zV.1 hx with hx|hx
   ·exact⟨m,by simp,h6 x hx⟩
   obtain⟨k,hk,e⟩:=h2 x hx;exact⟨k,by simp[hk],e⟩
  rcases zZ.1 hk with rfl|hk
  ·rw[h1];exact yX _ (u0c _ _)
  exact h4 k hk
def I1{a:Aut}(ha:Dfa a){t:Nat}(ht:Ln a t){m:Mv}(hm:m∈Yi a t):∃x,Wk a x/\m.dst=(Ea a (toL a (Tz a t) x):Nat)/\inS a (toL a (Tz a t) x)/\Ln a (Ea a (toL a (Tz a t) x))/\PM m.on x.ty.toNat x.num:=by have hs:=Yx ha ht;have h:=(T1 ha (clA a) hs).1;obtain⟨u,hu⟩:=h.dst m hm;obtain⟨ty,y,hy⟩:=h.ne m hm;obtain⟨x,hx,rfl,rfl,h3⟩:=(Pe ha hs).1 ((h.mem m hm u hu ty y).1 hy);have z1:=(ha.next hs hx).1;exact⟨x,hx,by rw[hu,<-h3];rfl,z1,Dc ha z1,hy⟩
structure OrdS (a:Aut) (o:List Nat):Prop where
 first:o[0]?=some (Ea a 0)
 nd:o.Nodup
 cl:∀c∈o,Ln a c
 closed:∀c∈o,∀m∈Yi a c,m.dst.toNat∈o
def f0j{a:Aut}(ha:Dfa a):(fsA a).length<=a.fin.length:=by
 have h:=v2g ha;have z1:(fsA a).Nodup:=h.asc.imp λh e=>by omega
 have:=z1.length_le_of_subset (l₂:=yR a.fin.length) λr hr=>yT.2 (h.lt r hr);simpa using this
def Cg{a:Aut}(ha:Dfa a){o:List Nat}(hn:o.Nodup)(hc:∀c∈o,Ln a c):o.length<=a.fin.length:=by have:=hn.length_le_of_subset (l₂:=yR (fsA a).length) λc hx=>yT.2 (hc c hx);have h2:=f0j ha;simp at this;omega
def B3{a:Aut}(ha:Dfa a):∀(f n:Nat) (o:List Nat),a.fin.length+1<=n+f->n<=o.length->o[0]?=some (Ea a 0)->o.Nodup->(∀c∈o,Ln a c)->(∀i c,i<n->o[i]?=some c->∀m∈Yi a c,m.dst.toNat∈o)->OrdS a (Iq a f n o)
 |0,n,o,hf,hn,h0,z6,z1,hc=>by have:=Cg ha z6 z1;omega
 |f+1,n,o,hf,hn,h0,z6,z1,hc=>by
  unfold Iq;cases hon:o[n]? with
  |none=>
   simp only;have hl:o.length<=n:=by simpa using hon
   refine⟨h0,z6,z1,λc hx m hm=>?_⟩;obtain⟨i,hi⟩:=yK.1 hx;exact hc i c (by have:=Ef hi;omega) hi m hm
  |some c=>
   simp only;have z8:=Ef hon;obtain⟨⟨r,h1,h2⟩,h3,h4⟩:=I6 (Yi a c) o z6;have z7:=z1 c (zJ hon);refine B3 ha f (n+1) _ (by omega) (by rw[h1,z_];omega) ?_ h3 (λd hd=>?_) λi d hi hd m hm=>?_
   ·rw[h1,zF (by omega)];exact h0
   ·rw[h1]at hd;rcases zV.1 hd with hd|hd
    ·exact z1 d hd
    obtain⟨m,hm,e⟩:=h2 d hd;obtain⟨x,_,e2,_,e4,_⟩:=I1 ha z7 hm;rw[e,e2];simpa using e4
   rw[h1,zF (by omega)]at hd;by_cases e:i=n
   ·subst e;rw[hon]at hd;cases hd;exact h4 m hm
   rw[h1];exact yX _ (hc i d (by omega) hd m hm)
def T6{a:Aut}(ha:Dfa a):OrdS a (Ot a):=
 B3 ha _ 0 _ (by omega) (by simp) rfl (by simp) (λc hc=>by rw[zP.1 hc];exact Dc ha ha.zero) (λi c hi=>by omega)
section
variable {a b:Aut} (ha:Dfa a) (hb:Dfa b) (ht:b.types=a.types)
def z0y(a b:Aut)(c d:Nat):Prop:=Ln a c/\Ln b d/\eqW a b (Tz a c) (Tz b d)
structure LkO (a b:Aut) (o o':List Nat):Prop where
 len:o.length=o'.length
 k:∀(i c d:Nat),o[i]?=some c->o'[i]?=some d->z0y a b c d
theorem Wz{a b:Aut}(ht:b.types=a.types){x:Sy}:Wk b x↔Wk a x:=by unfold Wk;rw[ht]
include ha hb ht
theorem Kv{c d d':Nat}(h:z0y a b c d)(h':z0y a b c d'):d=d':=by
 have e:Ea b (Tz b d)=Ea b (Tz b d'):=(w0n hb (Yx hb h.2.1) (Yx hb h'.2.1)).2 λw hw=>by have z1:∀x∈w,Wk a x:=λx hx=>(Wz ht).1 (hw x hx);exact(h.2.2 w z1).symm.trans (h'.2.2 w z1)
 rw[(Ts hb h.2.1).2,(Ts hb h'.2.1).2]at e;exact e
theorem Fg{c c' d:Nat}(h:z0y a b c d)(h':z0y a b c' d):c=c':=by have e:Ea a (Tz a c)=Ea a (Tz a c'):=(w0n ha (Yx ha h.1) (Yx ha h'.1)).2 λw hw=>(h.2.2 w hw).trans (h'.2.2 w hw).symm;rw[(Ts ha h.1).2,(Ts ha h'.1).2]at e;exact e
theorem c0c{s t:Int}(hs:inS a s)(z1:inS b t)(h:eqW a b s t):z0y a b (Ea a s) (Ea b t):=
 ⟨Dc ha hs,Dc hb z1,λw hw=>((v0x ha hs w hw).trans (h w hw)).trans (v0x hb z1 w λx hx=>(Wz ht).2 (hw x hx)).symm⟩
theorem LkO.mem{o o':List Nat}(h:LkO a b o o'){c d:Nat}(hk:z0y a b c d):c∈o↔d∈o':=by
 constructor
 ·intro hc;obtain⟨i,hi⟩:=yK.1 hc;have hl:=Ef hi;have hl':i<o'.length:=by have:=h.len;omega
  have hd:=zI hl';rw[Kv ha hb ht hk (h.k i c _ hi hd)];exact zK hl'
 intro hd;obtain⟨i,hi⟩:=yK.1 hd;have hl:=Ef hi;have hl':i<o.length:=by have:=h.len;omega
 have hc:=zI hl';rw[Fg ha hb ht hk (h.k i _ d hc hi)];exact zK hl'
theorem LkO.step{o o':List Nat}(h:LkO a b o o'){c d:Nat}(hk:z0y a b c d):LkO a b (F0 o c) (F0 o' d):=by
 unfold F0;have hm:=h.mem ha hb ht hk;by_cases hc:c∈o
 ·rw[if_pos hc,if_pos (hm.1 hc)];exact h
 rw[if_neg hc,if_neg (λhd=>hc (hm.2 hd))];refine⟨by simp[h.len],λi x y hx hy=>?_⟩;by_cases hi:i<o.length
 ·rw[zF hi]at hx;rw[zF (by rw[<-h.len];exact hi)]at hy;exact h.k i x y hx hy
 have z1:=Ef hx;simp at z1;have:i=o.length:=by omega
 subst this;rw[zH (by omega)]at hx;rw[zH (by rw[h.len];omega)]at hy;simp[h.len]at hx hy;rw[<-hx,<-hy];exact hk
theorem v0h{c d:Nat}(h:z0y a b c d):(Yi a c).map (·.on)=(Yi b d).map (·.on)/\∀(i:Nat) (m k:Mv),(Yi a c)[i]?=some m->(Yi b d)[i]?=some k->m.on=k.on/\z0y a b m.dst.toNat k.dst.toNat:=by
 have hs:=Yx ha h.1;have z7:=Yx hb h.2.1;obtain⟨g1,s1⟩:=T1 ha (clA a) hs;obtain⟨g2,s2⟩:=T1 hb (clA b) z7;have key:∀x,Wk a x->z0y a b (Ea a (toL a (Tz a c) x)) (Ea b (toL b (Tz b d) x)):=λx hx=>
  c0c ha hb ht (ha.next hs hx).1 (hb.next z7 ((Wz ht).2 hx)).1 (h.2.2.step hx)
 have z6:∀(m:Mv) (k:Mv) (x:Sy),m∈Yi a c->k∈Yi b d->Wk a x->PM m.on x.ty.toNat x.num->PM k.on x.ty.toNat x.num->m.on=k.on/\z0y a b m.dst.toNat k.dst.toNat:=by
  intro m k x hm hk hx p1 p2;obtain⟨u,hu⟩:=g1.dst m hm;obtain⟨v,hv⟩:=g2.dst k hk;have zb:∀(z:Sy),Wk a z->(PM m.on z.ty.toNat z.num↔Ea a (toL a (Tz a c) z)=u):=λz hz=>by
   rw[g1.mem m hm u hu,Pe ha hs];constructor
   ·rintro⟨z',zc,e1,e2,e3⟩;rw[<-y2m zc hz e1 e2];exact e3
   intro e;exact⟨z,hz,rfl,rfl,e⟩
  have zd:∀(z:Sy),Wk a z->(PM k.on z.ty.toNat z.num↔Ea b (toL b (Tz b d) z)=v):=λz hz=>by
   rw[g2.mem k hk v hv,Pe hb z7];constructor
   ·rintro⟨z',zc,e1,e2,e3⟩;rw[<-y2m zc ((Wz ht).2 hz) e1 e2];exact e3
   intro e;exact⟨z,(Wz ht).2 hz,rfl,rfl,e⟩
  have ze:z0y a b u v:=by have:=key x hx;rw[(zb x hx).1 p1,(zd x hx).1 p2]at this;exact this
  have zf:=g2.wf k hk;rw[ht]at zf;refine⟨Pk (g1.wf m hm) zf λt n=>?_,by rw[hu,hv];simpa using ze⟩;have zg:∀ {p:Prd},PWf a.types.toNat p->PM p t n->Wk a ⟨t,n⟩:=λhp zh=>by obtain⟨zm,zi⟩:=hp.lt zh;exact⟨⟨by simp,by have:=ha.ok.types;simp;omega⟩,zi⟩
  constructor
  ·intro hp;have hz:=zg (g1.wf m hm) hp;have e1:=(zb ⟨t,n⟩ hz).1 (by simpa using hp);have:=key ⟨t,n⟩ hz;rw[e1]at this;have e2:=Kv ha hb ht this ze;simpa using(zd ⟨t,n⟩ hz).2 e2
  intro hp;have hz:=zg zf hp;have e1:=(zd ⟨t,n⟩ hz).1 (by simpa using hp);have:=key ⟨t,n⟩ hz;rw[e1]at this;have e2:=Fg ha hb ht this ze;simpa using(zb ⟨t,n⟩ hz).2 e2
 have zj:∀m∈Yi a c,∃k∈Yi b d,∃x,Wk a x/\PM m.on x.ty.toNat x.num/\PM k.on x.ty.toNat x.num:=λm hm=>by obtain⟨x,hx,_,_,_,hp⟩:=I1 ha h.1 hm;have za:=(Wz ht).2 hx;obtain⟨k,hk,e⟩:=g2.all _ x.ty.toNat x.num ((Pe hb z7).2 ⟨x,za,rfl,rfl,rfl⟩);exact⟨k,hk,x,hx,hp,(g2.mem k hk _ e _ _).2 ((Pe hb z7).2 ⟨x,za,rfl,rfl,rfl⟩)⟩
 have z8:∀k∈Yi b d,∃m∈Yi a c,∃x,Wk a x/\PM m.on x.ty.toNat x.num/\PM k.on x.ty.toNat x.num:=λk hk=>by obtain⟨x,za,_,_,_,hp⟩:=I1 hb h.2.1 hk;have hx:=(Wz ht).1 za;obtain⟨m,hm,e⟩:=g1.all _ x.ty.toNat x.num ((Pe ha hs).2 ⟨x,hx,rfl,rfl,rfl⟩);exact⟨m,hm,x,hx,(g1.mem m hm _ e _ _).2 ((Pe ha hs).2 ⟨x,hx,rfl,rfl,rfl⟩),hp⟩
 have z1:(Yi a c).map (·.on)=(Yi b d).map (·.on):=by
  refine c17 (λp:Prd=>Qy p 0) (xI.2 s1) (xI.2 s2) λp=>?_;constructor
  ·intro hp;obtain⟨m,hm,rfl⟩:=zO.1 hp;obtain⟨k,hk,x,hx,p1,p2⟩:=zj m hm;exact zO.2 ⟨k,hk,(z6 m k x hm hk hx p1 p2).1.symm⟩
  intro hp;obtain⟨k,hk,rfl⟩:=zO.1 hp;obtain⟨m,hm,x,hx,p1,p2⟩:=z8 k hk;exact zO.2 ⟨m,hm,(z6 m k x hm hk hx p1 p2).1⟩
 refine⟨z1,λi m k hi hk=>?_⟩;have zk:m.on=k.on:=by have e:=congrArg (λl=>l[i]?) z1;simp only[List.getElem?_map,hi,hk,wG,Option.some.injEq]at e;exact e
 have hm:=zJ hi;have zl:=zJ hk;obtain⟨x,hx,_,_,_,hp⟩:=I1 ha h.1 hm;exact z6 m k x hm zl hx hp (zk▸hp)
theorem LkO.all:∀(l l':List Mv) (o o':List Nat),l.length=l'.length->(∀(i:Nat) (m k:Mv),l[i]?=some m->l'[i]?=some k->z0y a b m.dst.toNat k.dst.toNat)->LkO a b o o'->LkO a b (Wn o l) (Wn o' l')
 |[],[],_,_,_,_,h=>h
 |[],_::_,_,_,hl,_,_=>by simp at hl
 |_::_,[],_,_,hl,_,_=>by simp at hl
 |m::l,k::l',o,o',hl,hk,h=>LkO.all l l' _ _ (by simpa using hl) (λi x y hx hy=>hk (i+1) x y (by simpa using hx) (by simpa using hy)) (h.step ha hb ht (hk 0 m k rfl rfl))
theorem LkO.bfs:∀(f n:Nat) (o o':List Nat),LkO a b o o'->LkO a b (Iq a f n o) (Iq b f n o')
 |0,_,_,_,h=>h
 |f+1,n,o,o',h=>by
  unfold Iq;cases hc:o[n]? with
  |none=>
   have:o'[n]? =none:=by rw[List.getElem?_eq_none_iff]at hc |-;rw[<-h.len];exact hc
   rw[this];exact h
  |some c=>
   have hl:=Ef hc;have hl':n<o'.length:=by rw[<-h.len];exact hl
   rw[zI hl'];simp only;have hk:=h.k n c _ hc (zI hl');obtain⟨e1,e2⟩:=v0h ha hb ht hk;have hlen:(Yi a c).length=(Yi b o'[n]).length:=by have:=congrArg vS e1;simpa using this
   exact LkO.bfs f (n+1) _ _ (LkO.all ha hb ht _ _ _ _ hlen (λi m k hi hk=>(e2 i m k hi hk).2) h)
end
def Az{a:Aut}(ha:Dfa a):∀(f n:Nat) (o:List Nat),a.fin.length+1<=n+f->n<=o.length->o.Nodup->(∀c∈o,Ln a c)->∀g,Iq a (f+g) n o=Iq a f n o
 |0,n,o,hf,hn,z6,z1,g=>by have:=Cg ha z6 z1;omega
 |f+1,n,o,hf,hn,z6,z1,g=>by
  have e:f+1+g=(f+g)+1:=by omega
  rw[e];unfold Iq;cases hon:o[n]? with
  |none=>rfl
  |some c=>
   simp only;have z8:=Ef hon;obtain⟨⟨r,h1,h2⟩,h3,h4⟩:=I6 (Yi a c) o z6;have z7:=z1 c (zJ hon);refine Az ha f (n+1) _ (by omega) (by rw[h1,z_];omega) h3 (λd hd=>?_) g;rw[h1]at hd;rcases zV.1 hd with hd|hd
   ·exact z1 d hd
   obtain⟨m,hm,e⟩:=h2 d hd;obtain⟨x,_,e2,_,e4,_⟩:=I1 ha z7 hm;rw[e,e2];simpa using e4
def g1d{a b:Aut}(ha:Dfa a)(hb:Dfa b)(ht:b.types=a.types){o o':List Nat}(h:LkO a b o o'){c d:Nat}(hk:z0y a b c d):Km o c=Km o' d:=by
 have z1:∀(i:Nat) (x y:Nat),o[i]?=some x->o'[i]?=some y->(decide (x=c)=decide (y=d)):=λi x y hx hy=>by
  have:=h.k i x y hx hy;rw[decide_eq_decide];constructor
  ·intro e;subst e;exact Kv ha hb ht this hk
  intro e;subst e;exact Fg ha hb ht this hk
 have key:∀(o o':List Nat),o.length=o'.length->(∀(i:Nat) (x y:Nat),o[i]?=some x->o'[i]?=some y->(decide (x=c)=decide (y=d)))->(o.findIdx? λe=>decide (e=c))=(o'.findIdx? λe=>decide (e=d)):=by
  intro o;induction o with
  |nil=>
   intro o' hl _;cases o' with
   |nil=>rfl
   |cons y o'=>simp at hl
  |cons x o ih=>
   intro o' hl hf;cases o' with
   |nil=>simp at hl
   |cons y o'=>rw[tx,tx,hf 0 x y rfl rfl,ih o' (by simpa using hl) λi u v hu hv=>hf (i+1) u v (by simpa using hu) (by simpa using hv)]
 unfold Km;rw[key o o' h.len z1]
def j0h{a b:Aut}(ha:Dfa a)(hb:Dfa b)(ht:b.types=a.types)(hw:eqW a b 0 0):Wc a=Wc b:=by
 have h0:LkO a b [Ea a 0] [Ea b 0]:=⟨rfl,λi c d hc hd=>by
  have hi:=Ef hc;simp at hi;subst hi;simp at hc hd;rw[<-hc,<-hd];exact c0c ha hb ht ha.zero hb.zero hw⟩
 have z1:∀ {x:Aut},Dfa x->∀c∈[Ea x 0],Ln x c:=λhx c hc=>by rw[zP.1 hc];exact Dc hx hx.zero
 have hL:LkO a b (Ot a) (Ot b):=by have h1:=LkO.bfs ha hb ht (a.fin.length+1+b.fin.length) 0 _ _ h0;rw[show a.fin.length+1+b.fin.length=b.fin.length+1+a.fin.length by omega]at h1;have e2:=Az hb (b.fin.length+1) 0 [Ea b 0] (by omega) (by simp) (by simp) (z1 hb) a.fin.length;rw[e2,show b.fin.length+1+a.fin.length=a.fin.length+1+b.fin.length by omega,Az ha (a.fin.length+1) 0 [Ea a 0] (by omega) (by simp) (by simp) (z1 ha) b.fin.length]at h1;exact h1
 have z7:∀n,n<(Ot a).length->mvN a (Ot a) n=mvN b (Ot b) n:=λn hn=>by
  have z6:n<(Ot b).length:=by rw[<-hL.len];exact hn
  have hk:=hL.k n _ _ (zI hn) (zI z6);obtain⟨e1,e2⟩:=v0h ha hb ht hk;have g1:(Ot a).getD n 0=(Ot a)[n]:=by simp[yS,hn]
  have g2:(Ot b).getD n 0=(Ot b)[n]:=by simp[yS,z6]
  unfold mvN;rw[g1,g2];have hlen:(Yi a (Ot a)[n]).length=(Yi b (Ot b)[n]).length:=by have:=congrArg vS e1;simpa using this
  refine ws (by simpa using hlen) λi h1 h2=>?_;simp only[zY]at h1 h2;obtain⟨e3,e4⟩:=e2 i _ _ (zI h1) (zI h2);simp only[uQ];rw[e3,g1d ha hb ht hL e4]
 unfold Wc Ao;rw[ht]
 congr 1
 ·refine ws (by simpa using hL.len) λi h1 h2=>?_;simp only[zY]at h1 h2;have hk:=hL.k i _ _ (zI h1) (zI h2);simp only[uQ];have:=hk.2.2 [] (by simp);simpa[Lb,stF]using this
 rw[<-hL.len];rw[uR,uR]
 congr 1
 exact xC λn hn=>z7 n (yT.1 hn)
end
section
def v27{α:Type}{l:List α}(h:l.Nodup){i j:Nat}(hi:i<l.length)(hj:j<l.length)(e:l[i]=l[j]):i=j:=by
 rcases wT i j with k|k|k
 ·exact absurd e (yJ.1 h i j hi hj k)
 ·exact k
 exact absurd e.symm (yJ.1 h j i hj hi k)
def x1b{o:List Nat}(hn:o.Nodup){i c:Nat}(h:o[i]?=some c):Km o c=i:=by
 unfold Km;have:(o.findIdx? λd=>decide (d=c))=some i:=g0v h (by simp) λi j x y hx hy e1 e2=>by
  have e3:x=c:=by simpa using e1
  have e4:y=c:=by simpa using e2
  subst e3 e4;obtain⟨hi,e5⟩:=zB.1 hx;obtain⟨hj,e6⟩:=zB.1 hy;exact v27 hn hi hj (e5.trans e6.symm)
 rw[this];rfl
def z07{o:List Nat}(hn:o.Nodup){c:Nat}(h:c∈o):o[Km o c]?=some c:=by obtain⟨i,hi⟩:=yK.1 h;rw[x1b hn hi];exact hi
def Po{a:Aut}{o:List Nat}{m:Mv}:m∈(Ao a o).mv↔∃(n c:Nat),o[n]?=some c/\∃k∈Yi a c,m=⟨n,(Km o k.dst.toNat:Int),k.on⟩:=by
 unfold Ao mvN;simp only[xV,yT,zO];constructor
 ·rintro⟨n,hn,k,hk,rfl⟩;have e:o.getD n 0=o[n]:=by simp[yS,hn]
  rw[e]at hk;exact⟨n,_,zI hn,k,hk,rfl⟩
 rintro⟨n,c,hn,k,hk,rfl⟩;have e:o.getD n 0=c:=by simp[yS,hn]
 exact⟨n,Ef hn,k,by rw[e];exact hk,rfl⟩
def Kr{a:Aut}(o:List Nat):(Ao a o).fin.length=o.length:=by simp[Ao]
def w0v(a:Aut):(Wc a).types=a.types:=rfl
def Ca{a:Aut}(ha:Dfa a):WfA (Wc a):=by
 have ho:=T6 ha;have z1:(Wc a).fin.length=(Ot a).length:=Kr _;have z6:=Ef ho.first;refine⟨ha.ok.types,by omega,λm hm=>?_,λm hm=>?_,λm hm=>?_⟩
 ·obtain⟨n,c,hn,k,hk,rfl⟩:=Po.1 hm;have:=Ef hn;rw[z1];exact⟨by simp,by simpa using this⟩
 ·obtain⟨n,c,hn,k,hk,rfl⟩:=Po.1 hm;have:=Ef (z07 ho.nd (ho.closed c (zJ hn) k hk));rw[z1];exact⟨by simp,by simpa using this⟩
 obtain⟨n,c,hn,k,hk,rfl⟩:=Po.1 hm;exact(T1 ha (clA a) (Yx ha (ho.cl c (zJ hn)))).1.wf k hk
def k03{a:Aut}(ha:Dfa a):z0g (Wc a):=λs h0 h1 x hx=>by
 have ho:=T6 ha;have z6:(Wc a).fin.length=(Ot a).length:=Kr _;have z1:Wk a x:=hx;have hn:s.toNat<(Ot a).length:=by omega
 have hc:=ho.cl _ (zK hn);have hs:=Yx ha hc;have h:=(T1 ha (clA a) hs).1;have hd:Gx a (clA a) (Tz a (Ot a)[s.toNat]) (Ea a (toL a (Tz a (Ot a)[s.toNat]) x)) x.ty.toNat x.num:=(Pe ha hs).2 ⟨x,z1,rfl,rfl,rfl⟩;obtain⟨k,hk,e⟩:=h.all _ _ _ hd;have hm:=Po.2 ⟨s.toNat,_,zI hn,k,hk,rfl⟩;refine⟨_,hm,by simp;omega,?_⟩;exact(R0 (Ca ha) hm hx).2 ((h.mem k hk _ e _ _).2 hd)
def f0n{a:Aut}(ha:Dfa a):A2 (Wc a):=by
 have ho:=T6 ha;unfold A2 Wc Ao;simp only;rw[vA];have hg:∀n,n<(Ot a).length->(Ot a).getD n 0=(Ot a)[n]?.getD 0:=λn hn=>by simp[yS]
 constructor
 ·intro n hn;have z1:=yT.1 hn;have hc:=ho.cl _ (zK z1);have hs:=Yx ha hc;have h:=(T1 ha (clA a) hs).1;have e:(Ot a).getD n 0=(Ot a)[n]:=by simp[yS,z1]
  unfold mvN;rw[e];refine xI.2 (h.nd.imp_of_mem λ{m k} hm hk hne _ x hx=>?_);rintro⟨h1,h2⟩;have z6:Wk a x:=hx;have p1:=(Rs (h.wf m hm).1 x z6.1.1).1 h1;have p2:=(Rs (h.wf k hk).1 x z6.1.1).1 h2;obtain⟨u,hu⟩:=h.dst m hm;obtain⟨v,hv⟩:=h.dst k hk;have:=Ci ha hs ((h.mem m hm u hu _ _).1 p1) ((h.mem k hk v hv _ _).1 p2);exact hne (by rw[hu,hv,this])
 refine yJ.2 λi j hi hj z7 m hm k hk e=>?_;simp only[List.getElem_range]at hm hk;unfold mvN at hm hk;obtain⟨m',_,rfl⟩:=zO.1 hm;obtain⟨k',_,rfl⟩:=zO.1 hk;simp at e;omega
def Dt{α β:Type}(rs:List β)(hn:rs.Nodup)(p:β->α->Bool)(hp:∀s t x,p s x=true->p t x=true->s=t):∀l:List α,(rs.map λs=>(l.filter (p s)).length).sum<=l.length
 |[]=>by have:(rs.map λs=>(([]:List α).filter (p s)).length)=rs.map λ_=>0:=xC λs _=>rfl;rw[this,vL];simp
 |x::l=>by
  have ih:=Dt rs hn p hp l;have key:∀(rs:List β),rs.Nodup->(rs.map λs=>((x::l).filter (p s)).length).sum<=(rs.map λs=>(l.filter (p s)).length).sum+(bif rs.any (λs=>p s x)then 1 else 0):=by
   intro rs;induction rs with
   |nil=>intro _;simp
   |cons s rs ih2=>
    intro z1;obtain⟨z6,z7⟩:=List.nodup_cons.1 z1;have:=ih2 z7;simp only[xA,uG,List.any_cons];by_cases hps:p s x=true
    ·have z8:rs.any (λs=>p s x)=false:=by rw[List.any_eq_false];intro t ht za;exact z6 (hp s t x hps za▸ht)
     rw[z8]at this;rw[List.filter_cons_of_pos hps,hps];simp only[Bool.true_or,cond_true,cond_false,yV]at this |-;omega
    rw[List.filter_cons_of_neg hps,show p s x=false by simpa using hps];simp only[Bool.false_or];omega
  have:=key rs hn;rw[yV];cases hc:rs.any (λs=>p s x)<;>rw[hc]at this<;>simp only[cond_true,cond_false]at this<;>omega
def f1b(a:Aut)(cl:List Nat)(s:Int):(v2h a cl s).length<=(We a s).length:=by
 have h1:∀(n:Nat) (g:List Mv) (to:Nat) (c:Prd),(T8 n g to c).length<=g.length+1:=λn g to c=>by
  unfold T8;split
  ·simp
  split<;>simp
 have h2:∀(r g:List Mv),(r.foldl (λg m=>T8 0 g (clD cl m) m.on) g).length<=g.length+r.length:=by
  intro r;induction r with
  |nil=>intro g;simp
  |cons m r ih=>intro g;have e:=ih (T8 0 g (clD cl m) m.on);have e2:=h1 0 g (clD cl m) m.on;rw[xS,yV];omega
 have:=h2 (We a s) [];simpa[v2h]using this
def Ck{a:Aut}(ha:Dfa a){t:Nat}(ht:Ln a t):(Yi a t).length<=(We a (Tz a t)).length:=by have h:=N7 ha (clA a) (Tz a t);have hp:=(Xl kyM (v2h a (clA a) (Tz a t)) (h.apart λt' t'' ty y=>Ci ha (Yx ha ht))).1.length_eq;have:=f1b a (clA a) (Tz a t);unfold Yi u1d;omega
def Ny{a:Aut}(ha:Dfa a):(Wc a).mv.length<=a.mv.length:=by
 have ho:=T6 ha;have z1:∀c∈Ot a,∀d∈Ot a,Tz a c=Tz a d->c=d:=λc hc d hd e=>by have e1:=(Ts ha (ho.cl c hc)).2;have e2:=(Ts ha (ho.cl d hd)).2;rw[<-e1,<-e2,e]
 have hlen:(Wc a).mv.length=((Ot a).map λc=>(Yi a c).length).sum:=by
  unfold Wc Ao;simp only[vG]
  congr 1
  refine ws (by simp) λi h1 h2=>?_;have hi:i<(Ot a).length:=by simpa using h1
  simp[mvN,yS,hi]
 have hle:((Ot a).map λc=>(Yi a c).length).sum<=(((Ot a).map λc=>((Tz a c:Nat):Int)).map λs=>(We a s).length).sum:=by
  rw[vX];have key:∀l:List Nat,(∀c∈l,Ln a c)->(l.map λc=>(Yi a c).length).sum<=(l.map ((λs=>(We a s).length)∘λc=>((Tz a c:Nat):Int))).sum:=by
   intro l;induction l with
   |nil=>intro _;simp
   |cons c l ih=>intro hc;have h1:=ih λd hd=>hc d (by simp[hd]);have h2:=Ck ha (hc c (by simp));simp only[xA,uG,Function.comp_apply];omega
  exact key _ ho.cl
 have z6:((Ot a).map λc=>((Tz a c:Nat):Int)).Nodup:=by refine xI.2 ?_;refine List.Pairwise.imp_of_mem ?_ ho.nd;intro c d hc hd z7 e;exact z7 (z1 c hc d hd (by omega))
 have:=Dt _ z6 (λs (m:Mv)=>decide (m.src=s) && !Wj m.on) (λs t x h1 h2=>by
  simp only[zX,decide_eq_true_eq]at h1 h2;rw[<-h1.1,<-h2.1]) a.mv
 rw[hlen];unfold We at hle;omega
def g0f{a:Aut}(ha:Dfa a):(Wc a).fin.length<=a.fin.length:=by have ho:=T6 ha;rw[Wc,Kr];exact Cg ha ho.nd ho.cl
def Lf(m:Aut):Bool:=m.mv.any λk=>k.on.any λs=>decide (256<s.length)
def u0x{a:Aut}(ha:Dfa a):C6 (Wc a)=Lf (Wc a):=by have h1:=g0f ha;have h2:=Ny ha;have h3:=ha.ok.fin;have h4:=ha.ok.mvs;unfold C6 Lf;rw[decide_eq_false (by omega),decide_eq_false (by omega)];simp
def H8{a:Aut}(ha:Dfa a)(hb:Lf (Wc a)=false):Dfa (Wc a):=
 ⟨(Y4 _).1 ((c15 (Ca ha)).2 (by rw[u0x ha];exact hb)),f0n ha,k03 ha⟩
section
variable {a:Aut} (ha:Dfa a) (hb:Lf (Wc a)=false)
include ha hb
theorem j18{n c:Nat}(hn:(Ot a)[n]?=some c){x:Sy}(hx:Wk a x):toL (Wc a) n x=(Km (Ot a) (Ea a (toL a (Tz a c) x)):Nat)/\Ea a (toL a (Tz a c) x)∈Ot a:=by have ho:=T6 ha;have hd:=H8 ha hb;have hc:=ho.cl _ (zJ hn);have hs:=Yx ha hc;have h:=(T1 ha (clA a) hs).1;have z6:Gx a (clA a) (Tz a c) (Ea a (toL a (Tz a c) x)) x.ty.toNat x.num:=(Pe ha hs).2 ⟨x,hx,rfl,rfl,rfl⟩;obtain⟨k,hk,e⟩:=h.all _ _ _ z6;have hm:=Po.2 ⟨n,c,hn,k,hk,rfl⟩;have z1:=ho.closed c (zJ hn) k hk;rw[e]at z1;simp only[ub]at z1;refine⟨?_,z1⟩;have:=hd.to_of hm (x:=x) hx ((R0 hd.ok.wfA hm hx).2 ((h.mem k hk _ e _ _).2 z6));simp only[e,ub]at this;exact this
theorem L6:∀(w:List Sy) {n c:Nat},(Ot a)[n]?=some c->(∀x∈w,Wk a x)->Lb (Wc a) n w=Lb a (Tz a c) w
 |[],n,c,hn,_=>by simp only[Lb,stF,List.foldl_nil,ub];simp[Wc,Ao,yS,hn]
 |x::w,n,c,hn,hw=>by have hx:=hw x (by simp);have ho:=T6 ha;obtain⟨h1,h2⟩:=j18 ha hb hn hx;have ih:=L6 w (z07 ho.nd h2) (λy hy=>hw y (by simp[hy]));have hc:=ho.cl _ (zJ hn);have z1:=(ha.next (Yx ha hc) hx).1;have e:=v0x ha z1 w (λy hy=>hw y (by simp[hy]));have e1:Lb (Wc a) n (x::w)=Lb (Wc a) (toL (Wc a) n x) w:=rfl;have e2:Lb a (Tz a c) (x::w)=Lb a (toL a (Tz a c) x) w:=rfl;rw[e1,e2,h1,ih,e]
theorem k0q:eqW (Wc a) a 0 0:=λw hw=>by have ho:=T6 ha;have h1:=L6 ha hb w ho.first hw;have h2:=v0x ha ha.zero w hw;simp only[Int.cast_ofNat_Int]at h1;exact h1.trans h2
theorem w16{w:List Sy}(hw:∀x∈w,Wk a x):Rc (Wc a) w=Rc a w:=by rw[(H8 ha hb).acc (w:=w) hw,ha.acc hw];exact k0q ha hb w hw
end
def Dz(a:Aut):Int×Aut:=if(Ej a).1≠0 then((Ej a).1,Ix)else if(G4 (Ej a).2).1≠0 then((G4 (Ej a).2).1,Ix)else
 if Lf (Wc (G4 (Ej a).2).2)then(5,Ix)else(0,Wc (G4 (Ej a).2).2)
def d0s{a d c:Aut}(h:OkA a)(hd:Ej a=(0,d))(hc:G4 d=(0,c)):Dfa c/\c.types=a.types/\∀w,(∀x∈w,Wk a x)->Rc c w=Rc a w:=by obtain⟨Q,_,_,_,_,_,z1,ddet,z6,dacc⟩:=I9 h hd;obtain⟨z7,z8,cfull,cdet,cacc⟩:=k1i z1 hc;exact⟨⟨z7,cdet ddet,cfull⟩,z8.trans z6,λw hw=>(cacc w).trans (dacc w hw)⟩
def V1{a m:Aut}(h:OkA a)(hm:Dz a=(0,m)):∃c,Dfa c/\c.types=a.types/\m=Wc c/\Lf (Wc c)=false/\∀w,(∀x∈w,Wk a x)->Rc c w=Rc a w:=by
 unfold Dz at hm;split at hm
 ·rename_i hd;exact absurd (u_.1 hm).1 hd
 rename_i hd;split at hm
 ·rename_i hc;exact absurd (u_.1 hm).1 hc
 rename_i hc;split at hm
 ·simp at hm
 rename_i hb;obtain⟨h1,h2,h3⟩:=d0s h (d:=(Ej a).2) (c:=(G4 (Ej a).2).2) (uo (by simpa using hd) rfl) (uo (by simpa using hc) rfl);exact⟨_,h1,h2,(u_.1 hm).2.symm,by simpa using hb,h3⟩
def w0k{a:Aut}(h:OkA a):(Dz a).1=0\/(Dz a).1=5:=by
 unfold Dz;split
 ·rename_i hd;rcases w2p h with k|k
  ·exact absurd k hd
  exact .inr k
 split
 ·rename_i hc;rcases x2f (Ej a).2 with k|k
  ·exact absurd k hc
  exact .inr k
 split
 ·exact .inr rfl
 exact .inl rfl
def x0y{a b m:Aut}(ha:OkA a)(hb:OkA b)(ht:b.types=a.types)(hw:∀w,(∀x∈w,Wk a x)->Rc a w=Rc b w){n:Aut}(hm:Dz a=(0,m))(hn:Dz b=(0,n)):m=n:=by
 obtain⟨c,c1,c2,rfl,c4,c5⟩:=V1 ha hm;obtain⟨d,d1,d2,rfl,d4,d5⟩:=V1 hb hn;have z6:d.types=c.types:=by rw[d2,ht,c2]
 refine j0h c1 d1 z6 λw z1=>?_;have h1:∀x∈w,Wk a x:=λx hx=>(Wz c2).1 (z1 x hx);have h2:∀x∈w,Wk b x:=λx hx=>(Wz ht).2 (h1 x hx);have h3:∀x∈w,Wk d x:=λx hx=>(Wz z6).2 (z1 x hx);rw[<-c1.acc z1,<-d1.acc h3,c5 w h1,d5 w h2];exact hw w h1
def q0g{a m:Aut}(ha:OkA a)(hm:Dz a=(0,m)):OkA m/\Dfa m/\m.types=a.types/\(∀w,(∀x∈w,Wk a x)->Rc m w=Rc a w)/\((Dz m).1=5\/Dz m=(0,m)):=by
 obtain⟨c,c1,c2,rfl,c4,c5⟩:=V1 ha hm;have hd:=H8 c1 c4;have z1:∀w,(∀x∈w,Wk a x)->Rc (Wc c) w=Rc a w:=λw hw=>by rw[w16 c1 c4 (λx hx=>(Wz c2).2 (hw x hx))];exact c5 w hw
 refine⟨hd.ok,hd,c2,z1,?_⟩;rcases w0k hd.ok with h0|h5
 ·obtain⟨n,hn⟩:∃n,Dz (Wc c)=(0,n):=⟨_,uo h0 rfl⟩
  have:=x0y ha hd.ok c2 (λw hw=>(z1 w hw).symm) hm hn;exact .inr (by rw[hn,<-this])
 exact .inl h5
end
def addI(o:List Int)(c:Int):List Int:=if c∈o then o else o++[c]
structure Dta (a:Aut):Prop where
 ok:OkA a
 det:A2 a
def g2s{α:Type}{R:α->α->Prop}{l:List α}(h:l.Pairwise R){x y:α}(hx:x∈l)(hy:y∈l)(h1:¬R x y)(h2:¬R y x):x=y:=by
 obtain⟨i,hi,rfl⟩:=yY hx;obtain⟨j,hj,rfl⟩:=yY hy;rcases wT i j with k|k|k
 ·exact absurd (yJ.1 h i j hi hj k) h1
 ·subst k;rfl
 exact absurd (yJ.1 h j i hj hi k) h2
def Dta.one{a:Aut}(h:Dta a){m k:Mv}(hm:m∈a.mv)(hk:k∈a.mv)(hs:m.src=k.src){x:Sy}(hx:Wk a x)(h1:Tj m.on x=true)(h2:Tj k.on x=true):m=k:=
 g2s h.det hm hk (λhr=>hr hs x hx ⟨h1,h2⟩) (λhr=>hr hs.symm x hx ⟨h2,h1⟩)
def Dta.to_of{a:Aut}(h:Dta a){m:Mv}(hm:m∈a.mv){x:Sy}(hx:Wk a x)(hh:Tj m.on x=true):toL a m.src x=m.dst:=by
 unfold toL;cases hf:a.mv.find? (λk=>decide (k.src=m.src) && Tj k.on x)with
 |none=>rw[vM]at hf;have:=hf m hm;simp[hh]at this
 |some k=>have h1:=uL hf;simp only[zX,decide_eq_true_eq]at h1;rw[h.one (vC hf) hm h1.1 hx h1.2 hh]
def Hs{a:Aut}(s:Int)(x:Sy):(toL a s x= -1/\∀m∈a.mv,m.src=s->Tj m.on x=false)\/∃m∈a.mv,m.src=s/\Tj m.on x=true/\toL a s x=m.dst:=by
 unfold toL;cases hf:a.mv.find? (λk=>decide (k.src=s) && Tj k.on x)with
 |none=>rw[vM]at hf;refine .inl ⟨rfl,λm hm e=>?_⟩;have:=hf m hm;simpa[e]using this
 |some k=>have h1:=uL hf;simp only[zX,decide_eq_true_eq]at h1;exact .inr ⟨k,vC hf,h1.1,h1.2,rfl⟩
def f2c{a:Aut}(h:OkA a)(s:Int)(x:Sy):toL a s x= -1\/inS a (toL a s x):=by
 rcases Hs (a:=a) s x with⟨h1,_⟩|⟨m,hm,_,_,e⟩
 ·exact .inl h1
 rw[e];exact .inr (h.mv m hm).dst
section
def x2e{a:Aut}(h:OkA a)(x:Sy):toL a (-1) x= -1:=by
 rcases Hs (a:=a) (-1) x with⟨h1,_⟩|⟨m,hm,h2,_,_⟩
 ·exact h1
 have:=(h.mv m hm).src.1;omega
def inD(a:Aut)(s:Int):Prop:=s= -1\/inS a s
def Xn{a:Aut}(h:OkA a)(s:Int)(x:Sy):inD a (toL a s x):=f2c h s x
def z05(a:Aut)(s:Int):Bool:=decide (s≠ -1) && a.fin.getD s.toNat false
def mvS(a:Aut)(s:Int):List Mv:=a.mv.filter λm=>decide (m.src=s)
def Wo(a:Aut)(s:Int):List (Option Mv):=(mvS a s).map some++[none]
def D2:Option Mv->Int
 |some m=>m.dst
 |none=> -1
def q0r(a:Aut)(s:Int):Option Mv->Prd
 |some m=>m.on
 |none=>Ro (Iu a.types.toNat ((mvS a s).map (·.on)))
def g06(a:Aut)(s:Int)(o:Option Mv)(x:Sy):Prop:=PM (q0r a s o) x.ty.toNat x.num
def Rz{a:Aut}{s:Int}{m:Mv}:m∈mvS a s↔m∈a.mv/\m.src=s:=by unfold mvS;rw[xJ,decide_eq_true_eq]
def Od{a:Aut}{s:Int}{o:Option Mv}:o∈Wo a s↔o=none\/∃m∈mvS a s,o=some m:=by
 unfold Wo;rw[zV,zO,zP];constructor
 ·rintro(⟨m,hm,rfl⟩|rfl)
  ·exact .inr ⟨m,hm,rfl⟩
  exact .inl rfl
 rintro(rfl|⟨m,hm,rfl⟩)
 ·exact .inr rfl
 exact .inl ⟨m,hm,rfl⟩
def K4{a:Aut}(h:OkA a)(s:Int):∀p∈(mvS a s).map (·.on),PWf a.types.toNat p:=λr hr=>by obtain⟨m,hm,rfl⟩:=zO.1 hr;exact h.wfA.on m (Rz.1 hm).1
def Vp{a:Aut}(h:OkA a){s:Int}{o:Option Mv}(ho:o∈Wo a s):PWf a.types.toNat (q0r a s o):=by
 rcases Od.1 ho with rfl|⟨m,hm,rfl⟩
 ·exact A7 (Sp (K4 h s))
 exact h.wfA.on m (Rz.1 hm).1
def Pc{a:Aut}(h:OkA a)(s:Int){x:Sy}(hx:Wk a x):g06 a s none x↔∀m∈mvS a s,Tj m.on x=false:=by
 unfold g06 q0r;rw[He (Sp (K4 h s)),K3 (K4 h s)];have hk:=U6.2 hx;constructor
 ·rintro⟨_,hn⟩ m hm;cases hh:Tj m.on x with
  |false=>rfl
  |true=>exact absurd ⟨m.on,zO.2 ⟨m,hm,rfl⟩,(R0 h.wfA (Rz.1 hm).1 hx).1 hh⟩ hn
 intro hn;refine⟨hk.2,?_⟩;rintro⟨r,hr,z1⟩;obtain⟨m,hm,rfl⟩:=zO.1 hr;have:=hn m hm;rw[(R0 h.wfA (Rz.1 hm).1 hx).2 z1]at this;cases this
def Pv{a:Aut}(h:OkA a){s:Int}{m:Mv}(hm:m∈mvS a s){x:Sy}(hx:Wk a x):g06 a s (some m) x↔Tj m.on x=true:=(R0 h.wfA (Rz.1 hm).1 hx).symm
def x0g{a:Aut}(h:Dta a){s:Int}{o:Option Mv}(ho:o∈Wo a s){x:Sy}(hx:Wk a x)(hh:g06 a s o x):toL a s x=D2 o:=by
 rcases Od.1 ho with rfl|⟨m,hm,rfl⟩
 ·have hn:=(Pc h.ok s hx).1 hh;rcases Hs (a:=a) s x with⟨h1,_⟩|⟨m,h1,h2,h3,_⟩
  ·exact h1
  rw[hn m (Rz.2 ⟨h1,h2⟩)]at h3;cases h3
 obtain⟨h1,h2⟩:=Rz.1 hm;rw[<-h2];exact h.to_of h1 hx ((Pv h.ok hm hx).1 hh)
def y1n{a:Aut}(h:OkA a)(s:Int){x:Sy}(hx:Wk a x):∃o∈Wo a s,g06 a s o x:=by
 by_cases hn:∀m∈mvS a s,Tj m.on x=false
 ·exact⟨none,Od.2 (.inl rfl),(Pc h s hx).2 hn⟩
 have:∃m∈mvS a s,Tj m.on x=true:=Classical.byContradiction λk=>hn λm hm=>by
  cases hh:Tj m.on x with
  |false=>rfl
  |true=>exact absurd ⟨m,hm,hh⟩ k
 obtain⟨m,hm,hh⟩:=this;exact⟨some m,Od.2 (.inr ⟨m,hm,rfl⟩),(Pv h hm hx).2 hh⟩
def v0q{a:Aut}(h:Dta a)(s:Int):(Wo a s).Pairwise (λo r=>∀x,Wk a x->g06 a s o x->¬g06 a s r x):=by
 unfold Wo;rw[yE,xI];refine⟨?_,List.pairwise_singleton ..,λo ho r hr x hx h1 h2=>?_⟩
 ·have hp:(mvS a s).Pairwise (λm k=>m.src=k.src->∀x:Sy,Wk a x->¬(Tj m.on x=true/\Tj k.on x=true)):=h.det.filter _;refine hp.imp_of_mem λ{m k} hm hk hr x hx h1 h2=>?_;have e:m.src=k.src:=by rw[(Rz.1 hm).2,(Rz.1 hk).2]
  exact hr e x hx ⟨(Pv h.ok hm hx).1 h1,(Pv h.ok hk hx).1 h2⟩
 rw[zP.1 hr]at h2;obtain⟨m,hm,rfl⟩:=zO.1 ho;have:=(Pc h.ok s hx).1 h2 m hm;rw[(Pv h.ok hm hx).1 h1]at this;cases this
def w0m(a b:Aut)(s:Int×Int)(o r:Option Mv):Prd:=W1 (q0r a s.1 o) (q0r b s.2 r)
def j15(a b:Aut)(s:Int×Int)(o r:Option Mv):Option (Sy×(Int×Int)):=if Wj (w0m a b s o r)then none else some (Qm (w0m a b s o r),(D2 o,D2 r))
def V7(a b:Aut)(s:Int×Int):List (Sy×(Int×Int)):=(Wo a s.1).flatMap λo=>(Wo b s.2).filterMap (j15 a b s o)
section
variable {a b:Aut} (ha:Dta a) (hb:Dta b) (ht:b.types=a.types) {s:Int×Int}
include ha hb ht
theorem x19{o r:Option Mv}(ho:o∈Wo a s.1)(hr:r∈Wo b s.2):PWf a.types.toNat (w0m a b s o r)/\∀t n,PM (w0m a b s o r) t n↔PM (q0r a s.1 o) t n/\PM (q0r b s.2 r) t n:=by have w1:=Vp ha.ok ho;have w2:=Vp hb.ok hr;rw[ht]at w2;exact⟨Tc w1 w2.1,El w1.1 w2.1⟩
theorem Is{o r:Option Mv}(ho:o∈Wo a s.1)(hr:r∈Wo b s.2){e:Sy×(Int×Int)}(he:j15 a b s o r=some e):Wk a e.1/\g06 a s.1 o e.1/\g06 b s.2 r e.1/\e.2=(D2 o,D2 r)/\∀y,Wk a y->g06 a s.1 o y->g06 b s.2 r y->e.1=y\/sLt e.1 y:=by
 obtain⟨hw,z1⟩:=x19 ha hb ht ho hr;unfold j15 at he;split at he
 ·cases he
 rename_i hv;obtain rfl:=Option.some.inj he;obtain⟨k1,k2,k3⟩:=Y6 hw ((Yp hw).1 (by simpa using hv));obtain⟨p1,p2⟩:=(z1 _ _).1 k2;exact⟨U6.1 k1,p1,p2,rfl,λy hy h1 h2=>k3 y (U6.2 hy) ((z1 _ _).2 ⟨h1,h2⟩)⟩
theorem f0z{e:Sy×(Int×Int)}:e∈V7 a b s↔∃o∈Wo a s.1,∃r∈Wo b s.2,j15 a b s o r=some e:=by unfold V7;rw[xV];simp only[wI]
theorem u2m{e:Sy×(Int×Int)}(he:e∈V7 a b s):Wk a e.1/\e.2=Rb a b s e.1:=by obtain⟨o,ho,r,hr,h⟩:=(f0z ha hb ht).1 he;obtain⟨k1,k2,k3,k4,_⟩:=Is ha hb ht ho hr h;refine⟨k1,?_⟩;rw[k4];unfold Rb;rw[x0g ha ho k1 k2,x0g hb hr ((Wz ht).2 k1) k3]
theorem z2t{y:Sy}(hy:Wk a y):∃e∈V7 a b s,e.2=Rb a b s y/\(e.1=y\/sLt e.1 y):=by
 have z1:=(Wz ht).2 hy;obtain⟨o,ho,h1⟩:=y1n ha.ok s.1 hy;obtain⟨r,hr,h2⟩:=y1n hb.ok s.2 z1;obtain⟨hw,z6⟩:=x19 ha hb ht ho hr;have hv:Wj (w0m a b s o r)=false:=(Yp hw).2 ⟨_,_,(z6 _ _).2 ⟨h1,h2⟩⟩;have he:j15 a b s o r=some (Qm (w0m a b s o r),(D2 o,D2 r)):=by unfold j15;rw[hv,if_neg (by simp)]
 refine⟨_,(f0z ha hb ht).2 ⟨o,ho,r,hr,he⟩,?_,(Is ha hb ht ho hr he).2.2.2.2 y hy h1 h2⟩;unfold Rb;rw[x0g ha ho hy h1,x0g hb hr z1 h2]
theorem c1d:(V7 a b s).Pairwise (λe e'=>e.1≠e'.1):=by
 unfold V7;rw[vA];refine⟨λo ho=>?_,(v0q ha s.1).imp_of_mem λ{o o'} ho ho' hd x hx y hy e=>?_⟩
 ·rw[List.pairwise_filterMap];refine(v0q hb s.2).imp_of_mem λ{r r'} hr z1 hd x hx y hy e=>?_;obtain⟨k1,_,k3,_⟩:=Is ha hb ht ho hr hx;obtain⟨_,_,j3,_⟩:=Is ha hb ht ho z1 hy;rw[<-e]at j3;exact hd x.1 ((Wz ht).2 k1) k3 j3
 obtain⟨r,hr,h1⟩:=wI.1 hx;obtain⟨r',z1,h2⟩:=wI.1 hy;obtain⟨k1,k2,_⟩:=Is ha hb ht ho hr h1;obtain⟨_,j2,_⟩:=Is ha hb ht ho' z1 h2;rw[<-e]at j2;exact hd x.1 k1 k2 j2
end
def q0u(e e':Sy×(Int×Int)):Bool:= !Lq e'.1 e.1
def It(a b:Aut)(s:Int×Int):List (Sy×(Int×Int)):=(V7 a b s).mergeSort q0u
def u02(x y z:Sy×(Int×Int))(h1:q0u x y=true)(h2:q0u y z=true):q0u x z=true:=by
 unfold q0u at *
 cases hz:Lq z.1 x.1 with
 |false=>rfl
 |true=>
  exfalso;rw[Gh]at hz;have n1:¬sLt y.1 x.1:=λk=>by rw[(Gh _ _).2 k]at h1;simp at h1
  have n2:¬sLt z.1 y.1:=λk=>by rw[(Gh _ _).2 k]at h2;simp at h2
  rcases sLt.tri x.1 y.1 with k|k|k
  ·exact n2 (hz.trans k)
  ·rw[k]at hz;exact n2 hz
  exact n1 k
def u0w(x y:Sy×(Int×Int)):(q0u x y || q0u y x)=true:=by
 unfold q0u;cases h1:Lq y.1 x.1 with
 |false=>rfl
 |true=>
  cases h2:Lq x.1 y.1 with
  |false=>rfl
  |true=>exact absurd (((Gh _ _).1 h1).trans ((Gh _ _).1 h2)) (λk=>sLt.irr k)
def Xe{L:List (Sy×(Int×Int))}(hp:L.Pairwise λx y=>q0u x y=true)(hn:L.Pairwise λe e'=>e.1≠e'.1):L.Pairwise λx y=>sLt x.1 y.1:=by
 refine(hp.and hn).imp λ{x y} h=>?_;have n1:¬sLt y.1 x.1:=λk=>by have:=h.1;unfold q0u at this;rw[(Gh _ _).2 k]at this;simp at this
 rcases sLt.tri x.1 y.1 with k|k|k
 ·exact k
 ·exact absurd k h.2
 exact absurd k n1
def y0u{a b:Aut}(ha:Dta a)(hb:Dta b)(ht:b.types=a.types)(s:Int×Int):(It a b s).Pairwise λx y=>sLt x.1 y.1:=by refine Xe (uj u02 u0w _) ?_;exact(wS (V7 a b s) q0u).symm.pairwise (c1d ha hb ht) (λ{x y} h=>h.symm)
def Dr{a b:Aut}(ha:Dta a)(hb:Dta b)(ht:b.types=a.types)(s:Int×Int):SuccOk (Wk a) (Rb a b) s (It a b s):=by have hm:∀e,e∈It a b s↔e∈V7 a b s:=λe=>(wS (V7 a b s) q0u).mem_iff;refine⟨y0u ha hb ht s,λe he=>u2m ha hb ht ((hm e).1 he),λy hy=>?_⟩;obtain⟨e,he,h⟩:=z2t ha hb ht (s:=s) hy;exact⟨e,(hm e).2 he,h⟩
def q1e{a b:Aut}(ha:Dta a)(hb:Dta b)(ht:b.types=a.types)(s:Int×Int){L:List (Sy×(Int×Int))}(hp:L.Perm (V7 a b s))(hs:L.Pairwise λx y=>q0u x y=true):L=It a b s:=by have h1:=Xe hs (hp.symm.pairwise (c1d ha hb ht) (λ{x y} h=>h.symm));refine List.Perm.eq_of_pairwise (le:=λx y=>sLt x.1 y.1) (λx y _ _ k1 k2=>absurd (k1.trans k2) (λk=>sLt.irr k)) h1 (y0u ha hb ht s) (hp.trans (wS (V7 a b s) q0u).symm)
end
structure FirstP (ok:Sy->Prop) (P:List Sy->Bool) (w:List Sy):Prop where
 okw:∀x∈w,ok x
 hit:P w=true
 least:∀v,(∀x∈v,ok x)->P v=true->lle w v
def FirstP.uniq{ok:Sy->Prop}{P:List Sy->Bool}{v w:List Sy}(h:FirstP ok P v)(k:FirstP ok P w):v=w:=
 (h.least w k.okw k.hit).anti (k.least v h.okw h.hit)
def FirstP.congr{ok:Sy->Prop}{P Q:List Sy->Bool}{w:List Sy}(h:FirstP ok P w)(e:∀v,(∀x∈v,ok x)->P v=Q v):FirstP ok Q w:=
 ⟨h.okw,by rw[<-e w h.okw];exact h.hit,λv hv hq=>h.least v hv (by rw[e v hv];exact hq)⟩
def FirstP.sub{ok ok':Sy->Prop}{P:List Sy->Bool}{w:List Sy}(h:FirstP ok P w)(e:∀x,ok x↔ok' x):FirstP ok' P w:=
 ⟨λx hx=>(e x).1 (h.okw x hx),h.hit,λv hv hq=>h.least v (λx hx=>(e x).2 (hv x hx)) hq⟩
def FirstW.toP{σ:Type}{ok:Sy->Prop}{step:σ->Sy->σ}{good:σ->Bool}{s:σ}{w:List Sy}(h:FirstW ok step good s w):FirstP ok (λv=>good (R9 step s v)) w:=⟨h.okw,h.goodw,h.least⟩
def c02(s:Int):List Int:=if s= -1 then []else [s]
def u1p{a:Aut}(h:Dta a){s:Int}{x:Sy}(hx:Wk a x):Q1 a [s] x=c02 (toL a s x):=by
 unfold c02;rcases Hs (a:=a) s x with⟨h1,h2⟩|⟨m,m1,m2,m3,m4⟩
 ·rw[if_pos h1];refine w_.2 λj hj=>?_;obtain⟨_,m,hm,k1,k2,_⟩:=Wu.1 hj;rw[h2 m hm (zP.1 k1)]at k2;cases k2
 have hd:=(h.ok.mv m m1).dst;rw[if_neg (by rw[m4];omega)];refine Yh (Up ..) (by simp) λz=>?_;rw[Wu,zP];constructor
 ·rintro⟨_,k,hk,k1,k2,rfl⟩;rw[<-h.to_of hk hx k2,zP.1 k1]
 rintro rfl;rw[m4];exact⟨hd,m,m1,by rw[m2];simp,m3,rfl⟩
def Cq(a:Aut)(x:Sy):Q1 a [] x=[]:=w_.2 λj hj=>by obtain⟨_,m,hm,k1,_⟩:=Wu.1 hj;cases k1
def x1d{a:Aut}(h:Dta a):∀(w:List Sy) (s:Int),(∀x∈w,Wk a x)->Pb a (c02 s) w=c02 (stF a s w)
 |[],_,_=>rfl
 |x::w,s,hw=>by
  have hx:=hw x (by simp);have ih:=x1d h w (toL a s x) λy hy=>hw y (by simp[hy]);show Pb a (Q1 a (c02 s) x) w=c02 (stF a (toL a s x) w);rw[<-ih]
  congr 1
  by_cases hs:s= -1
  ·subst hs;rw[x2e h.ok];unfold c02;rw[if_pos rfl,Cq]
  have:c02 s=[s]:=by unfold c02;rw[if_neg hs]
  rw[this,u1p h hx]
def z2u(a:Aut)(s:Int):P6 a (c02 s)=z05 a s:=by
 unfold c02 z05 P6;by_cases hs:s= -1
 ·rw[if_pos hs,hs];rfl
 rw[if_neg hs];simp[hs]
def w1m{a:Aut}(h:Dta a){w:List Sy}(hw:∀x∈w,Wk a x):Rc a w=z05 a (stF a 0 w):=by unfold Rc;rw[<-z2u,<-x1d h w 0 hw];rfl
def Zm(n:Nat):List Int:= -1::Ee n
def k0h(a b:Aut):List (Int×Int):=(Zm a.fin.length).flatMap λi=>(Zm b.fin.length).map λj=>(i,j)
def J9(a b:Aut):(k0h a b).length=(a.fin.length+1) * (b.fin.length+1):=by unfold k0h;rw[vG,xC (g:=λ_=>b.fin.length+1) (λi _=>by simp[Ee,Zm]),vL,vR];simp[Ee,Zm]
def L5{a:Aut}{s:Int}:s∈Zm a.fin.length↔inD a s:=by unfold Zm inD;rw[zZ,Wy];exact Iff.rfl
def Jv{a b:Aut}{s:Int×Int}(h1:inD a s.1)(h2:inD b s.2):s∈k0h a b:=by unfold k0h;exact xV.2 ⟨s.1,L5.2 h1,zO.2 ⟨s.2,L5.2 h2,rfl⟩⟩
def M7(wn:Bool->Bool->Bool)(a b:Aut)(s:Int×Int):Bool:=wn (z05 a s.1) (z05 b s.2)
def Lo(a b:Aut)(wn:Bool->Bool->Bool):Option (List Sy)×List ((Int×Int)×List Sy):=Xf (M7 wn a b) (It a b) ((a.fin.length+1) * (b.fin.length+1)+1) 0 [((0,0),[])]
def wnd(wn:Bool->Bool->Bool)(a b:Aut)(v:List Sy):Bool:=wn (Rc a v) (Rc b v)
def y05{a b:Aut}(ha:Dta a)(hb:Dta b)(ht:b.types=a.types)(wn:Bool->Bool->Bool){v:List Sy}(hv:∀x∈v,Wk a x):M7 wn a b (R9 (Rb a b) (0,0) v)=wnd wn a b v:=by rw[Ih];unfold M7 wnd;rw[w1m ha hv,w1m hb λx hx=>(Wz ht).2 (hv x hx)]
def Yo{a b:Aut}(ha:Dta a)(hb:Dta b)(ht:b.types=a.types)(wn:Bool->Bool->Bool):
  (∃w L,Lo a b wn=(some w,L)/\FirstP (Wk a) (wnd wn a b) w)\/
  (∃L,Lo a b wn=(none,L)/\(L.map (·.1)).Nodup/\(∀s,s∈L.map (·.1)↔∃v,(∀x∈v,Wk a x)/\R9 (Rb a b) (0,0) v=s)/\(∀s∈L.map (·.1),inD a s.1/\inD b s.2)/\∀v,(∀x∈v,Wk a x)->wnd wn a b v=false):=by
 have hz:inD a 0/\inD b 0:=⟨.inr ⟨yZ _,by have:=ha.ok.fin;omega⟩,.inr ⟨yZ _,by have:=hb.ok.fin;omega⟩⟩
 rcases Dx (ok:=Wk a) (step:=Rb a b) (good:=M7 wn a b) (succ:=It a b) (s0:=(0,0)) (G:=λs=>inD a s.1/\inD b s.2) (λs _=>Dr ha hb ht s)
  (λs _ e he=>by
   rw[((Dr ha hb ht s).mem e he).2];exact⟨Xn ha.ok _ _,Xn hb.ok _ _⟩) (k0h a b) (λs hs=>Jv hs.1 hs.2) ((a.fin.length+1) * (b.fin.length+1)+1) 0 [((0,0),[])] (by rw[J9];omega) (by simp) (Py (s0:=((0:Int),(0:Int))) hz)with⟨w,L,h1,h2⟩|⟨L,h1,h2,h3,h4⟩
 ·exact .inl ⟨w,L,h1,h2.toP.congr λv hv=>y05 ha hb ht wn hv⟩
 refine .inr ⟨L,h1,h2,λs=>⟨λhs=>?_,λ⟨v,hv,e⟩=>?_⟩,λs hs=>?_,λv hv=>?_⟩
 ·obtain⟨e,he,rfl⟩:=zO.1 hs;exact⟨e.2,(h3 e he).1,(h3 e he).2.1⟩
 ·rw[<-e];exact(h4 v hv).1
 ·obtain⟨e,he,rfl⟩:=zO.1 hs;exact(h3 e he).2.2
 rw[<-y05 ha hb ht wn hv];exact(h4 v hv).2
def Zl{a:Aut}{x y:Sy}(h:∀m∈a.mv,Tj m.on x=Tj m.on y)(l:List Int):Q1 a l x=Q1 a l y:=by unfold Q1;refine List.filter_congr λj _=>?_;unfold q21;rw[xT,wP,wP];refine exists_congr λm=>and_congr_right λhm=>?_;rw[h m hm]
abbrev SS:=List Int×List Int
def z0w(a b:Aut)(s:SS)(x:Sy):SS:=(Q1 a s.1 x,Q1 b s.2 x)
def Nw(a b:Aut)(s:SS):List (Sy×SS):=(Ah a b).map λx=>(x,z0w a b s x)
def q2x(wn:Bool->Bool->Bool)(a b:Aut)(s:SS):Bool:=wn (P6 a s.1) (P6 b s.2)
def v2i(a b:Aut)(wn:Bool->Bool->Bool):Option (List Sy)×List (SS×List Sy):=Xf (q2x wn a b) (Nw a b) 66050 0 [(([0],[0]),[])]
def c1k(a b:Aut):∀(w:List Sy) (l m:List Int),R9 (z0w a b) (l,m) w=(Pb a l w,Pb b m w)
 |[],_,_=>rfl
 |x::w,l,m=>c1k a b w (Q1 a l x) (Q1 b m x)
def x0p{a b:Aut}(ha:OkA a)(hb:OkA b)(ht:b.types=a.types)(s:SS):SuccOk (Wk a) (z0w a b) s (Nw a b s):=by
 have hl:=c1q ha hb ht;refine⟨?_,λe he=>?_,λy hy=>?_⟩
 ·unfold Nw;exact xI.2 (hl.ascS.imp λh=>h)
 ·obtain⟨x,hx,rfl⟩:=zO.1 he;obtain⟨c,hc,rfl⟩:=zO.1 hx;exact⟨U6.1 (hl.least hc).1,rfl⟩
 obtain⟨c,hc,hm,hle,z1⟩:=hl.cov (U6.2 hy);refine⟨(Qm c,z0w a b s (Qm c)),zO.2 ⟨Qm c,zO.2 ⟨c,hc,rfl⟩,rfl⟩,?_,hle⟩;unfold z0w;rw[Zl (λm hm=>(z1 m.on (yX _ (X3 hm))).symm),Zl (a:=b) (λm hm=>(z1 m.on (vF _ (X3 hm))).symm)]
def k0d(P Q:List (List Int)):List SS:=([]::P).flatMap λi=>([]::Q).map λj=>(i,j)
def y1k(P Q:List (List Int)):(k0d P Q).length=(P.length+1) * (Q.length+1):=by unfold k0d;rw[vG,xC (g:=λ_=>Q.length+1) (λi _=>by simp),vL,vR];simp
def d0b{P Q:List (List Int)}{s:SS}(h1:s.1=[]\/s.1∈P)(h2:s.2=[]\/s.2∈Q):s∈k0d P Q:=by unfold k0d;exact xV.2 ⟨s.1,zZ.2 h1,zO.2 ⟨s.2,zZ.2 h2,rfl⟩⟩
def y1z{a b x y:Aut}(ha:OkA a)(hb:OkA b)(ht:b.types=a.types)(da:Ej a=(0,x))(db:Ej b=(0,y))(wn:Bool->Bool->Bool):
  (∃w L,v2i a b wn=(some w,L)/\FirstP (Wk a) (wnd wn a b) w)\/(∃L,v2i a b wn=(none,L)/\∀v,(∀z∈v,Wk a z)->wnd wn a b v=false):=by
 obtain⟨P,_,hP,z1,_⟩:=I9 ha da;obtain⟨Q,_,hQ,z6,_⟩:=I9 hb db;have step:∀(c:Aut) (cl:List Prd) (Q:List (List Int)),Sub c cl Q->Cls c cl->∀(l:List Int) (z:Sy),Wk c z->(l=[]\/l∈Q)->(Q1 c l z=[]\/Q1 c l z∈Q):=λc cl Q hs hc l z hz hl=>by
  rcases hl with rfl|hl
  ·exact .inl (Cq _ _)
  exact hs.step hc hl hz
 have hw:∀v,q2x wn a b (R9 (z0w a b) ([0],[0]) v)=wnd wn a b v:=λv=>by rw[c1k];rfl
 have hlen:(k0d P Q).length+1<=0+66050:=by have h1:=hP.lim;have h2:=hQ.lim;rw[y1k];have:=Nat.mul_le_mul (show P.length+1<=257 by omega) (show Q.length+1<=257 by omega);omega
 rcases Dx (ok:=Wk a) (step:=z0w a b) (good:=q2x wn a b) (succ:=Nw a b) (s0:=(([0]:List Int),([0]:List Int))) (G:=λs=>(s.1=[]\/s.1∈P)/\(s.2=[]\/s.2∈Q)) (λs _=>x0p ha hb ht s)
  (λs hs e he=>by
   obtain⟨h1,h2⟩:=(x0p ha hb ht s).mem e he;rw[h2];exact⟨step _ _ _ hP z1 _ _ h1 hs.1,step _ _ _ hQ z6 _ _ ((Wz ht).2 h1) hs.2⟩) (k0d P Q) (λs hs=>d0b hs.1 hs.2) 66050 0 [(([0],[0]),[])] hlen (by simp) (Py (s0:=(([0]:List Int),([0]:List Int))) ⟨.inr (zJ hP.first),.inr (zJ hQ.first)⟩)with⟨w,L,h1,h2⟩|⟨L,h1,_,_,h4⟩
 ·exact .inl ⟨w,L,h1,h2.toP.congr λv _=>hw v⟩
 exact .inr ⟨L,h1,λv hv=>by rw[<-hw v];exact(h4 v hv).2⟩
def g0p{a b x y:Aut}(ha:OkA a)(hb:OkA b)(ht:b.types=a.types)(da:Ej a=(0,x))(db:Ej b=(0,y))(wn:Bool->Bool->Bool):(v2i a b wn).1=(Lo x y wn).1:=by
 obtain⟨_,_,_,_,_,_,xo,xd,xt,xa⟩:=I9 ha da;obtain⟨_,_,_,_,_,_,yo,yd,yt,ya⟩:=I9 hb db;have z6:y.types=x.types:=by rw[yt,xt,ht]
 have z1:∀z,Wk x z↔Wk a z:=λz=>Wz xt;have hw:∀v,(∀z∈v,Wk a z)->wnd wn x y v=wnd wn a b v:=λv hv=>by unfold wnd;rw[xa v hv,ya v λz hz=>(Wz ht).2 (hv z hz)]
 rcases y1z ha hb ht da db wn with⟨w,L,h1,h2⟩|⟨L,h1,h2⟩
 ·rcases Yo ⟨xo,xd⟩ ⟨yo,yd⟩ z6 wn with⟨v,M,k1,k2⟩|⟨M,k1,_,_,_,k2⟩
  ·rw[h1,k1];have:=(k2.sub z1).congr hw;rw[this.uniq h2]
  exfalso;have:=k2 w λz hz=>(z1 z).2 (h2.okw z hz);rw[hw w h2.okw,h2.hit]at this;cases this
 rcases Yo ⟨xo,xd⟩ ⟨yo,yd⟩ z6 wn with⟨v,M,k1,k2⟩|⟨M,k1,_,_,_,k2⟩
 ·exfalso;have hv:=λz hz=>(z1 z).1 (k2.okw z hz);have:=h2 v hv;rw[<-hw v hv,k2.hit]at this;cases this
 rw[h1,k1]
def neB(x y:Bool):Bool:=x != y
def D8{a b:Aut}(ha:Dfa a)(hb:Dfa b)(ht:b.types=a.types):(Fc a b 0 0).1=(Lo a b neB).1:=by
 have da:Dta a:=⟨ha.ok,ha.det⟩
 have db:Dta b:=⟨hb.ok,hb.det⟩
 have hz:=ha.zero;have z1:=hb.zero;have hd:∀v,(∀z∈v,Wk a z)->(Lb a 0 v≠Lb b 0 v↔wnd neB a b v=true):=λv hv=>by unfold wnd neB;rw[ha.acc hv,hb.acc λz hz=>(Wz ht).2 (hv z hz)];simp
 rcases K8 ha hb ht hz z1 with⟨w,h1,h2⟩|⟨h1,h2⟩
 ·have hf:FirstP (Wk a) (wnd neB a b) w:=by refine⟨h2.okw,(hd w h2.okw).1 ((Df a b 0 0 w).1 h2.goodw),λv hv hp=>h2.least v hv ((Df a b 0 0 v).2 ((hd v hv).2 hp))⟩
  rcases Yo da db ht neB with⟨v,M,k1,k2⟩|⟨M,k1,_,_,_,k2⟩
  ·rw[h1,k1,hf.uniq k2]
  have:=k2 w hf.okw;rw[hf.hit]at this;cases this
 rcases Yo da db ht neB with⟨v,M,k1,k2⟩|⟨M,k1,_,_,_,k2⟩
 ·exact absurd (h2 v k2.okw) ((hd v k2.okw).2 k2.hit)
 rw[h1,k1]
def pLt(p q:Int×Int):Prop:=p.1<q.1\/(p.1=q.1/\p.2<q.2)
def pLt.irr{p:Int×Int}(h:pLt p p):False:=by unfold pLt at h;omega
def pLt.trans{p q r:Int×Int}(h:pLt p q)(k:pLt q r):pLt p r:=by unfold pLt at *;omega
def pLt.tri(p q:Int×Int):pLt p q\/p=q\/pLt q p:=by
 unfold pLt;by_cases h1:p.1=q.1
 ·by_cases h2:p.2=q.2
  ·exact .inr (.inl (uo h1 h2))
  omega
 omega
def D9{L M:List (Int×Int)}(h:L.Pairwise pLt)(k:M.Pairwise pLt)(e:∀s,s∈L↔s∈M):L=M:=by
 have nd:∀ {X:List (Int×Int)},X.Pairwise pLt->X.Nodup:=λhx=>hx.imp λh e=>by subst e;exact h.irr
 exact List.Perm.eq_of_pairwise (le:=pLt) (λp q _ _ h1 h2=>(h1.trans h2).irr.elim) h k ((ua (nd h) (nd k)).2 e)
def pLe(p q:Int×Int):Bool:=decide (p.1<q.1) || (decide (p.1=q.1) && decide (p.2<=q.2))
def d0f(p q r:Int×Int)(h:pLe p q=true)(k:pLe q r=true):pLe p r=true:=by unfold pLe at *;simp only[wV,zX,decide_eq_true_eq]at *;omega
def d05(p q:Int×Int):(pLe p q || pLe q p)=true:=by unfold pLe;simp only[wV,zX,decide_eq_true_eq];omega
def c1x{p q:Int×Int}(h:pLe p q=true)(hn:p≠q):pLt p q:=by
 unfold pLe at h;simp only[wV,zX,decide_eq_true_eq]at h;rcases pLt.tri p q with k|k|k
 ·exact k
 ·exact absurd k hn
 unfold pLt at k;omega
def Y2(L:List (Int×Int)):List (Int×Int):=L.mergeSort pLe
def Hj{L:List (Int×Int)}(h:L.Nodup):(Y2 L).Pairwise pLt:=by have h1:=uj d0f d05 L;have h2:(Y2 L).Nodup:=(wS L pLe).symm.nodup h;exact(h1.and h2).imp λh=>c1x h.1 h.2
def Ty{L:List (Int×Int)}{s:Int×Int}:s∈Y2 L↔s∈L:=(wS L pLe).mem_iff
def j08{L M:List (Int×Int)}(h:L.Nodup)(hp:M.Perm L)(hs:M.Pairwise λp q=>pLe p q=true):M=Y2 L:=by have hn:M.Nodup:=hp.symm.nodup h;exact D9 ((hs.and hn).imp λh=>c1x h.1 h.2) (Hj h) λs=>by rw[Ty];exact hp.mem_iff
def c0z(a b:Aut)(s:Int×Int):Prop:=∃v,(∀x∈v,Wk a x)/\R9 (Rb a b) (0,0) v=s
def z0p(a b:Aut):List (Int×Int):=(Xf (λ_=>false) (Bm a b) ((a.fin.length+1) * (b.fin.length+1)+1) 0 [((0,0),[])]).2.map (·.1)
def Yr(a b:Aut):List (Int×Int):=(Lo a b neB).2.map (·.1)
def u0y{a b:Aut}(ha:OkA a)(hb:OkA b)(ht:b.types=a.types):(z0p a b).Nodup/\(∀s,s∈z0p a b↔c0z a b s)/\∀s∈z0p a b,inD a s.1/\inD b s.2:=by
 have hz:inD a 0/\inD b 0:=⟨.inr ⟨yZ _,by have:=ha.fin;omega⟩,.inr ⟨yZ _,by have:=hb.fin;omega⟩⟩
 rcases Dx (ok:=Wk a) (step:=Rb a b) (good:=λ_=>false) (succ:=Bm a b) (s0:=((0:Int),(0:Int))) (G:=λs=>inD a s.1/\inD b s.2) (λs _=>Fh ha hb ht s)
  (λs _ e he=>by
   rw[((Fh ha hb ht s).mem e he).2];exact⟨Xn ha _ _,Xn hb _ _⟩) (k0h a b) (λs hs=>Jv hs.1 hs.2) ((a.fin.length+1) * (b.fin.length+1)+1) 0 [((0,0),[])] (by rw[J9];omega) (by simp) (Py (s0:=((0:Int),(0:Int))) hz)with⟨w,L,_,h2⟩|⟨L,h1,h2,h3,h4⟩
 ·exact absurd h2.goodw (by simp)
 unfold z0p;rw[h1];refine⟨h2,λs=>⟨λhs=>?_,λ⟨v,hv,e⟩=>by rw[<-e];exact(h4 v hv).1⟩,λs hs=>?_⟩
 ·obtain⟨e,he,rfl⟩:=zO.1 hs;exact⟨e.2,(h3 e he).1,(h3 e he).2.1⟩
 obtain⟨e,he,rfl⟩:=zO.1 hs;exact(h3 e he).2.2
def Jp{a b:Aut}(ha:Dta a)(hb:Dta b)(ht:b.types=a.types)(hn:(Lo a b neB).1=none):(Yr a b).Nodup/\Y2 (Yr a b)=Y2 (z0p a b)/\∀s,s∈Yr a b↔c0z a b s:=by
 obtain⟨r1,r2,_⟩:=u0y ha.ok hb.ok ht;rcases Yo ha hb ht neB with⟨w,L,h1,_⟩|⟨L,h1,h2,h3,_⟩
 ·rw[h1]at hn;cases hn
 have e:Yr a b=L.map (·.1):=by unfold Yr;rw[h1]
 have e2:∀s,s∈Yr a b↔c0z a b s:=λs=>by rw[e];exact h3 s
 have n1:(Yr a b).Nodup:=by rw[e];exact h2
 exact⟨n1,D9 (Hj n1) (Hj r1) (λs=>by rw[Ty,Ty,r2 s,e2 s]),e2⟩
def q0p(a b:Aut)(s:Int×Int):Bool:=a.fin.getD s.1.toNat false==b.fin.getD s.2.toNat false
def Lr(a b:Aut)(l:List (Int×Int)):Bool:=decide ((0,0)∈l) && l.all λs=>q0p a b s && (Bm a b s).all λe=>decide (e.2∈l)
def Gw(a b:Aut)(l:List (Int×Int)):Bool:=(l.all λs=>q0p a b s && (It a b s).all λe=>decide (e.2∈l)) && decide ((0,0)∈l)
def Hf{a b:Aut}{s:Int×Int}{L:List (Sy×(Int×Int))}(h:SuccOk (Wk a) (Rb a b) s L)(l:List (Int×Int)):(L.all λe=>decide (e.2∈l))=true↔∀y,Wk a y->Rb a b s y∈l:=by
 rw[zW];constructor
 ·intro k y hy;obtain⟨e,he,e1,_⟩:=h.cov y hy;rw[<-e1];simpa using k e he
 intro k e he;obtain⟨h1,h2⟩:=h.mem e he;rw[h2];simpa using k e.1 h1
def Cj{a b:Aut}(ha:OkA a)(hb:OkA b)(ht:b.types=a.types)(l:List (Int×Int)):Lr a b l=true↔(0,0)∈l/\∀s∈l,q0p a b s=true/\∀y,Wk a y->Rb a b s y∈l:=by
 unfold Lr;rw[zX,decide_eq_true_eq,zW];refine and_congr_right λ_=>⟨λh s hs=>?_,λh s hs=>?_⟩
 ·have:=h s hs;rw[zX]at this;exact⟨this.1,(Hf (Fh ha hb ht s) l).1 this.2⟩
 rw[zX];exact⟨(h s hs).1,(Hf (Fh ha hb ht s) l).2 (h s hs).2⟩
def y1a{a b:Aut}(ha:Dta a)(hb:Dta b)(ht:b.types=a.types)(l:List (Int×Int)):Gw a b l=Lr a b l:=by
 rw[xT,Cj ha.ok hb.ok ht];unfold Gw;rw[zX,decide_eq_true_eq,zW];rw[and_comm];refine and_congr_right λ_=>⟨λh s hs=>?_,λh s hs=>?_⟩
 ·have:=h s hs;rw[zX]at this;exact⟨this.1,(Hf (Dr ha hb ht s) l).1 this.2⟩
 rw[zX];exact⟨(h s hs).1,(Hf (Dr ha hb ht s) l).2 (h s hs).2⟩
def Xk{a b:Aut}(ha:Dfa a)(hb:Dfa b)(ht:b.types=a.types){l:List (Int×Int)}(h:Lr a b l=true):∀w,(∀x∈w,Wk a x)->Rc a w=Rc b w:=by
 obtain⟨h0,hc⟩:=(Cj ha.ok hb.ok ht l).1 h;have key:∀(w:List Sy) (s:Int×Int),s∈l->(∀x∈w,Wk a x)->R9 (Rb a b) s w∈l:=by
  intro w;induction w with
  |nil=>intro s hs _;exact hs
  |cons x w ih=>intro s hs hw;exact ih _ ((hc s hs).2 x (hw x (by simp))) λy hy=>hw y (by simp[hy])
 intro w hw;have hm:=(hc _ (key w (0,0) h0 hw)).1;rw[Ih]at hm;rw[ha.acc hw,hb.acc λx hx=>(Wz ht).2 (hw x hx)];unfold q0p at hm;exact beq_iff_eq.1 hm
def N0{a b:Aut}(ha:Dfa a)(hb:Dfa b)(ht:b.types=a.types)(hn:(Lo a b neB).1=none):Lr a b (Y2 (Yr a b))=true:=by
 have da:Dta a:=⟨ha.ok,ha.det⟩
 have db:Dta b:=⟨hb.ok,hb.det⟩
 obtain⟨_,_,hr⟩:=Jp da db ht hn;have z1:∀v,(∀x∈v,Wk a x)->wnd neB a b v=false:=by
  rcases Yo da db ht neB with⟨w,L,h1,_⟩|⟨L,_,_,_,_,h2⟩
  ·rw[h1]at hn;cases hn
  exact h2
 rw[Cj ha.ok hb.ok ht];refine⟨by rw[Ty,hr];exact⟨[],by simp,rfl⟩,λs hs=>?_⟩;rw[Ty,hr]at hs;obtain⟨v,hv,e⟩:=hs;refine⟨?_,λy hy=>?_⟩
 ·have:=z1 v hv;unfold wnd neB at this;rw[ha.acc hv,hb.acc λx hx=>(Wz ht).2 (hv x hx)]at this;rw[Ih]at e;rw[<-e];unfold q0p;unfold Lb at this;simpa using this
 rw[Ty,hr];refine⟨v++[y],λx hx=>(zV.1 hx).elim (hv x) (λk=>by rw[zP.1 k];exact hy),?_⟩;rw[<-e];simp[R9,wL]
section
def v1t(b:Aut)(p:Int):List Sy->Prop
 |[]=>b.fin.getD p.toNat false=true
 |x::w=>∃q,q∈Q1 b [p] x/\v1t b q w
def L8{b:Aut}{l:List Int}{x:Sy}{q:Int}:q∈Q1 b l x↔∃p∈l,q∈Q1 b [p] x:=by
 rw[Wu];constructor
 ·rintro⟨h0,m,hm,h1,h2,h3⟩;exact⟨m.src,h1,Wu.2 ⟨h0,m,hm,by simp,h2,h3⟩⟩
 rintro⟨p,hp,hq⟩;obtain⟨h0,m,hm,h1,h2,h3⟩:=Wu.1 hq;rw[zP]at h1;exact⟨h0,m,hm,by rw[h1];exact hp,h2,h3⟩
def q0f(b:Aut):∀(w:List Sy) (l:List Int),P6 b (Pb b l w)=true↔∃p∈l,v1t b p w
 |[],l=>by show P6 b l=true↔_;unfold P6;rw[wP];exact Iff.rfl
 |x::w,l=>by
  show P6 b (Pb b (Q1 b l x) w)=true↔_;rw[q0f b w];constructor
  ·rintro⟨q,hq,h⟩;obtain⟨p,hp,z1⟩:=L8.1 hq;exact⟨p,hp,q,z1,h⟩
  rintro⟨p,hp,q,hq,h⟩;exact⟨q,L8.2 ⟨p,hp,hq⟩,h⟩
def dB(a b:Aut)(s:Int×List Int)(d:Nat):Prop:=∃w:List Sy,w.length=d/\(∀x∈w,Wk a x)/\v1t b s.1 w/\P6 a (Pb a s.2 w)=false
def mB(a b:Aut)(s:Int×List Int)(d:Nat):Prop:=dB a b s d/\∀k,k<d->¬dB a b s k
def x2g{a b:Aut}{s:Int×List Int}{d k:Nat}(h:mB a b s d)(h':mB a b s k):d=k:=by
 rcases wT d k with hlt|e|hlt
 ·exact absurd h.1 (h'.2 d hlt)
 ·exact e
 exact absurd h'.1 (h.2 k hlt)
def j2d{a b:Aut}{s:Int×List Int}:∀(d:Nat),dB a b s d->∃k,k<=d/\mB a b s k:=by
 intro d;induction d using tX with
 |_ d ih=>
  intro h;by_cases hk:∃k,k<d/\dB a b s k
  ·obtain⟨k,h1,h2⟩:=hk;obtain⟨j,h3,h4⟩:=ih k h1 h2;exact⟨j,by omega,h4⟩
  exact⟨d,zQ _,h,λk h1 h2=>hk ⟨k,h1,h2⟩⟩
def gB(b:Aut)(Q:List (List Int))(s:Int×List Int):Prop:=inS b s.1/\(s.2=[]\/s.2∈Q)
section
variable {a b:Aut} {Q:List (List Int)} (hst:∀l∈Q,∀x,Wk a x->Q1 a l x=[]\/Q1 a l x∈Q)
include hst
theorem v2d{s:Int×List Int}(hs:gB b Q s){d:Nat}(h:mB a b s (d+1)):∃s',gB b Q s'/\mB a b s' d:=by
 obtain⟨⟨w,hw,ho,h1,h2⟩,z1⟩:=h;cases w with
 |nil=>cases hw
 |cons x w=>
  obtain⟨q,hq,h3⟩:=h1;have hx:=ho x (by simp);refine⟨(q,Q1 a s.2 x),⟨⟨(Ur q hq).1,(Ur q hq).2⟩,?_⟩,⟨w,by simpa using hw,λy hy=>ho y (by simp[hy]),h3,h2⟩,λk hk hd=>?_⟩
  ·rcases hs.2 with h|h
   ·rw[h];exact .inl (Cq a x)
   exact hst _ h x hx
  obtain⟨v,hv,z6,v1,v2⟩:=hd;exact z1 (k+1) (by omega) ⟨x::v,by simp[hv],λy hy=>(zZ.1 hy).elim (λe=>by rw[e];exact hx) (z6 y),⟨q,hq,v1⟩,v2⟩
theorem q2d:∀(k d:Nat) (s:Int×List Int),gB b Q s->mB a b s (d+k)->∃s',gB b Q s'/\mB a b s' d
 |0,_,s,hs,h=>⟨s,hs,h⟩
 |k+1,d,s,hs,h=>by obtain⟨s',h1,h2⟩:=v2d hst hs (d:=d+k) h;exact q2d k d s' h1 h2
theorem u1h{s:Int×List Int}(hs:gB b Q s){d:Nat}(h:mB a b s d):d+1<=b.fin.length * (Q.length+1):=by
 have hex:∀k,∃t:Int×List Int,k<=d->gB b Q t/\mB a b t k:=λk=>by
  by_cases hk:k<=d
  ·obtain⟨t,h1,h2⟩:=q2d hst (d - k) k s hs (by rw[show k+(d - k)=d by omega];exact h);exact⟨t,λ_=>⟨h1,h2⟩⟩
  exact⟨s,λh=>absurd h hk⟩
 obtain⟨f,hf⟩:=Classical.axiomOfChoice hex;have hU:∀t,gB b Q t->t∈(Ee b.fin.length).flatMap λi=>([]::Q).map λj=>(i,j):=λt ht=>
  xV.2 ⟨t.1,Wy.2 ht.1,zO.2 ⟨t.2,zZ.2 ht.2,rfl⟩⟩
 have hlen:((Ee b.fin.length).flatMap λi=>([]::Q).map λj=>(i,j)).length=b.fin.length * (Q.length+1):=by rw[vG,xC (g:=λ_=>Q.length+1) (λi _=>by simp),vL,vR];simp[Ee]
 have hn:((yR (d+1)).map f).Nodup:=by unfold sj;rw[xI];refine(List.nodup_range (n:=d+1)).imp_of_mem λ{i j} hi hj hij e=>?_;have h1:=(hf i (by have:=yT.1 hi;omega)).2;have h2:=(hf j (by have:=yT.1 hj;omega)).2;rw[e]at h1;exact hij (x2g h1 h2)
 have:=hn.length_le_of_subset (l₂:=(Ee b.fin.length).flatMap λi=>([]::Q).map λj=>(i,j)) λt ht=>by obtain⟨i,hi,rfl⟩:=zO.1 ht;exact hU _ (hf i (by have:=yT.1 hi;omega)).1
 rw[zY,List.length_range,hlen]at this;exact this
end
def c0m{v w:List Sy}(h:lle v w):v.length<=w.length:=by
 rcases h with rfl|h|h
 ·exact zQ _
 ·omega
 omega
def v2l(x y:Bool):Bool:=y && !x
end
def Lp:List Iv->List Iv->Option Int
 |x::l,y::m=>if max x.lo y.lo<=min x.hi y.hi then some (max x.lo y.lo)else if x.hi<y.hi then Lp l (y::m)else Lp (x::l) m
 |_,_=>none
termination_by l m=>l.length+m.length
def y0h(m:List Iv):Lp [] m=none:=by simp[Lp]
def Nl(x:Iv)(l:List Iv):Lp (x::l) []=none:=by simp[Lp]
def q1q(x y:Iv)(l m:List Iv):Lp (x::l) (y::m)=if max x.lo y.lo<=min x.hi y.hi then some (max x.lo y.lo)else if x.hi<y.hi then Lp l (y::m)else Lp (x::l) m:=by rw[Lp]
def q1j{x:Iv}{l:List Iv}(h:Sep (x::l)):∀n,M l n->x.hi<n:=by rintro n ⟨y,hy,h1,h2⟩;have:=(yP.1 h.2).1 y hy;omega
def Ek{x:Iv}{l:List Iv}{n:Int}:M (x::l) n↔(x.lo<=n/\n<=x.hi)\/M l n:=by
 constructor
 ·rintro⟨y,hy,h⟩;rcases zZ.1 hy with rfl|hy
  ·exact .inl h
  exact .inr ⟨y,hy,h⟩
 rintro(h|⟨y,hy,h⟩)
 ·exact⟨x,by simp,h⟩
 exact⟨y,by simp[hy],h⟩
def Nf{n:Int}:¬M [] n:=by rintro⟨y,hy,_⟩;cases hy
def Cr{x:Iv}{l:List Iv}(h:Sep (x::l)):Sep l:=⟨λy hy=>h.1 y (by simp[hy]),(yP.1 h.2).2⟩
def Ji(l m:List Iv)(hl:Sep l)(hm:Sep m):match Lp l m with|some n=>M l n/\M m n/\∀k,M l k->M m k->n<=k|none=>∀k,M l k->¬M m k:=by
 match l,m with
 |[],m=>rw[y0h];exact λk h=>absurd h Nf
 |x::l,[]=>rw[Nl];exact λk _ h=>absurd h Nf
 |x::l,y::m=>
  have hx:=hl.1 x (by simp);have hy:=hm.1 y (by simp);have sx:=q1j hl;have sy:=q1j hm;rw[Lp];by_cases h1:max x.lo y.lo<=min x.hi y.hi
  ·rw[if_pos h1];refine⟨Ek.2 (.inl (by omega)),Ek.2 (.inl (by omega)),λk k1 k2=>?_⟩;have:x.lo<=k:=by
    rcases Ek.1 k1 with h|h
    ·exact h.1
    have:=sx k h;omega
   have:y.lo<=k:=by
    rcases Ek.1 k2 with h|h
    ·exact h.1
    have:=sy k h;omega
   omega
  rw[if_neg h1];by_cases h2:x.hi<y.hi
  ·rw[if_pos h2];have ih:=Ji l (y::m) (Cr hl) hm;have z1:∀k,(x.lo<=k/\k<=x.hi)->¬M (y::m) k:=λk h hk=>by
    rcases Ek.1 hk with h'|h'
    ·omega
    have:=sy k h';omega
   cases hc:Lp l (y::m)with
   |some n=>
    rw[hc]at ih;obtain⟨i1,i2,i3⟩:=ih;refine⟨Ek.2 (.inr i1),i2,λk k1 k2=>?_⟩;rcases Ek.1 k1 with h|h
    ·exact absurd k2 (z1 k h)
    exact i3 k h k2
   |none=>
    rw[hc]at ih;intro k k1 k2;rcases Ek.1 k1 with h|h
    ·exact z1 k h k2
    exact ih k h k2
  rw[if_neg h2];have ih:=Ji (x::l) m hl (Cr hm);have z1:∀k,(y.lo<=k/\k<=y.hi)->¬M (x::l) k:=λk h hk=>by
   rcases Ek.1 hk with h'|h'
   ·omega
   have:=sx k h';omega
  cases hc:Lp (x::l) m with
  |some n=>
   rw[hc]at ih;obtain⟨i1,i2,i3⟩:=ih;refine⟨i1,Ek.2 (.inr i2),λk k1 k2=>?_⟩;rcases Ek.1 k2 with h|h
   ·exact absurd k1 (z1 k h)
   exact i3 k k1 h
  |none=>
   rw[hc]at ih;intro k k1 k2;rcases Ek.1 k2 with h|h
   ·exact z1 k h k1
   exact ih k k1 h
termination_by l.length+m.length
def lqB(p q:Prd):Nat->Nat->Option Sy
 |0,_=>none
 |f+1,t=>match Lp (p.getD t []) (q.getD t [])with
  |some n=>some ⟨t,n⟩
  |none=>lqB p q f (t+1)
def E5(p q:Prd):Option Sy:=if Wj (W1 p q)then none else some (Qm (W1 p q))
def y0z{T:Nat}{p:Prd}(h:PWf T p)(t:Nat):Sep (p.getD t []):=by
 by_cases ht:t<p.length
 ·rw[Wt ht];exact(h.2 _ (zK ht)).1
 rw[show p.getD t []=[] by simp[yS,xD (by omega:p.length<=t)]];exact⟨by simp,by simp⟩
def U3{p:Prd}{t:Nat}{n:Int}:PM p t n↔M (p.getD t []) n:=by
 constructor
 ·rintro⟨s,hs,h⟩;simpa[yS,hs]using h
 intro h;by_cases ht:t<p.length
 ·rw[Wt ht]at h;exact⟨_,zI ht,h⟩
 rw[show p.getD t []=[] by simp[yS,xD (by omega:p.length<=t)]]at h;exact absurd h Nf
def f2t{T:Nat}{p q:Prd}(hp:PWf T p)(hq:PWf T q):lqB p q T 0=E5 p q:=by
 have hw:=Tc hp hq.1;have key:∀(f t:Nat),t+f=T->(∀t' n,t'<t->¬PM (W1 p q) t' n)->lqB p q f t=E5 p q:=by
  intro f;induction f with
  |zero=>intro t ht z1;have:Wj (W1 p q)=true:=(Rp hw).2 λt' n hm=>z1 t' n (by have:=(hw.lt hm).1;omega) hm;rw[lqB,E5,if_pos this]
  |succ f ih=>
   intro t ht z1;have hs:=Ji _ _ (y0z hp t) (y0z hq t);rw[lqB];cases hc:Lp (p.getD t []) (q.getD t [])with
   |some n=>
    rw[hc]at hs;obtain⟨h1,h2,h3⟩:=hs;have hm:PM (W1 p q) t n:=(El hp.1 hq.1 t n).2 ⟨U3.2 h1,U3.2 h2⟩;have hv:Wj (W1 p q)=false:=(Yp hw).2 ⟨t,n,hm⟩;rw[E5,if_neg (by rw[hv];simp)];obtain⟨g1,g2,g3⟩:=Y6 hw ⟨t,n,hm⟩;have z6:=hw.lt hm;show some (⟨(t:Int),n⟩:Sy)=some (Qm (W1 p q))
    congr 1
    rcases g3 ⟨t,n⟩ ⟨by simp,by simpa using z6.1,z6.2⟩ (by simpa using hm)with e|e
    ·exact e.symm
    exfalso;unfold sLt at e;simp only at e;have z8:=g1.1;by_cases hle:(Qm (W1 p q)).ty.toNat<t
    ·exact z1 _ _ hle g2
    have z7:(Qm (W1 p q)).ty=t:=by omega
    rw[z7]at g2;have:=(El hp.1 hq.1 t (Qm (W1 p q)).num).1 (by simpa using g2);have:=h3 _ (U3.1 this.1) (U3.1 this.2);omega
   |none=>
    rw[hc]at hs;refine ih (t+1) (by omega) λt' n za hm=>?_;by_cases e:t'=t
    ·subst e;have:=(El hp.1 hq.1 t' n).1 hm;exact hs n (U3.1 this.1) (U3.1 this.2)
    exact z1 t' n (by omega) hm
 exact key T 0 (by omega) (λt' n h=>by omega)
def q1b{T:Nat}{p:Prd}(hp:PWf T p):W1 p p=p:=Pk (Tc hp hp.1) hp λt n=>by rw[El hp.1 hp.1];simp
def q01{T:Nat}{p:Prd}(hp:PWf T p):E5 p p=if Wj p then none else some (Qm p):=by rw[E5,q1b hp]
def k1g(a b:Aut)(s:Int×Int):W4 a b s=(We a s.1).flatMap λm=>(We b s.2).filterMap λn=>(E5 m.on n.on).map λx=>(x,(m.dst,n.dst)):=by
 unfold W4 E5
 congr 1
 funext m
 congr 1
 funext n;split<;>simp
def Y8(a:Aut):Int:=if Wl a≠0 then Wl a else if Ns a=false\/F2 a=false then 3 else 0
def Ye(a:Aut):Y8 a=0↔Dfa a:=by
 unfold Y8;by_cases h:Wl a=0
 ·have z1:=(Y4 a).1 h;rw[if_neg (λk=>k h)];have h1:=w0q z1.wfA;have h2:F2 a=true↔z0g a:=by rw[<-y0s z1.wfA,Bq];unfold F2;rw[zW];simp only[yT];exact forall_congr' λs=>forall_congr' λ_=>by rw[w2q z1.wfA]
  constructor
  ·intro k;split at k
   ·cases k
   rename_i hn;refine⟨z1,h1.1 ?_,h2.1 ?_⟩
   ·cases hs:Ns a
    ·exact absurd (.inl hs) hn
    rfl
   cases hs:F2 a
   ·exact absurd (.inr hs) hn
   rfl
  intro k;rw[if_neg];rintro(hs|hs)
  ·rw[h1.2 k.det]at hs;cases hs
  rw[h2.2 k.full]at hs;cases hs
 rw[if_pos h];exact⟨λk=>absurd k h,λk=>absurd ((Y4 a).2 k.ok) h⟩
section
open Go Go.Proofs
attribute [simp] T68 T70 T87 T73 T23 T22 T25 T52 T26 T88
@[simp] def encP (p:Prd):AV:= .agg [.list (p.map encL)]
abbrev LP (l:List Prd):AV:= .list (l.map encP)
@[simp] def encSy (x:Sy):AV:= .agg [.i x.ty,.i x.num]
@[simp] def encMv (m:Mv):AV:= .agg [.i m.src,.i m.dst,.list (m.on.map encL)]
@[simp] def encA (a:Aut):AV:= .agg [.i a.types,.list (a.fin.map .bool),.list (a.mv.map encMv)]
attribute [local irreducible] ckR
def Dg(T:Int)(p:Prd):PC prog 58 [.i T,encP p] (λr=>r= .i (Re T p)):=by
 refine pcB func58 results58 ntmps58 ?_;simp only[Qe];simp only[encP];refine Wd 1 0 rfl rfl (λhlen=>?_);rw[zY]at hlen;repeat(refine s_ ?_;simp)
 refine Qa rfl (λh=>?_) (λh=>?_)
 ·repeat(refine s_ ?_;simp)
  rw[Re,if_pos (by simpa using h)]
 have h':¬(T<1\/16<T):=by simpa using h
 repeat(refine s_ ?_;simp)
 refine Qa rfl (λh2=>?_) (λh2=>?_)
 ·repeat(refine s_ ?_;simp)
  rw[Re,if_neg h',if_pos (by simpa using h2)]
 have z7:(p.length:Int)=T:=by simpa using h2
 have hE:Re T p=j0q p:=by rw[Re,if_neg h',if_neg (by simpa using z7)]
 rw[hE];repeat(refine s_ ?_;simp)
 refine Qs p.length (λj=>j0q p=j0q (p.drop j)) (λj=>[(22,.list (p.map encL)),(23,.i p.length),(24,.i j)]) (λ_=>[]) rfl (by simp) (by simp) (by simp) (by simp) (by simp) ?_;intro j hj hI ih;repeat(refine s_ ?_;simp)
 refine Qa rfl (λz8=>?_) (λza=>?_)
 ·have z1:j<p.length:=by simpa using z8
  have hw:=wz j (by omega);rw[Wx z1,j0q]at hI;repeat(refine s_ ?_;simp[z1])
  refine pcL (y0e p[j]) ?_;simp;repeat(refine s_ ?_;simp)
  refine Qa rfl (λh3=>?_) (λh3=>?_)
  ·repeat(refine s_ ?_;simp)
   rw[hI,if_pos (by simpa using h3)]
  rw[if_neg (by simpa using h3)]at hI;repeat(refine s_ ?_;simp[hw])
  refine Qp _ (ih z1 hI) rfl (by simp) ?_ (by simp) (by simp);simp
 have z6:j=p.length:=by simp at za;omega
 subst z6;repeat(refine s_ ?_;simp)
 rw[hI,xH];rfl
def u0e(T:Int)(p:Prd):PC prog 158 [.i T,encP p] (λr=>r= .i (Re T p)):=by
 refine pcB func158 results158 ntmps158 ?_;simp only[Qe];simp only[encP];refine Wd 1 0 rfl rfl (λhlen=>?_);rw[zY]at hlen;repeat(refine s_ ?_;simp)
 refine Qa rfl (λh=>?_) (λh=>?_)
 ·repeat(refine s_ ?_;simp)
  rw[Re,if_pos (by simpa using h)]
 have h':¬(T<1\/16<T):=by simpa using h
 repeat(refine s_ ?_;simp)
 refine Qa rfl (λh2=>?_) (λh2=>?_)
 ·repeat(refine s_ ?_;simp)
  rw[Re,if_neg h',if_pos (by simpa using h2)]
 have z7:(p.length:Int)=T:=by simpa using h2
 have hE:Re T p=j0q p:=by rw[Re,if_neg h',if_neg (by simpa using z7)]
 rw[hE];repeat(refine s_ ?_;simp)
 refine Qs p.length (λj=>j0q p=j0q (p.drop j)) (λj=>[(0,.i T),(3,.vptr 0 0),(5,.i j)]) (λ_=>[.vars [.list (p.map encL)]]) rfl (by simp) (by simp) (by simp) (by simp) (by simp) ?_;intro j hj hI ih;repeat(refine s_ ?_;simp)
 refine Qa rfl (λz8=>?_) (λza=>?_)
 ·have z1:j<p.length:=by have k:(j:Int)<T:=(by simpa using z8);omega
  have hw:=wz j (by omega);rw[Wx z1,j0q]at hI;repeat(refine s_ ?_;simp[z1])
  refine pcL (z1v p[j]) ?_;simp;repeat(refine s_ ?_;simp)
  refine Qa rfl (λh3=>?_) (λh3=>?_)
  ·repeat(refine s_ ?_;simp)
   rw[hI,if_pos (by simpa using h3)]
  rw[if_neg (by simpa using h3)]at hI;repeat(refine s_ ?_;simp[hw])
  refine Qp _ (ih z1 hI) rfl (by simp) ?_ (by simp) (by simp);simp
 have z6:j=p.length:=by have k:¬(j:Int)<T:=(by simpa using za);omega
 subst z6;repeat(refine s_ ?_;simp)
 rw[hI,xH];rfl
end
section
open Go Go.Proofs
def La:List Prd->Int
 |[]=>0
 |p::r=>if Re p.length p≠0 then Re p.length p else La r
attribute [local irreducible] Re
def Xb(l:List Prd):PC prog 102 [LP l] (λr=>r= .i (La l)):=by
 refine pcB func102 results102 ntmps102 ?_;simp only[Qe];refine Yb 0 rfl (λhlen=>?_);rw[zY]at hlen;repeat(refine s_ ?_;simp)
 refine Qs l.length (λj=>La l=La (l.drop j)) (λj=>[(6,LP l),(7,.i l.length),(8,.i j)]) (λ_=>[]) rfl (by simp) (by simp) (by simp) (by simp) (by simp) ?_;intro j hj hI ih;repeat(refine s_ ?_;simp)
 refine Qa rfl (λz7=>?_) (λz8=>?_)
 ·have z1:j<l.length:=by simpa using z7
  have hw:=wz j (by omega);rw[Wx z1,La]at hI;repeat(refine s_ ?_;simp[z1])
  refine pcL (Dg l[j].length l[j]) ?_;simp;repeat(refine s_ ?_;simp)
  refine Qa rfl (λh3=>?_) (λh3=>?_)
  ·repeat(refine s_ ?_;simp)
   rw[hI,if_pos (by simpa using h3)]
  rw[if_neg (by simpa using h3)]at hI;repeat(refine s_ ?_;simp[hw])
  refine Qp _ (ih z1 hI) rfl (by simp) ?_ (by simp) (by simp);simp
 have z6:j=l.length:=by simp at z8;omega
 subst z6;repeat(refine s_ ?_;simp)
 rw[hI,xH];rfl
def y1w(p:Prd)(x:Sy):Int:=if La [p]≠0 then La [p]else Le p.length x
def V8(p:Prd)(x:Sy):Bool×Int:=if y1w p x≠0 then(false,y1w p x)else(Tj p x,0)
attribute [local irreducible] La g1c
def d1u{T:Int}{p:Prd}(h:Re T p=0):La [p]=0/\(p.length:Int)=T:=by
 obtain⟨h1,h2⟩:=(Eg T p).1 h;have hl:(p.length:Int)=T:=by have:=h2.1;omega
 exact⟨by unfold La;rw[hl,if_neg (λk=>k h)];unfold La;rfl,hl⟩
def y1v{p:Prd}(h:La [p]=0):∀s∈p,CanonL s:=by
 unfold La at h;by_cases hc:Re p.length p=0
 ·exact((Eg _ p).1 hc).2.2
 rw[if_pos hc]at h;exact absurd h hc
def T0(p:Prd)(x:Sy):PC prog 43 [encP p,encSy x] (λr=>r= .tup [.bool (V8 p x).1,.i (V8 p x).2]):=by
 refine pcB func43 results43 ntmps43 ?_;simp only[Qe];simp only[encP,encSy];refine Wd 0 0 rfl rfl (λhlen=>?_);rw[zY]at hlen;repeat(refine s_ ?_;simp)
 refine Pn 2 rfl ?_;simp;refine pcL (Xb [p]) ?_;simp;repeat(refine s_ ?_;simp)
 refine Qa rfl (λh=>?_) (λh=>?_)
 ·repeat(refine s_ ?_;simp)
  have h':La [p]≠0:=by simpa using h
  have hE:y1w p x=La [p]:=by rw[y1w,if_pos h']
  rw[V8,hE,if_pos h'];exact⟨rfl,rfl⟩
 have h':La [p]=0:=by simpa using h
 have hE:y1w p x=Le p.length x:=by rw[y1w,if_neg (λk=>k h')]
 repeat(refine s_ ?_;simp)
 refine Qa rfl (λh1=>?_) (λh1=>?_)
 ·repeat(refine s_ ?_;simp)
  have z6:x.ty<0\/(p.length:Int)<=x.ty:=by simpa using h1
  have z1:y1w p x=6:=by rw[hE,Le,if_pos z6]
  rw[V8,z1];exact⟨rfl,rfl⟩
 have z6:¬(x.ty<0\/(p.length:Int)<=x.ty):=by simpa using h1
 repeat(refine s_ ?_;simp)
 refine Qa rfl (λh2=>?_) (λh2=>?_)
 ·repeat(refine s_ ?_;simp)
  have z7:x.num< -1099511627776\/1099511627776<x.num:=by simpa using h2
  have z1:y1w p x=2:=by rw[hE,Le,if_neg z6,if_pos z7]
  rw[V8,z1];exact⟨rfl,rfl⟩
 have z7:¬(x.num< -1099511627776\/1099511627776<x.num):=by simpa using h2
 have z1:y1w p x=0:=by rw[hE,Le,if_neg z6,if_neg z7]
 repeat(refine s_ ?_;simp)
 have zb:0<=x.ty:=by omega
 have zc:x.ty<(p.length:Int):=by omega
 have z8:x.ty.toNat<p.length:=by omega
 refine Ql tOk mixed [] (.val 0 (.val 1 (.val 2 (.val 3 (.val 4 (.val 5 (.val 6 (.val 7 (.one 8 (.val 9 (.val 10 (.val 11 (.val 12 (.done)))))))))))))) rfl (by kernel_rfl) ?_;simp[zb,zc,z8];refine pcL (H7 p[x.ty.toNat] x.num) ?_;simp;repeat(refine s_ ?_;simp)
 have hc:=y1v h' _ (zK z8);have za:g1c p[x.ty.toNat] x.num=(J5 p[x.ty.toNat] x.num,0):=by rw[g1c,if_pos ((N5 _).2 hc)]
 rw[V8,z1,if_neg (λk=>k rfl),za];refine⟨?_,rfl⟩;simp[Tj,zb,zc,yS,z8]
def w09{T:Int}{p:Prd}(h:Re T p=0)(x:Sy):V8 p x=if Le T x≠0 then(false,Le T x)else(Tj p x,0):=by
 obtain⟨h1,h2⟩:=d1u h;have hE:y1w p x=Le T x:=by rw[y1w,if_neg (λk=>k h1),h2]
 rw[V8,hE]
end
section
open Go Go.Proofs
abbrev Qk (a:Aut):List AV:=[.i a.types,.list (a.fin.map .bool),.list (a.mv.map encMv)]
def w22(p:Prd)(x:Sy):PC prog 170 [encP p,encSy x] (λr=>r= .bool ((V8 p x).2==0 && (V8 p x).1)):=by
 refine pcB func170 results170 ntmps170 ?_;simp only[Qe];simp only[encP,encSy];repeat(refine s_ ?_;simp)
 refine pcL (T0 p x) ?_;simp;repeat(refine s_ ?_;simp)
def B8(p:Prd)(x:Sy):PC prog 45 [encP p,encSy x] (λr=>r= .bool ((V8 p x).1 && (V8 p x).2==0)):=by
 refine pcB func45 results45 ntmps45 ?_;simp only[Qe];simp only[encP,encSy];repeat(refine s_ ?_;simp)
 refine pcL (T0 p x) ?_;simp;repeat(refine s_ ?_;simp)
def stB(a:Aut)(n:Int):Bool:=decide (0<=n) && decide (n<a.fin.length)
def V2(a:Aut)(n:Int):stB a n=true↔0<=n/\n<a.fin.length:=by simp[stB]
def Va(H:List AObj)(id:Nat)(a:Aut)(hid:H[id]?=some (.vars (Qk a)))(n:Int):FC prog 98 [.i n,.vptr id 0] H (λr H'=>r= .bool (stB a n)/\H'=H):=by refine fcB func98 results98 ntmps98 ?_;simp only[Qe];repeat(refine s_ ?_;simp[hid,stB])
attribute [local irreducible] Re stB
def Yw(a:Aut):PC prog 41 [encA a] (λr=>r= .i (Wl a)):=by
 refine pcB func41 results41 ntmps41 ?_;simp only[Qe];simp only[encA];refine Wd 0 1 rfl rfl (λz7=>?_);refine Wd 0 2 rfl rfl (λz8=>?_);rw[zY]at z7 z8;repeat(refine s_ ?_;simp)
 refine Qa rfl (λh=>?_) (λh=>?_)
 ·repeat(refine s_ ?_;simp)
  rw[Wl,if_pos (by simpa using h)]
 have h1:¬(a.types<1\/16<a.types):=by simpa using h
 repeat(refine s_ ?_;simp)
 refine Qa rfl (λh=>?_) (λh=>?_)
 ·repeat(refine s_ ?_;simp)
  rw[Wl,if_neg h1,if_pos];simp at h;omega
 have h2:¬(a.fin.length<1\/256<a.fin.length\/2048<a.mv.length):=by simp at h;omega
 have hE:Wl a=u0v a.types a.fin.length a.mv:=by rw[Wl,if_neg h1,if_neg h2]
 rw[hE];repeat(refine s_ ?_;simp)
 refine Qs a.mv.length (λj=>u0v a.types a.fin.length a.mv=u0v a.types a.fin.length (a.mv.drop j)) (λj=>[(1,.vptr 0 0),(3,.fn (.func 98) [] [.vptr 0 0]),(33,.list (a.mv.map encMv)),(34,.i a.mv.length),(35,.i j)]) (λ_=>[.vars (Qk a)]) rfl (by simp) (by simp) (by simp) (by simp) (by simp) ?_;intro j hj hI ih;repeat(refine s_ ?_;simp)
 refine Qa rfl (λza=>?_) (λzb=>?_)
 ·have z1:j<a.mv.length:=by simpa using za
  have hw:=wz j (by omega);rw[Wx z1,u0v]at hI;repeat(refine s_ ?_;simp[z1])
  cases hb:stB a a.mv[j].src with
  |false=>
   refine Q3 rfl rfl (Va _ 0 a rfl a.mv[j].src) rfl ?_;rintro r H' ⟨rfl,rfl⟩;simp[hb];repeat(refine s_ ?_;simp)
   refine Qx rfl rfl ?_;simp;refine Qq rfl ?_;repeat(refine s_ ?_;simp)
   rw[hI,if_pos (λk=>by rw[(V2 _ _).2 k.1]at hb;cases hb)]
  |true=>
   refine Q3 rfl rfl (Va _ 0 a rfl a.mv[j].src) rfl ?_;rintro r H' ⟨rfl,rfl⟩;simp[hb];repeat(refine s_ ?_;simp)
   refine Q3 rfl rfl (Va _ 0 a rfl a.mv[j].dst) rfl ?_;rintro r H' ⟨rfl,rfl⟩;simp;repeat(refine s_ ?_;simp)
   refine Qa rfl (λh3=>?_) (λh3=>?_)
   ·repeat(refine s_ ?_;simp)
    rw[hI,if_pos (λk=>by rw[(V2 _ _).2 k.2]at h3;cases h3)]
   have hd:stB a a.mv[j].dst=true:=by simpa using h3
   rw[if_neg (λk=>k ⟨(V2 _ _).1 hb,(V2 _ _).1 hd⟩)]at hI;repeat(refine s_ ?_;simp)
   refine pcL (Dg a.types a.mv[j].on) ?_;simp;repeat(refine s_ ?_;simp)
   refine Qa rfl (λh4=>?_) (λh4=>?_)
   ·repeat(refine s_ ?_;simp)
    rw[hI,if_pos (by simpa using h4)]
   rw[if_neg (by simpa using h4)]at hI;repeat(refine s_ ?_;simp[hw])
   refine Qp _ (ih z1 hI) rfl (by simp) ?_ (by simp) (by simp);simp
 have z6:j=a.mv.length:=by simp at zb;omega
 subst z6;repeat(refine s_ ?_;simp)
 rw[hI,xH];rfl
def Fm(a:Aut):PC prog 90 [encA a] (λr=>r= .i (Wl a)):=by
 refine pcB func90 results90 ntmps90 ?_;simp only[Qe];simp only[encA];refine Wd 0 1 rfl rfl (λz7=>?_);refine Wd 0 2 rfl rfl (λz8=>?_);rw[zY]at z7 z8;repeat(refine s_ ?_;simp)
 refine Qa rfl (λh=>?_) (λh=>?_)
 ·repeat(refine s_ ?_;simp)
  rw[Wl,if_pos (by simpa using h)]
 have h1:¬(a.types<1\/16<a.types):=by simpa using h
 repeat(refine s_ ?_;simp)
 refine Qa rfl (λh=>?_) (λh=>?_)
 ·repeat(refine s_ ?_;simp)
  rw[Wl,if_neg h1,if_pos];simp at h;omega
 have h2:¬(a.fin.length<1\/256<a.fin.length\/2048<a.mv.length):=by simp at h;omega
 have hE:Wl a=u0v a.types a.fin.length a.mv:=by rw[Wl,if_neg h1,if_neg h2]
 rw[hE];repeat(refine s_ ?_;simp)
 refine Qs a.mv.length (λj=>u0v a.types a.fin.length a.mv=u0v a.types a.fin.length (a.mv.drop j)) (λj=>[(1,.vptr 0 0),(3,.i a.fin.length),(4,.i j)]) (λ_=>[.vars (Qk a)]) rfl (by simp) (by simp) (by simp) (by simp) (by simp) ?_;intro j hj hI ih;repeat(refine s_ ?_;simp)
 refine Qa rfl (λza=>?_) (λzb=>?_)
 ·have z1:j<a.mv.length:=by simpa using za
  have hw:=wz j (by omega);rw[Wx z1,u0v]at hI;repeat(refine s_ ?_;simp[z1])
  refine Qa rfl (λh3=>?_) (λh3=>?_)
  ·repeat(refine s_ ?_;simp)
   rw[hI,if_pos];simp at h3;omega
  rw[if_neg (by simp at h3 |-;omega)]at hI;repeat(refine s_ ?_;simp)
  refine pcL (u0e a.types a.mv[j].on) ?_;simp;repeat(refine s_ ?_;simp)
  refine Qa rfl (λh4=>?_) (λh4=>?_)
  ·repeat(refine s_ ?_;simp)
   rw[hI,if_pos (by simpa using h4)]
  rw[if_neg (by simpa using h4)]at hI;repeat(refine s_ ?_;simp[hw])
  refine Qp _ (ih z1 hI) rfl (by simp) ?_ (by simp) (by simp);simp
 have z6:j=a.mv.length:=by simp at zb;omega
 subst z6;repeat(refine s_ ?_;simp)
 rw[hI,xH];rfl
end
section
open Go Go.Proofs
attribute [local irreducible] ckR J5
def x2c(x y:Iv)(b:List Iv):(y::b).filterMap (Ai x)=(Ai x y).toList++b.filterMap (Ai x):=by cases h:Ai x y<;>simp[h]
def v2m(x:Iv)(b:List Iv):List Iv:=b.filterMap (Ai x)
def z0u(x:Iv)(a b:List Iv):Rl (x::a) b=v2m x b++Rl a b:=rfl
def k12(x y:Iv)(b:List Iv):v2m x (y::b)=(Ai x y).toList++v2m x b:=x2c x y b
def x21(x:Iv):v2m x []=[]:=rfl
def q1z(b:List Iv):Rl [] b=[]:=rfl
attribute [local irreducible] Rl v2m Eu
def u12(a b:List Iv)(ha:a.length<=1000000000)(hb:b.length<=1000000000)(hP:(Rl a b).length<=1000000000)(ze:∀y∈Rl a b,Oh y):PC prog 218 [LIv a,LIv b] (λr=>r=LIv (Eu (Rl a b))):=by
 refine pcB func218 results218 ntmps218 ?_;simp only[Qe];repeat(refine s_ ?_;simp)
 refine Qz 5 144 2 rfl ?_;simp;repeat(refine s_ ?_;simp)
 refine Qj (Qc (sl':=[(0,LIv a),(1,LIv b),(5,.sl 0 2 0 0),(6,.i 0)]) ?_ (by simp));refine Qi (F:=λ(u:Nat×Nat×List Iv×List AObj)=>⟨[(0,LIv a),(1,LIv b),(5,.sl u.2.1 2 0 u.2.2.1.length),(6,.i u.1)],u.2.2.2⟩)
  (λu=>u.1<=a.length/\u.2.2.2[u.2.1]?=some (.arr 144 2 (u.2.2.1.map encIv))/\u.2.2.1++Rl (a.drop u.1) b=Rl a b) (λu=>a.length - u.1) ?_ (0,0,[],[.arr 144 2 []]) ⟨by simp,rfl,by simp⟩
 rintro⟨j,q,acc,H2⟩ ⟨hj,g1,g2⟩ ih;simp only at hj g1 g2 ih |-;repeat(refine s_ ?_;simp)
 refine Qa rfl (λzf=>?_) (λzg=>?_)
 ·have z6:j<a.length:=by simpa using zf
  have hw:=wz j (by omega);rw[Wx z6,z0u]at g2;repeat(refine s_ ?_;simp)
  refine Qj (Qc (sl':=[(0,LIv a),(1,LIv b),(5,.sl q 2 0 acc.length),(6,.i j),(7,.i 0)]) ?_ (by simp));refine Qi (F:=λ(u:Nat×Nat×List Iv×List AObj)=>⟨[(0,LIv a),(1,LIv b),(5,.sl u.2.1 2 0 u.2.2.1.length),(6,.i j),(7,.i u.1)],u.2.2.2⟩)
   (λu=>u.1<=b.length/\u.2.2.2[u.2.1]?=some (.arr 144 2 (u.2.2.1.map encIv))/\u.2.2.1++(v2m a[j] (b.drop u.1)++Rl (a.drop (j+1)) b)=Rl a b) (λu=>b.length - u.1) ?_ (0,q,acc,H2) ⟨by simp,g1,by simpa using g2⟩
  rintro⟨k,q1,acc1,H3⟩ ⟨hk,e1,e2⟩ ih1;simp only at hk e1 e2 ih1 |-;repeat(refine s_ ?_;simp)
  refine Qa rfl (λz8=>?_) (λza=>?_)
  ·have z1:k<b.length:=by simpa using z8
   have zc:=wz k (by omega);rw[Wx z1,k12]at e2;have zh:acc1.length<=1000000000:=by have:=congrArg vS e2;simp only[z_]at this;omega
   obtain⟨lo,hlo⟩:∃z,(if a[j].lo<b[k].lo then b[k].lo else a[j].lo)=z:=⟨_,rfl⟩
   obtain⟨hi,zd⟩:∃z,(if b[k].hi<a[j].hi then b[k].hi else a[j].hi)=z:=⟨_,rfl⟩
   have hm:Ai a[j] b[k]=if lo<=hi then some ⟨lo,hi⟩else none:=by simp only[Ai,hlo,zd]
   rw[hm]at e2;repeat(refine s_ ?_;simp[z6,z1])
   refine Ql tOk mixed [] (.val 0 (.val 1 (.val 2 (.val 3 (.val 4 (.val 5 (.val 6 (.val 7 (.val 8 (.val 9 (.val 10 (.val 11 (.val 12 (.val 13 (.val 14 (.val 15 (.val 16 (.val 17 (.val 18 (.val 19 (.val 20 (.val 21 (.val 22 (.val 23 (.done))))))))))))))))))))))))) rfl (by kernel_rfl) ?_;simp[z6,z1,hlo,zd];repeat(refine s_ ?_;simp)
   refine Qa rfl (λh3=>?_) (λh3=>?_)
   ·rw[if_pos (by simpa using h3)]at e2;repeat(refine s_ ?_;simp)
    refine apS Ox Fe ?_;simp[Qb e1,Qg e1];refine⟨by simp[Wf,Qb e1,Qg e1]<;>omega,?_⟩;repeat(refine s_ ?_;simp[zc])
    exact Qc (sl':=[(0,LIv a),(1,LIv b),(5,.sl (H3.length+1) 2 0 (acc1.length+1)),(6,.i j),(7,.i (k+1:Nat))]) (by
     have:=ih1 (k+1,H3.length+1,acc1++[(⟨lo,hi⟩:Iv)],H3.set q1 .dead++[.arr 144 2 [encIv (⟨lo,hi⟩:Iv)],.arr 144 2 ((acc1++[(⟨lo,hi⟩:Iv)]).map encIv)]) ⟨by simp;omega,by simp only;rw[zH (by simp)];simp,by simpa using e2⟩ (by simp;omega);simpa using this) (by simp)
   rw[if_neg (by simpa using h3)]at e2;repeat(refine s_ ?_;simp[zc])
   exact Qc (sl':=[(0,LIv a),(1,LIv b),(5,.sl q1 2 0 acc1.length),(6,.i j),(7,.i (k+1:Nat))]) (by
    have:=ih1 (k+1,q1,acc1,H3) ⟨by simp;omega,e1,by simpa using e2⟩ (by simp;omega);simpa using this) (by simp)
  have z7:k=b.length:=by simp at za;omega
  subst z7;rw[xH,x21,xZ]at e2;repeat(refine s_ ?_;simp[hw])
  exact Qc (sl':=[(0,LIv a),(1,LIv b),(5,.sl q1 2 0 acc1.length),(6,.i (j+1:Nat))]) (by
   have:=ih (j+1,q1,acc1,H3) ⟨by simp;omega,e1,e2⟩ (by simp;omega);simpa using this) (by simp)
 have zb:j=a.length:=by simp at zg;omega
 subst zb;rw[xH,q1z,xB]at g2;subst g2;repeat(refine s_ ?_;simp)
 refine Pn q g1 ?_;simp;rw[zT (by simp)];refine pcL (x1n (Rl a b) hP ze) ?_;simp;repeat(refine s_ ?_;simp)
def Sv(x:Iv)(r:List Iv)(n:Int):Rq (x::r) n=(if n<x.lo then [⟨n,x.lo - 1⟩]else [])++Rq r (x.hi+1):=rfl
def Gr(n:Int):Rq [] n=if n<=1099511627776 then [⟨n,1099511627776⟩]else []:=rfl
def x04(l:List Iv):Rq l (-1099511627776)=Ww l:=rfl
attribute [local irreducible] Ww Rq
def Mw(l:List Iv)(hs:Sep l)(hb:∀n,M l n->inR n)(hlen:l.length<=1000000000):PC prog 252 [LIv l] (λr=>r=LIv (Ww l)):=by
 refine pcB func252 results252 ntmps252 ?_;simp only[Qe];have ze:=(A1 hs hb).2.2;repeat(refine s_ ?_;simp)
 refine Qz 3 144 2 rfl ?_;simp;repeat(refine s_ ?_;simp)
 refine Qj (Qc (sl':=[(0,LIv l),(3,.sl 0 2 0 0),(4,.i (-1099511627776)),(5,.i 0)]) ?_ (by simp));refine Qi (F:=λ(u:Nat×Nat×List Iv×Int×List AObj)=>⟨[(0,LIv l),(3,.sl u.2.1 2 0 u.2.2.1.length),(4,.i u.2.2.2.1),(5,.i u.1)],u.2.2.2.2⟩)
  (λu=>u.1<=l.length/\u.2.2.2.2[u.2.1]?=some (.arr 144 2 (u.2.2.1.map encIv))/\u.2.2.1++Rq (l.drop u.1) u.2.2.2.1=Ww l) (λu=>l.length - u.1) ?_ (0,0,[],-1099511627776,[.arr 144 2 []]) ⟨by simp,rfl,by simp[x04]⟩
 rintro⟨j,q,acc,n,H2⟩ ⟨hj,g1,g2⟩ ih;simp only at hj g1 g2 ih |-;have zf:acc.length<=1000000001:=by have:=congrArg vS g2;simp only[z_]at this;omega
 repeat(refine s_ ?_;simp)
 refine Qa rfl (λz8=>?_) (λza=>?_)
 ·have z1:j<l.length:=by simpa using z8
  have zb:=hb _ ⟨l[j],zK z1,yZ _,hs.1 _ (zK z1)⟩;have zc:=hb _ ⟨l[j],zK z1,hs.1 _ (zK z1),yZ _⟩;unfold inR at zb zc;have hw:=wz j (by omega);have zd:IntKind.i64.wrap (l[j].lo - 1)=l[j].lo - 1:=wrap_i64 _ (by omega) (by omega);have z7:IntKind.i64.wrap (l[j].hi+1)=l[j].hi+1:=wrap_i64 _ (by omega) (by omega);rw[Wx z1,Sv]at g2;repeat(refine s_ ?_;simp[z1])
  refine Qa rfl (λh3=>?_) (λh3=>?_)
  ·rw[if_pos (by simpa using h3)]at g2;repeat(refine s_ ?_;simp[z1,zd])
   refine apS Ox Fe ?_;simp[Qb g1,Qg g1];refine⟨by simp[Wf,Qb g1,Qg g1]<;>omega,?_⟩;repeat(refine s_ ?_;simp[z1,hw,z7])
   exact Qc (sl':=[(0,LIv l),(3,.sl (H2.length+1) 2 0 (acc.length+1)),(4,.i (l[j].hi+1)),(5,.i (j+1:Nat))]) (by
    have:=ih (j+1,H2.length+1,acc++[(⟨n,l[j].lo - 1⟩:Iv)],l[j].hi+1,H2.set q .dead++[.arr 144 2 [encIv (⟨n,l[j].lo - 1⟩:Iv)],.arr 144 2 ((acc++[(⟨n,l[j].lo - 1⟩:Iv)]).map encIv)]) ⟨by simp;omega,by simp only;rw[zH (by simp)];simp,by simpa using g2⟩ (by simp;omega);simpa using this) (by simp)
  rw[if_neg (by simpa using h3)]at g2;repeat(refine s_ ?_;simp[z1,hw,z7])
  exact Qc (sl':=[(0,LIv l),(3,.sl q 2 0 acc.length),(4,.i (l[j].hi+1)),(5,.i (j+1:Nat))]) (by
   have:=ih (j+1,q,acc,l[j].hi+1,H2) ⟨by simp;omega,g1,by simpa using g2⟩ (by simp;omega);simpa using this) (by simp)
 have z6:j=l.length:=by simp at za;omega
 subst z6;rw[xH,Gr]at g2;repeat(refine s_ ?_;simp)
 refine Qa rfl (λh3=>?_) (λh3=>?_)
 ·rw[if_pos (by simpa using h3)]at g2;rw[<-g2];repeat(refine s_ ?_;simp)
  refine apS Ox Fe ?_;simp[Qb g1,Qg g1];refine⟨by simp[Wf,Qb g1,Qg g1]<;>omega,?_⟩;repeat(refine s_ ?_;simp)
  rw[zT (by simp)]
 rw[if_neg (by simpa using h3),xB]at g2;subst g2;repeat(refine s_ ?_;simp[g1])
 rw[zT (by simp)]
def z15(a b:List Iv)(ha:Sep a)(hb:Sep b)(z1:a.length+b.length<=1000000000)(hi:∀x∈a,Oh x):PC prog 218 [LIv a,LIv b] (λr=>r=LIv (R5 a b)):=
 (u12 a b (by omega) (by omega) (by have:=Mr a b ha hb;omega) (j1p (.inl hi))).mono λr h=>by rw[h,R5]
end
section
open Go Go.Proofs
structure GL (K G:List AObj) (S p:Nat) (pre post:List AV) (e sz:Nat) (xs:List AV):Prop where
 cell:G[S]?=some (.vars (pre++ .sl p sz 0 xs.length::post))
 arr:G[p]?=some (.arr e sz xs)
 ge:K.length<=p
 lt:S<K.length
 len:K.length<=G.length
 keep:∀j,j<K.length->j≠S->G[j]? =K[j]?
def GL.kp{K G:List AObj}{S p:Nat}{pre post:List AV}{e sz:Nat}{xs:List AV}(h:GL K G S p pre post e sz xs){j:Nat}{x:AObj}(hj:j≠S)(hx:K[j]?=some x):G[j]?=some x:=by rw[h.keep j (zB.1 hx).1 hj];exact hx
def GL.start{K:List AObj}{S:Nat}(pre post:List AV)(e sz:Nat)(h:S<K.length):GL K ((K++[AObj.arr e sz []]).set S (.vars (pre++ .sl K.length sz 0 0::post))) S K.length pre post e sz []:=
 ⟨zL (by simp;omega),by rw[zE (by omega)];simp,zQ _,h,by simp,λj hj z1=>by
  rw[zE (λe=>z1 e.symm),zF hj]⟩
def GL.put{K G:List AObj}{S p:Nat}{pre post:List AV}{e sz:Nat}{xs:List AV}(h:GL K G S p pre post e sz xs)(A:AObj)(y:AV){n:Nat}(hn:n=xs.length):
  GL K ((G.set p .dead++[A,AObj.arr e sz (xs++[y])]).set S (.vars (pre++ .sl (G.length+1) sz 0 (n+1)::post))) S (G.length+1) pre post e sz (xs++[y]):=by
 have hl:=h.len;have z6:=h.lt;have z7:=h.ge;subst hn;refine⟨by rw[zL (by simp;omega)];simp,by rw[zE (by omega),zH (by simp)];simp,by omega,z6,by simp;omega,λj hj z1=>?_⟩;rw[zE (λe=>z1 e.symm),zF (by simp;omega),zE (by omega)];exact h.keep j hj z1
def GL.at{K G:List AObj}{S p:Nat}{pre post:List AV}{e sz:Nat}{xs:List AV}(h:GL K G S p pre post e sz xs)(L:List AObj):(G.set p .dead++L)[S]?=some (.vars (pre++ .sl p sz 0 xs.length::post)):=by have hl:=h.len;have z1:=h.lt;have z6:=h.ge;rw[zF (by simp;omega),zE (by omega)];exact h.cell
def upL(F:Nat->List Iv)(j:Nat):List AV:=(yR j).map λi=>encL (F i)
def Sl(F:Nat->List Iv)(j:Nat):upL F (j+1)=upL F j++[encL (F j)]:=by simp[upL,wM]
def Ed(F:Nat->List Iv)(j:Nat):(upL F j).length=j:=by simp[upL]
def Jh(F:Nat->List Iv)(n:Nat):upL F n=((yR n).map F).map encL:=by simp[upL]
def Xd{α β:Type}(d:α)(f:α->β)(p:List α):(yR p.length).map (λi=>f (p.getD i d))=p.map f:=by
 refine ws (by simp) λi h1 h2=>?_;have h:i<p.length:=by simpa using h1
 simp[yS,h]
def Db(F:Nat->List Iv):upL F 0=[]:=rfl
attribute [local irreducible] upL
def d0w(T:Nat)(p:Prd)(hp:PWf T p)(hl:∀s∈p,s.length<=1000000000)(hT:T<=1000):PC prog 220 [encP p] (λr=>r=encP (Ro p)):=by
 refine pcB func220 results220 ntmps220 ?_;simp only[Qe];simp only[encP];have hlen:=hp.1;repeat(refine s_ ?_;simp)
 refine Ex 2 0 145 1 rfl rfl ?_;simp;obtain⟨K,hK⟩:∃K,K=[AObj.vars [.list (p.map encL)],AObj.vars [AV.nils],AObj.vars [AV.nils]]:=⟨_,rfl⟩
 have hst:=GL.start (K:=K) (S:=2) [] [] 145 1 (by rw[hK];simp);refine Qj (Qc (sl':=[(1,.vptr 0 0),(2,.vptr 1 0),(3,.vptr 2 0),(4,.i 0)]) ?_ (by simp));refine Qi (F:=λ(u:Nat×Nat×List AObj)=>⟨[(1,.vptr 0 0),(2,.vptr 1 0),(3,.vptr 2 0),(4,.i u.1)],u.2.2⟩)
  (λu=>u.1<=p.length/\GL K u.2.2 2 u.2.1 [] [] 145 1 (upL (λi=>Ww (p.getD i [])) u.1)) (λu=>p.length - u.1) ?_ (0,K.length,_) ⟨by simp,by rw[Db,hK]at *;exact hst⟩
 rintro⟨j,q,H2⟩ ⟨hj,g⟩ ih;simp only[u7,xZ]at hj g ih |-;have g0:H2[0]?=some (AObj.vars [.list (p.map encL)]):=g.kp (by decide) (by rw[hK];rfl);have gR:H2[1]?=some (AObj.vars [AV.nils]):=g.kp (by decide) (by rw[hK];rfl);have g2:=g.cell;have g3:=g.arr;rw[Ed]at g2;simp only[xZ]at g2;repeat(refine s_ ?_;simp[g0])
 refine Qa rfl (λze=>?_) (λzf=>?_)
 ·have z1:j<p.length:=by simpa using ze
  have hw:=wz j (by omega);have z7:∀L:List AObj,(H2.set q .dead++L)[2]?=some (AObj.vars [AV.sl q 1 0 j]):=λL=>by have:=g.at L;rw[Ed]at this;exact this
  have za:∀(L:List AObj) (h:2<(H2.set q .dead++L).length),(H2.set q .dead++L)[2]'h=AObj.vars [AV.sl q 1 0 j]:=λL h=>by have:=z7 L;rw[zI h]at this;exact Option.some.inj this
  have zb:=λA y=>g.put A y (Ed _ _).symm;have zg:upL (λi=>Ww (p.getD i [])) j++[encL ((λi=>Ww (p.getD i [])) j)]=upL (λi=>Ww (p.getD i [])) (j+1):=(Sl _ _).symm;have z6:=λH=>ih (j+1,H2.length+1,H);have z8:=Ed (λi=>Ww (p.getD i [])) j;simp only[<-zg]at z6;have hs:=hp.2 _ (zK z1);simp only[Wt z1]at *
  repeat(refine s_ ?_;simp[g0,g2])
  refine Ql tOk mixed [9,11] (.val 0 (.val 1 (.val 2 (.val 3 (.val 4 (.val 5 (.val 6 (.one 7 (.one 8 (.one 9 (.val 10 (.one 11 (.done))))))))))))) rfl (by kernel_rfl) ?_;simp[z1,g0,g2];refine pcL (Mw p[j] hs.1 hs.2 (hl _ (zK z1))) ?_;simp;repeat(refine s_ ?_;simp[g0,g2])
  generalize upL (λi=>Ww (p.getD i [])) j=xs at *
  refine apS T68 Ox ?_;simp[Qb g3,Qg g3,z8,z7,za];refine⟨by simp[Wf,Qb g3,Qg g3,z8,z7,za]<;>omega,?_⟩;repeat(refine s_ ?_;simp[g0,g2,hw,z7,za])
  refine Qc (sl':=[(1,.vptr 0 0),(2,.vptr 1 0),(3,.vptr 2 0),(4,.i (j+1:Nat))]) (z6 _ ⟨by omega,zb _ _⟩ (by omega)) ?_;simp
 have zc:j=p.length:=by(simp at zf;omega)
 subst zc;have hS:=(zB.1 g2).1;have zh:q≠1/\q≠2:=by have:=g.ge;rw[hK]at this;simp at this;omega
 have z8:=Ed (λi=>Ww (p.getD i [])) (p.length);have zd: .list (upL (λi=>Ww (p.getD i [])) (p.length))=AV.list ((Ro p).map encL):=by rw[Jh];rw[Xd];rfl
 generalize upL (λi=>Ww (p.getD i [])) (p.length)=xs at *
 refine Q6 q g3 2 g2 ?_;have k1:∀X,((H2.set q .dead).set 2 X)[1]?=some (AObj.vars [AV.nils]):=λX=>Qd (by decide) (Qd zh.1 gR _) _;have k2:∀X,((H2.set q .dead).set 2 X)[2]?=some X:=λX=>zL (by simpa using hS);have k3:∀X Y,(((H2.set q .dead).set 2 X).set 1 Y)[1]?=some Y:=λX Y=>Qh (k1 X) _;simp[z8];rw[zT (by omega)];repeat(refine s_ ?_;simp[k1,k2,k3])
 exact AV.list.inj zd
def g02(T:Int)(h0:0<=T)(hT:T<=1000):PC prog 219 [.i T] (λr=>r=encP (Q9 T.toNat)):=by
 refine pcB func219 results219 ntmps219 ?_;simp only[Qe];simp only[encP];repeat(refine s_ ?_;simp)
 refine Ex 1 0 145 1 rfl rfl ?_;simp;obtain⟨K,hK⟩:∃K,K=[AObj.vars [AV.nils],AObj.vars [AV.nils]]:=⟨_,rfl⟩
 have hst:=GL.start (K:=K) (S:=1) [] [] 145 1 (by rw[hK];simp);refine Qj (Qc (sl':=[(0,.i T),(2,.vptr 0 0),(3,.vptr 1 0),(4,.i 0)]) ?_ (by simp));refine Qi (F:=λ(u:Nat×Nat×List AObj)=>⟨[(0,.i T),(2,.vptr 0 0),(3,.vptr 1 0),(4,.i u.1)],u.2.2⟩)
  (λu=>u.1<=T.toNat/\GL K u.2.2 1 u.2.1 [] [] 145 1 (upL (λ_=>Ww []) u.1)) (λu=>T.toNat - u.1) ?_ (0,K.length,_) ⟨by simp,by rw[Db,hK]at *;exact hst⟩
 rintro⟨j,q,H2⟩ ⟨hj,g⟩ ih;simp only[u7,xZ]at hj g ih |-;have g0:True:=trivial;have gR:H2[0]?=some (AObj.vars [AV.nils]):=g.kp (by decide) (by rw[hK];rfl);have g2:=g.cell;have g3:=g.arr;rw[Ed]at g2;simp only[xZ]at g2;repeat(refine s_ ?_;simp[g0])
 refine Qa rfl (λzd=>?_) (λze=>?_)
 ·have zf:j<T.toNat:=by(have:(j:Int)<T:=(by simpa using zd);omega)
  have hw:=wz j (by omega);have z6:∀L:List AObj,(H2.set q .dead++L)[1]?=some (AObj.vars [AV.sl q 1 0 j]):=λL=>by have:=g.at L;rw[Ed]at this;exact this
  have z8:∀(L:List AObj) (h:1<(H2.set q .dead++L).length),(H2.set q .dead++L)[1]'h=AObj.vars [AV.sl q 1 0 j]:=λL h=>by have:=z6 L;rw[zI h]at this;exact Option.some.inj this
  have za:=λA y=>g.put A y (Ed _ _).symm;have zg:upL (λ_=>Ww []) j++[encL ((λ_=>Ww []) j)]=upL (λ_=>Ww []) (j+1):=(Sl _ _).symm;have z1:=λH=>ih (j+1,H2.length+1,H);have z7:=Ed (λ_=>Ww []) j;simp only[<-zg]at z1;repeat(refine s_ ?_;simp[g2])
  refine Ql tOk mixed [4,6] (.val 0 (.val 1 (.one 2 (.one 3 (.one 4 (.val 5 (.one 6 (.done)))))))) rfl (by kernel_rfl) ?_;simp[g2];refine pcL (Mw [] X9 (by simp[M]) (by simp)) ?_;simp;repeat(refine s_ ?_;simp[g2])
  generalize upL (λ_=>Ww []) j=xs at *
  refine apS T68 Ox ?_;simp[Qb g3,Qg g3,z7,z6,z8];refine⟨by simp[Wf,Qb g3,Qg g3,z7,z6,z8]<;>omega,?_⟩;repeat(refine s_ ?_;simp[g0,g2,hw,z6,z8])
  refine Qc (sl':=[(0,.i T),(2,.vptr 0 0),(3,.vptr 1 0),(4,.i (j+1:Nat))]) (z1 _ ⟨by omega,za _ _⟩ (by omega)) ?_;simp
 have zb:j=T.toNat:=by(have:¬(j:Int)<T:=(by simpa using ze);omega)
 subst zb;have hS:=(zB.1 g2).1;have zh:q≠0/\q≠1:=by have:=g.ge;rw[hK]at this;simp at this;omega
 have z7:=Ed (λ_=>Ww []) (T.toNat);have zc: .list (upL (λ_=>Ww []) (T.toNat))=AV.list ((Q9 T.toNat).map encL):=by rw[Jh];simp[Q9,Function.comp_def,vL]
 generalize upL (λ_=>Ww []) (T.toNat)=xs at *
 refine Q6 q g3 1 g2 ?_;have k1:∀X,((H2.set q .dead).set 1 X)[0]?=some (AObj.vars [AV.nils]):=λX=>Qd (by decide) (Qd zh.1 gR _) _;have k2:∀X,((H2.set q .dead).set 1 X)[1]?=some X:=λX=>zL (by simpa using hS);have k3:∀X Y,(((H2.set q .dead).set 1 X).set 0 Y)[0]?=some Y:=λX Y=>Qh (k1 X) _;simp[z7];rw[zT (by omega)];repeat(refine s_ ?_;simp[k1,k2,k3])
 exact AV.list.inj zc
end
section
open Go Go.Proofs
def u2l{T:Nat}{p:Prd}(h:PWf T p){s:List Iv}(hs:s∈p):∀x∈s,Oh x:=v0a (h.2 s hs).1 (h.2 s hs).2
attribute [local irreducible] R5 Eu
def B1(p:Prd):PC prog 159 [encP p] (λr=>r= .bool (Wj p)):=by
 refine pcB func159 results159 ntmps159 ?_;simp only[Qe];simp only[encP];refine Wd 0 0 rfl rfl (λhlen=>?_);rw[zY]at hlen;obtain⟨R,hR⟩:∃R,Wj p=R:=⟨_,rfl⟩
 rw[hR];repeat(refine s_ ?_;simp)
 refine Qs p.length (λj=>Wj (p.drop j)=R) (λj=>[(1,.vptr 0 0),(3,.i j)]) (λ_=>[.vars [.list (p.map encL)]]) rfl (by simp) (by simp) (by simp) (by simp) (by simpa using hR) ?_;intro j hj hI ih;repeat(refine s_ ?_;simp)
 refine Qa rfl (λz7=>?_) (λz8=>?_)
 ·have z1:j<p.length:=by simpa using z7
  have hw:=wz j (by omega);rw[Wx z1,Wj,List.all_cons]at hI;repeat(refine s_ ?_;simp[z1])
  refine Qa rfl (λh3=>?_) (λh3=>?_)
  ·repeat(refine s_ ?_;simp)
   have:p[j].isEmpty=false:=by simp at h3;cases hp:p[j]with|nil=>rw[hp]at h3;simp at h3|cons _ _=>rfl
   rw[this,Bool.false_and]at hI;exact hI.symm
  have:p[j].isEmpty=true:=by simp at h3;simp[h3]
  rw[this,Bool.true_and]at hI;repeat(refine s_ ?_;simp[hw])
  refine Qp _ (ih z1 hI) rfl (by simp) ?_ (by simp) (by simp);simp
 have z6:j=p.length:=by simp at z8;omega
 subst z6;repeat(refine s_ ?_;simp)
 rw[<-hI,xH];rfl
def Kl:∀(p:Prd) (i:Nat),(∃s∈p,s≠[])->∃t x r,p[t]?=some (x::r)/\Qy p i=(i+t,x.lo)/\∀j,j<t->p[j]?=some []
 |[],i,h=>by obtain⟨s,hs,_⟩:=h;cases hs
 |[]::p,i,h=>by
  obtain⟨t,x,r,h1,h2,h3⟩:=Kl p (i+1) (by obtain⟨s,hs,hn⟩:=h;rcases zZ.1 hs with rfl|hs;exact absurd rfl hn;exact⟨s,hs,hn⟩);refine⟨t+1,x,r,by simpa using h1,by rw[Qy,h2];congr 1;omega,λj hj=>?_⟩;cases j with
  |zero=>rfl
  |succ j=>simpa using h3 j (by omega)
 |(x::r)::p,i,_=>⟨0,x,r,rfl,by simp[Qy],λj hj=>by omega⟩
end
section
open Go Go.Proofs
attribute [local irreducible] R5 Eu upL Ww
def u10{c p:Prd}(h:c.length=p.length):(yR c.length).map (λi=>R5 (c.getD i []) (p.getD i []))=W1 c p:=by
 refine ws (by simp[W1,h]) λi h1 h2=>?_;have hc:i<c.length:=by simpa using h1
 have hp:i<p.length:=by omega
 simp[W1,yS,hc,hp]
def Nh(T:Nat)(c p:Prd)(hc:PWf T c)(hp:PWf T p)(zf:∀s∈c,∀t∈p,s.length+t.length<=1000000000)(hT:T<=1000):PC prog 160 [encP c,encP p] (λr=>r=encP (W1 c p)):=by
 refine pcB func160 results160 ntmps160 ?_;simp only[Qe];simp only[encP];have hlen:c.length=p.length:=by rw[hc.1,hp.1]
 have zl:=hc.1;repeat(refine s_ ?_;simp)
 refine Ex 3 0 145 1 rfl rfl ?_;simp;obtain⟨K,hK⟩:∃K,K=[AObj.vars [.list (c.map encL)],AObj.vars [.list (p.map encL)],AObj.vars [AV.nils],AObj.vars [AV.nils]]:=⟨_,rfl⟩
 have hst:=GL.start (K:=K) (S:=3) [] [] 145 1 (by rw[hK];simp);refine Qj (Qc (sl':=[(2,.vptr 0 0),(3,.vptr 1 0),(4,.vptr 2 0),(5,.vptr 3 0),(6,.i 0)]) ?_ (by simp));refine Qi (F:=λ(u:Nat×Nat×List AObj)=>⟨[(2,.vptr 0 0),(3,.vptr 1 0),(4,.vptr 2 0),(5,.vptr 3 0),(6,.i u.1)],u.2.2⟩)
  (λu=>u.1<=c.length/\GL K u.2.2 3 u.2.1 [] [] 145 1 (upL (λi=>R5 (c.getD i []) (p.getD i [])) u.1)) (λu=>c.length - u.1) ?_ (0,K.length,_) ⟨by simp,by rw[Db,hK]at *;exact hst⟩
 rintro⟨j,q,H2⟩ ⟨hj,g⟩ ih;simp only[u7,xZ]at hj g ih |-;have g0:H2[0]?=some (AObj.vars [.list (c.map encL)]):=g.kp (by decide) (by rw[hK];rfl);have g1:H2[1]?=some (AObj.vars [.list (p.map encL)]):=g.kp (by decide) (by rw[hK];rfl);have gR:H2[2]?=some (AObj.vars [AV.nils]):=g.kp (by decide) (by rw[hK];rfl);have g2:=g.cell;have g3:=g.arr;rw[Ed]at g2;simp only[xZ]at g2;repeat(refine s_ ?_;simp[g0])
 refine Qa rfl (λzg=>?_) (λzh=>?_)
 ·have z1:j<c.length:=by simpa using zg
  have hw:=wz j (by omega);have z7:∀L:List AObj,(H2.set q .dead++L)[3]?=some (AObj.vars [AV.sl q 1 0 j]):=λL=>by have:=g.at L;rw[Ed]at this;exact this
  have zb:∀(L:List AObj) (h:3<(H2.set q .dead++L).length),(H2.set q .dead++L)[3]'h=AObj.vars [AV.sl q 1 0 j]:=λL h=>by have:=z7 L;rw[zI h]at this;exact Option.some.inj this
  have zc:=λA y=>g.put A y (Ed _ _).symm;have zi:upL (λi=>R5 (c.getD i []) (p.getD i [])) j++[encL ((λi=>R5 (c.getD i []) (p.getD i [])) j)]=upL (λi=>R5 (c.getD i []) (p.getD i [])) (j+1):=(Sl _ _).symm;have z6:=λH=>ih (j+1,H2.length+1,H);have z8:=Ed (λi=>R5 (c.getD i []) (p.getD i [])) j;simp only[<-zi]at z6;have za:j<p.length:=by omega
  have hs:=hc.2 _ (zK z1);have zj:=hp.2 _ (zK za);simp only[Wt z1,Wt za]at *
  repeat(refine s_ ?_;simp[g0,g1,g2])
  refine Ql tOk mixed [14,16] (.val 0 (.val 1 (.val 2 (.val 3 (.val 4 (.val 5 (.val 6 (.val 7 (.val 8 (.val 9 (.val 10 (.val 11 (.one 12 (.one 13 (.one 14 (.val 15 (.one 16 (.done)))))))))))))))))) rfl (by kernel_rfl) ?_;simp[z1,za,g0,g1,g2];refine pcL (z15 c[j] p[j] hs.1 zj.1 (zf _ (zK z1) _ (zK za)) (u2l hc (zK z1))) ?_;simp;repeat(refine s_ ?_;simp[g0,g1,g2])
  generalize upL (λi=>R5 (c.getD i []) (p.getD i [])) j=xs at *
  refine apS T68 Ox ?_;simp[Qb g3,Qg g3,z8,z7,zb];refine⟨by simp[Wf,Qb g3,Qg g3,z8,z7,zb]<;>omega,?_⟩;repeat(refine s_ ?_;simp[g0,g2,hw,z7,zb])
  refine Qc (sl':=[(2,.vptr 0 0),(3,.vptr 1 0),(4,.vptr 2 0),(5,.vptr 3 0),(6,.i (j+1:Nat))]) (z6 _ ⟨by omega,zc _ _⟩ (by omega)) ?_;simp
 have zd:j=c.length:=by(simp at zh;omega)
 subst zd;have hS:=(zB.1 g2).1;have zk:q≠2/\q≠3:=by have:=g.ge;rw[hK]at this;simp at this;omega
 have z8:=Ed (λi=>R5 (c.getD i []) (p.getD i [])) (c.length);have ze: .list (upL (λi=>R5 (c.getD i []) (p.getD i [])) (c.length))=AV.list ((W1 c p).map encL):=by rw[Jh];rw[u10 hlen]
 generalize upL (λi=>R5 (c.getD i []) (p.getD i [])) (c.length)=xs at *
 refine Q6 q g3 3 g2 ?_;have k1:∀X,((H2.set q .dead).set 3 X)[2]?=some (AObj.vars [AV.nils]):=λX=>Qd (by decide) (Qd zk.1 gR _) _;have k2:∀X,((H2.set q .dead).set 3 X)[3]?=some X:=λX=>zL (by simpa using hS);have k3:∀X Y,(((H2.set q .dead).set 3 X).set 2 Y)[2]?=some Y:=λX Y=>Qh (k1 X) _;simp[z8];rw[zT (by omega)];repeat(refine s_ ?_;simp[k1,k2,k3])
 exact AV.list.inj ze
end
end Go.Abs
