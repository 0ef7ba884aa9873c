/- Part Za of the proof: steps on the way to the last part. No condition. -/
import Derived.WalkKit
import Derived.Maps.RangeRun
import Derived.ChangeKeysEq
import Derived.OrdersIn
import Derived.OrdersHeld
import Derived.TacticsIn
import Derived.RangeFuncLeaves
import Derived.RangeFuncRecord
import Derived.RangeFuncOwn
import Derived.RangeFuncIn
set_option linter.all false
open Nat renaming add_assoc->xZ,add_mul->yA,add_zero->wy,zero_add->yW,lt_or_ge->wa,le_trans->yD,le_refl->zR,lt_of_lt_of_le->yZ,lt_trichotomy->ug,mul_le_mul_right->zZ,mul_le_mul_left->vZ,lt_or_gt_of_ne->ub
open List renaming all_subtype->xM,unattach_attach->xx,all_eq_true->zV,mem_of_getElem?->zE,range->xV,length_drop->xo,getElem?_drop->yX,getElem?_eq_some_iff->zD,getElem?_eq_getElem->zG,getElem?_take->yJ,length_cons->yQ,getElem?_set_ne->zI,zipIdx_cons->uf,foldl_cons->xK,getElem?_map->zU,mapM_cons->uw,getElem?_cons_zero->xr,mem_of_mem_take->xL,mem_of_mem_drop->wd,length_take->vw,map_nil->yM,map_cons->z_,length->wU,getElem?_append_left->zK,getElem?_append_right->zF,length_append->zL,length_singleton->vL,getElem?_set_self->zJ,length_set->wj,range'->wK,range'_succ->wL,zip_cons_cons->vY,replicate->zH,length_replicate->vM,range_eq_range'->vd,getElem?_replicate->xt,mem_or_eq_of_mem_set->vy,mem_cons->y_,getD_eq_getElem?_getD->wB,getElem?_append->yH,nodup_cons->un
open Bool renaming and_eq_true->zX,or_eq_true->yE,false_eq_true->wF
open Option renaming bind_eq_some_iff->yS,map_eq_some_iff->zM,getD_some->xQ,map_some->xU,isSome_iff_exists->vu,bind_some->wq
open Array renaming getD_eq_getD_getElem?->xN,getElem?_setIfInBounds_ne->vg,length_toList->wv,getElem?_toList->vH,mem_of_getElem?->wS,mapM_eq_mapM_toList->vv,ext'->vo,getElem?_eq_none->wi,getElem?_eq_some_iff->xl,range->vj,getElem?_eq_getElem->yY,replicate->wD,size_append->xq,getElem?_append->vI
namespace Go.Abs
open Go Go.RowKit
section
inductive AV where
 |bool (b:Bool)
 |int (k:IntKind) (n:Int)
 |str (s:List UInt8)
 |list (xs:List AV)
 |agg (cs:List AV)
 |tup (vs:List AV)
 |fn (f:Fn) (first captured:List AV)
 |nils
 |nilp
 |nilf
 |nili
 |ifc
 |vptr (id off:Nat)
 |ept (id c i off:Nat)
 |iptr (cs:List AV)
 |sl (id c lo len:Nat)
 |opt (p:Bool) (x:AV)
 |yld (id:Nat)
 |mref (id:Nat)
 |top
 deriving Inhabited
def AV.cells:AV->List AV
 | .agg cs=>cs
 |x=>[x]
def AV.leaf:AV->Bool
 | .agg _| .tup _| .top| .opt _ _=>false
 |_=>true
def AV.pure:AV->Bool
 | .agg cs=>cs.attach.all λ⟨x,_⟩=>x.pure
 | .tup cs=>cs.attach.all λ⟨x,_⟩=>x.pure
 | .fn _ xs ys=>(xs.attach.all λ⟨x,_⟩=>x.pure) && (ys.attach.all λ⟨x,_⟩=>x.pure)
 | .vptr _ _| .ept _ _ _ _| .sl _ _ _ _| .opt _ _| .yld _| .mref _=>false
 |_=>true
inductive PVR (w:World) (I:Nat->Prop):Value->AV->Prop where
 |top (v:Value):PVR w I v .top
 |bool (b:Bool):PVR w I (.bool b) (.bool b)
 |int (k:IntKind) (n:Int):PVR w I (.int k n) (.int k n)
 |str (s:List UInt8):PVR w I (.string ⟨s.toArray⟩) (.str s)
 |nils:PVR w I (.slice none 0 0) .nils
 |nilp:PVR w I (.pointer none) .nilp
 |nilf:PVR w I .nilFunc .nilf
 |nili:PVR w I .nilIface .nili
 |ifc (t:TypeId) (u:Value):PVR w I (.iface t u) .ifc
 |list (a:Option Addr) (n cap c:Nat) (xs:List AV) (u:Nat->Nat->Value) (hn:n=xs.length) (hcap:xs.length<=cap) (hmax:cap<=maxLen)
   (hc:∀x∈xs,x.cells.length=c)
   (ha:0<xs.length->∃ad,a=some ad/\(0<c->I ad.block)/\∀i j,i<xs.length->j<c->w.cell? (ad.add (i * c+j))=some (u i j))
   (hu:∀(i:Nat) (x:AV),xs[i]?=some x->∀(j:Nat) (y:AV),x.cells[j]?=some y->PVR w I (u i j) y):PVR w I (.slice a n cap) (.list xs)
 |agg (vs:Array Value) (cs:List AV) (hl:vs.size=cs.length) (h:∀(i:Nat) (v:Value) (x:AV),vs[i]?=some v->cs[i]?=some x->PVR w I v x):PVR w I (.agg vs) (.agg cs)
 |tup (vs:Array Value) (cs:List AV) (hl:vs.size=cs.length) (h:∀(i:Nat) (v:Value) (x:AV),vs[i]?=some v->cs[i]?=some x->PVR w I v x):PVR w I (.tuple vs) (.tup cs)
 |fn (f:Fn) (vs us:Array Value) (xs ys:List AV) (hl:vs.size=xs.length) (h:∀(i:Nat) (v:Value) (x:AV),vs[i]?=some v->xs[i]?=some x->PVR w I v x)
   (hl':us.size=ys.length) (h':∀(i:Nat) (v:Value) (x:AV),us[i]?=some v->ys[i]?=some x->PVR w I v x):PVR w I (.func f vs us) (.fn f xs ys)
 |iptr (a:Addr) (cs:List AV) (u:Nat->Value) (hI:0<cs.length->I a.block) (hcell:∀j,j<cs.length->w.cell? (a.add j)=some (u j))
   (hu:∀(j:Nat) (y:AV),cs[j]?=some y->PVR w I (u j) y):PVR w I (.pointer (some a)) (.iptr cs)
def block_add(a:Addr)(n:Nat):(a.add n).block=a.block:=by unfold Addr.add;split<;>rfl
def add_add(a:Addr)(i j:Nat):(a.add i).add j=a.add (i+j):=by unfold Addr.add;by_cases hi:i=0<;>by_cases hj:j=0<;>simp[hi,hj,xZ]
structure Ext (w w':World) (I I':Nat->Prop):Prop where
 sub:∀b,I b->I' b
 imm:∀b,I b->w'.heap[b]? =w.heap[b]?
def Ext.refl(w:World)(I:Nat->Prop):Ext w w I I:=⟨λ_ h=>h,λ_ _=>rfl⟩
def Ext.trans{a b c:World}{I J K:Nat->Prop}(h:Ext a b I J)(k:Ext b c J K):Ext a c I K:=
 ⟨λx hx=>k.sub x (h.sub x hx),λx hx=>(k.imm x (h.sub x hx)).trans (h.imm x hx)⟩
def PVR.mono{w w':World}{I I':Nat->Prop}(e:Ext w w' I I'){v:Value}{x:AV}(h:PVR w I v x):PVR w' I' v x:=by
 induction h with
 |top v=>exact .top v
 |bool b=>exact .bool b
 |int k n=>exact .int k n
 |str s=>exact .str s
 |nils=>exact .nils
 |nilp=>exact .nilp
 |nilf=>exact .nilf
 |nili=>exact .nili
 |ifc t u=>exact .ifc t u
 |list a n cap c xs u hn hcap hmax hc ha hu ih=>refine .list a n cap c xs u hn hcap hmax hc (λh0=>?_) ih;obtain⟨ad,rfl,hI,hcell⟩:=ha h0;refine⟨ad,rfl,λhc=>e.sub _ (hI hc),λi j hi hj=>?_⟩;rw[World.cell?_of_block (w:=w) (by rw[block_add];exact e.imm _ (hI (by omega)))];exact hcell i j hi hj
 |agg vs cs hl h ih=>exact .agg vs cs hl ih
 |tup vs cs hl h ih=>exact .tup vs cs hl ih
 |fn f vs us xs ys hl h hl' h' ih ih'=>exact .fn f vs us xs ys hl ih hl' ih'
 |iptr a cs u hI hcell hu ih=>refine .iptr a cs u (λhc=>e.sub _ (hI hc)) (λj hj=>?_) ih;rw[World.cell?_of_block (w:=w) (by rw[block_add];exact e.imm _ (hI (by omega)))];exact hcell j hj
inductive VR (w:World) (I:Nat->Prop) (m:Nat->Option Nat) (n:Nat):Value->AV->Prop where
 |pure {v:Value} {x:AV} (h:PVR w I v x):VR w I m n v x
 |agg (vs:Array Value) (cs:List AV) (hl:vs.size=cs.length) (h:∀(i:Nat) (v:Value) (x:AV),vs[i]?=some v->cs[i]?=some x->VR w I m n v x):VR w I m n (.agg vs) (.agg cs)
 |tup (vs:Array Value) (cs:List AV) (hl:vs.size=cs.length) (h:∀(i:Nat) (v:Value) (x:AV),vs[i]?=some v->cs[i]?=some x->VR w I m n v x):VR w I m n (.tuple vs) (.tup cs)
 |fn (f:Fn) (vs us:Array Value) (xs ys:List AV) (hl:vs.size=xs.length) (h:∀(i:Nat) (v:Value) (x:AV),vs[i]?=some v->xs[i]?=some x->VR w I m n v x)
   (hl':us.size=ys.length) (h':∀(i:Nat) (v:Value) (x:AV),us[i]?=some v->ys[i]?=some x->VR w I m n v x):VR w I m n (.func f vs us) (.fn f xs ys)
 |vptr (id off b:Nat) (hn:id<n) (hb:m id=some b):VR w I m n (.pointer (some ⟨b,off,none⟩)) (.vptr id off)
 |ept (id c i off b:Nat) (hn:id<n) (hb:m id=some b):VR w I m n (.pointer (some ⟨b,i * c+off,none⟩)) (.ept id c i off)
 |sl (id c lo len cap b:Nat) (t:TypeId) (hn:id<n) (hb:m id=some b) (hs:w.shape? b=some (t,(lo+cap) * c)) (hl:len<=cap) (hmax:lo+cap<=maxLen):
   VR w I m n (.slice (some ⟨b,lo * c,none⟩) len cap) (.sl id c lo len)
 |slnone (id c:Nat) (hn:id<n) (hb:m id=none):VR w I m n (.slice none 0 0) (.sl id c 0 0)
 |slend (id c lo:Nat) (a:Addr) (hn:id<n) (hlo:0<lo):VR w I m n (.slice (some a) 0 0) (.sl id c lo 0)
 |yld (id b:Nat) (hn:id<n) (hb:m id=some b):VR w I m n (.func (.yield b) #[] #[]) (.yld id)
 |mref (id b:Nat) (hn:id<n) (hb:m id=some b):VR w I m n (.map (some b)) (.mref id)
 |opt {v:Value} (p:Bool) (x:AV) (h1:p=true->VR w I m n v x) (h2:p=false->v=undef):VR w I m n v (.opt p x)
structure Fut (n:Nat) (w:World) (I:Nat->Prop) (m:Nat->Option Nat) (w':World) (I':Nat->Prop) (m':Nat->Option Nat):Prop where
 ext:Ext w w' I I'
 ids:∀id,id<n->m' id=m id
 shape:∀b s,w.shape? b=some s->w'.shape? b=some s
def Fut.refl(n:Nat)(w:World)(I:Nat->Prop)(m:Nat->Option Nat):Fut n w I m w I m:=⟨.refl _ _,λ_ _=>rfl,λ_ _ h=>h⟩
def Fut.trans{n n':Nat}{a b c:World}{I J K:Nat->Prop}{m m' m'':Nat->Option Nat}(h:Fut n a I m b J m')(hn:n<=n')(k:Fut n' b J m' c K m''):Fut n a I m c K m'':=
 ⟨h.ext.trans k.ext,λid hid=>(k.ids id (by omega)).trans (h.ids id hid),λb s hs=>k.shape b s (h.shape b s hs)⟩
def VR.mono {w w':World} {I I':Nat->Prop} {m m':Nat->Option Nat} {n n':Nat} (e:Fut n w I m w' I' m') (hn:n<=n') {v:Value} {x:AV}
  (h:VR w I m n v x):VR w' I' m' n' v x:=by
 induction h with
 |pure h=>exact .pure (h.mono e.ext)
 |agg vs cs hl h ih=>exact .agg vs cs hl ih
 |tup vs cs hl h ih=>exact .tup vs cs hl ih
 |fn f vs us xs ys hl h hl' h' ih ih'=>exact .fn f vs us xs ys hl ih hl' ih'
 |vptr id off b hi hb=>exact .vptr id off b (by omega) ((e.ids id hi).trans hb)
 |ept id c i off b hi hb=>exact .ept id c i off b (by omega) ((e.ids id hi).trans hb)
 |sl id c lo len cap b t hi hb hs hl hmax=>exact .sl id c lo len cap b t (by omega) ((e.ids id hi).trans hb) (e.shape _ _ hs) hl hmax
 |slnone id c hi hb=>exact .slnone id c (by omega) ((e.ids id hi).trans hb)
 |slend id c lo a hi hlo=>exact .slend id c lo a (by omega) hlo
 |yld id b hi hb=>exact .yld id b (by omega) ((e.ids id hi).trans hb)
 |mref id b hi hb=>exact .mref id b (by omega) ((e.ids id hi).trans hb)
 |opt p x h1 h2 ih=>exact .opt p x ih h2
section
variable {w:World} {I:Nat->Prop} {m:Nat->Option Nat} {n:Nat} {v:Value}
def VR.bool_inv{b:Bool}(h:VR w I m n v (.bool b)):v= .bool b:=by cases h with|pure h=>cases h;rfl
def VR.int_inv{k:IntKind}{z:Int}(h:VR w I m n v (.int k z)):v= .int k z:=by cases h with|pure h=>cases h;rfl
def VR.str_inv{s:List UInt8}(h:VR w I m n v (.str s)):v= .string ⟨s.toArray⟩:=by cases h with|pure h=>cases h;rfl
def VR.nils_inv(h:VR w I m n v .nils):v= .slice none 0 0:=by cases h with|pure h=>cases h;rfl
def VR.nilp_inv(h:VR w I m n v .nilp):v= .pointer none:=by cases h with|pure h=>cases h;rfl
def VR.nili_inv(h:VR w I m n v .nili):v= .nilIface:=by cases h with|pure h=>cases h;rfl
def VR.ifc_inv(h:VR w I m n v .ifc):∃t u,v= .iface t u:=by cases h with|pure h=>cases h with|ifc t u=>exact⟨t,u,rfl⟩
def VR.nilf_inv(h:VR w I m n v .nilf):v= .nilFunc:=by cases h with|pure h=>cases h;rfl
def VR.list_inv{xs:List AV}(h:VR w I m n v (.list xs)):PVR w I v (.list xs):=by cases h with|pure h=>exact h
def VR.iptr_inv{xs:List AV}(h:VR w I m n v (.iptr xs)):PVR w I v (.iptr xs):=by cases h with|pure h=>exact h
def VR.agg_inv{cs:List AV}(h:VR w I m n v (.agg cs)):∃vs,v= .agg vs/\vs.size=cs.length/\∀(i:Nat) (v:Value) (x:AV),vs[i]?=some v->cs[i]?=some x->VR w I m n v x:=by
 cases h with
 |pure h=>cases h with|agg vs _ hl h=>exact⟨vs,rfl,hl,λi v x a b=> .pure (h i v x a b)⟩
 |agg vs _ hl h=>exact⟨vs,rfl,hl,h⟩
def VR.tup_inv{cs:List AV}(h:VR w I m n v (.tup cs)):∃vs,v= .tuple vs/\vs.size=cs.length/\∀(i:Nat) (v:Value) (x:AV),vs[i]?=some v->cs[i]?=some x->VR w I m n v x:=by
 cases h with
 |pure h=>cases h with|tup vs _ hl h=>exact⟨vs,rfl,hl,λi v x a b=> .pure (h i v x a b)⟩
 |tup vs _ hl h=>exact⟨vs,rfl,hl,h⟩
def VR.fn_inv{f:Fn}{xs ys:List AV}(h:VR w I m n v (.fn f xs ys)):∃vs us,v= .func f vs us/\vs.size=xs.length/\(∀(i:Nat) (v:Value) (x:AV),vs[i]?=some v->xs[i]?=some x->VR w I m n v x)/\
  us.size=ys.length/\∀(i:Nat) (v:Value) (x:AV),us[i]?=some v->ys[i]?=some x->VR w I m n v x:=by
 cases h with
 |pure h=>cases h with|fn _ vs us _ _ hl h hl' h'=>exact⟨vs,us,rfl,hl,λi v x a b=> .pure (h i v x a b),hl',λi v x a b=> .pure (h' i v x a b)⟩
 |fn _ vs us _ _ hl h hl' h'=>exact⟨vs,us,rfl,hl,h,hl',h'⟩
def VR.vptr_inv{id off:Nat}(h:VR w I m n v (.vptr id off)):∃b,m id=some b/\id<n/\v= .pointer (some ⟨b,off,none⟩):=by
 cases h with
 |pure h=>cases h
 |vptr _ _ b hn hb=>exact⟨b,hb,hn,rfl⟩
def VR.ept_inv{id c i off:Nat}(h:VR w I m n v (.ept id c i off)):∃b,m id=some b/\id<n/\v= .pointer (some ⟨b,i * c+off,none⟩):=by
 cases h with
 |pure h=>cases h
 |ept _ _ _ _ b hn hb=>exact⟨b,hb,hn,rfl⟩
def VR.sl_inv{id c lo len:Nat}(h:VR w I m n v (.sl id c lo len)):
  (∃b cap t,m id=some b/\id<n/\w.shape? b=some (t,(lo+cap) * c)/\len<=cap/\lo+cap<=maxLen/\v= .slice (some ⟨b,lo * c,none⟩) len cap)\/
  (m id=none/\id<n/\lo=0/\len=0/\v= .slice none 0 0)\/
  (∃a:Addr,id<n/\0<lo/\len=0/\v= .slice (some a) 0 0):=by
 cases h with
 |pure h=>cases h
 |sl _ _ _ _ cap b t hn hb hs hl hmax=>exact .inl ⟨b,cap,t,hb,hn,hs,hl,hmax,rfl⟩
 |slnone _ _ hn hb=>exact .inr (.inl ⟨hb,hn,rfl,rfl,rfl⟩)
 |slend _ _ _ a hn hlo=>exact .inr (.inr ⟨a,hn,hlo,rfl,rfl⟩)
def PVR.list_inv{xs:List AV}(h:PVR w I v (.list xs)):∃(a:Option Addr) (cap c:Nat) (u:Nat->Nat->Value),v= .slice a xs.length cap/\xs.length<=cap/\cap<=maxLen/\(∀x∈xs,x.cells.length=c)/\
  (0<xs.length->∃ad,a=some ad/\(0<c->I ad.block)/\∀i j,i<xs.length->j<c->w.cell? (ad.add (i * c+j))=some (u i j))/\
  (∀(i:Nat) (x:AV),xs[i]?=some x->∀(j:Nat) (y:AV),x.cells[j]?=some y->PVR w I (u i j) y):=by
 cases h with|list a _ cap c _ u hn hcap hmax hc ha hu=>exact⟨a,cap,c,u,by rw[hn],hcap,hmax,hc,ha,hu⟩
def PVR.iptr_inv{cs:List AV}(h:PVR w I v (.iptr cs)):∃(a:Addr) (u:Nat->Value),v= .pointer (some a)/\(0<cs.length->I a.block)/\(∀j,j<cs.length->w.cell? (a.add j)=some (u j))/\(∀(j:Nat) (y:AV),cs[j]?=some y->PVR w I (u j) y):=by cases h with|iptr a _ u hI hcell hu=>exact⟨a,u,rfl,hI,hcell,hu⟩
def VR.yld_inv{id:Nat}(h:VR w I m n v (.yld id)):∃b,m id=some b/\id<n/\v= .func (.yield b) #[] #[]:=by
 cases h with
 |pure h=>cases h
 |yld _ b hn hb=>exact⟨b,hb,hn,rfl⟩
def VR.mref_inv{id:Nat}(h:VR w I m n v (.mref id)):∃b,m id=some b/\id<n/\v= .map (some b):=by
 cases h with
 |pure h=>cases h
 |mref _ b hn hb=>exact⟨b,hb,hn,rfl⟩
def VR.opt_inv{p:Bool}{x:AV}(h:VR w I m n v (.opt p x)):(p=true->VR w I m n v x)/\(p=false->v=undef):=by
 cases h with
 |pure h=>cases h
 |opt _ _ h1 h2=>exact⟨h1,h2⟩
def VR.oneCell{x:AV}(h:VR w I m n v x)(hl:x.leaf=true):v.oneCell'=true:=by
 cases h with
 |pure h=>cases h<;>first|rfl|simp[AV.leaf]at hl
 |agg=>simp[AV.leaf]at hl
 |tup=>simp[AV.leaf]at hl
 |fn=>rfl
 |vptr=>rfl
 |ept=>rfl
 |sl=>rfl
 |slnone=>rfl
 |slend=>rfl
 |yld=>rfl
 |mref=>rfl
 |opt=>simp[AV.leaf]at hl
def VR.toPure{x:AV}(h:VR w I m n v x)(hp:x.pure=true):PVR w I v x:=by
 induction h with
 |pure h=>exact h
 |agg vs cs hl h ih=>unfold AV.pure at hp;simp only[xM,xx,zV]at hp;exact .agg vs cs hl λi v x a b=>ih i v x a b (hp x (zE b))
 |tup vs cs hl h ih=>unfold AV.pure at hp;simp only[xM,xx,zV]at hp;exact .tup vs cs hl λi v x a b=>ih i v x a b (hp x (zE b))
 |fn f vs us xs ys hl h hl' h' ih ih'=>unfold AV.pure at hp;simp only[xM,xx,zV,zX]at hp;exact .fn f vs us xs ys hl (λi v x a b=>ih i v x a b (hp.1 x (zE b))) hl' (λi v x a b=>ih' i v x a b (hp.2 x (zE b)))
 |vptr=>simp[AV.pure]at hp
 |ept=>simp[AV.pure]at hp
 |sl=>simp[AV.pure]at hp
 |slnone=>simp[AV.pure]at hp
 |slend=>simp[AV.pure]at hp
 |yld=>simp[AV.pure]at hp
 |mref=>simp[AV.pure]at hp
 |opt=>simp[AV.pure]at hp
end
end
section
structure TI where
 desc:TypeDesc
 zero:Value
 size:Nat
 bytes:Nat
 eqv:Bool:=false
abbrev TT:=List (Nat×TI)
def look{α:Type}:List (Nat×α)->Nat->Option α
 |[],_=>none
 |(k,v)::r,t=>if k=t then some v else look r t
def put{α:Type}:List (Nat×α)->Nat->α->List (Nat×α)
 |[],t,v=>[(t,v)]
 |(k,u)::r,t,v=>if k=t then(t,v)::r else if t<k then(t,v)::(k,u)::r else(k,u)::put r t v
inductive AObj where
 |vars (cs:List AV)
 |arr (e:TypeId) (c:Nat) (xs:List AV)
 |dead
 |tag (id:Nat) (t:TypeId)
 |lp (rdy:Bool) (pend:Option Code) (nt:Nat) (sl:List (Nat×AV)) (ps:List Tmp) (asg body:Code)
 |mp (kvs:List (AV×AV))
 |va (e:TypeId) (c:Nat) (xs:List AV)
 |it (left:List (AV×AV)) (cur:Option (AV×AV))
 |mv (kvs:List (AV×AV))
 |fm (kvs:List (AV×AV))
 deriving Inhabited
structure AS where
 sl:List (Nat×AV)
 hp:List AObj
def TI.agg(i:TI):Bool:=match i.desc with
 | .struct _| .array _ _=>true
 |_=>false
def Um(T:TT)(fs:Array Field):Bool:=fs.toList.all λf=>(look T f.type).isSome
def ofConst:Value->Option AV
 | .bool b=>some (.bool b)
 | .int k n=>some (.int k n)
 | .string s=>some (.str s.data.toList)
 | .slice none 0 0=>some .nils
 | .pointer none=>some .nilp
 | .nilFunc=>some .nilf
 | .nilIface=>some .nili
 |_=>none
def zeroCell:Value->AV
 | .bool b=> .bool b
 | .int k n=> .int k n
 | .string s=> .str s.data.toList
 | .slice none 0 0=> .nils
 | .pointer none=> .nilp
 | .nilFunc=> .nilf
 | .nilIface=> .nili
 |_=> .top
def TI.zeros(i:TI):List AV:=i.zero.cells.toList.map zeroCell
def deref(g:Bool):AV->Option AV
 | .opt p x=>if(!g || p)=true then some x else none
 |x=>some x
def R9(g:Bool)(sl:List (Nat×AV)):Operand->Option AV
 | .tmp t=>(look sl t).bind (deref g)
 | .const v=>ofConst v
 | .global _=>none
 | .func f=>some (.fn (.func f) [] [])
def rho(sl:List (Nat×AV))(x:Operand):Option AV:=R9 true sl x
def Fs(i:TI)(cs:List AV):Option AV:=
 if i.agg then(if i.size<=cs.length then some (.agg (cs.take i.size))else none)else cs[0]?
def O6(H:List AObj):AV->Option (List AV)
 | .iptr cs=>some cs
 | .vptr id off=>match H[id]? with
  |some (.vars cs)=>some (cs.drop off)
  |_=>none
 | .ept id c i off=>match H[id]? with
  |some (.arr _ c' xs)=>if c=c' then(xs[i]?).map (λx=>x.cells.drop off)else none
  |some (.va _ c' xs)=>if c=c' then(xs[i]?).map (λx=>x.cells.drop off)else none
  |_=>none
 |_=>none
def Vd(T:TT)(H:List AObj)(t:TypeId)(p:AV):Option AV:=
 match look T t,O6 H p with
 |some i,some cs=>Fs i cs
 |_,_=>none
def Ua(T:TT)(t:TypeId)(f:Nat)(p:AV):Option AV:=
 match look T t with
 |some { desc:= .struct fs,.. }=>match fs[f]? with
  |some fl=>match look T fl.type with
   |some i=>if i.size=0 then none else match p with
    | .vptr id off=>some (.vptr id (off+fl.offset))
    | .ept id c k off=>some (.ept id c k (off+fl.offset))
    | .iptr cs=>some (.iptr (cs.drop fl.offset))
    |_=>none
   |none=>none
  |none=>none
 |_=>none
def Uc(T:TT)(t:TypeId)(p ix:AV):Option AV:=
 match ix with
 | .int _ i=>match look T t with
  |some { desc:= .slice e,.. }=>match look T e with
   |some ei=>match p with
    | .list xs=>if 0<=i/\i<(xs.length:Int)then(xs[i.toNat]?).bind (λx=>if x.cells.length=ei.size then some (.iptr x.cells)else none)else none
    | .sl id c lo len=>if 0<=i/\i<(len:Int)/\c=ei.size then some (.ept id c (lo+i.toNat) 0)else none
    |_=>none
   |none=>none
  |some { desc:= .array n e,.. }=>match look T e with
   |some ei=>if 0<=i/\i<(n:Int)then match p with
    | .vptr id off=>some (.vptr id (off+i.toNat * ei.size))
    | .ept id c k off=>some (.ept id c k (off+i.toNat * ei.size))
    | .iptr cs=>some (.iptr (cs.drop (i.toNat * ei.size)))
    |_=>none
    else none
   |none=>none
  |_=>none
 |_=>none
def Lu(T:TT)(t:TypeId)(p ix:AV):Option AV:=
 match ix with
 | .int _ i=>match look T t with
  |some { desc:= .string,.. }=>match p with
   | .str s=>if 0<=i then(s[i.toNat]?).map (λb=> .int .u8 b.toNat)else none
   |_=>none
  |some { desc:= .array n e,.. }=>match look T e,p with
   |some ei,.agg cs=>if 0<=i/\i<(n:Int)then Fs ei (cs.drop (i.toNat * ei.size))else none
   |_,_=>none
  |_=>none
 |_=>none
def Lc(T:TT)(t:TypeId)(f:Nat)(p:AV):Option AV:=
 match look T t with
 |some { desc:= .struct fs,.. }=>match fs[f]?,p with
  |some fl,.agg cs=>match look T fl.type with
   |some i=>Fs i (cs.drop fl.offset)
   |none=>none
  |_,_=>none
 |_=>none
def x1k(k:IntKind)(op:BinOp)(a b:Int):Option AV:=
 match op with
 | .add=>some (.int k (k.wrap (a+b)))
 | .sub=>some (.int k (k.wrap (a - b)))
 | .mul=>some (.int k (k.wrap (a * b)))
 | .quo=>if b=0 then none else some (.int k (k.wrap (a.tdiv b)))
 | .rem=>if b=0 then none else some (.int k (a.tmod b))
 | .and=>some (.int k (bits .and k a b))
 | .or=>some (.int k (bits .or k a b))
 | .xor=>some (.int k (bits .xor k a b))
 | .andNot=>some (.int k (bits .andNot k a b))
 | .eql=>some (.bool (a==b))
 | .neq=>some (.bool (a != b))
 | .lss=>some (.bool (a<b))
 | .leq=>some (.bool (a<=b))
 | .gtr=>some (.bool (a > b))
 | .geq=>some (.bool (a≥b))
 |_=>none
def x1j(op:BinOp)(s t:List UInt8):Option AV:=
 match op with
 | .add=>if s.length+t.length<=9223372036854775807 then some (.str (s++t))else none
 | .eql=>some (.bool (s==t))
 | .neq=>some (.bool (!(s==t)))
 | .lss=>some (.bool (Op.bytesLess s t))
 | .leq=>some (.bool (Op.bytesLess s t || s==t))
 | .gtr=>some (.bool (!(Op.bytesLess s t || s==t)))
 | .geq=>some (.bool (!Op.bytesLess s t))
 |_=>none
def Ig(T:TT)(E:TypeId->AV->AV->Option Bool):List Field->List AV->List AV->Option Bool
 |[],_,_=>some true
 |f::fs,xs,ys=>if f.name= "_" then none else match look T f.type with
  |some i=>match Fs i (xs.drop f.offset),Fs i (ys.drop f.offset)with
   |some x,some y=>match E f.type x y,Ig T E fs xs ys with
    |some a,some b=>some (a && b)
    |_,_=>none
   |_,_=>none
  |none=>none
def P2(i:TI)(E:AV->AV->Option Bool)(xs ys:List AV):List Nat->Option Bool
 |[]=>some true
 |j::js=>match Fs i (xs.drop (j * i.size)),Fs i (ys.drop (j * i.size))with
  |some x,some y=>match E x y,P2 i E xs ys js with
   |some a,some b=>some (a && b)
   |_,_=>none
  |_,_=>none
def eqA(T:TT):Nat->TypeId->AV->AV->Option Bool
 |0,_,_,_=>none
 |d+1,t,x,y=>match look T t with
  |some i=>match i.desc,x,y with
   | .bool,.bool a,.bool b=>some (a==b)
   | .int _,.int k a,.int k' b=>if k=k' then some (a==b)else none
   | .string,.str s,.str u=>some (s==u)
   | .struct fs,.agg xs,.agg ys=>if i.eqv then Ig T (eqA T d) fs.toList xs ys else none
   | .array n e,.agg xs,.agg ys=>if i.eqv then match look T e with
    |some ei=>P2 ei (eqA T d e) xs ys (xV n)
    |none=>none else none
   |_,_,_=>none
  |none=>none
def D2(T:TT)(op:BinOp)(t:TypeId)(b:Bool):Option AV:=
 match look T t with
 |some { desc:= .pointer _,.. }=>match op with
  | .eql=>some (.bool b)
  | .neq=>some (.bool (!b))
  |_=>none
 |_=>none
def w14(T:TT)(op:BinOp)(t:TypeId)(x y:AV):Option AV:=
 match x,y with
 | .int k a,.int k' b=>match op with
  | .shl=>if 0<=b then some (.int k (k.wrap (a * 2 ^ (min b.toNat k.bits))))else none
  | .shr=>if 0<=b then some (.int k (a.fdiv (2 ^ (min b.toNat k.bits))))else none
  |op=>if k=k' then x1k k op a b else none
 | .str s,.str u=>x1j op s u
 | .bool a,.bool b=>match look T t with
  |some { desc:= .bool,.. }=>match op with
   | .eql=>some (.bool (a==b))
   | .neq=>some (.bool (!(a==b)))
   |_=>none
  |_=>none
 | .agg xs,.agg ys=>match look T t with
  |some i=>if i.eqv then match op,eqA T 9 t (.agg xs) (.agg ys)with
   | .eql,some b=>some (.bool b)
   | .neq,some b=>some (.bool (!b))
   |_,_=>none
   else none
  |none=>none
 | .nilp,.nilp=>D2 T op t true
 | .vptr _ _,.nilp=>D2 T op t false
 | .iptr _,.nilp=>D2 T op t false
 | .ept _ _ _ _,.nilp=>D2 T op t false
 |_,_=>none
def unA(op:UnOp)(x:AV):Option AV:=
 match op,x with
 | .not,.bool b=>some (.bool (!b))
 | .neg,.int k n=>some (.int k (k.wrap (0 - n)))
 | .xor,.int k n=>some (.int k (bits .xor k (if k.signed then -1 else k.max) n))
 |_,_=>none
def z0b(T:TT)(src dst:TypeId)(x:AV):Option AV:=
 match look T src,look T dst,x with
 |some _,some { desc:= .int k,.. },.int _ n=>some (.int k (k.wrap n))
 |some _,some { desc:= .string,.. },.str s=>some (.str s)
 |_,_,_=>none
def setCells(cs:List AV)(off:Nat):List AV->List AV
 |[]=>cs
 |x::r=>setCells (cs.set off x) (off+1) r
def AV.isTop:AV->Bool
 | .top| .opt _ _=>true
 |_=>false
def J6(place:Nat->Option (Nat×Nat))(cs:List AV):List (Nat×Option AV)->Option (List AV)
 |[]=>some cs
 |(i,some x)::r=>match place i with
  |some (off,size)=>if x.isTop=false/\x.cells.length=size/\off+size<=cs.length then J6 place (setCells cs off x.cells) r else none
  |none=>none
 |(_,none)::_=>none
def Yp(T:TT)(fs:Array Field)(i:Nat):Option (Nat×Nat):=
 match fs[i]? with
 |some fl=>match look T fl.type with
  |some j=>some (fl.offset,j.size)
  |none=>none
 |none=>none
def Ko(T:TT)(t:TypeId)(parts:List (Nat×Option AV)):Option AV:=
 match look T t with
 |some i=>match i.desc with
  | .struct fs=>(J6 (Yp T fs) i.zeros parts).map .agg
  | .array _ e=>match look T e with
   |some ei=>(J6 (λj=>some (j * ei.size,ei.size)) i.zeros parts).map .agg
   |none=>none
  |_=>none
 |none=>none
def bnd(lim:Nat):Option (Option AV)->Nat->Option Nat
 |none,d=>some d
 |some (some (.int _ i)),_=>if 0<=i/\i<=(lim:Int)then some i.toNat else none
 |some _,_=>none
def Kn(T:TT)(t:TypeId)(x:AV)(lo hi:Option (Option AV)):Option AV:=
 match look T t with
 |some { desc:= .string,.. }=>match x with
  | .str s=>match bnd s.length hi s.length with
   |some h=>match bnd h lo 0 with
    |some l=>some (.str ((s.take h).drop l))
    |none=>none
   |none=>none
  |_=>none
 |some { desc:= .slice e,.. }=>match look T e with
  |some ei=>match x with
   | .list xs=>match bnd xs.length hi xs.length with
    |some h=>match bnd h lo 0 with
     |some l=>if xs.all (λy=>y.cells.length==ei.size)then some (.list ((xs.take h).drop l))else none
     |none=>none
    |none=>none
   | .sl id c b len=>match bnd len hi len with
    |some h=>match bnd h lo 0 with
     |some l=>if c=ei.size then some (.sl id c (b+l) (h - l))else none
     |none=>none
    |none=>none
   | .nils=>match bnd 0 hi 0 with
    |some h=>match bnd h lo 0 with
     |some _=>some .nils
     |none=>none
    |none=>none
   |_=>none
  |none=>none
 |_=>none
def y17(T:TT)(t:TypeId)(x:AV):Option AV:=
 match look T t with
 |some { desc:= .string,.. }=>match x with
  | .str s=>some (.int .i64 s.length)
  |_=>none
 |some { desc:= .slice _,.. }=>match x with
  | .list xs=>some (.int .i64 xs.length)
  | .sl _ _ _ n=>some (.int .i64 n)
  | .nils=>some (.int .i64 0)
  |_=>none
 |some { desc:= .array n _,.. }=>some (.int .i64 n)
 |_=>none
def P7(x:AV)(i:Nat):Option AV:=
 match x with
 | .tup vs=>vs[i]?
 |_=>none
def k0e(p:Bool):Option AV->Option AV->Option AV
 |some (.bool x),some (.bool y)=>some (.bool (bif p then x else y))
 |x,y=>bif p then x else y
def Qy{α:Type}:List (Option α)->Option (List α)
 |[]=>some []
 |some x::r=>(Qy r).map (x::·)
 |none::_=>none
def F4(big:Bool):List AV->Option AV
 |[.int k x,.int k' y]=>if k=k' then some (.int k (bif big then(if y > x then y else x)else(if y<x then y else x)))else none
 |_=>none
def It:AV->Option AV
 | .vptr id off=>some (.vptr id off)
 | .ept id c i off=>some (.ept id c i off)
 | .iptr cs=>some (.iptr cs)
 | .fn (.func f) xs ys=>some (.fn (.func f) xs ys)
 |_=>none
def Dd(T:TT)(b:Builtin)(ts:List TypeId)(xs:List (Option AV)):Option AV:=
 match b,ts,xs with
 | .len,[t],[some x]=>y17 T t x
 | .max,_,[some x,some y]=>F4 true [x,y]
 | .min,_,[some x,some y]=>F4 false [x,y]
 |_,_,_=>none
def v1w(T:TT)(S:AS)(g:Bool)(c:Call):Option AV:=
 match c.callee with
 | .builtin b=>Dd T b c.argTypes.toList (c.args.toList.map (R9 g S.sl))
 |_=>none
def Sk(T:TT)(S:AS)(g:Bool)(op:Op):Option AV:=
 match op with
 | .move x| .assign x=>R9 g S.sl x
 | .pick c x y=>match R9 g S.sl c with
  |some (.bool p)=>k0e p (R9 (g && p) S.sl x) (R9 (g && !p) S.sl y)
  |_=>none
 | .load t x=>(R9 g S.sl x).bind (Vd T S.hp t)
 | .nilCheck x=>(R9 g S.sl x).bind It
 | .binOp op t x y _=>match R9 g S.sl x,R9 g S.sl y with
  |some x,some y=>w14 T op t x y
  |_,_=>none
 | .unOp op _ x=>(R9 g S.sl x).bind (unA op)
 | .convert s d x=>(R9 g S.sl x).bind (z0b T s d)
 | .build t parts=>Ko T t (parts.toList.map λ(i,x)=>(i,R9 g S.sl x))
 | .makeFunc f xs ys=>match Qy (xs.toList.map (R9 g S.sl)),Qy (ys.toList.map (R9 g S.sl))with
  |some xs,some ys=>some (.fn f xs ys)
  |_,_=>none
 | .slice t x lo hi none=>(R9 g S.sl x).bind λx=>Kn T t x (lo.map (R9 g S.sl)) (hi.map (R9 g S.sl))
 | .fieldAddr t x f=>(R9 g S.sl x).bind (Ua T t f)
 | .field t x f=>(R9 g S.sl x).bind (Lc T t f)
 | .indexAddr t x i=>match R9 g S.sl x,R9 g S.sl i with
  |some x,some i=>Uc T t x i
  |_,_=>none
 | .index t x i=>match R9 g S.sl x,R9 g S.sl i with
  |some x,some i=>Lu T t x i
  |_,_=>none
 | .extract x i=>(R9 g S.sl x).bind (P7 · i)
 | .call c=>v1w T S g c
 |_=>none
def T1:Op->Bool
 | .load .. =>true
 |_=>false
def w1e(T:TT)(S:AS)(op:Op):Option (AV×AObj):=
 match op with
 | .alloc t=>match look T t with
  |some i=>some (.vptr S.hp.length 0,.vars i.zeros)
  |none=>none
 | .box t x=>match look T t,rho S.sl x with
  |some i,some x=>if x.isTop=false/\x.cells.length=i.size then some (.vptr S.hp.length 0,.vars x.cells)else none
  |_,_=>none
 | .buildSlice t len parts=>match look T t with
  |some { desc:= .slice e,.. }=>match look T e with
   |some ei=>match Qy (parts.toList.map λp=>rho S.sl p.2)with
    |some xs=>if parts.toList.map (·.1)=xV len/\(0<ei.size/\len * ei.size<=16777216)/\xs.all (λx=>x.cells.length==ei.size && x.cells.all AV.leaf && x.cells.all AV.pure)then
      some (.sl S.hp.length ei.size 0 len,.arr e ei.size xs)
     else if parts.toList.map (·.1)=xV len/\(0<ei.size/\len * ei.size<=16777216)/\xs.all (λx=>x.cells.length==ei.size && x.cells.all AV.leaf)then
      some (.sl S.hp.length ei.size 0 len,.va e ei.size xs)else none
    |none=>none
   |none=>none
  |_=>none
 |_=>none
def AV.withCells(y:AV)(off:Nat)(new:List AV):Option AV:=
 match y with
 | .agg cs=>some (.agg (setCells cs off new))
 |_=>match new with
  |[x]=>some x
  |_=>none
def Vt(T:TT)(S:AS)(t:TypeId)(p x:Option AV):Option (List AObj):=
 match look T t,p,x with
 |some i,some (.vptr id off),some x=>match S.hp[id]? with
  |some (.vars cs)=>if x.cells.length=i.size/\off+i.size<=cs.length/\x.cells.all AV.leaf then some (S.hp.set id (.vars (setCells cs off x.cells)))else none
  |_=>none
 |some i,some (.ept id c k off),some x=>match S.hp[id]? with
  |some (.arr e c' xs)=>match xs[k]? with
   |some y=>if c=c'/\x.cells.length=i.size/\off+i.size<=c/\x.cells.all AV.leaf/\x.cells.all AV.pure then
     (y.withCells off x.cells).map (λy'=>S.hp.set id (.arr e c (xs.set k y')))else none
   |none=>none
  |some (.va e c' xs)=>match xs[k]? with
   |some y=>if c=c'/\x.cells.length=i.size/\off+i.size<=c/\x.cells.all AV.leaf then
     (y.withCells off x.cells).map (λy'=>S.hp.set id (.va e c (xs.set k y')))else none
   |none=>none
  |_=>none
 |_,_,_=>none
def AS.putD(S:AS)(d:Option Tmp)(x:AV):AS:=match d with
 |some t=>{ S with sl:=put S.sl t x }
 |none=>S
def Q9(ops:Array Oper)(S:AS)(o:Oper):Option Bool:=
 match o.guard with
 |none=>some true
 |some (j,b)=>match (ops[j]?).bind (·.dst)with
  |some t=>match look S.sl t with
   |some (.bool p)=>some (p==b)
   |some (.opt q (.bool p))=>some (q && (p==b))
   |some (.opt false _)=>some false
   |some (.tup [])=>some false
   |_=>none
  |none=>none
def Sv(T:TT)(ops:Array Oper)(S:AS)(o:Oper):Option AS:=
 match o.op with
 | .store t p x=>match Q9 ops S o with
  |some true=>match Vt T S t (rho S.sl p) (rho S.sl x)with
   |some H=>some ({ S with hp:=H }.putD o.dst (.tup []))
   |none=>none
  |some false=>some (S.putD o.dst (.tup []))
  |none=>none
 | .alloc _| .box _ _| .buildSlice .. =>match Q9 ops S o with
  |some true=>match w1e T S o.op with
   |some (x,ob)=>some ({ S with hp:=S.hp++[ob] }.putD o.dst x)
   |none=>none
  |some false=>some (S.putD o.dst (.tup []))
  |none=>none
 |op=>match o.guard with
  |none=>match Sk T S true op with
   |some x=>some (S.putD o.dst x)
   |none=>none
  |some _=>match Q9 ops S o with
   |some g=>match Sk T S g op with
    |some x=>some (S.putD o.dst (.opt g x))
    |none=>if g=false then some (S.putD o.dst (.tup []))else none
   |none=>none
section
variable (T:TT) (S:AS) (g:Bool)
theorem x0g(x:Operand):Sk T S g (.move x)=R9 g S.sl x:=rfl
theorem Vb(x:Operand):Sk T S g (.assign x)=R9 g S.sl x:=rfl
theorem Z2(c x y:Operand):Sk T S g (.pick c x y)=match R9 g S.sl c with
  |some (.bool p)=>k0e p (R9 (g && p) S.sl x) (R9 (g && !p) S.sl y)
  |_=>none:=rfl
theorem Kx(t:TypeId)(x:Operand):Sk T S g (.load t x)=(R9 g S.sl x).bind (Vd T S.hp t):=rfl
theorem Px(x:Operand):Sk T S g (.nilCheck x)=(R9 g S.sl x).bind It:=rfl
theorem Gz(op:BinOp)(t u:TypeId)(x y:Operand):Sk T S g (.binOp op t x y u)=match R9 g S.sl x,R9 g S.sl y with
  |some x,some y=>w14 T op t x y
  |_,_=>none:=rfl
theorem Ly(op:UnOp)(t:TypeId)(x:Operand):Sk T S g (.unOp op t x)=(R9 g S.sl x).bind (unA op):=rfl
theorem Sd(s d:TypeId)(x:Operand):Sk T S g (.convert s d x)=(R9 g S.sl x).bind (z0b T s d):=rfl
theorem Gu(t:TypeId)(parts:Array (Nat×Operand)):Sk T S g (.build t parts)=Ko T t (parts.toList.map λ(i,x)=>(i,R9 g S.sl x)):=rfl
theorem Pl(f:Fn)(xs ys:Array Operand):Sk T S g (.makeFunc f xs ys)=match Qy (xs.toList.map (R9 g S.sl)),Qy (ys.toList.map (R9 g S.sl))with
  |some xs,some ys=>some (.fn f xs ys)
  |_,_=>none:=rfl
theorem Hc(t:TypeId)(x:Operand)(lo hi:Option Operand):Sk T S g (.slice t x lo hi none)=(R9 g S.sl x).bind λx=>Kn T t x (lo.map (R9 g S.sl)) (hi.map (R9 g S.sl)):=rfl
theorem Og(t:TypeId)(x:Operand)(f:Nat):Sk T S g (.fieldAddr t x f)=(R9 g S.sl x).bind (Ua T t f):=rfl
theorem Gp(t:TypeId)(x:Operand)(f:Nat):Sk T S g (.field t x f)=(R9 g S.sl x).bind (Lc T t f):=rfl
theorem Oh(t:TypeId)(x i:Operand):Sk T S g (.indexAddr t x i)=match R9 g S.sl x,R9 g S.sl i with
  |some x,some i=>Uc T t x i
  |_,_=>none:=rfl
theorem Hb(t:TypeId)(x i:Operand):Sk T S g (.index t x i)=match R9 g S.sl x,R9 g S.sl i with
  |some x,some i=>Lu T t x i
  |_,_=>none:=rfl
theorem Sb(x:Operand)(i:Nat):Sk T S g (.extract x i)=(R9 g S.sl x).bind (P7 · i):=rfl
theorem Zo(b:Builtin)(xs:Array Operand)(ts:Array TypeId):Sk T S g (.call ⟨.builtin b,xs,ts⟩)=Dd T b ts.toList (xs.toList.map (R9 g S.sl)):=rfl
end
end
section
structure MpSz (es:Array MapEntry) (ck:Nat) (kvs:List (AV×AV)):Prop where
 size:es.size=kvs.length
 born:∀x∈es.toList,x.born<ck
 nodup:(es.toList.map (·.born)).Nodup
def Uq(w:World)(I:Nat->Prop)(m:Nat->Option Nat)(n:Nat)(b? :Option Nat):AObj->Prop
 | .vars cs=>∃(b:Nat) (t:TypeId) (vs:Array Value),b? =some b/\w.heap[b]?=some (.cells vs t (0,0))/\vs.size=cs.length/\∀(j:Nat) (v:Value) (x:AV),vs[j]?=some v->cs[j]?=some x->VR w I m n v x
 | .arr e c xs=>(b? =none/\xs=[])\/∃(b cap:Nat) (vs:Array Value),b? =some b/\w.heap[b]?=some (.cells vs e (0,0))/\xs.length<=cap/\cap<=maxLen/\vs.size=cap * c/\(∀x∈xs,x.cells.length=c)/\
   ∀(i:Nat) (x:AV),xs[i]?=some x->∀(j:Nat) (y:AV),x.cells[j]?=some y->∃v,vs[i * c+j]?=some v/\PVR w I v y
 | .va e c xs=>(b? =none/\xs=[])\/∃(b cap:Nat) (vs:Array Value),b? =some b/\w.heap[b]?=some (.cells vs e (0,0))/\xs.length<=cap/\cap<=maxLen/\vs.size=cap * c/\(∀x∈xs,x.cells.length=c)/\
   ∀(i:Nat) (x:AV),xs[i]?=some x->∀(j:Nat) (y:AV),x.cells[j]?=some y->∃v,vs[i * c+j]?=some v/\VR w I m n v y
 | .dead=>True
 | .tag id t=>id<n/\∃(b s:Nat),m id=some b/\w.shape? b=some (t,s)
 | .lp rdy pend nt sl ps asg body=>∃(b:Nat) (r:Loop),b? =some b/\w.heap[b]?=some (.loop r)/\r.state=(if rdy then .ready else .done)/\r.pending=pend/\r.params=ps.toArray/\r.assign=asg/\r.body=body/\r.tmps.size=nt/\
   ∀(t:Nat) (x:AV),look sl t=some x->∃v,r.tmps[t]?=some v/\VR w I m n v x
 | .mp kvs=>∃(b:Nat) (es:Array MapEntry) (ck:Nat),b? =some b/\w.heap[b]?=some (.map es ck)/\MpSz es ck kvs/\∀(i:Nat) (e:MapEntry) (p:AV×AV),es[i]?=some e->kvs[i]?=some p->PVR w I e.key p.1/\PVR w I e.val p.2
 | .mv kvs=>∃(b:Nat) (es:Array MapEntry) (ck:Nat),b? =some b/\w.heap[b]?=some (.map es ck)/\MpSz es ck kvs/\∀(i:Nat) (e:MapEntry) (p:AV×AV),es[i]?=some e->kvs[i]?=some p->PVR w I e.key p.1/\VR w I m n e.val p.2
 | .fm kvs=>∃(b:Nat) (es:Array MapEntry) (ck:Nat),b? =some b/\I b/\w.heap[b]?=some (.map es ck)/\MpSz es ck kvs/\∀(i:Nat) (e:MapEntry) (p:AV×AV),es[i]?=some e->kvs[i]?=some p->PVR w I e.key p.1/\PVR w I e.val p.2
 | .it left cur=>∃(r bm:Nat) (es:Array MapEntry) (ck since:Nat) (seen:Array Nat) (c0:Nat),b? =some r/\w.heap[r]?=some (.mapIter (some bm) since seen c0)/\I bm/\w.heap[bm]?=some (.map es ck)/\(∀x∈es.toList,x.born<since)/\since<=c0/\since<=ck/\
   (es.toList.map (·.born)).Nodup/\(leftOf es seen).size=left.length/\(∀(i:Nat) (e:MapEntry) (p:AV×AV),(leftOf es seen)[i]?=some e->left[i]?=some p->PVR w I e.key p.1/\PVR w I e.val p.2)/\
   ∀p:AV×AV,cur=some p->∃(e:MapEntry) (sn:Array Nat),seen=sn.push e.born/\c0=ck/\e∈es.toList/\PVR w I e.key p.1/\PVR w I e.val p.2
def AObj.live:AObj->Bool
 | .dead=>false
 | .tag _ _=>false
 | .fm _=>false
 |_=>true
structure WS (W0:World) (I0:Nat->Prop) (w:World) (I:Nat->Prop) (m:Nat->Option Nat) (H:List AObj):Prop where
 below:Below W0.heap.size W0 w
 i0:∀b,I0 b->I b
 iw:∀b,I b->b<w.heap.size/\(I0 b\/W0.heap.size<=b)
 obj:∀(id:Nat) (o:AObj),H[id]?=some o->Uq w I m H.length (m id) o
 own:∀(id:Nat) (o:AObj) (b:Nat),H[id]?=some o->o.live=true->m id=some b->W0.heap.size<=b/\¬I b/\b<w.heap.size
 inj:∀(i j:Nat) (oi oj:AObj) (b:Nat),H[i]?=some oi->H[j]?=some oj->oi.live=true->oj.live=true->m i=some b->m j=some b->i=j
def E5(nt:Nat)(sl:List (Nat×AV))(a:Act)(w:World)(I:Nat->Prop)(m:Nat->Option Nat)(n:Nat):Prop:=
 a.tmps.size=nt/\True/\∀(t:Nat) (x:AV),look sl t=some x->∃v,a.tmps[t]?=some v/\VR w I m n v x
def TOk(P:Program)(T:TT):Prop:=∀(t:Nat) (i:TI),look T t=some i->
 P.underlying t=some i.desc/\(P.info? t).map (λj=>(j.zero,j.size,j.bytes))=some (some i.zero,i.size,i.bytes)/\
 (i.eqv=true->P.stoodInHeld t=false/\P.eqGuardType P.depth t=false)/\(∀fs,i.desc= .struct fs->Um T fs=true)
section
variable {P:Program} {T:TT} (hT:TOk P T) {t:TypeId} {i:TI}
include hT
theorem TOk.und(h:look T t=some i):P.underlying t=some i.desc:=(hT t i h).1
theorem TOk.info(h:look T t=some i):∃j,P.info? t=some j/\j.zero=some i.zero/\j.size=i.size/\j.bytes=i.bytes:=info_parts (hT t i h).2.1
theorem TOk.size(h:look T t=some i)(w:World):(sizeOf t).run P w= .ok i.size w:=by obtain⟨j,hj,_,hs,_⟩:=hT.info h;simp[sizeOf,typeInfo,hj,hs]
theorem TOk.zero(h:look T t=some i)(w:World):(zeroValue t).run P w= .ok i.zero w:=by obtain⟨j,hj,hz,_,_⟩:=hT.info h;simp[zeroValue,typeInfo,hj,hz]
theorem TOk.agg(h:look T t=some i)(w:World):(isAgg t).run P w= .ok i.agg w:=by unfold isAgg;rw[Sem.run_bind,run_underlying (hT.und h) w];simp only[Result.andThen_ok];unfold TI.agg;cases i.desc<;>rfl
end
def Jk{w:World}{I:Nat->Prop}{v:Value}{x:AV}(h:ofConst v=some x):PVR w I v x:=by
 cases v with
 |bool b=>simp only[ofConst,Option.some.injEq]at h;subst h;exact .bool b
 |int k n=>simp only[ofConst,Option.some.injEq]at h;subst h;exact .int k n
 |string s=>
  simp only[ofConst,Option.some.injEq]at h;subst h;have:Value.string s= .string ⟨s.data.toList.toArray⟩:=by cases s;simp
  rw[this];exact .str _
 |slice a n c=>unfold ofConst at h;split at h<;>simp_all;obtain⟨rfl,rfl,rfl⟩:=‹_›;exact .nils
 |pointer a=>
  cases a with
  |none=>simp only[ofConst,Option.some.injEq]at h;subst h;exact .nilp
  |some a=>simp[ofConst]at h
 |nilFunc=>simp only[ofConst,Option.some.injEq]at h;subst h;exact .nilf
 |nilIface=>simp only[ofConst,Option.some.injEq]at h;subst h;exact .nili
 |_=>simp[ofConst]at h
def Y3{w:World}{I:Nat->Prop}(v:Value):PVR w I v (zeroCell v):=by
 cases v with
 |bool b=>exact .bool b
 |int k n=>exact .int k n
 |string s=>
  have:Value.string s= .string ⟨s.data.toList.toArray⟩:=by cases s;simp
  unfold zeroCell;rw[this];exact .str _
 |slice a n c=>
  unfold zeroCell;split<;>simp_all
  ·obtain⟨rfl,rfl,rfl⟩:=‹_›;exact .nils
  exact .top _
 |pointer a=>
  cases a with
  |none=>exact .nilp
  |some a=>exact .top _
 |nilFunc=>exact .nilf
 |nilIface=>exact .nili
 |_=>exact .top _
def Tz(w w':World):Prop:=∀b,b<w.heap.size->w'.heap[b]? =w.heap[b]?
def Tz.refl(w:World):Tz w w:=λ_ _=>rfl
def Tz.cell{w w':World}(h:Tz w w'){a:Addr}{v:Value}(hc:w.cell? a=some v):w'.cell? a=some v:=
 (World.cell?_of_block (w:=w) (h _ (World.block_lt_of_cell? w a hc))).trans hc
section
variable {P:Program} {T:TT} {W0 w:World} {I0 I:Nat->Prop} {m:Nat->Option Nat} {H:List AObj} {nt:Nat} {sl:List (Nat×AV)} {a:Act}
theorem X8{n:Nat}{g:Bool}(hg:g=true){v:Value}{x y:AV}(hv:VR w I m n v x)(h:deref g x=some y):VR w I m n v y:=by
 cases x with
 |opt p z=>
  simp only[deref]at h;split at h
  ·rename_i hp;simp only[Option.some.injEq]at h;subst h;subst hg;exact hv.opt_inv.1 (by simpa using hp)
  cases h
 |_=>simp only[deref,Option.some.injEq]at h;subst h;exact hv
theorem Qr{n:Nat}{g:Bool}(hg:g=true)(hs:E5 nt sl a w I m n){x:Operand}{y:AV}(h:R9 g sl x=some y):VR w I m n (a.eval x) y:=by
 cases x with
 |tmp t=>
  obtain⟨z,hz,h⟩:=yS.1 h;obtain⟨v,hv,hr⟩:=hs.2.2 t z hz;have:a.eval (.tmp t)=v:=by simp[Act.eval,hv]
  rw[this];exact X8 hg hr h
 |const v=>exact .pure (Jk h)
 |global g=>cases h
 |func f=>simp only[R9,Option.some.injEq]at h;subst h;exact .pure (.fn _ _ _ _ _ rfl (by simp) rfl (by simp))
theorem Qu{n:Nat}(hs:E5 nt sl a w I m n){x:Operand}{y:AV}(h:rho sl x=some y):VR w I m n (a.eval x) y:=Qr rfl hs h
theorem Pg(hw:WS W0 I0 w I m H){v:Value}{p:AV}{cs:List AV}(hv:VR w I m H.length v p)(h:O6 H p=some cs):
  ∃(ad:Addr) (u:Nat->Value),v= .pointer (some ad)/\(∀j,j<cs.length->w.cell? (ad.add j)=some (u j))/\∀(j:Nat) (y:AV),cs[j]?=some y->VR w I m H.length (u j) y:=by
 cases p with
 |iptr zb=>simp only[O6,Option.some.injEq]at h;subst h;obtain⟨ad,u,rfl,_,hc,hu⟩:=hv.iptr_inv.iptr_inv;exact⟨ad,u,rfl,hc,λj y hy=> .pure (hu j y hy)⟩
 |vptr id off=>
  obtain⟨b,hb,hn,rfl⟩:=hv.vptr_inv;simp only[O6]at h;split at h
  ·rename_i zb ho;simp only[Option.some.injEq]at h;subst h;obtain⟨b',t,vs,z1,hh,hl,hr⟩:=hw.obj id _ ho;obtain rfl:b=b':=by rw[hb]at z1;exact Option.some.inj z1
   refine⟨_,λj=>vs.getD (off+j) undef,rfl,λj hj=>?_,λj y hy=>?_⟩
   ·rw[Addr.add_lit,cell_of_row w b (off+j) vs t (0,0) hh];have:off+j<vs.size:=by rw[xo]at hj;omega
    simp[this]
   rw[yX]at hy;have:off+j<vs.size:=by have:=(zD.1 hy).1;omega
   exact hr (off+j) _ y (by simp[this]) hy
  cases h
 |ept id c i off=>
  obtain⟨b,hb,hn,rfl⟩:=hv.ept_inv;simp only[O6]at h;split at h
  ·rename_i e c' xs ho;split at h
   ·rename_i z8;subst z8;obtain⟨x,hx,za⟩:=zM.1 h;subst za;rcases hw.obj id _ ho with⟨_,rfl⟩|⟨b',cap,vs,z1,hh,_,_,zc,hc,hr⟩
    ·simp at hx
    obtain rfl:b=b':=by rw[hb]at z1;exact Option.some.inj z1
    have zd:x.cells.length=c:=hc x (zE hx);refine⟨_,λj=>vs.getD (i * c+(off+j)) undef,rfl,λj hj=>?_,λj y hy=>?_⟩
    ·rw[Addr.add_lit,cell_of_row w b _ vs e (0,0) hh];rw[xo]at hj;obtain⟨v,hv,_⟩:=hr i x hx (off+j) _ (zG (by omega));rw[xZ];simp[hv]
    rw[yX]at hy;obtain⟨v,hv,hp⟩:=hr i x hx (off+j) y hy;simp only[xN,hv,xQ];exact .pure hp
   cases h
  ·rename_i e c' xs ho;split at h
   ·rename_i z8;subst z8;obtain⟨x,hx,za⟩:=zM.1 h;subst za;rcases hw.obj id _ ho with⟨_,rfl⟩|⟨b',cap,vs,z1,hh,_,_,zc,hc,hr⟩
    ·simp at hx
    obtain rfl:b=b':=by rw[hb]at z1;exact Option.some.inj z1
    have zd:x.cells.length=c:=hc x (zE hx);refine⟨_,λj=>vs.getD (i * c+(off+j)) undef,rfl,λj hj=>?_,λj y hy=>?_⟩
    ·rw[Addr.add_lit,cell_of_row w b _ vs e (0,0) hh];rw[xo]at hj;obtain⟨v,hv,_⟩:=hr i x hx (off+j) _ (zG (by omega));rw[xZ];simp[hv]
    rw[yX]at hy;obtain⟨v,hv,hp⟩:=hr i x hx (off+j) y hy;simp only[xN,hv,xQ];exact hp
   cases h
  cases h
 |_=>simp[O6]at h
theorem Dp(hT:TOk P T)(hw:WS W0 I0 w I m H){v:Value}{p x:AV}{t:TypeId}(hv:VR w I m H.length v p)(h:Vd T H t p=some x):
  ∃u,VR w I m H.length u x/\∀w',Tz w w'->(Instr.loadAt t v).run P w'= .ok u w':=by
 unfold Vd at h;split at h
 ·rename_i i cs hi za;obtain⟨ad,u,rfl,hc,hu⟩:=Pg hw hv za;unfold Fs at h;split at h
  ·rename_i z1;split at h
   ·rename_i hle;simp only[Option.some.injEq]at h;subst h;refine⟨.agg ((xV i.size).map u).toArray,.agg _ _ (by simp;omega) (λj v y hv hy=>?_),λw' hh=>?_⟩
    ·rw[yJ]at hy;split at hy
     ·rename_i hj;simp[hj]at hv;subst hv;exact hu j y hy
     cases hy
    simp[Instr.loadAt,Instr.sureAddr,loadVar,hT.agg hi,hT.size hi,z1,run_loadCells w' ad i.size u (λj hj=>hh.cell (hc j (by omega)))]
   cases h
  rename_i z1;have zb:0<cs.length:=(zD.1 h).1;refine⟨u 0,hu 0 x h,λw' hh=>?_⟩;have z8:=hh.cell (hc 0 zb);rw[Addr.add_zero']at z8;simp[Instr.loadAt,Instr.sureAddr,loadVar,hT.agg hi,z1,z8]
 cases h
theorem A2{n:Nat}{v:Value}{x:AV}(h:VR w I m n v x)(hx:x.leaf=true\/∃cs,x= .agg cs):v.cells.size=x.cells.length/\∀(j:Nat) (u:Value) (y:AV),v.cells[j]?=some u->x.cells[j]?=some y->VR w I m n u y:=by
 rcases hx with hx|⟨cs,rfl⟩
 ·have h1:v.cells= #[v]:=by have:=h.oneCell hx;cases v<;>first|rfl|(simp[Value.oneCell']at this)
  have h2:x.cells=[x]:=by cases x<;>first|rfl|(simp[AV.leaf]at hx)
  rw[h1,h2];refine⟨rfl,λj u y hu hy=>?_⟩;cases j with
  |zero=>simp at hu hy;subst hu;subst hy;exact h
  |succ j=>simp at hy
 obtain⟨vs,rfl,hl,hr⟩:=h.agg_inv;exact⟨hl,hr⟩
theorem Su(hT:TOk P T){n:Nat}{v:Value}{p x:AV}{t:TypeId}{f:Nat}(hv:VR w I m n v p)(h:Ua T t f p=some x):
  ∃u,VR w I m n u x/\∀w',(Instr.fieldAt t v f).run P w'= .ok u w':=by
 unfold Ua at h;split at h
 ·rename_i fs _ _ _ _ ht;split at h
  ·rename_i fl z1;split at h
   ·rename_i i hi;split at h
    ·cases h
    rename_i z8;have key:∀ad,v= .pointer (some ad)->∀w',(Instr.fieldAt t v f).run P w'= .ok (.pointer (some (ad.add fl.offset))) w':=by rintro ad rfl w';simp[Instr.fieldAt,run_underlying (hT.und ht),z1,Instr.sureAddr,fieldPlace,hT.size hi,z8]
    split at h
    ·rename_i id off;simp only[Option.some.injEq]at h;subst h;obtain⟨b,hb,hn,rfl⟩:=hv.vptr_inv;exact⟨_,.vptr id (off+fl.offset) b hn hb,λw'=>by rw[key _ rfl w',Addr.add_lit]⟩
    ·rename_i id c k off;simp only[Option.some.injEq]at h;subst h;obtain⟨b,hb,hn,rfl⟩:=hv.ept_inv;exact⟨_,.ept id c k (off+fl.offset) b hn hb,λw'=>by rw[key _ rfl w',Addr.add_lit,xZ]⟩
    ·rename_i cs;simp only[Option.some.injEq]at h;subst h;obtain⟨ad,u,rfl,hI,hc,hu⟩:=hv.iptr_inv.iptr_inv;refine⟨_,.pure (.iptr (ad.add fl.offset) _ (λj=>u (fl.offset+j)) (λh0=>by rw[block_add];exact hI (by rw[xo]at h0;omega)) (λj hj=>?_) (λj y hy=>?_)),λw'=>key _ rfl w'⟩
     ·rw[add_add];rw[xo]at hj;exact hc _ (by omega)
     rw[yX]at hy;exact hu _ y hy
    cases h
   cases h
  cases h
 cases h
end
end
section
section
variable {P:Program} {T:TT} {W0 w:World} {I0 I:Nat->Prop} {m:Nat->Option Nat} {H:List AObj} {nt n:Nat} {sl:List (Nat×AV)} {a:Act}
theorem Sq(hT:TOk P T){v vi:Value}{p ix x:AV}{t:TypeId}(hv:VR w I m n v p)(hi:VR w I m n vi ix)(h:Uc T t p ix=some x):
  ∃u,VR w I m n u x/\∀w',(Instr.indexAt t v vi).run P w'= .ok u w':=by
 unfold Uc at h;split at h
 ·rename_i k i;obtain rfl:=hi.int_inv;split at h
  ·rename_i e _ _ _ _ ht;split at h
   ·rename_i ei he;have hu:=hT.und ht;split at h
    ·rename_i xs;obtain⟨a,cap,c,u,rfl,hcap,_,hc,hcell,z1⟩:=hv.list_inv.list_inv;split at h
     ·rename_i hb;obtain⟨y,hy,h⟩:=yS.1 h;split at h
      ·rename_i z8;simp only[Option.some.injEq]at h;subst h;have za:=(zD.1 hy).1;obtain⟨ad,rfl,hI,zb⟩:=hcell (by omega);have zc:y.cells.length=c:=hc y (zE hy);refine⟨_,.pure (.iptr (ad.add (i.toNat * ei.size)) _ (λj=>u i.toNat j) (λh0=>by rw[block_add];exact hI (by omega)) (λj hj=>?_) (λj z hz=>z1 _ y hy j z hz)),λw'=>?_⟩
       ·rw[add_add,<-z8,zc];exact zb _ _ za (by omega)
       simp[Instr.indexAt,run_underlying hu,asIntOf,hb,hT.size he]
      cases h
     cases h
    ·rename_i id c lo len;split at h
     ·rename_i hb;simp only[Option.some.injEq]at h;subst h;obtain⟨h0,h1,hc⟩:=hb;rcases hv.sl_inv with⟨b,cap,t',hb,hn,hs,hl,hmax,rfl⟩|⟨_,_,_,rfl,_⟩|⟨_,_,_,rfl,_⟩
      ·refine⟨_,.ept id c (lo+i.toNat) 0 b hn hb,λw'=>?_⟩;have:lo * c+i.toNat * ei.size=(lo+i.toNat) * c+0:=by rw[<-hc,yA];rfl
       simp[Instr.indexAt,run_underlying hu,asIntOf,h0,h1,hT.size he,Addr.add_lit,this]
      ·omega
      omega
     cases h
    cases h
   cases h
  ·rename_i len e _ _ _ _ ht;split at h
   ·rename_i ei he;have hu:=hT.und ht;split at h
    ·rename_i hb;have key:∀ad,v= .pointer (some ad)->∀w',(Instr.indexAt t v (.int k i)).run P w'= .ok (.pointer (some (ad.add (i.toNat * ei.size)))) w':=by rintro ad rfl w';simp[Instr.indexAt,run_underlying hu,asIntOf,hb,hT.size he,Instr.sureAddr]
     split at h
     ·rename_i id off;simp only[Option.some.injEq]at h;subst h;obtain⟨b,hb,hn,rfl⟩:=hv.vptr_inv;exact⟨_,.vptr id _ b hn hb,λw'=>by rw[key _ rfl w',Addr.add_lit]⟩
     ·rename_i id c k' off;simp only[Option.some.injEq]at h;subst h;obtain⟨b,hb,hn,rfl⟩:=hv.ept_inv;exact⟨_,.ept id c k' _ b hn hb,λw'=>by rw[key _ rfl w',Addr.add_lit,xZ]⟩
     ·rename_i cs;simp only[Option.some.injEq]at h;subst h;obtain⟨ad,u,rfl,hI,hc,hu⟩:=hv.iptr_inv.iptr_inv;refine⟨_,.pure (.iptr (ad.add (i.toNat * ei.size)) _ (λj=>u (i.toNat * ei.size+j)) (λh0=>by rw[block_add];exact hI (by rw[xo]at h0;omega)) (λj hj=>?_) (λj y hy=>?_)),λw'=>key _ rfl w'⟩
      ·rw[add_add];rw[xo]at hj;exact hc _ (by omega)
      rw[yX]at hy;exact hu _ y hy
     cases h
    cases h
   cases h
  cases h
 cases h
theorem Ya (hT:TOk P T) {t:TypeId} {i:TI} (hi:look T t=some i) {vs:Array Value} {cs:List AV} (hl:vs.size=cs.length) (hr:∀(j:Nat) (v:Value) (x:AV),vs[j]?=some v->cs[j]?=some x->VR w I m n v x)
  {off:Nat} {x:AV} (h:Fs i (cs.drop off)=some x):∃u,VR w I m n u x/\∀w',(part t vs off).run P w'= .ok u w':=by
 unfold Fs at h;split at h
 ·rename_i z1;split at h
  ·rename_i hle;simp only[Option.some.injEq]at h;subst h;rw[xo]at hle;refine⟨.agg (vs.extract off (off+i.size)),.agg _ _ (by simp;omega) (λj v y hv hy=>?_),λw'=>by simp[part,hT.agg hi,z1,hT.size hi]⟩;rw[yJ]at hy;split at hy
   ·rename_i hj;rw[yX]at hy;refine hr (off+j) v y ?_ hy;rw[Array.getElem?_extract]at hv;split at hv
    ·exact hv
    cases hv
   cases hy
  cases h
 rename_i z1;rw[yX]at h;have z8:=(zD.1 h).1;have hv:vs[off]?=some vs[off]:=by simp only[wy]at z8;simp[hl,z8]
 exact⟨_,hr off _ x hv (by simpa using h),λw'=>by simp[part,hT.agg hi,z1,hv]⟩
theorem Kr(hT:TOk P T){v vi:Value}{p ix x:AV}{t:TypeId}(hv:VR w I m n v p)(hi:VR w I m n vi ix)(h:Lu T t p ix=some x):
  ∃u,VR w I m n u x/\∀w',(Instr.index t v vi).run P w'= .ok u w':=by
 unfold Lu at h;split at h
 ·rename_i k i;obtain rfl:=hi.int_inv;split at h
  ·rename_i _ _ _ _ ht;have hu:=hT.und ht;split at h
   ·rename_i s;obtain rfl:=hv.str_inv;split at h
    ·rename_i h0;obtain⟨b,hb,h⟩:=zM.1 h;subst h;refine⟨_,.pure (.int .u8 b.toNat),λw'=>?_⟩;have z8:(ByteArray.mk s.toArray)[i.toNat]?=some b:=by have za:=(zD.1 hb).1;rw[ByteArray.getElem?_lt' _ _ (by simpa[ByteArray.size_mk']using za)];obtain⟨_,zb⟩:=zD.1 hb;rw[<-zb];rfl
     simp[Instr.index,run_underlying hu,asIntOf,h0,z8]
    cases h
   cases h
  ·rename_i len e _ _ _ _ ht;have hu:=hT.und ht;split at h
   ·rename_i ei cs he;obtain⟨vs,rfl,hl,hr⟩:=hv.agg_inv;split at h
    ·rename_i hb;obtain⟨u,zc,z1⟩:=Ya hT he hl hr h;exact⟨u,zc,λw'=>by simp[Instr.index,run_underlying hu,asIntOf,hb,hT.size he,z1]⟩
    cases h
   cases h
  cases h
 cases h
theorem Zs(hT:TOk P T){v:Value}{p x:AV}{t:TypeId}{f:Nat}(hv:VR w I m n v p)(h:Lc T t f p=some x):
  ∃u,VR w I m n u x/\∀w',(Instr.field t v f).run P w'= .ok u w':=by
 unfold Lc at h;split at h
 ·rename_i fs _ _ _ _ ht;have hu:=hT.und ht;split at h
  ·rename_i fl cs z8;obtain⟨vs,rfl,hl,hr⟩:=hv.agg_inv;split at h
   ·rename_i i hi;obtain⟨u,za,z1⟩:=Ya hT hi hl hr h;exact⟨u,za,λw'=>by simp[Instr.field,run_underlying hu,z8,asAgg,z1]⟩
   cases h
  cases h
 cases h
theorem Nh{k:IntKind}{op:BinOp}{x y:Int}{r:AV}{t:TypeId}(h:x1k k op x y=some r):
  ∃u,PVR w I u r/\∀w',(binOp op t (.int k x) (.int k y)).run P w'= .ok u w':=by
 cases op<;>simp only[x1k,Option.some.injEq]at h
 case quo=>
  split at h
  ·cases h
  rename_i hy;simp only[Option.some.injEq]at h;subst h;exact⟨_,.int _ _,λw'=>by simp[binOp_quo,Op.intDiv,hy]⟩
 case rem=>
  split at h
  ·cases h
  rename_i hy;simp only[Option.some.injEq]at h;subst h;exact⟨_,.int _ _,λw'=>by simp[binOp_rem,Op.intDiv,hy]⟩
 case shl=>cases h
 case shr=>cases h
 all_goals
  subst h;first
   |exact⟨_,.int _ _,λw'=>by first|(simp[binOp_add,binOp_sub,binOp_mul,Op.intArith];done)|(simp[binOp_and,binOp_or,binOp_xor,binOp_andNot,intBits_and,intBits_or,intBits_xor,intBits_andNot];done)⟩
   |exact⟨_,.bool _,λw'=>by simp[binOp_eql,binOp_neq,binOp_lss,binOp_leq,binOp_gtr,binOp_geq]⟩
theorem N4{op:BinOp}{s u:List UInt8}{r:AV}{t:TypeId}(h:x1j op s u=some r):
  ∃v,PVR w I v r/\∀w',(binOp op t (.string ⟨s.toArray⟩) (.string ⟨u.toArray⟩)).run P w'= .ok v w':=by
 cases op<;>simp only[x1j,Option.some.injEq]at h
 case add=>
  split at h
  ·rename_i hl;simp only[Option.some.injEq]at h;subst h;refine⟨_,.str _,λw'=>?_⟩;rw[binOp_string_add,run_string_add_sum w' _ _ (by simpa[ByteArray.size_mk']using hl),ByteArray.mk_append_mk]
  cases h
 all_goals first
  |(cases h;done)
  |(subst h;exact⟨_,.bool _,λw'=>by simp[binOp,Op.stringOp]⟩)
theorem U7 (hT:TOk P T) {E:TypeId->AV->AV->Option Bool} {d:Nat}
  (hE:∀(t:TypeId) (v v':Value) (x y:AV) (b:Bool),VR w I m n v x->VR w I m n v' y->E t x y=some b->∀w',(Op.equalIn d t v v').run P w'= .ok b w')
  {vs us:Array Value} {xs ys:List AV} (hl:vs.size=xs.length) (hr:∀(j:Nat) (v:Value) (x:AV),vs[j]?=some v->xs[j]?=some x->VR w I m n v x)
  (hl':us.size=ys.length) (z8:∀(j:Nat) (v:Value) (x:AV),us[j]?=some v->ys[j]?=some x->VR w I m n v x):
  ∀(fs:List Field) (b:Bool),Ig T E fs xs ys=some b->∀w',(Op.eqFields d vs us fs).run P w'= .ok b w'
 |[],b,h,w'=>by simp only[Ig,Option.some.injEq]at h;subst h;simp[Op.eqFields]
 |f::fs,b,h,w'=>by
  unfold Ig at h;split at h
  ·cases h
  rename_i z1;split at h
  ·rename_i i hi;split at h
   ·rename_i x y hx hy;split at h
    ·rename_i c1 c2 za zb;simp only[Option.some.injEq]at h;obtain⟨v1,zc,r1⟩:=Ya hT hi hl hr hx;obtain⟨v2,zd,r2⟩:=Ya hT hi hl' z8 hy;have h3:=hE _ _ _ _ _ _ zc zd za w';have ih:=U7 hT hE hl hr hl' z8 fs c2 zb w';simp only[Op.eqFields,z1,ne_eq,not_false_eq_true,if_true,Sem.run_bind,r1,Result.andThen_ok,r2,h3];subst h;cases c1
     ·simp
     simpa using ih
    cases h
   cases h
  cases h
theorem Oj (hT:TOk P T) {E:AV->AV->Option Bool} {d:Nat} {e:TypeId} {ei:TI} (z1:look T e=some ei)
  (hE:∀(v v':Value) (x y:AV) (b:Bool),VR w I m n v x->VR w I m n v' y->E x y=some b->∀w',(Op.equalIn d e v v').run P w'= .ok b w')
  {vs us:Array Value} {xs ys:List AV} (hl:vs.size=xs.length) (hr:∀(j:Nat) (v:Value) (x:AV),vs[j]?=some v->xs[j]?=some x->VR w I m n v x)
  (hl':us.size=ys.length) (z8:∀(j:Nat) (v:Value) (x:AV),us[j]?=some v->ys[j]?=some x->VR w I m n v x):
  ∀(is:List Nat) (b:Bool),P2 ei E xs ys is=some b->∀w',(Op.eqItems d e ei.size vs us is).run P w'= .ok b w'
 |[],b,h,w'=>by simp only[P2,Option.some.injEq]at h;subst h;simp[Op.eqItems]
 |j::is,b,h,w'=>by
  unfold P2 at h;split at h
  ·rename_i x y hx hy;split at h
   ·rename_i c1 c2 za zb;simp only[Option.some.injEq]at h;obtain⟨v1,zc,r1⟩:=Ya hT z1 hl hr hx;obtain⟨v2,zd,r2⟩:=Ya hT z1 hl' z8 hy;have h3:=hE _ _ _ _ _ zc zd za w';have ih:=Oj hT z1 hE hl hr hl' z8 is c2 zb w';simp only[Op.eqItems,Sem.run_bind,r1,Result.andThen_ok,r2,h3];subst h;cases c1
    ·simp
    simpa using ih
   cases h
  cases h
theorem Dn(hT:TOk P T):∀(d:Nat) (t:TypeId) (v v':Value) (x y:AV) (b:Bool) (D:Nat),d<=D->VR w I m n v x->VR w I m n v' y->eqA T d t x y=some b->∀w',(Op.equalIn D t v v').run P w'= .ok b w'
 |0,_,_,_,_,_,_,_,_,_,_,h,_=>by cases h
 |d+1,t,v,v',x,y,b,0,hD,_,_,_,_=>by omega
 |d+1,t,v,v',x,y,b,D+1,hD,hv,z1,h,w'=>by
  unfold eqA at h;split at h
  ·rename_i i hi;have hu:=hT.und hi;split at h
   ·rename_i hd;simp only[Option.some.injEq]at h;subst h;obtain rfl:=hv.bool_inv;obtain rfl:=z1.bool_inv;exact run_equalIn_bool' w' D t _ _ (by rw[hu,hd])
   ·rename_i hd;split at h
    ·rename_i hk;subst hk;simp only[Option.some.injEq]at h;subst h;obtain rfl:=hv.int_inv;obtain rfl:=z1.int_inv;exact run_equalIn_int w' D t _ _ _ _ (by rw[hu,hd])
    cases h
   ·rename_i hd;simp only[Option.some.injEq]at h;subst h;obtain rfl:=hv.str_inv;obtain rfl:=z1.str_inv;rw[run_equalIn_string w' D t _ _ (by rw[hu,hd])];simp
   ·rename_i fs xs ys hd;split at h
    ·rename_i hq;obtain⟨vs,rfl,hl,hr⟩:=hv.agg_inv;obtain⟨us,rfl,hl',z8⟩:=z1.agg_inv;have hf:P.fieldsOf t=fs:=by simp[Program.fieldsOf,hu,hd]
     rw[run_equalIn_struct w' D t vs us (by rw[hf,hu,hd]) (((hT t i hi).2.2.1 hq).1),hf];exact U7 hT (λt' a a' x' y' c h1 h2 h3=>Dn hT d t' a a' x' y' c D (by omega) h1 h2 h3) hl hr hl' z8 fs.toList b h w'
    cases h
   ·rename_i n' e xs ys hd;split at h
    ·split at h
     ·rename_i ei za;obtain⟨vs,rfl,hl,hr⟩:=hv.agg_inv;obtain⟨us,rfl,hl',z8⟩:=z1.agg_inv;obtain⟨je,zb,_,zc,_⟩:=hT.info za;have hc:P.cellsOf e=ei.size:=by simp[Program.cellsOf,zb,zc]
      rw[run_equalIn_array w' D vs us (by rw[hu,hd]) zb,hc];exact Oj hT za (λa a' x' y' c h1 h2 h3=>Dn hT d e a a' x' y' c D (by omega) h1 h2 h3) hl hr hl' z8 _ b h w'
     cases h
    cases h
   cases h
  cases h
theorem Yv(hT:TOk P T){op:BinOp}{t:TypeId}{b:Bool}{r:AV}{ox oy:Operand}(h:D2 T op t b=some r)(p:Option Addr)(hb:p.isNone=b:=by rfl):
  ∃u,VR w I m n u r/\∀w',(do eqGuard op t ox oy (.pointer p) (.pointer none);binOp op t (.pointer p) (.pointer none)).run P w'= .ok u w':=by
 unfold D2 at h;split at h
 ·rename_i hi;have hu:=hT.und hi;have hE:∀(w':World) (d:Nat),(Op.equalIn (d+1) t (.pointer p) (.pointer none)).run P w'= .ok b w':=λw' d=>by subst hb;cases p<;>simp[Op.equalIn,run_underlying hu]
  split at h
  ·simp only[Option.some.injEq]at h;subst h;exact⟨_,.pure (.bool _),λw'=>by simp[eqGuard_at_pointer,binOp,Op.equal,Op.maxDepth,hE w' 9999]⟩
  ·simp only[Option.some.injEq]at h;subst h;exact⟨_,.pure (.bool _),λw'=>by simp[eqGuard_at_pointer,binOp,Op.equal,Op.maxDepth,hE w' 9999]⟩
  cases h
 cases h
theorem Ng(hT:TOk P T){op:BinOp}{t:TypeId}{v v':Value}{x y r:AV}{ox oy:Operand}(hv:VR w I m n v x)(z1:VR w I m n v' y)(h:w14 T op t x y=some r):
  ∃u,VR w I m n u r/\∀w',(do eqGuard op t ox oy v v';binOp op t v v').run P w'= .ok u w':=by
 unfold w14 at h;split at h
 ·rename_i k p k' q;obtain rfl:=hv.int_inv;obtain rfl:=z1.int_inv;have hg:∀w',(eqGuard op t ox oy (.int k p) (.int k' q)).run P w'= .ok () w':=λw'=>by rw[eqGuard_at_int];rfl
  split at h
  ·split at h
   ·rename_i hq;simp only[Option.some.injEq]at h;subst h;exact⟨_,.pure (.int _ _),λw'=>by simp[hg,binOp_shl,Op.shift,show ¬q<0 by omega]⟩
   cases h
  ·split at h
   ·rename_i hq;simp only[Option.some.injEq]at h;subst h;exact⟨_,.pure (.int _ _),λw'=>by simp[hg,binOp_shr,Op.shift,show ¬q<0 by omega]⟩
   cases h
  split at h
  ·rename_i hk;subst hk;obtain⟨u,hu,z8⟩:=Nh (P:=P) (w:=w) (I:=I) (t:=t) h;exact⟨u,.pure hu,λw'=>by simp[hg,z8]⟩
  cases h
 ·rename_i s q;obtain rfl:=hv.str_inv;obtain rfl:=z1.str_inv;obtain⟨u,hu,z8⟩:=N4 (P:=P) (w:=w) (I:=I) (t:=t) h;exact⟨u,.pure hu,λw'=>by simp[eqGuard_at_string,z8]⟩
 ·rename_i p q;obtain rfl:=hv.bool_inv;obtain rfl:=z1.bool_inv;split at h
  ·rename_i _ _ _ _ ht;have hu:=hT.und ht;have he:∀w',(Op.equal t (.bool p) (.bool q)).run P w'= .ok (p==q) w':=λw'=>run_equalIn_bool' w' 9999 t p q hu;split at h
   ·simp only[Option.some.injEq]at h;subst h;exact⟨_,.pure (.bool _),λw'=>by simp[eqGuard_at_bool,binOp,he]⟩
   ·simp only[Option.some.injEq]at h;subst h;exact⟨_,.pure (.bool _),λw'=>by simp[eqGuard_at_bool,binOp,he]⟩
   cases h
  cases h
 ·rename_i xs ys;split at h
  ·rename_i i hi;split at h
   ·rename_i hq;obtain⟨zb,za⟩:=(hT t i hi).2.2.1 hq;have hE:=λb (hb:eqA T 9 t (.agg xs) (.agg ys)=some b) w'=>Dn hT 9 t v v' _ _ b 10000 (by omega) hv z1 hb w';obtain⟨vs,rfl,hl,hr⟩:=hv.agg_inv;obtain⟨us,rfl,hl',zc⟩:=z1.agg_inv;split at h
    ·rename_i b hb;simp only[Option.some.injEq]at h;subst h;exact⟨_,.pure (.bool _),λw'=>by rw[Sem.run_bind,run_eqGuard_agg w' _ t ox oy vs us za,Result.andThen_ok,run_eql_struct,hE _ hb w',Result.andThen_ok]⟩
    ·rename_i b hb;simp only[Option.some.injEq]at h;subst h;exact⟨_,.pure (.bool _),λw'=>by rw[Sem.run_bind,run_eqGuard_agg w' _ t ox oy vs us za,Result.andThen_ok,run_neq_struct,hE _ hb w',Result.andThen_ok]⟩
    cases h
   cases h
  cases h
 ·rename_i y z;obtain rfl:=hv.nilp_inv;obtain rfl:=z1.nilp_inv;exact Yv hT h none
 ·rename_i id off;obtain⟨b,_,_,rfl⟩:=hv.vptr_inv;obtain rfl:=z1.nilp_inv;exact Yv hT h (some _)
 ·obtain⟨ad,u,rfl,_⟩:=hv.iptr_inv.iptr_inv;obtain rfl:=z1.nilp_inv;exact Yv hT h (some _)
 ·obtain⟨b,_,_,rfl⟩:=hv.ept_inv;obtain rfl:=z1.nilp_inv;exact Yv hT h (some _)
 cases h
end
end
section
section
variable {P:Program} {T:TT} {W0 w:World} {I0 I:Nat->Prop} {m:Nat->Option Nat} {H:List AObj} {nt n:Nat} {sl:List (Nat×AV)} {a:Act}
theorem y00{op:UnOp}{v:Value}{x r:AV}(hv:VR w I m n v x)(h:unA op x=some r):∃u,VR w I m n u r/\∀w',(Op.unary op v).run P w'= .ok u w':=by
 unfold unA at h;split at h
 ·simp only[Option.some.injEq]at h;subst h;obtain rfl:=hv.bool_inv;exact⟨_,.pure (.bool _),λw'=>by simp[Op.unary]⟩
 ·simp only[Option.some.injEq]at h;subst h;obtain rfl:=hv.int_inv;exact⟨_,.pure (.int _ _),λw'=>by simp[Op.unary,Op.intArith]⟩
 ·simp only[Option.some.injEq]at h;subst h;obtain rfl:=hv.int_inv;exact⟨_,.pure (.int _ _),λw'=>by simp[Op.unary,intBits_xor]⟩
 cases h
theorem Cr(hT:TOk P T){s d:TypeId}{v:Value}{x r:AV}(hv:VR w I m n v x)(h:z0b T s d x=some r):∃u,VR w I m n u r/\∀w',(convert s d v).run P w'= .ok u w':=by
 unfold z0b at h;split at h
 ·rename_i j k _ _ _ _ z hs hd;simp only[Option.some.injEq]at h;subst h;obtain rfl:=hv.int_inv;exact⟨_,.pure (.int _ _),λw'=>by simp[convert,run_underlying (hT.und hs),run_underlying (hT.und hd),Conv.intToInt]⟩
 ·rename_i j _ _ _ _ q hs hd;simp only[Option.some.injEq]at h;subst h;obtain rfl:=hv.str_inv;exact⟨_,.pure (.str _),λw'=>by simp[convert,run_underlying (hT.und hs),run_underlying (hT.und hd)]⟩
 cases h
theorem Wo:∀(xs cs:List AV) (off:Nat),(setCells cs off xs).length=cs.length
 |[],_,_=>rfl
 |x::xs,cs,off=>by simp[setCells,Wo xs]
theorem Rl:∀(xs cs:List AV) (off j:Nat),off+xs.length<=cs.length->(setCells cs off xs)[j]? =if off<=j/\j<off+xs.length then xs[j - off]? else cs[j]?
 |[],cs,off,j,_=>by simp[setCells,show ¬(off<=j/\j<off) by omega]
 |x::xs,cs,off,j,h=>by
  simp only[yQ]at h;rw[setCells,Rl xs _ (off+1) j (by simp;omega)];by_cases h1:j=off
  ·subst h1;rw[if_neg (by omega),if_pos (by simp)];simp[show j<cs.length by omega]
  by_cases h2:off+1<=j/\j<off+1+xs.length
  ·rw[if_pos h2,if_pos (by simp only[yQ];omega)];rw[show j - off=(j - (off+1))+1 by omega];simp
  rw[if_neg h2,if_neg (by simp only[yQ];omega),zI (by omega)]
theorem z01(vs:List Value):∀(cells:Array Value) (off k:Nat),(vs.zipIdx k).foldl (λcs (c,j)=>cs.setIfInBounds (off+j) c) cells=(vs.zipIdx 0).foldl (λcs (c,j)=>cs.setIfInBounds (off+k+j) c) cells:=by
 induction vs with
 |nil=>intros;rfl
 |cons v vs ih=>intro cells off k;simp only[uf,xK,wy,yW];rw[ih _ off (k+1),ih _ (off+k) 1];simp only[xZ]
theorem Hz(vs:List Value):∀(cells:Array Value) (off j:Nat),off+vs.length<=cells.size->
  ((vs.zipIdx 0).foldl (λcs (c,j)=>cs.setIfInBounds (off+j) c) cells)[j]? =(if off<=j/\j<off+vs.length then vs[j - off]? else cells[j]?)/\
  ((vs.zipIdx 0).foldl (λcs (c,j)=>cs.setIfInBounds (off+j) c) cells).size=cells.size:=by
 induction vs with
 |nil=>intro cells off j _;simp[show ¬(off<=j/\j<off) by omega]
 |cons v vs ih=>
  intro cells off j h;simp only[yQ]at h;simp only[uf,xK,wy,yW];rw[z01 vs _ off 1];obtain⟨h1,h2⟩:=ih (cells.setIfInBounds off v) (off+1) j (by simp;omega);refine⟨?_,by rw[h2];simp⟩;rw[h1];by_cases e1:j=off
  ·subst e1;rw[if_neg (by omega),if_pos (by simp)];simp[show j<cells.size by omega]
  by_cases e2:off+1<=j/\j<off+1+vs.length
  ·rw[if_pos e2,if_pos (by simp only[yQ];omega),show j - off=(j - (off+1))+1 by omega];simp
  rw[if_neg e2,if_neg (by simp only[yQ];omega),vg (by omega)]
theorem Oo{v:Value}{x:AV}(h:VR w I m n v x)(hx:x.isTop=false):v.cells.size=x.cells.length/\∀(j:Nat) (u:Value) (y:AV),v.cells[j]?=some u->x.cells[j]?=some y->VR w I m n u y:=by
 by_cases hl:x.leaf=true
 ·exact A2 h (.inl hl)
 cases x with
 |agg cs=>exact A2 h (.inr ⟨cs,rfl⟩)
 |tup cs=>
  obtain⟨vs,rfl,_,_⟩:=h.tup_inv;refine⟨rfl,λj u y hu hy=>?_⟩;cases j with
  |zero=>simp[Value.cells,AV.cells]at hu hy;subst hu;subst hy;exact h
  |succ j=>simp[AV.cells]at hy
 |top=>simp[AV.isTop]at hx
 |opt=>simp[AV.isTop]at hx
 |_=>simp[AV.leaf]at hl
theorem Yc{place:Nat->Option (Nat×Nat)}:∀(parts:List (Nat×Value)) (qs:List (Nat×Option AV)) (cells:Array Value) (cs z1:List AV),parts.length=qs.length->
  (∀(i:Nat) (p:Nat×Value) (q:Nat×Option AV),parts[i]?=some p->qs[i]?=some q->p.1=q.1/\∀x,q.2=some x->VR w I m n p.2 x)->
  cells.size=cs.length->(∀(j:Nat) (v:Value) (x:AV),cells[j]?=some v->cs[j]?=some x->VR w I m n v x)->J6 place cs qs=some z1->
  ∃cells',Instr.fill place cells parts=some cells'/\cells'.size=z1.length/\∀(j:Nat) (v:Value) (x:AV),cells'[j]?=some v->z1[j]?=some x->VR w I m n v x
 |[],[],cells,cs,z1,_,_,hl,hr,h=>by simp only[J6,Option.some.injEq]at h;subst h;exact⟨cells,rfl,hl,hr⟩
 |[],_::_,_,_,_,hlen,_,_,_,_=>by simp at hlen
 |_::_,[],_,_,_,hlen,_,_,_,_=>by simp at hlen
 |(i,v)::parts,(i',none)::qs,_,_,_,_,_,_,_,h=>by cases h
 |(i,v)::parts,(i',some x)::qs,cells,cs,z1,hlen,z8,hl,hr,h=>by
  obtain⟨hi,hx⟩:=z8 0 (i,v) (i',some x) rfl rfl;simp only at hi;subst hi;have za:VR w I m n v x:=hx x rfl;simp only[J6]at h;split at h
  ·rename_i off size hp;split at h
   ·rename_i hc;obtain⟨zb,zd,ze⟩:=hc;obtain⟨hvl,zc⟩:=Oo za zb;simp only[Instr.fill,hp];rw[if_neg (by simp only[yE,decide_eq_true_eq,not_or];omega)];have hz:v.cells.zipIdx.foldl (λcs (c,j)=>cs.setIfInBounds (off+j) c) cells=(v.cells.toList.zipIdx 0).foldl (λcs (c,j)=>cs.setIfInBounds (off+j) c) cells:=by rw[<-Array.foldl_toList,Array.toList_zipIdx]
    rw[hz];have hg:=λj=>Hz v.cells.toList cells off j (by simp;omega);refine Yc parts qs _ (setCells cs off x.cells) z1 (by simpa using hlen) (λk p q hk hq=>z8 (k+1) p q (by simpa using hk) (by simpa using hq)) (by rw[(hg 0).2,Wo,hl]) (λj u y hu hy=>?_) h;rw[(hg j).1]at hu;rw[Rl _ _ _ _ (by omega)]at hy;simp only[wv]at hu;by_cases hj:off<=j/\j<off+x.cells.length
    ·rw[if_pos (by omega)]at hu;rw[if_pos hj]at hy;exact zc (j - off) u y (by simpa using hu) hy
    rw[if_neg (by omega)]at hu;rw[if_neg hj]at hy;exact hr j u y hu hy
   cases h
  cases h
theorem Fz(i:TI):i.zero.cells.size=i.zeros.length/\∀(j:Nat) (v:Value) (x:AV),i.zero.cells[j]?=some v->i.zeros[j]?=some x->VR w I m n v x:=by refine⟨by simp[TI.zeros],λj v x hv hx=>?_⟩;simp only[TI.zeros,zU,vH,hv,xU,Option.some.injEq]at hx;subst hx;exact .pure (Y3 v)
end
end
section
section
variable {P:Program} {T:TT} {W0 w:World} {I0 I:Nat->Prop} {m:Nat->Option Nat} {H:List AObj} {nt n:Nat} {sl:List (Nat×AV)} {a:Act}
theorem Fj(hT:TOk P T)(w':World):∀(l:List Field),(∀f∈l,∃i,look T f.type=some i)->
  ∃ps:List (Nat×Nat),(l.mapM (m:=Sem) λf=>do pure (f.offset,<-sizeOf f.type)).run P w'= .ok ps w'/\ps.length=l.length/\∀(j:Nat) (f:Field) (i:TI),l[j]?=some f->look T f.type=some i->ps[j]?=some (f.offset,i.size)
 |[],_=>⟨[],by simp,rfl,by simp⟩
 |f::l,h=>by
  obtain⟨i,hi⟩:=h f (by simp);obtain⟨ps,h1,h2,h3⟩:=Fj hT w' l (λg hg=>h g (by simp[hg]));refine⟨(f.offset,i.size)::ps,?_,by simp[h2],λj g k hj hk=>?_⟩
  ·simp only[uw,Sem.run_bind,hT.size hi,Result.andThen_ok,Sem.run_pure,h1]
  cases j with
  |zero=>simp only[xr,Option.some.injEq]at hj;subst hj;rw[hi]at hk;cases hk;rfl
  |succ j=>simp only[List.getElem?_cons_succ]at hj |-;exact h3 j g k hj hk
theorem Pk{g:Bool}(hg:g=true)(hs:E5 nt sl a w I m n)(parts:Array (Nat×Operand)):∀(i:Nat) (p:Nat×Value) (q:Nat×Option AV),(parts.map λ(i,x)=>(i,a.eval x)).toList[i]?=some p->
  (parts.toList.map λ(i,x)=>(i,R9 g sl x))[i]?=some q->p.1=q.1/\∀x,q.2=some x->VR w I m n p.2 x:=by
 intro i p q hp hq;rw[Array.toList_map,zU]at hp;rw[zU]at hq;cases hx:parts.toList[i]? with
 |none=>rw[hx]at hp;cases hp
 |some y=>rw[hx]at hp hq;simp only[xU,Option.some.injEq]at hp hq;subst hp;subst hq;exact⟨rfl,λx h=>Qr hg hs h⟩
theorem L6{g:Bool}(hg:g=true)(hT:TOk P T)(hs:E5 nt sl a w I m n){t:TypeId}{parts:Array (Nat×Operand)}{r:AV}(h:Ko T t (parts.toList.map λ(i,x)=>(i,R9 g sl x))=some r):
  ∃u,VR w I m n u r/\∀w',(Instr.build t (parts.map λ(i,x)=>(i,a.eval x))).run P w'= .ok u w':=by
 unfold Ko at h;split at h
 ·rename_i i hi;have hu:=hT.und hi;have hz:=Fz (w:=w) (I:=I) (m:=m) (n:=n) i;have hlen:(parts.map λ(i,x)=>(i,a.eval x)).toList.length=(parts.toList.map λ(i,x)=>(i,R9 g sl x)).length:=by simp
  split at h
  ·rename_i fs hd;obtain⟨zc,hf,h⟩:=zM.1 h;subst h;obtain⟨cells',h1,h2,h3⟩:=Yc (place:=Yp T fs) _ _ _ _ _ hlen (Pk hg hs parts) hz.1 hz.2 hf;refine⟨.agg cells',.agg _ _ h2 h3,λw'=>?_⟩;have z8:=(hT t i hi).2.2.2 fs hd;obtain⟨ps,p1,p2,p3⟩:=Fj hT w' fs.toList (λf hf=>by
    unfold Um at z8;exact vu.1 (zV.1 z8 f hf))
   have zd:(λj=>(ps.toArray)[j]?)=Yp T fs:=by
    funext j;unfold Yp;cases hj:fs[j]? with
    |none=>
     have:ps.length<=j:=by rw[p2];simpa using hj
     simp[this]
    |some f=>
     have za:f∈fs.toList:=by simpa using wS hj
     unfold Um at z8;obtain⟨k,zb⟩:=vu.1 (zV.1 z8 f za);simp only[zb];have:=p3 j f k (by simpa using hj) zb;simpa using this
   have hm:(fs.mapM (m:=Sem) λf=>do pure (f.offset,<-sizeOf f.type)).run P w'= .ok ps.toArray w':=by rw[vv,Sem.run_map,p1];rfl
   have z1:Instr.fill (λx=>(ps.toArray)[x]?) i.zero.cells (parts.map λ(i,x)=>(i,a.eval x)).toList=some cells':=by rw[zd];exact h1
   simp only[Instr.build,Sem.run_bind,hT.zero hi,Result.andThen_ok,run_underlying hu,hd,hm,z1,Sem.run_pure]
  ·rename_i k e hd;split at h
   ·rename_i ei he;obtain⟨zc,hf,h⟩:=zM.1 h;subst h;obtain⟨cells',h1,h2,h3⟩:=Yc (place:=λj=>some (j * ei.size,ei.size)) _ _ _ _ _ hlen (Pk hg hs parts) hz.1 hz.2 hf;refine⟨.agg cells',.agg _ _ h2 h3,λw'=>?_⟩;simp only[Instr.build,Sem.run_bind,hT.zero hi,Result.andThen_ok,run_underlying hu,hd,hT.size he,h1,Sem.run_pure]
   cases h
  cases h
 cases h
theorem Tq{lim d k:Nat}{o:Option (Option AV)}{ov:Option Value}(z1:(o=none/\ov=none)\/∃v x,ov=some v/\(o=some (some x)/\VR w I m n v x\/o=some none))(h:bnd lim o d=some k):
  (o=none/\ov=none/\k=d)\/∃kk:IntKind,ov=some (.int kk (k:Int))/\k<=lim:=by
 rcases z1 with⟨rfl,rfl⟩|⟨v,x,rfl,⟨rfl,hx⟩|rfl⟩
 ·simp only[bnd,Option.some.injEq]at h;exact .inl ⟨rfl,rfl,h.symm⟩
 ·unfold bnd at h;split at h
  ·rename_i heq;cases heq
  ·rename_i kk i heq;cases heq;split at h
   ·rename_i hb;simp only[Option.some.injEq]at h;obtain rfl:=hx.int_inv;refine .inr ⟨kk,?_,by omega⟩;rw[show(k:Int)=i by omega]
   cases h
  cases h
 cases h
theorem Iq{g:Bool}(hg:g=true)(hs:E5 nt sl a w I m n)(o:Option Operand):(o.map (R9 g sl)=none/\o.map a.eval=none)\/
  ∃v x,o.map a.eval=some v/\(o.map (R9 g sl)=some (some x)/\VR w I m n v x\/o.map (R9 g sl)=some none):=by
 cases o with
 |none=>exact .inl ⟨rfl,rfl⟩
 |some y=>
  cases hy:R9 g sl y with
  |none=>exact .inr ⟨a.eval y,.top,rfl,.inr (by simp[hy])⟩
  |some x=>exact .inr ⟨a.eval y,x,rfl,.inl ⟨by simp[hy],Qr hg hs hy⟩⟩
theorem Rn (z1:Bool) (len cap l h:Nat) (lo hi:Option Value) (hh:(hi=none/\h=len)\/∃kk:IntKind,hi=some (.int kk (h:Int))/\h<=cap) (hl:(lo=none/\l=0)\/∃kk:IntKind,lo=some (.int kk (l:Int))/\l<=h)
  (w':World):(Instr.sliceBounds z1 len cap lo hi none).run P w'= .ok (l,h,cap) w':=by
 rcases hh with⟨rfl,rfl⟩|⟨kk,rfl,hh⟩<;>rcases hl with⟨rfl,rfl⟩|⟨kl,rfl,hl⟩
 ·simp[Instr.sliceBounds]
 ·simp[Instr.sliceBounds,run_sliceBound w' kl (l:Int) h _ (by omega) (by omega)]
 ·simp[Instr.sliceBounds,run_sliceBound w' kk (h:Int) cap _ (by omega) (by omega)]
 simp[Instr.sliceBounds,run_sliceBound w' kk (h:Int) cap _ (by omega) (by omega),run_sliceBound w' kl (l:Int) h _ (by omega) (by omega)]
theorem Kz{g:Bool}(hg:g=true)(hT:TOk P T)(hs:E5 nt sl a w I m n){t:TypeId}{v:Value}{x r:AV}{lo hi:Option Operand}(hv:VR w I m n v x)(h:Kn T t x (lo.map (R9 g sl)) (hi.map (R9 g sl))=some r):
  ∃u,VR w I m n u r/\∀w',(Instr.sliceAt t v (lo.map a.eval) (hi.map a.eval) none).run P w'= .ok u w':=by
 unfold Kn at h;split at h
 ·rename_i _ _ _ _ ht;have hu:=hT.und ht;split at h
  ·rename_i s;obtain rfl:=hv.str_inv;split at h
   ·rename_i k hk;split at h
    ·rename_i l hl;simp only[Option.some.injEq]at h;subst h;have h1:=Tq (Iq hg hs hi) hk;have h2:=Tq (Iq hg hs lo) hl;refine⟨_,.pure (.str _),λw'=>?_⟩;have za:k<=s.length:=by rcases h1 with⟨_,_,rfl⟩|⟨_,_,hk⟩<;>omega
     have hb:=Rn (P:=P) false s.length s.length l k (lo.map a.eval) (hi.map a.eval) (by rcases h1 with⟨_,e,rfl⟩|h1;exact .inl ⟨e,rfl⟩;exact .inr h1) (by rcases h2 with⟨_,e,rfl⟩|h2;exact .inl ⟨e,rfl⟩;exact .inr h2) w';have zh:(ByteArray.mk s.toArray).size=s.length:=by simp[ByteArray.size_mk']
     rw[run_sliceAt_string w' t _ _ _ _ hu];simp only[Instr.slice,Sem.run_bind,run_underlying hu,Result.andThen_ok,Option.isSome_none,wF,if_false,zh,hb,Sem.run_pure,ByteArray.extract_mk];simp[List.drop_take]
    cases h
   cases h
  cases h
 ·rename_i e _ _ _ _ ht;have hu:=hT.und ht;have z1:P.elem t=e:=by simp[Program.elem,hu]
  split at h
  ·rename_i ei he;split at h
   ·rename_i xs;obtain⟨ad,cap,c,u,rfl,hcap,hmax,hc,hcell,zi⟩:=hv.list_inv.list_inv;split at h
    ·rename_i k hk;split at h
     ·rename_i l hl;split at h
      ·rename_i zc;simp only[Option.some.injEq]at h;subst h;have h1:=Tq (Iq hg hs hi) hk;have h2:=Tq (Iq hg hs lo) hl;have za:k<=xs.length:=by rcases h1 with⟨_,_,rfl⟩|⟨_,_,hk⟩<;>omega
       have zd:l<=k:=by rcases h2 with⟨_,_,rfl⟩|⟨_,_,hk⟩<;>omega
       refine⟨sliced ad l k cap ei.size,.pure ?_,λw'=>?_⟩
       ·refine .list _ _ _ c _ (λi j=>u (l+i) j) (by simp;omega) (by simp;omega) (by omega) (λy hy=>hc y (xL (wd hy))) (λh0=>?_) (λi y hy j z hz=>?_)
        ·simp only[xo,vw]at h0;obtain⟨b,rfl,hI,zb⟩:=hcell (by omega);refine⟨b.add (l * ei.size),by rw[if_neg (by omega)];rfl,by rw[block_add];exact hI,λi j zj hj=>?_⟩;have ze:ei.size=c:=by have h3:=zV.1 zc (xs[0]'(by omega)) (by simp);rw[beq_iff_eq]at h3;rw[<-h3,hc _ (by simp)]
         simp only[xo,vw]at zj;rw[add_add,ze,<-xZ,<-yA];exact zb _ _ (by omega) hj
        rw[yX,yJ]at hy;split at hy
        ·exact zi _ y hy j z hz
        cases hy
       have hb:=Rn (P:=P) true xs.length cap l k (lo.map a.eval) (hi.map a.eval) (by rcases h1 with⟨_,e,rfl⟩|⟨kk,e1,e2⟩;exact .inl ⟨e,rfl⟩;exact .inr ⟨kk,e1,by omega⟩) (by rcases h2 with⟨_,e,rfl⟩|h2;exact .inl ⟨e,rfl⟩;exact .inr h2) w';rw[run_sliceAt_slice w' t _ _ _ _ (by rw[z1];exact hu),run_slice_any w' t ad xs.length cap (by rw[z1];exact hu),hb,z1,Result.andThen_ok,hT.size he,Result.andThen_ok]
      cases h
     cases h
    cases h
   ·rename_i id c b len;split at h
    ·rename_i k hk;split at h
     ·rename_i l hl;split at h
      ·rename_i ze;simp only[Option.some.injEq]at h;subst h;have h1:=Tq (Iq hg hs hi) hk;have h2:=Tq (Iq hg hs lo) hl;have za:k<=len:=by rcases h1 with⟨_,_,rfl⟩|⟨_,_,hk⟩<;>omega
       have zd:l<=k:=by rcases h2 with⟨_,_,rfl⟩|⟨_,_,hk⟩<;>omega
       have key:∀(ad:Option Addr) (cap:Nat),len<=cap->v= .slice ad len cap->∀w',(Instr.sliceAt t v (lo.map a.eval) (hi.map a.eval) none).run P w'= .ok (sliced ad l k cap ei.size) w':=by rintro ad cap hcap rfl w';have hb:=Rn (P:=P) true len cap l k (lo.map a.eval) (hi.map a.eval) (by rcases h1 with⟨_,e,rfl⟩|⟨kk,e1,e2⟩;exact .inl ⟨e,rfl⟩;exact .inr ⟨kk,e1,by omega⟩) (by rcases h2 with⟨_,e,rfl⟩|h2;exact .inl ⟨e,rfl⟩;exact .inr h2) w';rw[run_sliceAt_slice w' t _ _ _ _ (by rw[z1];exact hu),run_slice_any w' t ad len cap (by rw[z1];exact hu),hb,z1,Result.andThen_ok,hT.size he,Result.andThen_ok]
       rcases hv.sl_inv with⟨bl,cap,t',hb,hn,zg,hl',hmax,rfl⟩|⟨hb,hn,rfl,rfl,rfl⟩|⟨ad,hn,h0,rfl,rfl⟩
       ·refine⟨_,?_,key _ cap hl' rfl⟩;unfold sliced;by_cases zb:cap=l
        ·rw[if_pos zb];have z8:k - l=0:=by omega
         rw[z8,show cap - l=0 by omega];by_cases hb0:b+l=0
         ·have:b=0:=by omega
          have:l=0:=by omega
          subst b;subst l;subst cap;exact .sl id c 0 0 0 bl t' hn hb (by simpa using zg) (by omega) (by omega)
         exact .slend id c (b+l) _ hn (by omega)
        rw[if_neg zb,<-ze];have:=VR.sl (w:=w) (I:=I) (m:=m) (n:=n) id c (b+l) (k - l) (cap - l) bl t' hn hb (by rw[show b+l+(cap - l)=b+cap by omega];exact zg) (by omega) (by omega);rw[yA]at this;simpa[Addr.add_lit]using this
       ·have z8:k=0:=by omega
        have zf:l=0:=by omega
        subst z8;subst zf;refine⟨_,?_,key none 0 (by omega) rfl⟩;exact .slnone id c hn hb
       have z8:k=0:=by omega
       have zf:l=0:=by omega
       subst z8;subst zf;refine⟨_,?_,key _ 0 (by omega) rfl⟩;exact .slend id c b ad hn h0
      cases h
     cases h
    cases h
   ·obtain rfl:=hv.nils_inv;split at h
    ·rename_i k hk;split at h
     ·rename_i l hl;simp only[Option.some.injEq]at h;subst h;have h1:=Tq (Iq hg hs hi) hk;have h2:=Tq (Iq hg hs lo) hl;have za:k=0:=by rcases h1 with⟨_,_,rfl⟩|⟨_,_,hk⟩<;>omega
      have zd:l=0:=by rcases h2 with⟨_,_,rfl⟩|⟨_,_,hk⟩<;>omega
      subst za;subst zd;refine⟨_,.pure .nils,λw'=>?_⟩;have hb:=Rn (P:=P) true 0 0 0 0 (lo.map a.eval) (hi.map a.eval) (by rcases h1 with⟨_,e,_⟩|⟨kk,e1,e2⟩;exact .inl ⟨e,rfl⟩;exact .inr ⟨kk,e1,by omega⟩) (by rcases h2 with⟨_,e,_⟩|h2;exact .inl ⟨e,rfl⟩;exact .inr h2) w';rw[run_sliceAt_slice w' t _ _ _ _ (by rw[z1];exact hu),run_slice_any w' t none 0 0 (by rw[z1];exact hu),hb,z1,Result.andThen_ok,hT.size he,Result.andThen_ok];rfl
     cases h
    cases h
   cases h
  cases h
 cases h
theorem q05(hT:TOk P T){t ty:TypeId}{v:Value}{x r:AV}(hv:VR w I m n v x)(h:y17 T t x=some r):
  ∃u,VR w I m n u r/\∀w',(Builtin.len_ #[t] ty #[v]).run P w'= .ok u w':=by
 unfold y17 at h;split at h
 ·rename_i _ _ _ _ ht;split at h
  ·simp only[Option.some.injEq]at h;subst h;obtain rfl:=hv.str_inv;exact⟨_,.pure (.int _ _),λw'=>by simp[Builtin.len_,run_underlying (hT.und ht),goInt,ByteArray.size_mk']⟩
  cases h
 ·rename_i e _ _ _ _ ht;have key:∀(ad:Option Addr) (k cap:Nat),v= .slice ad k cap->∀w',(Builtin.len_ #[t] ty #[v]).run P w'= .ok (.int .i64 k) w':=by rintro ad k cap rfl w';simp[Builtin.len_,run_underlying (hT.und ht),goInt]
  split at h
  ·simp only[Option.some.injEq]at h;subst h;obtain⟨ad,cap,c,u,e1,_⟩:=hv.list_inv.list_inv;exact⟨_,.pure (.int _ _),key _ _ _ e1⟩
  ·simp only[Option.some.injEq]at h;subst h;rcases hv.sl_inv with⟨bl,cap,t',hb,hn,z1,hl',hmax,e1⟩|⟨hb,hn,_,rfl,e1⟩|⟨ad,hn,h0,rfl,e1⟩
   ·exact⟨_,.pure (.int _ _),key _ _ _ e1⟩
   ·exact⟨_,.pure (.int _ _),key _ _ _ e1⟩
   exact⟨_,.pure (.int _ _),key _ _ _ e1⟩
  ·simp only[Option.some.injEq]at h;subst h;exact⟨_,.pure (.int _ _),key _ _ _ hv.nils_inv⟩
  cases h
 ·rename_i k e _ _ _ _ ht;simp only[Option.some.injEq]at h;subst h;exact⟨_,.pure (.int _ _),λw'=>by simp[Builtin.len_,run_underlying (hT.und ht),goInt]⟩
 cases h
theorem F9{v:Value}{x r:AV}{i:Nat}(hv:VR w I m n v x)(h:P7 x i=some r):
  ∃u,VR w I m n u r/\∀w',(Instr.extract v i).run P w'= .ok u w':=by
 unfold P7 at h;split at h
 ·rename_i ys;obtain⟨vs,rfl,hl,hr⟩:=hv.tup_inv;have z8:=(zD.1 h).1;have z1:vs[i]?=some (vs[i]'(by omega)):=by simp[hl,z8]
  exact⟨_,hr i _ r z1 h,λw'=>by simp[Instr.extract,z1]⟩
 cases h
theorem Du{v:Value}{x r:AV}{o:Oper}{y:Operand}(ho:o.op= .nilCheck y)(hy:a.eval y=v)(hv:VR w I m n v x)(h:It x=some r):
  ∃u,VR w I m n u r/\∀w',(execOp a.eval o).run P w'= .ok (.value u) w':=by
 cases x<;>simp only[It,reduceCtorEq,Option.some.injEq]at h
 case fn f xs ys=>cases f<;>simp only[reduceCtorEq,Option.some.injEq]at h;subst h;obtain⟨vs,us,rfl,_⟩:=hv.fn_inv;exact⟨_,hv,λw'=>by simp[execOp,ho,hy]⟩
 case vptr=>subst h;obtain⟨b,hb,hn,rfl⟩:=hv.vptr_inv;exact⟨_,hv,λw'=>by simp[execOp,ho,hy]⟩
 case ept=>subst h;obtain⟨b,hb,hn,rfl⟩:=hv.ept_inv;exact⟨_,hv,λw'=>by simp[execOp,ho,hy]⟩
 case iptr=>subst h;obtain⟨ad,u,rfl,_⟩:=hv.iptr_inv.iptr_inv;exact⟨_,hv,λw'=>by simp[execOp,ho,hy]⟩
theorem Rq{α:Type}{f:α->Option AV}:∀ {l:List α} {ys:List AV},Qy (l.map f)=some ys->ys.length=l.length/\∀(i:Nat) (o:α) (y:AV),l[i]?=some o->ys[i]?=some y->f o=some y
 |[],ys,h=>by simp only[yM,Qy,Option.some.injEq]at h;subst h;simp
 |o::l,ys,h=>by
  simp only[z_]at h;cases ho:f o with
  |none=>rw[ho]at h;cases h
  |some y=>
   rw[ho]at h;obtain⟨zs,hz,rfl⟩:=zM.1 h;obtain⟨h1,h2⟩:=Rq hz;refine⟨by simp[h1],λi o' y' hi hy=>?_⟩;cases i with
   |zero=>simp only[xr,Option.some.injEq]at hi hy;subst hi;subst hy;exact ho
   |succ i=>exact h2 i o' y' (by simpa using hi) (by simpa using hy)
theorem Jh{g:Bool}(hg:g=true)(hs:E5 nt sl a w I m n){xs:Array Operand}{ys:List AV}(h:Qy (xs.toList.map (R9 g sl))=some ys):
  (xs.map a.eval).size=ys.length/\∀(i:Nat) (v:Value) (y:AV),(xs.map a.eval)[i]?=some v->ys[i]?=some y->VR w I m n v y:=by
 obtain⟨h1,h2⟩:=Rq h;refine⟨by simp[h1],λi v y hv hy=>?_⟩;rw[Array.getElem?_map]at hv;cases hx:xs[i]? with
 |none=>rw[hx]at hv;cases hv
 |some o=>rw[hx]at hv;simp only[xU,Option.some.injEq]at hv;subst hv;exact Qr hg hs (h2 i o y (by simpa using hx) hy)
theorem Po{big:Bool}{v v':Value}{x y r:AV}(hv:VR w I m n v x)(z1:VR w I m n v' y)(h:F4 big [x,y]=some r):
  ∃u,VR w I m n u r/\∀w',((bif big then Builtin.max2 v v' else Builtin.min2 v v').run P w')= .ok u w':=by
 unfold F4 at h;split at h
 ·rename_i k p k' q heq;simp only[List.cons.injEq,and_true]at heq;obtain⟨rfl,rfl⟩:=heq;split at h
  ·rename_i hk;subst hk;simp only[Option.some.injEq]at h;subst h;obtain rfl:=hv.int_inv;obtain rfl:=z1.int_inv;exact⟨_,.pure (.int _ _),λw'=>by cases big<;>simp[Builtin.max2,Builtin.min2]⟩
  cases h
 cases h
theorem Hp(hT:TOk P T){S:AS}(hw:WS W0 I0 w I m S.hp)(hs:E5 nt S.sl a w I m S.hp.length){o:Oper}{op:Op}(ho:o.op=op){g:Bool}(hg:g=true){x:AV}(h:Sk T S g op=some x):
  ∃v,VR w I m S.hp.length v x/\∀w',(T1 op=true->Tz w w')->(execOp a.eval o).run P w'= .ok (.value v) w':=by
 cases op with
 |move y=>exact⟨_,Qr hg hs h,λw' _=>by simp[execOp,ho]⟩
 |assign y=>exact⟨_,Qr hg hs h,λw' _=>by simp[execOp,ho]⟩
 |pick c y z=>
  rw[Z2]at h;split at h
  ·rename_i p hc;have zb:=(Qr hg hs hc).bool_inv;subst hg;unfold k0e at h;split at h
   ·rename_i q q' hy hz;simp only[Option.some.injEq]at h;subst h;cases p
    ·have h2:=(Qr (by rfl) hs hz).bool_inv;exact⟨_,.pure (.bool _),λw' _=>by simp[execOp,ho,zb,h2,asBool]⟩
    have h1:=(Qr (by rfl) hs hy).bool_inv;exact⟨_,.pure (.bool _),λw' _=>by simp[execOp,ho,zb,h1,asBool]⟩
   cases p
   ·simp only[cond_false]at h;exact⟨_,Qr (by rfl) hs h,λw' _=>by simp[execOp,ho,zb,asBool]⟩
   simp only[cond_true]at h;exact⟨_,Qr (by rfl) hs h,λw' _=>by simp[execOp,ho,zb,asBool]⟩
  cases h
 |load t y=>rw[Kx]at h;obtain⟨p,hp,h⟩:=yS.1 h;obtain⟨u,hu,z1⟩:=Dp hT hw (Qr hg hs hp) h;exact⟨u,hu,λw' hh=>by simp[execOp,ho,z1 w' (hh rfl)]⟩
 |nilCheck y=>rw[Px]at h;obtain⟨p,hp,h⟩:=yS.1 h;obtain⟨u,hu,z1⟩:=Du (P:=P) ho rfl (Qr hg hs hp) h;exact⟨u,hu,λw' _=>z1 w'⟩
 |binOp b t y z u=>
  rw[Gz]at h;split at h
  ·rename_i p q hp hq;obtain⟨v,hv,z1⟩:=Ng hT (ox:=y) (oy:=z) (Qr hg hs hp) (Qr hg hs hq) h;refine⟨v,hv,λw' _=>?_⟩;have:=z1 w';simp only[execOp,ho];rw[Sem.run_bind,this];rfl
  cases h
 |unOp b t y=>rw[Ly]at h;obtain⟨p,hp,h⟩:=yS.1 h;obtain⟨v,hv,z1⟩:=y00 (P:=P) (Qr hg hs hp) h;exact⟨v,hv,λw' _=>by simp[execOp,ho,z1 w']⟩
 |convert s d y=>rw[Sd]at h;obtain⟨p,hp,h⟩:=yS.1 h;obtain⟨v,hv,z1⟩:=Cr hT (Qr hg hs hp) h;exact⟨v,hv,λw' _=>by simp[execOp,ho,z1 w']⟩
 |build t parts=>rw[Gu]at h;obtain⟨v,hv,z1⟩:=L6 hg hT hs h;exact⟨v,hv,λw' _=>by simp only[execOp,ho];rw[Sem.run_bind,z1 w'];rfl⟩
 |makeFunc f xs ys=>
  rw[Pl]at h;split at h
  ·rename_i p q hp hq;simp only[Option.some.injEq]at h;subst h;obtain⟨h1,h2⟩:=Jh hg hs hp;obtain⟨h3,h4⟩:=Jh hg hs hq;exact⟨_,.fn f _ _ _ _ h1 h2 h3 h4,λw' _=>by simp[execOp,ho,Instr.makeFunc]⟩
  cases h
 |slice t y lo hi mx=>
  cases mx with
  |some _=>cases h
  |none=>rw[Hc]at h;obtain⟨p,hp,h⟩:=yS.1 h;obtain⟨v,hv,z1⟩:=Kz hg hT hs (Qr hg hs hp) h;exact⟨v,hv,λw' _=>by simp only[execOp,ho];rw[Sem.run_bind];simp only[Option.map_none];rw[z1 w'];rfl⟩
 |fieldAddr t y f=>rw[Og]at h;obtain⟨p,hp,h⟩:=yS.1 h;obtain⟨v,hv,z1⟩:=Su hT (Qr hg hs hp) h;exact⟨v,hv,λw' _=>by simp[execOp,ho,z1 w']⟩
 |field t y f=>rw[Gp]at h;obtain⟨p,hp,h⟩:=yS.1 h;obtain⟨v,hv,z1⟩:=Zs hT (Qr hg hs hp) h;exact⟨v,hv,λw' _=>by simp[execOp,ho,z1 w']⟩
 |indexAddr t y i=>
  rw[Oh]at h;split at h
  ·rename_i p q hp hq;obtain⟨v,hv,z1⟩:=Sq hT (Qr hg hs hp) (Qr hg hs hq) h;exact⟨v,hv,λw' _=>by simp[execOp,ho,z1 w']⟩
  cases h
 |index t y i=>
  rw[Hb]at h;split at h
  ·rename_i p q hp hq;obtain⟨v,hv,z1⟩:=Kr hT (Qr hg hs hp) (Qr hg hs hq) h;exact⟨v,hv,λw' _=>by simp[execOp,ho,z1 w']⟩
  cases h
 |extract y i=>rw[Sb]at h;obtain⟨p,hp,h⟩:=yS.1 h;obtain⟨v,hv,z1⟩:=F9 (P:=P) (Qr hg hs hp) h;exact⟨v,hv,λw' _=>by simp[execOp,ho,z1 w']⟩
 |call c=>
  obtain⟨callee,args,argTypes⟩:=c;cases callee with
  |builtin b=>
   rw[Zo]at h;unfold Dd at h;split at h
   ·rename_i t p zc z8;have zd:argTypes= #[t]:=by apply vo;simpa using zc
    subst zd;have za:args.toList.length=1:=by simpa using congrArg wU z8
    obtain⟨y,hy⟩:∃y,args= #[y]:=by
     match hh:args.toList,za with
     |[y],_=>exact⟨y,by apply vo;simpa using hh⟩
    subst hy;simp only[z_,yM,List.cons.injEq,and_true]at z8;obtain⟨v,hv,z1⟩:=q05 (ty:=o.type) hT (Qr hg hs z8) h;exact⟨v,hv,λw' _=>by simp[execOp,ho,resolve,invoke,builtin,z1 w']⟩
   ·rename_i p q z8;have za:args.toList.length=2:=by simpa using congrArg wU z8
    obtain⟨y,z,hy⟩:∃y z,args= #[y,z]:=by
     match hh:args.toList,za with
     |[y,z],_=>exact⟨y,z,by apply vo;simpa using hh⟩
    subst hy;simp only[z_,yM,List.cons.injEq,and_true]at z8;obtain⟨v,hv,z1⟩:=Po (P:=P) (Qr hg hs z8.1) (Qr hg hs z8.2) h;refine⟨v,hv,λw' _=>?_⟩;have:=z1 w';simp only[cond_true]at this;simp[execOp,ho,resolve,invoke,builtin,Builtin.max_,this]
   ·rename_i p q z8;have za:args.toList.length=2:=by simpa using congrArg wU z8
    obtain⟨y,z,hy⟩:∃y z,args= #[y,z]:=by
     match hh:args.toList,za with
     |[y,z],_=>exact⟨y,z,by apply vo;simpa using hh⟩
    subst hy;simp only[z_,yM,List.cons.injEq,and_true]at z8;obtain⟨v,hv,z1⟩:=Po (P:=P) (Qr hg hs z8.1) (Qr hg hs z8.2) h;refine⟨v,hv,λw' _=>?_⟩;have:=z1 w';simp only[cond_false]at this;simp[execOp,ho,resolve,invoke,builtin,Builtin.min_,this]
   cases h
  |_=>cases h
 |_=>cases h
end
end
section
def upd(m:Nat->Option Nat)(k:Nat)(v:Option Nat):Nat->Option Nat:=λi=>if i=k then v else m i
def Q6(m:Nat->Option Nat)(k:Nat)(v:Option Nat):upd m k v k=v:=by simp[upd]
def Yy{m:Nat->Option Nat}{k:Nat}{v:Option Nat}{i:Nat}(h:i<k):upd m k v i=m i:=by simp[upd,show i≠k by omega]
def R6{w w':World}{b:Nat}(h:w'.heap[b]? =w.heap[b]?):w'.shape? b=w.shape? b:=by simp[World.shape?,h]
def Sy{w:World}{b:Nat}{s:TypeId×Nat}(h:w.shape? b=some s):b<w.heap.size:=by
 rcases wa b w.heap.size with h'|h'
 ·exact h'
 simp[World.shape?,wi h']at h
section
variable {W0 w w':World} {I0 I I':Nat->Prop} {m m':Nat->Option Nat} {H:List AObj} {n n':Nat}
def Uq.mono{b? :Option Nat}{o:AObj}(h:Uq w I m n b? o)(e:Fut n w I m w' I' m')(hn:n<=n')(hb:o.live=true->∀b,b? =some b->w'.heap[b]? =w.heap[b]?):Uq w' I' m' n' b? o:=by
 cases o with
 |vars cs=>obtain⟨b,t,vs,rfl,hh,hl,hr⟩:=h;exact⟨b,t,vs,rfl,by rw[hb rfl b rfl];exact hh,hl,λj v x a c=>(hr j v x a c).mono e hn⟩
 |arr t c xs=>
  rcases h with h|⟨b,cap,vs,rfl,hh,h1,h2,h3,h4,hr⟩
  ·exact .inl h
  exact .inr ⟨b,cap,vs,rfl,by rw[hb rfl b rfl];exact hh,h1,h2,h3,h4,λi x hx j y hy=>by obtain⟨v,hv,hp⟩:=hr i x hx j y hy;exact⟨v,hv,hp.mono e.ext⟩⟩
 |it left cur=>obtain⟨r,bm,es,ck,since,seen,c0,rfl,hh,hI,hm,h1,h2,h3,h4,h5,hr,z1⟩:=h;exact⟨r,bm,es,ck,since,seen,c0,rfl,by rw[hb rfl r rfl];exact hh,e.ext.sub _ hI,by rw[e.ext.imm _ hI];exact hm,h1,h2,h3,h4,h5,λi x p a c=>⟨(hr i x p a c).1.mono e.ext,(hr i x p a c).2.mono e.ext⟩,λp hp=>by obtain⟨e1,sn,q1,q2,q3,q4,q5⟩:=z1 p hp;exact⟨e1,sn,q1,q2,q3,q4.mono e.ext,q5.mono e.ext⟩⟩
 |va t c xs=>
  rcases h with h|⟨b,cap,vs,rfl,hh,h1,h2,h3,h4,hr⟩
  ·exact .inl h
  exact .inr ⟨b,cap,vs,rfl,by rw[hb rfl b rfl];exact hh,h1,h2,h3,h4,λi x hx j y hy=>by obtain⟨v,hv,hp⟩:=hr i x hx j y hy;exact⟨v,hv,hp.mono e hn⟩⟩
 |dead=>trivial
 |fm kvs=>obtain⟨b,es,ck,rfl,hI,hh,hl,hr⟩:=h;exact⟨b,es,ck,rfl,e.ext.sub _ hI,by rw[e.ext.imm _ hI];exact hh,hl,λi x p a c=>⟨(hr i x p a c).1.mono e.ext,(hr i x p a c).2.mono e.ext⟩⟩
 |tag id t=>obtain⟨h1,b,s,h2,h3⟩:=h;exact⟨by omega,b,s,(e.ids id h1).trans h2,e.shape _ _ h3⟩
 |lp rdy pend nt sl ps asg body=>obtain⟨b,r,rfl,hh,h1,h2,h3,h4,h5,h6,h7⟩:=h;exact⟨b,r,rfl,by rw[hb rfl b rfl];exact hh,h1,h2,h3,h4,h5,h6,λt x hx=>by obtain⟨v,hv,hr⟩:=h7 t x hx;exact⟨v,hv,hr.mono e hn⟩⟩
 |mp kvs=>obtain⟨b,es,ck,rfl,hh,hl,hr⟩:=h;exact⟨b,es,ck,rfl,by rw[hb rfl b rfl];exact hh,hl,λi x p a c=>⟨(hr i x p a c).1.mono e.ext,(hr i x p a c).2.mono e.ext⟩⟩
 |mv kvs=>obtain⟨b,es,ck,rfl,hh,hl,hr⟩:=h;exact⟨b,es,ck,rfl,by rw[hb rfl b rfl];exact hh,hl,λi x p a c=>⟨(hr i x p a c).1.mono e.ext,(hr i x p a c).2.mono e hn⟩⟩
def WS.step(h:WS W0 I0 w I m H)(hb:Below w.heap.size w w')(z8:∀b,I b->I' b)(hI:∀b,I' b->b<w'.heap.size/\(I b\/w.heap.size<=b)):
  WS W0 I0 w' I' m H/\Fut H.length w I m w' I' m:=by
 have hf:Fut H.length w I m w' I' m:=⟨⟨z8,λb z1=>hb.block b (h.iw b z1).1⟩,λ_ _=>rfl,λb s hs=>by rw[R6 (hb.block b (Sy hs))];exact hs⟩
 refine⟨⟨h.below.trans (hb.mono h.below.size),λb z1=>z8 b (h.i0 b z1),λb z1=>⟨(hI b z1).1,?_⟩,λid o ho=>?_,λid o b ho hl hm=>?_,h.inj⟩,hf⟩
 ·rcases(hI b z1).2 with h1|h1
  ·exact(h.iw b h1).2
  exact .inr (yD h.below.size h1)
 ·by_cases hl:o.live=true
  ·exact(h.obj id o ho).mono hf (zR _) (λ_ b hm=>hb.block b (h.own id o b ho hl hm).2.2)
  exact(h.obj id o ho).mono hf (zR _) (λhl'=>absurd hl' hl)
 obtain⟨h1,h2,h3⟩:=h.own id o b ho hl hm;refine⟨h1,λhi=>?_,yZ h3 hb.size⟩;rcases(hI b hi).2 with h4|h4
 ·exact h2 h4
 omega
def WS.push' (h:WS W0 I0 w I m H) (hb:Below w.heap.size w w') (zb:∀b,I b->I' b) (hI:∀b,I' b->b<w'.heap.size/\(I b\/w.heap.size<=b)) (b? :Option Nat) (z8:∀b,b? =some b->w.heap.size<=b/\b<w'.heap.size/\¬I' b) (o:AObj)
  (hO:∀m',Fut H.length w I m w' I' m'->m' H.length=b? ->Uq w' I' m' (H.length+1) b? o):
  WS W0 I0 w' I' (upd m H.length b?) (H++[o])/\Fut H.length w I m w' I' (upd m H.length b?):=by
 have hf:Fut H.length w I m w' I' (upd m H.length b?):=⟨⟨zb,λb za=>hb.block b (h.iw b za).1⟩,λ_ hid=>Yy hid,λb s hs=>by rw[R6 (hb.block b (Sy hs))];exact hs⟩
 have z1:∀(id:Nat) (o':AObj),(H++[o])[id]?=some o'->(id<H.length/\H[id]?=some o')\/(id=H.length/\o'=o):=λid o' ho=>by
  rcases ug id H.length with h1|h1|h1
  ·rw[zK h1]at ho;exact .inl ⟨h1,ho⟩
  ·subst h1;rw[zF (zR _)]at ho;simp at ho;exact .inr ⟨rfl,ho.symm⟩
  have:=(zD.1 ho).1;simp at this;omega
 refine⟨⟨h.below.trans (hb.mono h.below.size),λb za=>zb b (h.i0 b za),λb za=>⟨(hI b za).1,(hI b za).2.elim (λh1=>(h.iw b h1).2) (λh1=> .inr (yD h.below.size h1))⟩,λid o' ho=>?_,λid o' b ho hl hm=>?_,λi j oi oj b hi hj li lj mi mj=>?_⟩,hf⟩
 ·rw[zL,vL];rcases z1 id o' ho with⟨h1,h2⟩|⟨rfl,rfl⟩
  ·rw[Yy h1];by_cases hl:o'.live=true
   ·exact(h.obj id o' h2).mono hf (by omega) (λ_ b hm=>hb.block b (h.own id o' b h2 hl hm).2.2)
   exact(h.obj id o' h2).mono hf (by omega) (λhl'=>absurd hl' hl)
  rw[Q6];exact hO _ hf (Q6 _ _ _)
 ·rcases z1 id o' ho with⟨h1,h2⟩|⟨rfl,rfl⟩
  ·rw[Yy h1]at hm;obtain⟨h3,h4,h5⟩:=h.own id o' b h2 hl hm;exact⟨h3,λhi=>(hI b hi).2.elim h4 (λh6=>by omega),yZ h5 hb.size⟩
  rw[Q6]at hm;obtain⟨h1,h2,h3⟩:=z8 b hm;exact⟨yD h.below.size h1,h3,h2⟩
 rcases z1 i oi hi with⟨h1,h2⟩|⟨rfl,rfl⟩<;>rcases z1 j oj hj with⟨h3,h4⟩|⟨rfl,rfl⟩
 ·rw[Yy h1]at mi;rw[Yy h3]at mj;exact h.inj i j oi oj b h2 h4 li lj mi mj
 ·rw[Yy h1]at mi;rw[Q6]at mj;have:=(h.own i oi b h2 li mi).2.2;have:=(z8 b mj).1;omega
 ·rw[Yy h3]at mj;rw[Q6]at mi;have:=(h.own j oj b h4 lj mj).2.2;have:=(z8 b mi).1;omega
 rfl
def WS.push (h:WS W0 I0 w I m H) (hb:Below w.heap.size w w') (b? :Option Nat) (z1:∀b,b? =some b->w.heap.size<=b/\b<w'.heap.size) (o:AObj)
  (hO:∀m',Fut H.length w I m w' I m'->m' H.length=b? ->Uq w' I m' (H.length+1) b? o):
  WS W0 I0 w' I (upd m H.length b?) (H++[o])/\Fut H.length w I m w' I (upd m H.length b?):=
 h.push' hb (λ_ h=>h) (λb z8=>⟨yZ (h.iw b z8).1 hb.size,.inl z8⟩) b? (λb e=>⟨(z1 b e).1,(z1 b e).2,λhi=>by have:=(h.iw b hi).1;have:=(z1 b e).1;omega⟩) o hO
def WS.set (h:WS W0 I0 w I m H) {id:Nat} {o o':AObj} {b:Nat} (ho:H[id]?=some o) (hl:o.live=true) (hm:m id=some b) (hg:w.grownBy w' (some b))
  (z8:∀s,w.shape? b=some s->w'.shape? b=some s) (hO:∀m',Fut H.length w I m w' I m'->Uq w' I m' H.length (some b) o'):
  WS W0 I0 w' I m (H.set id o')/\Fut H.length w I m w' I m:=by
 obtain⟨zc,za,zd⟩:=h.own id o b ho hl hm;have hf:Fut H.length w I m w' I m:=⟨⟨λ_ h=>h,λc hc=>hg.block c (h.iw c hc).1 (λe=>za (by injection e with e;exact e▸hc))⟩,λ_ _=>rfl,λc s hs=>by
  by_cases hcb:c=b
  ·subst hcb;exact z8 s hs
  rw[R6 (hg.block c (Sy hs) (λe=>hcb (by injection e)))];exact hs⟩
 have z1:∀(k:Nat) (p:AObj),(H.set id o')[k]?=some p->(k≠id/\H[k]?=some p)\/(k=id/\p=o'):=λk p hp=>by
  by_cases hk:k=id
  ·subst hk;have zb:k<H.length:=(zD.1 ho).1;rw[zJ zb]at hp;exact .inr ⟨rfl,(Option.some.inj hp).symm⟩
  rw[zI (by omega)]at hp;exact .inl ⟨hk,hp⟩
 refine⟨⟨h.below.grown hg h.below.size (λk hk=>by injection hk with hk;omega),h.i0,λc hc=>⟨yZ (h.iw c hc).1 hg.size,(h.iw c hc).2⟩,λk p hp=>?_,λk p c hp lp mc=>?_,λi j oi oj c hi hj li lj mi mj=>?_⟩,hf⟩
 ·rw[wj];rcases z1 k p hp with⟨h1,h2⟩|⟨rfl,rfl⟩
  ·by_cases hlp:p.live=true
   ·exact(h.obj k p h2).mono hf (zR _) (λ_ c hc=>hg.block c (h.own k p c h2 hlp hc).2.2 (λe=>h1 (by injection e with e;subst e;exact h.inj k id p o c h2 ho hlp hl hc hm)))
   exact(h.obj k p h2).mono hf (zR _) (λhl'=>absurd hl' hlp)
  rw[hm];exact hO m hf
 ·have h2:∃q,H[k]?=some q/\q.live=true:=by
   rcases z1 k p hp with⟨h1,h2⟩|⟨rfl,rfl⟩
   ·exact⟨p,h2,lp⟩
   exact⟨o,ho,hl⟩
  obtain⟨q,hq,lq⟩:=h2;obtain⟨h3,h4,h5⟩:=h.own k q c hq lq mc;exact⟨h3,h4,yZ h5 hg.size⟩
 have h2:∀(k:Nat) (p:AObj),(H.set id o')[k]?=some p->p.live=true->∃q,H[k]?=some q/\q.live=true:=λk p hp lp=>by
  rcases z1 k p hp with⟨h1,h2⟩|⟨rfl,rfl⟩
  ·exact⟨p,h2,lp⟩
  exact⟨o,ho,hl⟩
 obtain⟨q,hq,lq⟩:=h2 i oi hi li;obtain⟨r,hr,lr⟩:=h2 j oj hj lj;exact h.inj i j q r c hq hr lq lr mi mj
def WS.kill(h:WS W0 I0 w I m H)(id:Nat):WS W0 I0 w I m (H.set id .dead):=by
 have z1:∀(k:Nat) (p:AObj),(H.set id .dead)[k]?=some p->p.live=true->H[k]?=some p:=λk p hp lp=>by
  by_cases hk:k=id
  ·subst hk;have z8:k<H.length:=by have:=(zD.1 hp).1;simpa using this
   rw[zJ z8]at hp;cases hp;simp[AObj.live]at lp
  rw[zI (by omega)]at hp;exact hp
 refine⟨h.below,h.i0,h.iw,λk p hp=>?_,λk p c hp lp mc=>h.own k p c (z1 k p hp lp) lp mc,λi j oi oj c hi hj li lj mi mj=>h.inj i j oi oj c (z1 i oi hi li) (z1 j oj hj lj) li lj mi mj⟩;rw[wj];by_cases hk:k=id
 ·subst hk;have z8:k<H.length:=by have:=(zD.1 hp).1;simpa using this
  rw[zJ z8]at hp;cases hp;trivial
 rw[zI (by omega)]at hp;exact h.obj k p hp
def WS.freeze(h:WS W0 I0 w I m H){id:Nat}{o:AObj}{b:Nat}(ho:H[id]?=some o)(hl:o.live=true)(hm:m id=some b):
  WS W0 I0 w (λc=>I c\/c=b) m (H.set id .dead)/\Fut H.length w I m w (λc=>I c\/c=b) m:=by
 obtain⟨z1,zb,z8⟩:=h.own id o b ho hl hm;have hk:=h.kill id;have hf:Fut H.length w I m w (λc=>I c\/c=b) m:=⟨⟨λc hc=> .inl hc,λ_ _=>rfl⟩,λ_ _=>rfl,λ_ _ hs=>hs⟩
 refine⟨⟨h.below,λc hc=> .inl (h.i0 c hc),λc hc=>?_,λk p hp=>?_,λk p c hp lp mc=>?_,hk.inj⟩,hf⟩
 ·rcases hc with hc|rfl
  ·exact h.iw c hc
  exact⟨z8,.inr z1⟩
 ·rw[wj];have:=hk.obj k p hp;rw[wj]at this;exact this.mono hf (zR _) (λ_ _ _=>rfl)
 obtain⟨h1,h2,h3⟩:=hk.own k p c hp lp mc;refine⟨h1,λhc=>?_,h3⟩;rcases hc with hc|rfl
 ·exact h2 hc
 by_cases hki:k=id
 ·subst hki;have za:k<H.length:=(zD.1 ho).1;rw[zJ za]at hp;cases hp;simp[AObj.live]at lp
 rw[zI (by omega)]at hp;exact hki (h.inj k id p o c hp ho lp hl mc hm)
def WS.take (h:WS W0 I0 w I m H) (k:Nat) (z8:∀(id:Nat) (cs:List AV),(H.take k)[id]?=some (.vars cs)->∀(v:Value) (x:AV),x∈cs->VR w I m H.length v x->VR w I m (H.take k).length v x)
  (zb:∀(i id:Nat) (t:TypeId),(H.take k)[i]?=some (.tag id t)->id<(H.take k).length)
  (zc:∀(i:Nat) (rdy:Bool) (pend:Option Code) (nt:Nat) (sl:List (Nat×AV)) (ps:List Tmp) (asg body:Code),(H.take k)[i]?=some (.lp rdy pend nt sl ps asg body)->∀(t:Nat) (v:Value) (x:AV),look sl t=some x->VR w I m H.length v x->VR w I m (H.take k).length v x)
  (zd:∀(i:Nat) (e:TypeId) (c:Nat) (xs:List AV),(H.take k)[i]?=some (.va e c xs)->∀(x:AV),x∈xs->∀(v:Value) (y:AV),y∈x.cells->VR w I m H.length v y->VR w I m (H.take k).length v y)
  (ze:∀(i:Nat) (kvs:List (AV×AV)),(H.take k)[i]?=some (.mv kvs)->∀(p:AV×AV),p∈kvs->∀(v:Value),VR w I m H.length v p.2->VR w I m (H.take k).length v p.2):WS W0 I0 w I m (H.take k):=by
 have z1:∀(i:Nat) (p:AObj),(H.take k)[i]?=some p->H[i]?=some p:=λi p hp=>by
  rw[yJ]at hp;split at hp
  ·exact hp
  cases hp
 refine⟨h.below,h.i0,h.iw,λi p hp=>?_,λi p c hp lp mc=>h.own i p c (z1 i p hp) lp mc,λi j oi oj c hi hj li lj mi mj=>h.inj i j oi oj c (z1 i oi hi) (z1 j oj hj) li lj mi mj⟩;have:=h.obj i p (z1 i p hp);have za:=hp;cases p with
 |vars cs=>obtain⟨b,t,vs,e,hh,hl,hr⟩:=this;exact⟨b,t,vs,e,hh,hl,λj v x a c=>z8 i cs hp v x (zE c) (hr j v x a c)⟩
 |arr e c xs=>exact this
 |va e c xs=>
  rcases this with h|⟨b,cap,vs,e1,hh,h1,h2,h3,h4,hr⟩
  ·exact .inl h
  exact .inr ⟨b,cap,vs,e1,hh,h1,h2,h3,h4,λj x hx l y hy=>by obtain⟨v,hv,hp⟩:=hr j x hx l y hy;exact⟨v,hv,zd i _ _ _ za x (zE hx) v y (zE hy) hp⟩⟩
 |dead=>trivial
 |tag id t=>exact⟨zb i id t hp,this.2⟩
 |lp rdy pend nt sl ps asg body=>obtain⟨b,r,e,hh,h1,h2,h3,h4,h5,h6,h7⟩:=this;exact⟨b,r,e,hh,h1,h2,h3,h4,h5,h6,λt x hx=>by obtain⟨v,hv,hr⟩:=h7 t x hx;exact⟨v,hv,zc i _ _ _ _ _ _ _ hp t v x hx hr⟩⟩
 |mp kvs=>exact this
 |fm kvs=>exact this
 |it left cur=>exact this
 |mv kvs=>obtain⟨b,es,ck,e1,hh,hl,hr⟩:=this;exact⟨b,es,ck,e1,hh,hl,λj x p a c=>⟨(hr j x p a c).1,ze i _ za p (zE c) _ (hr j x p a c).2⟩⟩
end
end
section
def FW(ρ:Option Nat):Fence:={ Fence.wide with round:=ρ }
def c0r(ρ:Option Nat)(n:Nat):(FW ρ).room n:=λ_ h=>by cases h
def j03(P:Program)(o:Oper)(a:Act)(next:Act->World->Prop)(Q:Exit->Act->World->Prop):Result Next->Prop
 | .ok (.value v) w'=>next (a.put o.dst v) w'
 | .ok .skip w'=>next (a.put o.dst undef) w'
 | .ok (.enter f args) w'=>Calls P f args w' fun
   | .returned v,w''=>next (a.put o.dst v) w''
   | .panicked chain,w''=>Q (.panic chain) a w''
   | .outgrown,_=>LetsOut Q
 | .ok (.row row args) w'=>Rows P row args w' λv w''=>next (a.put o.dst v) w''
 | .ok (.round l f tmps assign body) w'=>RoundIn Fence.wide 0 P l f tmps assign body w' fun
   | .returned v,w''=>next (a.put o.dst v) w''
   | .panicked chain,w''=>Q (.panic chain) a w''
   | .outgrown,_=>LetsOut Q
 |_=>False
def wpA(P:Program)(o:Oper)(a:Act)(w:World)(next:Act->World->Prop)(Q:Exit->Act->World->Prop):Prop:=
 j03 P o a next Q ((execOp a.eval o).run P w)
def Hl{ρ:Option Nat}{n:Nat}{P:Program}{f:FuncId}{args:Array Value}{w:World}{R:Ending->World->Prop}(h:Calls P f args w R):CallsIn (FW ρ) n P f args w R:=(callsIn_wide (n:=n)).2 h
def x0p{ρ:Option Nat}{n:Nat}{P:Program}{row:String}{args:Array Value}{w:World}{R:Value->World->Prop}(h:Rows P row args w R):RowsIn (FW ρ) n P row args w R:=λc cs _=>by obtain⟨v,w',r,s⟩:=h c cs;exact⟨v,w',r,stepsIn_wide.2 s⟩
def w0w{P:Program}{o:Oper}{a:Act}{w:World}{next:Act->World->Prop}{Q:Exit->Act->World->Prop}(h:wpA P o a w next Q)(c:Call):o.op≠ .defer c:=λho=>by
 unfold wpA at h;have:∃r,(execOp a.eval o).run P w=r/\(∀x w',r= .ok x w'->∃d,x= .defer d):=by
  refine⟨_,rfl,λx w' hr=>?_⟩;simp only[execOp,ho,Sem.run_bind]at hr;cases hq:(resolve a.eval c o.type).run P w with
  |ok d w''=>rw[hq]at hr;simp[Result.andThen]at hr;exact⟨d,hr.1.symm⟩
  |halt e w''=>rw[hq]at hr;simp[Result.andThen]at hr
 obtain⟨r,hr,hd⟩:=this;rw[hr]at h;cases r with
 |ok x w'=>obtain⟨d,rfl⟩:=hd x w' rfl;exact h
 |halt x w'=>exact h
def g0e{P:Program}{ρ:Option Nat}{o:Oper}{a:Act}{w:World}{next:Act->World->Prop}{Q:Exit->Act->World->Prop}(h:wpA P o a w next Q):o.wpIn (FW ρ) 0 P a w next Q:=by
 refine⟨λ_ _=>trivial,?_⟩;rw[Oper.semAt_eq _ _ _ (w0w h)];unfold wpA at h;generalize (execOp a.eval o).run P w=r at *
 cases r with
 |ok x w'=>
  cases x<;>simp only[j03]at h<;>simp only[Oper.uponIn]<;>
   first
    |exact h
    |exact⟨λh'=>(by cases h'),Hl h⟩
    |exact⟨λh'=>(by cases h'),x0p h⟩
    |exact⟨λh'=>(by cases h'),h⟩
    |exact h.elim
 |halt x w'=>exact h.elim
def V6{P:Program}{o:Oper}{a:Act}{w:World}{K K':Act->World->Prop}{Q:Exit->Act->World->Prop}(h:∀a w,K a w->K' a w)(hh:wpA P o a w K Q):wpA P o a w K' Q:=by
 unfold wpA at *;generalize (execOp a.eval o).run P w=r at *
 cases r with
 |ok x w'=>
  cases x<;>simp only[j03]at hh |-<;>
   first
    |exact h _ _ hh
    |exact Calls.mono hh (λe w'' he=>by cases e<;>first|exact h _ _ he|exact he)
    |exact Rows.mono hh (λ_ _ he=>h _ _ he)
    |exact RoundIn.mono hh (λe w'' he=>by cases e<;>first|exact h _ _ he|exact he)
    |exact hh
 |halt x w'=>exact hh
section
variable {P:Program} {ops:Array Oper} {Q:Exit->Act->World->Prop}
def Pc(P:Program)(ops:Array Oper)(Q:Exit->Act->World->Prop)(i:Nat)(K:Act->World->Prop)(a:Act)(w:World):Prop:=
 match ops[i]? with
 |none=>K a w
 |some o=>if Region.wanted o (yielded ops a.tmps)then wpA P o a w K Q else K (a.put o.dst undef) w
def q0d{i:Nat}{a:Act}{w:World}{K K':Act->World->Prop}(h:∀a w,K a w->K' a w)(hh:Pc P ops Q i K a w):Pc P ops Q i K' a w:=by
 unfold Pc at *
 cases ho:ops[i]? with
 |none=>rw[ho]at hh;exact h _ _ hh
 |some o=>
  rw[ho]at hh;simp only at hh |-;split
  ·rename_i hw;rw[if_pos hw]at hh;exact V6 h hh
  rename_i hw;rw[if_neg hw]at hh;exact h _ _ hh
def v00{ρ:Option Nat}{i:Nat}{a:Act}{w:World}{K:Act->World->Prop}(h:Pc P ops Q i K a w):wpOpIn (FW ρ) 0 P ops Q i K a w:=by
 unfold Pc at h;unfold wpOpIn;cases ho:ops[i]? with
 |none=>rw[ho]at h;exact h
 |some o=>
  rw[ho]at h;simp only at h |-;split
  ·rename_i hw;rw[if_pos hw]at h;exact g0e h
  rename_i hw;rw[if_neg hw]at h;exact⟨λ_ _=>trivial,h⟩
def Uo(P:Program)(ops:Array Oper)(Q:Exit->Act->World->Prop):List Oper->Act->World->Prop
 |[],a,w=>Q .normal a w
 |o::rest,a,w=>if Region.wanted o (yielded ops a.tmps)then wpA P o a w (Uo P ops Q rest) Q else Uo P ops Q rest (a.put o.dst undef) w
def X9{a:Act}{w:World}(h:Q .normal a w):Uo P ops Q [] a w:=h
def Ap{ρ:Option Nat}:∀(l:List Oper) (a:Act) (w:World),Uo P ops Q l a w->wpListIn (FW ρ) 0 P ops Q l a w
 |[],_,_,h=>h
 |o::rest,a,w,h=>by
  unfold Uo at h;unfold wpListIn;split
  ·rename_i hw;rw[if_pos hw]at h;exact g0e (V6 (λa w=>Ap rest a w) h)
  rename_i hw;rw[if_neg hw]at h;exact⟨λ_ _=>trivial,Ap rest _ _ h⟩
def F8{ρ:Option Nat}{id:Nat}{l:List Oper}{a:Act}{w:World}(h:Uo P l.toArray Q l a w):(Code.region id l.toArray false).wpIn (FW ρ) 0 P Q a w:=wpIn_region_lit (Ap _ _ _ h)
def Se{Sh:World->Prop}{i:Nat}{o:Oper}{v:Value}{a:Act}(hi:ops[i]?=some o)(hy:YieldsIf P ops Sh o v a){K:Act->World->Prop}{w:World}(hS:Sh w)(h:K (a.put o.dst v) w):Pc P ops Q i K a w:=by
 unfold Pc;rw[hi];simp only;rcases hy with⟨hw,hv⟩|⟨hw,rfl⟩
 ·rw[if_pos hw];unfold wpA;rw[hv w hS];exact h
 rw[if_neg (by rw[hw];decide)];exact h
def Cd {Sh:World->Prop} {j:Nat} {oi oj:Oper} {v:Value} (hj:ops[j]?=some oj) (z1:oi.apart ops oj=true)
  (z8:∀cs b,oi.op≠ .select cs b) (za:∀cs b,oj.op≠ .select cs b)
  (hQ:∀c a w,Q (.panic c) (a.put oi.dst v) w->Q (.panic c) a w) {K:Act->World->Prop} {a:Act} {w:World}
  (hy:YieldsIf P ops Sh oi v a) (h:Pc P ops Q j K (a.put oi.dst v) w):
  Pc P ops Q j (λa' w'=>YieldsIf P ops Sh oi v a'/\K (a'.put oi.dst v) w') a w:=by
 obtain⟨h1,h2,h3⟩:=Oper.apart_spec z1;have keep:∀u,YieldsIf P ops Sh oi v (a.put oj.dst u):=λu=>hy.of_same (execOp_put oi z8 a oj.dst u h3) (wanted_put oi a oj.dst u h3);have swap:∀u,(a.put oj.dst u).put oi.dst v=(a.put oi.dst v).put oj.dst u:=λu=>(Act.put_comm a v u h2).symm;unfold Pc at *;rw[hj]at h |-;simp only at h |-;rw[wanted_put oj a oi.dst v h1]at h;split
 ·rename_i hw;rw[if_pos hw]at h;unfold wpA at *;rw[execOp_put oj za a oi.dst v h1]at h;generalize (execOp a.eval oj).run P w=r at *
  cases r with
  |halt x w'=>exact h
  |ok x w'=>
   cases x with
   |value u=>exact⟨keep u,by rw[swap];exact h⟩
   |skip=>exact⟨keep _,by rw[swap];exact h⟩
   |enter f args=>
    refine Calls.mono h λe w'' he=>?_;cases e with
    |returned u=>exact⟨keep u,by rw[swap];exact he⟩
    |panicked c=>exact hQ _ _ _ he
    |outgrown=>exact he
   |row row args=>exact Rows.mono h λu w'' he=>⟨keep u,by rw[swap];exact he⟩
   |round l f tmps assign body=>
    refine RoundIn.mono h λe w'' he=>?_;cases e with
    |returned u=>exact⟨keep u,by rw[swap];exact he⟩
    |panicked c=>exact hQ _ _ _ he
    |outgrown=>exact he
   |_=>exact h
 rename_i hw;rw[if_neg hw]at h;exact⟨keep _,by rw[swap];exact h⟩
end
end
section
class Env (P:Program) where
 tab:List (Nat×(List Value->Prop))
def EOK(P:Program)[Env P](w:World)(I:Nat->Prop):Prop:=∀g pr,(g,pr)∈Env.tab P->I g/\∃(cs:List Value) (t:TypeId) (fr:Nat×Nat),pr cs/\w.heap[g]?=some (.cells cs.toArray t fr)
def EOK.go{P:Program}[Env P]{w w':World}{I I':Nat->Prop}(h:EOK P w I)(hb:Below w.heap.size w w')(hs:∀b,I b->I' b):EOK P w' I':=λg pr hm=>by obtain⟨h1,cs,t,fr,h2,h3⟩:=h g pr hm;exact⟨hs g h1,cs,t,fr,h2,by rw[hb.block _ (xl.1 h3).1];exact h3⟩
structure Cx (P:Program) [Env P] where
 W0:World
 I0:Nat->Prop
 wE:World
 IE:Nat->Prop
 mE:Nat->Option Nat
 hE:EOK P W0 I0
 ro:Option Nat
def Xo(D:Nat):Deferred:={ target:= .collected D,args:= #[] }
structure FutC {P:Program} [Env P] (C:Cx P) (k:Nat) (a:Act) (w:World) (I:Nat->Prop) (m:Nat->Option Nat):Prop where
 fut:Fut k C.wE C.IE C.mE w I m
 defs:C.ro=none->∃ds:List Nat,a.defers=ds.map Xo/\ds.Nodup/\∀D∈ds,I D/\(¬C.IE D/\C.W0.heap.size<=D)/\w.heap[D]?=some (.deferred (some []))
 rnd:∀l,C.ro=some l->I l/\∃r,w.heap[l]?=some (.loop r)
def put_defers(a:Act)(d:Option Tmp)(v:Value):(a.put d v).defers=a.defers:=by cases d<;>rfl
def FutC.trans {P:Program} [Env P] {C:Cx P} {k n:Nat} {a a':Act} {w w':World} {I I':Nat->Prop} {m m':Nat->Option Nat} (h:FutC C k a w I m) (hk:k<=n) (g:Fut n w I m w' I' m')
  (e:a'.defers=a.defers:=by first|rfl|exact put_defers _ _ _):FutC C k a' w' I' m':=by
 refine⟨h.fut.trans hk g,λz1=>?_,λl hl=>?_⟩
 ·obtain⟨ds,e1,e2,e3⟩:=h.defs z1;exact⟨ds,e.trans e1,e2,λD hD=>⟨g.ext.sub D (e3 D hD).1,(e3 D hD).2.1,by rw[g.ext.imm D (e3 D hD).1];exact(e3 D hD).2.2⟩⟩
 obtain⟨h1,r,h2⟩:=h.rnd l hl;exact⟨g.ext.sub l h1,r,by rw[g.ext.imm l h1];exact h2⟩
def St{P:Program}[Env P](C:Cx P)(nt k:Nat)(S:AS)(a:Act)(w:World):Prop:=
 ∃I m,WS C.W0 C.I0 w I m S.hp/\E5 nt S.sl a w I m S.hp.length/\k<=S.hp.length/\FutC C k a w I m
def Pst{P:Program}[Env P](C:Cx P)(nt k:Nat)(Q:Exit->AS->Prop)(e:Exit)(a:Act)(w:World):Prop:=∃S,Q e S/\St C nt k S a w
def AWP(P:Program)[Env P](nt k:Nat)(c:Code)(Q:Exit->AS->Prop)(S:AS):Prop:=
 ∀(C:Cx P) (a:Act) (w:World),St C nt k S a w->c.wpIn (FW C.ro) 0 P (Pst C nt k Q) a w
def S5(P:Program)(ρ:Option Nat)(c:Code)(Q:Exit->Act->World->Prop)(a:Act)(w:World):Prop:=
 ∀(b:Frame) (k:List Item) (cs:List Frame),b.roundOf=ρ->∃e a' w',Q e a' w'/\ArrivesIn (Machine.fenced P Fence.wide) P (lone (b.atR a (.code c:: .inLoop c::k)) cs w) b k cs e a' w'
def Ul(P:Program)[Env P](nt k:Nat)(c:Code)(Q:Exit->AS->Prop)(S:AS):Prop:=
 ∀(C:Cx P) (a:Act) (w:World),St C nt k S a w->S5 P C.ro c (Pst C nt k Q) a w
section
variable {P:Program} [Env P] {nt k:Nat} {Q:Exit->AS->Prop} {S:AS}
def AWP.mono{c:Code}{Q':Exit->AS->Prop}(h:AWP P nt k c Q S)(hq:∀e S,Q e S->Q' e S):AWP P nt k c Q' S:=
 λC a w hs=>wpIn_mono (h C a w hs) λe _ _ ⟨S,z1,z8⟩=>⟨S,hq e S z1,z8⟩
def O7(next:AS->Prop)(Q:Exit->AS->Prop):Exit->AS->Prop
 | .normal,S=>next S
 |e,S=>Q e S
def R0{x y:Code}(h:AWP P nt k x (O7 (AWP P nt k y Q) Q) S):AWP P nt k (.seq x y) Q S:=λC a w hs=>
 wpIn_seq (wpIn_mono (h C a w hs) λe a w ⟨S,hq,z1⟩=>by
  cases e<;>first|exact hq C a w z1|exact⟨S,hq,z1⟩)
def Vy(h:Q .normal S):AWP P nt k .skip Q S:=λ_ _ _ hs=>wpIn_skip ⟨S,h,hs⟩
def Bu{id:Nat}(h:Q (.exit id) S):AWP P nt k (.exit id) Q S:=λ_ _ _ hs=>wpIn_exit ⟨S,h,hs⟩
def Ci(h:Q .ret S):AWP P nt k .ret Q S:=λ_ _ _ hs=>wpIn_ret ⟨S,h,hs⟩
def Qh{c:Operand}{x y:Code}{b:Bool}(hc:rho S.sl c=some (.bool b))(h:AWP P nt k (if b then x else y) Q S):AWP P nt k (.cond c x y) Q S:=λC a w hs=>by obtain⟨I,m,hw,z1,hk,hf⟩:=hs;exact wpIn_cond (Qu z1 hc).bool_inv (h C a w ⟨I,m,hw,z1,hk,hf⟩)
def Qb{c:Operand}{x y:Code}{b:Bool}(hc:rho S.sl c=some (.bool b))(ht:b=true->AWP P nt k x Q S)(hf:b=false->AWP P nt k y Q S):AWP P nt k (.cond c x y) Q S:=by
 cases b
 ·exact Qh hc (hf rfl)
 exact Qh hc (ht rfl)
def Dz(id:Nat)(Q:Exit->AS->Prop):Exit->AS->Prop
 | .exit id',S=>if id'=id then Q .normal S else Q (.exit id') S
 |e,S=>Q e S
def D6{id:Nat}{c:Code}(h:AWP P nt k c (Dz id Q) S):AWP P nt k (.block id c) Q S:=λC a w hs=>
 wpIn_block (wpIn_mono (h C a w hs) λe a w ⟨S,hq,z1⟩=>by
  cases e with
  |exit id'=>
   simp only[Exit.inBlock,Dz]at hq |-;split
   ·rename_i hid;rw[if_pos hid]at hq;exact⟨S,hq,z1⟩
   rename_i hid;rw[if_neg hid]at hq;exact⟨S,hq,z1⟩
  |_=>exact⟨S,hq,z1⟩)
def D9{P:Program}{m:Machine}:m.fenced P Fence.wide:=fenced_wide P m
def Gi{ρ:Option Nat}{c:Code}{Q:Exit->Act->World->Prop}{a:Act}{w:World}(h:S5 P ρ c Q a w):(Code.loop c).wpIn (FW ρ) 0 P Q a w:=λb k cs z1 _ _=>let⟨e,a',w',hq,ha⟩:=h b k cs z1;⟨e,a',w',hq,.of_steps (.one D9 stepR_loop) ha⟩
def Ge{ρ:Option Nat}{c:Code}{Q:Exit->Act->World->Prop}{a:Act}{w:World}(h:c.wpIn (FW ρ) 0 P (Exit.then (S5 P ρ c Q) Q) a w):S5 P ρ c Q a w:=λb k cs za=>by
 obtain⟨e,a₁,w₁,hq,z1⟩:=h b (.inLoop c::k) cs za trivial (c0r _ _);cases e with
 |normal=>obtain⟨e₂,a₂,w₂,zb,z8⟩:=hq b k cs za;exact⟨e₂,a₂,w₂,zb,.of_steps (StepsIn.trans z1 (.one D9 stepR_inLoop)) z8⟩
 |exit id=>exact⟨_,a₁,w₁,hq,.pass (x:= .inLoop c) rfl (λ_ _=> .inl (by simp)) z1⟩
 |goto l=>exact⟨_,a₁,w₁,hq,.pass (x:= .inLoop c) rfl (λ_ _=> .inl (by simp)) z1⟩
 |ret=>exact⟨_,a₁,w₁,hq,.pass (x:= .inLoop c) rfl (λ_ _=> .inl (by simp)) z1⟩
 |panic ch=>exact⟨_,a₁,w₁,hq,.pass (x:= .inLoop c) rfl (λ_ _=> .inl (by simp)) z1⟩
 |outgrown=>exact⟨_,a₁,w₁,hq,.pass (x:= .inLoop c) rfl (λ_ _=> .inl (by simp)) z1⟩
def Qk{c:Code}(h:Ul P nt k c Q S):AWP P nt k (.loop c) Q S:=λC a w hs=>Gi (h C a w hs)
def Q3{c:Code}(h:AWP P nt k c (O7 (Ul P nt k c Q) Q) S):Ul P nt k c Q S:=λC a w hs=>
 Ge (wpIn_mono (h C a w hs) λe a w ⟨S,hq,z1⟩=>by
  cases e<;>first|exact hq C a w z1|exact⟨S,hq,z1⟩)
def St.sub{C:Cx P}{S':AS}{a:Act}{w:World}(hs:St C nt k S a w)(hh:S'.hp=S.hp)(h:∀t x,look S'.sl t=some x->look S.sl t=some x):St C nt k S' a w:=by obtain⟨I,m,hw,z1,hk,hf⟩:=hs;exact⟨I,m,hh▸hw,⟨z1.1,z1.2.1,λt x hx=>by rw[hh];exact z1.2.2 t x (h t x hx)⟩,hh▸hk,hf⟩
def W6(sl:List (Nat×AV)):List (Nat×AV)->Prop
 |[]=>True
 |(t,x)::r=>look sl t=some x/\W6 sl r
def Tn{sl:List (Nat×AV)}:∀ {sl':List (Nat×AV)},W6 sl sl'->∀t x,look sl' t=some x->look sl t=some x
 |[],_,t,x,h=>by cases h
 |(s,y)::r,⟨h1,h2⟩,t,x,h=>by
  unfold look at h;split at h
  ·rename_i z1;subst z1;cases h;exact h1
  exact Tn h2 t x h
def Qo{c:Code}{sl sl':List (Nat×AV)}{H:List AObj}(h:AWP P nt k c Q ⟨sl',H⟩)(hk:W6 sl sl'):AWP P nt k c Q ⟨sl,H⟩:=
 λC a w hs=>h C a w (hs.sub rfl (Tn hk))
def Qg{c:Code}{sl sl':List (Nat×AV)}{H:List AObj}(h:Ul P nt k c Q ⟨sl',H⟩)(hk:W6 sl sl'):Ul P nt k c Q ⟨sl,H⟩:=
 λC a w hs=>h C a w (hs.sub rfl (Tn hk))
def AV.under(n:Nat):AV->Bool
 | .agg cs=>cs.attach.all λ⟨x,_⟩=>x.under n
 | .tup cs=>cs.attach.all λ⟨x,_⟩=>x.under n
 | .fn _ xs ys=>(xs.attach.all λ⟨x,_⟩=>x.under n) && (ys.attach.all λ⟨x,_⟩=>x.under n)
 | .vptr id _| .ept id _ _ _| .sl id _ _ _| .yld id| .mref id=>decide (id<n)
 | .opt _ x=>x.under n
 |_=>true
def VR.under{w:World}{I:Nat->Prop}{m:Nat->Option Nat}{n n':Nat}{v:Value}{x:AV}(h:VR w I m n v x)(hb:x.under n'=true):VR w I m n' v x:=by
 induction h with
 |pure h=>exact .pure h
 |agg vs cs hl h ih=>unfold AV.under at hb;simp only[xM,xx,zV]at hb;exact .agg vs cs hl λi v x a b=>ih i v x a b (hb x (zE b))
 |tup vs cs hl h ih=>unfold AV.under at hb;simp only[xM,xx,zV]at hb;exact .tup vs cs hl λi v x a b=>ih i v x a b (hb x (zE b))
 |fn f vs us xs ys hl h hl' h' ih ih'=>unfold AV.under at hb;simp only[xM,xx,zV,zX]at hb;exact .fn f vs us xs ys hl (λi v x a b=>ih i v x a b (hb.1 x (zE b))) hl' (λi v x a b=>ih' i v x a b (hb.2 x (zE b)))
 |vptr id off b hi hb'=>exact .vptr id off b (by simpa[AV.under]using hb) hb'
 |ept id c i off b hi hb'=>exact .ept id c i off b (by simpa[AV.under]using hb) hb'
 |sl id c lo len cap b t hi hb' hs hl hmax=>exact .sl id c lo len cap b t (by simpa[AV.under]using hb) hb' hs hl hmax
 |slnone id c hi hb'=>exact .slnone id c (by simpa[AV.under]using hb) hb'
 |slend id c lo a hi hlo=>exact .slend id c lo a (by simpa[AV.under]using hb) hlo
 |yld id b hi hb'=>exact .yld id b (by simpa[AV.under]using hb) hb'
 |mref id b hi hb'=>exact .mref id b (by simpa[AV.under]using hb) hb'
 |opt p x h1 h2 ih=>exact .opt p x (λe=>ih e (by simpa[AV.under]using hb)) h2
def Eo(n:Nat):AObj->Bool
 | .vars cs=>cs.all (AV.under n)
 | .tag id _=>decide (id<n)
 | .va _ _ xs=>xs.all (λx=>x.cells.all (AV.under n))
 | .lp _ _ _ sl _ _ _=>sl.all (λp=>p.2.under n)
 | .mv kvs=>kvs.all (λp=>p.2.under n)
 |_=>true
def I5{α:Type}:∀ {sl:List (Nat×α)} {t:Nat} {x:α},look sl t=some x->(t,x)∈sl
 |[],_,_,h=>by cases h
 |(s,y)::r,t,x,h=>by
  simp only[look]at h;split at h
  ·rename_i e;subst e;cases h;simp
  exact List.mem_cons_of_mem _ (I5 h)
def St.drop {C:Cx P} {a:Act} {w:World} {sl:List (Nat×AV)} {H G:List AObj} (hs:St C nt k ⟨sl,H++G⟩ a w) (hk:k<=H.length)
  (h1:sl.all (λp=>p.2.under H.length)=true) (h2:H.all (Eo H.length)=true):St C nt k ⟨sl,H⟩ a w:=by
 obtain⟨I,m,hw,z1,_,hf⟩:=hs;have ht:(H++G).take H.length=H:=by simp
 refine⟨I,m,?_,⟨z1.1,z1.2.1,λt x hx=>?_⟩,hk,hf⟩
 ·have:=hw.take H.length (λid cs hid v x hx hv=>?_) (λi id t hid=>?_) (λi rdy pend z8 sl' ps asg body hid t v x hx hv=>?_) (λi e c xs hid x hx v y hy hv=>?_) (λi kvs hid p hp v hv=>?_)
  ·rw[ht]at this;exact this
  ·rw[ht]at hid |-;have h3:=zV.1 h2 _ (zE hid);exact hv.under (zV.1 h3 x hx)
  ·rw[ht]at hid |-;have h3:=zV.1 h2 _ (zE hid);simpa[Eo]using h3
  ·rw[ht]at hid |-;have h3:=zV.1 h2 _ (zE hid);exact hv.under (zV.1 h3 _ (I5 hx))
  ·rw[ht]at hid |-;have h3:=zV.1 h2 _ (zE hid);simp only[Eo,zV]at h3;exact hv.under (h3 x hx y hy)
  rw[ht]at hid |-;have h3:=zV.1 h2 _ (zE hid);simp only[Eo,zV]at h3;exact hv.under (h3 p hp)
 obtain⟨v,hv,hr⟩:=z1.2.2 t x hx;refine⟨v,hv,hr.under ?_⟩;have:(t,x)∈sl:=I5 hx;exact zV.1 h1 _ this
def Ax {c:Code} {sl:List (Nat×AV)} {H:List AObj} (G:List AObj) (h:Ul P nt k c Q ⟨sl,H⟩) (hk:k<=H.length)
  (h1:sl.all (λp=>p.2.under H.length)=true) (h2:H.all (Eo H.length)=true):Ul P nt k c Q ⟨sl,H++G⟩:=
 λC a w hs=>h C a w (hs.drop hk h1 h2)
end
end
section
section
variable {P:Program} [Env P] {T:TT} {nt k:Nat} {Q:Exit->AS->Prop} {S:AS}
def Ps{α:Type}(t:Nat)(v:α):∀(l:List (Nat×α)) (s:Nat),look (put l t v) s=if s=t then some v else look l s
 |[],s=>by simp[put,look,eq_comm]
 |(k,u)::r,s=>by
  unfold put;split
  ·rename_i h;subst h;by_cases hs:s=k
   ·subst hs;simp[look]
   rw[if_neg hs];simp[look,show ¬k=s from λe=>hs e.symm]
  rename_i h;split
  ·by_cases hs:s=t
   ·subst hs;simp[look]
   rw[if_neg hs];simp[look,show ¬t=s from λe=>hs e.symm]
  simp only[look];rw[Ps t v r s];by_cases hs:s=t
  ·subst hs;simp[h]
  simp[hs]
def v1c(sl:List (Nat×AV))(d:Option Tmp)(x:AV):List (Nat×AV):=match d with
 |some t=>put sl t x
 |none=>sl
def E5.put {a:Act} {sl:List (Nat×AV)} {w w':World} {I I':Nat->Prop} {m m':Nat->Option Nat} {n n':Nat} (hs:E5 nt sl a w I m n) (hf:Fut n w I m w' I' m') (hn:n<=n')
  {d:Option Tmp} (hd:∀t,d=some t->t<nt) {v:Value} {x:AV} (hv:VR w' I' m' n' v x):
  E5 nt (v1c sl d x) (a.put d v) w' I' m' n':=by
 cases d with
 |none=>exact⟨hs.1,hs.2.1,λt y hy=>by obtain⟨u,hu,hr⟩:=hs.2.2 t y hy;exact⟨u,hu,hr.mono hf hn⟩⟩
 |some d=>
  refine⟨by simp[Act.put,hs.1],hs.2.1,λt y hy=>?_⟩;simp only[v1c,Ps]at hy;by_cases ht:t=d
  ·subst ht;rw[if_pos rfl]at hy;cases hy;exact⟨v,by simp[Act.put,hs.1,hd t rfl],hv⟩
  rw[if_neg ht]at hy;obtain⟨u,hu,hr⟩:=hs.2.2 t y hy;exact⟨u,by simp only[Act.put];rw[vg (λe=>ht e.symm)];exact hu,hr.mono hf hn⟩
def Ek(nt:Nat)(o:Oper):Bool:=match o.dst with
 |some t=>decide (t<nt)
 |none=>true
def Qs{o:Oper}(h:Ek nt o=true):∀t,o.dst=some t->t<nt:=λt ht=>by unfold Ek at h;rw[ht]at h;simpa using h
def g03(S:AS)(d:Option Tmp)(x:AV):S.putD d x=⟨v1c S.sl d x,S.hp⟩:=by cases d<;>rfl
def St.value {C:Cx P} {a:Act} {w w':World} {I I':Nat->Prop} {m m':Nat->Option Nat} {H':List AObj} (hs:E5 nt S.sl a w I m S.hp.length) (hk:k<=S.hp.length)
  (hE:FutC C k a w I m) (z1:WS C.W0 C.I0 w' I' m' H') (hf:Fut S.hp.length w I m w' I' m') (hn:S.hp.length<=H'.length)
  {d:Option Tmp} (hd:∀t,d=some t->t<nt) {v:Value} {x:AV} (hv:VR w' I' m' H'.length v x):St C nt k (({ S with hp:=H' }:AS).putD d x) (a.put d v) w':=by
 rw[g03];exact⟨I',m',z1,hs.put hf hn hd hv,by simp only;omega,hE.trans hk hf⟩
def Zu{ops:Array Oper}{a:Act}{w:World}{I:Nat->Prop}{m:Nat->Option Nat}{n:Nat}(hs:E5 nt S.sl a w I m n){o:Oper}{b:Bool}(h:Q9 ops S o=some b):
  Region.wanted o (yielded ops a.tmps)=b:=by
 unfold Q9 at h;unfold Region.wanted;split at h
 ·rename_i hg;simp only[Option.some.injEq]at h;subst h;simp[hg]
 rename_i j c hg;simp only[hg];split at h
 ·rename_i t ht;split at h
  ·rename_i p hp;simp only[Option.some.injEq]at h;subst h;obtain⟨v,hv,hr⟩:=hs.2.2 t _ hp;obtain rfl:=hr.bool_inv;simp only[yielded,ht,wq,hv];cases p<;>cases c<;>rfl
  ·rename_i q p hp;simp only[Option.some.injEq]at h;subst h;obtain⟨v,hv,hr⟩:=hs.2.2 t _ hp;simp only[yielded,ht,wq,hv];cases q
   ·rw[hr.opt_inv.2 rfl];rfl
   obtain rfl:=(hr.opt_inv.1 rfl).bool_inv;cases p<;>cases c<;>rfl
  ·rename_i hp;simp only[Option.some.injEq]at h;subst h;obtain⟨v,hv,hr⟩:=hs.2.2 t _ hp;simp only[yielded,ht,wq,hv];rw[hr.opt_inv.2 rfl];rfl
  ·rename_i hp;simp only[Option.some.injEq]at h;subst h;obtain⟨v,hv,hr⟩:=hs.2.2 t _ hp;obtain⟨vs,rfl,_⟩:=hr.tup_inv;simp only[yielded,ht,wq,hv];rfl
  cases h
 cases h
def S6(w:World)(I:Nat->Prop)(m:Nat->Option Nat)(n:Nat):VR w I m n undef (.tup []):= .pure (.tup #[] [] rfl (by simp))
def St.skip{C:Cx P}{a:Act}{w:World}(h:St C nt k S a w){d:Option Tmp}(hd:∀t,d=some t->t<nt):St C nt k (S.putD d (.tup [])) (a.put d undef) w:=by obtain⟨I,m,hw,hs,hk,hE⟩:=h;exact St.value hs hk hE hw (.refl _ _ _ _) (zR _) hd (S6 _ _ _ _)
def St.val(hT:TOk P T){C:Cx P}{a:Act}{w:World}(h:St C nt k S a w){o:Oper}(hd:Ek nt o=true){x:AV}(hv:Sk T S true o.op=some x):
  ∃v,(∀w',(T1 o.op=true->Tz w w')->(execOp a.eval o).run P w'= .ok (.value v) w')/\St C nt k (S.putD o.dst x) (a.put o.dst v) w:=by
 obtain⟨I,m,hw,hs,hk,hE⟩:=h;obtain⟨v,hv,z1⟩:=Hp hT hw hs rfl rfl hv;exact⟨v,z1,St.value hs hk hE hw (.refl _ _ _ _) (zR _) (Qs hd) hv⟩
def F6(c:Nat):∀(xs:List AV) (s:Nat) (zs:List AV),(∀x∈xs,x.isTop=false/\x.cells.length=c)->(s+xs.length) * c<=zs.length->
  ∃z1,J6 (λj=>some (j * c,c)) zs ((wK s xs.length).zip (xs.map some))=some z1/\z1.length=zs.length/\
   (∀(i:Nat) (x:AV),xs[i]?=some x->∀j,j<c->z1[(s+i) * c+j]? =x.cells[j]?)/\∀j,j<s * c->z1[j]? =zs[j]?
 |[],s,zs,_,_=>⟨zs,rfl,rfl,by simp,λ_ _=>rfl⟩
 |x::xs,s,zs,hx,hz=>by
  obtain⟨h1,h2⟩:=hx x (by simp);have z8:s * c+c<=zs.length:=by have:(s+1) * c<=(s+(x::xs).length) * c:=zZ c (by simp);rw[yA]at this;omega
  have e0:(s+1) * c=s * c+c:=by rw[yA,Nat.one_mul]
  obtain⟨z1,e1,e2,e3,e4⟩:=F6 c xs (s+1) (setCells zs (s * c) x.cells) (λy hy=>hx y (by simp[hy])) (by rw[Wo];simp only[yQ]at hz;rw[show s+1+xs.length=s+(xs.length+1) by omega];exact hz);refine⟨z1,?_,by rw[e2,Wo],λi y hi j hj=>?_,λj hj=>?_⟩
  ·simp only[yQ,wL,z_,vY,J6,h1,h2,z8,and_self,if_true];exact e1
  ·cases i with
   |zero=>
    simp only[xr,Option.some.injEq]at hi;subst hi;rw[wy,e4 _ (by omega),Rl _ _ _ _ (by omega),if_pos (by omega)]
    congr 1
    simp
   |succ i=>rw[show s+(i+1)=s+1+i by omega];exact e3 i y (by simpa using hi) j hj
  rw[e4 j (by omega),Rl _ _ _ _ (by omega),if_neg (by omega)]
def Fv(g:Operand->Option AV):∀(ps:List (Nat×Operand)) (xs:List AV) (s:Nat),Qy (ps.map λp=>g p.2)=some xs->ps.map (·.1)=wK s ps.length->
  (wK s xs.length).zip (xs.map some)=ps.map λ(i,x)=>(i,g x)
 |[],xs,s,h,_=>by simp only[yM,Qy,Option.some.injEq]at h;subst h;rfl
 |(i,x)::ps,xs,s,h,hr=>by
  simp only[z_]at h;cases hg:g x with
  |none=>rw[hg]at h;cases h
  |some y=>rw[hg]at h;obtain⟨ys,hy,rfl⟩:=zM.1 h;simp only[z_,yQ,wL,List.cons.injEq]at hr;obtain⟨rfl,hr⟩:=hr;simp only[yQ,wL,z_,vY,hg];rw[Fv g ps ys (i+1) hy hr]
def St.newSlice (hT:TOk P T) {C:Cx P} {a:Act} {w:World} (h:St C nt k S a w) {o:Oper} (hd:Ek nt o=true) {t e:TypeId} {len:Nat} {parts:Array (Nat×Operand)} (ho:o.op= .buildSlice t len parts)
  {it ei:TI} (ht:look T t=some it) (zd:it.desc= .slice e) (he:look T e=some ei) {xs:List AV} (ze:Qy (parts.toList.map λp=>rho S.sl p.2)=some xs)
  (h1:parts.toList.map (·.1)=xV len) (h2:0<ei.size/\len * ei.size<=16777216) (h3:xs.all (λx=>x.cells.length==ei.size && x.cells.all AV.leaf && x.cells.all AV.pure)=true):
  ∃v w',(execOp a.eval o).run P w= .ok (.value v) w'/\Below w.heap.size w w'/\St C nt k (({ S with hp:=S.hp++[.arr e ei.size xs] }:AS).putD o.dst (.sl S.hp.length ei.size 0 len)) (a.put o.dst v) w':=by
 obtain⟨I,m,hw,hs,hk,hE⟩:=h;obtain⟨zh,h2⟩:=h2;have zi:parts.toList.length=len:=by simpa using congrArg wU h1
 obtain⟨zn,zo⟩:=Rq (f:=λp:Nat×Operand=>rho S.sl p.2) ze;have z1:xs.length=len:=by omega
 have z8:∀x∈xs,x.isTop=false/\x.cells.length=ei.size/\x.cells.all AV.leaf=true/\x.cells.all AV.pure=true:=λx hx=>by
  have:=zV.1 h3 x hx;simp only[zX,beq_iff_eq]at this;obtain⟨⟨q1,q2⟩,q3⟩:=this;refine⟨?_,q1,q2,q3⟩;cases x with
  |top=>simp[AV.cells,AV.leaf]at q2
  |opt=>simp[AV.cells,AV.leaf]at q2
  |_=>rfl
 obtain⟨zf,f1,f2,f3,_⟩:=F6 ei.size xs 0 (zH (len * ei.size) .top) (λx hx=>⟨(z8 x hx).1,(z8 x hx).2.1⟩) (by simp[z1]);rw[vM]at f2;have hq:(wK 0 xs.length).zip (xs.map some)=parts.toList.map λ(i,x)=>(i,rho S.sl x):=
  Fv (rho S.sl) parts.toList xs 0 ze (by rw[h1,zi,vd])
 rw[hq]at f1;have zj:(parts.map λ(i,x)=>(i,a.eval x)).toList.length=(parts.toList.map λ(i,x)=>(i,rho S.sl x)).length:=by simp
 have build:∀(z:Array Value),z.size=len * ei.size->∃cells',Instr.fill (λj=>some (j * ei.size,ei.size)) z (parts.map λ(i,x)=>(i,a.eval x)).toList=some cells'/\cells'.size=zf.length/\
   ∀(j:Nat) (v:Value) (x:AV),cells'[j]?=some v->zf[j]?=some x->VR w I m S.hp.length v x:=λz hz=>
  Yc _ _ _ _ _ zj (Pk (g:=true) rfl hs parts) (by simp[hz]) (λj v x _ hx=>by
   rw[xt]at hx;split at hx
   ·cases hx;exact .pure (.top v)
   cases hx) f1
 obtain⟨z,hz,zb⟩:∃z:Array Value,z.size=len * ei.size/\∀cells',Instr.fill (λj=>some (j * ei.size,ei.size)) z (parts.map λ(i,x)=>(i,a.eval x)).toList=some cells'->
   (Instr.buildSlice t len (parts.map λ(i,x)=>(i,a.eval x))).run P w= .ok (.slice (some ⟨w.heap.size,0,none⟩) len len) (w.alloc (.cells cells' e)):=by
  by_cases h0:len * ei.size=0
  ·refine⟨#[],by simp[h0],λcells' hf=>?_⟩;have zk:∀f:Nat->Value,(vj (len * ei.size)).map f= #[]:=λf=>by rw[h0];simp
   simp only[Instr.buildSlice,Sem.run_bind,run_underlying (hT.und ht),zd,Result.andThen_ok,hT.size he,show ¬len * ei.size > 2 ^ 24 by omega,if_false,if_pos h0,Sem.run_pure,zk,hf];rfl
  refine⟨(vj (len * ei.size)).map (λx=>ei.zero.cells[x % ei.zero.cells.size]!),by simp,λcells' hf=>?_⟩;simp only[Instr.buildSlice,Sem.run_bind,run_underlying (hT.und ht),zd,Result.andThen_ok,hT.size he,show ¬len * ei.size > 2 ^ 24 by omega,if_false,h0,Sem.run_pure,hT.zero he,hf];rfl
 obtain⟨cells',c1,c2,c3⟩:=build z hz;have hb:Below w.heap.size w (w.alloc (.cells cells' e)):=(Below.refl _ _).alloc (zR _) _;have zc:cells'.size=len * ei.size:=by omega
 have za:len<=maxLen:=by have:len * 1<=len * ei.size:=vZ len zh;unfold maxLen;omega
 obtain⟨g1,g2⟩:=hw.push hb (some w.heap.size) (λb e=>by injection e with e;subst e;simp) (.arr e ei.size xs) (λm' hf hm=> .inr ⟨w.heap.size,len,cells',rfl,heap_alloc_new w _,by omega,za,zc,λx hx=>(z8 x hx).2.1,λi x hi j y hy=>by
  have zl:j<ei.size:=by have:=(zD.1 hy).1;rw[(z8 x (zE hi)).2.1]at this;exact this
  have zm:i<len:=by have:=(zD.1 hi).1;omega
  have zg:i * ei.size+j<cells'.size:=by rw[zc];have:(i+1) * ei.size<=len * ei.size:=zZ _ zm;rw[yA]at this;omega
  refine⟨_,yY zg,?_⟩;have h4:=f3 i x hi j zl;rw[yW,hy]at h4;exact((c3 _ _ y (yY zg) h4).toPure (zV.1 (z8 x (zE hi)).2.2.2 y (zE hy))).mono hf.ext⟩)
 refine⟨.slice (some ⟨w.heap.size,0,none⟩) len len,w.alloc (.cells cells' e),?_,hb,St.value hs hk hE g1 g2 (by simp) (Qs hd) ?_⟩
 ·simp only[execOp,ho];rw[Sem.run_bind,zb cells' c1];rfl
 have:=VR.sl (w:=w.alloc (.cells cells' e)) (I:=I) (m:=upd m S.hp.length (some w.heap.size)) (n:=(S.hp++[AObj.arr e ei.size xs]).length) S.hp.length ei.size 0 len len w.heap.size e (by simp) (Q6 _ _ _)
  (by simp only[World.shape?,heap_alloc_new,zc,yW]) (zR _) (by omega)
 simpa using this
def St.newSliceV (hT:TOk P T) {C:Cx P} {a:Act} {w:World} (h:St C nt k S a w) {o:Oper} (hd:Ek nt o=true) {t e:TypeId} {len:Nat} {parts:Array (Nat×Operand)} (ho:o.op= .buildSlice t len parts)
  {it ei:TI} (ht:look T t=some it) (zd:it.desc= .slice e) (he:look T e=some ei) {xs:List AV} (ze:Qy (parts.toList.map λp=>rho S.sl p.2)=some xs)
  (h1:parts.toList.map (·.1)=xV len) (h2:0<ei.size/\len * ei.size<=16777216) (h3:xs.all (λx=>x.cells.length==ei.size && x.cells.all AV.leaf)=true):
  ∃v w',(execOp a.eval o).run P w= .ok (.value v) w'/\Below w.heap.size w w'/\St C nt k (({ S with hp:=S.hp++[.va e ei.size xs] }:AS).putD o.dst (.sl S.hp.length ei.size 0 len)) (a.put o.dst v) w':=by
 obtain⟨I,m,hw,hs,hk,hE⟩:=h;obtain⟨zh,h2⟩:=h2;have zi:parts.toList.length=len:=by simpa using congrArg wU h1
 obtain⟨zn,zo⟩:=Rq (f:=λp:Nat×Operand=>rho S.sl p.2) ze;have z1:xs.length=len:=by omega
 have za:∀x∈xs,x.isTop=false/\x.cells.length=ei.size/\x.cells.all AV.leaf=true:=λx hx=>by
  have:=zV.1 h3 x hx;simp only[zX,beq_iff_eq]at this;obtain⟨q1,q2⟩:=this;refine⟨?_,q1,q2⟩;cases x with
  |top=>simp[AV.cells,AV.leaf]at q2
  |opt=>simp[AV.cells,AV.leaf]at q2
  |_=>rfl
 obtain⟨zf,f1,f2,f3,_⟩:=F6 ei.size xs 0 (zH (len * ei.size) .top) (λx hx=>⟨(za x hx).1,(za x hx).2.1⟩) (by simp[z1]);rw[vM]at f2;have hq:(wK 0 xs.length).zip (xs.map some)=parts.toList.map λ(i,x)=>(i,rho S.sl x):=
  Fv (rho S.sl) parts.toList xs 0 ze (by rw[h1,zi,vd])
 rw[hq]at f1;have zj:(parts.map λ(i,x)=>(i,a.eval x)).toList.length=(parts.toList.map λ(i,x)=>(i,rho S.sl x)).length:=by simp
 have build:∀(z:Array Value),z.size=len * ei.size->∃cells',Instr.fill (λj=>some (j * ei.size,ei.size)) z (parts.map λ(i,x)=>(i,a.eval x)).toList=some cells'/\cells'.size=zf.length/\
   ∀(j:Nat) (v:Value) (x:AV),cells'[j]?=some v->zf[j]?=some x->VR w I m S.hp.length v x:=λz hz=>
  Yc _ _ _ _ _ zj (Pk (g:=true) rfl hs parts) (by simp[hz]) (λj v x _ hx=>by
   rw[xt]at hx;split at hx
   ·cases hx;exact .pure (.top v)
   cases hx) f1
 obtain⟨z,hz,zb⟩:∃z:Array Value,z.size=len * ei.size/\∀cells',Instr.fill (λj=>some (j * ei.size,ei.size)) z (parts.map λ(i,x)=>(i,a.eval x)).toList=some cells'->
   (Instr.buildSlice t len (parts.map λ(i,x)=>(i,a.eval x))).run P w= .ok (.slice (some ⟨w.heap.size,0,none⟩) len len) (w.alloc (.cells cells' e)):=by
  by_cases h0:len * ei.size=0
  ·refine⟨#[],by simp[h0],λcells' hf=>?_⟩;have zk:∀f:Nat->Value,(vj (len * ei.size)).map f= #[]:=λf=>by rw[h0];simp
   simp only[Instr.buildSlice,Sem.run_bind,run_underlying (hT.und ht),zd,Result.andThen_ok,hT.size he,show ¬len * ei.size > 2 ^ 24 by omega,if_false,if_pos h0,Sem.run_pure,zk,hf];rfl
  refine⟨(vj (len * ei.size)).map (λx=>ei.zero.cells[x % ei.zero.cells.size]!),by simp,λcells' hf=>?_⟩;simp only[Instr.buildSlice,Sem.run_bind,run_underlying (hT.und ht),zd,Result.andThen_ok,hT.size he,show ¬len * ei.size > 2 ^ 24 by omega,if_false,h0,Sem.run_pure,hT.zero he,hf];rfl
 obtain⟨cells',c1,c2,c3⟩:=build z hz;have hb:Below w.heap.size w (w.alloc (.cells cells' e)):=(Below.refl _ _).alloc (zR _) _;have zc:cells'.size=len * ei.size:=by omega
 have z8:len<=maxLen:=by have:len * 1<=len * ei.size:=vZ len zh;unfold maxLen;omega
 obtain⟨g1,g2⟩:=hw.push hb (some w.heap.size) (λb e=>by injection e with e;subst e;simp) (.va e ei.size xs) (λm' hf hm=> .inr ⟨w.heap.size,len,cells',rfl,heap_alloc_new w _,by omega,z8,zc,λx hx=>(za x hx).2.1,λi x hi j y hy=>by
  have zl:j<ei.size:=by have:=(zD.1 hy).1;rw[(za x (zE hi)).2.1]at this;exact this
  have zm:i<len:=by have:=(zD.1 hi).1;omega
  have zg:i * ei.size+j<cells'.size:=by rw[zc];have:(i+1) * ei.size<=len * ei.size:=zZ _ zm;rw[yA]at this;omega
  refine⟨_,yY zg,?_⟩;have h4:=f3 i x hi j zl;rw[yW,hy]at h4;exact(c3 _ _ y (yY zg) h4).mono hf (by omega)⟩)
 refine⟨.slice (some ⟨w.heap.size,0,none⟩) len len,w.alloc (.cells cells' e),?_,hb,St.value hs hk hE g1 g2 (by simp) (Qs hd) ?_⟩
 ·simp only[execOp,ho];rw[Sem.run_bind,zb cells' c1];rfl
 have:=VR.sl (w:=w.alloc (.cells cells' e)) (I:=I) (m:=upd m S.hp.length (some w.heap.size)) (n:=(S.hp++[AObj.va e ei.size xs]).length) S.hp.length ei.size 0 len len w.heap.size e (by simp) (Q6 _ _ _)
  (by simp only[World.shape?,heap_alloc_new,zc,yW]) (zR _) (by omega)
 simpa using this
def St.valG(hT:TOk P T){C:Cx P}{a:Act}{w:World}(h:St C nt k S a w){o:Oper}(hd:Ek nt o=true){g:Bool}(hg:g=true){x:AV}(hv:Sk T S g o.op=some x):
  ∃v,(∀w',(T1 o.op=true->Tz w w')->(execOp a.eval o).run P w'= .ok (.value v) w')/\St C nt k (S.putD o.dst (.opt g x)) (a.put o.dst v) w:=by
 obtain⟨I,m,hw,hs,hk,hE⟩:=h;obtain⟨v,hv,z1⟩:=Hp hT hw hs rfl hg hv;exact⟨v,z1,St.value hs hk hE hw (.refl _ _ _ _) (zR _) (Qs hd) (.opt g x (λ_=>hv) (λe=>by rw[hg]at e;cases e))⟩
def St.skipG{C:Cx P}{a:Act}{w:World}(h:St C nt k S a w){d:Option Tmp}(hd:∀t,d=some t->t<nt){g:Bool}(hg:g=false)(x:AV):St C nt k (S.putD d (.opt g x)) (a.put d undef) w:=by obtain⟨I,m,hw,hs,hk,hE⟩:=h;exact St.value hs hk hE hw (.refl _ _ _ _) (zR _) hd (.opt g x (λe=>by rw[hg]at e;cases e) (λ_=>rfl))
def St.new(hT:TOk P T){C:Cx P}{a:Act}{w:World}(h:St C nt k S a w){o:Oper}(hd:Ek nt o=true){x:AV}{ob:AObj}(hv:w1e T S o.op=some (x,ob)):
  ∃v w',(execOp a.eval o).run P w= .ok (.value v) w'/\Below w.heap.size w w'/\St C nt k (({ S with hp:=S.hp++[ob] }:AS).putD o.dst x) (a.put o.dst v) w':=by
 obtain⟨I,m,hw,hs,hk,hE⟩:=h;have key:∀(t:TypeId) (vs:Array Value) (cs:List AV),vs.size=cs.length->(∀(j:Nat) (v:Value) (x:AV),vs[j]?=some v->cs[j]?=some x->VR w I m S.hp.length v x)->
   St C nt k (({ S with hp:=S.hp++[.vars cs] }:AS).putD o.dst (.vptr S.hp.length 0)) (a.put o.dst (.pointer (some ⟨w.heap.size,0,none⟩))) (w.alloc (.cells vs t)):=λt vs cs hl hr=>by
  have hb:Below w.heap.size w (w.alloc (.cells vs t)):=(Below.refl _ _).alloc (zR _) _;obtain⟨h1,h2⟩:=hw.push hb (some w.heap.size) (λb e=>by injection e with e;subst e;simp) (.vars cs) (λm' hf hm=>⟨w.heap.size,t,vs,rfl,heap_alloc_new w _,hl,λj v x a b=>(hr j v x a b).mono hf (by omega)⟩);exact St.value hs hk hE h1 h2 (by simp) (Qs hd) (.vptr _ _ _ (by simp) (Q6 _ _ _))
 unfold w1e at hv;split at hv
 ·rename_i t ho;split at hv
  ·rename_i i hi;simp only[Option.some.injEq,Prod.mk.injEq]at hv;obtain⟨rfl,rfl⟩:=hv;obtain⟨z1,z2⟩:=Fz (w:=w) (I:=I) (m:=m) (n:=S.hp.length) i;refine⟨_,_,?_,(Below.refl _ _).alloc (zR _) _,key t i.zero.cells i.zeros z1 z2⟩;simp[execOp,ho,Instr.alloc,hT.zero hi,newVar,newRow]
  cases hv
 ·rename_i t y ho;split at hv
  ·rename_i i z hi hy;split at hv
   ·rename_i hc;simp only[Option.some.injEq,Prod.mk.injEq]at hv;obtain⟨rfl,rfl⟩:=hv;obtain⟨z1,z2⟩:=Oo (Qu hs hy) hc.1;refine⟨_,_,?_,(Below.refl _ _).alloc (zR _) _,key t (a.eval y).cells z.cells z1 z2⟩;simp[execOp,ho,Instr.box,newVar,newRow]
   cases hv
  cases hv
 ·rename_i t len parts ho;split at hv
  ·rename_i e _ _ _ _ ht;split at hv
   ·rename_i ei he;split at hv
    ·rename_i xs z8;split at hv
     ·rename_i hc;simp only[Option.some.injEq,Prod.mk.injEq]at hv;obtain⟨rfl,rfl⟩:=hv;exact St.newSlice hT ⟨I,m,hw,hs,hk,hE⟩ hd ho ht rfl he z8 hc.1 hc.2.1 hc.2.2
     split at hv
     ·rename_i hc;simp only[Option.some.injEq,Prod.mk.injEq]at hv;obtain⟨rfl,rfl⟩:=hv;exact St.newSliceV hT ⟨I,m,hw,hs,hk,hE⟩ hd ho ht rfl he z8 hc.1 hc.2.1 hc.2.2
     cases hv
    cases hv
   cases hv
  cases hv
 cases hv
end
end
section
section
variable {P:Program} [Env P] {T:TT} {nt k:Nat} {Q:Exit->AS->Prop} {S:AS}
def q0s(l news:List Value)(off j:Nat)(h:off+news.length<=l.length):
  (l.take off++news++l.drop (off+news.length))[j]? =if off<=j/\j<off+news.length then news[j - off]? else l[j]? :=by
 have h1:(l.take off).length=off:=by simp;omega
 by_cases a:j<off
 ·rw[if_neg (by omega),List.append_assoc,zK (by omega),yJ,if_pos a]
 by_cases b:j<off+news.length
 ·rw[if_pos ⟨by omega,b⟩,zK (by simp;omega),zF (by omega),h1]
 rw[if_neg (by omega),zF (by simp;omega),yX]
 congr 1
 simp;omega
def Jn(l news:List Value)(off:Nat)(h:off+news.length<=l.length):(l.take off++news++l.drop (off+news.length)).length=l.length:=by simp;omega
def spl(vs:Array Value)(off:Nat)(new:Array Value):Array Value:=(vs.toList.take off++new.toList++vs.toList.drop (off+new.toList.length)).toArray
def Tm(vs:Array Value)(off:Nat)(new:Array Value)(h:off+new.size<=vs.size):(spl vs off new).size=vs.size:=by have:=Jn vs.toList new.toList off (by simpa using h);rw[wv]at this;simpa[spl]using this
def Oz(vs:Array Value)(off:Nat)(new:Array Value)(j:Nat)(h:off+new.size<=vs.size):(spl vs off new)[j]? =if off<=j/\j<off+new.size then new[j - off]? else vs[j]? :=by have:=q0s vs.toList new.toList off j (by simpa using h);simp only[wv,vH]at this;rw[<-this];simp[spl]
def Yo (hT:TOk P T) {t:TypeId} {i:TI} (hi:look T t=some i) {v:Value} (hv:v.cells.size=i.size) {g off:Nat} {e:TypeId} {cur:Array Value} {w:World} (hg:w.heap[g]?=some (.cells cur e (0,0)))
  (z1:off+v.cells.size<=cur.size) (h1:∀u∈v.cells.toList,u.oneCell'=true):
  (Instr.storeAt t (.pointer (some ⟨g,off,none⟩)) v).run P w= .ok () (w.setRow g (spl cur off v.cells)):=by
 have:=run_storeCells_at P g off e v.cells.toList 0 cur w hg (by simpa using z1) h1;simp only[wy]at this;simp[Instr.storeAt,Instr.sureAddr,storeVar,hT.size hi,hv,this,spl]
def Ee(w:World)(g:Nat)(cs:Array Value):w.grownBy (w.setRow g cs) (some g):=
 ⟨rfl,rfl,rfl,by simp,λk _ hk=>setRow_other w g k cs (λe=>hk (by rw[e]))⟩
def Ri{w:World}{g:Nat}{cur cs:Array Value}{e:TypeId}(hg:w.heap[g]?=some (.cells cur e (0,0)))(hs:cs.size=cur.size):∀s,w.shape? g=some s->(w.setRow g cs).shape? g=some s:=by
 intro s h;have h1:w.shape? g=some (e,cur.size):=by simp[World.shape?,hg]
 rw[h1]at h;cases h;simp[World.shape?,setRow_heap w g cur cs e _ hg,hs]
def Ij{y y':AV}{off:Nat}{new:List AV}(h:y.withCells off new=some y')(hl:off+new.length<=y.cells.length)(hn:new.all AV.leaf=true):y'.cells=setCells y.cells off new:=by
 unfold AV.withCells at h;split at h
 ·simp only[Option.some.injEq]at h;subst h;rfl
 rename_i hy;have z1:y.cells=[y]:=by cases y<;>first|rfl|exact absurd rfl (hy _)
 split at h
 ·rename_i x;simp only[Option.some.injEq]at h;subst h;rw[z1]at hl |-;simp at hl;subst hl;have:x.leaf=true:=by simpa using hn
  have hx:x.cells=[x]:=by cases x<;>first|rfl|(simp[AV.leaf]at this)
  rw[hx];rfl
 cases h
def Y4{w:World}{I:Nat->Prop}{m:Nat->Option Nat}{n:Nat}{v:Value}{x:AV}(h:VR w I m n v x)(hl:x.cells.all AV.leaf=true):
  v.cells.size=x.cells.length/\(∀u∈v.cells.toList,u.oneCell'=true)/\∀(j:Nat) (u:Value) (y:AV),v.cells[j]?=some u->x.cells[j]?=some y->VR w I m n u y:=by
 have ht:x.isTop=false:=by
  cases x with
  |top=>simp[AV.cells,AV.leaf]at hl
  |opt=>simp[AV.cells,AV.leaf]at hl
  |_=>rfl
 obtain⟨h1,h2⟩:=Oo h ht;refine⟨h1,λu hu=>?_,h2⟩;obtain⟨j,hj,rfl⟩:=List.mem_iff_getElem.1 hu;simp only[wv]at hj;have hx:j<x.cells.length:=by omega
 exact(h2 j _ _ (by simp[hj]) (zG hx)).oneCell (zV.1 hl _ (by simp))
def St.store (hT:TOk P T) {C:Cx P} {a:Act} {w:World} (h:St C nt k S a w) {o:Oper} (hd:Ek nt o=true) {t:TypeId} {p x:Operand} (ho:o.op= .store t p x) {H':List AObj}
  (hv:Vt T S t (rho S.sl p) (rho S.sl x)=some H'):
  ∃w',(execOp a.eval o).run P w= .ok .skip w'/\St C nt k (({ S with hp:=H' }:AS).putD o.dst (.tup [])) (a.put o.dst undef) w':=by
 obtain⟨I,m,hw,hs,hk,hE⟩:=h;unfold Vt at hv;split at hv
 ·rename_i i id off y hi hp hx;split at hv
  ·rename_i cs z8;split at hv
   ·rename_i hc;obtain⟨zl,zm,zb⟩:=hc;simp only[Option.some.injEq]at hv;subst hv;obtain⟨b,hb,hn,zf⟩:=(Qu hs hp).vptr_inv;obtain⟨b',e,vs,za,hh,hl,hr⟩:=hw.obj id _ z8;obtain rfl:b=b':=by rw[hb]at za;exact Option.some.inj za
    obtain⟨l1,l2,l3⟩:=Y4 (Qu hs hx) zb;have z1:=Yo hT hi (v:=a.eval x) (by omega) (off:=off) hh (by omega) l2;obtain⟨h1,h2⟩:=hw.set (o':= .vars (setCells cs off y.cells)) (w':=w.setRow b (spl vs off (a.eval x).cells)) z8 rfl hb (Ee _ _ _)
     (Ri hh (Tm _ _ _ (by omega)))
     (λm' hf=>⟨b,e,_,rfl,setRow_heap w b vs _ e _ hh,by rw[Tm _ _ _ (by omega),Wo,hl],λj v z hv hz=>by
       rw[Oz _ _ _ _ (by omega)]at hv;rw[Rl _ _ _ _ (by omega)]at hz;by_cases hj:off<=j/\j<off+y.cells.length
       ·rw[if_pos hj]at hz;rw[if_pos (by omega)]at hv;exact(l3 (j - off) v z hv hz).mono hf (zR _)
       rw[if_neg hj]at hz;rw[if_neg (by omega)]at hv;exact(hr j v z hv hz).mono hf (zR _)⟩)
    refine⟨_,?_,St.value hs hk hE h1 h2 (by simp) (Qs hd) (S6 _ _ _ _)⟩;simp[execOp,ho,zf,z1]
   cases hv
  cases hv
 ·rename_i i id c q off y hi hp hx;split at hv
  ·rename_i e c' xs z8;split at hv
   ·rename_i z hz;split at hv
    ·rename_i hc;obtain⟨rfl,zl,zm,zb,zn⟩:=hc;obtain⟨b,hb,hn,zf⟩:=(Qu hs hp).ept_inv;rcases hw.obj id _ z8 with⟨_,rfl⟩|⟨b',cap,vs,za,hh,q1,q2,q3,q4,hr⟩
     ·simp at hz
     obtain rfl:b=b':=by rw[hb]at za;exact Option.some.inj za
     obtain⟨l1,l2,l3⟩:=Y4 (Qu hs hx) zb;have zg:z.cells.length=c:=q4 z (zE hz);have hq:q<xs.length:=(zD.1 hz).1;have zo:q * c+c<=vs.size:=by rw[q3];have:(q+1) * c<=cap * c:=zZ c (by omega);rw[yA]at this;omega
     have z1:=Yo hT hi (v:=a.eval x) (by omega) (off:=q * c+off) hh (by omega) l2;obtain⟨z',zi,hv⟩:=zM.1 hv;subst hv;have zc:=Ij zi (by omega) zb;have zp:∀q' j,q'<cap->j<c->q' * c+j<vs.size:=λq' j h1 h2=>by rw[q3];have:(q'+1) * c<=cap * c:=zZ c (by omega);rw[yA]at this;omega
     obtain⟨h1,h2⟩:=hw.set (o':= .arr e c (xs.set q z')) (w':=w.setRow b (spl vs (q * c+off) (a.eval x).cells)) z8 rfl hb (Ee _ _ _)
      (Ri hh (Tm _ _ _ (by omega)))
      (λm' hf=> .inr ⟨b,cap,_,rfl,setRow_heap w b vs _ e _ hh,by simpa using q1,q2,by rw[Tm _ _ _ (by omega),q3],λu hu=>by
        rcases vy hu with hu|rfl
        ·exact q4 u hu
        ·rw[zc,Wo,zg],λj u hu jj v hv=>by
        rw[Oz _ _ _ _ (by omega)];by_cases hjq:j=q
        ·subst hjq;rw[zJ hq]at hu;cases hu;have zj:jj<c:=by have:=(zD.1 hv).1;rw[zc,Wo,zg]at this;exact this
         rw[zc,Rl _ _ _ _ (by omega)]at hv;by_cases hjo:off<=jj/\jj<off+y.cells.length
         ·rw[if_pos hjo]at hv;rw[if_pos (by omega)];have zh:jj - off<(a.eval x).cells.size:=by omega
          refine⟨_,(by rw[show j * c+jj - (j * c+off)=jj - off by omega];exact yY zh),?_⟩;exact((l3 (jj - off) _ v (yY zh) hv).toPure (zV.1 zn _ (zE hv))).mono hf.ext
         rw[if_neg hjo]at hv;rw[if_neg (by omega)];obtain⟨r,zd,ze⟩:=hr j z hz jj v hv;exact⟨r,zd,ze.mono hf.ext⟩
        rw[zI (by omega)]at hu;obtain⟨r,zd,ze⟩:=hr j u hu jj v hv;have zj:jj<c:=by have:=(zD.1 hv).1;rw[q4 u (zE hu)]at this;exact this
        have zk:¬(q * c+off<=j * c+jj/\j * c+jj<q * c+off+(a.eval x).cells.size):=by
         rintro⟨e1,e2⟩;rcases ub hjq with h|h
         ·have:(j+1) * c<=q * c:=zZ c (by omega);rw[yA]at this;omega
         have:(q+1) * c<=j * c:=zZ c (by omega);rw[yA]at this;omega
        rw[if_neg zk];exact⟨r,zd,ze.mono hf.ext⟩⟩)
     refine⟨_,?_,St.value hs hk hE h1 h2 (by simp) (Qs hd) (S6 _ _ _ _)⟩;simp[execOp,ho,zf,z1]
    cases hv
   cases hv
  ·rename_i e c' xs z8;split at hv
   ·rename_i z hz;split at hv
    ·rename_i hc;obtain⟨rfl,zl,zm,zb⟩:=hc;obtain⟨b,hb,hn,zf⟩:=(Qu hs hp).ept_inv;rcases hw.obj id _ z8 with⟨_,rfl⟩|⟨b',cap,vs,za,hh,q1,q2,q3,q4,hr⟩
     ·simp at hz
     obtain rfl:b=b':=by rw[hb]at za;exact Option.some.inj za
     obtain⟨l1,l2,l3⟩:=Y4 (Qu hs hx) zb;have zg:z.cells.length=c:=q4 z (zE hz);have hq:q<xs.length:=(zD.1 hz).1;have zo:q * c+c<=vs.size:=by rw[q3];have:(q+1) * c<=cap * c:=zZ c (by omega);rw[yA]at this;omega
     have z1:=Yo hT hi (v:=a.eval x) (by omega) (off:=q * c+off) hh (by omega) l2;obtain⟨z',zi,hv⟩:=zM.1 hv;subst hv;have zc:=Ij zi (by omega) zb;have zp:∀q' j,q'<cap->j<c->q' * c+j<vs.size:=λq' j h1 h2=>by rw[q3];have:(q'+1) * c<=cap * c:=zZ c (by omega);rw[yA]at this;omega
     obtain⟨h1,h2⟩:=hw.set (o':= .va e c (xs.set q z')) (w':=w.setRow b (spl vs (q * c+off) (a.eval x).cells)) z8 rfl hb (Ee _ _ _)
      (Ri hh (Tm _ _ _ (by omega)))
      (λm' hf=> .inr ⟨b,cap,_,rfl,setRow_heap w b vs _ e _ hh,by simpa using q1,q2,by rw[Tm _ _ _ (by omega),q3],λu hu=>by
        rcases vy hu with hu|rfl
        ·exact q4 u hu
        ·rw[zc,Wo,zg],λj u hu jj v hv=>by
        rw[Oz _ _ _ _ (by omega)];by_cases hjq:j=q
        ·subst hjq;rw[zJ hq]at hu;cases hu;have zj:jj<c:=by have:=(zD.1 hv).1;rw[zc,Wo,zg]at this;exact this
         rw[zc,Rl _ _ _ _ (by omega)]at hv;by_cases hjo:off<=jj/\jj<off+y.cells.length
         ·rw[if_pos hjo]at hv;rw[if_pos (by omega)];have zh:jj - off<(a.eval x).cells.size:=by omega
          refine⟨_,(by rw[show j * c+jj - (j * c+off)=jj - off by omega];exact yY zh),?_⟩;exact(l3 (jj - off) _ v (yY zh) hv).mono hf (zR _)
         rw[if_neg hjo]at hv;rw[if_neg (by omega)];obtain⟨r,zd,ze⟩:=hr j z hz jj v hv;exact⟨r,zd,ze.mono hf (zR _)⟩
        rw[zI (by omega)]at hu;obtain⟨r,zd,ze⟩:=hr j u hu jj v hv;have zj:jj<c:=by have:=(zD.1 hv).1;rw[q4 u (zE hu)]at this;exact this
        have zk:¬(q * c+off<=j * c+jj/\j * c+jj<q * c+off+(a.eval x).cells.size):=by
         rintro⟨e1,e2⟩;rcases ub hjq with h|h
         ·have:(j+1) * c<=q * c:=zZ c (by omega);rw[yA]at this;omega
         have:(q+1) * c<=j * c:=zZ c (by omega);rw[yA]at this;omega
        rw[if_neg zk];exact⟨r,zd,ze.mono hf (zR _)⟩⟩)
     refine⟨_,?_,St.value hs hk hE h1 h2 (by simp) (Qs hd) (S6 _ _ _ _)⟩;simp[execOp,ho,zf,z1]
    cases hv
   cases hv
  cases hv
 cases hv
end
end
section
def Tz.trans{a b c:World}(h:Tz a b)(h':Tz b c):Tz a c:=λx hx=>by
 have h1:=h x hx;have hb:x<b.heap.size:=by
  rcases wa x b.heap.size with h2|h2
  ·exact h2
  rw[wi h2,yY hx]at h1;cases h1
 exact(h' x hb).trans h1
def Tz.of_below{w w':World}(h:Below w.heap.size w w'):Tz w w':=λb hb=>h.block b hb
def OpW(P:Program)(ops:Array Oper)(o:Oper)(K:Act->World->Prop)(Q:Exit->Act->World->Prop)(a:Act)(w:World):Prop:=
 if Region.wanted o (yielded ops a.tmps)then wpA P o a w K Q else K (a.put o.dst undef) w
def Wu(P:Program)[Env P](nt k:Nat)(wr:Bool)(ops:Array Oper)(o:Oper)(S:AS)(R:AS->Prop):Prop:=
 ∀(C:Cx P) (a:Act) (w:World) (K:Act->World->Prop) (Q:Exit->Act->World->Prop),St C nt k S a w->
  (∀S' a' w',R S'->St C nt k S' a' w'->(wr=false->Tz w w')->K a' w')->OpW P ops o K Q a w
def isVal:Op->Bool
 | .move _| .assign _| .pick .. | .load .. | .nilCheck _| .binOp .. | .unOp .. | .convert .. | .build .. | .makeFunc .. | .slice .. | .fieldAddr .. | .field .. | .indexAddr .. | .index .. | .extract .. =>true
 | .call ⟨.builtin .len,_,_⟩| .call ⟨.builtin .max,_,_⟩| .call ⟨.builtin .min,_,_⟩=>true
 |_=>false
def Ih:Op->Bool
 | .alloc _| .box .. | .buildSlice .. | .store .. =>true
 |op=>isVal op
def Au:Op->Bool
 | .store .. =>true
 |_=>false
def f0y(P:Program)[Env P](T:TT)(nt k:Nat)(ops:Array Oper)(W:Nat->Bool)(Q:AS->Prop):List Nat->AS->Prop
 |[],S=>Q S
 |i::is,S=>match ops[i]? with
  |none=>False
  |some o=>if Ih o.op then(match Sv T ops S o with
    |some S'=>(Au o.op=true->W i=true)/\f0y P T nt k ops W Q is S'
    |none=>False)
   else Wu P nt k (W i) ops o S (f0y P T nt k ops W Q is)
def Sa(P:Program)(ops:Array Oper)(Wr:List Nat)(Q:Exit->Act->World->Prop):Nat->Array Bool->Act->World->Prop
 |0,listed,a,w=>Region.ready .any ops listed=[]/\Q .normal a w
 |fuel+1,listed,a,w=>
  (Region.ready .any ops listed=[]->Q .normal a w)/\
  ∀i∈Region.ready .any ops listed,Pc P ops Q i (λa' w'=>(Wr.contains i=false->Tz w w')/\Sa P ops Wr Q fuel (listed.setIfInBounds i true) a' w') a w
section
variable {P:Program} [Env P] {ops:Array Oper} {Q:Exit->Act->World->Prop} {Wr:List Nat}
def Iy{ρ:Option Nat}:∀(fuel:Nat) (listed:Array Bool) (a:Act) (w:World),Sa P ops Wr Q fuel listed a w->wpAnyIn (FW ρ) 0 P .any ops Q fuel listed a w
 |0,_,_,_,h=>h
 |fuel+1,_,_,_,h=>⟨h.1,λi hi=>wpOpIn_mono (λa' w' h'=>Iy fuel _ a' w' h'.2) (v00 (h.2 i hi))⟩
def Ut(ops:Array Oper)(listed:Array Bool):Prop:=∀(j:Nat) (o:Oper),ops[j]?=some o->listed.getD j true=true->∀e∈o.after,Region.binds .any e=true->listed.getD e.on false=true
def Ut.set{ops:Array Oper}{listed:Array Bool}(h:Ut ops listed){i:Nat}(hi:i∈Region.ready .any ops listed):Ut ops (listed.setIfInBounds i true):=λj o ho hj e he hb=>by
 by_cases hij:i=j
 ·subst hij;obtain⟨_,o',z8,z1⟩:=mem_ready.1 hi;rw[ho]at z8;cases z8;exact getD_set_true (z1 e he hb)
 rw[getD_set_ne true hij]at hj;exact getD_set_true (h j o ho hj e he hb)
def y1s(o:Oper):List Nat:=(o.after.toList.filter (Region.binds .any)).map (·.on)
def Yu:List Oper->List (List Nat)->List (List Nat)
 |[],acc=>acc
 |o::r,acc=>Yu r (acc++[((y1s o).flatMap λe=>e::acc.getD e []).eraseDups])
def g0c(ops:Array Oper)(listed:Array Bool)(j:Nat)(l:List Nat):Prop:=
 ∀o,ops[j]?=some o->(∀e∈o.after,Region.binds .any e=true->listed.getD e.on false=true)->∀i∈l,listed.getD i false=true
def Kt{ops:Array Oper}{listed:Array Bool}(hc:Ut ops listed):∀(l:List Oper) (acc:List (List Nat)),ops.toList.drop acc.length=l->(∀(j:Nat) (x:List Nat),acc[j]?=some x->g0c ops listed j x)->
  ∀(j:Nat) (x:List Nat),(Yu l acc)[j]?=some x->g0c ops listed j x
 |[],acc,_,h=>h
 |o::l,acc,hl,h=>by
  unfold Yu;have ho:ops[acc.length]?=some o:=by have:=congrArg (·[0]?) hl;simpa using this
  refine Kt hc l _ (by rw[zL,vL,<-List.drop_drop,hl];rfl) (λj x hj=>?_);rcases ug j acc.length with h1|h1|h1
  ·rw[zK h1]at hj;exact h j x hj
  ·subst h1;rw[zF (zR _)]at hj;simp only[Nat.sub_self,xr,Option.some.injEq]at hj;subst hj;intro o' za z1 i hi;rw[ho]at za;cases za;rw[List.mem_eraseDups,List.mem_flatMap]at hi;obtain⟨e,he,hi⟩:=hi;simp only[y1s,List.mem_map,List.mem_filter]at he;obtain⟨ed,⟨zc,zd⟩,rfl⟩:=he;have z8:=z1 ed (by simpa using zc) zd;rcases y_.1 hi with rfl|hi
   ·exact z8
   cases hx:acc[ed.on]? with
   |none=>rw[wB,hx]at hi;simp at hi
   |some x=>
    rw[wB,hx]at hi;obtain⟨oe,zb⟩:∃oe,ops[ed.on]?=some oe:=by have h1:ed.on<acc.length:=(zD.1 hx).1;have h2:acc.length<ops.size:=(xl.1 ho).1;exact⟨_,yY (by omega)⟩
    have ze:listed.getD ed.on true=true:=by
     rcases wa ed.on listed.size with h'|h'
     ·simp[h']at z8 |-;exact z8
     simp[wi h']
    exact h ed.on x hx oe zb (hc ed.on oe zb ze) i (by simpa using hi)
  have:=(zD.1 hj).1;simp at this;omega
def waits(ops:Array Oper)(j i:Nat):Bool:=((Yu ops.toList []).getD j []).contains i
def X5{ops:Array Oper}{listed:Array Bool}(hc:Ut ops listed){i j:Nat}(hj:j∈Region.ready .any ops listed)(hi:listed.getD i false=false):waits ops j i=false:=by
 obtain⟨_,o,ho,z1⟩:=mem_ready.1 hj;cases hw:waits ops j i with
 |false=>rfl
 |true=>
  unfold waits at hw;rw[wB]at hw;cases hx:(Yu ops.toList [])[j]? with
  |none=>rw[hx]at hw;simp at hw
  |some x=>rw[hx]at hw;have:=Kt hc ops.toList [] (by simp) (by simp) j x hx o ho z1 i (by simpa using hw);rw[hi]at this;cases this
def Ie {i:Nat} {oi:Oper} {v:Value} (hi:ops[i]?=some oi) (za:∀(j:Nat) (o:Oper) cs b,ops[j]?=some o->o.op≠ .select cs b)
  (hQ:∀c a w,Q (.panic c) (a.put oi.dst v) w->Q (.panic c) a w) (Sh:World->World->Prop) (zf:∀w,Sh w w) (zh:∀a b c,Sh a b->Sh b c->Sh a c):
  ∀(fuel:Nat) (listed:Array Bool) (a:Act) (w:World),
   (∀j oj,ops[j]?=some oj->j≠i->listed.getD j true=false->waits ops j i=false->oi.apart ops oj=true/\∀w w':World,(Wr.contains j=false->Tz w w')->Sh w w')->
   Ut ops listed->i∈Region.ready .any ops listed->YieldsIf P ops (Sh w) oi v a->
   Sa P ops Wr Q fuel (listed.setIfInBounds i true) (a.put oi.dst v) w->Sa P ops Wr Q (fuel+1) listed a w:=by
 intro fuel;induction fuel with
 |zero=>
  intro listed a w _ zc hr hy H;refine⟨λh=>(by rw[h]at hr;cases hr),λj hj=>?_⟩;by_cases hji:j=i
  ·subst hji;exact Se hi hy (zf w) ⟨λ_=>Tz.refl w,H⟩
  have:=ready_mono hj hji;rw[H.1]at this;cases this
 |succ fuel ih=>
  intro listed a w z1 zc hr hy H;refine⟨λh=>(by rw[h]at hr;cases hr),λj hj=>?_⟩;by_cases hji:j=i
  ·subst hji;exact Se hi hy (zf w) ⟨λ_=>Tz.refl w,H⟩
  have h1:=H.2 j (ready_mono hj hji);obtain⟨zb,oj,zd,zi⟩:=mem_ready.1 hj;have zj:listed.getD i false=false:=by
   have h0:=(mem_ready.1 hr).1;rcases wa i listed.size with h'|h'
   ·simp[h']at h0 |-;exact h0
   simp[wi h']
  have ze:waits ops j i=false:=X5 zc hj zj;obtain⟨zk,zl⟩:=z1 j oj zd hji zb ze;have h2:=Cd zd zk (λcs b=>za i oi cs b hi) (λcs b=>za j oj cs b zd) hQ hy h1;have z8:∀k ok,ops[k]?=some ok->k≠i->(listed.setIfInBounds j true).getD k true=false->
    waits ops k i=false->oi.apart ops ok=true/\∀w w':World,(Wr.contains k=false->Tz w w')->Sh w w':=λk ok hk zm zg zn=>by
   refine z1 k ok hk zm ?_ zn;by_cases hjk:j=k
   ·subst hjk;exact zb
   rw[getD_set_ne true hjk]at zg;exact zg
  refine q0d (λa' w' h3=>⟨h3.2.1,?_⟩) h2;have zo:Sh w w':=zl w w' h3.2.1;refine ih (listed.setIfInBounds j true) a' w' z8 (zc.set hj) (ready_mono hr (Ne.symm hji)) ?_ ?_
  ·rcases h3.1 with⟨e1,e2⟩|h4
   ·exact .inl ⟨e1,λw'' zp=>e2 w'' (zh _ _ _ zo zp)⟩
   exact .inr h4
  rw[Array.setIfInBounds_comm _ _ hji];exact h3.2.2
end
def Hi(ops:Array Oper)(cl:List (List Nat))(Wr:List Nat)(listed:Array Bool)(i:Nat):Bool:=
 match ops[i]? with
 |none=>false
 |some oi=>(xV ops.size).all λj=>j==i || listed.getD j true || (cl.getD j []).contains i || match ops[j]? with
  |some oj=>oi.apart ops oj && (!T1 oi.op || !Wr.contains j)
  |none=>true
def Xu(ops:Array Oper)(cl:List (List Nat))(Wr:List Nat):List Nat->Array Bool->Bool
 |[],listed=>(Region.ready .any ops listed).isEmpty
 |i::is,listed=>(match ops[i]? with
   |none=>false
   |some o=>if isVal o.op then Hi ops cl Wr listed i && (Region.ready .any ops listed).contains i
    else Region.ready .any ops listed==[i]) && Xu ops cl Wr is (listed.setIfInBounds i true)
def Yh(nt:Nat)(l:List Oper):Bool:=l.all (Ek nt)
end
section
section
variable {P:Program} [Env P] {T:TT} {nt k:Nat} {S:AS} {ops:Array Oper} {o:Oper} {R:AS->Prop} {Wr:List Nat}
def St.wanted{C:Cx P}{a:Act}{w:World}(h:St C nt k S a w){b:Bool}(hw:Q9 ops S o=some b):Region.wanted o (yielded ops a.tmps)=b:=by obtain⟨I,m,_,hs,_⟩:=h;exact Zu hs hw
def y0u(hv:isVal o.op=true){S':AS}(h:Sv T ops S o=some S'):(o.guard=none/\∃x,Sk T S true o.op=some x/\S'=S.putD o.dst x)\/
  (∃g x,Q9 ops S o=some g/\Sk T S g o.op=some x/\S'=S.putD o.dst (.opt g x))\/(Q9 ops S o=some false/\S'=S.putD o.dst (.tup [])):=by
 unfold Sv at h;split at h
 ·rename_i ho;rw[ho]at hv;simp[isVal]at hv
 ·rename_i ho;rw[ho]at hv;simp[isVal]at hv
 ·rename_i ho;rw[ho]at hv;simp[isVal]at hv
 ·rename_i ho;rw[ho]at hv;simp[isVal]at hv
 split at h
 ·rename_i hg;split at h
  ·rename_i x hx;simp only[Option.some.injEq]at h;exact .inl ⟨hg,x,hx,h.symm⟩
  cases h
 split at h
 ·rename_i g hw;split at h
  ·rename_i x hx;simp only[Option.some.injEq]at h;exact .inr (.inl ⟨g,x,hw,hx,h.symm⟩)
  split at h
  ·rename_i z1;subst z1;simp only[Option.some.injEq]at h;exact .inr (.inr ⟨hw,h.symm⟩)
  cases h
 cases h
def X7(hg:o.guard=none)(f:Nat->Option Bool):Region.wanted o f=true:=by simp[Region.wanted,hg]
def St.yields(hT:TOk P T){C:Cx P}{a:Act}{w:World}(h:St C nt k S a w)(hd:Ek nt o=true)(hv:isVal o.op=true){S':AS}(hS:Sv T ops S o=some S'):
  ∃v,YieldsIf P ops (λw'=>T1 o.op=true->Tz w w') o v a/\St C nt k S' (a.put o.dst v) w:=by
 rcases y0u hv hS with⟨hg,x,hx,rfl⟩|⟨g,x,hw,hx,rfl⟩|⟨hw,rfl⟩
 ·obtain⟨v,z1,hs⟩:=h.val hT hd hx;exact⟨v,.inl ⟨X7 hg _,λw' hh=>z1 w' hh⟩,hs⟩
 ·cases g with
  |true=>obtain⟨v,z1,hs⟩:=h.valG hT hd rfl hx;exact⟨v,.inl ⟨h.wanted hw,λw' hh=>z1 w' hh⟩,hs⟩
  |false=>exact⟨undef,.inr ⟨h.wanted hw,rfl⟩,h.skipG (Qs hd) rfl x⟩
 exact⟨undef,.inr ⟨h.wanted hw,rfl⟩,h.skip (Qs hd)⟩
def Wp{wr:Bool}(hw:Q9 ops S o=some false)(hd:Ek nt o=true)(hR:R (S.putD o.dst (.tup []))):Wu P nt k wr ops o S R:=λC a w K Q hs hK=>by unfold OpW;rw[if_neg (by rw[hs.wanted hw];simp)];exact hK _ _ w hR (hs.skip (Qs hd)) (λ_=>Tz.refl w)
def I3(hT:TOk P T){wr:Bool}{S':AS}(h:Sv T ops S o=some S')(hd:Ek nt o=true)(zc:Au o.op=true->wr=true)(hv:Ih o.op=true)(hR:R S'):Wu P nt k wr ops o S R:=λC a w K Q hs hK=>by
 by_cases hval:isVal o.op=true
 ·obtain⟨v,hy,zb⟩:=hs.yields hT hd hval h;unfold OpW;rcases hy with⟨hw,z8⟩|⟨hw,rfl⟩
  ·rw[if_pos hw];unfold wpA;rw[z8 w (λ_=>Tz.refl w)];exact hK S' _ w hR zb (λ_=>Tz.refl w)
  rw[if_neg (by rw[hw];simp)];exact hK S' _ w hR zb (λ_=>Tz.refl w)
 have z1:Q9 ops S o=some false->some (S.putD o.dst (.tup []))=some S'->OpW P ops o K Q a w:=λhw h=>by simp only[Option.some.injEq]at h;subst h;unfold OpW;rw[if_neg (by rw[hs.wanted hw];simp)];exact hK _ _ w hR (hs.skip (Qs hd)) (λ_=>Tz.refl w)
 have za:Q9 ops S o=some true->∀x ob,w1e T S o.op=some (x,ob)->some (({ S with hp:=S.hp++[ob] }:AS).putD o.dst x)=some S'->OpW P ops o K Q a w:=λhw x ob hn h=>by simp only[Option.some.injEq]at h;subst h;obtain⟨v,w',z8,hb,zb⟩:=hs.new hT hd hn;unfold OpW;rw[if_pos (hs.wanted hw)];unfold wpA;rw[z8];exact hK _ _ _ hR zb (λ_=>Tz.of_below hb)
 unfold Sv at h;split at h
 ·rename_i t p x ho;split at h
  ·rename_i hw;split at h
   ·rename_i H' zd;simp only[Option.some.injEq]at h;subst h;obtain⟨w',z8,zb⟩:=hs.store hT hd ho zd;unfold OpW;rw[if_pos (hs.wanted hw)];unfold wpA;rw[z8];exact hK _ _ w' hR zb (λe=>by rw[zc (by rw[ho];rfl)]at e;cases e)
   cases h
  ·rename_i hw;exact z1 hw h
  cases h
 ·split at h
  ·rename_i hw;split at h
   ·rename_i x ob hn;exact za hw x ob hn h
   cases h
  ·rename_i hw;exact z1 hw h
  cases h
 ·split at h
  ·rename_i hw;split at h
   ·rename_i x ob hn;exact za hw x ob hn h
   cases h
  ·rename_i hw;exact z1 hw h
  cases h
 ·split at h
  ·rename_i hw;split at h
   ·rename_i x ob hn;exact za hw x ob hn h
   cases h
  ·rename_i hw;exact z1 hw h
  cases h
 rename_i n1 n2 n3 n4;exact absurd hv (by
  unfold Ih;split
  ·rename_i e;exact absurd e (n2 _)
  ·rename_i e;exact absurd e (n3 _ _)
  ·rename_i e;exact absurd e (n4 _ _ _)
  ·rename_i e;exact absurd e (n1 _ _ _)
  exact hval)
def w0a{P:Program}[Env P](C:Cx P)(nt k:Nat)(R:AS->Prop):Exit->Act->World->Prop
 | .normal,a,w=>∃S,R S/\St C nt k S a w
 |_,_,_=>False
def Kf {i:Nat} {oi:Oper} {listed:Array Bool} (hi:ops[i]?=some oi) (hf:Hi ops (Yu ops.toList []) Wr listed i=true) (j:Nat) (oj:Oper)
  (hj:ops[j]?=some oj) (z8:j≠i) (za:listed.getD j true=false) (z1:waits ops j i=false):
  oi.apart ops oj=true/\∀w w':World,(Wr.contains j=false->Tz w w')->(λa b=>T1 oi.op=true->Tz a b) w w':=by
 unfold Hi at hf;simp only[hi]at hf;have h1:=zV.1 hf j (List.mem_range.2 (xl.1 hj).1);unfold waits at z1;simp only[hj,yE,beq_iff_eq,z8,false_or,za,wF,z1,zX,Bool.not_eq_true']at h1;refine⟨h1.1,λw w' hh hr=>hh ?_⟩;rcases h1.2 with h2|h2
 ·rw[hr]at h2;cases h2
 exact h2
def J5(hT:TOk P T){C:Cx P}(hd:Yh nt ops.toList=true)(za:Region.noSelect ops=true):∀(is:List Nat) (listed:Array Bool) (S:AS) (a:Act) (w:World),Ut ops listed->Xu ops (Yu ops.toList []) Wr is listed=true->f0y P T nt k ops Wr.contains R is S->St C nt k S a w->
  Sa P ops Wr (w0a C nt k R) is.length listed a w
 |[],listed,S,a,w,_,hp,h,hs=>⟨by simpa[Xu]using hp,S,h,hs⟩
 |i::is,listed,S,a,w,zb,hp,h,hs=>by
  unfold Xu at hp;unfold f0y at h;rw[zX]at hp;obtain⟨z1,ze⟩:=hp;cases ho:ops[i]? with
  |none=>rw[ho]at h;exact h.elim
  |some o=>
   rw[ho]at h z1;simp only at h z1;have zf:Ek nt o=true:=zV.1 hd o (by simpa using wS ho);split at z1
   ·rename_i hv;have zg:Ih o.op=true:=by cases hop:o.op<;>rw[hop]at hv<;>first|rfl|exact hv|(simp[isVal]at hv)
    rw[if_pos zg]at h;rw[zX]at z1;obtain⟨hf,hr⟩:=z1;have z8:i∈Region.ready .any ops listed:=by simpa using hr
    split at h
    ·rename_i S' zc;obtain⟨v,hy,zd⟩:=hs.yields hT zf hv zc;exact Ie ho (Region.noSelect_spec za) (λc a w hq=>hq) (λx y=>T1 o.op=true->Tz x y) (λw _=>Tz.refl w) (λx y z h1 h2 hr=>(h1 hr).trans (h2 hr)) is.length listed a w
      (λj oj hj zh zi zj=>Kf ho hf j oj hj zh zi zj) zb z8 hy (J5 hT hd za is _ S' _ w (zb.set z8) ze h.2 zd)
    exact h.elim
   rename_i hv;have z8:Region.ready .any ops listed=[i]:=by simpa using z1
   have zk:i∈Region.ready .any ops listed:=by rw[z8];simp
   have key:Wu P nt k (Wr.contains i) ops o S (f0y P T nt k ops Wr.contains R is):=by
    split at h
    ·split at h
     ·rename_i S' zc;exact I3 hT zc zf h.1 (by assumption) h.2
     exact h.elim
    exact h
   refine⟨λh0=>(by rw[z8]at h0;cases h0),λj hj=>?_⟩;rw[z8]at hj;obtain rfl:j=i:=by simpa using hj
   have:=key C a w (λa' w'=>(Wr.contains j=false->Tz w w')/\Sa P ops Wr (w0a C nt k R) is.length (listed.setIfInBounds j true) a' w') (w0a C nt k R) hs
    (λS' a' w' hR zd hh=>⟨hh,J5 hT hd za is _ S' a' w' (zb.set zk) ze hR zd⟩)
   unfold Pc;rw[ho];exact this
def z0s{C:Cx P}{Q:Exit->AS->Prop}:∀(e:Exit) (a:Act) (w:World),w0a C nt k (Q .normal) e a w->Pst C nt k Q e a w
 | .normal,_,_,⟨S,h1,h2⟩=>⟨S,h1,h2⟩
 | .exit _,_,_,h=>h.elim
 | .goto _,_,_,h=>h.elim
 | .ret,_,_,h=>h.elim
 | .panic _,_,_,h=>h.elim
 | .outgrown,_,_,h=>h.elim
def S1{C:Cx P}{Q:Exit->AS->Prop}{c:Code}{a:Act}{w:World}{ρ:Option Nat}(h:c.wpIn (FW ρ) 0 P (w0a C nt k (Q .normal)) a w):c.wpIn (FW ρ) 0 P (Pst C nt k Q) a w:=wpIn_mono h z0s
def R7 (hT:TOk P T) (hm:P.follows .mixedOrders=true) {Q:Exit->AS->Prop} {id:Nat} {l:List Oper} (Wr is:List Nat) (hd:Yh nt l=true)
  (hp:(Region.noSelect l.toArray && is.length==l.length && Xu l.toArray (Yu l []) Wr is (wD l.length false))=true)
  (h:f0y P T nt k l.toArray Wr.contains (Q .normal) is S):AWP P nt k (.region id l.toArray true) Q S:=λC a w hs=>by
 simp only[zX,beq_iff_eq]at hp;obtain⟨⟨h1,h2⟩,h3⟩:=hp;refine S1 (wpIn_region_any hm (Iy (Wr:=Wr) _ _ _ _ ?_));have zb:St C nt k S a { w with drawn:=w.drawn+1 }:=by
  obtain⟨I,m,hw,z1,hk,hE⟩:=hs;have hb:Below w.heap.size w { w with drawn:=w.drawn+1 }:=⟨rfl,rfl,rfl,zR _,λ_ _=>rfl⟩
  obtain⟨g1,g2⟩:=hw.step hb (λ_ h=>h) (λb z8=>⟨(hw.iw b z8).1,.inl z8⟩);exact⟨I,m,g1,⟨z1.1,z1.2.1,λt x hx=>by obtain⟨v,hv,hr⟩:=z1.2.2 t x hx;exact⟨v,hv,hr.mono g2 (zR _)⟩⟩,hk,hE.trans hk g2⟩
 have:=J5 hT (C:=C) (nt:=nt) (k:=k) (R:=Q .normal) (by simpa using hd) h1 is (wD l.length false) S a _ (λj o ho hj=>by
  have za:=(xl.1 ho).1;simp at za;simp[za]at hj) (by simpa using h3) h zb
 rw[h2]at this;simpa using this
end
end
section
def Te(P:Program)(f:FuncId):Prop:=∃fn,P.funcs[f]?=some fn/\fn.body.isNone=false/\(fn.name== "runtime.NumGoroutine")=false
def PC(P:Program)[Env P](f:FuncId)(args:List AV)(R:AV->Prop):Prop:=
 Te P f/\∀(w:World) (I:Nat->Prop) (vals:Array Value),EOK P w I->(∀b,I b->b<w.heap.size)->vals.size=args.length->
  (∀(i:Nat) (v:Value) (x:AV),vals[i]?=some v->args[i]?=some x->PVR w I v x)->
  Calls P f vals w λe w'=>∃(v:Value) (I':Nat->Prop) (r:AV),R r/\e= .returned v/\Below w.heap.size w w'/\(∀b,I b->I' b)/\
   (∀b,I' b->b<w'.heap.size/\(I b\/w.heap.size<=b))/\PVR w' I' v r
def FR(P:Program)[Env P](f:FuncId)(args:List AV)(e:TypeId)(c:Nat)(R:List AV->Prop):Prop:=
 Te P f/\∀(w:World) (I:Nat->Prop) (vals:Array Value),EOK P w I->(∀b,I b->b<w.heap.size)->vals.size=args.length->
  (∀(i:Nat) (v:Value) (x:AV),vals[i]?=some v->args[i]?=some x->PVR w I v x)->
  Calls P f vals w λen w'=>∃(v:Value) (I':Nat->Prop) (xs:List AV) (b? :Option Nat) (m:Nat->Option Nat),R xs/\en= .returned v/\Below w.heap.size w w'/\(∀b,I b->I' b)/\
   (∀b,I' b->b<w'.heap.size/\(I b\/w.heap.size<=b))/\(∀b,b? =some b->w.heap.size<=b/\b<w'.heap.size/\¬I' b)/\
   m 0=b? /\VR w' I' m 1 v (.sl 0 c 0 xs.length)/\Uq w' I' m 1 b? (.arr e c xs)
def FC(P:Program)[Env P](f:FuncId)(args:List AV)(H:List AObj)(R:AV->List AObj->Prop):Prop:=
 Te P f/\∀(W0:World) (I0:Nat->Prop) (w:World) (I:Nat->Prop) (m:Nat->Option Nat) (vals:Array Value),EOK P W0 I0->WS W0 I0 w I m H->vals.size=args.length->
  (∀(i:Nat) (v:Value) (x:AV),vals[i]?=some v->args[i]?=some x->VR w I m H.length v x)->
  Calls P f vals w λe w'=>∃(v:Value) (r:AV) (H':List AObj) (I':Nat->Prop) (m':Nat->Option Nat),R r H'/\e= .returned v/\WS W0 I0 w' I' m' H'/\H.length<=H'.length/\
   Fut H.length w I m w' I' m'/\VR w' I' m' H'.length v r
def PC.mono{P:Program}[Env P]{f:FuncId}{args:List AV}{R R':AV->Prop}(h:PC P f args R)(hr:∀r,R r->R' r):PC P f args R':=
 ⟨h.1,λw I vals e a b c=>(h.2 w I vals e a b c).mono λ_ _ ⟨v,I',r,h1,h2⟩=>⟨v,I',r,hr r h1,h2⟩⟩
def FC.mono{P:Program}[Env P]{f:FuncId}{args:List AV}{H:List AObj}{R R':AV->List AObj->Prop}(h:FC P f args H R)(hr:∀r H',R r H'->R' r H'):FC P f args H R':=
 ⟨h.1,λW0 I0 w I m vals e a b c=>(h.2 W0 I0 w I m vals e a b c).mono λ_ _ ⟨v,r,H',I',m',h1,h2⟩=>⟨v,r,H',I',m',hr r H' h1,h2⟩⟩
section
variable {P:Program} [Env P] {T:TT} {nt k:Nat} {S:AS} {ops:Array Oper} {o:Oper} {R:AS->Prop}
def x0d{a:Act}{w:World}{cf:Operand}{args:Array Operand}{ts:Array TypeId}(ho:o.op= .call ⟨.value cf,args,ts⟩){f:FuncId}{fs cs:Array Value}(hf:a.eval cf= .func (.func f) fs cs)(hc:Te P f):
  (execOp a.eval o).run P w= .ok (.enter f (fs++args.map a.eval++cs)) w:=by
 obtain⟨fn,h1,h2,h3⟩:=hc;have z1:¬fn.name= "runtime.NumGoroutine" :=by simpa using h3
 simp[execOp,ho,resolve,hf,Deferred.ofValue,invoke,callFunc,h1,z1];exact λhb=>absurd h2 (by simp[hb])
def Yr(S:AS):Op->Option (FuncId×List AV)
 | .call c=>match c.callee with
  | .value cf=>match rho S.sl cf,Qy (c.args.toList.map (rho S.sl))with
   |some (.fn (.func f) fs cs),some xs=>some (f,fs++xs++cs)
   |_,_=>none
  |_=>none
 |_=>none
def To{a:Act}{w:World}{I:Nat->Prop}{m:Nat->Option Nat}{n:Nat}(hs:E5 nt S.sl a w I m n){f:FuncId}{xs:List AV}(h:Yr S o.op=some (f,xs))(hc:Te P f):
  ∃vals:Array Value,(execOp a.eval o).run P w= .ok (.enter f vals) w/\vals.size=xs.length/\∀(i:Nat) (v:Value) (x:AV),vals[i]?=some v->xs[i]?=some x->VR w I m n v x:=by
 unfold Yr at h;split at h
 ·rename_i c z1;obtain⟨callee,args,ts⟩:=c;simp only at h;split at h
  ·rename_i cf;split at h
   ·rename_i f' fs cs ys h1 h2;simp only[Option.some.injEq,Prod.mk.injEq]at h;obtain⟨rfl,rfl⟩:=h;obtain⟨vs,us,he,e1,e2,e3,e4⟩:=(Qu hs h1).fn_inv;obtain⟨e5,e6⟩:=Jh (g:=true) rfl hs h2;refine⟨vs++args.map a.eval++us,x0d z1 he hc,by simp only[xq,zL];omega,λi v x hv hx=>?_⟩;rw[vI]at hv;rw[yH]at hx;simp only[xq,zL]at hv hx;by_cases c1:i<vs.size+(args.map a.eval).size
    ·rw[if_pos c1]at hv;rw[if_pos (by omega)]at hx;rw[vI]at hv;rw[yH]at hx;by_cases c2:i<vs.size
     ·rw[if_pos c2]at hv;rw[if_pos (by omega)]at hx;exact e2 i v x hv hx
     rw[if_neg c2]at hv;rw[if_neg (by omega),<-e1]at hx;exact e6 _ v x hv hx
    rw[if_neg c1]at hv;rw[if_neg (by omega),<-e1,<-e5]at hx;exact e4 _ v x hv hx
   cases h
  cases h
 cases h
def AV.nrm1:AV->AV
 | .nils=> .list []
 |x=>x
def AV.nrm:AV->AV
 | .nils=> .list []
 | .agg cs=> .agg (cs.map AV.nrm1)
 | .fn f xs ys=> .fn f (xs.map AV.nrm1) (ys.map AV.nrm1)
 |x=>x
def PVR.nrm1{w:World}{I:Nat->Prop}{v:Value}{x:AV}(h:PVR w I v x):PVR w I v x.nrm1:=by
 cases x with
 |nils=>cases h;exact .list none 0 0 0 [] (λ_ _=>undef) rfl (by simp) (by unfold maxLen;omega) (by simp) (λh0=>by simp at h0) (by simp)
 |_=>exact h
def Fo{w:World}{I:Nat->Prop}{vs:Array Value}{cs:List AV}(h:∀(i:Nat) (v:Value) (x:AV),vs[i]?=some v->cs[i]?=some x->PVR w I v x)(i:Nat)(v:Value)(x:AV)(hv:vs[i]?=some v)(hx:(cs.map AV.nrm1)[i]?=some x):PVR w I v x:=by
 rw[zU]at hx;cases hc:cs[i]? with
 |none=>rw[hc]at hx;cases hx
 |some y=>rw[hc]at hx;cases hx;exact(h i v y hv hc).nrm1
def PVR.nrm{w:World}{I:Nat->Prop}{v:Value}{x:AV}(h:PVR w I v x):PVR w I v x.nrm:=by
 cases x with
 |nils=>exact h.nrm1
 |agg cs=>cases h with|agg vs _ hl h=>exact .agg vs _ (by simpa using hl) (Fo h)
 |fn f xs ys=>cases h with|fn _ vs us _ _ hl h hl' h'=>exact .fn f vs us _ _ (by simpa using hl) (Fo h) (by simpa using hl') (Fo h')
 |_=>exact h
def Bi {w:World} {I:Nat->Prop} {m:Nat->Option Nat} {n:Nat} {vals:Array Value} {xs:List AV} (hv:∀(i:Nat) (v:Value) (x:AV),vals[i]?=some v->xs[i]?=some x->VR w I m n v x) (hp:xs.all AV.pure=true)
  (i:Nat) (v:Value) (x:AV) (a:vals[i]?=some v) (b:(xs.map AV.nrm)[i]?=some x):PVR w I v x:=by
 rw[zU]at b;cases hc:xs[i]? with
 |none=>rw[hc]at b;cases b
 |some y=>rw[hc]at b;cases b;exact((hv i v y a hc).toPure (zV.1 hp y (zE hc))).nrm
def Ui {wr:Bool} (hw:Q9 ops S o=some true) {f:FuncId} {xs:List AV} (h:Yr S o.op=some (f,xs)) (hp:xs.all AV.pure=true) {Rf:AV->Prop} (hc:PC P f (xs.map AV.nrm) Rf) (hd:Ek nt o=true)
  (hR:∀r,Rf r->R (S.putD o.dst r)):Wu P nt k wr ops o S R:=λC a w K Q hs hK=>by
 unfold OpW;rw[if_pos (hs.wanted hw)];obtain⟨I,m,z1,zb,hk,hE⟩:=hs;obtain⟨vals,z8,hl,hv⟩:=To zb h hc.1;unfold wpA;rw[z8];refine(hc.2 w I vals (C.hE.go z1.below z1.i0) (λb hb=>(z1.iw b hb).1) (by simpa using hl) (Bi hv hp)).mono ?_;rintro e w' ⟨v,I',r,hr,rfl,hb,za,hI,zc⟩;obtain⟨g1,g2⟩:=z1.step hb za hI;exact hK _ _ w' (hR r hr) (St.value zb hk hE g1 g2 (zR _) (Qs hd) (.pure zc)) (λ_=>Tz.of_below hb)
def AV.flat:AV->Bool
 | .bool _| .int _ _| .str _| .nils| .nilp| .nilf| .nili| .ifc| .top=>true
 | .agg cs=>cs.attach.all λ⟨x,_⟩=>x.flat
 | .tup cs=>cs.attach.all λ⟨x,_⟩=>x.flat
 |_=>false
def PVR.flat{w w':World}{I I':Nat->Prop}{v:Value}{x:AV}(h:PVR w I v x)(hf:x.flat=true):PVR w' I' v x:=by
 induction h with
 |top v=>exact .top v
 |bool b=>exact .bool b
 |int k n=>exact .int k n
 |str s=>exact .str s
 |nils=>exact .nils
 |nilp=>exact .nilp
 |nilf=>exact .nilf
 |nili=>exact .nili
 |ifc t u=>exact .ifc t u
 |list=>simp[AV.flat]at hf
 |agg vs cs hl h ih=>unfold AV.flat at hf;simp only[xM,xx,zV]at hf;exact .agg vs cs hl λi v x a b=>ih i v x a b (hf x (zE b))
 |tup vs cs hl h ih=>unfold AV.flat at hf;simp only[xM,xx,zV]at hf;exact .tup vs cs hl λi v x a b=>ih i v x a b (hf x (zE b))
 |fn=>simp[AV.flat]at hf
 |iptr=>simp[AV.flat]at hf
def Q7(H:List AObj):AV->Option AV
 | .sl id c lo len=>match H[id]? with
  |some (.arr _ c' xs)=>if c=c'/\lo+len<=xs.length then some (.list ((xs.drop lo).take len))else none
  |_=>none
 | .nils=>some (.list [])
 |x=>if x.pure then some x else none
def Wn(H:List AObj):AV->Option AV
 | .vptr id off=>match H[id]? with
  |some (.vars cs)=>(Qy (cs.map (Q7 H))).map λys=> .iptr (ys.drop off)
  |_=>none
 | .ept id c i off=>match H[id]? with
  |some (.arr _ c' xs)=>if c=c' then(xs[i]?).map (λx=> .iptr (x.cells.drop off))else none
  |_=>none
 |x=>Q7 H x
def Er(H:List AObj):AV->Option AV
 | .agg cs=>(Qy (cs.map (Wn H))).map .agg
 | .fn f xs ys=>match Qy (xs.map (Wn H)),Qy (ys.map (Wn H))with
  |some xs,some ys=>some (.fn f xs ys)
  |_,_=>none
 |x=>Wn H x
def Tb(H:List AObj):AV->Option AV
 | .tup cs=>(Qy (cs.map (Er H))).map .tup
 |x=>Er H x
section
variable {W0 w:World} {I0 I:Nat->Prop} {m:Nat->Option Nat} {H:List AObj}
def Mt(I:Nat->Prop)(m:Nat->Option Nat)(H:List AObj)(b:Nat):Prop:=I b\/∃(id:Nat) (o:AObj),H[id]?=some o/\o.live=true/\m id=some b
def Jy:Ext w w I (Mt I m H):=⟨λ_ h=> .inl h,λ_ _=>rfl⟩
def Ox(hw:WS W0 I0 w I m H){v:Value}{x y:AV}(hv:VR w I m H.length v x)(h:Q7 H x=some y):PVR w (Mt I m H) v y:=by
 have gen:(if x.pure=true then some x else none)=some y->PVR w (Mt I m H) v y:=λh=>by
  split at h
  ·rename_i hp;simp only[Option.some.injEq]at h;subst h;exact(hv.toPure hp).mono Jy
  cases h
 cases x with
 |sl id c lo len=>
  simp only[Q7]at h;split at h
  ·rename_i e c' xs ho;split at h
   ·rename_i hc;obtain⟨rfl,hl⟩:=hc;simp only[Option.some.injEq]at h;subst h;have hlen:((xs.drop lo).take len).length=len:=by simp;omega
    rcases hv.sl_inv with⟨b,cap,t,hb,hn,hs,hl',hmax,rfl⟩|⟨hb,hn,rfl,rfl,rfl⟩|⟨ad,hn,hlo,rfl,rfl⟩
    ·rcases hw.obj id _ ho with⟨e1,rfl⟩|⟨b',z1,vs,z8,hh,q1,q2,q3,q4,hr⟩
     ·rw[hb]at e1;cases e1
     obtain rfl:b=b':=by rw[hb]at z8;exact Option.some.inj z8
     refine .list _ _ _ c _ (λi j=>vs.getD ((lo+i) * c+j) undef) (by omega) (by omega) (by omega) (λx hx=>q4 x (wd (xL hx))) (λ_=>⟨_,rfl,λ_=> .inr ⟨id,_,ho,rfl,hb⟩,λi j hi hj=>?_⟩) (λi x hx j z hz=>?_)
     ·rw[hlen]at hi;rw[Addr.add_lit,cell_of_row w b _ vs e (0,0) hh,yA];have za:(lo+i) * c+j<vs.size:=by rw[q3];have:(lo+i+1) * c<=z1 * c:=zZ c (by omega);rw[yA (lo+i)]at this;omega
      rw[yA]at za;rw[show lo * c+(i * c+j)=lo * c+i * c+j by omega];simp[za]
     rw[yJ]at hx;split at hx
     ·rw[yX]at hx;obtain⟨v,hv,hp⟩:=hr (lo+i) x hx j z hz;simp only[xN,hv,xQ];exact hp.mono Jy
     cases hx
    ·refine .list _ _ _ c _ (λ_ _=>undef) (by omega) (by omega) (by unfold maxLen;omega) (λx hx=>by simp at hx) (λh0=>by simp at h0) (λi x hx=>by simp at hx)
    refine .list _ _ _ c _ (λ_ _=>undef) (by omega) (by omega) (by unfold maxLen;omega) (λx hx=>by simp at hx) (λh0=>by simp at h0) (λi x hx=>by simp at hx)
   cases h
  cases h
 |nils=>simp only[Q7,Option.some.injEq]at h;subst h;exact((hv.toPure (by simp[AV.pure])).nrm1).mono Jy
 |_=>exact gen h
def Uf {f:AV->Option AV} (hf:∀(v:Value) (x y:AV),VR w I m H.length v x->f x=some y->PVR w (Mt I m H) v y) {vs:Array Value} {cs ys:List AV} (hl:vs.size=cs.length)
  (hr:∀(i:Nat) (v:Value) (x:AV),vs[i]?=some v->cs[i]?=some x->VR w I m H.length v x) (h:Qy (cs.map f)=some ys):
  vs.size=ys.length/\∀(i:Nat) (v:Value) (x:AV),vs[i]?=some v->ys[i]?=some x->PVR w (Mt I m H) v x:=by
 obtain⟨h1,h2⟩:=Rq h;refine⟨by omega,λi v y hv hy=>?_⟩;have hi:i<cs.length:=by have:=(zD.1 hy).1;omega
 have hx:=zG hi;exact hf v _ y (hr i v _ hv hx) (h2 i _ y hx hy)
def Yn(hw:WS W0 I0 w I m H){v:Value}{x y:AV}(hv:VR w I m H.length v x)(h:Wn H x=some y):PVR w (Mt I m H) v y:=by
 cases x with
 |vptr id off=>
  simp only[Wn]at h;split at h
  ·rename_i cs ho;obtain⟨ys,z8,rfl⟩:=zM.1 h;obtain⟨b,hb,hn,rfl⟩:=hv.vptr_inv;obtain⟨b',t,vs,z1,hh,hl,hr⟩:=hw.obj id _ ho;obtain rfl:b=b':=by rw[hb]at z1;exact Option.some.inj z1
   obtain⟨s1,s2⟩:=Uf (λv x y=>Ox hw) hl hr z8;refine .iptr _ _ (λj=>vs.getD (off+j) undef) (λ_=> .inr ⟨id,_,ho,rfl,hb⟩) (λj hj=>?_) (λj z hz=>?_)
   ·rw[xo]at hj;rw[Addr.add_lit,cell_of_row w b _ vs t (0,0) hh];have:off+j<vs.size:=by omega
    simp[this]
   rw[yX]at hz;have:off+j<vs.size:=by have:=(zD.1 hz).1;omega
   exact s2 (off+j) _ z (by simp[this]) hz
  cases h
 |ept id c i off=>
  simp only[Wn]at h;split at h
  ·rename_i e c' xs ho;split at h
   ·rename_i za;subst za;obtain⟨x,hx,rfl⟩:=zM.1 h;obtain⟨b,hb,hn,rfl⟩:=hv.ept_inv;rcases hw.obj id _ ho with⟨_,rfl⟩|⟨b',cap,vs,z1,hh,_,_,zb,hc,hr⟩
    ·simp at hx
    obtain rfl:b=b':=by rw[hb]at z1;exact Option.some.inj z1
    have zc:x.cells.length=c:=hc x (zE hx);refine .iptr _ _ (λj=>vs.getD (i * c+(off+j)) undef) (λ_=> .inr ⟨id,_,ho,rfl,hb⟩) (λj hj=>?_) (λj z hz=>?_)
    ·rw[xo]at hj;rw[Addr.add_lit,cell_of_row w b _ vs e (0,0) hh];obtain⟨v,hv,_⟩:=hr i x hx (off+j) _ (zG (by omega));rw[xZ];simp[hv]
    rw[yX]at hz;obtain⟨v,hv,hp⟩:=hr i x hx (off+j) z hz;simp only[xN,hv,xQ];exact hp.mono Jy
   cases h
  cases h
 |_=>exact Ox hw hv h
def Fk(hw:WS W0 I0 w I m H){v:Value}{x y:AV}(hv:VR w I m H.length v x)(h:Er H x=some y):PVR w (Mt I m H) v y:=by
 cases x with
 |agg cs=>obtain⟨ys,z1,rfl⟩:=zM.1 h;obtain⟨vs,rfl,hl,hr⟩:=hv.agg_inv;obtain⟨s1,s2⟩:=Uf (λv x y=>Yn hw) hl hr z1;exact .agg vs ys s1 s2
 |fn f xs ys=>
  simp only[Er]at h;split at h
  ·rename_i za zb h1 h2;simp only[Option.some.injEq]at h;subst h;obtain⟨vs,us,rfl,hl,hr,hl',z8⟩:=hv.fn_inv;obtain⟨s1,s2⟩:=Uf (λv x y=>Yn hw) hl hr h1;obtain⟨s3,s4⟩:=Uf (λv x y=>Yn hw) hl' z8 h2;exact .fn f vs us _ _ s1 s2 s3 s4
  cases h
 |_=>exact Yn hw hv h
def Dt(hw:WS W0 I0 w I m H){v:Value}{x y:AV}(hv:VR w I m H.length v x)(h:Tb H x=some y):PVR w (Mt I m H) v y:=by
 cases x with
 |tup cs=>obtain⟨ys,z1,rfl⟩:=zM.1 h;obtain⟨vs,rfl,hl,hr⟩:=hv.tup_inv;obtain⟨s1,s2⟩:=Uf (λv x y=>Fk hw) hl hr z1;exact .tup vs ys s1 s2
 |_=>exact Fk hw hv h
def w0l(hw:WS W0 I0 w I m H)(b:Nat)(hb:Mt I m H b):b<w.heap.size:=by
 rcases hb with hb|⟨id,o,ho,hl,hm⟩
 ·exact(hw.iw b hb).1
 exact(hw.own id o b ho hl hm).2.2
end
def Wf {wr:Bool} (hw:Q9 ops S o=some true) {f:FuncId} {xs ys:List AV} (h:Yr S o.op=some (f,xs)) (hy:Qy (xs.map (Tb S.hp))=some ys) {Rf:AV->Prop} (hc:PC P f ys Rf) (hd:Ek nt o=true)
  (hR:∀r,Rf r->r.flat=true/\R (S.putD o.dst r)):Wu P nt k wr ops o S R:=λC a w K Q hs hK=>by
 unfold OpW;rw[if_pos (hs.wanted hw)];obtain⟨I,m,z1,za,hk,hE⟩:=hs;obtain⟨vals,z8,hl,hv⟩:=To za h hc.1;unfold wpA;rw[z8];obtain⟨s1,s2⟩:=Uf (λv x y=>Dt z1) hl hv hy;refine(hc.2 w (Mt I m S.hp) vals (C.hE.go z1.below λb hb=> .inl (z1.i0 b hb)) (w0l z1) s1 s2).mono ?_;rintro e w' ⟨v,I',r,hr,rfl,hb,zc,hI,zd⟩;obtain⟨g1,g2⟩:=z1.step hb (λ_ h=>h) (λb zb=>⟨yZ (z1.iw b zb).1 hb.size,.inl zb⟩);exact hK _ _ w' (hR r hr).2 (St.value za hk hE g1 g2 (zR _) (Qs hd) (.pure (zd.flat (hR r hr).1))) (λ_=>Tz.of_below hb)
def Tg {wr:Bool} (hw:Q9 ops S o=some true) {f:FuncId} {xs:List AV} (h:Yr S o.op=some (f,xs)) (hp:xs.all AV.pure=true) {e:TypeId} {c:Nat} {Rf:List AV->Prop} (hc:FR P f (xs.map AV.nrm) e c Rf) (hd:Ek nt o=true)
  (hR:∀ys,Rf ys->R (({ S with hp:=S.hp++[.arr e c ys] }:AS).putD o.dst (.sl S.hp.length c 0 ys.length))):Wu P nt k wr ops o S R:=λC a w K Q hs hK=>by
 unfold OpW;rw[if_pos (hs.wanted hw)];obtain⟨I,m,z1,zc,hk,hE⟩:=hs;obtain⟨vals,z8,hl,hv⟩:=To zc h hc.1;unfold wpA;rw[z8];refine(hc.2 w I vals (C.hE.go z1.below z1.i0) (λb hb=>(z1.iw b hb).1) (by simpa using hl) (Bi hv hp)).mono ?_;rintro en w' ⟨v,I',ys,b?,mc,hr,rfl,hb,za,hI,ze,zd,zf,zg⟩;have zh:VR w' I' (upd m S.hp.length b?) (S.hp.length+1) v (.sl S.hp.length c 0 ys.length):=by
  rcases zf.sl_inv with⟨b,cap,t,zb,_,hs,zi,hmax,rfl⟩|⟨zb,_,_,zj,rfl⟩|⟨ad,_,hlo,_,_⟩
  ·exact .sl _ c 0 _ cap b t (by omega) (by rw[Q6,<-zd];exact zb) hs zi hmax
  ·rw[zj];exact .slnone _ c (by omega) (by rw[Q6,<-zd];exact zb)
  omega
 obtain⟨g1,g2⟩:=z1.push' hb za hI b? ze (.arr e c ys) (λm' _ _=>zg);exact hK _ _ w' (hR ys hr) (St.value zc hk hE g1 g2 (by simp) (Qs hd) (by simpa using zh)) (λ_=>Tz.of_below hb)
def Qd (hw:Q9 ops S o=some true) {f:FuncId} {xs:List AV} (h:Yr S o.op=some (f,xs)) {Rf:AV->List AObj->Prop} (hc:FC P f xs S.hp Rf) (hd:Ek nt o=true)
  (hR:∀r H',Rf r H'->R (({ S with hp:=H' }:AS).putD o.dst r)):Wu P nt k true ops o S R:=λC a w K Q hs hK=>by
 unfold OpW;rw[if_pos (hs.wanted hw)];obtain⟨I,m,za,z8,hk,hE⟩:=hs;obtain⟨vals,z1,hl,hv⟩:=To z8 h hc.1;unfold wpA;rw[z1];refine(hc.2 C.W0 C.I0 w I m vals C.hE za hl hv).mono ?_;rintro e w' ⟨v,r,H',I',m',hr,rfl,g1,g2,g3,g4⟩;exact hK _ _ w' (hR r H' hr) (St.value z8 hk hE g1 g3 g2 (Qs hd) g4) (λe=>by cases e)
end
end
section
section
variable {W0 w w'':World} {I0 I X:Nat->Prop} {m:Nat->Option Nat} {H:List AObj}
def PVR.restrict(hX:∀b o,X b->w.heap[b]?=some o->o.isCells=false){v:Value}{x:AV}(h:PVR w I v x):PVR w (λb=>I b/\¬X b) v x:=by
 have off:∀ {a:Addr} {u:Value},w.cell? a=some u->¬X a.block:=λhc hx=>by obtain⟨o,h1,h2⟩:=cells_of_cell hc;rw[hX _ o hx h1]at h2;cases h2
 induction h with
 |top v=>exact .top v
 |bool b=>exact .bool b
 |int k n=>exact .int k n
 |str s=>exact .str s
 |nils=>exact .nils
 |nilp=>exact .nilp
 |nilf=>exact .nilf
 |nili=>exact .nili
 |ifc t u=>exact .ifc t u
 |list a n cap c xs u hn hcap hmax hc ha hu ih=>
  refine .list a n cap c xs u hn hcap hmax hc (λh0=>?_) ih;obtain⟨ad,rfl,hI,hcell⟩:=ha h0;refine⟨ad,rfl,λz1=>⟨hI z1,?_⟩,hcell⟩;have:=off (hcell 0 0 h0 z1)
  rwa [block_add]at this
 |agg vs cs hl h ih=>exact .agg vs cs hl ih
 |tup vs cs hl h ih=>exact .tup vs cs hl ih
 |fn f vs us xs ys hl h hl' h' ih ih'=>exact .fn f vs us xs ys hl ih hl' ih'
 |iptr a cs u hI hcell hu ih=>
  refine .iptr a cs u (λhc=>⟨hI hc,?_⟩) hcell ih;have:=off (hcell 0 hc)
  rwa [block_add]at this
def VR.restrict(hX:∀b o,X b->w.heap[b]?=some o->o.isCells=false){n:Nat}{v:Value}{x:AV}(h:VR w I m n v x):VR w (λb=>I b/\¬X b) m n v x:=by
 induction h with
 |pure h=>exact .pure (h.restrict hX)
 |agg vs cs hl h ih=>exact .agg vs cs hl ih
 |tup vs cs hl h ih=>exact .tup vs cs hl ih
 |fn f vs us xs ys hl h hl' h' ih ih'=>exact .fn f vs us xs ys hl ih hl' ih'
 |vptr id off b hi hb=>exact .vptr id off b hi hb
 |ept id c i off b hi hb=>exact .ept id c i off b hi hb
 |sl id c lo len cap b t hi hb hs hl hmax=>exact .sl id c lo len cap b t hi hb hs hl hmax
 |slnone id c hi hb=>exact .slnone id c hi hb
 |slend id c lo a hi hlo=>exact .slend id c lo a hi hlo
 |yld id b hi hb=>exact .yld id b hi hb
 |mref id b hi hb=>exact .mref id b hi hb
 |opt p x h1 h2 ih=>exact .opt p x ih h2
structure Shut (w w'':World) (I X:Nat->Prop):Prop where
 size:w''.heap.size=w.heap.size
 same:∀b,¬X b->w''.heap[b]? =w.heap[b]?
 off:∀b o,X b->w.heap[b]?=some o->o.isCells=false
 offm:∀b es ck,X b->w.heap[b]? ≠some (.map es ck)
def Shut.fut(hs:Shut w w'' I X)(n:Nat):Fut n w (λb=>I b/\¬X b) m w'' (λb=>I b/\¬X b) m:=
 ⟨⟨λ_ h=>h,λb hb=>hs.same b hb.2⟩,λ_ _=>rfl,λb s z1=>by
  by_cases hx:X b
  ·have:w.shape? b=none:=by
    unfold World.shape?;cases ho:w.heap[b]? with
    |none=>rfl
    |some o=>have:=hs.off b o hx ho;cases o<;>first|rfl|(simp[Obj.isCells]at this)
   rw[this]at z1;cases z1
  rw[R6 (hs.same b hx)];exact z1⟩
def VR.shut(hs:Shut w w'' I X){n:Nat}{v:Value}{x:AV}(h:VR w I m n v x):VR w'' (λb=>I b/\¬X b) m n v x:=(h.restrict hs.off).mono (hs.fut n) (zR _)
def E5.shut(hs:Shut w w'' I X){nt n:Nat}{sl:List (Nat×AV)}{a:Act}(h:E5 nt sl a w I m n):E5 nt sl a w'' (λb=>I b/\¬X b) m n:=
 ⟨h.1,h.2.1,λt x hx=>by obtain⟨v,hv,hr⟩:=h.2.2 t x hx;exact⟨v,hv,hr.shut hs⟩⟩
def Uq.shut(hs:Shut w w'' I X){n:Nat}{b? :Option Nat}{o:AObj}(hb:o.live=true->∀b,b? =some b->¬X b)(h:Uq w I m n b? o):Uq w'' (λb=>I b/\¬X b) m n b? o:=by
 cases o with
 |vars cs=>obtain⟨b,t,vs,rfl,hh,hl,hr⟩:=h;exact⟨b,t,vs,rfl,by rw[hs.same b (hb rfl b rfl)];exact hh,hl,λj v x a c=>(hr j v x a c).shut hs⟩
 |arr t c xs=>
  rcases h with h|⟨b,cap,vs,rfl,hh,h1,h2,h3,h4,hr⟩
  ·exact .inl h
  exact .inr ⟨b,cap,vs,rfl,by rw[hs.same b (hb rfl b rfl)];exact hh,h1,h2,h3,h4,λi x hx j y hy=>by obtain⟨v,hv,hp⟩:=hr i x hx j y hy;exact⟨v,hv,(hp.restrict hs.off).mono (hs.fut (m:=m) 0).ext⟩⟩
 |it left cur=>obtain⟨r,bm,es,ck,since,seen,c0,rfl,hh,hI,hm,h1,h2,h3,h4,h5,hr,z8⟩:=h;have z1:¬X bm:=λhx=>hs.offm bm es ck hx hm;exact⟨r,bm,es,ck,since,seen,c0,rfl,by rw[hs.same r (hb rfl r rfl)];exact hh,⟨hI,z1⟩,by rw[hs.same bm z1];exact hm,h1,h2,h3,h4,h5,λi x p a c=>⟨((hr i x p a c).1.restrict hs.off).mono (hs.fut (m:=m) 0).ext,((hr i x p a c).2.restrict hs.off).mono (hs.fut (m:=m) 0).ext⟩,λp hp=>by obtain⟨e1,sn,q1,q2,q3,q4,q5⟩:=z8 p hp;exact⟨e1,sn,q1,q2,q3,(q4.restrict hs.off).mono (hs.fut (m:=m) 0).ext,(q5.restrict hs.off).mono (hs.fut (m:=m) 0).ext⟩⟩
 |va t c xs=>
  rcases h with h|⟨b,cap,vs,rfl,hh,h1,h2,h3,h4,hr⟩
  ·exact .inl h
  exact .inr ⟨b,cap,vs,rfl,by rw[hs.same b (hb rfl b rfl)];exact hh,h1,h2,h3,h4,λi x hx j y hy=>by obtain⟨v,hv,hp⟩:=hr i x hx j y hy;exact⟨v,hv,hp.shut hs⟩⟩
 |dead=>exact h
 |fm kvs=>obtain⟨b,es,ck,rfl,hI,hh,hl,hr⟩:=h;have z1:¬X b:=λhx=>hs.offm b es ck hx hh;exact⟨b,es,ck,rfl,⟨hI,z1⟩,by rw[hs.same b z1];exact hh,hl,λi x p a c=>⟨((hr i x p a c).1.restrict hs.off).mono (hs.fut (m:=m) 0).ext,((hr i x p a c).2.restrict hs.off).mono (hs.fut (m:=m) 0).ext⟩⟩
 |tag id t=>obtain⟨h1,b,s,h2,h3⟩:=h;exact⟨h1,b,s,h2,(hs.fut (m:=m) 0).shape _ _ h3⟩
 |lp rdy pend nt sl ps asg body=>obtain⟨b,r,rfl,hh,h1,h2,h3,h4,h5,h6,h7⟩:=h;exact⟨b,r,rfl,by rw[hs.same b (hb rfl b rfl)];exact hh,h1,h2,h3,h4,h5,h6,λt x hx=>by obtain⟨v,hv,hr⟩:=h7 t x hx;exact⟨v,hv,hr.shut hs⟩⟩
 |mp kvs=>obtain⟨b,es,ck,rfl,hh,hl,hr⟩:=h;exact⟨b,es,ck,rfl,by rw[hs.same b (hb rfl b rfl)];exact hh,hl,λi x p a c=>⟨((hr i x p a c).1.restrict hs.off).mono (hs.fut (m:=m) 0).ext,((hr i x p a c).2.restrict hs.off).mono (hs.fut (m:=m) 0).ext⟩⟩
 |mv kvs=>obtain⟨b,es,ck,rfl,hh,hl,hr⟩:=h;exact⟨b,es,ck,rfl,by rw[hs.same b (hb rfl b rfl)];exact hh,hl,λi x p a c=>⟨((hr i x p a c).1.restrict hs.off).mono (hs.fut (m:=m) 0).ext,(hr i x p a c).2.shut hs⟩⟩
def WS.shut(hs:Shut w w'' I X)(z1:Below W0.heap.size w w'')(z8:∀b,X b->¬I0 b)(za:∀b,X b->I b)(h:WS W0 I0 w I m H):WS W0 I0 w'' (λb=>I b/\¬X b) m H:=
 ⟨h.below.trans z1,λb hb=>⟨h.i0 b hb,λhx=>z8 b hx hb⟩,λb hb=>⟨by rw[hs.size];exact(h.iw b hb.1).1,(h.iw b hb.1).2⟩,
  λid o ho=>(h.obj id o ho).shut hs (λhl b hm hx=>(h.own id o b ho hl hm).2.1 (za b hx)),
  λid o b ho hl hm=>⟨(h.own id o b ho hl hm).1,λhi=>(h.own id o b ho hl hm).2.1 hi.1,by rw[hs.size];exact(h.own id o b ho hl hm).2.2⟩,h.inj⟩
end
end
section
section
variable {P:Program} [Env P] {T:TT} {nt k:Nat} {S:AS}
def Qf:Nat->List AV->List (Nat×AV)
 |_,[]=>[]
 |i,x::r=>(i,x)::Qf (i+1) r
def Ac:∀(xs:List AV) (i t:Nat) (x:AV),look (Qf i xs) t=some x->i<=t/\xs[t - i]?=some x
 |[],_,_,_,h=>by cases h
 |y::r,i,t,x,h=>by
  simp only[Qf,look]at h;split at h
  ·rename_i e;subst e;simpa using h
  obtain⟨h1,h2⟩:=Ac r (i+1) t x h;refine⟨by omega,?_⟩;rw[show t - i=(t - (i+1))+1 by omega];simpa using h2
def q1c(T:TT)(S:AS):ResultVar->Option AV
 | .tmp t=>look S.sl t
 | .cell a t=>(look S.sl a).bind (Vd T S.hp t)
def y18(T:TT)(S:AS):List ResultVar->Option AV
 |[r]=>q1c T S r
 |rs=>(Qy (rs.map (q1c T S))).map .tup
def Hu(tmps:Array Value):ResultVar->Sem Value
 | .tmp t=>pure (tmps.getD t undef)
 | .cell b t=>do loadVar t (<-asAddr (tmps.getD b undef))
def q0x(fn:Func)(tmps:Array Value):results fn tmps=(do let vs <-fn.results.mapM (Hu tmps);pure (if h:vs.size=1 then vs[0]else .tuple vs)):=rfl
def M9(hT:TOk P T){W0 w:World}{I0 I:Nat->Prop}{m:Nat->Option Nat}{a:Act}(hw:WS W0 I0 w I m S.hp)(hs:E5 nt S.sl a w I m S.hp.length){r:ResultVar}{x:AV}(h:q1c T S r=some x):
  ∃v,VR w I m S.hp.length v x/\(Hu a.tmps r).run P w= .ok v w:=by
 cases r with
 |tmp t=>obtain⟨v,hv,hr⟩:=hs.2.2 t x h;exact⟨v,hr,by simp[Hu,hv]⟩
 |cell b t=>
  obtain⟨p,hp,hl⟩:=yS.1 h;obtain⟨v,hv,hr⟩:=hs.2.2 b p hp;obtain⟨u,hu,z1⟩:=Dp hT hw hr hl;have h1:=z1 w (Tz.refl w);obtain⟨ad,rfl⟩:∃ad,v= .pointer (some ad):=by
   unfold Vd at hl;split at hl
   ·rename_i hc;obtain⟨ad,_,e,_⟩:=Pg hw hr hc;exact⟨ad,e⟩
   cases hl
  refine⟨u,hu,?_⟩;have hg:a.tmps.getD b undef= .pointer (some ad):=by simp[hv]
  simp only[Hu,hg,asAddr,Sem.run_bind,Sem.run_pure,Result.andThen_ok];simpa[Instr.loadAt,Instr.sureAddr]using h1
def U9(hT:TOk P T){W0 w:World}{I0 I:Nat->Prop}{m:Nat->Option Nat}{a:Act}(hw:WS W0 I0 w I m S.hp)(hs:E5 nt S.sl a w I m S.hp.length):∀(rs:List ResultVar) (xs:List AV),Qy (rs.map (q1c T S))=some xs->
  ∃vs:List Value,(rs.mapM (m:=Sem) (Hu a.tmps)).run P w= .ok vs w/\vs.length=xs.length/\
   ∀(i:Nat) (v:Value) (x:AV),vs[i]?=some v->xs[i]?=some x->VR w I m S.hp.length v x
 |[],xs,h=>by simp only[yM,Qy,Option.some.injEq]at h;subst h;exact⟨[],by simp,rfl,by simp⟩
 |r::rs,xs,h=>by
  simp only[z_]at h;cases hr:q1c T S r with
  |none=>rw[hr]at h;cases h
  |some x=>
   rw[hr]at h;obtain⟨ys,hy,rfl⟩:=zM.1 h;obtain⟨v,hv,z1⟩:=M9 hT hw hs hr;obtain⟨vs,h1,h2,h3⟩:=U9 hT hw hs rs ys hy;refine⟨v::vs,?_,by simp[h2],λi u y hu z8=>?_⟩
   ·rw[uw,Sem.run_bind,z1,Result.andThen_ok,Sem.run_bind,h1];rfl
   cases i with
   |zero=>simp only[xr,Option.some.injEq]at hu z8;subst hu;subst z8;exact hv
   |succ i=>exact h3 i u y (by simpa using hu) (by simpa using z8)
def Kg(hT:TOk P T){W0 w:World}{I0 I:Nat->Prop}{m:Nat->Option Nat}{a:Act}(hw:WS W0 I0 w I m S.hp)(hs:E5 nt S.sl a w I m S.hp.length){fn:Func}{rs:List ResultVar}(z8:fn.results=rs.toArray){x:AV}(h:y18 T S rs=some x):
  ∃v,VR w I m S.hp.length v x/\(results fn a.tmps).run P w= .ok v w:=by
 have key:∀(vs:List Value),(rs.mapM (m:=Sem) (Hu a.tmps)).run P w= .ok vs w->
   (results fn a.tmps).run P w= .ok (if h:vs.toArray.size=1 then vs.toArray[0]else .tuple vs.toArray) w:=λvs za=>by
  rw[q0x,z8,Sem.run_bind,vv,Sem.run_map];simp only;rw[za];rfl
 unfold y18 at h;split at h
 ·rename_i r;obtain⟨vs,h1,h2,h3⟩:=U9 hT hw hs [r] [x] (by simp[Qy,h])
  match vs,h2 with
  |[v],_=>exact⟨v,h3 0 v x rfl rfl,by rw[key _ h1];rfl⟩
 rename_i zb;obtain⟨xs,z1,rfl⟩:=zM.1 h;obtain⟨vs,h1,h2,h3⟩:=U9 hT hw hs rs xs z1;have hl:vs.length≠1:=by
  have:=(Rq z1).1;intro e;have zc:rs.length=1:=by omega
  obtain⟨r,rfl⟩:=List.length_eq_one_iff.1 zc;exact zb r rfl
 exact⟨.tuple vs.toArray,.tup _ _ (by simpa using h2) (λi v y hv hy=>h3 i v y (by simpa using hv) hy),by rw[key _ h1];simp[hl]⟩
def c0s(T:TT)(rs:List ResultVar)(R:AV->List AObj->Prop)(e:Exit)(S:AS):Prop:=(e= .ret\/e= .normal)/\∃r,y18 T S rs=some r/\R r S.hp
def C6 {w:World} {I:Nat->Prop} {m:Nat->Option Nat} {H:List AObj} {args:List AV} {vals:Array Value} {z1:Nat} (hn:args.length<=z1) (hl:vals.size=args.length)
  (hv:∀(i:Nat) (v:Value) (x:AV),vals[i]?=some v->args[i]?=some x->VR w I m H.length v x):
  E5 z1 (Qf 0 args) { tmps:=vals++wD (z1 - vals.size) undef,defers:=[] } w I m H.length:=by
 refine⟨by simp;omega,trivial,λt x hx=>?_⟩;obtain⟨_,h2⟩:=Ac args 0 t x hx;simp only[Nat.sub_zero]at h2;have z8:t<vals.size:=by have:=(zD.1 h2).1;omega
 refine⟨vals[t],by rw[Array.getElem?_append_left z8];simp[z8],hv t _ x (by simp[z8]) h2⟩
def F5(w:World):List Nat->World
 |[]=>w
 |D::ds=>F5 (w.putObj D (.deferred none)) ds
def Ix:∀(ds:List Nat) (w:World),(F5 w ds).heap.size=w.heap.size/\(∀b,b∉ds->(F5 w ds).heap[b]? =w.heap[b]?)/\(F5 w ds).os=w.os/\(F5 w ds).tape=w.tape/\(F5 w ds).output=w.output
 |[],w=>⟨rfl,λ_ _=>rfl,rfl,rfl,rfl⟩
 |D::ds,w=>by obtain⟨h1,h2,h3,h4,h5⟩:=Ix ds (w.putObj D (.deferred none));refine⟨h1.trans (by simp[World.putObj]),λb hb=>?_,h3,h4,h5⟩;simp only[y_,not_or]at hb;exact(h2 b hb.2).trans (World.putObj_heap_other hb.1)
def q0y{I:Nat->Prop}{ds:List Nat}{w:World}(h:∀D∈ds,w.heap[D]?=some (.deferred (some []))):Shut w (F5 w ds) I (·∈ds):=
 ⟨(Ix ds w).1,(Ix ds w).2.1,λb o hb ho=>by rw[h b hb]at ho;cases ho;rfl,λb es ck hb hm=>by rw[h b hb]at hm;cases hm⟩
def Ca{B:Nat}{ds:List Nat}{w:World}(h:∀D∈ds,B<=D):Below B w (F5 w ds):=by obtain⟨h1,h2,h3,h4,h5⟩:=Ix ds w;exact⟨h3,h4,h5,by omega,λb hb=>h2 b (λhm=>by have:=h b hm;omega)⟩
def A6{F:Fence}{n:Nat}{fn:Func}{tmps:Array Value}{R:Ending->World->Prop}:∀(ds:List Nat) (w:World),ds.Nodup->(∀D∈ds,w.heap[D]?=some (.deferred (some [])))->
  LeavesIn F n P fn tmps R [] .returning (F5 w ds)->LeavesInM F n P fn tmps R (ds.map Xo) .returning w
 |[],_,_,_,h=>h
 |D::ds,w,hn,hd,h=>by refine⟨by simp,.inl ⟨D,w.putObj D (.deferred none),rfl,run_takeDeferred (hd D (by simp)),A6 ds _ (un.1 hn).2 (λD' z1=>?_) h⟩⟩;have z8:D'≠D:=λe=>(un.1 hn).1 (by rw[<-e];exact z1);rw[World.putObj_heap_other z8];exact hd D' (by simp[z1])
def Aj (hT:TOk P T) {f:FuncId} {fn:Func} {c:Code} {rs:List ResultVar} (hf:P.funcs[f]?=some fn) (hb:fn.body=some c) (ze:fn.results=rs.toArray) {args:List AV} {H:List AObj} {R:AV->List AObj->Prop} (hn:args.length<=fn.ntmps)
  (h:AWP P fn.ntmps H.length c (c0s T rs R) ⟨Qf 0 args,H⟩) {W0 w:World} {I0 I:Nat->Prop} {m:Nat->Option Nat} {vals:Array Value} (hE:EOK P W0 I0) (hw:WS W0 I0 w I m H) (hl:vals.size=args.length)
  (hv:∀(i:Nat) (v:Value) (x:AV),vals[i]?=some v->args[i]?=some x->VR w I m H.length v x):
  Calls P f vals w λe w'=>∃(v:Value) (r:AV) (H':List AObj) (I':Nat->Prop) (m':Nat->Option Nat),R r H'/\e= .returned v/\WS W0 I0 w' I' m' H'/\H.length<=H'.length/\
   Fut H.length w I m w' I' m'/\VR w' I' m' H'.length v r:=by
 refine(callsIn_wide (n:=0)).1 (callsIn_of_wp_marks hf hb trivial ?_);refine wpIn_mono (h ⟨W0,I0,w,I,m,hE,none⟩ _ w ⟨I,m,hw,C6 (H:=H) hn hl hv,zR _,⟨.refl _ _ _ _,λ_=>⟨[],rfl,List.nodup_nil,λ_ h=>by cases h⟩,λ_ h=>by cases h⟩⟩) ?_;rintro e a w' ⟨S,⟨he,r,hr,hR⟩,I',m',zf,zg,zh,z1⟩;obtain⟨ds,e1,e2,e3⟩:=z1.defs rfl;have za:Shut w' (F5 w' ds) I' (·∈ds):=q0y (λD hD=>(e3 D hD).2.2);have hIn:∀b,I b->b∉ds:=λb hb hm=>(e3 b hm).2.1.1 hb;have z8:=zf.shut za (Ca (λD hD=>(e3 D hD).2.1.2)) (λb hm hi=>hIn b (hw.i0 b hi) hm) (λb hm=>(e3 b hm).1);have zb:=zg.shut za;have zc:Fut H.length w I m (F5 w' ds) (λb=>I' b/\b∉ds) m':=
  ⟨⟨λb hb=>⟨z1.fut.ext.sub b hb,hIn b hb⟩,λb hb=>(za.same b (hIn b hb)).trans (z1.fut.ext.imm b hb)⟩,z1.fut.ids,λb s hs=>(za.fut (m:=m') 0).shape _ _ (z1.fut.shape b s hs)⟩
 obtain⟨v,zi,zd⟩:=Kg hT z8 zb ze hr;have key:LeavesInM Fence.wide 0 P fn a.tmps (λe w'=>∃(v:Value) (r:AV) (H':List AObj) (I':Nat->Prop) (m':Nat->Option Nat),R r H'/\e= .returned v/\WS W0 I0 w' I' m' H'/\H.length<=H'.length/\
   Fut H.length w I m w' I' m'/\VR w' I' m' H'.length v r) a.defers .returning w':=by
  rw[e1];exact A6 ds w' e2 (λD hD=>(e3 D hD).2.2) ⟨v,zd,v,r,S.hp,_,m',hR,rfl,z8,zh,zc,zi⟩
 rcases he with rfl|rfl
 ·exact key
 exact key
def Oa {f:FuncId} {fn:Func} (hf:P.funcs[f]?=some fn) (hb:fn.body.isNone=false) (hn:(fn.name== "runtime.NumGoroutine")=false):Te P f:=⟨fn,hf,hb,hn⟩
def d0h (hT:TOk P T) {f:FuncId} {fn:Func} {c:Code} {rs:List ResultVar} (hf:P.funcs[f]?=some fn) (hb:fn.body=some c) (z1:fn.results=rs.toArray) (z8:(fn.name== "runtime.NumGoroutine")=false) {args:List AV} {H:List AObj} {R:AV->List AObj->Prop} (hn:args.length<=fn.ntmps)
  (h:AWP P fn.ntmps H.length c (c0s T rs R) ⟨Qf 0 args,H⟩):FC P f args H R:=
 ⟨Oa hf (by rw[hb];rfl) z8,λ_ _ _ _ _ _ hE hw hl hv=>Aj hT hf hb z1 hn h hE hw hl hv⟩
def WS.start{w:World}{I:Nat->Prop}(hI:∀b,I b->b<w.heap.size)(m:Nat->Option Nat):WS w I w I m []:=
 ⟨Below.refl _ _,λ_ h=>h,λb hb=>⟨hI b hb,.inl hb⟩,λid o ho=>by simp at ho,λid o b ho=>by simp at ho,λi j oi oj b hi=>by simp at hi⟩
def d0x (hT:TOk P T) {f:FuncId} {fn:Func} {c:Code} {rs:List ResultVar} (hf:P.funcs[f]?=some fn) (hb:fn.body=some c) (z8:fn.results=rs.toArray) (za:(fn.name== "runtime.NumGoroutine")=false) {args:List AV} {R:AV->Prop} (hn:args.length<=fn.ntmps)
  (h:AWP P fn.ntmps 0 c (c0s T rs λr H=>∃y,Tb H r=some y/\R y) ⟨Qf 0 args,[]⟩):PC P f args R:=by
 refine⟨Oa hf (by rw[hb];rfl) za,λw I vals hE hI hl hv=>?_⟩
 refine(Aj hT hf hb z8 hn h hE (WS.start hI (λ_=>none)) hl (λi v x a b=> .pure (hv i v x a b))).mono ?_
 rintro e w' ⟨v,r,H',I',m',⟨y,hy,hR⟩,rfl,z1,_,zc,zb⟩
 refine⟨v,Mt I' m' H',y,hR,rfl,z1.below,λb hb=> .inl (z1.i0 b hb),λb hb=>⟨w0l z1 b hb,?_⟩,Dt z1 zb hy⟩
 rcases hb with hb|⟨id,o,ho,hl,hm⟩
 ·exact(z1.iw b hb).2
 exact .inr (z1.own id o b ho hl hm).1
def D3 (hT:TOk P T) {f:FuncId} {fn:Func} {c:Code} {rs:List ResultVar} (hf:P.funcs[f]?=some fn) (hb:fn.body=some c) (zb:fn.results=rs.toArray) (zc:(fn.name== "runtime.NumGoroutine")=false) {args:List AV} {e:TypeId} {sz:Nat} {R:List AV->Prop} (hn:args.length<=fn.ntmps)
  (h:AWP P fn.ntmps 0 c (c0s T rs λr H=>(∃id xs,r= .sl id sz 0 xs.length/\H[id]?=some (.arr e sz xs)/\R xs)\/r= .nils/\R []) ⟨Qf 0 args,[]⟩):FR P f args e sz R:=by
 refine⟨Oa hf (by rw[hb];rfl) zc,λw I vals hE hI hl hv=>?_⟩
 refine(Aj hT hf hb zb hn h hE (WS.start hI (λ_=>none)) hl (λi v x a b=> .pure (hv i v x a b))).mono ?_
 rintro en w' ⟨v,r,H',I',m',hR,rfl,z1,_,zf,za⟩
 rcases hR with⟨id,xs,rfl,hid,hR⟩|⟨rfl,hR⟩
 ·refine⟨v,I',xs,m' id,λ_=>m' id,hR,rfl,z1.below,λb hb=>z1.i0 b hb,λb hb=>z1.iw b hb,λb hb=>?_,rfl,?_,?_⟩
  ·obtain⟨h1,h2,h3⟩:=z1.own id _ b hid rfl hb
   exact⟨h1,h3,h2⟩
  ·rcases za.sl_inv with⟨b,cap,t,z8,_,hs,zd,hmax,rfl⟩|⟨z8,_,_,ze,rfl⟩|⟨ad,_,hlo,_,_⟩
   ·exact .sl 0 sz 0 _ cap b t (by omega) z8 hs zd hmax
   ·rw[ze];exact .slnone 0 sz (by omega) z8
   omega
  have:=z1.obj id _ hid
  rcases this with h1|⟨b,cap,vs,e1,e2,e3,e4,e5,e6,e7⟩
  ·exact .inl h1
  exact .inr ⟨b,cap,vs,e1,e2,e3,e4,e5,e6,e7⟩
 obtain rfl:=za.nils_inv
 exact⟨_,I',[],none,λ_=>none,hR,rfl,z1.below,λb hb=>z1.i0 b hb,λb hb=>z1.iw b hb,λb hb=>(by cases hb),rfl,.slnone 0 sz (by omega) rfl,.inl ⟨rfl,rfl⟩⟩
end
end
end Go.Abs
