/- Part Ul of the proof: steps on the way to the last part. No condition. -/
import Derived.Test.YtjmkolhkojgjpaaGreatDoorUk
import Derived.Test.YtjmkolhkojgjpaaGreatDoorUi
set_option linter.all false
set_option maxRecDepth 100000
namespace Go.Abs
open Go Go.RowKit Go.Proofs.YtjmkolhkojgjpaaGreatDoor
def f2n{d:Nat}{zs:List AV}(h:Shp T (d+3) 26 zs):∃w:List Sy,zs=[.list (w.map encSy)]:=by
 rw[Shp,T26]at h;simp only[Mn]at h;obtain⟨ei,xs,he,rfl,hl,hx⟩:=h;rw[T52]at he;cases he;obtain⟨l,rfl,hq⟩:=Fa (g:=encSy) (Q:=λ_=>True) xs (λx z1=>by
  obtain⟨zs,rfl,hz⟩:=hx x z1;obtain⟨v,rfl⟩:=d2u (d:=d) hz;exact⟨v,rfl,trivial⟩)
 exact⟨l,rfl⟩
def q2w{d:Nat}{ts:List Nat}{xs:List AV}(h:I8 T (d+3) (26::ts) xs):∃(w:List Sy) (r:List AV),xs=LSy w::r/\I8 T (d+3) ts r:=by obtain⟨i,zs,r,hi,rfl,h1,h⟩:=h;have h0:=hi;obtain⟨w,rfl⟩:=f2n (d:=d) h1;rw[T26]at hi;cases hi;exact⟨w,r,rfl,h⟩
end Go.Abs
