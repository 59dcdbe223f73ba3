import Derived.Test.YtjdlceelbnaneaaRows
import Derived.Test.YtjdlceelbnaneaaFxLaw
import Derived.Test.YtjdlceelbnaneaaWg1
import Derived.Test.YtjdlceelbnaneaaWg2
import Derived.Test.YtjdlceelbnaneaaWBase
set_option maxRecDepth 100000
namespace Go.Proofs.Ytjdlceelbnaneaa
open Go.ChangeShapes Go.WideShapes Go.ChangeAt Go.RowKit Go.Ix
theorem Try.own:ownKnob Try.prog.godebug=none:=by kernel_rfl
theorem Try.laidOut:laidOutB Try.prog=true:=by kernel_rfl
theorem sl_sh{α:Type}{enc:α->List AV}{P:Program}{t e:TypeId}{z:AV}(ht:P.underlying t=some (.slice e))(hr:∀r,r.length=P.cellsOf e->Sh P e r->∃x,r=enc x)(f:Sh P t [z]):∃l,Sl enc z l:=by
 rcases Sh.slice_inv ht f with h1|⟨rows,x,h1,h2,h3,h4⟩
 .simp at h1;exact⟨[],Or.inl ⟨h1,rfl⟩⟩
 .obtain⟨l,rfl⟩:=xey (enc:=enc) λr hm=>hr r (h2 r hm) (h3 r hm)
  simp at h1
  exact⟨l,Or.inr ⟨x,by simpa[List.flatMap]using h1⟩⟩
theorem int_in{a:AV}(h:ArgSh Try.prog x8b a):∃n,a=I n:=by
 obtain⟨n,h,-⟩:=h.int (t:=x8b) (k:=.i64) (by kernel_rfl)
 exact⟨n,h⟩
end Go.Proofs.Ytjdlceelbnaneaa
set_option linter.unusedSimpArgs false
set_option linter.unusedVariables false
namespace Go.Ix
structure Mp where
 ln:Int
 sm:Int
 b0:Int
 b1:Int
 sc:Int
def Mp.c(x:Mp):List AV:=[I x.ln,I x.sm,I x.b0,I x.b1,I x.sc]
theorem Mp.len(x:Mp):x.c.length=5:=rfl
theorem Mp.still(x:Mp):x.c.all still1=true:=rfl
def pr(f x y:Mp):Int:=(x.ln-f.ln)*(y.sm-f.sm)-(x.sm-f.sm)*(y.ln-f.ln)
def Mp.at(f x:Mp):Prop:=x.ln=f.ln/\x.sm=f.sm
end Go.Ix
