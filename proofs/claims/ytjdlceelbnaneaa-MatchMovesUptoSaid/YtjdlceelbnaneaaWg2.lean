import Derived.Test.YtjdlceelbnaneaaRows
import Derived.Test.YtjdlceelbnaneaaFxLaw
import Derived.Test.YtjdlceelbnaneaaWg1
import Derived.Test.YtjdlceelbnaneaaWg0
set_option maxRecDepth 100000
namespace Go.Proofs.Ytjdlceelbnaneaa
open Go.ChangeShapes Go.WideShapes Go.ChangeAt Go.RowKit Go.Ix
theorem Try.own:ownKnob Try.prog.godebug=none:=by kernel_rfl
theorem Try.laidOut:laidOutB Try.prog=true:=by kernel_rfl
theorem sh_int{q:List AV}(h:Sh Try.prog y_int q):∃n,q=[I n]:=by
 obtain⟨n,h,-⟩:=Sh.int_inv (t:=y_int) (k:=.i64) (by kernel_rfl) h
 exact⟨n,h⟩
theorem sl_sh{α:Type}{enc:α->List AV}{P:Program}{t e:TypeId}{z:AV}(ht:P.underlying t=some (.slice e))(hr:∀r,r.length=P.cellsOf e->Sh P e r->∃x,r=enc x)(f:Sh P t [z]):∃l,Sl enc z l:=by
 rcases Sh.slice_inv ht f with h1|⟨rows,x,h1,h2,h3,h4⟩
 .simp at h1;exact⟨[],Or.inl ⟨h1,rfl⟩⟩
 .obtain⟨l,rfl⟩:=xhe (enc:=enc) λr hm=>hr r (h2 r hm) (h3 r hm)
  simp at h1
  exact⟨l,Or.inr ⟨x,by simpa[List.flatMap]using h1⟩⟩
theorem int_in{a:AV}(h:ArgSh Try.prog y_int a):∃n,a=I n:=by
 obtain⟨n,h,-⟩:=h.int (t:=y_int) (k:=.i64) (by kernel_rfl)
 exact⟨n,h⟩
theorem fs_of{t:TypeId}{l:List (TypeId×Nat)}(h:((Try.prog.underlying t).bind λd=>match d with | .struct fs=>some (fs.toList.map λf=>(f.type,f.offset))|_=>none)=some l):∃fs,Try.prog.underlying t=some (.struct fs)/\(fs.toList.map λf=>(f.type,f.offset))=l:=by
 cases hu:Try.prog.underlying t with
 |none=>rw[hu]at h;cases h
 |some d=>
  rw[hu]at h
  cases d<;>first|exact⟨_,rfl,by simpa using h⟩|cases h
end Go.Proofs.Ytjdlceelbnaneaa
set_option linter.unusedSimpArgs false
set_option linter.unusedVariables false
namespace Go.Ix
structure Mp where
 ln:Int
 sm:Int
 b0:Int
 b1:Int
 sc:Int
def Mp.c(x:Mp):List AV:=[I x.ln,I x.sm,I x.b0,I x.b1,I x.sc]
theorem Mp.len(x:Mp):x.c.length=5:=rfl
theorem Mp.still(x:Mp):x.c.all still1=true:=rfl
def pr(f x y:Mp):Int:=(x.ln-f.ln)*(y.sm-f.sm)-(x.sm-f.sm)*(y.ln-f.ln)
def Mp.at(f x:Mp):Prop:=x.ln=f.ln/\x.sm=f.sm
instance (f x:Mp):Decidable (f.at x):=by unfold Mp.at;infer_instance
open Go.Proofs
theorem build_F(x y:Int):x8k [I 0,I 0] [(0,1,I x),(1,1,I y)]=some (.agg [I x,I y]):=by simp[x8k,xam]
theorem tdiv_le{a b:Int}:(a.tdiv b).natAbs<=a.natAbs:=by rw[Int.natAbs_tdiv];exact Nat.div_le_self _ _
def bd(x b:Int):Prop:=-b<=x/\x<=b
theorem bd.add{x y a b:Int}(h:bd x a)(k:bd y b):bd (x+y) (a+b):=by unfold bd at *;omega
theorem bd.sub{x y a b:Int}(h:bd x a)(k:bd y b):bd (x-y) (a+b):=by unfold bd at *;omega
theorem bd.neg{x a:Int}(h:bd x a):bd (-x) a:=by unfold bd at *;omega
theorem bd.abs{x a:Int}:bd x a↔(x.natAbs:Int)<=a:=by unfold bd;omega
theorem bd.mul{x y a b:Int}(h:bd x a)(k:bd y b):bd (x*y) (a*b):=by
 rw[bd.abs]at *
 rw[xo3,Int.natCast_mul]
 exact xov h k (by omega) (by omega)
theorem bd.mono{x a b:Int}(h:bd x a)(k:a<=b):bd x b:=by unfold bd at *;omega
theorem bd.zero{b:Int}(h:0<=b):bd 0 b:=by unfold bd;omega
def c0(n a b c d e x y z:Int):Int:=x*(c*e-d*d)-y*(a*e-b*d)+z*(a*d-b*c)
def c1(n a b c d e x y z:Int):Int:=n*(y*e-z*d)-x*(a*e-b*d)+b*(a*z-b*y)
def c2(n a b c d e x y z:Int):Int:=n*(c*z-d*y)-a*(a*z-b*y)+x*(a*d-b*c)
structure Aff where
 den:Int
 l0:Int
 l1:Int
 l2:Int
 s0:Int
 s1:Int
 s2:Int
def Aff.c(f:Aff):List AV:=[I f.den,I f.l0,I f.l1,I f.l2,I f.s0,I f.s1,I f.s2]
end Go.Ix
