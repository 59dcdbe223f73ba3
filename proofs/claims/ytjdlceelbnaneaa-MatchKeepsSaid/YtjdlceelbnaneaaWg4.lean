import Derived.Test.YtjdlceelbnaneaaWg1
import Derived.Test.YtjdlceelbnaneaaWg3
set_option linter.unusedSimpArgs false
set_option linter.unusedVariables false
namespace Go.Ix
open Go.Proofs
theorem xd9:x8k [I 0,I 0] []=some (.agg [I 0,I 0]):=by simp[x8k,x95]
def bd(x b:Int):Prop:=-b<=x/\x<=b
theorem bd.add{x y a b:Int}(h:bd x a)(k:bd y b):bd (x+y) (a+b):=by unfold bd at *;omega
theorem bd.sub{x y a b:Int}(h:bd x a)(k:bd y b):bd (x-y) (a+b):=by unfold bd at *;omega
theorem bd.neg{x a:Int}(h:bd x a):bd (-x) a:=by unfold bd at *;omega
theorem bd.abs{x a:Int}:bd x a↔(x.natAbs:Int)<=a:=by unfold bd;omega
theorem bd.mul{x y a b:Int}(h:bd x a)(k:bd y b):bd (x*y) (a*b):=by
 rw[bd.abs]at *
 rw[Int.natAbs_mul,Int.natCast_mul]
 exact Int.mul_le_mul h k (by omega) (by omega)
theorem bd.mono{x a b:Int}(h:bd x a)(k:a<=b):bd x b:=by unfold bd at *;omega
theorem bd.zero{b:Int}(h:0<=b):bd 0 b:=by unfold bd;omega
def c0(n a b c d e x y z:Int):Int:=x*(c*e-d*d)-y*(a*e-b*d)+z*(a*d-b*c)
def c1(n a b c d e x y z:Int):Int:=n*(y*e-z*d)-x*(a*e-b*d)+b*(a*z-b*y)
def c2(n a b c d e x y z:Int):Int:=n*(c*z-d*y)-a*(a*z-b*y)+x*(a*d-b*c)
structure Aff where
 den:Int
 l0:Int
 l1:Int
 l2:Int
 s0:Int
 s1:Int
 s2:Int
def Aff.c(f:Aff):List AV:=[I f.den,I f.l0,I f.l1,I f.l2,I f.s0,I f.s1,I f.s2]
end Go.Ix
