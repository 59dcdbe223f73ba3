import Derived.Test.YtjdlceelbnaneaaWg4
import Derived.Test.YtjdlceelbnaneaaWg1
import Derived.Test.YtjdlceelbnaneaaWg0
import Derived.ProofKit
set_option linter.unusedSimpArgs false
set_option linter.unusedVariables false
namespace Go.Ix
open Go.Proofs
theorem xai:x9=[I 0,I 0]:=by kernel_rfl
theorem Edge.still1(e:Edge):e.c.all Go.Ix.still1=true:=rfl
abbrev Pr:=Int×Int
def Pr.c(x:Pr):List AV:=[I x.1,I x.2]
theorem Pr.len(x:Pr):(Pr.c x).length=2:=rfl
theorem Pr.still(x:Pr):(Pr.c x).all Go.Ix.still1=true:=rfl
def tm(a b c x y:Int):Int:=a+b*x+c*y
theorem tm_bd{a b c x y:Int}(ha:bd a 1000000000000000)(hb:bd b 1000000000000000)(hc:bd c 1000000000000000)(hx:bd x 63)(hy:bd y 63):bd (tm a b c x y) 127000000000000000:=
 ((ha.add (hb.mul hx)).add (hc.mul hy)).mono (by omega)
section
variable{f:Aff}{x y:Int}
theorem AffIn.ts(h:AffIn f)(hx:bd x 63)(hy:bd y 63):bd (tm f.s0 f.s1 f.s2 x y) 127000000000000000:=tm_bd h.s0 h.s1 h.s2 hx hy
end
theorem InB.get{l:List Scene}(h:InB l){k:Nat}(hk:k<l.length):(0<=l[k].day/\l[k].day<=100000)/\(-100000<=l[k].bl/\l[k].bl<=100000):=h _ (xoa hk)
def Pq.v(p:Pq):Value:=.agg [.int .i64 p.a,.int .i64 p.b].toArray
theorem rd_5(a b c d e:AV)(cs:List AV):rd true 5 (a::b::c::d::e::cs)=some (.agg [a,b,c,d,e]):=by rw[rd_t];simp only[xnk];rw[xny (by omega)];rfl
attribute [local simp high] rd_5
variable{a:AV}{l:List Mp}
end Go.Ix
