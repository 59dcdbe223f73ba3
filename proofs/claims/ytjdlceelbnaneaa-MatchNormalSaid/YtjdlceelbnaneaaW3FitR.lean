import Derived.Test.YtjdlceelbnaneaaWg9
set_option linter.unusedSimpArgs false
set_option linter.unusedVariables false
namespace Go.Ix
open Go.Proofs
attribute [local simp high] rd_5
variable{a:AV}{l:List Mp}
theorem w_fit3(d:Nat)(ha:Pts a l)(hl:l.length<=13)(hin:x5s l)(hD:0<DD l)(m:Mem):x5c (x59 (d+3)) x11 [a] m=some (.agg (fitM l).c,m):=by
 refine x5x (by simp[ha.still]) ?_ m
 rw[x4g]
 unfold x35 x2m x3z
 have hlen:sLen Try.prog x19 a=some (I l.length):=ha.len xf4
 simp[mem0,xa7,z_norm3,z_2row,hlen]
 rw[show(0:Int)=((0:Nat):Int)from rfl]
 refine l_fitP (d+1) [] (RetF λx=>x=.agg (fitM l).c) ha hl hin l 0 NN _ _ rfl (by rw[x6l];omega) (by simp[x7n,row9,sN,sA,sB,sC,sD,sE,su]) (by simp[x7o,of0,of1,of2,su]) λm' fc' h3 h4 h2 hn=>?_
 obtain⟨m2,h⟩:=b_fit6 d [] ha hl hin hD (fc:=fc') h3 h4 (by rw[h2];simp) (by rw[hn];simp)
 exact⟨_,_,_,h,xa0 _ 4 (by simp[Aff.c]),rfl⟩
end Go.Ix
