import Derived.Test.YtpeakdjfagbpcaaGreatWTurns
set_option linter.unusedSimpArgs false
namespace Go.Ix
open Go.Proofs
theorem Edge.still(e:Edge):e.c.all still1=true:=rfl
theorem x286(d:Nat){a:AV}{l:List Int}(h:Ints a l)(hl:l.length<=1000000)(m:Mem):∃a',Ints a' l/\x1xt (x1xv (d+1)) x2d [a] m=some (a',m):=by
 have hr:x1y5 l.length 8:=by unfold x1y5;omega
 have he:=h.elems x1za
 by_cases h0:l=[]
 .subst h0
  refine⟨.slit [] 0 true,Sl.lit [] true,call0 (m':=⟨[],1⟩) (by simp[h.still]) ?_ rfl⟩
  rw[xj7]
  unfold x8b x9z
  have hr0:x1y5 0 8:=by unfold x1y5;omega
  simp[mem0,he,x24h hr0]
 .have hq:l.length≠0:=by simpa using h0
  have hlen:=x1zs x1za l
  refine⟨.slit (l.flatMap intE) l.length false,Sl.lit l false,x27s (m':=(⟨[],1⟩:Mem).new (0,3,5) (.row (l.flatMap intE) 0 false)) (r:=.sref (0,3,5) 0 0 l.length 1 true) (by simp[h.still]) ?_ ?_⟩
  .rw[xj7]
   unfold x8b x9z
   simp[mem0,he,x24h hr,hq,h0]
  .have:=x231 (objs:=((⟨[],1⟩:Mem).new (0,3,5) (.row (l.flatMap intE) 0 false)).get) (id:=(0,3,5)) (cs:=l.flatMap intE) (ver:=0) (off:=0) (n:=l.length) (z:=1) (k:=4) (f:=false) (x:=true) (by simp) (by omega) (by
    rw[List.drop_zero,List.take_of_length_le (by omega)];exact x220 x25x l)
   rw[List.drop_zero,List.take_of_length_le (by omega)]at this
   exact this
end Go.Ix
