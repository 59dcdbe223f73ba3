import Derived.Test.YtpeakdjfagbpcaaGreatW7Small
import Derived.Test.YtpeakdjfagbpcaaGreatWAwake7
set_option linter.unusedSimpArgs false
set_option linter.unusedVariables false
namespace Go.Ix
open Go.Proofs
theorem callR{T:AV->Prop}{call:x1uq}{f:FuncId}{l l':List AV}{m:Mem}(hl:l.mapM (Go.Ix.frz m.get deep)=some l')(h:RetF T (call [] f l' mem0)) :
 ∃a m2,T a/\x1ut call f l m=some (a,m2)/\m2.next=m.next/\∀i cs v b,m.get i=some (.row cs v b)->∃b',m2.get i=some (.row cs v b'):=by
 obtain⟨a,m',a',h1,h2,h3⟩:=h
 obtain⟨m2,h4,h5,h6⟩:=x253 hl h1 h2
 exact⟨a',m2,h3,h4,h5,h6⟩
def x1z4(l:List Scene):Bool:=l.all fun s=>decide (s.nm.size<=20)
theorem Scene.stillA(s:Scene):s.c.all still1=true:=rfl
end Go.Ix
