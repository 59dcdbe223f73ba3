import Derived.Test.YtpeakdjfagbpcaaGreatW7Forest3
import Derived.Test.YtpeakdjfagbpcaaGreatW7Copy
set_option linter.unusedSimpArgs false
set_option linter.unusedVariables false
namespace Go.Ix
open Go.Proofs
theorem law_StackForests{s p f:AV}{l:List Scene}{P:List Pq}{F:List Int}(hs:Sl Scene.c s l)(hp:Sl Pq.c p P)(hf:Ints f F):∃m',x1uu 31 [] x57 [.agg [s,p],f] mem0=some (B true,m'):=by
 rw[x113]
 unfold xbf xcb
 simp[mem0,hs.one,hp.one,w_awake7,w_Few7 29 hs hp]
 cases hfw:few7 l P with
 |false=>simp
 |true=>
  simp[hf.len x1xn]
  by_cases h20:(20:Int)<(F.length:Int)
  .simp[h20]
  obtain⟨l1,l2⟩:=few7_len hfw
  obtain⟨s',p',hs',hp',hcp⟩:=x27j 29 hs hp (by omega) (by omega) ((⟨[],1⟩:Mem).new (0,0,2) (.row [s,p] 0 false))
  obtain⟨f',hf',hcf⟩:=x27i 29 hf (by omega) ((⟨[],1⟩:Mem).new (0,0,2) (.row [s,p] 0 false))
  simp[h20,hcp,hcf,x27n 22 hs' hp' hf' (by omega),w_Err7 26 hs hp]
  unfold x97
  by_cases he:(net7 l P).2=0
  .have hR:=x25l he
   simp[he,x27p 27 hs hp hf (by omega) hR]
   unfold x4j
   have hE:cfE l P F=x1vy l.length P F:=by simp[cfE,he]
   simp[hE,cfN]
  .simp[he]
   unfold x4j
   have hE:cfE l P F=(net7 l P).2:=by simp[cfE,he]
   simp[hE,cfN,he]
end Go.Ix
