import Derived.Test.YtljibmnhhdiakaaWLawSolves
import Derived.Test.YtljibmnhhdiakaaWgE
import Derived.Test.YtljibmnhhdiakaaWgF
import Derived.Test.YtljibmnhhdiakaaWAlong
set_option linter.unusedSimpArgs false
set_option linter.unusedVariables false
namespace Go.Ix
open Go.Proofs
def x1v9(ph T:List Int):List Int:=(List.range ph.length).map fun i=>if at0 ph i=void then 0 else at0 T i
theorem x23b(ph T:List Int):(x1v9 ph T).length=ph.length:=by simp[x1v9]
theorem x23c{ph T:List Int}{i:Nat}(h:i<ph.length):at0 (x1v9 ph T) i=if at0 ph i=void then 0 else at0 T i:=by
 rw[x1ri (by rw[x23b];exact h)]
 simp[x1v9]
theorem x26u{ph T:List Int}(hph:PhIn ph)(hT:∀k,-12000<=at0 T k/\at0 T k<=12000):∀(r k:Nat) (out:List Int),k+r=ph.length->out=(x1v9 ph T).take k ->
 x1sn out (ph.drop k) ((unwM ph.length ph T).drop k)=(x1v9 ph T,0)
 |0,k,out,hk,ho=>by
  have hk':k=ph.length:=by omega
  subst hk'
  rw[List.drop_length,ho,List.take_of_length_le (by rw[x23b];exact Nat.le_refl _)]
  rfl
 |r+1,k,out,hk,ho=>by
  have hkl:k<ph.length:=by omega
  have hku:k<(unwM ph.length ph T).length:=by rw[x1w1];exact hkl
  have hkt:k<(x1v9 ph T).length:=by rw[x23b];exact hkl
  have ih:=x26u hph hT r (k+1) ((x1v9 ph T).take (k+1)) (by omega) rfl
  have eg:=x26l (ph:=ph) (tu:=T) hkl
  have et:=x23c (T:=T) hkl
  rw[x1ri hkt]at et
  have hp:=hph k
  have ht:=hT k
  rw[x1t5 hkl,x1t5 hku,eg,<-x1ri hkl]
  rw[List.take_succ_eq_append_getElem hkt,<-ho,et]at ih
  by_cases c:at0 ph k=void
  .rw[if_pos c]at ih ⊢
   simp only[x1sn]
   rw[decide_eq_true c]
   simpa using ih
  .rw[if_neg c]at ih ⊢
   have hne:¬(at0 ph k+at0 T k*4096=void):=by unfold void;omega
   have h1:isP (at0 ph k+at0 T k*4096)=true:=wi_iff.mpr ⟨by omega,by omega⟩
   have h2:(at0 ph k+at0 T k*4096-at0 ph k) % 4096=0:=by omega
   have h3:(at0 ph k+at0 T k*4096-at0 ph k).tdiv 4096=at0 T k:=by
    rw[show at0 ph k+at0 T k*4096-at0 ph k=at0 T k*4096 by omega]
    exact Int.mul_tdiv_cancel _ (by omega)
   simp only[x1sn]
   rw[decide_eq_false c,decide_eq_false hne,h1,decide_eq_true h2,h3]
   simpa using ih
theorem x298{r c:Int}{ph T:List Int}(hph:PhIn ph)(hT:∀k,-12000<=at0 T k/\at0 T k<=12000):x1s9 r c ph r c (unwM ph.length ph T)=(x1v9 ph T,0):=by
 have:=x26u hph hT ph.length 0 [] (by omega) (by simp)
 unfold x1s9
 simp only[List.drop_zero]at this
 simp[x1w1,this]
end Go.Ix
