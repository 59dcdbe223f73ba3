import Derived.Test.YtljibmnhhdiakaaWMap
import Derived.Test.YtljibmnhhdiakaaWAwake5
set_option linter.unusedSimpArgs false
namespace Go.Ix
open Go.Proofs
def PhIn(l:List Int):Prop:=∀k,at0 l k=void\/(-2048<=at0 l k/\at0 l k<=2047)
theorem x1w0{l:List Int}(h:x1st isW l=0):PhIn l:=by
 intro k
 unfold x1st at h
 cases e:l.any (badP isW)
 .rw[List.any_eq_false]at e
  by_cases hk:k<l.length
  .have:=e l[k] (List.getElem_mem hk)
   rw[x1ri hk]
   unfold badP at this
   by_cases c:l[k]=void
   .exact Or.inl c
   .right
    simp[c]at this
    exact wi_t this
  .right
   unfold at0
   rw[List.getD_eq_getElem?_getD,List.getElem?_eq_none (by omega)]
   simp
 .rw[e]at h;cases h
theorem at0_app{l:List Int}{x:Int}{k:Nat}:at0 (l++[x]) k=if k<l.length then at0 l k else if k=l.length then x else 0:=by
 unfold at0
 simp only[List.getD_eq_getElem?_getD]
 by_cases h:k<l.length
 .rw[if_pos h,List.getElem?_append_left h]
 .rw[if_neg h,List.getElem?_append_right (by omega)]
  by_cases h2:k=l.length
  .rw[if_pos h2,h2];simp
  .rw[if_neg h2,List.getElem?_eq_none (by simp;omega)];rfl
def OutIn(k:Int)(out:List Int):Prop:=∀i,-(2048*k)<=at0 out i/\at0 out i<=2048*k
theorem OutIn.app{k:Nat}{out:List Int}(h:OutIn k out){x:Int}(h1:-(2048*((k+1:Nat):Int))<=x)(h2:x<=2048*((k+1:Nat):Int)):OutIn ((k+1:Nat):Int) (out++[x]):=by
 intro i
 rw[at0_app]
 have:=h i
 split
 .omega
 .split<;>omega
theorem x22x{r c:Int}{l:List Int}{p:Int->Bool}(h:x1wl p r c l=0):1<=r/\r<=64/\1<=c/\c<=64/\(l.length:Int)=r*c/\x1st p l=0:=by
 unfold x1wl x1td at h
 cases c1:wi r 1 64
 .simp[c1]at h
 cases c2:wi c 1 64
 .simp[c1,c2]at h
 by_cases c3:(l.length:Int)=r*c
 .simp[c1,c2,c3]at h
  have a:=wi_t c1
  have b:=wi_t c2
  exact⟨a.1,a.2,b.1,b.2,c3,h⟩
 .simp[c1,c2,c3]at h
end Go.Ix
