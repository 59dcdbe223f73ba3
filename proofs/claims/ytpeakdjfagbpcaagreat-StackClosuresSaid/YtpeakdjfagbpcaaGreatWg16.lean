import Derived.Test.YtpeakdjfagbpcaaGreatWg15
import Derived.Test.YtpeakdjfagbpcaaGreatWg13
import Derived.Test.YtpeakdjfagbpcaaGreatWg3
import Derived.Test.YtpeakdjfagbpcaaGreatWg0
import Derived.ProofKit
set_option linter.unusedSimpArgs false
set_option linter.unusedVariables false
namespace Go.Ix
open Go.Proofs
noncomputable def muN(P:Nat->Int)(v:Nat):Nat:=Classical.choose (least_of (P:=fun w=>P w=P v) v rfl)
def Rt(P:Nat->Int)(ls:List Int)(v:Nat):Prop:=at0 ls v=(muN P v:Nat)
noncomputable instance (P:Nat->Int)(ls:List Int)(v:Nat):Decidable (Rt P ls v):=Int.instDecidableEq ..
def nmS(ls:List Int)(s:List Int×Int)(i:Nat):List Int×Int:=
 if at0 ls i=i then(s.1.set i s.2,s.2+1)else(s.1.set i (at0 s.1 (at0 ls i).toNat),s.2)
theorem w_Mod(d:Nat){x y:Int}(h1:0<y)(h2:y<=1000000000000)(m:Mem):x13f (x13e (d+1)) x4m [I x,I y] m=some (I (x % y),m):=by
 refine Ans.call0 ?_ rfl rfl
 unfold Ans
 rw[xm9]
 unfold x9t xbs x7q
 have h3:x.tmod y=if 0<=x\/y ∣ x then x % y else x % y-y:=by
  have:=Int.tmod_eq_emod (a:=x) (b:=y)
  rw[this]
  split<;>omega
 have h4:=Int.emod_nonneg x (show y≠0 by omega)
 have h5:=Int.emod_lt_of_pos x h1
 simp[mem0,sRem_I (show y≠0 by omega)]
 rw[h3]
 split
 .rename_i h
  simp[x53,show ¬(x % y<0) by omega]
 .rename_i h
  have:x % y-y<0:=by omega
  simp(disch:=omega) [x53,this]
theorem at0_app{l:List Int}{x:Int}{k:Nat}:at0 (l++[x]) k=if k<l.length then at0 l k else if k=l.length then x else 0:=by
 unfold at0
 simp only[List.getD_eq_getElem?_getD]
 by_cases h:k<l.length
 .rw[if_pos h,List.getElem?_append_left h]
 .rw[if_neg h,List.getElem?_append_right (by omega)]
  by_cases h2:k=l.length
  .rw[if_pos h2,h2];simp
  .rw[if_neg h2,List.getElem?_eq_none (by simp;omega)];rfl
def OutIn(k:Int)(out:List Int):Prop:=∀i,-(2048*k)<=at0 out i/\at0 out i<=2048*k
theorem OutIn.app{k:Nat}{out:List Int}(h:OutIn k out){x:Int}(h1:-(2048*((k+1:Nat):Int))<=x)(h2:x<=2048*((k+1:Nat):Int)):OutIn ((k+1:Nat):Int) (out++[x]):=by
 intro i
 rw[at0_app]
 have:=h i
 split
 .omega
 .split<;>omega
end Go.Ix
