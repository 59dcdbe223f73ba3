import Derived.Test.YtpeakdjfagbpcaaGreatWg15
import Derived.Test.YtpeakdjfagbpcaaGreatWg13
import Derived.Test.YtpeakdjfagbpcaaGreatWg3
import Derived.Test.YtpeakdjfagbpcaaGreatWg0
import Derived.ProofKit
set_option linter.unusedSimpArgs false
set_option linter.unusedVariables false
namespace Go.Ix
open Go.Proofs
noncomputable def muN(P:Nat->Int)(v:Nat):Nat:=Classical.choose (least_of (P:=fun w=>P w=P v) v rfl)
def Rt(P:Nat->Int)(ls:List Int)(v:Nat):Prop:=at0 ls v=(muN P v:Nat)
noncomputable instance (P:Nat->Int)(ls:List Int)(v:Nat):Decidable (Rt P ls v):=Int.instDecidableEq ..
def nmS(ls:List Int)(s:List Int×Int)(i:Nat):List Int×Int:=
 if at0 ls i=i then(s.1.set i s.2,s.2+1)else(s.1.set i (at0 s.1 (at0 ls i).toNat),s.2)
theorem at0_app{l:List Int}{x:Int}{k:Nat}:at0 (l++[x]) k=if k<l.length then at0 l k else if k=l.length then x else 0:=by
 unfold at0
 simp only[List.getD_eq_getElem?_getD]
 by_cases h:k<l.length
 .rw[if_pos h,List.getElem?_append_left h]
 .rw[if_neg h,List.getElem?_append_right (by omega)]
  by_cases h2:k=l.length
  .rw[if_pos h2,h2];simp
  .rw[if_neg h2,List.getElem?_eq_none (by simp;omega)];rfl
def OutIn(k:Int)(out:List Int):Prop:=∀i,-(2048*k)<=at0 out i/\at0 out i<=2048*k
theorem OutIn.app{k:Nat}{out:List Int}(h:OutIn k out){x:Int}(h1:-(2048*((k+1:Nat):Int))<=x)(h2:x<=2048*((k+1:Nat):Int)):OutIn ((k+1:Nat):Int) (out++[x]):=by
 intro i
 rw[at0_app]
 have:=h i
 split
 .omega
 .split<;>omega
theorem l_Ints(d:Nat)(hs:FHs){a b:AV}{l k:List Int}(ha:Ints a l)(hb:Ints b k)(he:l.length=k.length)(hl:l.length<=1000000):∀(suf suk:List Int) (i j:Nat) (m:Mem) (fc:Nat),l.drop i=suf->k.drop i=suk->suf.length<j ->
 ∃m',x1x (xwy d) hs 0 j a b (I i) m fc=some (B (decide (suf=suk)),m'):=by
 intro suf
 induction suf with
 |nil=>
  intro suk i j m fc hd hk hj
  obtain⟨j,rfl⟩:∃i,j=i+1:=⟨j-1,by simp at hj;omega⟩
  have hd0:=List.drop_eq_nil_iff.mp hd
  have hsk:suk=[]:=by rw[<-hk];exact List.drop_eq_nil_iff.mpr (by omega)
  have hi:¬((i:Int)<(l.length:Int)):=by omega
  simp only[x1x]
  unfold x5a
  simp[ha.len xxy,hi,x1w,hsk]
 |cons x r ih=>
  intro suk i j m fc hd hk hj
  obtain⟨j,rfl⟩:∃i,j=i+1:=⟨j-1,by simp at hj;omega⟩
  obtain⟨hi,hie,hd⟩:=xzi hd
  have hi2:i<k.length:=by omega
  have hk2:suk=at0 k i::k.drop (i+1):=by rw[<-hk,xxx hi2,xxa hi2]
  have hi':(i:Int)<(l.length:Int):=by omega
  have ix:=ha.ix xy2 hi
  have ix2:=hb.ix xy2 hi2
  have e1:at0 l i=x:=by rw[xxa hi,hie]
  simp only[x1x]
  unfold x5a
  simp(disch:=omega) [ha.len xxy,hi',ix,ix2,xzy,e1,hk2]
  by_cases c:x=at0 k i
  .obtain⟨m',h'⟩:=ih _ (i+1) j m (fc+16) hd rfl (by simp at hj;omega)
   simp(disch:=omega) [c]
   exact⟨m',h'⟩
  .simp[c]
theorem w_Ints(d:Nat){a b:AV}{l k:List Int}(ha:Ints a l)(hb:Ints b k)(hl:l.length<=1000000)(m:Mem):xwz (xwy (d+1)) x3j [a,b] m=some (B (decide (l=k)),m):=by
 refine Ans.call0 ?_ (by simp[ha.still,hb.still]) rfl
 unfold Ans
 rw[xhw]
 unfold x7g x94 x5b
 by_cases he:l.length=k.length
 .obtain⟨m',h'⟩:=l_Ints d [] ha hb he hl l k 0 NN ⟨[],1⟩ 7 rfl rfl (by rw[xxb];omega)
  simp[mem0,ha.len xxy,hb.len xxy,he]
  exact⟨m',h'⟩
 .have:¬(l=k):=fun e=>he (by rw[e])
  have he2:¬((l.length:Int)=(k.length:Int)):=by omega
  simp[mem0,ha.len xxy,hb.len xxy,he2,this]
end Go.Ix
