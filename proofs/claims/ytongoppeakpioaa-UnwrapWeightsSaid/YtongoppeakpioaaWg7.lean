import Derived.Test.YtongoppeakpioaaWBase
import Derived.ProofKit
import Derived.Test.YtongoppeakpioaaWg6
import Derived.Laws.StructEq
namespace Go.Ix
theorem e_awake:((x3q 30 [] x2a [] mem0).map (λp=>p.1))=some (B true):=by kernel_rfl
theorem w_awake(m:Mem):x3u (x3q 30) x2a [] m=some (B true,m):=by
 have h:=e_awake
 rw[xgl]at h
 obtain⟨⟨r,m'⟩,h1,rfl⟩:=h
 exact call0 rfl h1 rfl
end Go.Ix
set_option linter.unusedSimpArgs false
namespace Go.Ix
open Go.Proofs
theorem at0_app{l:List Int}{x:Int}{k:Nat}:at0 (l++[x]) k=if k<l.length then at0 l k else if k=l.length then x else 0:=by
 unfold at0
 simp only[xhn]
 by_cases h:k<l.length
 .rw[xgh h,xic h]
 .rw[xgi h,xid (by omega)]
  by_cases h2:k=l.length
  .rw[xgh h2,h2];simp
  .rw[xgi h2,xjt (by simp;omega)];rfl
def OutIn(k:Int)(out:List Int):Prop:=∀i,-(2048*k)<=at0 out i/\at0 out i<=2048*k
theorem OutIn.app{k:Nat}{out:List Int}(h:OutIn k out){x:Int}(h1:-(2048*((k+1:Nat):Int))<=x)(h2:x<=2048*((k+1:Nat):Int)):OutIn ((k+1:Nat):Int) (out++[x]):=by
 intro i
 rw[at0_app]
 have:=h i
 split
 .omega
 .split<;>omega
theorem l_Ints(d:Nat)(hs:FHs){a b:AV}{l k:List Int}(ha:Ints a l)(hb:Ints b k)(he:l.length=k.length)(hl:l.length<=1000000):∀(suf suk:List Int) (i j:Nat) (m:Mem) (fc:Nat),l.drop i=suf->k.drop i=suk->suf.length<j ->
 ∃m',xw (x3q d) hs 0 j a b (I i) m fc=some (B (decide (suf=suk)),m'):=by
 intro suf
 induction suf with
 |nil=>
  intro suk i j m fc hd hk hj
  obtain⟨j,rfl⟩:∃i,j=i+1:=⟨j-1,by simp at hj;omega⟩
  have hd0:=xjm.mp hd
  have hsk:suk=[]:=by rw[<-hk];exact xjm.mpr (by omega)
  have hi:¬((i:Int)<(l.length:Int)):=by omega
  simp only[xw]
  unfold x1g
  simp[ha.len x6u,hi,x2n,hsk]
 |cons x r ih=>
  intro suk i j m fc hd hk hj
  obtain⟨j,rfl⟩:∃i,j=i+1:=⟨j-1,by simp at hj;omega⟩
  obtain⟨hi,hie,hd⟩:=x8s hd
  have hi2:i<k.length:=by omega
  have hk2:suk=at0 k i::k.drop (i+1):=by rw[<-hk,x6f hi2,x80 hi2]
  have hi':(i:Int)<(l.length:Int):=by omega
  have ix:=ha.ix x7j hi
  have ix2:=hb.ix x7j hi2
  have e1:at0 l i=x:=by rw[x80 hi,hie]
  simp only[xw]
  unfold x1g
  simp(disch:=omega) [ha.len x6u,hi',ix,ix2,ld_int,e1,hk2]
  by_cases c:x=at0 k i
  .obtain⟨m',h'⟩:=ih _ (i+1) j m (fc+16) hd rfl (by simp at hj;omega)
   simp(disch:=omega) [c]
   exact⟨m',h'⟩
  .simp[c]
theorem w_Ints(d:Nat){a b:AV}{l k:List Int}(ha:Ints a l)(hb:Ints b k)(hl:l.length<=1000000)(m:Mem):x3u (x3q (d+1)) xe [a,b] m=some (B (decide (l=k)),m):=by
 refine Ans.call0 ?_ (by simp[ha.still,hb.still]) rfl
 unfold Ans
 rw[x2w]
 unfold x20 x1h x2o
 by_cases he:l.length=k.length
 .obtain⟨m',h'⟩:=l_Ints d [] ha hb he hl l k 0 NN ⟨[],1⟩ 7 rfl rfl (by rw[x7k];omega)
  simp[mem0,ha.len x6u,hb.len x6u,he]
  exact⟨m',h'⟩
 .have:¬(l=k):=λe=>he (by rw[e])
  have he2:¬((l.length:Int)=(k.length:Int)):=by omega
  simp[mem0,ha.len x6u,hb.len x6u,he2,this]
end Go.Ix
set_option linter.unusedVariables false
namespace Go.Ix
open Go.Proofs
end Go.Ix
namespace Go.Ix
open Go.Proofs
variable{P:Program}
end Go.Ix
