import Derived.Test.YtpeakdjfagbpcaaGreatWg4
import Derived.Test.YtpeakdjfagbpcaaGreatWg8
import Derived.Test.YtpeakdjfagbpcaaGreatWg5
import Derived.Test.YtpeakdjfagbpcaaGreatWg2
import Derived.Test.YtpeakdjfagbpcaaGreatWg6
set_option linter.unusedSimpArgs false
set_option linter.unusedVariables false
namespace Go.Ix
variable{P:List Pq}{n:Nat}{F:List Int}
structure DS (n:Nat) (φ:Int->Int) (O:List Int) (K:List Bool):Prop where
 lo:O.length=n
 lk:K.length=n
 kn:∀v:Int,0<=v->v<n->boA K v=true->at0 O v.toNat=φ v
def Sub(n:Nat)(K L:List Bool):Prop:=∀v:Int,0<=v->v<n->boA K v=true->boA L v=true
def Clo(P:List Pq)(F:List Int)(K L:List Bool):Prop:=∀x,InF F x->boA K (frS P x)=false->boA L (frS P x)=true->boA L (toS P x)=true
def Cls(P:List Pq)(F:List Int)(K:List Bool):Prop:=∀x,InF F x->boA K (frS P x)=true->boA K (toS P x)=true
theorem Clo.trans(hP:∀p∈P,PqIn n p)(hr:∀i∈F,0<=i/\i<P.length){K L M:List Bool}(h:Clo P F K L)(h2:Clo P F L M)(hs:Sub n L M):Clo P F K M:=fun x hx h0 h1=>by
 cases c:boA L (frS P x)with
 |true=>exact hs _ (xxv hP hr hx).2.1 (xxv hP hr hx).2.2 (h x hx h0 c)
 |false=>exact h2 x hx c h1
theorem Cls.walk{K:List Bool}(h:Cls P F K):∀{w:List Sp} {a b:Int},Wk P w a b->AllF F w->boA K a=true->boA K b=true
 |[],_,_,hw,_,ha=>by cases hw;exact ha
 |x::r,a,b,hw,hF,ha=>Cls.walk h hw.2 hF.tail (h x hF.head (by rw[hw.1];exact ha))
def phiL(n:Nat)(φ:Int->Int):List Int:=(List.range n).map fun(v:Nat)=>φ v
theorem phiL_len(n:Nat)(φ:Int->Int):(phiL n φ).length=n:=by simp[phiL]
theorem DS.all{φ:Int->Int}{O:List Int}{K:List Bool}(h:DS n φ O K)(hk:∀j:Nat,j<n->boA K j=true):O=phiL n φ:=by
 apply List.ext_getElem
 .rw[h.lo,phiL_len]
 .intro i h1 h2
  have hi:i<n:=by rw[<-h.lo];exact h1
  have:=h.kn i (by omega) (by omega) (hk i hi)
  rw[Int.toNat_natCast,xva h1]at this
  rw[this]
  simp[phiL]
open Go.Proofs
theorem Clo.refl{P:List Pq}{F:List Int}{K:List Bool}:Clo P F K K:=fun x _ h0 h1=>by rw[h0]at h1;cases h1
def idA:Id:=(0,7,14)
def idK:Id:=(0,12,19)
structure SM (s p f v:AV) (n:Nat) (O:List Int) (K:List Bool) (m:Mem):Prop where
 b2:m.get (0,0,2)=some (.row [s,p] 0 false)
 b3:m.get (0,1,3)=some (.row [f] 0 false)
 b5:m.get (0,13,5)=some (.row [.sref idA 0 0 n 1 true] 0 false)
 b6:m.get (0,14,6)=some (.row [.sref idK 0 0 n 1 true] 0 false)
 b7:m.get (0,19,7)=some (.row [v] 0 false)
 b8:m.get (0,21,8)=some (.row [.clo xjw [.ptr (0,14,6) 0 0,.ptr (0,0,2) 0 0,.ptr (0,19,7) 0 0,.ptr (0,13,5) 0 0,.ptr (0,1,3) 0 0,.ptr (0,21,8) 0 0]] 0 false)
 oA:Ow intE m idA O
 oK:Ow bE m idK K
 nx:1<=m.next
theorem SM.fr{s p f v:AV}{n:Nat}{O:List Int}{K:List Bool}{m m':Mem}(h:SM s p f v n O K m)(hn:1<=m'.next)(hg:∀j:Id,j.1=0->m'.get j=m.get j):SM s p f v n O K m':=
 ⟨by rw[hg _ rfl];exact h.b2,by rw[hg _ rfl];exact h.b3,by rw[hg _ rfl];exact h.b5,by rw[hg _ rfl];exact h.b6,by rw[hg _ rfl];exact h.b7,by rw[hg _ rfl];exact h.b8,h.oA.fr (hg _ rfl),h.oK.fr (hg _ rfl),hn⟩
end Go.Ix
