import Derived.Test.YtjdlceelbnaneaaWg5
import Derived.ProofKit
import Derived.Test.YtjdlceelbnaneaaWg6
import Derived.Test.YtjdlceelbnaneaaWBase
set_option linter.unusedSimpArgs false
set_option linter.unusedVariables false
namespace Go.Ix
open Go.Proofs
def sW2(a b:Int):Int:=w64 (a-b)
structure Nm where
 a:Int
 b:Int
 c:Int
 d:Int
 e:Int
 f:Int
 g:Int
 h:Int
 i:Int
 x:Int
 y:Int
 z:Int
abbrev Nm.v(n:Nm):AV:=.agg [I n.a,I n.b,I n.c,I n.d,I n.e,I n.f,I n.g,I n.h,I n.i,I n.x,I n.y,I n.z]
structure Ep where
 day:Int
 bl:Int
 ph:Int
 mg:Int
def Ep.c(e:Ep):List AV:=[I e.day,I e.bl,I e.ph,I e.mg]
def Ep.r(d0:Int)(e:Ep):List AV:=[I (sW2 e.day d0),I e.bl,I 1]
def Ep.p(e:Ep):List AV:=[I e.ph]
theorem Ep.len(e:Ep):e.c.length=4:=rfl
theorem Ep.still(e:Ep):e.c.all still1=true:=rfl
def Cg(x y:Int):Prop:=∃k:Int,x=y+18446744073709551616*k
theorem Cg.refl(x:Int):Cg x x:=⟨0,by omega⟩
theorem w64_rng(n:Int):Cg (w64 n) n/\-9223372036854775808<=w64 n/\w64 n<=9223372036854775807:=by
 rw[x3p]
 have e:IntKind.i64.wrap n=if(n % 18446744073709551616) ≥ 9223372036854775808 then n % 18446744073709551616-18446744073709551616 else n % 18446744073709551616:=by
  show(if(true&&decide (n % (2 ^ 64:Int) ≥ (2 ^ 63:Int)))=true then n % (2 ^ 64:Int)-(2 ^ 64:Int)else n % (2 ^ 64:Int))=_
  simp
 rw[e]
 have h1:=Int.emod_nonneg n (show(18446744073709551616:Int)≠0 by omega)
 have h2:=Int.emod_lt_of_pos n (show(0:Int)<18446744073709551616 by omega)
 have h3:=Int.mul_ediv_add_emod n 18446744073709551616
 split
 .exact⟨⟨-(n / 18446744073709551616)-1,by omega⟩,by omega,by omega⟩
 .exact⟨⟨-(n / 18446744073709551616),by omega⟩,by omega,by omega⟩
theorem Cg.w{x y:Int}(h:Cg x y):Cg (w64 x) y:=by
 obtain⟨k,h⟩:=h
 obtain⟨⟨j,e⟩,-⟩:=w64_rng x
 exact⟨k+j,by rw[e,h];omega⟩
theorem Cg.add{a b x y:Int}(h:Cg a x)(k:Cg b y):Cg (a+b) (x+y):=by
 obtain⟨p,h⟩:=h
 obtain⟨q,k⟩:=k
 exact⟨p+q,by rw[h,k];omega⟩
theorem Cg.sub{a b x y:Int}(h:Cg a x)(k:Cg b y):Cg (a-b) (x-y):=by
 obtain⟨p,h⟩:=h
 obtain⟨q,k⟩:=k
 exact⟨p-q,by rw[h,k];omega⟩
theorem Cg.mul{a b x y:Int}(h:Cg a x)(k:Cg b y):Cg (a*b) (x*y):=by
 obtain⟨p,h⟩:=h
 obtain⟨q,k⟩:=k
 exact⟨x*q+p*y+18446744073709551616*(p*q),by rw[h,k];grind⟩
theorem Cg.fin{x y:Int}(h:Cg x y)(h1:bd x 9223372036854775807)(hb:bd y 9223372036854775807):x=y:=by
 obtain⟨k,h⟩:=h
 unfold bd at *
 omega
theorem Cg.trans{x y z:Int}(h:Cg x y)(e:y=z):Cg x z:=e▸h
theorem e_awake3:((x1v 30 [] xl [] mem0).map (λp=>p.1))=some (B true):=by kernel_rfl
theorem w_awake3(m:Mem):x1t (x1v 30) xl [] m=some (B true,m):=by
 have h:=e_awake3
 rw[xa7]at h
 obtain⟨⟨r,m'⟩,h1,rfl⟩:=h
 exact call0 rfl h1 rfl
end Go.Ix
namespace Go.Ix
variable{R:Type}{m:Mem}
theorem x5h:∀l:List Int,l.flatMap intE=l.map I
 |[]=>rfl
 |x::l=>by rw[xch,x5h l];rfl
theorem x9u(l:List Int):(l.flatMap intE).length=l.length:=by rw[x5h];simp
@[simp high] theorem ldRow_int{l:List Int}{k:Nat}{fz:Bool}(hk:k<l.length):ldRow false 1 0 k (some (.row (l.flatMap intE) 0 fz))=some (I (at0 l k)):=by
  simp only[ldRow,Nat.beq_refl,cond_true,rd,xaq,xah]
  rw[x5h,<-List.map_drop,drop_get hk,at0_lt hk]
  rfl
@[simp high] theorem stRow_int{l:List Int}{k:Nat}{v:Int}(hk:k<l.length):stRow 1 0 k (I v) (some (.row (l.flatMap intE) 0 false))=some (.row ((l.set k v).flatMap intE) 0 false):=by
  have h:(0:Nat)=0/\(I v).cells.length=1/\k+1<=(l.flatMap intE).length/\((I v).cells.all AV.one)=true:=⟨rfl,rfl,by rw[x9u];omega,rfl⟩
  rw[x6m,xb8 h,cond_true]
  simp only[x5h,x1s,cells_I]
  congr 2
  rw[List.map_set,List.set_eq_take_append_cons_drop,xa3 (by simpa using hk)]
  simp
end Go.Ix
