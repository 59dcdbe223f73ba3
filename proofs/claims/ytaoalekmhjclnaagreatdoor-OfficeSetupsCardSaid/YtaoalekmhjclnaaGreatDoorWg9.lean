import Derived.Test.YtaoalekmhjclnaaGreatDoorWg2
import Derived.Test.YtaoalekmhjclnaaGreatDoorWg1
set_option linter.unusedSimpArgs false
namespace Go.Ix
open Go.Proofs
structure RPlan (l:List Ps) (kl:List Lk) (gap sto:Int):Prop where
 ok:(planM l kl gap sto).2=0
 len:l.length<=40
 klen:kl.length<=20
 gap0:0<=gap/\gap<=1000000
 sto0:0<=sto/\sto<=1000000
 ps:∀(k:Nat) (h:k<l.length),pwErr (l.take k) l[k]=0
 ls:∀(k:Nat) (h:k<kl.length),lkBad (kl.take k) kl[k]=0
theorem pw_ok{l:List Ps}{x:Ps}(h:pwErr l x=0):(0<=x.fr/\x.fr<=1000000000)/\(0<=x.to/\x.to<=1000000000)/\(0<=x.va/\x.va<=1000000)/\(0<=x.da/\x.da<=1000000)/\x.fr<x.to/\∀y,l.getLast?=some y->y.to<=x.to:=by
 unfold pwErr at h
 by_cases hq:x19o x.nm (l.map Ps.nm)=0
 .rw[hq]at h
  simp only[ne_eq,not_true,x1sm,x199,pw2]at h
  cases h1:wi x.fr 0 1000000000<;>cases h2:wi x.to 0 1000000000<;>cases h3:wi x.va 0 1000000<;>cases h4:wi x.da 0 1000000<;>simp[h1,h2,h3,h4]at h
  by_cases hb:x.to<=x.fr
  .simp[hb]at h
  .simp only[hb,x1sm,x199]at h
   simp only[wi,x1sl,x1tt]at h1 h2 h3 h4
   refine⟨by omega,by omega,by omega,by omega,by omega,λy hy=>?_⟩
   rw[hy]at h
   by_cases hz:x.to<y.to
   .simp[hz]at h
   .omega
 .simp[hq]at h
theorem RPlan.at{l:List Ps}{kl:List Lk}{gap sto:Int}(R:RPlan l kl gap sto){x:Ps}(hx:x∈l):(0<=x.fr/\x.fr<=1000000000)/\(0<=x.to/\x.to<=1000000000)/\(0<=x.va/\x.va<=1000000)/\(0<=x.da/\x.da<=1000000)/\x.fr<x.to:=by
 obtain⟨k,hk,rfl⟩:=x1wb hx
 have:=pw_ok (R.ps k hk)
 exact⟨this.1,this.2.1,this.2.2.1,this.2.2.2.1,this.2.2.2.2.1⟩
end Go.Ix
