import Derived.Test.YtpeakdjfagbpcaaGreatWg3
import Derived.Test.YtpeakdjfagbpcaaGreatWg7
import Derived.Test.YtpeakdjfagbpcaaGreatWg5
import Derived.Test.YtpeakdjfagbpcaaGreatWg6
set_option linter.unusedSimpArgs false
set_option linter.unusedVariables false
namespace Go.Ix
open Go.Proofs
def InN(n:Nat)(L:List Int):Prop:=∀x∈L,0<=x/\x<n
theorem InN.get{n:Nat}{L:List Int}(h:InN n L){k:Nat}(hk:k<L.length):0<=at0 L k/\at0 L k<n:=by rw[xva hk];exact h _ (List.getElem_mem hk)
theorem InN.set{n:Nat}{L:List Int}(h:InN n L){k:Nat}{x:Int}(hx:0<=x/\x<n):InN n (L.set k x):=fun y hy=>by
 rcases List.mem_or_eq_of_mem_set hy with hy|rfl
 .exact h y hy
 .exact hx
theorem ord_rng{f:Int->Int}{N:Nat}:InN N (ordM f N):=fun x hx=>((x121 f N).2 x).mp hx
theorem ord_len(f:Int->Int)(N:Nat):(ordM f N).length=N:=by
 have:=x16o (x121 f N).nodup (x16p N).nodup fun x=>((x121 f N).2 x).trans fresh_mem.symm
 rw[this];simp[freshM]
def GkF(ok:Id->Prop)(m:Mem)(a:AV)(l:List Int):Prop:=(a=nilS/\l=[])\/∃id ver b,ok id/\a=.sref id ver 0 l.length 1 true/\m.get id=some (.row (l.flatMap intE) ver b)
theorem GkF.frame{ok:Id->Prop}{m m':Mem}{a:AV}{l:List Int}(h:GkF ok m a l)(hm:∀id,ok id->m'.get id=m.get id):GkF ok m' a l:=by
 rcases h with h|⟨id,ver,b,h0,h1,h2⟩
 .exact Or.inl h
 .exact Or.inr ⟨id,ver,b,h0,h1,by rw[hm _ h0];exact h2⟩
def BestI(f:Int->Int)(S:List Int)(i:Nat)(b:Int):Prop:=(b=-1/\∀j:Nat,j<i->(j:Int)∈S)\/((0<=b/\b<i)/\b∉S/\∀j:Nat,j<i->(j:Int)∉S->(j:Int)=b\/lx f b j)
theorem BestI.fin{f:Int->Int}{N:Nat}{k:Nat}{b:Int}(h:BestI f ((ordM f N).take k) N b)(hk:k<N):b=at0 (ordM f N) k:=by
 have hl:=ord_len f N
 have hO:=x121 f N
 have hkl:k<(ordM f N).length:=by omega
 have hx:=(InN.get (ord_rng (f:=f) (N:=N)) hkl)
 have hnd:=hO.nodup
 have hxn:at0 (ordM f N) k∉(ordM f N).take k:=fun hm=>by
  obtain⟨j,hj,e⟩:=List.mem_iff_getElem.mp hm
  rw[List.getElem_take,xva hkl]at e
  simp at hj
  exact List.pairwise_iff_getElem.mp hnd j k (by omega) hkl (by omega) e
 rcases h with ⟨h1,h2⟩|⟨h1,h2,h3⟩
 .have:=h2 (at0 (ordM f N) k).toNat (by omega)
  rw[Int.toNat_of_nonneg hx.1]at this
  exact absurd this hxn
 .have h4:=h3 (at0 (ordM f N) k).toNat (by omega) (by rw[Int.toNat_of_nonneg hx.1];exact hxn)
  rw[Int.toNat_of_nonneg hx.1]at h4
  rcases h4 with e|e
  .exact e.symm
  .have hb:b∈ordM f N:=(hO.2 b).mpr h1
   rw[<-List.take_append_drop k (ordM f N),List.mem_append]at hb
   have hb2:=hb.resolve_left h2
   rw[xvs hkl,List.mem_cons]at hb2
   rcases hb2 with e2|e2
   .rw[xva hkl];exact e2
   .have hs:=hO.1
    rw[<-List.take_append_drop k (ordM f N),xvs hkl]at hs
    have:=(List.pairwise_cons.mp (List.pairwise_append.mp hs).2.1).1 b e2
    rw[xva hkl]at e
    exact(lx_asym _ _ this e).elim
def DoneI(f:Int->Int)(N k:Nat)(D:List Bool):Prop:=D.length=N/\∀i:Nat,i<N->D.getD i false=decide ((i:Int)∈(ordM f N).take k)
theorem DoneI.next{f:Int->Int}{N k:Nat}{D:List Bool}(h:DoneI f N k D)(hk:k<N):DoneI f N (k+1) (D.set (at0 (ordM f N) k).toNat true):=by
 have hl:=ord_len f N
 have hkl:k<(ordM f N).length:=by omega
 have hx:=InN.get (ord_rng (f:=f) (N:=N)) hkl
 refine⟨by simp[h.1],fun i hi=>?_⟩
 rw[List.take_succ_eq_append_getElem hkl,<-xva hkl,List.getD_eq_getElem?_getD,List.getElem?_set]
 have h2:=h.2 i hi
 rw[List.getD_eq_getElem?_getD]at h2
 by_cases c:(at0 (ordM f N) k).toNat=i
 .rw[if_pos c,if_pos (by rw[h.1];omega)]
  have:(i:Int)=at0 (ordM f N) k:=by omega
  simp[this]
 .rw[if_neg c,h2]
  have:¬(i:Int)=at0 (ordM f N) k:=by omega
  simp[this]
end Go.Ix
