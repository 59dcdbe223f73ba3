import Derived.Test.YtpeakdjfagbpcaaGreatW7Union
set_option linter.unusedSimpArgs false
set_option linter.unusedVariables false
namespace Go.Ix
open Go.Proofs
theorem Rng.take{n:Nat}{P:List Pq}{F:List Int}(h:Rng n P F)(k:Nat):Rng n P (F.take k):=fun i hi=>h i (List.mem_of_mem_take hi)
structure Right7 (l:List Scene) (P:List Pq):Prop where
 ll:l.length<=60
 ib:InB l
 pl:P.length<=200
 pr:∀p∈P,PqIn l.length p
 nd:P.Nodup
theorem x278{n:Int}{P:List Pq}:∀(suf:List Pq) (k:Nat),P.drop k=suf->(x1zr n P k suf).2=0->(∀p∈suf,(0<=p.a/\p.a<p.b)/\p.b<n)/\((P.take k).Nodup->P.Nodup)
 |[],k,hd,_=>⟨fun p hp=>(by cases hp),fun h=>by
  have:P.length<=k:=List.drop_eq_nil_iff.mp hd
  rwa[List.take_of_length_le this]at h⟩
 |x::r,k,hd,h=>by
  obtain⟨hk,he,hd⟩:=x215 hd
  simp only[x1zr]at h
  cases c1:wi x.a 0 (n-1)with
  |false=>simp[c1]at h
  |true=>
   cases c2:wi x.b 0 (n-1)with
   |false=>simp[c1,c2]at h
   |true=>
    by_cases c3:x.b<=x.a
    .simp[c1,c2,c3]at h
    .cases c4:(P.take k).any fun q=>q.same x with
     |true=>simp[c1,c2,c3,c4]at h
     |false=>
      simp[c1,c2,c3,c4]at h
      obtain⟨i1,i2⟩:=x278 r (k+1) hd h
      refine⟨fun p hp=>?_,fun hn=>i2 ?_⟩
      .have:=wi_t c1
       have:=wi_t c2
       rcases List.mem_cons.mp hp with rfl|hp
       .omega
       .exact i1 p hp
      .rw[List.take_succ_eq_append_getElem hk,List.nodup_append]
       refine⟨hn,by simp,fun a ha b hb e=>?_⟩
       simp at hb
       rw[List.any_eq_false]at c4
       have:=c4 a ha
       rw[e,hb,he,Pq.same_self]at this
       exact this rfl
theorem x279{l:List Scene}{P:List Pq}(h:(net7 l P).2=0):Right7 l P:=by
 unfold net7 at h
 by_cases he:(x1y8 l).2=0
 .obtain⟨hl,hb⟩:=x250 he
  simp[he]at h
  by_cases h2:200<P.length
  .simp[h2]at h
  .simp[h2]at h
   obtain⟨i1,i2⟩:=x278 P 0 rfl h
   exact⟨hl,hb,by omega,fun p hp=>by have:=i1 p hp;exact⟨by omega,by omega,by omega⟩,i2 (by simp)⟩
 .simp[he]at h
theorem Right7.at{l:List Scene}{P:List Pq}(h:Right7 l P){i:Int}(hi:0<=i/\i<P.length):PqIn l.length (prAt P i):=x23q h.pr hi
end Go.Ix
