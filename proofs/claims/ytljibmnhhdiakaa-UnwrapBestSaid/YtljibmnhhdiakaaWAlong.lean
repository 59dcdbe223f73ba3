import Derived.Test.YtljibmnhhdiakaaWMap
import Derived.Test.YtljibmnhhdiakaaWAwake5
set_option linter.unusedSimpArgs false
namespace Go.Ix
open Go.Proofs
def PhIn (l:List Int):Prop:=∀ k,at0 l k=void∨(-2048≤at0 l k∧at0 l k≤2047)
theorem x1uv {l:List Int} (h:x1rb isW l=0):PhIn l:=by
 intro k
 unfold x1rb at h
 cases e:l.any (badP isW)
 ·rw [List.any_eq_false] at e
  by_cases hk:k < l.length
  ·have:=e l[k] (List.getElem_mem hk)
   rw [x1pu hk]
   unfold badP at this
   by_cases c:l[k]=void
   ·exact Or.inl c
   ·right
    simp [c] at this
    exact wi_t this
  ·right
   unfold at0
   rw [List.getD_eq_getElem?_getD,List.getElem?_eq_none (by omega)]
   simp
 ·rw [e] at h;cases h
theorem at0_app {l:List Int} {x:Int} {k:Nat}:at0 (l++[x]) k=if k < l.length then at0 l k else if k=l.length then x else 0:=by
 unfold at0
 simp only [List.getD_eq_getElem?_getD]
 by_cases h:k < l.length
 ·rw [if_pos h,List.getElem?_append_left h]
 ·rw [if_neg h,List.getElem?_append_right (by omega)]
  by_cases h2:k=l.length
  ·rw [if_pos h2,h2];simp
  ·rw [if_neg h2,List.getElem?_eq_none (by simp;omega)];rfl
def OutIn (k:Int) (out:List Int):Prop:=∀ i,-(2048*k)≤at0 out i∧at0 out i≤2048*k
theorem OutIn.app {k:Nat} {out:List Int} (h:OutIn k out) {x:Int} (h1:-(2048*((k+1:Nat):Int))≤x) (h2:x≤2048*((k+1:Nat):Int)):OutIn ((k+1:Nat):Int) (out++[x]):=by
 intro i
 rw [at0_app]
 have:=h i
 split
 ·omega
 ·split<;>omega
theorem x20s {r c:Int} {l:List Int} {p:Int→Bool} (h:x1uu p r c l=0):1≤r∧r≤64∧1≤c∧c≤64∧(l.length:Int)=r*c∧x1rb p l=0:=by
 unfold x1uu x1rq at h
 cases c1:wi r 1 64
 ·simp [c1] at h
 cases c2:wi c 1 64
 ·simp [c1,c2] at h
 by_cases c3:(l.length:Int)=r*c
 ·simp [c1,c2,c3] at h
  have a:=wi_t c1
  have b:=wi_t c2
  exact ⟨a.1,a.2,b.1,b.2,c3,h⟩
 ·simp [c1,c2,c3] at h
theorem l_Ints (d:Nat) (hs:FHs) {a b:AV} {l k:List Int} (ha:Ints a l) (hb:Ints b k) (he:l.length=k.length) (hl:l.length≤1000000):∀ (suf suk:List Int) (i j:Nat) (m:Mem) (fc:Nat),l.drop i=suf→k.drop i=suk→suf.length < j →
 ∃ m',x3j (x1pa d) hs 0 j a b (I i) m fc=some (B (decide (suf=suk)),m'):=by
 intro suf
 induction suf with
 | nil=>
   intro suk i j m fc hd hk hj
   obtain ⟨j,rfl⟩:∃ i,j=i+1:=⟨j - 1,by simp at hj;omega⟩
   have hd0:=List.drop_eq_nil_iff.mp hd
   have hsk:suk=[]:=by rw [← hk];exact List.drop_eq_nil_iff.mpr (by omega)
   have hi:¬ ((i:Int) < (l.length:Int)):=by omega
   simp only [x3j]
   unfold xcd
   simp [ha.len x1pi,hi,x55,hsk]
 | cons x r ih=>
   intro suk i j m fc hd hk hj
   obtain ⟨j,rfl⟩:∃ i,j=i+1:=⟨j - 1,by simp at hj;omega⟩
   obtain ⟨hi,hie,hd⟩:=x1qg hd
   have hi2:i < k.length:=by omega
   have hk2:suk=at0 k i::k.drop (i+1):=by rw [← hk,x1r6 hi2,x1pu hi2]
   have hi':(i:Int) < (l.length:Int):=by omega
   have ix:=ha.ix x1pv hi
   have ix2:=hb.ix x1pv hi2
   have e1:at0 l i=x:=by rw [x1pu hi,hie]
   simp only [x3j]
   unfold xcd
   simp (disch:=omega) [ha.len x1pi,hi',ix,ix2,x1pr,e1,hk2]
   by_cases c:x=at0 k i
   ·obtain ⟨m',h'⟩:=ih _ (i+1) j m (fc+16) hd rfl (by simp at hj;omega)
    simp (disch:=omega) [c]
    exact ⟨m',h'⟩
   ·simp [c]
theorem w_Ints (d:Nat) {a b:AV} {l k:List Int} (ha:Ints a l) (hb:Ints b k) (hl:l.length≤1000000) (m:Mem):x1pb (x1pa (d+1)) x2c [a,b] m=some (B (decide (l=k)),m):=by
 refine Ans.call0 ?_ (by simp [ha.still,hb.still]) rfl
 unfold Ans
 rw [xxv]
 unfold x8p xh7 xce
 by_cases he:l.length=k.length
 ·obtain ⟨m',h'⟩:=l_Ints d [] ha hb he hl l k 0 NN ⟨[],1⟩ 7 rfl rfl (by rw [x1pp];omega)
  simp [mem0,ha.len x1pi,hb.len x1pi,he]
  exact ⟨m',h'⟩
 ·have:¬ (l=k):=fun e=>he (by rw [e])
  have he2:¬ ((l.length:Int)=(k.length:Int)):=by omega
  simp [mem0,ha.len x1pi,hb.len x1pi,he2,this]
end Go.Ix
