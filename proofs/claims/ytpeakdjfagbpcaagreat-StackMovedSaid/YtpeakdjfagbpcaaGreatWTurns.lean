import Derived.Test.YtpeakdjfagbpcaaGreatWNet
set_option linter.unusedSimpArgs false
namespace Go.Ix
open Go.Proofs
abbrev Ints(a:AV)(l:List Int):Prop:=Sl intE a l
def TurnsIn(t:List Int):Prop:=∀x∈t,-1000000<=x/\x<=1000000
theorem TurnsIn.get{t:List Int}(h:TurnsIn t)(k:Nat):-1000000<=at0 t k/\at0 t k<=1000000:=by
 unfold at0
 rw[List.getD_eq_getElem?_getD]
 cases hk:t[k]? with
 |none=>simp
 |some x=>simpa using h x (List.mem_of_getElem? hk)
def Tells(call:x1xq)(f:AV)(p:Int->Bool):Prop:=∀(hs:FHs) (x:Int) (m:Mem),∃n,x1ys call hs 2 f [I x] m=some (B (p x),⟨m.hp,n⟩)
def x221(p:Int->Bool):Int->List Int->Int
 |_,[]=>-1
 |k,x::r=>bif p x then k else x221 p (k+1) r
theorem x27t{p:Int->Bool}:∀{l:List Int} {k:Int},0<=k->(decide (0<=x221 p k l))=l.any p
 |[],k,_=>rfl
 |x::r,k,h=>by
  unfold x221
  cases c:p x
  .simp only[cond_false,List.any_cons,c,Bool.false_or];exact x27t (by omega)
  .simp[c,h]
theorem x29q(d:Nat)(hs:FHs){a f:AV}{l:List Int}{p:Int->Bool}(h:Ints a l)(hl:l.length<1000000)(hf:Tells (x1xv d) f p)(u:Nat):∀(suf:List Int) (k j:Nat) (m:Mem) (fc:Nat),l.drop k=suf->suf.length<j ->
 ∃n,x2u (x1xv d) hs u j a f (I l.length) (I k) m fc=some (I (x221 p k suf),⟨m.hp,n⟩):=by
 intro suf
 induction suf with
 |nil=>
  intro k j m fc hd hj
  obtain⟨j,rfl⟩:∃i,j=i+1:=⟨j-1,by simp at hj;omega⟩
  have hk:¬((k:Int)<(l.length:Int)):=by have:=List.drop_eq_nil_iff.mp hd;omega
  simp only[x2u]
  unfold xas
  simp[hk,x2t,x221]
  exact⟨m.next,rfl⟩
 |cons x r ih=>
  intro k j m fc hd hj
  obtain⟨j,rfl⟩:∃i,j=i+1:=⟨j-1,by simp at hj;omega⟩
  obtain⟨hk,hke,hd⟩:=x215 hd
  have hk':(k:Int)<(l.length:Int):=by omega
  have ix:=h.ix x1za hk
  have e1:at0 l k=x:=by rw[x1yt hk,hke]
  obtain⟨n1,h1⟩:=hf hs x m
  obtain⟨n2,h2⟩:=ih (k+1) j ⟨m.hp,n1⟩ (fc+11) hd (by simp at hj;omega)
  simp only[x2u]
  unfold xas
  simp(disch:=omega) [hk',ix,x21z,e1,h1,x221]
  cases c:p x
  .simp(disch:=omega)
   exact⟨n2,h2⟩
  .simp
theorem x29r(d:Nat)(hs:FHs){a f:AV}{l:List Int}{p:Int->Bool}(h:Ints a l)(hl:l.length<1000000)(hf:Tells (x1xv d) f p)(m:Mem):∃n,x1xv (d+1) hs x33 [a,f] m=some (I (x221 p 0 l),⟨m.hp,n⟩):=by
 obtain⟨n,h'⟩:=x29q d hs h hl hf m.next l 0 NN ⟨m.hp,m.next+1⟩ 4 rfl (by rw[x1zi];omega)
 refine⟨n,?_⟩
 rw[x13f]
 unfold xbo xe1 xat
 simp[h.len x1z4]
 exact h'
theorem x29s(d:Nat)(hs:FHs){a f:AV}{l:List Int}{p:Int->Bool}(h:Ints a l)(hl:l.length<1000000)(hf:Tells (x1xv d) f p)(m:Mem):∃n,x1xv (d+2) hs x1d [a,f] m=some (B (l.any p),⟨m.hp,n⟩):=by
 obtain⟨n,h'⟩:=x29r d hs h hl hf ⟨m.hp,m.next+1⟩
 refine⟨n,?_⟩
 rw[x139]
 unfold xc7 xdm
 simp only[h',Option.bind_some,sGe_I,x27t (Int.le_refl 0)]
theorem x29t(d:Nat){a f:AV}{l:List Int}{p:Int->Bool}(h:Ints a l)(hl:l.length<1000000)(hf:Tells (x1xv d) f p)(hs:still f=true)(m:Mem):x1xt (x1xv (d+2)) x1d [a,f] m=some (B (l.any p),m):=by
 obtain⟨n,h'⟩:=x29s d [] h hl hf mem0
 exact call0 (by simp[h.still,hs]) h' rfl
end Go.Ix
