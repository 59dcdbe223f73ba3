import Derived.Test.YtljibmnhhdiakaaWNet
set_option linter.unusedSimpArgs false
namespace Go.Ix
open Go.Proofs
abbrev Ints(a:AV)(l:List Int):Prop:=Sl intE a l
def exI(t:List Int)(e:Edge):Int:=at0 t e.to.toNat-at0 t e.fr.toNat+e.jump
def x1tg(t:List Int):Int->List Edge->Int
 |s,[]=>s
 |s,e::r=>x1tg t (s+e.wt*((exI t e).natAbs:Int)) r
def TurnsIn(t:List Int):Prop:=∀x∈t,-1000000<=x/\x<=1000000
theorem TurnsIn.get{t:List Int}(h:TurnsIn t)(k:Nat):-1000000<=at0 t k/\at0 t k<=1000000:=by
 unfold at0
 rw[List.getD_eq_getElem?_getD]
 cases hk:t[k]? with
 |none=>simp
 |some x=>simpa using h x (List.mem_of_getElem? hk)
structure EdgeIn (n:Nat) (e:Edge):Prop where
 f0:0<=e.fr
 f1:e.fr<n
 t0:0<=e.to
 t1:e.to<n
 j0:-1000<=e.jump
 j1:e.jump<=1000
 w0:0<=e.wt
 w1:e.wt<=1000
theorem x24w(d:Nat){e:Edge}{a:AV}{t:List Int}(ha:Ints a t)(he:EdgeIn t.length e)(ht:TurnsIn t)(m:Mem):x1qq (x1qp (d+1)) x55 [.agg e.c,a] m=some (I (exI t e),m):=by
 have h1:=ht.get e.to.toNat
 have h2:=ht.get e.fr.toNat
 obtain⟨f0,f1,t0,t1,j0,j1,w0,w1⟩:=he
 refine Ans.call0 ?_ (by simp[ha.still,Edge.c]) rfl
 unfold Ans
 rw[xzv]
 unfold xdj xgy
 have i1:=ha.ixI x1rk t0 t1
 have i2:=ha.ixI x1rk f0 f1
 have l1:e.to.toNat<t.length:=by omega
 have l2:e.fr.toNat<t.length:=by omega
 simp(disch:=omega) [Edge.c,i1,i2,mem0,x1rg,exI]
theorem exI_in{t:List Int}{n:Nat}{e:Edge}(he:EdgeIn n e)(ht:TurnsIn t):-2001000<=exI t e/\exI t e<=2001000:=by
 have h1:=ht.get e.to.toNat
 have h2:=ht.get e.fr.toNat
 obtain⟨f0,f1,t0,t1,j0,j1,w0,w1⟩:=he
 unfold exI
 omega
theorem term_in{t:List Int}{n:Nat}{e:Edge}(he:EdgeIn n e)(ht:TurnsIn t):0<=e.wt*((exI t e).natAbs:Int)/\e.wt*((exI t e).natAbs:Int)<=2001000000:=by
 have h1:=exI_in he ht
 have h2:((exI t e).natAbs:Int)<=2001000:=by omega
 refine⟨Int.mul_nonneg he.w0 (by omega),?_⟩
 have:=Int.mul_le_mul he.w1 h2 (by omega) (by omega)
 omega
theorem l_cost(d:Nat)(hs:FHs){ev a:AV}{l:List Edge}{t:List Int}(h:Sl Edge.c ev l)(hl:l.length<=600)(ha:Ints a t)(he:∀e∈l,EdgeIn t.length e)(ht:TurnsIn t):∀(suf:List Edge) (k j:Nat) (s:Int) (m:Mem) (fc:Nat),l.drop k=suf->suf.length<j ->
 0<=s->s<=k*2001000000->∃m',x4j (x1qp (d+1)) hs 0 j a (I s) ev (I l.length) (I k) m fc=some (I (x1tg t s suf),m'):=by
 intro suf
 induction suf with
 |nil=>
  intro k j s m fc hd hj s0 s1
  obtain⟨j,rfl⟩:∃i,j=i+1:=⟨j-1,by simp at hj;omega⟩
  have hk:¬((k:Int)<(l.length:Int)):=by have:=List.drop_eq_nil_iff.mp hd;omega
  simp only[x4j]
  unfold xbi
  simp[hk,x4i,x1tg]
 |cons e r ih=>
  intro k j s m fc hd hj s0 s1
  obtain⟨j,rfl⟩:∃i,j=i+1:=⟨j-1,by simp at hj;omega⟩
  obtain⟨hk,hke,hd⟩:=x1sm hd
  have hk':(k:Int)<(l.length:Int):=by omega
  have ix:=h.ix Edge.len hk
  have ld:=x1vt (m:=m) Edge.len (by omega) hk
  rw[hke]at ld
  have hee:=he e (hke▸List.getElem_mem hk)
  have hx:=exI_in hee ht
  have htm:=term_in hee ht
  have we:=x24w d ha hee ht
  simp only[Edge.c]at we
  obtain⟨m',h'⟩:=ih (k+1) j (s+e.wt*((exI t e).natAbs:Int)) ((m.new (0,fc+3,7) (.row [I 0,I 0,I 0,I 0] 0 false)).set (0,fc+3,7) (.row e.c 0 false)) (fc+17) hd (by simp at hj;omega) (by omega) (by omega)
  simp only[x4j]
  unfold xbi
  simp(disch:=omega) [hk',ix,ld,x1t7,Edge.c,we,w_size,ha.clean,x1tg]
  exact⟨m',h'⟩
theorem w_cost(d:Nat){n:Int}{ev a:AV}{l:List Edge}{t:List Int}(h:Sl Edge.c ev l)(hl:l.length<=600)(ha:Ints a t)(he:∀e∈l,EdgeIn t.length e)(ht:TurnsIn t)(m:Mem):x1ua (x1qp (d+2)) x1x [.agg [I n,ev],a] m=some (I (x1tg t 0 l),m):=by
 obtain⟨m',h'⟩:=l_cost d [] h hl ha he ht l 0 NN 0 ((⟨[],1⟩:Mem).new (0,0,2) (.row [I n,ev] 0 false)) 8 rfl (by rw[x1r6];omega) (by omega) (by omega)
 refine call3 (m':=m') (by simp[h.still1,ha.still]) ?_ rfl
 rw[xl1]
 unfold xa2 xbj x8v
 simp[mem0,h.one,h.len x1v5]
 exact h'
def x1su(p:Int->Bool):Int->List Int->Int
 |_,[]=>-1
 |k,x::r=>bif p x then k else x1su p (k+1) r
theorem x24x{p:Int->Bool}:∀{l:List Int} {k:Int},0<=k->(decide (0<=x1su p k l))=l.any p
 |[],k,_=>rfl
 |x::r,k,h=>by
  unfold x1su
  cases c:p x
  .simp only[cond_false,List.any_cons,c,Bool.false_or];exact x24x (by omega)
  .simp[c,h]
theorem x24y{n:Int}{l:List Edge}(h:Right n l){t:List Int}(ht:(t.length:Int)=n):∀e∈l,EdgeIn t.length e:=by
 intro e he
 obtain⟨⟨a,b⟩,⟨c,d⟩,_,⟨f,g⟩,⟨i,j⟩⟩:=h.ed e he
 exact⟨a,by omega,c,by omega,f,g,i,j⟩
end Go.Ix
