import Derived.Test.YtljibmnhhdiakaaWNet
set_option linter.unusedSimpArgs false
namespace Go.Ix
open Go.Proofs
abbrev Ints (a:AV) (l:List Int):Prop:=Sl intE a l
def exI (t:List Int) (e:Edge):Int:=at0 t e.to.toNat - at0 t e.fr.toNat+e.jump
def x1r2 (t:List Int):Int→List Edge→Int
 | s,[]=>s
 | s,e::r=>x1r2 t (s+e.wt*((exI t e).natAbs:Int)) r
def TurnsIn (t:List Int):Prop:=∀ x∈t,-1000000≤x∧x≤1000000
theorem TurnsIn.get {t:List Int} (h:TurnsIn t) (k:Nat):-1000000≤at0 t k∧at0 t k≤1000000:=by
 unfold at0
 rw [List.getD_eq_getElem?_getD]
 cases hk:t[k]? with
 | none=>simp
 | some x=>simpa using h x (List.mem_of_getElem? hk)
structure EdgeIn (n:Nat) (e:Edge):Prop where
 f0:0≤e.fr
 f1:e.fr < n
 t0:0≤e.to
 t1:e.to < n
 j0:-1000≤e.jump
 j1:e.jump≤1000
 w0:0≤e.wt
 w1:e.wt≤1000
theorem w_excess (d:Nat) {e:Edge} {a:AV} {t:List Int} (ha:Ints a t) (he:EdgeIn t.length e) (ht:TurnsIn t) (m:Mem):x1pb (x1pa (d+1)) x5n [.agg e.c,a] m=some (I (exI t e),m):=by
 have h1:=ht.get e.to.toNat
 have h2:=ht.get e.fr.toNat
 obtain ⟨f0,f1,t0,t1,j0,j1,w0,w1⟩:=he
 refine Ans.call0 ?_ (by simp [ha.still,Edge.c]) rfl
 unfold Ans
 rw [xyo]
 unfold x8b xib
 have i1:=ha.ixI x1pv t0 t1
 have i2:=ha.ixI x1pv f0 f1
 have l1:e.to.toNat < t.length:=by omega
 have l2:e.fr.toNat < t.length:=by omega
 simp (disch:=omega) [Edge.c,i1,i2,mem0,x1pr,exI]
theorem w_Excess (d:Nat) {e:Edge} {a:AV} {t:List Int} (ha:Ints a t) (he:EdgeIn t.length e) (ht:TurnsIn t) (m:Mem):x1pb (x1pa (d+1)) x5z [.agg e.c,a] m=some (I (exI t e),m):=by
 have h1:=ht.get e.to.toNat
 have h2:=ht.get e.fr.toNat
 obtain ⟨f0,f1,t0,t1,j0,j1,w0,w1⟩:=he
 refine Ans.call0 ?_ (by simp [ha.still,Edge.c]) rfl
 unfold Ans
 rw [xyr]
 unfold x9r xie
 have i1:=ha.ixI x1pv t0 t1
 have i2:=ha.ixI x1pv f0 f1
 have l1:e.to.toNat < t.length:=by omega
 have l2:e.fr.toNat < t.length:=by omega
 simp (disch:=omega) [Edge.c,i1,i2,mem0,x1pr,exI]
theorem exI_in {t:List Int} {n:Nat} {e:Edge} (he:EdgeIn n e) (ht:TurnsIn t):-2001000≤exI t e∧exI t e≤2001000:=by
 have h1:=ht.get e.to.toNat
 have h2:=ht.get e.fr.toNat
 obtain ⟨f0,f1,t0,t1,j0,j1,w0,w1⟩:=he
 unfold exI
 omega
theorem term_in {t:List Int} {n:Nat} {e:Edge} (he:EdgeIn n e) (ht:TurnsIn t):0≤e.wt*((exI t e).natAbs:Int)∧e.wt*((exI t e).natAbs:Int)≤2001000000:=by
 have h1:=exI_in he ht
 have h2:((exI t e).natAbs:Int)≤2001000:=by omega
 refine ⟨Int.mul_nonneg he.w0 (by omega),?_⟩
 have:=Int.mul_le_mul he.w1 h2 (by omega) (by omega)
 omega
theorem l_cost (d:Nat) (hs:FHs) {ev a:AV} {l:List Edge} {t:List Int} (h:Sl Edge.c ev l) (hl:l.length≤600) (ha:Ints a t) (he:∀ e∈l,EdgeIn t.length e) (ht:TurnsIn t):∀ (suf:List Edge) (k j:Nat) (s:Int) (m:Mem) (fc:Nat),l.drop k=suf→suf.length < j →
 0≤s→s≤k*2001000000→∃ m',x3n (x1pa (d+1)) hs 0 j a (I s) ev (I l.length) (I k) m fc=some (I (x1r2 t s suf),m'):=by
 intro suf
 induction suf with
 | nil=>
   intro k j s m fc hd hj s0 s1
   obtain ⟨j,rfl⟩:∃ i,j=i+1:=⟨j - 1,by simp at hj;omega⟩
   have hk:¬ ((k:Int) < (l.length:Int)):=by have:=List.drop_eq_nil_iff.mp hd;omega
   simp only [x3n]
   unfold xcv
   simp [hk,x5a,x1r2]
 | cons e r ih=>
   intro k j s m fc hd hj s0 s1
   obtain ⟨j,rfl⟩:∃ i,j=i+1:=⟨j - 1,by simp at hj;omega⟩
   obtain ⟨hk,hke,hd⟩:=x1qg hd
   have hk':(k:Int) < (l.length:Int):=by omega
   have ix:=h.ix Edge.len hk
   have ld:=x1u6 (m:=m) Edge.len (by omega) hk
   rw [hke] at ld
   have hee:=he e (hke ▸ List.getElem_mem hk)
   have hx:=exI_in hee ht
   have htm:=term_in hee ht
   have we:=w_excess d ha hee ht
   simp only [Edge.c] at we
   obtain ⟨m',h'⟩:=ih (k+1) j (s+e.wt*((exI t e).natAbs:Int)) ((m.new (0,fc+3,7) (.row [I 0,I 0,I 0,I 0] 0 false)).set (0,fc+3,7) (.row e.c 0 false)) (fc+17) hd (by simp at hj;omega) (by omega) (by omega)
   simp only [x3n]
   unfold xcv
   simp (disch:=omega) [hk',ix,ld,x1r7,Edge.c,we,w_size,ha.clean,x1r2]
   exact ⟨m',h'⟩
theorem l_Cost (d:Nat) (hs:FHs) {n:Int} {ev a:AV} {l:List Edge} {t:List Int} (h:Sl Edge.c ev l) (hl:l.length≤600) (ha:Ints a t) (he:∀ e∈l,EdgeIn t.length e) (ht:TurnsIn t):∀ (suf:List Edge) (k j:Nat) (s:Int) (m:Mem) (fc:Nat),l.drop k=suf→suf.length < j →
 0≤s→s≤k*2001000000→m.get (0,0,2)=some (.row [I n,ev] 0 false)→∃ m',x3l (x1pa (d+1)) hs 0 j a (.ptr (0,0,2) 0 0) (I s) (I k) m fc=some (I (x1r2 t s suf),m'):=by
 intro suf
 induction suf with
 | nil=>
   intro k j s m fc hd hj s0 s1 hg
   obtain ⟨j,rfl⟩:∃ i,j=i+1:=⟨j - 1,by simp at hj;omega⟩
   have hk:¬ ((k:Int) < (l.length:Int)):=by have:=List.drop_eq_nil_iff.mp hd;omega
   simp only [x3l]
   unfold xco
   simp [hg,h.len x1s5,hk,x57,x1r2]
 | cons e r ih=>
   intro k j s m fc hd hj s0 s1 hg
   obtain ⟨j,rfl⟩:∃ i,j=i+1:=⟨j - 1,by simp at hj;omega⟩
   obtain ⟨hk,hke,hd⟩:=x1qg hd
   have hk':(k:Int) < (l.length:Int):=by omega
   have ix:=h.ix Edge.len hk
   have ld:=x1u6 (m:=m) Edge.len (by omega) hk
   rw [x1r6 hk,hke,List.flatMap_cons] at ix ld
   have hee:=he e (hke ▸ List.getElem_mem hk)
   have hx:=exI_in hee ht
   have htm:=term_in hee ht
   have we:=w_Excess d ha hee ht
   simp only [Edge.c,List.cons_append] at we ix ld
   obtain ⟨m',h'⟩:=ih (k+1) j (s+e.wt*((exI t e).natAbs:Int)) m (fc+26) hd (by simp at hj;omega) (by omega) (by omega) hg
   simp only [x3l]
   unfold xco
   simp (disch:=omega) [hg,h.len x1s5,hk',ix,ld,we,w_Size,ha.clean,x1r2]
   exact ⟨m',h'⟩
theorem w_Cost (d:Nat) {n:Int} {ev a:AV} {l:List Edge} {t:List Int} (h:Sl Edge.c ev l) (hl:l.length≤600) (ha:Ints a t) (he:∀ e∈l,EdgeIn t.length e) (ht:TurnsIn t) (m:Mem):x1pb (x1pa (d+2)) x4f [.agg [I n,ev],a] m=some (I (x1r2 t 0 l),m):=by
 obtain ⟨m',h'⟩:=l_Cost d [] (n:=n) h hl ha he ht l 0 NN 0 ((⟨[],1⟩:Mem).new (0,0,2) (.row [I n,ev] 0 false)) 4 rfl (by rw [x1pp];omega) (by omega) (by omega) (by simp)
 refine call0 (m':=m') (by simp [h.still1,ha.still]) ?_ rfl
 rw [xy2]
 unfold x91 xhi xcp
 simp [mem0,h.one]
 exact h'
def Tells (call:x1p9) (f:AV) (p:Int→Bool):Prop:=∀ (hs:FHs) (x:Int) (m:Mem),∃ n,x1qz call hs 2 f [I x] m=some (B (p x),⟨m.hp,n⟩)
def x1r3 (p:Int→Bool):Int→List Int→Int
 | _,[]=>-1
 | k,x::r=>bif p x then k else x1r3 p (k+1) r
theorem x204 {p:Int→Bool}:∀ {l:List Int} {k:Int},0≤k→(decide (0≤x1r3 p k l))=l.any p
 | [],k,_=>rfl
 | x::r,k,h=>by
   unfold x1r3
   cases c:p x
   ·simp only [cond_false,List.any_cons,c,Bool.false_or];exact x204 (by omega)
   ·simp [c,h]
theorem x25s (d:Nat) (hs:FHs) {a f:AV} {l:List Int} {p:Int→Bool} (h:Ints a l) (hl:l.length < 1000000) (hf:Tells (x1pa d) f p) (u:Nat):∀ (suf:List Int) (k j:Nat) (m:Mem) (fc:Nat),l.drop k=suf→suf.length < j →
 ∃ n,xq (x1pa d) hs u j a f (I l.length) (I k) m fc=some (I (x1r3 p k suf),⟨m.hp,n⟩):=by
 intro suf
 induction suf with
 | nil=>
   intro k j m fc hd hj
   obtain ⟨j,rfl⟩:∃ i,j=i+1:=⟨j - 1,by simp at hj;omega⟩
   have hk:¬ ((k:Int) < (l.length:Int)):=by have:=List.drop_eq_nil_iff.mp hd;omega
   simp only [xq]
   unfold x3x
   simp [hk,x2p,x1r3]
   exact ⟨m.next,rfl⟩
 | cons x r ih=>
   intro k j m fc hd hj
   obtain ⟨j,rfl⟩:∃ i,j=i+1:=⟨j - 1,by simp at hj;omega⟩
   obtain ⟨hk,hke,hd⟩:=x1qg hd
   have hk':(k:Int) < (l.length:Int):=by omega
   have ix:=h.ix x1pv hk
   have e1:at0 l k=x:=by rw [x1pu hk,hke]
   obtain ⟨n1,h1⟩:=hf hs x m
   obtain ⟨n2,h2⟩:=ih (k+1) j ⟨m.hp,n1⟩ (fc+11) hd (by simp at hj;omega)
   simp only [xq]
   unfold x3x
   simp (disch:=omega) [hk',ix,x1pr,e1,h1,x1r3]
   cases c:p x
   ·simp (disch:=omega)
    exact ⟨n2,h2⟩
   ·simp
theorem x25t (d:Nat) (hs:FHs) {a f:AV} {l:List Int} {p:Int→Bool} (h:Ints a l) (hl:l.length < 1000000) (hf:Tells (x1pa d) f p) (m:Mem):∃ n,x1pa (d+1) hs x29 [a,f] m=some (I (x1r3 p 0 l),⟨m.hp,n⟩):=by
 obtain ⟨n,h'⟩:=x25s d hs h hl hf m.next l 0 NN ⟨m.hp,m.next+1⟩ 4 rfl (by rw [x1pp];omega)
 refine ⟨n,?_⟩
 rw [xgn]
 unfold x5o xat x7j
 simp [h.len x1pi]
 exact h'
theorem x25u (d:Nat) (hs:FHs) {a f:AV} {l:List Int} {p:Int→Bool} (h:Ints a l) (hl:l.length < 1000000) (hf:Tells (x1pa d) f p) (m:Mem):∃ n,x1pa (d+2) hs x2f [a,f] m=some (B (l.any p),⟨m.hp,n⟩):=by
 obtain ⟨n,h'⟩:=x25t d hs h hl hf ⟨m.hp,m.next+1⟩
 refine ⟨n,?_⟩
 rw [xlu]
 unfold x6q xdi
 simp only [h',Option.bind_some,sGe_I,x204 (Int.le_refl 0)]
theorem edgeIn_of {n:Int} {l:List Edge} (h:Right n l) {t:List Int} (ht:(t.length:Int)=n):∀ e∈l,EdgeIn t.length e:=by
 intro e he
 obtain ⟨⟨a,b⟩,⟨c,d⟩,_,⟨f,g⟩,⟨i,j⟩⟩:=h.ed e he
 exact ⟨a,by omega,c,by omega,f,g,i,j⟩
end Go.Ix
