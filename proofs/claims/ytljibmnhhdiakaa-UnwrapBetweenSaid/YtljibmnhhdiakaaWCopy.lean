import Derived.Test.YtljibmnhhdiakaaWTurns
set_option linter.unusedSimpArgs false
namespace Go.Ix
open Go.Proofs
theorem Edge.still (e:Edge):e.c.all still1=true:=rfl
theorem x1u7 (d:Nat) {n:Int} {ev:AV} {l:List Edge} (h:Sl Edge.c ev l) (hl:l.length≤1000000) (m:Mem):∃ ev',Sl Edge.c ev' l∧x1lq (x1lp (d+1)) xc [.agg [I n,ev]] m=some (.agg [I n,ev'],m):=by
 have hr:x1m9 l.length 32:=by unfold x1m9;omega
 have he:=h.elems Edge.len
 have hx:=h.tX
 by_cases h0:l=[]
 ·subst h0
  refine ⟨.slit [] 0 true,Sl.lit [] true,Ans.call0 ?_ (by simp [h.still1]) rfl⟩
  unfold Ans
  rw [xjr]
  unfold x5f xaf
  have hr0:x1m9 0 32:=by unfold x1m9;omega
  simp [mem0,h.one,he,x1vu hr0,z_net,x1m4,x1na,sLdP,tR,tA,hx,x1ls,disj]
 ·have hq:l.length≠0:=by simpa using h0
  have hlen:=x1pj Edge.len l
  refine ⟨.slit (l.flatMap Edge.c) l.length false,Sl.lit l false,?_⟩
  have key:∃ m',x1lp (d+1) [] xc [.agg [I n,ev]] mem0=some (.agg [I n,.sref (0,7,8) 0 0 l.length 4 true],m')∧m'.get (0,7,8)=some (.row (l.flatMap Edge.c) 0 false):=by
   rw [xjr]
   unfold x5f xaf
   simp [mem0,h.one,he,x1vu hr,hq,h0,z_net,x1m4,x1na,sLdP,tR,tA,hx,x1ls,disj]
  obtain ⟨m',h1,h2⟩:=key
  refine x1q6 (by simp [h.still1]) h1 ?_
  have:=x1qp (objs:=m'.get) (id:=(0,7,8)) (cs:=l.flatMap Edge.c) (ver:=0) (off:=0) (n:=l.length) (z:=4) (k:=3) (f:=false) (x:=true) h2 (by omega) (by
   rw [List.drop_zero,List.take_of_length_le (by omega)];exact x1q7 Edge.still l)
  rw [List.drop_zero,List.take_of_length_le (by omega)] at this
  exact frz_agg2 rfl this
def fewE:List Edge→Bool
 | []=>true
 | e::r=>bif decide (20 < e.wt)||decide (5 < (e.jump.natAbs:Int)) then false else fewE r
def few (n:Int) (l:List Edge):Bool:=
 bif !decide ((x1mp n l).2=0) then decide ((l.length:Int)≤16)||(decide (600 < (l.length:Int))&&decide ((l.length:Int)≤602))
 else bif decide (10 < n)||decide (16 < (l.length:Int)) then false else fewE l
theorem l_Few (d:Nat) (hs:FHs) {n:Int} {ev:AV} {l:List Edge} (h:Sl Edge.c ev l) (hr:Right n l):∀ (suf:List Edge) (k j:Nat) (m:Mem) (fc:Nat),l.drop k=suf→suf.length < j →
 m.get (0,0,1)=some (.row [I n,ev] 0 false)→∃ m',x2y (x1lp (d+1)) hs 0 j (.ptr (0,0,1) 0 0) (I k) m fc=some (B (fewE suf),m'):=by
 intro suf
 have hl:=hr.len
 induction suf with
 | nil=>
   intro k j m fc hd hj hg
   obtain ⟨j,rfl⟩:∃ i,j=i+1:=⟨j - 1,by simp at hj;omega⟩
   have hk:¬ ((k:Int) < (l.length:Int)):=by have:=List.drop_eq_nil_iff.mp hd;omega
   simp only [x2y]
   unfold xac
   simp [hg,h.len x1nq,hk,x43,fewE]
 | cons e r ih=>
   intro k j m fc hd hj hg
   obtain ⟨j,rfl⟩:∃ i,j=i+1:=⟨j - 1,by simp at hj;omega⟩
   obtain ⟨hk,he,hd⟩:=x1oa hd
   have hk':(k:Int) < (l.length:Int):=by omega
   have ix:=h.ix Edge.len hk
   rw [x1o6 hk,he,List.flatMap_cons] at ix
   simp only [Edge.c,List.cons_append] at ix
   obtain ⟨-,-,-,⟨j0,j1⟩,-⟩:=hr.ed e (he ▸ List.getElem_mem hk)
   simp only [x2y]
   unfold xac
   simp (disch:=omega) [hg,h.len x1nq,hk',ix]
   by_cases c1:20 < e.wt
   ·simp [fewE,c1]
   simp (disch:=omega) [c1,hg,ix,w_Size]
   by_cases c2:5 < (e.jump.natAbs:Int)
   ·simp [fewE,c1,c2]
   simp (disch:=omega) [fewE,c1,c2]
   exact ih (k+1) j m _ hd (by simp at hj;omega) hg
theorem w_Few (d:Nat) {n:Int} {ev:AV} {l:List Edge} (h:Sl Edge.c ev l) (m:Mem):x1lq (x1lp (d+4)) x26 [.agg [I n,ev]] m=some (B (few n l),m):=by
 refine Ans.call0 ?_ (by simp [h.still1]) rfl
 unfold Ans
 rw [xvw]
 unfold x7e xf8
 simp [mem0,h.one,w_Err _ h]
 by_cases c1:(x1mp n l).2=0
 rotate_left
 ·simp [c1,h.len x1nq]
  by_cases c2:(l.length:Int)≤16
  ·simp [few,c1,c2]
  simp [c2,h.len x1nq]
  by_cases c3:600 < (l.length:Int)
  ·simp [few,c1,c2,c3,h.len x1nq]
  ·simp [few,c1,c2,c3,h.len x1nq]
 simp [c1]
 by_cases c2:10 < n
 ·simp [few,c1,c2]
 simp [c2,h.len x1nq]
 by_cases c3:16 < (l.length:Int)
 ·simp [few,c1,c2,c3]
 have hr:=x1t7 c1
 obtain ⟨m',h'⟩:=l_Few (d+2) [] h hr l 0 NN ((⟨[],1⟩:Mem).new (0,0,1) (.row [I n,ev] 0 false)) 15 rfl (by rw [x1mb];omega) (by simp)
 simp [few,c1,c2,c3,xad]
 exact ⟨m',h'⟩
end Go.Ix
