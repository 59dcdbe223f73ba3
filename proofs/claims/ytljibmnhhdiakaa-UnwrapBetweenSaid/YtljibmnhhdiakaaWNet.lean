import Derived.Test.YtljibmnhhdiakaaWBase
set_option linter.unusedSimpArgs false
namespace Go.Ix
open Go.Proofs
structure Edge where
 fr:Int
 to:Int
 jump:Int
 wt:Int
def Edge.c (e:Edge):List AV:=[I e.fr,I e.to,I e.jump,I e.wt]
theorem Edge.len (e:Edge):e.c.length=4:=rfl
def wi (a b c:Int):Bool:=decide (b≤a∧a≤c)
theorem wi_t {a b c:Int} (h:wi a b c=true):b≤a∧a≤c:=of_decide_eq_true h
theorem wi_iff {a b c:Int}:wi a b c=true↔b≤a∧a≤c:=decide_eq_true_iff
theorem x1pm (d:Nat) (a b c:Int) (m:Mem):x1lq (x1lp (d+1)) x5 [I a,I b,I c] m=some (B (wi a b c),m):=by
 refine call0 rfl (m':=⟨[],1⟩) ?_ rfl
 rw [xw1]
 unfold x7l xfl wi
 by_cases h:b≤a<;>by_cases h2:a≤c<;>simp [h,h2,mem0]
theorem x1pn (d:Nat) (a b c:Int) (m:Mem):x1lq (x1lp (d+1)) xg [I a,I b,I c] m=some (B (wi a b c),m):=by
 refine call0 rfl (m':=⟨[],1⟩) ?_ rfl
 rw [xwc]
 unfold x75 xge wi
 by_cases h:b≤a<;>by_cases h2:a≤c<;>simp [h,h2,mem0]
theorem x1nq:Try.prog.underlying x6=some (.slice xai):=by kernel_rfl
theorem x1nv:Try.prog.underlying x4=some (.slice x1n3):=by kernel_rfl
theorem x1qq:xb=[I 0,I 0,I 0,I 0]:=by kernel_rfl
theorem z_net:x44=[I 0,nilS]:=by kernel_rfl
theorem x1nw:x1mc=[I 0]:=by kernel_rfl
theorem w_Size (d:Nat) (a:Int) (m:Mem) (h1:-9223372036854775808 < a) (h2:a≤9223372036854775807):x1lq (x1lp (d+1)) x29 [I a] m=some (I (a.natAbs:Int),m):=by
 refine call0 rfl (m':=⟨[],1⟩) ?_ rfl
 rw [xw5]
 unfold x7v xfx
 simp (disch:=omega) [mem0,x1mv]
 split<;>omega
theorem w_size (d:Nat) (a:Int) (m:Mem) (h1:-9223372036854775808 < a) (h2:a≤9223372036854775807):x1lq (x1lp (d+1)) x2s [I a] m=some (I (a.natAbs:Int),m):=by
 refine call0 rfl (m':=⟨[],1⟩) ?_ rfl
 rw [xwo]
 unfold x7a xgt
 simp (disch:=omega) [mem0,x1mv]
 split<;>omega
def x1ng (n:Int):Int→List Edge→Int×Int
 | _,[]=>(0,0)
 | i,e::r=>
   bif !(wi e.fr 0 (n - 1))||!(wi e.to 0 (n - 1)) then (i,6)
   else bif decide (e.fr=e.to) then (i,3)
   else bif !(wi e.jump (-1000) 1000)||!(wi e.wt 0 1000) then (i,2)
   else x1ng n (i+1) r
def x1mp (n:Int) (l:List Edge):Int×Int:=
 bif !(wi n 0 200) then (0,2) else bif decide (600 < (l.length:Int)) then (0,8) else x1ng n 0 l
theorem x20x (d:Nat) (hs:FHs) {n:Int} {ev:AV} {l:List Edge} (h:Sl Edge.c ev l) (hn:0≤n∧n≤200) (hl:l.length≤600):∀ (suf:List Edge) (k j:Nat) (m:Mem) (fc:Nat),l.drop k=suf→suf.length < j →
 m.get (0,0,1)=some (.row [I n,ev] 0 false)→∃ m',x34 (x1lp (d+1)) hs 0 j (.ptr (0,0,1) 0 0) (I k) m fc=some (.tup [I (x1ng n k suf).1,I (x1ng n k suf).2],m'):=by
 intro suf
 induction suf with
 | nil=>
   intro k j m fc hd hj hg
   obtain ⟨j,rfl⟩:∃ i,j=i+1:=⟨j - 1,by simp at hj;omega⟩
   have hk:¬ ((k:Int) < (l.length:Int)):=by have:=List.drop_eq_nil_iff.mp hd;omega
   simp only [x34]
   unfold xb0
   simp [hg,h.len x1nq,hk,x4f,x1ng]
 | cons e r ih=>
   intro k j m fc hd hj hg
   obtain ⟨j,rfl⟩:∃ i,j=i+1:=⟨j - 1,by simp at hj;omega⟩
   obtain ⟨hk,he,hd⟩:=x1oa hd
   have hk':(k:Int) < (l.length:Int):=by omega
   have ix:=h.ix Edge.len hk
   have ld:=x1r4 (m:=m) Edge.len (by omega) hk
   rw [he] at ld
   simp only [x34]
   unfold xb0
   simp (disch:=omega) [hg,h.len x1nq,hk',ix,ld,x1qq,Edge.c,x1pm]
   cases c1:wi e.fr 0 (n - 1)
   ·simp [x1ng,c1]
   simp (disch:=omega) [hg,x1pm]
   cases c2:wi e.to 0 (n - 1)
   ·simp [x1ng,c1,c2]
   simp (disch:=omega) [hg,x1pm]
   by_cases c3:e.fr=e.to
   ·simp [x1ng,c1,c2,c3]
   simp (disch:=omega) [c3,hg,x1pm]
   cases c4:wi e.jump (-1000) 1000
   ·simp [x1ng,c1,c2,c3,c4]
   simp (disch:=omega) [hg,x1pm]
   cases c5:wi e.wt 0 1000
   ·simp [x1ng,c1,c2,c3,c4,c5]
   obtain ⟨m',h'⟩:=ih (k+1) j ((m.new (0,fc+10,5) (.row [I 0,I 0,I 0,I 0] 0 false)).set (0,fc+10,5) (.row e.c 0 false)) (fc+46) hd (by simp at hj;omega) (by simp [hg])
   simp (disch:=omega) [x1ng,c1,c2,c3,c4,c5]
   exact ⟨m',h'⟩
theorem x20y (d:Nat) {n:Int} {ev:AV} {l:List Edge} (h:Sl Edge.c ev l) (m:Mem):x1lq (x1lp (d+2)) x3s [.agg [I n,ev]] m=some (.tup [I (x1mp n l).1,I (x1mp n l).2],m):=by
 have key:Ans (x1lp (d+2)) x3s [.agg [I n,ev]] (.tup [I (x1mp n l).1,I (x1mp n l).2]):=by
  unfold Ans
  rw [xw9]
  unfold x7y xg1
  simp [mem0,h.one,x1pm]
  cases c1:wi n 0 200
  ·simp [x1mp,c1]
  simp [h.len x1nq]
  by_cases c2:(600:Int) < (l.length:Int)
  ·simp [x1mp,c1,c2]
  obtain ⟨m',h'⟩:=x20x d [] h (wi_t c1) (by omega) l 0 NN ((⟨[],1⟩:Mem).new (0,0,1) (.row [I n,ev] 0 false)) 12 rfl (by rw [x1mb];omega) (by simp)
  simp [x1mp,c1,c2,xb1]
  exact ⟨m',h'⟩
 exact key.call0_tup (by simp [still,h.still1]) rfl
theorem w_Err (d:Nat) {n:Int} {ev:AV} {l:List Edge} (h:Sl Edge.c ev l) (m:Mem):x1lq (x1lp (d+3)) x1m [.agg [I n,ev]] m=some (I (x1mp n l).2,m):=by
 refine Ans.call0 ?_ (by simp [h.still1]) rfl
 unfold Ans
 rw [xvy]
 unfold x7f xf9
 simp [mem0,h.one,x20y _ h]
theorem x20z (d:Nat) (a:Int) (m:Mem):x1lq (x1lp (d+2)) x3u [I a] m=some (B (wi a 0 1000),m):=by
 refine Ans.call0 ?_ rfl rfl
 unfold Ans
 rw [xwb]
 unfold x81 xgd
 simp [mem0,x1pn]
theorem x210 (d:Nat) (hs:FHs) {n:Int} {ev:AV} {l:List Edge} (h:Sl Edge.c ev l) (hn:0≤n∧n≤200) (hl:l.length≤600):∀ (suf:List Edge) (k j:Nat) (m:Mem) (fc:Nat),l.drop k=suf→suf.length < j →
 m.get (0,0,1)=some (.row [I n,ev] 0 false)→∃ m',x3e (x1lp (d+2)) hs 0 j (.ptr (0,0,1) 0 0) ev (I l.length) (I k) m fc=some (.tup [I (x1ng n k suf).1,I (x1ng n k suf).2],m'):=by
 intro suf
 induction suf with
 | nil=>
   intro k j m fc hd hj hg
   obtain ⟨j,rfl⟩:∃ i,j=i+1:=⟨j - 1,by simp at hj;omega⟩
   have hk:¬ ((k:Int) < (l.length:Int)):=by have:=List.drop_eq_nil_iff.mp hd;omega
   simp only [x3e]
   unfold xbn
   simp [hk,x4h,x1ng]
 | cons e r ih=>
   intro k j m fc hd hj hg
   obtain ⟨j,rfl⟩:∃ i,j=i+1:=⟨j - 1,by simp at hj;omega⟩
   obtain ⟨hk,he,hd⟩:=x1oa hd
   have hk':(k:Int) < (l.length:Int):=by omega
   have ix:=h.ix Edge.len hk
   have ld:=x1r4 (m:=m) Edge.len (by omega) hk
   rw [he] at ld
   simp only [x3e]
   unfold xbn
   simp (disch:=omega) [hg,hk',ix,ld,x1qq,Edge.c,x1pn]
   cases c1:wi e.fr 0 (n - 1)
   ·simp [x1ng,c1]
   simp (disch:=omega) [hg,x1pn]
   cases c2:wi e.to 0 (n - 1)
   ·simp [x1ng,c1,c2]
   simp (disch:=omega)
   by_cases c3:e.fr=e.to
   ·simp [x1ng,c1,c2,c3]
   simp (disch:=omega) [c3,x1pn]
   cases c4:wi e.jump (-1000) 1000
   ·simp [x1ng,c1,c2,c3,c4]
   simp (disch:=omega) [x20z]
   cases c5:wi e.wt 0 1000
   ·simp [x1ng,c1,c2,c3,c4,c5]
   obtain ⟨m',h'⟩:=ih (k+1) j ((m.new (0,fc+4,5) (.row [I 0,I 0,I 0,I 0] 0 false)).set (0,fc+4,5) (.row e.c 0 false)) (fc+43) hd (by simp at hj;omega) (by simp [hg])
   simp (disch:=omega) [x1ng,c1,c2,c3,c4,c5]
   exact ⟨m',h'⟩
theorem x211 (d:Nat) {n:Int} {ev:AV} {l:List Edge} (h:Sl Edge.c ev l) (m:Mem):x1lq (x1lp (d+3)) x3y [.agg [I n,ev]] m=some (.tup [I (x1mp n l).1,I (x1mp n l).2],m):=by
 have key:Ans (x1lp (d+3)) x3y [.agg [I n,ev]] (.tup [I (x1mp n l).1,I (x1mp n l).2]):=by
  unfold Ans
  rw [xwj]
  unfold x8e xgo
  simp [mem0,h.one,x1pn]
  cases c1:wi n 0 200
  ·simp [x1mp,c1]
  simp [h.len x1nq]
  by_cases c2:(600:Int) < (l.length:Int)
  ·simp [x1mp,c1,c2]
  obtain ⟨m',h'⟩:=x210 d [] h (wi_t c1) (by omega) l 0 NN ((⟨[],1⟩:Mem).new (0,0,1) (.row [I n,ev] 0 false)) 17 rfl (by rw [x1mb];omega) (by simp)
  simp [x1mp,c1,c2,xbo,h.len x1nq]
  exact ⟨m',h'⟩
 exact key.call0_tup (by simp [h.still1]) rfl
theorem x1qr:x1e=[I 0,nilS]:=by kernel_rfl
theorem x1r5 (d:Nat) {n:Int} {ev:AV} {l:List Edge} (h:Sl Edge.c ev l) (m:Mem):x1lq (x1lp (d+4)) x1n [.agg [I n,ev]] m=some (.tup [.agg [I n,ev],I (x1mp n l).2],m):=by
 refine Ans.call0_tup ?_ (by simp [h.still1]) (by simp [h.still1])
 unfold Ans
 rw [xw6]
 unfold x7w xfy
 simp [mem0,h.one,x211 _ h,x1qr,x1m4,x1na,sLdP]
structure Right (n:Int) (l:List Edge):Prop where
 lo:0≤n
 hi:n≤200
 len:l.length≤600
 ed:∀ e∈l,(0≤e.fr∧e.fr≤n - 1)∧(0≤e.to∧e.to≤n - 1)∧e.fr≠e.to∧(-1000≤e.jump∧e.jump≤1000)∧(0≤e.wt∧e.wt≤1000)
theorem x1y9 {n:Int}:∀ {l:List Edge} {i:Int},(x1ng n i l).2=0→∀ e∈l,(0≤e.fr∧e.fr≤n - 1)∧(0≤e.to∧e.to≤n - 1)∧e.fr≠e.to∧(-1000≤e.jump∧e.jump≤1000)∧(0≤e.wt∧e.wt≤1000)
 | [],_,_,e,he=>by cases he
 | x::r,i,h,e,he=>by
   unfold x1ng at h
   cases c1:wi x.fr 0 (n - 1)
   ·simp [c1] at h
   cases c2:wi x.to 0 (n - 1)
   ·simp [c1,c2] at h
   by_cases c3:x.fr=x.to
   ·simp [c1,c2,c3] at h
   cases c4:wi x.jump (-1000) 1000
   ·simp [c1,c2,c3,c4] at h
   cases c5:wi x.wt 0 1000
   ·simp [c1,c2,c3,c4,c5] at h
   simp [c1,c2,c3,c4,c5] at h
   rcases List.mem_cons.mp he with rfl | he
   ·exact ⟨wi_t c1,wi_t c2,c3,wi_t c4,wi_t c5⟩
   ·exact x1y9 h e he
theorem x1t7 {n:Int} {l:List Edge} (h:(x1mp n l).2=0):Right n l:=by
 unfold x1mp at h
 cases c1:wi n 0 200
 ·simp [c1] at h
 by_cases c2:(600:Int) < (l.length:Int)
 ·simp [c1,c2] at h
 simp [c1,c2] at h
 exact ⟨(wi_t c1).1,(wi_t c1).2,by omega,x1y9 h⟩
end Go.Ix
