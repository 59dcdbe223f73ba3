import Derived.Test.YtljibmnhhdiakaaWConcat
import Derived.Test.YtljibmnhhdiakaaWAlong
import Derived.Test.YtljibmnhhdiakaaWEq
import Derived.Test.YtljibmnhhdiakaaWAwake5
set_option linter.unusedSimpArgs false
set_option linter.unusedVariables false
namespace Go.Ix
open Go.Proofs
def x1tb (l:List Int):Int:=bif l.any (fun x=>!(wi x 0 1000)) then 2 else 0
def x1qm (r c:Int) (ph ac dn:List Int):Int:=
 bif !decide (x1rq r c ph.length=0) then x1rq r c ph.length
 else bif decide (144 < (ph.length:Int)) then 8
 else bif !decide (x1rb isW ph=0) then x1rb isW ph
 else bif !decide ((ac.length:Int)=r*(c - 1))||!decide ((dn.length:Int)=(r - 1)*c) then 10
 else x1tb (ac++dn)
theorem x20t (x:Int) (r:List Int):x1tb (x::r)=bif !(wi x 0 1000) then 2 else x1tb r:=by
 unfold x1tb
 rw [List.any_cons]
 cases wi x 0 1000<;>rfl
theorem x26o (d:Nat) (hs:FHs) {a:AV} {l:List Int} (h:Ints a l) (hb:l.length≤1000000):∀ (suf:List Int) (k j:Nat) (m:Mem) (fc:Nat),l.drop k=suf→suf.length < j →
 ∃ m',x3i (x1pa (d+2)) hs 0 j a (I l.length) (I k) m fc=some (I (x1tb suf),m'):=by
 intro suf
 induction suf with
 | nil=>
   intro k j m fc hd hj
   obtain ⟨j,rfl⟩:∃ i,j=i+1:=⟨j - 1,by simp at hj;omega⟩
   have hk:¬ ((k:Int) < (l.length:Int)):=by have:=List.drop_eq_nil_iff.mp hd;omega
   simp only [x3i]
   unfold xc7
   simp [hk,x54,x1tb]
 | cons x r ih=>
   intro k j m fc hd hj
   obtain ⟨j,rfl⟩:∃ i,j=i+1:=⟨j - 1,by simp at hj;omega⟩
   obtain ⟨hk,hke,hd⟩:=x1qg hd
   have hk':(k:Int) < (l.length:Int):=by omega
   have ix:=h.ix x1pv hk
   have e1:at0 l k=x:=by rw [x1pu hk,hke]
   have ih':=fun m fc=>ih (k+1) j m fc hd (by simp at hj;omega)
   simp only [x3i,x20t]
   unfold xc7
   simp (disch:=omega) [hk',ix,x1pr,e1,x25r]
   cases c:wi x 0 1000
   ·simp
   ·simp (disch:=omega)
    exact ih' _ _
theorem x20u (d:Nat) {r c:Int} {p a b:AV} {ph ac dn:List Int} (hp:Ints p ph) (ha:Ints a ac) (hb:Ints b dn) (hl:ph.length≤300000) (h1:ac.length≤300000) (h2:dn.length≤300000) (m:Mem) :
 x1pb (x1pa (d+9)) x1s [.agg [I r,I c,p,a,b]] m=some (I (x1qm r c ph ac dn),m):=by
 refine Ans.call0 ?_ (by simp [hp.still1,ha.still1,hb.still1]) rfl
 unfold Ans
 rw [xxt]
 unfold x8m xh4
 have wm:=x26k (d+3) (r:=r) (c:=c) (x26i (d+2)) rfl rfl rfl hp (show ph.length < 1000000 by omega)
 simp [mem0,hp.one,ha.one,hb.one,hp.len x1pi,w_sizeErr,x1ua]
 by_cases c1:x1rq r c ph.length=0
 rotate_left
 ·simp [x1qm,c1]
 have hsz:x1uu (fun _=>true) r c ph=0:=by
  unfold x1uu x1rb
  simp [c1]
  cases e:ph.any (badP fun _=>true)
  ·rfl
  ·exfalso
   rw [List.any_eq_true] at e
   obtain ⟨x,-,hx⟩:=e
   simp [badP] at hx
 obtain ⟨r0,r1,c0,c2,hlen,-⟩:=x20s hsz
 have hrc:=x1va (wi_iff.mpr ⟨r0,r1⟩) (wi_iff.mpr ⟨c0,c2⟩)
 simp [c1]
 by_cases c3:144 < (ph.length:Int)
 ·simp [x1qm,c1,c3]
 simp [c3,wm]
 by_cases c4:x1rb isW ph=0
 rotate_left
 ·simp [x1qm,c1,c3,c4]
 have e1:r*(c - 1)=r*c - r:=by rw [Int.mul_sub];omega
 have e2:(r - 1)*c=r*c - c:=by rw [Int.sub_mul];omega
 simp (disch:=omega) [c4,ha.len x1pi,hb.len x1pi]
 by_cases c5:(ac.length:Int)=r*(c - 1)
 rotate_left
 ·simp [x1qm,c1,c3,c4,c5]
 simp (disch:=omega) [c5,ha.len x1pi,hb.len x1pi,x1qm,c1,c3,c4]
 by_cases c6:(dn.length:Int)=(r - 1)*c
 rotate_left
 ·simp [c6]
 simp [c6]
 unfold xc8
 obtain ⟨cc,hcc,hC⟩:=x231 (d+6) ha hb h1 h2 (((((⟨[],1⟩:Mem).new (0,0,1) (.row [I r,I c,p,a,b] 0 false)).new (0,4,3) (.row [I 0,I 0,nilS] 0 false)).set (0,4,3) (.row [I r,I c,p] 0 false)))
 obtain ⟨m',hm'⟩:=x26o (d+6) [] hcc (by simp;omega) (ac++dn) 0 NN (((((⟨[],1⟩:Mem).new (0,0,1) (.row [I r,I c,p,a,b] 0 false)).new (0,4,3) (.row [I 0,I 0,nilS] 0 false)).set (0,4,3) (.row [I r,I c,p] 0 false))) 56 rfl (by rw [x1pp];simp;omega)
 have hml:∀ (id:Id) (m:Mem) (k:AV→Mem→Option (AV×Mem)),x1pt x18 [(0,1,a),(1,1,b)] 2 1 id m k=k (.slit [a,b] 2 true) m:=by
  intro id m k
  simp [x1pt,x1qi,x1py,x1wb,ha.cells,hb.cells,ha.one,hb.one,ha.clean1,hb.clean1,List.range_succ,x1pz]
 simp [hml,hC,hcc.len x1pi]
 refine ⟨m',?_⟩
 simpa using hm'
theorem x26p (d:Nat) (hs:FHs) {r c:Int} {p a b:AV} {l:List Int} (h:Ints b l) (hb:l.length≤1000000):∀ (suf:List Int) (k j:Nat) (m:Mem) (fc:Nat),l.drop k=suf→suf.length < j→m.get (0,0,1)=some (.row [I r,I c,p,a,b] 0 false) →
 ∃ m',x3f (x1pa (d+1)) hs 0 j (.ptr (0,0,1) 0 0) (I k) m fc=some (I (x1tb suf),m'):=by
 intro suf
 induction suf with
 | nil=>
   intro k j m fc hd hj hg
   obtain ⟨j,rfl⟩:∃ i,j=i+1:=⟨j - 1,by simp at hj;omega⟩
   have hk:¬ ((k:Int) < (l.length:Int)):=by have:=List.drop_eq_nil_iff.mp hd;omega
   simp only [x3f]
   unfold xc4
   simp [hg,h.len x1pi,hk,x53,x1tb]
 | cons x r ih=>
   intro k j m fc hd hj hg
   obtain ⟨j,rfl⟩:∃ i,j=i+1:=⟨j - 1,by simp at hj;omega⟩
   obtain ⟨hk,hke,hd⟩:=x1qg hd
   have hk':(k:Int) < (l.length:Int):=by omega
   have ix:=h.ix x1pv hk
   have e1:at0 l k=x:=by rw [x1pu hk,hke]
   have ih':=fun fc=>ih (k+1) j m fc hd (by simp at hj;omega) hg
   simp only [x3f,x20t]
   unfold xc4
   simp (disch:=omega) [hg,h.len x1pi,hk',ix,x1pr,e1,x1up]
   cases c:wi x 0 1000
   ·simp
   ·simp (disch:=omega)
    exact ih' _
theorem x26q (d:Nat) (hs:FHs) {r c:Int} {p a b:AV} {l k0:List Int} (h:Ints a l) (h2:Ints b k0) (hb:l.length≤1000000) (hb2:k0.length≤1000000):∀ (suf:List Int) (k j:Nat) (m:Mem) (fc:Nat),l.drop k=suf→suf.length < j→m.get (0,0,1)=some (.row [I r,I c,p,a,b] 0 false) →
 ∃ m',x3h (x1pa (d+1)) hs 0 j (.ptr (0,0,1) 0 0) (I k) m fc=some (I (x1tb (suf++k0)),m'):=by
 intro suf
 induction suf with
 | nil=>
   intro k j m fc hd hj hg
   obtain ⟨j,rfl⟩:∃ i,j=i+1:=⟨j - 1,by simp at hj;omega⟩
   have hk:¬ ((k:Int) < (l.length:Int)):=by have:=List.drop_eq_nil_iff.mp hd;omega
   obtain ⟨m',h'⟩:=x26p d hs h2 hb2 k0 0 NN m (fc+5+1) rfl (by rw [x1pp];omega) hg
   simp only [x3h]
   unfold xc5
   simp [hg,h.len x1pi,hk,x3g]
   exact ⟨m',h'⟩
 | cons x r ih=>
   intro k j m fc hd hj hg
   obtain ⟨j,rfl⟩:∃ i,j=i+1:=⟨j - 1,by simp at hj;omega⟩
   obtain ⟨hk,hke,hd⟩:=x1qg hd
   have hk':(k:Int) < (l.length:Int):=by omega
   have ix:=h.ix x1pv hk
   have e1:at0 l k=x:=by rw [x1pu hk,hke]
   have ih':=fun fc=>ih (k+1) j m fc hd (by simp at hj;omega) hg
   simp only [x3h,List.cons_append,x20t]
   unfold xc5
   simp (disch:=omega) [hg,h.len x1pi,hk',ix,x1pr,e1,x1up]
   cases c:wi x 0 1000
   ·simp
   ·simp (disch:=omega)
    exact ih' _
theorem x245 (d:Nat) {r c:Int} {p a b:AV} {ph ac dn:List Int} (hp:Ints p ph) (ha:Ints a ac) (hb:Ints b dn) (hl:ph.length≤300000) (h1:ac.length≤300000) (h2:dn.length≤300000) (m:Mem) :
 x1pb (x1pa (d+4)) x30 [.agg [I r,I c,p,a,b]] m=some (I (x1qm r c ph ac dn),m):=by
 refine Ans.call0 ?_ (by simp [hp.still1,ha.still1,hb.still1]) rfl
 unfold Ans
 rw [xxs]
 unfold x8l xh3
 have wm:=x26n d hp (show ph.length≤1000000 by omega)
 simp [mem0,hp.one,ha.one,hb.one,hp.len x1pi,x26h,x1ua]
 by_cases c1:x1rq r c ph.length=0
 rotate_left
 ·simp [x1qm,c1]
 have hsz:x1uu (fun _=>true) r c ph=0:=by
  unfold x1uu x1rb
  simp [c1]
  cases e:ph.any (badP fun _=>true)
  ·rfl
  ·exfalso
   rw [List.any_eq_true] at e
   obtain ⟨x,-,hx⟩:=e
   simp [badP] at hx
 obtain ⟨r0,r1,c0,c2,hlen,-⟩:=x20s hsz
 have hrc:=x1va (wi_iff.mpr ⟨r0,r1⟩) (wi_iff.mpr ⟨c0,c2⟩)
 have c1':x1rq r c (r*c)=0:=hlen ▸ c1
 simp (disch:=omega) [c1]
 by_cases c3:144 < r*c
 ·simp [x1qm,c1,c3,hlen,c1']
 simp [c3,wm]
 by_cases c4:x1rb isW ph=0
 rotate_left
 ·simp [x1qm,c1,c3,c4,hlen,c1']
 have e1:r*(c - 1)=r*c - r:=by rw [Int.mul_sub];omega
 have e2:(r - 1)*c=r*c - c:=by rw [Int.sub_mul];omega
 simp (disch:=omega) [c4,ha.len x1pi,hb.len x1pi]
 by_cases c5:(ac.length:Int)=r*(c - 1)
 rotate_left
 ·simp [x1qm,c1,c3,c4,c5,hlen,c1']
 simp (disch:=omega) [c5,ha.len x1pi,hb.len x1pi,x1qm,c1,c3,c4,hlen,c1']
 by_cases c6:(dn.length:Int)=(r - 1)*c
 rotate_left
 ·simp [c6]
 simp [c6]
 unfold xc6
 obtain ⟨m',hm'⟩:=x26q (d+2) [] (r:=r) (c:=c) (p:=p) ha hb (by omega) (by omega) ac 0 NN (((((⟨[],1⟩:Mem).new (0,0,1) (.row [I r,I c,p,a,b] 0 false)).new (0,4,3) (.row [I 0,I 0,nilS] 0 false)).set (0,4,3) (.row [I r,I c,p] 0 false))) 52 rfl (by rw [x1pp];omega) (by simp)
 exact ⟨m',hm'⟩
end Go.Ix
set_option linter.unusedSimpArgs false
set_option linter.unusedVariables false
namespace Go.Ix
open Go.Proofs
theorem z_task:x6z=[I 0,I 0,nilS,nilS,nilS]:=by kernel_rfl
theorem x246 (d:Nat) {r c:Int} {p a b:AV} {ph ac dn:List Int} (hp:Ints p ph) (ha:Ints a ac) (hb:Ints b dn) (hl:ph.length≤300000) (h1:ac.length≤300000) (h2:dn.length≤300000) (m:Mem) :
 ∃ p' a' b',Ints p' ph∧Ints a' ac∧Ints b' dn∧x1pb (x1pa (d+3)) x2b [.agg [I r,I c,p,a,b]] m=some (.agg [I r,I c,p',a',b'],m):=by
 obtain ⟨p',hp',hcp⟩:=w_CopyMap d (r:=r) (c:=c) hp (by omega) (((⟨[],1⟩:Mem).new (0,0,1) (.row [I r,I c,p,a,b] 0 false)).new (0,1,2) (.row [I 0,I 0,nilS,nilS,nilS] 0 false))
 obtain ⟨a',ha',hca⟩:=x1yb (d+1) ha (by omega) (((⟨[],1⟩:Mem).new (0,0,1) (.row [I r,I c,p,a,b] 0 false)).new (0,1,2) (.row [I 0,I 0,nilS,nilS,nilS] 0 false))
 obtain ⟨b',hb',hcb⟩:=x1yb (d+1) hb (by omega) (((⟨[],1⟩:Mem).new (0,0,1) (.row [I r,I c,p,a,b] 0 false)).new (0,1,2) (.row [I 0,I 0,nilS,nilS,nilS] 0 false))
 refine ⟨p',a',b',hp',ha',hb',Ans.call0 ?_ (by simp [hp.still1,ha.still1,hb.still1]) (by simp [hp'.still1,ha'.still1,hb'.still1])⟩
 unfold Ans
 rw [xxr]
 unfold x8k xh2
 simp [mem0,hp.one,ha.one,hb.one,z_task,hcp,hca,hcb,x1pl,x1qi,sLdP,hp.clean1,ha.clean,hb.clean,hp'.cells,hp'.one,ha'.cells,ha'.one,hb'.cells,hb'.one,cAp,tR]
 simp [Nat.blt]
def x1sb (r c:Int) (ph ac dn:List Int):Bool:=
 bif decide (164 < (ph.length:Int))||decide (300 < (ac.length:Int))||decide (300 < (dn.length:Int)) then false
 else bif !decide (x1qm r c ph ac dn=0) then true
 else bif decide (12 < (ph.length:Int)) then false else !((ac++dn).any fun x=>decide (20 < x))
theorem l_small0 (d:Nat) (hs:FHs) {r c:Int} {p a b:AV} {l:List Int} (h:Ints b l) (hb:l.length≤1000000):∀ (suf:List Int) (k j:Nat) (m:Mem) (fc:Nat),l.drop k=suf→suf.length < j→m.get (0,0,1)=some (.row [I r,I c,p,a,b] 0 false) →
 ∃ m',x3c (x1pa (d+1)) hs 0 j (.ptr (0,0,1) 0 0) (I k) m fc=some (B (!(suf.any fun x=>decide (20 < x))),m'):=by
 intro suf
 induction suf with
 | nil=>
   intro k j m fc hd hj hg
   obtain ⟨j,rfl⟩:∃ i,j=i+1:=⟨j - 1,by simp at hj;omega⟩
   have hk:¬ ((k:Int) < (l.length:Int)):=by have:=List.drop_eq_nil_iff.mp hd;omega
   simp only [x3c]
   unfold xc1
   simp [hg,h.len x1pi,hk,x52]
 | cons x r ih=>
   intro k j m fc hd hj hg
   obtain ⟨j,rfl⟩:∃ i,j=i+1:=⟨j - 1,by simp at hj;omega⟩
   obtain ⟨hk,hke,hd⟩:=x1qg hd
   have hk':(k:Int) < (l.length:Int):=by omega
   have ix:=h.ix x1pv hk
   have e1:at0 l k=x:=by rw [x1pu hk,hke]
   have ih':=fun fc=>ih (k+1) j m fc hd (by simp at hj;omega) hg
   simp only [x3c,List.any_cons]
   unfold xc1
   by_cases c:20 < x
   ·simp (disch:=omega) [hg,h.len x1pi,hk',ix,x1pr,e1,c]
   ·simp (disch:=omega) [hg,h.len x1pi,hk',ix,x1pr,e1,c]
    exact ih' _
theorem l_small1 (d:Nat) (hs:FHs) {r c:Int} {p a b:AV} {l k0:List Int} (h:Ints a l) (h2:Ints b k0) (hb:l.length≤1000000) (hb2:k0.length≤1000000):∀ (suf:List Int) (k j:Nat) (m:Mem) (fc:Nat),l.drop k=suf→suf.length < j→m.get (0,0,1)=some (.row [I r,I c,p,a,b] 0 false) →
 ∃ m',x3e (x1pa (d+1)) hs 0 j (.ptr (0,0,1) 0 0) (I k) m fc=some (B (!((suf++k0).any fun x=>decide (20 < x))),m'):=by
 intro suf
 induction suf with
 | nil=>
   intro k j m fc hd hj hg
   obtain ⟨j,rfl⟩:∃ i,j=i+1:=⟨j - 1,by simp at hj;omega⟩
   have hk:¬ ((k:Int) < (l.length:Int)):=by have:=List.drop_eq_nil_iff.mp hd;omega
   obtain ⟨m',h'⟩:=l_small0 d hs h2 hb2 k0 0 NN m (fc+5+1) rfl (by rw [x1pp];omega) hg
   simp only [x3e]
   unfold xc2
   simp [hg,h.len x1pi,hk,x3d]
   exact ⟨m',h'⟩
 | cons x r ih=>
   intro k j m fc hd hj hg
   obtain ⟨j,rfl⟩:∃ i,j=i+1:=⟨j - 1,by simp at hj;omega⟩
   obtain ⟨hk,hke,hd⟩:=x1qg hd
   have hk':(k:Int) < (l.length:Int):=by omega
   have ix:=h.ix x1pv hk
   have e1:at0 l k=x:=by rw [x1pu hk,hke]
   have ih':=fun fc=>ih (k+1) j m fc hd (by simp at hj;omega) hg
   simp only [x3e,List.cons_append,List.any_cons]
   unfold xc2
   by_cases c:20 < x
   ·simp (disch:=omega) [hg,h.len x1pi,hk',ix,x1pr,e1,c]
   ·simp (disch:=omega) [hg,h.len x1pi,hk',ix,x1pr,e1,c]
    obtain ⟨m',h'⟩:=ih' (fc+14)
    exact ⟨m',by simpa [List.any_append] using h'⟩
theorem w_small (d:Nat) {r c:Int} {p a b:AV} {ph ac dn:List Int} (hp:Ints p ph) (ha:Ints a ac) (hb:Ints b dn) (m:Mem) :
 x1pb (x1pa (d+5)) x4b [.agg [I r,I c,p,a,b]] m=some (B (x1sb r c ph ac dn),m):=by
 refine Ans.call0 ?_ (by simp [hp.still1,ha.still1,hb.still1]) rfl
 unfold Ans
 rw [xxq]
 unfold x8i xh1
 simp [mem0,hp.one,ha.one,hb.one,hp.len x1pi]
 by_cases c1:164 < (ph.length:Int)
 ·simp [c1,x1sb]
 simp [c1,ha.len x1pi]
 by_cases c2:300 < (ac.length:Int)
 ·simp [c2,x1sb]
 simp [c2,hb.len x1pi]
 by_cases c3:300 < (dn.length:Int)
 ·simp [c3,x1sb]
 simp [c3,x245 d (r:=r) (c:=c) hp ha hb (by omega) (by omega) (by omega)]
 by_cases c4:x1qm r c ph ac dn=0
 rotate_left
 ·simp [c1,c2,c3,c4,x1sb]
 simp [c4,hp.len x1pi]
 by_cases c5:12 < (ph.length:Int)
 ·simp [c1,c2,c3,c4,c5,x1sb]
 obtain ⟨m',h'⟩:=l_small1 (d+3) [] (r:=r) (c:=c) (p:=p) ha hb (by omega) (by omega) ac 0 NN ((⟨[],1⟩:Mem).new (0,0,1) (.row [I r,I c,p,a,b] 0 false)) 28 rfl (by rw [x1pp];omega) (by simp)
 have e:x1sb r c ph ac dn=!((ac++dn).any fun x=>decide (20 < x)):=by simp [c1,c2,c3,c4,c5,x1sb]
 rw [e]
 simp [c5,xc3]
 exact ⟨m',by simpa [List.any_append] using h'⟩
end Go.Ix
set_option linter.unusedSimpArgs false
set_option linter.unusedVariables false
namespace Go.Ix
def x1ps (skip:Int→Bool) (step:Int):Nat→Int→List (Int×Int)
 | 0,_=>[]
 | n+1,k=>bif skip k then x1ps skip step n (k+1) else (k,k+step)::x1ps skip step n (k+1)
def x1rl (c:Int) (k:Int):Bool:=decide (k % c=c - 1)
def x1rr (r c:Int) (k:Int):Bool:=decide (k / c=r - 1)
def x1rx (r c:Int):List (Int×Int):=x1ps (x1rl c) 1 (r*c).toNat 0++x1ps (x1rr r c) c (r*c).toNat 0
def rowL (step base:Int):Nat→Int→List (Int×Int)
 | 0,_=>[]
 | n+1,k=>(base+k,base+k+step)::rowL step base n (k+1)
def x1r8 (c step:Int) (w:Nat):Nat→Int→List (Int×Int)
 | 0,_=>[]
 | n+1,q=>rowL step (q*c) w 0++x1r8 c step w n (q+1)
theorem x20v (skip:Int→Bool) (step:Int):∀ (a b:Nat) (k:Int),x1ps skip step (a+b) k=x1ps skip step a k++x1ps skip step b (k+a)
 | 0,b,k=>by simp [x1ps]
 | a+1,b,k=>by
   rw [show a+1+b=(a+b)+1 by omega]
   simp only [x1ps]
   rw [x20v skip step a b (k+1),show k+1+(a:Int)=k+((a+1:Nat):Int) by omega]
   cases skip k<;>rfl
theorem x1yn {q c k:Int} (h0:0≤k) (h1:k < c):(q*c+k) % c=k∧(q*c+k) / c=q:=by
 constructor
 ·rw [Int.add_comm,Int.add_mul_emod_self_right,Int.emod_eq_of_lt h0 h1]
 ·rw [Int.add_comm,Int.add_mul_ediv_right _ _ (by omega),Int.ediv_eq_zero_of_lt h0 h1];omega
theorem x247 {c:Int} (q:Int):∀ (n:Nat) (k:Int),0≤k→k+n=c→0 < n→x1ps (x1rl c) 1 n (q*c+k)=rowL 1 (q*c) (n - 1) k
 | 0,k,_,_,h=>by omega
 | 1,k,h0,h1,_=>by
   have h1':k=c - 1:=by omega
   have:=(x1yn (q:=q) h0 (show k < c by omega)).1
   have h2:x1rl c (q*c+k)=true:=decide_eq_true (by omega)
   simp [x1ps,rowL,h2]
 | n+2,k,h0,h1,_=>by
   have:=(x1yn (q:=q) h0 (show k < c by omega)).1
   have ih:=x247 (c:=c) q (n+1) (k+1) (by omega) (by omega) (by omega)
   have hk:¬ (k=c - 1):=by omega
   rw [x1ps]
   simp only [x1rl,this,hk,decide_false,cond_false]
   rw [show n+2 - 1=(n+1 - 1)+1 by omega,rowL,← ih,Int.add_assoc]
theorem x20w {r c:Int} (q:Int):∀ (n:Nat) (k:Int),0≤k→k+n=c→x1ps (x1rr r c) c n (q*c+k)=if q=r - 1 then [] else rowL c (q*c) n k
 | 0,k,_,_=>by simp [x1ps,rowL]
 | n+1,k,h0,h1=>by
   have:=(x1yn (q:=q) h0 (show k < c by omega)).2
   have ih:=x20w (r:=r) (c:=c) q n (k+1) (by omega) (by omega)
   rw [x1ps]
   simp only [x1rr,this]
   rw [← Int.add_assoc] at ih
   by_cases h:q=r - 1
   ·rw [if_pos h] at ih ⊢
    rw [decide_eq_true h,cond_true,← ih]
   ·rw [if_neg h] at ih ⊢
    rw [decide_eq_false h,cond_false,rowL,← ih]
theorem x248 {c:Int} (hc:1≤c):∀ (n:Nat) (q:Int),x1ps (x1rl c) 1 (n*c.toNat) (q*c)=x1r8 c 1 (c.toNat - 1) n q
 | 0,q=>by simp [x1ps,x1r8]
 | n+1,q=>by
   have h:=x247 (c:=c) q c.toNat 0 (by omega) (by omega) (by omega)
   rw [Int.add_zero] at h
   rw [Nat.succ_mul,Nat.add_comm,x20v,h,x1r8,← x248 hc n (q+1),Int.add_mul,Int.one_mul,show ((c.toNat:Nat):Int)=c by omega]
theorem x249 {r c:Int} (hc:1≤c):∀ (n:Nat) (q:Int),q+n=r→x1ps (x1rr r c) c (n*c.toNat) (q*c)=x1r8 c c c.toNat (n - 1) q
 | 0,q,_=>by simp [x1ps,x1r8]
 | 1,q,h=>by
   have h:=x20w (r:=r) (c:=c) q c.toNat 0 (by omega) (by omega)
   rw [Int.add_zero,if_pos (by omega)] at h
   simp [h,x1r8]
 | n+2,q,h=>by
   have h1:=x20w (r:=r) (c:=c) q c.toNat 0 (by omega) (by omega)
   rw [Int.add_zero,if_neg (by omega)] at h1
   rw [Nat.succ_mul,Nat.add_comm,x20v,h1,show n+2 - 1=(n+1 - 1)+1 by omega,x1r8,← x249 (r:=r) hc (n+1) (q+1) (by omega),Int.add_mul,Int.one_mul,show ((c.toNat:Nat):Int)=c by omega]
theorem x24a {r c:Int} (hr:1≤r) (hc:1≤c):x1rx r c=x1r8 c 1 (c.toNat - 1) r.toNat 0++x1r8 c c c.toNat (r.toNat - 1) 0:=by
 have h:(r*c).toNat=r.toNat*c.toNat:=Int.toNat_mul (by omega) (by omega)
 have h1:=x248 hc r.toNat 0
 have h2:=x249 (r:=r) hc r.toNat 0 (by omega)
 rw [Int.zero_mul] at h1 h2
 unfold x1rx
 rw [h,h1,h2]
theorem x1wi (step base:Int):∀ (n:Nat) (k:Int),(rowL step base n k).length=n
 | 0,_=>rfl
 | n+1,k=>by simp [rowL,x1wi step base n]
theorem x1xh (c step:Int) (w:Nat):∀ (n:Nat) (q:Int),(x1r8 c step w n q).length=n*w
 | 0,_=>by simp [x1r8]
 | n+1,q=>by simp [x1r8,x1wi,x1xh c step w n,Nat.succ_mul,Nat.add_comm]
theorem x1yo {skip:Int→Bool} {step:Int}:∀ {n:Nat} {k:Int} {x:Int×Int},x∈x1ps skip step n k→k≤x.1∧x.1 < k+n∧x.2=x.1+step∧skip x.1=false
 | 0,k,x,h=>by simp [x1ps] at h
 | n+1,k,x,h=>by
   simp only [x1ps] at h
   cases hs:skip k
   ·rw [hs] at h
    rcases List.mem_cons.mp h with rfl | h
    ·exact ⟨by omega,by simp only;omega,rfl,hs⟩
    ·obtain ⟨a,b,c,d⟩:=x1yo h;exact ⟨by omega,by omega,c,d⟩
   ·rw [hs] at h
    obtain ⟨a,b,c,d⟩:=x1yo h;exact ⟨by omega,by omega,c,d⟩
theorem x1yp {r c:Int} (hr:1≤r) (hc:1≤c) {x:Int×Int} (h:x∈x1rx r c):0≤x.1∧x.1 < r*c∧0≤x.2∧x.2 < r*c∧x.1≠x.2:=by
 have h0:0≤r*c:=Int.mul_nonneg (by omega) (by omega)
 rcases List.mem_append.mp h with h | h
 ·obtain ⟨h1,h2,h3,h4⟩:=x1yo h
  have h4:¬ (x.1 % c=c - 1):=of_decide_eq_false h4
  refine ⟨h1,by omega,by omega,?_,by omega⟩
  by_cases e:x.1+1=r*c
  ·exfalso
   apply h4
   have:x.1=(r - 1)*c+(c - 1):=by rw [Int.sub_mul];omega
   rw [this]
   exact (x1yn (by omega) (by omega)).1
  ·omega
 ·obtain ⟨h1,h2,h3,h4⟩:=x1yo h
  have h4:¬ (x.1 / c=r - 1):=of_decide_eq_false h4
  refine ⟨h1,by omega,by omega,?_,by omega⟩
  have h5:x.1 / c < r:=Int.ediv_lt_of_lt_mul (by omega) (by omega)
  have h6:x.1 / c+1≤r - 1:=by omega
  have h7:=Int.emod_add_mul_ediv x.1 c
  have h8:=Int.emod_lt_of_pos x.1 (show 0 < c by omega)
  have h9:c*(x.1 / c+1)≤c*(r - 1):=Int.mul_le_mul_of_nonneg_left h6 (by omega)
  rw [Int.mul_add,Int.mul_sub] at h9
  rw [Int.mul_comm c r] at h9
  omega
def x1re (a b:Int):Int:=(b - a - x1rw (b - a)).tdiv 4096
def mkE (ph ws:List Int) (k:Nat) (x:Int×Int):Edge:=⟨x.1,x.2,x1re (at0 ph x.1.toNat) (at0 ph x.2.toNat),at0 ws k⟩
def x1qh (ph:List Int) (x:Int×Int):Bool:=decide (at0 ph x.1.toNat=void)||decide (at0 ph x.2.toNat=void)
def netM (ph ws:List Int):Nat→List (Int×Int)→List Edge
 | _,[]=>[]
 | k,x::r=>bif x1qh ph x then netM ph ws (k+1) r else mkE ph ws k x::netM ph ws (k+1) r
theorem x1xi (ph ws:List Int):∀ (l:List (Int×Int)) (k:Nat) (l':List (Int×Int)),netM ph ws k (l++l')=netM ph ws k l++netM ph ws (k+l.length) l'
 | [],k,l'=>by simp [netM]
 | x::r,k,l'=>by
   simp only [List.cons_append,netM,x1xi ph ws r,List.length_cons]
   rw [show k+1+r.length=k+(r.length+1) by omega]
   cases x1qh ph x<;>rfl
theorem x1vb (ph ws:List Int):∀ (l:List (Int×Int)) (k:Nat),(netM ph ws k l).length≤l.length
 | [],k=>by simp [netM]
 | x::r,k=>by
   have:=x1vb ph ws r (k+1)
   simp only [netM,List.length_cons]
   cases x1qh ph x<;>simp<;>omega
def x1qr (r c:Int) (ph ac dn:List Int):List Edge:=netM ph (ac++dn) 0 (x1rx r c)
theorem x1yq {r c:Int} (hr:1≤r) (hc:1≤c):((x1rx r c).length:Int)=r*(c - 1)+(r - 1)*c:=by
 rw [x24a hr hc,List.length_append,x1xh,x1xh,Int.natCast_add,Int.natCast_mul,Int.natCast_mul,show ((r.toNat:Nat):Int)=r by omega,show ((c.toNat - 1:Nat):Int)=c - 1 by omega,show ((r.toNat - 1:Nat):Int)=r - 1 by omega,show ((c.toNat:Nat):Int)=c by omega]
theorem x20x {a b:Int} (h1:-2048≤a) (h2:a≤2047) (h3:-2048≤b) (h4:b≤2047):-1≤x1re a b∧x1re a b≤1:=by
 unfold x1re
 have:=x20r (b - a)
 have h:(b - a - x1rw (b - a)) % 4096=0:=by unfold x1rw;omega
 rw [Int.tdiv_eq_ediv]
 split<;>omega
end Go.Ix
set_option linter.unusedSimpArgs false
set_option linter.unusedVariables false
namespace Go.Ix
open Go.Proofs
theorem z_2int:x6e=[I 0,I 0]:=by kernel_rfl
theorem x1yr (x y:Int):sIdx Try.prog xe8 (.agg [I x,I y]) (I 0)=some (I x)∧sIdx Try.prog xe8 (.agg [I x,I y]) (I 1)=some (I y):=⟨by kernel_rfl,by kernel_rfl⟩
theorem inv_yld {call:x1p9} {id:Id} {h:List AV→Mem→Option Mem} {hs:FHs} {mode:Nat} {l:List AV} {m:Mem}:x1qz call ((id,h)::hs) mode (.yld id) l m=(h l m).map fun m'=>(B true,m'):=by
 simp [x1qz,x1v3]
theorem x20y (x y:Int):x1pl x6e [(0,1,I x),(1,1,I y)]=some (.agg [I x,I y]):=by
 simp [x1pl,x1qi,z_2int]
theorem l_sides0 (call:x1p9) (id:Id) (h:List AV→Mem→Option Mem) (hs:FHs) (u:Nat) {r c:Int} (hc:1≤c) (hc2:c≤64) (hrc:r*c≤4096) (full:List (Int×Int)) (Inv:Nat→Mem→Prop) (hf:full.length≤10000)
 (hstep:∀ k p m,full[k]?=some p→Inv k m→∃ m',h [I k,.agg [I p.1,I p.2]] m=some m'∧Inv (k+1) m') (rec0:AV→AV→AV→AV→AV→AV→Mem→Nat→Option (AV×Mem)) (t9:AV) :
 ∀ (n:Nat) (k:Int) (i j:Nat) (tail:List (Int×Int)) (m:Mem) (fc:Nat),0≤k→k+n=r*c→n < j→Inv i m→full.drop i=x1ps (x1rl c) 1 n k++tail →
 ∃ m' fc',x1m call ((id,h)::hs) u rec0 j (.yld id) (.plit [I c]) (.plit [I r]) (I i) (I 0) (I 1) t9 (I 0) (I (r*c)) (I k) m fc=rec0 (.yld id) (.plit [I c]) (.plit [I r]) (I ((i+(x1ps (x1rl c) 1 n k).length:Nat):Int)) t9 (I 1) m' fc'∧Inv (i+(x1ps (x1rl c) 1 n k).length) m':=by
 intro n
 induction n with
 | zero=>
   intro k i j tail m fc h0 hk hj hI hd
   obtain ⟨j,rfl⟩:∃ i,j=i+1:=⟨j - 1,by omega⟩
   refine ⟨m,fc+1+2,?_,by simpa [x1ps] using hI⟩
   simp only [x1m]
   unfold x7s
   simp (disch:=omega) [show ¬ (k < r*c) by omega,xd,x1ps]
 | succ n ih=>
   intro k i j tail m fc h0 hk hj hI hd
   obtain ⟨j,rfl⟩:∃ i,j=i+1:=⟨j - 1,by omega⟩
   simp only [x1m]
   unfold x7s xb2
   have hr1:k.tmod c=k % c:=Int.tmod_eq_emod_of_nonneg h0
   have hlt:k < r*c:=by omega
   cases hs':x1rl c k
   ·have hne:¬ (k % c=c - 1):=of_decide_eq_false hs'
    have hL:x1ps (x1rl c) 1 (n+1) k=(k,k+1)::x1ps (x1rl c) 1 n (k+1):=by rw [x1ps,hs'];rfl
    rw [hL] at hd ⊢
    obtain ⟨hi,hie,hd⟩:=x1qg hd
    obtain ⟨m',h1,h2⟩:=hstep i (k,k+1) m (by rw [List.getElem?_eq_getElem hi,hie]) hI
    obtain ⟨m2,fc2,h3,h4⟩:=ih (k+1) (i+1) j tail m' (fc+39) (by omega) (by omega) (by omega) h2 hd
    refine ⟨m2,fc2,?_,by rw [List.length_cons,show i+((x1ps (x1rl c) 1 n (k+1)).length+1)=i+1+(x1ps (x1rl c) 1 n (k+1)).length by omega];exact h4⟩
    rw [List.length_cons,show i+((x1ps (x1rl c) 1 n (k+1)).length+1)=i+1+(x1ps (x1rl c) 1 n (k+1)).length by omega,← h3]
    simp (disch:=omega) [hlt,x1y4,hr1,hne,x20y,inv_yld,h1,x5i]
   ·have hne:k % c=c - 1:=of_decide_eq_true hs'
    have hL:x1ps (x1rl c) 1 (n+1) k=x1ps (x1rl c) 1 n (k+1):=by rw [x1ps,hs'];rfl
    rw [hL] at hd ⊢
    obtain ⟨m2,fc2,h3,h4⟩:=ih (k+1) i j tail m (fc+27) (by omega) (by omega) (by omega) hI hd
    refine ⟨m2,fc2,?_,h4⟩
    rw [← h3]
    simp (disch:=omega) [hlt,x1y4,hr1,hne,x5i]
theorem l_sides1 (call:x1p9) (id:Id) (h:List AV→Mem→Option Mem) (hs:FHs) (u:Nat) {r c:Int} (hc:1≤c) (hc2:c≤64) (hr2:-100≤r∧r≤64) (hrc:r*c≤4096) (full:List (Int×Int)) (Inv:Nat→Mem→Prop) (hf:full.length≤10000)
 (hstep:∀ k p m,full[k]?=some p→Inv k m→∃ m',h [I k,.agg [I p.1,I p.2]] m=some m'∧Inv (k+1) m') (rec0:AV→AV→AV→AV→AV→AV→Mem→Nat→Option (AV×Mem)) (t9:AV) :
 ∀ (n:Nat) (k:Int) (i j:Nat) (tail:List (Int×Int)) (m:Mem) (fc:Nat),0≤k→k+n=r*c→n < j→Inv i m→full.drop i=x1ps (x1rr r c) c n k++tail →
 ∃ m' fc',x1m call ((id,h)::hs) u rec0 j (.yld id) (.plit [I c]) (.plit [I r]) (I i) (I 1) (I c) t9 (I 1) (I (r*c)) (I k) m fc=rec0 (.yld id) (.plit [I c]) (.plit [I r]) (I ((i+(x1ps (x1rr r c) c n k).length:Nat):Int)) t9 (I 2) m' fc'∧Inv (i+(x1ps (x1rr r c) c n k).length) m':=by
 intro n
 induction n with
 | zero=>
   intro k i j tail m fc h0 hk hj hI hd
   obtain ⟨j,rfl⟩:∃ i,j=i+1:=⟨j - 1,by omega⟩
   refine ⟨m,fc+1+2,?_,by simpa [x1ps] using hI⟩
   simp only [x1m]
   unfold x7s
   simp (disch:=omega) [show ¬ (k < r*c) by omega,xd,x1ps]
 | succ n ih=>
   intro k i j tail m fc h0 hk hj hI hd
   obtain ⟨j,rfl⟩:∃ i,j=i+1:=⟨j - 1,by omega⟩
   simp only [x1m]
   unfold x7s xb2
   have hr1:k.tdiv c=k / c:=Int.tdiv_eq_ediv_of_nonneg h0
   have hlt:k < r*c:=by omega
   have q0:0≤k / c:=Int.ediv_nonneg h0 (by omega)
   have q1:k / c≤k:=Int.ediv_le_self _ h0
   cases hs':x1rr r c k
   ·have hne:¬ (k / c=r - 1):=of_decide_eq_false hs'
    have hL:x1ps (x1rr r c) c (n+1) k=(k,k+c)::x1ps (x1rr r c) c n (k+1):=by rw [x1ps,hs'];rfl
    rw [hL] at hd ⊢
    obtain ⟨hi,hie,hd⟩:=x1qg hd
    obtain ⟨m',h1,h2⟩:=hstep i (k,k+c) m (by rw [List.getElem?_eq_getElem hi,hie]) hI
    obtain ⟨m2,fc2,h3,h4⟩:=ih (k+1) (i+1) j tail m' (fc+39) (by omega) (by omega) (by omega) h2 hd
    refine ⟨m2,fc2,?_,by rw [List.length_cons,show i+((x1ps (x1rr r c) c n (k+1)).length+1)=i+1+(x1ps (x1rr r c) c n (k+1)).length by omega];exact h4⟩
    rw [List.length_cons,show i+((x1ps (x1rr r c) c n (k+1)).length+1)=i+1+(x1ps (x1rr r c) c n (k+1)).length by omega,← h3]
    simp (disch:=omega) [hlt,x1x6,hr1,hne,x20y,inv_yld,h1,x5i]
   ·have hne:k / c=r - 1:=of_decide_eq_true hs'
    have hL:x1ps (x1rr r c) c (n+1) k=x1ps (x1rr r c) c n (k+1):=by rw [x1ps,hs'];rfl
    rw [hL] at hd ⊢
    obtain ⟨m2,fc2,h3,h4⟩:=ih (k+1) i j tail m (fc+27) (by omega) (by omega) (by omega) hI hd
    refine ⟨m2,fc2,?_,h4⟩
    rw [← h3]
    simp (disch:=omega) [hlt,x1x6,hr1,hne,x5i]
theorem w_sides1 (d:Nat) (id:Id) (h:List AV→Mem→Option Mem) (hs:FHs) {r c:Int} (hr:1≤r) (hr2:r≤64) (hc:1≤c) (hc2:c≤64) (Inv:Nat→Mem→Prop) (m:Mem) (h0:Inv 0 ⟨m.hp,m.next+1⟩)
 (hstep:∀ k p m,(x1rx r c)[k]?=some p→Inv k m→∃ m',h [I k,.agg [I p.1,I p.2]] m=some m'∧Inv (k+1) m') :
 ∃ m',x1pa (d+1) ((id,h)::hs) x35 [.yld id,.plit [I c],.plit [I r]] m=some (.tup [],m')∧Inv (x1rx r c).length m':=by
 have hrc:=x1va (wi_iff.mpr ⟨hr,hr2⟩) (wi_iff.mpr ⟨hc,hc2⟩)
 have hlen:(x1rx r c).length≤10000:=by
  have:=x1yq hr hc
  have e1:r*(c - 1)=r*c - r:=by rw [Int.mul_sub];omega
  have e2:(r - 1)*c=r*c - c:=by rw [Int.sub_mul];omega
  omega
 rw [xz5]
 unfold xa3 xiv
 obtain ⟨j,hj⟩:=NN_3
 have hn:(0:Int)+((r*c).toNat:Int)=r*c:=by omega
 obtain ⟨m1,f1,e1,i1⟩:=l_sides0 (x1pa d) id h hs m.next hc hc2 hrc.2 (x1rx r c) Inv hlen hstep (x1n (x1pa d) ((id,h)::hs) m.next (j+2)) (.agg [I 1,I c]) (r*c).toNat 0 0 NN (x1ps (x1rr r c) c (r*c).toNat 0) ⟨m.hp,m.next+1⟩ 13 (by omega) hn (by rw [x1pp];omega) h0 rfl
 rw [Nat.zero_add] at e1 i1
 obtain ⟨m2,f2,e2,i2⟩:=l_sides1 (x1pa d) id h hs m.next hc hc2 ⟨by omega,hr2⟩ hrc.2 (x1rx r c) Inv hlen hstep (x1n (x1pa d) ((id,h)::hs) m.next (j+1)) (.agg [I 1,I c]) (r*c).toNat 0 (x1ps (x1rl c) 1 (r*c).toNat 0).length NN [] m1 (f1+9) (by omega) hn (by rw [x1pp];omega) i1 (by
  unfold x1rx
  rw [List.drop_left,List.append_nil])
 refine ⟨m2,?_,?_⟩
 rotate_left
 ·unfold x1rx;rw [List.length_append];exact i2
 ·have hL:∀ (n:Nat) (t0 t1 t2 t4 t9 t10:AV) (M:Mem) (fc:Nat),x1n (x1pa d) ((id,h)::hs) m.next (n+1) t0 t1 t2 t4 t9 t10 M fc=x7u (x1pa d) ((id,h)::hs) m.next (x1n (x1pa d) ((id,h)::hs) m.next n) t0 t1 t2 t4 t9 t10 M fc:=fun _ _ _ _ _ _ _ _ _=>rfl
  have h3:x1n (x1pa d) ((id,h)::hs) m.next NN=x1n (x1pa d) ((id,h)::hs) m.next (j+3):=by rw [hj]
  simp only [x1so,rd_f,x1pf,x20y,h3,hL]
  unfold x7u x7t
  simp (disch:=omega) only [x1r1,x1pf,x1qj,x1ru,decide_true,(x1yr 1 c).1,(x1yr 1 c).2,x1so,rd_f,x1y3,x1qc,show ((0:Int) < 2) from by omega]
  refine Eq.trans e1 ?_
  rw [hL]
  unfold x7u x7t
  simp (disch:=omega) only [x1r1,x1pf,x1qj,x1ru,decide_true,(x1yr 1 c).1,(x1yr 1 c).2,x1so,rd_f,x1y3,x1qc,show ((1:Int) < 2) from by omega]
  refine Eq.trans e2 ?_
  rw [hL]
  unfold x7u
  simp
end Go.Ix
set_option linter.unusedSimpArgs false
set_option linter.unusedVariables false
namespace Go.Ix
open Go.Proofs
theorem Edge.still1 (e:Edge):e.c.all Go.Ix.still1=true:=rfl
theorem mkLit_4 {id:Id} {a b c d:Int} {m:Mem} {R:Type} (k:AV→Mem→Option R):x1pt x6 [(0,4,.agg [I a,I b,I c,I d])] 1 4 id m k=k (.slit [I a,I b,I c,I d] 1 true) m:=by
 simp [x1pt,x1qi,x1py,x1r7,List.range_succ,x1pz]
theorem x26r (a b c d:Int):x1pl x6 [(0,1,I a),(1,1,I b),(2,1,I c),(3,1,I d)]=some (.agg [I a,I b,I c,I d]):=by
 simp [x1pl,x1qi,x1r7]
theorem jumpM_w {a b:Int} (h1:-2048≤a) (h2:a≤2047) (h3:-2048≤b) (h4:b≤2047):w64 ((b - a - x1rw (b - a)).tdiv 4096)=x1re a b:=by
 have:=x20x h1 h2 h3 h4
 exact x1qc (by unfold x1re at this;omega) (by unfold x1re at this;omega)
def okE (id:Id):Prop:=id.2.2=68∨id.2.2=116
structure NetInv (r c n:Int) (p ws:AV) (ph wl:List Int) (idm idn idw:Id) (m:Mem) (l:List Edge):Prop where
 map:m.get idm=some (.row [I r,I c,p] 0 false)
 net:∃ ev,m.get idn=some (.row [I n,ev] 0 false)∧Gk 4 Edge.c okE m ev l
 wts:m.get idw=some (.row [ws] 0 false)
 nxt:1≤m.next
theorem netM_snoc (ph ws:List Int) (l:List (Int×Int)) (x:Int×Int):netM ph ws 0 (l++[x])=if x1qh ph x=true then netM ph ws 0 l else netM ph ws 0 l++[mkE ph ws l.length x]:=by
 rw [x1xi,Nat.zero_add]
 simp only [netM]
 cases x1qh ph x<;>simp
theorem x26s (d:Nat) {hs:FHs} {r c n:Int} {p ws:AV} {ph wl:List Int} (hp:Ints p ph) (hw:Ints ws wl) (hph:PhIn ph) {m:Mem} {l:List Edge} (hl:l.length≤10000) (hI:NetInv r c n p ws ph wl (0,4,3) (0,10,4) (0,18,5) m l)
 (h2:∀ id o,id=(0,1,2)→m.get id=some o→True) {k:Nat} {x:Int×Int} (hk:k < wl.length) (hx:0≤x.1∧x.1 < ph.length∧0≤x.2∧x.2 < ph.length) :
 ∃ m',x79 (x1pa (d+1)) hs m.next (.ptr (0,4,3) 0 0) (.ptr (0,10,4) 0 0) (.ptr (0,18,5) 0 0) (I k) (.agg [I x.1,I x.2]) ⟨m.hp,m.next+1⟩ 0=some m' ∧
   NetInv r c n p ws ph wl (0,4,3) (0,10,4) (0,18,5) m' (if x1qh ph x=true then l else l++[mkE ph wl k x])∧m'.get (0,1,2)=m.get (0,1,2):=by
 obtain ⟨h1,⟨ev,h3,hG⟩,h4,h5⟩:=hI
 obtain ⟨x0,x1,x2,x3⟩:=hx
 have i1:=hp.ixI x1pv x0 x1
 have i2:=hp.ixI x1pv x2 x3
 have iw:=hw.ix x1pv hk
 have l1:x.1.toNat < ph.length:=by omega
 have l2:x.2.toNat < ph.length:=by omega
 have b1:=hph x.1.toNat
 have b2:=hph x.2.toNat
 have g1:(⟨m.hp,m.next+1⟩:Mem).get (0,4,3)=some (.row [I r,I c,p] 0 false):=h1
 have g3:(⟨m.hp,m.next+1⟩:Mem).get (0,10,4)=some (.row [I n,ev] 0 false):=h3
 have g4:(⟨m.hp,m.next+1⟩:Mem).get (0,18,5)=some (.row [ws] 0 false):=h4
 have hnb:Nat.blt 0 (m.next+1)=true:=by simp [Nat.blt]
 have ia0:∀ id,sIxA 2 1 (.ptr id 0 0) (I 0)=some (.ptr id 0 0):=fun _=>by simp [sIxA,asI]
 have ia1:∀ id,sIxA 2 1 (.ptr id 0 0) (I 1)=some (.ptr id 0 1):=fun _=>by simp [sIxA,asI]
 obtain ⟨M,hM⟩:∃ M,M=(((⟨m.hp,m.next+1⟩:Mem).new (m.next,1,7) (.row [I 0,I 0] 0 false)).set (m.next,1,7) (.row [I x.1,I x.2] 0 false)):=⟨_,rfl⟩
 have hMg:∀ j:Id,j≠(m.next,1,7)→M.get j=m.get j:=fun j hj=>by
  rw [hM,Mem.get_set,if_neg hj,Mem.get_new,if_neg hj];rfl
 have hM7:M.get (m.next,1,7)=some (.row [I x.1,I x.2] 0 false):=by rw [hM];simp
 have hMn:M.next=m.next+1:=by rw [hM];rfl
 have e1:M.get (0,4,3)=some (.row [I r,I c,p] 0 false):=by rw [hMg _ (by simp)];exact h1
 have e3:M.get (0,10,4)=some (.row [I n,ev] 0 false):=by rw [hMg _ (by simp)];exact h3
 have e4:M.get (0,18,5)=some (.row [ws] 0 false):=by rw [hMg _ (by simp)];exact h4
 have hGM:Gk 4 Edge.c okE M ev l:=hG.frame fun id hid=>hMg id (by rintro rfl;rcases hid with h | h<;>simp at h)
 have start:∀ K:Option Mem,x6d (x1pa (d+1)) hs m.next (.ptr (0,4,3) 0 0) (.ptr (0,10,4) 0 0) (.ptr (0,18,5) 0 0) (I k) (.ptr (m.next,1,7) 0 0) M 3=K →
  x79 (x1pa (d+1)) hs m.next (.ptr (0,4,3) 0 0) (.ptr (0,10,4) 0 0) (.ptr (0,18,5) 0 0) (I k) (.agg [I x.1,I x.2]) ⟨m.hp,m.next+1⟩ 0=K:=by
  intro K hK
  unfold x79
  rw [← hK,hM]
  simp [z_2int]
 by_cases v1:at0 ph x.1.toNat=void
 ·have hv:x1qh ph x=true:=by simp [x1qh,v1]
  refine ⟨M,start _ ?_,⟨e1,⟨ev,e3,by rw [if_pos hv];exact hGM⟩,e4,by omega⟩,hMg _ (by simp)⟩
  unfold x6d
  simp (disch:=omega) [e1,hM7,ia0,ia1,i1,i2,x1pr,x1wh,v1]
 by_cases v2:at0 ph x.2.toNat=void
 ·have hv:x1qh ph x=true:=by simp [x1qh,v2]
  refine ⟨M,start _ ?_,⟨e1,⟨ev,e3,by rw [if_pos hv];exact hGM⟩,e4,by omega⟩,hMg _ (by simp)⟩
  unfold x6d
  simp (disch:=omega) [e1,hM7,ia0,ia1,i1,i2,x1pr,x1wh,v1,v2]
 have hv:x1qh ph x=false:=by simp [x1qh,v1,v2]
 have hj:=jumpM_w (a:=at0 ph x.1.toNat) (b:=at0 ph x.2.toNat) (by omega) (by omega) (by omega) (by omega)
 have hwr:=x20r (at0 ph x.2.toNat - at0 ph x.1.toNat)
 obtain ⟨a',m2,A,hG2,c1,c2,n2,f2⟩:=hGM.app Edge.len (by omega) (bytes:=32) (id0:=(m.next,3+41,68)) (Or.inl rfl) (by unfold x1pq;omega) (mkE ph wl k x)
 have e3':m2.get (0,10,4)=some (.row [I n,ev] 0 false):=by rw [f2 _ (by unfold okE;simp)];exact e3
 refine ⟨m2.set (0,10,4) (.row [I n,a'] 0 false),start _ ?_,⟨?_,⟨a',by simp,?_⟩,?_,?_⟩,?_⟩
 ·unfold x6d
  have hel:∀ M:Mem,elems M.get 4 (.slit [I x.1,I x.2,I (x1re (at0 ph x.1.toNat) (at0 ph x.2.toNat)),I (at0 wl k)] 1 true)=some ((mkE ph wl k x).c,1):=fun _=>rfl
  have hq:sQuo (I (at0 ph x.2.toNat - at0 ph x.1.toNat - x1rw (at0 ph x.2.toNat - at0 ph x.1.toNat))) (I 4096)=some (I (x1re (at0 ph x.1.toNat) (at0 ph x.2.toNat))):=by rw [x1x6 (by omega),hj]
  have hc:∀ z:AV,cAp (some M.next) (tR (.ptr (0,18,5) 0 0)) 2=true:=fun _=>by rw [hMn];simp [cAp,tR,Nat.blt]
  have hc2:∀ l:List AV,cAp (some M.next) (tR (.plit l)) 2=true:=fun _=>rfl
  simp (disch:=omega) [e1,hM7,ia0,ia1,i1,i2,iw,x1pr,x1wh,v1,v2,e3,e4,x243,hq,x26r,mkLit_4,hel,A,e3',c1,c2,hc U,hc2,x1pd,disj,tR]
  simp [hc U,hc2,cAp,tR,hMn,Nat.blt,Nat.ble_eq_true_of_le (show 1≤m.next+1 by omega)]
 ·rw [Mem.get_set,if_neg (by simp),f2 _ (by unfold okE;simp)];exact e1
 ·rw [hv]
  simp only [Bool.false_eq_true,if_false]
  exact hG2.frame fun id hid=>by rw [Mem.get_set,if_neg (by rintro rfl;rcases hid with h | h<;>simp at h)]
 ·rw [Mem.get_set,if_neg (by simp),f2 _ (by unfold okE;simp)];exact e4
 ·simp only [Mem.next_set];omega
 ·rw [Mem.get_set,if_neg (by simp),f2 _ (by unfold okE;simp),hMg _ (by simp)]
theorem x1uw {r c:Int} {ph ac dn:List Int} (h:x1qm r c ph ac dn=0):1≤r∧r≤64∧1≤c∧c≤64∧(ph.length:Int)=r*c∧x1rb isW ph=0∧(ac.length:Int)=r*(c - 1)∧(dn.length:Int)=(r - 1)*c∧(ph.length:Int)≤144∧x1tb (ac++dn)=0:=by
 unfold x1qm at h
 by_cases c1:x1rq r c ph.length=0
 rotate_left
 ·simp [c1] at h
 have hsz:x1uu (fun _=>true) r c ph=0:=by
  unfold x1uu x1rb
  simp [c1]
  cases e:ph.any (badP fun _=>true)
  ·rfl
  ·exfalso
   rw [List.any_eq_true] at e
   obtain ⟨x,-,hx⟩:=e
   simp [badP] at hx
 obtain ⟨r0,r1,c0,c2,hlen,-⟩:=x20s hsz
 by_cases c3:144 < (ph.length:Int)
 ·simp [c1,c3] at h
 by_cases c4:x1rb isW ph=0
 rotate_left
 ·simp [c1,c3,c4] at h
 by_cases c5:(ac.length:Int)=r*(c - 1)
 rotate_left
 ·simp [c1,c3,c4,c5] at h
 by_cases c6:(dn.length:Int)=(r - 1)*c
 rotate_left
 ·simp [c1,c3,c4,c5,c6] at h
 simp [c1,c3,c4,c5,c6] at h
 exact ⟨r0,r1,c0,c2,hlen,c4,c5,c6,by omega,h⟩
theorem w_netOf (d:Nat) {r c:Int} {p a b:AV} {ph ac dn:List Int} (hp:Ints p ph) (ha:Ints a ac) (hb:Ints b dn) (hr:x1qm r c ph ac dn=0) (m:Mem) :
 ∃ ev,Sl Edge.c ev (x1qr r c ph ac dn)∧x1pb (x1pa (d+4)) x1e [.agg [I r,I c,p,a,b]] m=some (.agg [I ph.length,ev],m):=by
 obtain ⟨r0,r1,c0,c1,hlen,hph,hac,hdn,-,-⟩:=x1uw hr
 have hrc:=x1va (wi_iff.mpr ⟨r0,r1⟩) (wi_iff.mpr ⟨c0,c1⟩)
 have e1:r*(c - 1)=r*c - r:=by rw [Int.mul_sub];omega
 have e2:(r - 1)*c=r*c - c:=by rw [Int.sub_mul];omega
 have hsl:=x1yq r0 c0
 have hin:=x1uv hph
 obtain ⟨m4,hm4⟩:∃ m4:Mem,m4=((((((⟨[],1⟩:Mem).new (0,0,1) (.row [I r,I c,p,a,b] 0 false)).new (0,1,2) (.row [I 0,nilS] 0 false)).new (0,4,3) (.row [I 0,I 0,nilS] 0 false)).set (0,4,3) (.row [I r,I c,p] 0 false)).new (0,10,4) (.row [I 0,nilS] 0 false)).set (0,10,4) (.row [I ph.length,nilS] 0 false):=⟨_,rfl⟩
 obtain ⟨ws,hws,hC⟩:=x231 (d+1) ha hb (by omega) (by omega) m4
 obtain ⟨m5,hm5⟩:∃ m5:Mem,m5=(m4.new (0,18,5) (.row [nilS] 0 false)).set (0,18,5) (.row [ws] 0 false):=⟨_,rfl⟩
 have hsd:x1pb (x1pa (d+3)) x60 [I r,I c] m5=some (.clo x35 [.plit [I c],.plit [I r]],m5):=by
  refine x1sq (m':=((⟨[],1⟩:Mem).new (0,0,2) (.row [I r] 0 false)).new (0,1,3) (.row [I c] 0 false)) (r:=.clo x35 [.ptr (0,1,3) 0 0,.ptr (0,0,2) 0 0]) rfl ?_ ?_
  ·rw [xyw]
   unfold x9w xik
   simp [mem0]
  ·rfl
 have h0:NetInv r c ph.length p ws ph (ac++dn) (0,4,3) (0,10,4) (0,18,5) ⟨m5.hp,m5.next+1⟩ []∧(⟨m5.hp,m5.next+1⟩:Mem).get (0,1,2)=some (.row [I 0,nilS] 0 false):=by
  have g:∀ id,(⟨m5.hp,m5.next+1⟩:Mem).get id=m5.get id:=fun _=>rfl
  refine ⟨⟨?_,⟨nilS,?_,.nil⟩,?_,by simp⟩,?_⟩<;>rw [g,hm5,hm4]<;>simp
 obtain ⟨m',hcall,hI,hres⟩:=w_sides1 (d+2) (0,25,0) (fun args m=>bif Nat.beq args.length 2&&true then x79 (x1pa (d+3)) [] m.next (.ptr (0,4,3) 0 0) (.ptr (0,10,4) 0 0) (.ptr (0,18,5) 0 0) (args.getD 0 U) (args.getD 1 U) ⟨m.hp,m.next+1⟩ 0 else none) [] r0 r1 c0 c1
  (fun k m=>NetInv r c ph.length p ws ph (ac++dn) (0,4,3) (0,10,4) (0,18,5) m (netM ph (ac++dn) 0 ((x1rx r c).take k))∧m.get (0,1,2)=some (.row [I 0,nilS] 0 false)) m5 h0 (by
   intro k x m hx ⟨hI,hg⟩
   obtain ⟨hk,hxe⟩:=List.getElem?_eq_some_iff.mp hx
   have hb:=x1yp r0 c0 (hxe ▸ List.getElem_mem hk)
   have hl:=x1vb ph (ac++dn) ((x1rx r c).take k) 0
   obtain ⟨m',h1,h2,h3⟩:=x26s (d+2) (hs:=[]) hp hws hin (by simp at hl;omega) hI (fun _ _ _ _=>trivial) (k:=k) (x:=x) (by simp;omega) (by omega)
   refine ⟨m',?_,?_,by rw [h3];exact hg⟩
   ·simpa using h1
   ·rw [List.take_succ_eq_append_getElem hk,hxe,netM_snoc,List.length_take,Nat.min_eq_left (by omega)]
    exact h2)
 rw [List.take_length] at hI
 obtain ⟨-,⟨ev,hgn,hG⟩,-,-⟩:=hI
 have hG2:Gk 4 Edge.c okE (m'.set (0,1,2) (.row [I ph.length,ev] 0 false)) ev (x1qr r c ph ac dn):=hG.frame fun id hid=>by rw [Mem.get_set,if_neg (by rintro rfl;rcases hid with h | h<;>simp at h)]
 obtain ⟨ev',hev,hfz⟩:=hG2.frz (k:=3) Edge.len Edge.still1
 refine ⟨ev',hev,x1sq (by simp [hp.still1,ha.still1,hb.still1]) (m':=m'.set (0,1,2) (.row [I ph.length,ev] 0 false)) (r:=.agg [I ph.length,ev]) ?_ ?_⟩
 ·rw [xy8]
  unfold x98 xhq
  have hml:∀ (id:Id) (m:Mem) (k:AV→Mem→Option (AV×Mem)),x1pt [nilS] [(0,1,a),(1,1,b)] 2 1 id m k=k (.slit [a,b] 2 true) m:=by
   intro id m k
   simp [x1pt,x1qi,x1py,ha.cells,hb.cells,ha.one,hb.one,ha.clean1,hb.clean1,List.range_succ,x1pz]
  have hbn:x1pl [I 0,nilS] [(0,1,I ph.length)]=some (.agg [I ph.length,nilS]):=by simp [x1pl,x1qi]
  rw [hm4] at hC
  simp [mem0,hp.one,ha.one,hb.one,x1ua,z_net,hp.len x1pi,hml,hbn,hC,x1wb,hws.cells,hws.one]
  rw [← hm4,← hm5]
  unfold xd1
  have g3:m5.get (0,4,3)=some (.row [I r,I c,p] 0 false):=by rw [hm5,hm4];simp
  simp only [x1q5,x1pf,Nat.zero_add,x1pm,g3,x1pn,Nat.beq_refl,x1pj,List.drop_zero,List.drop_succ_cons,rd_f,hsd]
  unfold xd0
  simp only [sRng]
  rw [show (20+5:Nat)=25 from rfl]
  rw [hcall]
  unfold x6c
  simp [hgn,hres,hG.one.1,hG.one.2,sLdP]
 ·show ([I (ph.length:Int),ev].mapM (frz (m'.set (0,1,2) (.row [I ph.length,ev] 0 false)).get 5)).map AV.agg=_
  simp only [List.mapM_cons,List.mapM_nil,hfz]
  rfl
theorem w_edge (d:Nat) {r c w:Int} {p:AV} {ph:List Int} (hp:Ints p ph) (hph:PhIn ph) {x:Int×Int} (hx:0≤x.1∧x.1 < ph.length∧0≤x.2∧x.2 < ph.length) (m:Mem) :
 x1pb (x1pa (d+3)) x4n [.agg [I r,I c,p],I x.1,I x.2,I w] m=some (.tup (bif x1qh ph x then [.agg [I 0,I 0,I 0,I 0],B false] else [.agg [I x.1,I x.2,I (x1re (at0 ph x.1.toNat) (at0 ph x.2.toNat)),I w],B true]),m):=by
 obtain ⟨x0,x1,x2,x3⟩:=hx
 have i1:=hp.ixI x1pv x0 x1
 have i2:=hp.ixI x1pv x2 x3
 have l1:x.1.toNat < ph.length:=by omega
 have l2:x.2.toNat < ph.length:=by omega
 have b1:=hph x.1.toNat
 have b2:=hph x.2.toNat
 refine Ans.call0_tup ?_ (by simp [hp.still1]) (by cases x1qh ph x<;>rfl)
 unfold Ans
 rw [xyg]
 unfold x9g xhz
 have hb0:x1pl [I 0,I 0,I 0,I 0] []=some (.agg [I 0,I 0,I 0,I 0]):=rfl
 by_cases v1:at0 ph x.1.toNat=void
 ·simp [mem0,hp.one,x1r7,i1,i2,l1,l2,x1pr,v1,hb0,sLdP,x1qh]
 by_cases v2:at0 ph x.2.toNat=void
 ·simp [mem0,hp.one,x1r7,i1,i2,l1,l2,x1pr,v1,v2,hb0,sLdP,x1qh]
 have hwr:=x20r (at0 ph x.2.toNat - at0 ph x.1.toNat)
 have hj:=jumpM_w (a:=at0 ph x.1.toNat) (b:=at0 ph x.2.toNat) (by omega) (by omega) (by omega) (by omega)
 have hq:sQuo (I (at0 ph x.2.toNat - at0 ph x.1.toNat - x1rw (at0 ph x.2.toNat - at0 ph x.1.toNat))) (I 4096)=some (I (x1re (at0 ph x.1.toNat) (at0 ph x.2.toNat))):=by rw [x1x6 (by omega),hj]
 have hb:∀ a b c d:Int,x1pl [I 0,I 0,I 0,I 0] [(0,1,I a),(1,1,I b),(2,1,I c),(3,1,I d)]=some (.agg [I a,I b,I c,I d]):=fun a b c d=>by simp [x1pl,x1qi]
 simp (disch:=omega) [mem0,hp.one,x1r7,i1,i2,l1,l2,x1pr,v1,v2,w_Wrapped,hq,hb,sLdP,x1qh]
end Go.Ix
set_option linter.unusedSimpArgs false
set_option linter.unusedVariables false
namespace Go.Ix
open Go.Proofs
structure RefInv (r c n:Int) (p a b:AV) (m:Mem) (l:List Edge):Prop where
 task:m.get (0,0,1)=some (.row [I r,I c,p,a,b] 0 false)
 res:m.get (0,1,2)=some (.row [I 0,nilS] 0 false)
 map:m.get (0,4,3)=some (.row [I r,I c,p] 0 false)
 nxt:1≤m.next
 net:∃ ev,m.get (0,12,4)=some (.row [I n,ev] 0 false)∧Gk 4 Edge.c okE m ev l
theorem x24b {id:Id} {a b c d:Int} {m:Mem} {R:Type} (k:AV→Mem→Option R):x1pt [I 0,I 0,I 0,I 0] [(0,4,.agg [I a,I b,I c,I d])] 1 4 id m k=k (.slit [I a,I b,I c,I d] 1 true) m:=by
 simp [x1pt,x1qi,x1py,List.range_succ,x1pz]
theorem l_rNet3 (d:Nat) (hs:FHs) {r c n:Int} {p a b:AV} {ph ac dn:List Int} (hp:Ints p ph) (ha:Ints a ac) (hb:Ints b dn) (hph:PhIn ph) (r1:r≤64) (c0:1≤c) (c1:c≤64) (hlen:(ph.length:Int)=r*c) (hac:(ac.length:Int)=r*(c - 1)) (q:Int) (q0:0≤q) (q1:q < r)
 (rec2:AV→AV→AV→AV→AV→Mem→Nat→Option (AV×Mem)) :
 ∀ (s:Nat) (k:Int) (j:Nat) (l:List Edge) (m:Mem) (fc:Nat),0≤k→k+s=c - 1→s < j→l.length+s≤20000→RefInv r c n p a b m l →
 ∃ m' fc',x12 (x1pa (d+3)) hs 0 rec2 j (.ptr (0,0,1) 0 0) (.ptr (0,1,2) 0 0) (.ptr (0,4,3) 0 0) (.ptr (0,12,4) 0 0) (I q) (I k) m fc=rec2 (.ptr (0,0,1) 0 0) (.ptr (0,1,2) 0 0) (.ptr (0,4,3) 0 0) (.ptr (0,12,4) 0 0) (I (q+1)) m' fc' ∧
   RefInv r c n p a b m' (l++netM ph (ac++dn) (q*(c - 1)+k).toNat (rowL 1 (q*c) s k)):=by
 have hqc0:0≤q*c:=Int.mul_nonneg q0 (by omega)
 have hqc:(q+1)*c≤r*c:=Int.mul_le_mul_of_nonneg_right (by omega) (by omega)
 have hrc:r*c≤64*64:=Int.mul_le_mul r1 c1 (by omega) (by omega)
 rw [Int.add_mul] at hqc
 have e2:q*(c - 1)=q*c - q:=by rw [Int.mul_sub];omega
 have e3:r*(c - 1)=r*c - r:=by rw [Int.mul_sub];omega
 have hq2:0≤q*(c - 1):=Int.mul_nonneg q0 (by omega)
 have hq3:(q+1)*(c - 1)≤r*(c - 1):=Int.mul_le_mul_of_nonneg_right (by omega) (by omega)
 rw [Int.add_mul] at hq3
 intro s
 induction s with
 | zero=>
   intro k j l m fc k0 hk hj hl hI
   obtain ⟨j,rfl⟩:∃ i,j=i+1:=⟨j - 1,by omega⟩
   refine ⟨m,fc+5+3,?_,by simpa [rowL,netM] using hI⟩
   simp only [x12]
   unfold xac
   simp (disch:=omega) [hI.map,show ¬ (k+1 < c) by omega,xi]
 | succ s ih=>
   intro k j l m fc k0 hk hj hl hI
   obtain ⟨j,rfl⟩:∃ i,j=i+1:=⟨j - 1,by omega⟩
   obtain ⟨h1,h2,h3,hn,ev,h4,hG⟩:=hI
   have we:=fun m=>w_edge d (r:=r) (c:=c) (w:=at0 ac (q*(c - 1)+k).toNat) hp hph (x:=(q*c+k,q*c+k+1)) (by simp only;omega) m
   simp only at we
   have ix:=ha.ixI x1pv (k:=q*(c - 1)+k) (by omega) (by omega)
   have la:(q*(c - 1)+k).toNat < ac.length:=by omega
   have hkc:k+1 < c:=by omega
   have hidx:(q*(c - 1)+k).toNat+1=(q*(c - 1)+(k+1)).toNat:=by omega
   have hmk:mkE ph (ac++dn) (q*(c - 1)+k).toNat (q*c+k,q*c+k+1)=⟨q*c+k,q*c+k+1,x1re (at0 ph (q*c+k).toNat) (at0 ph (q*c+k+1).toNat),at0 ac (q*(c - 1)+k).toNat⟩:=by
    unfold mkE
    rw [x22z la]
   have hrow:netM ph (ac++dn) (q*(c - 1)+k).toNat (rowL 1 (q*c) (s+1) k)=(if x1qh ph (q*c+k,q*c+k+1)=true then [] else [mkE ph (ac++dn) (q*(c - 1)+k).toNat (q*c+k,q*c+k+1)])++netM ph (ac++dn) (q*(c - 1)+(k+1)).toNat (rowL 1 (q*c) s (k+1)):=by
    rw [rowL,netM,hidx]
    cases x1qh ph (q*c+k,q*c+k+1)<;>rfl
   rw [hrow]
   have hnb:Nat.ble 1 m.next=true:=Nat.ble_eq_true_of_le hn
   cases hv:x1qh ph (q*c+k,q*c+k+1)
   ·simp only [Bool.false_eq_true,if_false]
    simp only [hv,cond_false] at we
    obtain ⟨M,hM⟩:∃ M,M=(m.new (0,fc+5+29,7) (.row [I 0,I 0,I 0,I 0] 0 false)).set (0,fc+5+29,7) (.row [I (q*c+k),I (q*c+k+1),I (x1re (at0 ph (q*c+k).toNat) (at0 ph (q*c+k+1).toNat)),I (at0 ac (q*(c - 1)+k).toNat)] 0 false):=⟨_,rfl⟩
    have hMg:∀ i:Id,i≠(0,fc+5+29,7)→M.get i=m.get i:=fun i hi=>by rw [hM,Mem.get_set,if_neg hi,Mem.get_new,if_neg hi]
    have g7:M.get (0,fc+5+29,7)=some (.row [I (q*c+k),I (q*c+k+1),I (x1re (at0 ph (q*c+k).toNat) (at0 ph (q*c+k+1).toNat)),I (at0 ac (q*(c - 1)+k).toNat)] 0 false):=by rw [hM];simp
    have g4:M.get (0,12,4)=some (.row [I n,ev] 0 false):=by rw [hMg _ (by simp)];exact h4
    have hGM:Gk 4 Edge.c okE M ev l:=hG.frame fun id hid=>hMg id (by rintro rfl;rcases hid with h | h<;>simp at h)
    obtain ⟨a',m2,A,hG2,u1,u2,n2,f2⟩:=hGM.app Edge.len (by omega) (bytes:=32) (id0:=(0,fc+5+37,68)) (Or.inl rfl) (by unfold x1pq;omega) (mkE ph (ac++dn) (q*(c - 1)+k).toNat (q*c+k,q*c+k+1))
    have g4':m2.get (0,12,4)=some (.row [I n,ev] 0 false):=by rw [f2 _ (by unfold okE;simp)];exact g4
    have hI':RefInv r c n p a b (m2.set (0,12,4) (.row [I n,a'] 0 false)) (l++[mkE ph (ac++dn) (q*(c - 1)+k).toNat (q*c+k,q*c+k+1)]):=by
     refine ⟨?_,?_,?_,by simp only [Mem.next_set,n2,hM,Mem.next_new];exact hn,a',by simp,hG2.frame fun id hid=>by rw [Mem.get_set,if_neg (by rintro rfl;rcases hid with h | h<;>simp at h)]⟩
     ·rw [Mem.get_set,if_neg (by simp),f2 _ (by unfold okE;simp),hMg _ (by simp)];exact h1
     ·rw [Mem.get_set,if_neg (by simp),f2 _ (by unfold okE;simp),hMg _ (by simp)];exact h2
     ·rw [Mem.get_set,if_neg (by simp),f2 _ (by unfold okE;simp),hMg _ (by simp)];exact h3
    have hel:∀ M:Mem,elems M.get 4 (.slit [I (q*c+k),I (q*c+k+1),I (x1re (at0 ph (q*c+k).toNat) (at0 ph (q*c+k+1).toNat)),I (at0 ac (q*(c - 1)+k).toNat)] 1 true)=some ((mkE ph (ac++dn) (q*(c - 1)+k).toNat (q*c+k,q*c+k+1)).c,1):=fun _=>by rw [hmk];rfl
    have step:x12 (x1pa (d+3)) hs 0 rec2 (j+1) (.ptr (0,0,1) 0 0) (.ptr (0,1,2) 0 0) (.ptr (0,4,3) 0 0) (.ptr (0,12,4) 0 0) (I q) (I k) m fc=x12 (x1pa (d+3)) hs 0 rec2 j (.ptr (0,0,1) 0 0) (.ptr (0,1,2) 0 0) (.ptr (0,4,3) 0 0) (.ptr (0,12,4) 0 0) (I q) (I (k+1)) (m2.set (0,12,4) (.row [I n,a'] 0 false)) (fc+5+40+3):=by
     simp only [x12]
     unfold xac xab
     simp (disch:=omega) [h1,h3,hkc,ix,x1pr,we,hp.clean1,x1r7,x1pd,disj,tR,cAp,Nat.blt,hnb]
     simp only [List.getElem?_cons_zero,List.getElem?_cons_succ,x1pf]
     simp (disch:=omega) [← hM,h4,g7,g4,x24b,hel,A,g4',u1,u2,x72]
    rw [step,← List.append_assoc]
    exact ih (k+1) j _ _ _ (by omega) (by omega) (by omega) (by simp;omega) hI'
   ·simp only [if_true,List.nil_append]
    simp only [hv,cond_true] at we
    obtain ⟨M,hM⟩:∃ M,M=(m.new (0,fc+5+29,7) (.row [I 0,I 0,I 0,I 0] 0 false)).set (0,fc+5+29,7) (.row [I 0,I 0,I 0,I 0] 0 false):=⟨_,rfl⟩
    have hMg:∀ i:Id,i≠(0,fc+5+29,7)→M.get i=m.get i:=fun i hi=>by rw [hM,Mem.get_set,if_neg hi,Mem.get_new,if_neg hi]
    have hI':RefInv r c n p a b M l:=by
     refine ⟨?_,?_,?_,by simp only [hM,Mem.next_set,Mem.next_new];exact hn,ev,?_,hG.frame fun id hid=>hMg id (by rintro rfl;rcases hid with h | h<;>simp at h)⟩<;>rw [hMg _ (by simp)]<;>assumption
    have step:x12 (x1pa (d+3)) hs 0 rec2 (j+1) (.ptr (0,0,1) 0 0) (.ptr (0,1,2) 0 0) (.ptr (0,4,3) 0 0) (.ptr (0,12,4) 0 0) (I q) (I k) m fc=x12 (x1pa (d+3)) hs 0 rec2 j (.ptr (0,0,1) 0 0) (.ptr (0,1,2) 0 0) (.ptr (0,4,3) 0 0) (.ptr (0,12,4) 0 0) (I q) (I (k+1)) M (fc+5+33+3):=by
     simp only [x12]
     unfold xac xab
     simp (disch:=omega) [h1,h3,hkc,ix,x1pr,we,hp.clean1,x1r7,x1pd,disj,tR,cAp,Nat.blt,hnb]
     simp only [List.getElem?_cons_zero,List.getElem?_cons_succ,x1pf]
     simp (disch:=omega) [← hM,x72]
    rw [step]
    exact ih (k+1) j l M _ (by omega) (by omega) (by omega) (by omega) hI'
theorem l_rNet1 (d:Nat) (hs:FHs) {r c n:Int} {p a b:AV} {ph ac dn:List Int} (hp:Ints p ph) (ha:Ints a ac) (hb:Ints b dn) (hph:PhIn ph) (r1:r≤64) (c0:1≤c) (c1:c≤64) (hlen:(ph.length:Int)=r*c) (hac:(ac.length:Int)=r*(c - 1)) (hdn:(dn.length:Int)=(r - 1)*c) (r0:1≤r) (q:Int) (q0:0≤q) (q1:q < r - 1)
 (rec0:AV→AV→AV→AV→AV→Mem→Nat→Option (AV×Mem)) :
 ∀ (s:Nat) (k:Int) (j:Nat) (l:List Edge) (m:Mem) (fc:Nat),0≤k→k+s=c→s < j→l.length+s≤20000→RefInv r c n p a b m l →
 ∃ m' fc',x11 (x1pa (d+3)) hs 0 rec0 j (.ptr (0,0,1) 0 0) (.ptr (0,1,2) 0 0) (.ptr (0,4,3) 0 0) (.ptr (0,12,4) 0 0) (I q) (I k) m fc=rec0 (.ptr (0,0,1) 0 0) (.ptr (0,1,2) 0 0) (.ptr (0,4,3) 0 0) (.ptr (0,12,4) 0 0) (I (q+1)) m' fc' ∧
   RefInv r c n p a b m' (l++netM ph (ac++dn) (r*(c - 1)+(q*c+k)).toNat (rowL c (q*c) s k)):=by
 have hqc0:0≤q*c:=Int.mul_nonneg q0 (by omega)
 have hqc:(q+1)*c≤(r - 1)*c:=Int.mul_le_mul_of_nonneg_right (by omega) (by omega)
 have hrc:r*c≤64*64:=Int.mul_le_mul r1 c1 (by omega) (by omega)
 rw [Int.add_mul,Int.sub_mul] at hqc
 have e3:r*(c - 1)=r*c - r:=by rw [Int.mul_sub];omega
 have e4:(r - 1)*c=r*c - c:=by rw [Int.sub_mul];omega
 have e5:0≤r*(c - 1):=Int.mul_nonneg (by omega) (by omega)
 intro s
 induction s with
 | zero=>
   intro k j l m fc k0 hk hj hl hI
   obtain ⟨j,rfl⟩:∃ i,j=i+1:=⟨j - 1,by omega⟩
   refine ⟨m,fc+4+3,?_,by simpa [rowL,netM] using hI⟩
   simp only [x11]
   unfold xa9
   simp (disch:=omega) [hI.map,show ¬ (k < c) by omega,xh]
 | succ s ih=>
   intro k j l m fc k0 hk hj hl hI
   obtain ⟨j,rfl⟩:∃ i,j=i+1:=⟨j - 1,by omega⟩
   obtain ⟨h1,h2,h3,hn,ev,h4,hG⟩:=hI
   have we:=fun m=>w_edge d (r:=r) (c:=c) (w:=at0 dn (q*c+k).toNat) hp hph (x:=(q*c+k,q*c+k+c)) (by simp only;omega) m
   simp only at we
   have ix:=hb.ixI x1pv (k:=q*c+k) (by omega) (by omega)
   have la:(q*c+k).toNat < dn.length:=by omega
   have hto:(q+1)*c+k=q*c+k+c:=by rw [Int.add_mul];omega
   have hmul:-9223372036854775808≤(q+1)*c∧(q+1)*c≤9223372036854775807:=by rw [Int.add_mul];omega
   have hkc:k < c:=by omega
   have hidx:(r*(c - 1)+(q*c+k)).toNat+1=(r*(c - 1)+(q*c+(k+1))).toNat:=by omega
   have hix:(r*(c - 1)+(q*c+k)).toNat=ac.length+(q*c+k).toNat:=by omega
   have hmk:mkE ph (ac++dn) (r*(c - 1)+(q*c+k)).toNat (q*c+k,q*c+k+c)=⟨q*c+k,q*c+k+c,x1re (at0 ph (q*c+k).toNat) (at0 ph (q*c+k+c).toNat),at0 dn (q*c+k).toNat⟩:=by
    unfold mkE
    rw [hix,at0_right]
   have hrow:netM ph (ac++dn) (r*(c - 1)+(q*c+k)).toNat (rowL c (q*c) (s+1) k)=(if x1qh ph (q*c+k,q*c+k+c)=true then [] else [mkE ph (ac++dn) (r*(c - 1)+(q*c+k)).toNat (q*c+k,q*c+k+c)])++netM ph (ac++dn) (r*(c - 1)+(q*c+(k+1))).toNat (rowL c (q*c) s (k+1)):=by
    rw [rowL,netM,hidx]
    cases x1qh ph (q*c+k,q*c+k+c)<;>rfl
   rw [hrow]
   have hnb:Nat.ble 1 m.next=true:=Nat.ble_eq_true_of_le hn
   cases hv:x1qh ph (q*c+k,q*c+k+c)
   ·simp only [Bool.false_eq_true,if_false]
    simp only [hv,cond_false] at we
    obtain ⟨M,hM⟩:∃ M,M=(m.new (0,fc+4+28,11) (.row [I 0,I 0,I 0,I 0] 0 false)).set (0,fc+4+28,11) (.row [I (q*c+k),I (q*c+k+c),I (x1re (at0 ph (q*c+k).toNat) (at0 ph (q*c+k+c).toNat)),I (at0 dn (q*c+k).toNat)] 0 false):=⟨_,rfl⟩
    have hMg:∀ i:Id,i≠(0,fc+4+28,11)→M.get i=m.get i:=fun i hi=>by rw [hM,Mem.get_set,if_neg hi,Mem.get_new,if_neg hi]
    have g7:M.get (0,fc+4+28,11)=some (.row [I (q*c+k),I (q*c+k+c),I (x1re (at0 ph (q*c+k).toNat) (at0 ph (q*c+k+c).toNat)),I (at0 dn (q*c+k).toNat)] 0 false):=by rw [hM];simp
    have g4:M.get (0,12,4)=some (.row [I n,ev] 0 false):=by rw [hMg _ (by simp)];exact h4
    have hGM:Gk 4 Edge.c okE M ev l:=hG.frame fun id hid=>hMg id (by rintro rfl;rcases hid with h | h<;>simp at h)
    obtain ⟨a',m2,A,hG2,u1,u2,n2,f2⟩:=hGM.app Edge.len (by omega) (bytes:=32) (id0:=(0,fc+4+36,116)) (Or.inr rfl) (by unfold x1pq;omega) (mkE ph (ac++dn) (r*(c - 1)+(q*c+k)).toNat (q*c+k,q*c+k+c))
    have g4':m2.get (0,12,4)=some (.row [I n,ev] 0 false):=by rw [f2 _ (by unfold okE;simp)];exact g4
    have hI':RefInv r c n p a b (m2.set (0,12,4) (.row [I n,a'] 0 false)) (l++[mkE ph (ac++dn) (r*(c - 1)+(q*c+k)).toNat (q*c+k,q*c+k+c)]):=by
     refine ⟨?_,?_,?_,by simp only [Mem.next_set,n2,hM,Mem.next_new];exact hn,a',by simp,hG2.frame fun id hid=>by rw [Mem.get_set,if_neg (by rintro rfl;rcases hid with h | h<;>simp at h)]⟩
     ·rw [Mem.get_set,if_neg (by simp),f2 _ (by unfold okE;simp),hMg _ (by simp)];exact h1
     ·rw [Mem.get_set,if_neg (by simp),f2 _ (by unfold okE;simp),hMg _ (by simp)];exact h2
     ·rw [Mem.get_set,if_neg (by simp),f2 _ (by unfold okE;simp),hMg _ (by simp)];exact h3
    have hel:∀ M:Mem,elems M.get 4 (.slit [I (q*c+k),I (q*c+k+c),I (x1re (at0 ph (q*c+k).toNat) (at0 ph (q*c+k+c).toNat)),I (at0 dn (q*c+k).toNat)] 1 true)=some ((mkE ph (ac++dn) (r*(c - 1)+(q*c+k)).toNat (q*c+k,q*c+k+c)).c,1):=fun _=>by rw [hmk];rfl
    have step:x11 (x1pa (d+3)) hs 0 rec0 (j+1) (.ptr (0,0,1) 0 0) (.ptr (0,1,2) 0 0) (.ptr (0,4,3) 0 0) (.ptr (0,12,4) 0 0) (I q) (I k) m fc=x11 (x1pa (d+3)) hs 0 rec0 j (.ptr (0,0,1) 0 0) (.ptr (0,1,2) 0 0) (.ptr (0,4,3) 0 0) (.ptr (0,12,4) 0 0) (I q) (I (k+1)) (m2.set (0,12,4) (.row [I n,a'] 0 false)) (fc+4+39+3):=by
     simp only [x11]
     unfold xa9 xa8
     simp (disch:=omega) [h1,h3,hkc,hto,ix,x1pr,we,hp.clean1,x1r7,x1pd,disj,tR,cAp,Nat.blt,hnb]
     simp only [List.getElem?_cons_zero,List.getElem?_cons_succ,x1pf]
     simp (disch:=omega) [← hM,h4,g7,g4,x24b,hel,A,g4',u1,u2,x71]
    rw [step,← List.append_assoc]
    exact ih (k+1) j _ _ _ (by omega) (by omega) (by omega) (by simp;omega) hI'
   ·simp only [if_true,List.nil_append]
    simp only [hv,cond_true] at we
    obtain ⟨M,hM⟩:∃ M,M=(m.new (0,fc+4+28,11) (.row [I 0,I 0,I 0,I 0] 0 false)).set (0,fc+4+28,11) (.row [I 0,I 0,I 0,I 0] 0 false):=⟨_,rfl⟩
    have hMg:∀ i:Id,i≠(0,fc+4+28,11)→M.get i=m.get i:=fun i hi=>by rw [hM,Mem.get_set,if_neg hi,Mem.get_new,if_neg hi]
    have hI':RefInv r c n p a b M l:=by
     refine ⟨?_,?_,?_,by simp only [hM,Mem.next_set,Mem.next_new];exact hn,ev,?_,hG.frame fun id hid=>hMg id (by rintro rfl;rcases hid with h | h<;>simp at h)⟩<;>rw [hMg _ (by simp)]<;>assumption
    have step:x11 (x1pa (d+3)) hs 0 rec0 (j+1) (.ptr (0,0,1) 0 0) (.ptr (0,1,2) 0 0) (.ptr (0,4,3) 0 0) (.ptr (0,12,4) 0 0) (I q) (I k) m fc=x11 (x1pa (d+3)) hs 0 rec0 j (.ptr (0,0,1) 0 0) (.ptr (0,1,2) 0 0) (.ptr (0,4,3) 0 0) (.ptr (0,12,4) 0 0) (I q) (I (k+1)) M (fc+4+32+3):=by
     simp only [x11]
     unfold xa9 xa8
     simp (disch:=omega) [h1,h3,hkc,hto,ix,x1pr,we,hp.clean1,x1r7,x1pd,disj,tR,cAp,Nat.blt,hnb]
     simp only [List.getElem?_cons_zero,List.getElem?_cons_succ,x1pf]
     simp (disch:=omega) [← hM,x71]
    rw [step]
    exact ih (k+1) j l M _ (by omega) (by omega) (by omega) (by omega) hI'
theorem l_rNet0 (d:Nat) (hs:FHs) {r c n:Int} {p a b:AV} {ph ac dn:List Int} (hp:Ints p ph) (ha:Ints a ac) (hb:Ints b dn) (hph:PhIn ph) (r0:1≤r) (r1:r≤64) (c0:1≤c) (c1:c≤64) (hlen:(ph.length:Int)=r*c) (hac:(ac.length:Int)=r*(c - 1)) (hdn:(dn.length:Int)=(r - 1)*c) :
 ∀ (s:Nat) (q:Int) (j:Nat) (l:List Edge) (m:Mem) (fc:Nat),0≤q→q+s=r - 1→s < j→l.length+s*c.toNat≤20000→RefInv r c n p a b m l →
 ∃ m' fc',x2i (x1pa (d+3)) hs 0 j (.ptr (0,0,1) 0 0) (.ptr (0,1,2) 0 0) (.ptr (0,4,3) 0 0) (.ptr (0,12,4) 0 0) (I q) m fc=xg (x1pa (d+3)) hs 0 (.ptr (0,1,2) 0 0) (.ptr (0,12,4) 0 0) m' fc' ∧
   RefInv r c n p a b m' (l++netM ph (ac++dn) (r*(c - 1)+q*c).toNat (x1r8 c c c.toNat s q)):=by
 have e5:0≤r*(c - 1):=Int.mul_nonneg (by omega) (by omega)
 intro s
 induction s with
 | zero=>
   intro q j l m fc q0 hq hj hl hI
   obtain ⟨j,rfl⟩:∃ i,j=i+1:=⟨j - 1,by omega⟩
   refine ⟨m,fc+5,?_,by simpa [x1r8,netM] using hI⟩
   simp only [x2i]
   unfold xca
   simp (disch:=omega) [hI.map,show ¬ (q+1 < r) by omega]
 | succ s ih=>
   intro q j l m fc q0 hq hj hl hI
   obtain ⟨j,rfl⟩:∃ i,j=i+1:=⟨j - 1,by omega⟩
   rw [Nat.succ_mul] at hl
   obtain ⟨m1,f1,h1,I1⟩:=l_rNet1 d hs (n:=n) hp ha hb hph r1 c0 c1 hlen hac hdn r0 q q0 (by omega) (x2i (x1pa (d+3)) hs 0 j) c.toNat 0 NN l m (fc+5+1) (by omega) (by omega) (by rw [x1pp];omega) (by omega) hI
   have hqc0:0≤q*c:=Int.mul_nonneg q0 (by omega)
   have hl1:=x1vb ph (ac++dn) (rowL c (q*c) c.toNat 0) (r*(c - 1)+(q*c+0)).toNat
   rw [x1wi] at hl1
   obtain ⟨m2,f2,h2,I2⟩:=ih (q+1) j _ m1 f1 (by omega) (by omega) (by omega) (by rw [List.length_append];omega) I1
   refine ⟨m2,f2,?_,?_⟩
   ·rw [← h2,← h1]
    rw [x2i]
    unfold xca xaa
    simp (disch:=omega) [hI.map,show q+1 < r by omega]
   ·rw [x1r8,x1xi,x1wi,← List.append_assoc]
    rw [Int.add_zero] at I2
    rw [show (r*(c - 1)+q*c).toNat+c.toNat=(r*(c - 1)+(q+1)*c).toNat by rw [Int.add_mul];omega]
    exact I2
theorem l_rNet2 (d:Nat) (hs:FHs) {r c n:Int} {p a b:AV} {ph ac dn:List Int} (hp:Ints p ph) (ha:Ints a ac) (hb:Ints b dn) (hph:PhIn ph) (r0:1≤r) (r1:r≤64) (c0:1≤c) (c1:c≤64) (hlen:(ph.length:Int)=r*c) (hac:(ac.length:Int)=r*(c - 1)) (hdn:(dn.length:Int)=(r - 1)*c) :
 ∀ (s:Nat) (q:Int) (j:Nat) (l:List Edge) (m:Mem) (fc:Nat),0≤q→q+s=r→s < j→l.length+s*(c.toNat - 1)≤10000→RefInv r c n p a b m l →
 ∃ m' fc',x2j (x1pa (d+3)) hs 0 j (.ptr (0,0,1) 0 0) (.ptr (0,1,2) 0 0) (.ptr (0,4,3) 0 0) (.ptr (0,12,4) 0 0) (I q) m fc=xc (x1pa (d+3)) hs 0 (.ptr (0,0,1) 0 0) (.ptr (0,1,2) 0 0) (.ptr (0,4,3) 0 0) (.ptr (0,12,4) 0 0) m' fc' ∧
   RefInv r c n p a b m' (l++netM ph (ac++dn) (q*(c - 1)).toNat (x1r8 c 1 (c.toNat - 1) s q)):=by
 intro s
 induction s with
 | zero=>
   intro q j l m fc q0 hq hj hl hI
   obtain ⟨j,rfl⟩:∃ i,j=i+1:=⟨j - 1,by omega⟩
   refine ⟨m,fc+4,?_,by simpa [x1r8,netM] using hI⟩
   simp only [x2j]
   unfold xcb
   simp (disch:=omega) [hI.map,show ¬ (q < r) by omega]
 | succ s ih=>
   intro q j l m fc q0 hq hj hl hI
   obtain ⟨j,rfl⟩:∃ i,j=i+1:=⟨j - 1,by omega⟩
   rw [Nat.succ_mul] at hl
   obtain ⟨m1,f1,h1,I1⟩:=l_rNet3 d hs (n:=n) hp ha hb hph r1 c0 c1 hlen hac q q0 (by omega) (x2j (x1pa (d+3)) hs 0 j) (c.toNat - 1) 0 NN l m (fc+4+1) (by omega) (by omega) (by rw [x1pp];omega) (by omega) hI
   have hqc0:0≤q*(c - 1):=Int.mul_nonneg q0 (by omega)
   have hl1:=x1vb ph (ac++dn) (rowL 1 (q*c) (c.toNat - 1) 0) (q*(c - 1)+0).toNat
   rw [x1wi] at hl1
   obtain ⟨m2,f2,h2,I2⟩:=ih (q+1) j _ m1 f1 (by omega) (by omega) (by omega) (by rw [List.length_append];omega) I1
   refine ⟨m2,f2,?_,?_⟩
   ·rw [← h2,← h1]
    rw [x2j]
    unfold xcb xad
    simp (disch:=omega) [hI.map,show q < r by omega]
   ·rw [x1r8,x1xi,x1wi,← List.append_assoc]
    rw [Int.add_zero] at I2
    rw [show (q*(c - 1)).toNat+(c.toNat - 1)=((q+1)*(c - 1)).toNat by rw [Int.add_mul];omega]
    exact I2
theorem x24c (d:Nat) {r c:Int} {p a b:AV} {ph ac dn:List Int} (hp:Ints p ph) (ha:Ints a ac) (hb:Ints b dn) (hr:x1qm r c ph ac dn=0) (m:Mem) :
 ∃ ev,Sl Edge.c ev (x1qr r c ph ac dn)∧x1pb (x1pa (d+4)) x31 [.agg [I r,I c,p,a,b]] m=some (.agg [I ph.length,ev],m):=by
 obtain ⟨r0,r1,c0,c1,hlen,hph,hac,hdn,h144,-⟩:=x1uw hr
 have hin:=x1uv hph
 have hrc:(r*c).toNat=r.toNat*c.toNat:=Int.toNat_mul (by omega) (by omega)
 have hb1:r.toNat*(c.toNat - 1)≤144:=Nat.le_trans (Nat.mul_le_mul_left r.toNat (show c.toNat - 1≤c.toNat by omega)) (by omega)
 have hb2:(r.toNat - 1)*c.toNat≤144:=Nat.le_trans (Nat.mul_le_mul_right c.toNat (show r.toNat - 1≤r.toNat by omega)) (by omega)
 have I0:RefInv r c ph.length p a b ((((((⟨[],1⟩:Mem).new (0,0,1) (.row [I r,I c,p,a,b] 0 false)).new (0,1,2) (.row [I 0,nilS] 0 false)).new (0,4,3) (.row [I 0,I 0,nilS] 0 false)).set (0,4,3) (.row [I r,I c,p] 0 false)).new (0,12,4) (.row [I 0,nilS] 0 false) |>.set (0,12,4) (.row [I ph.length,nilS] 0 false)) []:=by
  refine ⟨?_,?_,?_,by simp,nilS,?_,.nil⟩<;>simp
 obtain ⟨m1,f1,h1,I1⟩:=l_rNet2 d [] hp ha hb hin r0 r1 c0 c1 hlen hac hdn r.toNat 0 NN [] _ 15 (by omega) (by omega) (by rw [x1pp];omega) (by simp;omega) I0
 have hl1:=x1vb ph (ac++dn) (x1r8 c 1 (c.toNat - 1) r.toNat 0) (0*(c - 1)).toNat
 rw [x1xh] at hl1
 obtain ⟨m2,f2,h2,I2⟩:=l_rNet0 d [] hp ha hb hin r0 r1 c0 c1 hlen hac hdn (r.toNat - 1) 0 NN _ m1 (f1+1) (by omega) (by omega) (by rw [x1pp];omega) (by simp only [List.nil_append];omega) I1
 have hE:[]++netM ph (ac++dn) (0*(c - 1)).toNat (x1r8 c 1 (c.toNat - 1) r.toNat 0)++netM ph (ac++dn) (r*(c - 1)+0*c).toNat (x1r8 c c c.toNat (r.toNat - 1) 0)=x1qr r c ph ac dn:=by
  unfold x1qr
  rw [x24a r0 c0,x1xi,x1xh,List.nil_append,Int.zero_mul,Int.zero_mul,Int.add_zero]
  congr 2
  have h':(r*(c - 1)).toNat=r.toNat*(c.toNat - 1):=(Int.toNat_mul (by omega) (by omega)).trans (by congr 1;omega)
  rw [h'];simp
 rw [hE] at I2
 obtain ⟨-,hres,-,-,ev,hgn,hG⟩:=I2
 have hG2:Gk 4 Edge.c okE (m2.set (0,1,2) (.row [I ph.length,ev] 0 false)) ev (x1qr r c ph ac dn):=hG.frame fun id hid=>by rw [Mem.get_set,if_neg (by rintro rfl;rcases hid with h | h<;>simp at h)]
 obtain ⟨ev',hev,hfz⟩:=hG2.frz (k:=3) Edge.len Edge.still1
 refine ⟨ev',hev,x1sq (by simp [hp.still1,ha.still1,hb.still1]) (m':=m2.set (0,1,2) (.row [I ph.length,ev] 0 false)) (r:=.agg [I ph.length,ev]) ?_ ?_⟩
 ·rw [xxu]
  unfold x8n xh6
  have hbn:x1pl [I 0,nilS] [(0,1,I (r*c))]=some (.agg [I (r*c),nilS]):=by simp [x1pl,x1qi]
  have hb3:=x1va (wi_iff.mpr ⟨r0,r1⟩) (wi_iff.mpr ⟨c0,c1⟩)
  rw [hlen] at h1
  simp (disch:=omega) [mem0,hp.one,ha.one,hb.one,x1ua,z_net,hbn]
  unfold xcc
  rw [h1]
  unfold xc
  rw [h2]
  unfold xg
  simp [hgn,hres,hG.one.1,hG.one.2,sLdP,hlen]
 ·show ([I (ph.length:Int),ev].mapM (frz (m2.set (0,1,2) (.row [I ph.length,ev] 0 false)).get 5)).map AV.agg=_
  simp only [List.mapM_cons,List.mapM_nil,hfz]
  rfl
end Go.Ix
set_option linter.unusedSimpArgs false
set_option linter.unusedVariables false
namespace Go.Ix
open Go.Proofs
theorem small_len {r c:Int} {ph ac dn:List Int} (h:x1sb r c ph ac dn=true):ph.length≤164∧ac.length≤300∧dn.length≤300:=by
 unfold x1sb at h
 by_cases c1:164 < (ph.length:Int)
 ·simp [c1] at h
 by_cases c2:300 < (ac.length:Int)
 ·simp [c2] at h
 by_cases c3:300 < (dn.length:Int)
 ·simp [c3] at h
 omega
end Go.Ix
set_option linter.unusedSimpArgs false
set_option linter.unusedVariables false
namespace Go.Ix
open Go.Proofs
def isP (x:Int):Bool:=wi x (-100000000) 100000000
theorem x20z (d:Nat) (x:Int) (m:Mem):x1pb (x1pa (d+2)) x5y [I x] m=some (B (isP x),m):=by
 refine Ans.call0 ?_ rfl rfl
 unfold Ans
 rw [xyp]
 unfold x9p xic
 simp [mem0,x1up,isP]
theorem x1wj (x y:Operand) (a b:Bool):sBin Try.prog .neq xck x y (B a) (B b)=some (B (a != b)):=by
 cases a<;>cases b<;>kernel_rfl
def x1r4:List Int→List Int→List Int→List Int×Int
 | out,p::ps,u::us=>
   bif decide (p=void) != decide (u=void) then ([],31)
   else bif decide (u=void) then x1r4 (out++[0]) ps us
   else bif !(isP u) then ([],2)
   else bif !decide ((u - p) % 4096=0) then ([],27)
   else x1r4 (out++[(u - p).tdiv 4096]) ps us
 | out,_,_=>(out,0)
def x1rs (r c:Int) (ph:List Int) (r' c':Int) (us:List Int):List Int×Int:=
 bif !decide (r'=r)||!decide (c'=c)||!decide ((us.length:Int)=ph.length) then ([],10) else x1r4 [] ph us
theorem x26t (d:Nat) (hs:FHs) {r c r' c':Int} {p a0 b0 u:AV} {ph us:List Int} (hp:Ints p ph) (hu:Ints u us) (hph:PhIn ph) (he:us.length=ph.length) (hl:us.length≤100000) :
 ∀ (su sp:List Int) (k j:Nat) (out:List Int) (o:AV) (m:Mem) (fc:Nat),us.drop k=su→ph.drop k=sp→su.length < j→out.length=k →
   m.get (0,0,2)=some (.row [I r,I c,p,a0,b0] 0 false)→m.get (0,1,3)=some (.row [I r',I c',u] 0 false)→Gq 1 intE 0 [61,76] m o out →
 ∃ a m',x3k (x1pa (d+2)) hs 0 j (.ptr (0,0,2) 0 0) (.ptr (0,1,3) 0 0) o (I k) m fc=some (.tup [a,I (x1r4 out sp su).2],m')∧∃ a',Ints a' (x1r4 out sp su).1∧frz m'.get 5 a=some a':=by
 intro su
 induction su with
 | nil=>
   intro sp k j out o m fc hd hdp hj ho hg hg3 hO
   obtain ⟨j,rfl⟩:∃ i,j=i+1:=⟨j - 1,by simp at hj;omega⟩
   have hk0:=List.drop_eq_nil_iff.mp hd
   have hk:¬ ((k:Int) < (us.length:Int)):=by omega
   have e:x1r4 out sp []=(out,0):=by cases sp<;>rfl
   rw [e]
   simp only [x3k]
   unfold xcl
   simp [hk,hg3,hu.len x1pi,x1y]
   obtain ⟨a',h1,h2⟩:=hO.frz1 (k:=3) x1pv x1un
   exact ⟨_,_,⟨rfl,rfl⟩,a',h1,h2⟩
 | cons x rr ih=>
   intro sp k j out o m fc hd hdp hj ho hg hg3 hO
   obtain ⟨j,rfl⟩:∃ i,j=i+1:=⟨j - 1,by simp at hj;omega⟩
   obtain ⟨hk,hke,hd⟩:=x1qg hd
   have hk':(k:Int) < (us.length:Int):=by omega
   have hkp:k < ph.length:=by omega
   have ix:=hu.ix x1pv hk
   have ix2:=hp.ix x1pv hkp
   have e1:at0 us k=x:=by rw [x1pu hk,hke]
   obtain ⟨y,hy⟩:∃ y,y=at0 ph k:=⟨_,rfl⟩
   have hsp:sp=y::ph.drop (k+1):=by rw [← hdp,x1r6 hkp,hy,x1pu hkp]
   have hyw:=hph k
   rw [← hy] at hyw
   subst hsp
   have hel:∀ v:Int,elems m.get 1 (.slit [I v] 1 true)=some (intE v,1):=fun _=>rfl
   have hro:x1pq (out.length+1) 8:=by unfold x1pq;omega
   simp only [x3k]
   unfold xcl xcj
   by_cases cx:x=void
   ·by_cases cy:y=void
    ·obtain ⟨a',m',h2,h3,h4,h5⟩:=hO.app x1pv (by omega) (t0:=61) (s0:=fc+5+22) (bytes:=8) (by simp) hro 0
     have h6:=fun fc=>ih (ph.drop (k+1)) (k+1) j (out++[0]) a' m' fc hd rfl (by simp at hj;omega) (by simp;omega) (by rw [h5 _ (by decide)];exact hg) (by rw [h5 _ (by decide)];exact hg3) h3
     simp (disch:=omega) [hk',hg3,hu.len x1pi,ix,ix2,x1pr,e1,← hy,hg,x1wj,cx,cy,x1r4,x1r9,hel,h2,x76]
     exact h6 _
    ·simp (disch:=omega) [hk',hg3,hu.len x1pi,ix,ix2,x1pr,e1,← hy,hg,x1wj,cx,cy,x1r4]
     exact ⟨_,_,⟨rfl,rfl⟩,nilS,Or.inl ⟨rfl,rfl⟩,rfl⟩
   ·by_cases cy:y=void
    ·simp (disch:=omega) [hk',hg3,hu.len x1pi,ix,ix2,x1pr,e1,← hy,hg,x1wj,cx,cy,x1r4]
     exact ⟨_,_,⟨rfl,rfl⟩,nilS,Or.inl ⟨rfl,rfl⟩,rfl⟩
    ·cases cp:isP x
     ·simp (disch:=omega) [hk',hg3,hu.len x1pi,ix,ix2,x1pr,e1,← hy,hg,x1wj,cx,cy,x1r4,x20z,cp]
      exact ⟨_,_,⟨rfl,rfl⟩,nilS,Or.inl ⟨rfl,rfl⟩,rfl⟩
     have hxp:=wi_t cp
     have wM:=fun m=>w_Mod (d+1) (x:=x - y) (show (0:Int) < 4096 by omega) (by omega) m
     by_cases cm:(x - y) % 4096=0
     ·have hq:-1000000≤(x - y).tdiv 4096∧(x - y).tdiv 4096≤1000000:=by
       rw [Int.tdiv_eq_ediv];split<;>omega
      obtain ⟨a',m',h2,h3,h4,h5⟩:=hO.app x1pv (by omega) (t0:=76) (s0:=fc+5+34) (bytes:=8) (by simp) hro ((x - y).tdiv 4096)
      have h6:=fun fc=>ih (ph.drop (k+1)) (k+1) j (out++[(x - y).tdiv 4096]) a' m' fc hd rfl (by simp at hj;omega) (by simp;omega) (by rw [h5 _ (by decide)];exact hg) (by rw [h5 _ (by decide)];exact hg3) h3
      simp (disch:=omega) [hk',hg3,hu.len x1pi,ix,ix2,x1pr,e1,← hy,hg,x1wj,cx,cy,x1r4,x20z,cp,wM,cm,x1x6,x1r9,hel,h2,x76]
      exact h6 _
     ·simp (disch:=omega) [hk',hg3,hu.len x1pi,ix,ix2,x1pr,e1,← hy,hg,x1wj,cx,cy,x1r4,x20z,cp,wM,cm]
      exact ⟨_,_,⟨rfl,rfl⟩,nilS,Or.inl ⟨rfl,rfl⟩,rfl⟩
end Go.Ix
set_option linter.unusedSimpArgs false
set_option linter.unusedVariables false
namespace Go.Ix
open Go.Proofs
theorem x26u (d:Nat) {r c r' c':Int} {p a b u:AV} {ph us:List Int} (hp:Ints p ph) (ha:still1 a=true∧a.one=true) (hb:still1 b=true∧b.one=true) (hu:Ints u us) (hph:PhIn ph) (hl:ph.length≤100000) (m:Mem) :
 ∃ t,Ints t (x1rs r c ph r' c' us).1∧x1pb (x1pa (d+3)) x5v [.agg [I r,I c,p,a,b],.agg [I r',I c',u]] m=some (.tup [t,I (x1rs r c ph r' c' us).2],m):=by
 obtain ⟨ha1,ha2⟩:=ha
 obtain ⟨hb1,hb2⟩:=hb
 by_cases c1:r'=r∧c'=c∧(us.length:Int)=ph.length
 ·obtain ⟨rfl,rfl,hl2⟩:=c1
  obtain ⟨x,m',h1,t,h2,h3⟩:=x26t d [] (r:=r') (c:=c') (r':=r') (c':=c') (a0:=a) (b0:=b) hp hu hph (by omega) (by omega) us ph 0 NN [] nilS (((⟨[],1⟩:Mem).new (0,0,2) (.row [I r',I c',p,a,b] 0 false)).new (0,1,3) (.row [I r',I c',u] 0 false)) 30 rfl rfl (by rw [x1pp];omega) rfl (by simp) (by simp) Gq.nil
  have e:x1rs r' c' ph r' c' us=x1r4 [] ph us:=by simp [x1rs,hl2]
  rw [e]
  refine ⟨t,h2,x1sq (by simp [hp.still1,hu.still1,ha1,hb1]) (m':=m') (r:=.tup [x,I (x1r4 [] ph us).2]) ?_ ?_⟩
  ·rw [xlt]
   unfold x6n xcn xcm
   simp (disch:=omega) [mem0,hp.one,hu.one,ha2,hb2,hp.len x1pi,hu.len x1pi,hl2]
   exact h1
  ·show ([x,I (x1r4 [] ph us).2].mapM (frz m'.get 5)).map AV.tup=_
   simp only [List.mapM_cons,List.mapM_nil,h3]
   rfl
 ·have e:x1rs r c ph r' c' us=([],10):=by
   unfold x1rs
   by_cases h1:r'=r<;>by_cases h2:c'=c<;>by_cases h3:(us.length:Int)=ph.length<;>simp [h1,h2,h3]<;>exact absurd ⟨h1,h2,h3⟩ c1
  rw [e]
  refine ⟨nilS,Or.inl ⟨rfl,rfl⟩,Ans.call0_tup ?_ (by simp [hp.still1,hu.still1,ha1,hb1]) rfl⟩
  unfold Ans
  rw [xlt]
  unfold x6n xcn
  by_cases h1:r'=r
  ·by_cases h2:c'=c
   ·have h3:¬ ((us.length:Int)=ph.length):=fun h3=>c1 ⟨h1,h2,h3⟩
    simp [mem0,hp.one,hu.one,ha2,hb2,hp.len x1pi,hu.len x1pi,h1,h2,h3]
   ·simp [mem0,hp.one,hu.one,ha2,hb2,hp.len x1pi,hu.len x1pi,h1,h2]
  ·simp [mem0,hp.one,hu.one,ha2,hb2,hp.len x1pi,hu.len x1pi,h1]
theorem x210 {r:List Int×Int}:∀ {ps us out:List Int},x1r4 out ps us=r→PhIn ps→TurnsIn out→us.length=ps.length→TurnsIn r.1∧(r.2=0→r.1.length=out.length+us.length)
 | [],us,out,h,_,ho,hl=>by
   have:us=[]:=List.length_eq_zero_iff.mp (by simpa using hl)
   subst this
   simp only [x1r4] at h
   subst h
   exact ⟨ho,fun _=>by simp⟩
 | p::ps,[],out,_,_,_,hl=>by simp at hl
 | p::ps,u::us,out,h,hp,ho,hl=>by
   have hp1:PhIn ps:=fun k=>by
    have:=hp (k+1)
    unfold at0 at this ⊢
    simpa using this
   have hp0:=hp 0
   have h0:at0 (p::ps) 0=p:=rfl
   rw [h0] at hp0
   simp only [x1r4] at h
   have nil:TurnsIn ([]:List Int):=fun x hx=>by simp at hx
   by_cases c1:p=void<;>by_cases c2:u=void
   ·simp [c1,c2] at h
    have:=x210 h hp1 (by intro x hx;rcases List.mem_append.mp hx with hx | hx;exact ho x hx;simp at hx;omega) (by simpa using hl)
    refine ⟨this.1,fun e=>?_⟩
    have:=this.2 e
    simp at this ⊢;omega
   ·simp [c1,c2] at h;subst h;exact ⟨nil,fun e=>by cases e⟩
   ·simp [c1,c2] at h;subst h;exact ⟨nil,fun e=>by cases e⟩
   ·cases c3:isP u
    ·simp [c1,c2,c3] at h;subst h;exact ⟨nil,fun e=>by cases e⟩
    by_cases c4:(u - p) % 4096=0
    ·simp [c1,c2,c3,c4] at h
     have hx:=wi_t c3
     have hq:-1000000≤(u - p).tdiv 4096∧(u - p).tdiv 4096≤1000000:=by
      rw [Int.tdiv_eq_ediv];split<;>omega
     have:=x210 h hp1 (by intro x hx;rcases List.mem_append.mp hx with hx | hx;exact ho x hx;simp at hx;omega) (by simpa using hl)
     refine ⟨this.1,fun e=>?_⟩
     have:=this.2 e
     simp at this ⊢;omega
    ·simp [c1,c2,c3,c4] at h;subst h;exact ⟨nil,fun e=>by cases e⟩
theorem fieldM_in {r c r' c':Int} {ph us:List Int} (hp:PhIn ph) (h:(x1rs r c ph r' c' us).2=0):TurnsIn (x1rs r c ph r' c' us).1∧(x1rs r c ph r' c' us).1.length=ph.length:=by
 by_cases c1:r'=r∧c'=c∧(us.length:Int)=ph.length
 ·obtain ⟨rfl,rfl,hl2⟩:=c1
  have e:x1rs r' c' ph r' c' us=x1r4 [] ph us:=by simp [x1rs,hl2]
  rw [e] at h ⊢
  have:=x210 (r:=x1r4 [] ph us) rfl hp (fun x hx=>by simp at hx) (by omega)
  refine ⟨this.1,?_⟩
  have:=this.2 h
  simp at this;omega
 ·exfalso
  have e:x1rs r c ph r' c' us=([],10):=by
   unfold x1rs
   by_cases h1:r'=r<;>by_cases h2:c'=c<;>by_cases h3:(us.length:Int)=ph.length<;>simp [h1,h2,h3]<;>exact absurd ⟨h1,h2,h3⟩ c1
  rw [e] at h;cases h
theorem x1xj {ph ws:List Int} {x:Edge}:∀ {l:List (Int×Int)} {k:Nat},x∈netM ph ws k l→∃ i p,l[i]?=some p∧x1qh ph p=false∧x=mkE ph ws (k+i) p
 | [],k,h=>by simp [netM] at h
 | q::r,k,h=>by
   simp only [netM] at h
   cases hv:x1qh ph q
   ·rw [hv] at h
    rcases List.mem_cons.mp h with rfl | h
    ·exact ⟨0,q,rfl,hv,rfl⟩
    ·obtain ⟨i,p,h1,h2,h3⟩:=x1xj h
     exact ⟨i+1,p,h1,h2,by rw [h3];congr 1;omega⟩
   ·rw [hv] at h
    obtain ⟨i,p,h1,h2,h3⟩:=x1xj h
    exact ⟨i+1,p,h1,h2,by rw [h3];congr 1;omega⟩
theorem x1ys {r c:Int} {ph ac dn:List Int} (h:x1qm r c ph ac dn=0):Right ph.length (x1qr r c ph ac dn):=by
 obtain ⟨r0,r1,c0,c1,hlen,hph,hac,hdn,h144,hw⟩:=x1uw h
 have hin:=x1uv hph
 have h1:=x1vb ph (ac++dn) (x1rx r c) 0
 have h2:=x1yq r0 c0
 have e1:r*(c - 1)=r*c - r:=by rw [Int.mul_sub];omega
 have e2:(r - 1)*c=r*c - c:=by rw [Int.sub_mul];omega
 refine ⟨by omega,by omega,by unfold x1qr;omega,fun e he=>?_⟩
 obtain ⟨i,p,h3,h4,rfl⟩:=x1xj he
 obtain ⟨hi,hie⟩:=List.getElem?_eq_some_iff.mp h3
 have hs:=x1yp r0 c0 (hie ▸ List.getElem_mem hi)
 simp only [x1qh,Bool.or_eq_false_iff,decide_eq_false_iff_not] at h4
 have b1:=hin p.1.toNat
 have b2:=hin p.2.toNat
 have hj:=x20x (a:=at0 ph p.1.toNat) (b:=at0 ph p.2.toNat) (by omega) (by omega) (by omega) (by omega)
 have hwi:i < (ac++dn).length:=by simp;omega
 have hwt:0≤at0 (ac++dn) (0+i)∧at0 (ac++dn) (0+i)≤1000:=by
  rw [Nat.zero_add,x1pu hwi]
  unfold x1tb at hw
  cases hany:(ac++dn).any (fun x=>!(wi x 0 1000))
  ·rw [List.any_eq_false] at hany
   have:=hany _ (List.getElem_mem hwi)
   exact wi_t (by simpa using this)
  ·rw [hany] at hw;cases hw
 exact ⟨⟨hs.1,by simp only [mkE];omega⟩,⟨hs.2.2.1,by simp only [mkE];omega⟩,hs.2.2.2.2,⟨by simp only [mkE];omega,by simp only [mkE];omega⟩,hwt⟩
end Go.Ix
