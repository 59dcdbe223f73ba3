import Derived.Test.YtljibmnhhdiakaaWCopy
import Derived.Test.YtljibmnhhdiakaaWMut
set_option linter.unusedSimpArgs false
namespace Go.Ix
open Go.Proofs
theorem x1yc {a b:Int} {x y:Nat} (h1:a.natAbs≤x) (h2:b.natAbs≤y):-((x*y:Nat):Int)≤a*b∧a*b≤((x*y:Nat):Int):=by
 have:=Nat.mul_le_mul h1 h2
 rw [← Int.natAbs_mul] at this
 omega
def x1s6 (p:List Int) (e:Edge) (f:Int):List Int:=(p.set e.to.toNat (at0 p e.to.toNat+f)).set e.fr.toNat (at0 p e.fr.toNat - f)
def x1s7 (p:List Int) (v:Int):List Edge→List Int→Int×Int
 | e::es,f::fs=>bif wi f (-e.wt) e.wt then x1s7 (x1s6 p e f) (v+f*e.jump) es fs else (0,2)
 | _,_=>bif p.any (fun x=>!decide (x=0)) then (0,25) else (v,0)
def x1sh (n:Int) (l:List Edge) (f:List Int):Int×Int:=
 bif !decide ((f.length:Int)=(l.length:Int)) then (0,10) else x1s7 (List.replicate n.toNat 0) 0 l f
theorem x20i (p:List Int) (e:Edge) (f:Int):(x1s6 p e f).length=p.length:=by simp [x1s6]
theorem x264 {p:List Int} {e:Edge} {f:Int} (h1:e.to.toNat≠e.fr.toNat):((p.set e.fr.toNat (at0 p e.fr.toNat - f)).set e.to.toNat (at0 p e.to.toNat+f))=x1s6 p e f:=by
 unfold x1s6
 rw [List.set_comm _ _ h1]
def NodeIn (p:List Int) (b:Int):Prop:=∀ k,-b≤at0 p k∧at0 p k≤b
theorem NodeIn.up {p:List Int} {b:Int} (h:NodeIn p b) {e:Edge} (he:EdgeIn p.length e) {f:Int} (h1:-1000≤f) (h2:f≤1000):NodeIn (x1s6 p e f) (b+1000):=by
 obtain ⟨f0,f1,t0,t1,-⟩:=he
 intro k
 have a:=h k
 have b1:=h e.to.toNat
 have b2:=h e.fr.toNat
 unfold x1s6
 rw [x1q8 (by simp;omega),x1q8 (by omega)]
 split
 ·omega
 ·split<;>omega
theorem l_value (d:Nat) (hs:FHs) {ev fa:AV} {l:List Edge} {fl:List Int} {n:Nat} (h:Sl Edge.c ev l) (hl:l.length≤600) (hf:Ints fa fl) (hfl:fl.length=l.length) (hn:n≤200) (he:∀ e∈l,EdgeIn n e∧e.fr≠e.to) :
 ∀ (suf:List Edge) (sf:List Int) (k j:Nat) (p:List Int) (v:Int) (m:Mem) (fc:Nat),l.drop k=suf→fl.drop k=sf→suf.length < j→p.length=n→NodeIn p (k*1000)→-(k*1000000)≤v→v≤k*1000000→OwnI m (0,13,20) p →
 ∃ m',x3w (x1pa (d+3)) hs 0 j fa (srI (0,13,20) n) (I v) ev (I l.length) (I k) m fc=some (.tup [I (x1s7 p v suf sf).1,I (x1s7 p v suf sf).2],m'):=by
 intro suf
 induction suf with
 | nil=>
   intro sf k j p v m fc hd hdf hj hp hN v0 v1 ho
   obtain ⟨j,rfl⟩:∃ i,j=i+1:=⟨j - 1,by simp at hj;omega⟩
   have hk0:=List.drop_eq_nil_iff.mp hd
   have hk:¬ ((k:Int) < (l.length:Int)):=by omega
   simp only [x3w]
   unfold xdk
   subst hp
   have ha:Ints (.slit (p.flatMap intE) p.length false) p:=Sl.lit p false
   have ht:Tells (x1pa (d+1)) (.clo x2g []) (fun x=>!decide (x=0)):=by
    intro hs x m
    refine ⟨m.next+1,?_⟩
    show x1pa (d+1) hs x2g [I x] m=_
    rw [xz4]
    unfold xa2 xis
    simp
   obtain ⟨n1,hans⟩:=x25u (d+1) [] ha (by omega) ht mem0
   obtain ⟨m2,-,hcall⟩:=x22v (m:=m) (l:=[srI (0,13,20) p.length,.clo x2g []]) (l':=[.slit (p.flatMap intE) p.length false,.clo x2g []]) (by
    simp only [List.mapM_cons,List.mapM_nil,frz_own ho]
    rfl) hans (x1v6 _ 4 rfl)
   have e:x1s7 p v [] sf=bif p.any (fun x=>!decide (x=0)) then (0,25) else (v,0):=by
    cases sf<;>rfl
   rw [e]
   simp [hk,x5f,hcall]
   cases p.any (fun x=>!decide (x=0))<;>simp
 | cons e r ih=>
   intro sf k j p v m fc hd hdf hj hp hN v0 v1 ho
   obtain ⟨j,rfl⟩:∃ i,j=i+1:=⟨j - 1,by simp at hj;omega⟩
   obtain ⟨hk,hke,hd⟩:=x1qg hd
   have hk':(k:Int) < (l.length:Int):=by omega
   have hkf:k < fl.length:=by omega
   subst hdf
   have ix:=h.ix Edge.len hk
   have ld:=x1u6 (m:=m) Edge.len (by omega) hk
   rw [hke] at ld
   simp only [Edge.c] at ld
   obtain ⟨hee,hne⟩:=he e (hke ▸ List.getElem_mem hk)
   have hee':=hee
   obtain ⟨f0,f1,t0,t1,j0,j1,w0,w1⟩:=hee'
   have ixf:=hf.ix x1pv hkf
   have e1:at0 fl k=fl[k]:=x1pu hkf
   have i1:=x1pw (id:=(0,13,20)) t0 t1
   have i2:=x1pw (id:=(0,13,20)) f0 f1
   have b1:=hN e.to.toNat
   have b2:=hN e.fr.toNat
   have htf:e.to.toNat≠e.fr.toNat:=by omega
   have l1:e.to.toNat < p.length:=by omega
   have l2:e.fr.toNat < p.length:=by omega
   unfold OwnI at ho
   have hfm:x1s7 p v (e::r) (fl.drop k)=bif wi fl[k] (-e.wt) e.wt then x1s7 (x1s6 p e fl[k]) (v+fl[k]*e.jump) r (fl.drop (k+1)) else (0,2):=by rw [x1r6 hkf];rfl
   rw [hfm]
   simp only [x3w]
   unfold xdk
   cases c:wi fl[k] (-e.wt) e.wt
   ·simp (disch:=omega) [hk',ix,ld,x1r7,Edge.c,ixf,x1pr,e1,x1x9,c]
   have hw:=wi_t c
   have hmul:-1000000≤fl[k]*e.jump∧fl[k]*e.jump≤1000000:=by
    have:=x1yc (a:=fl[k]) (b:=e.jump) (x:=1000) (y:=1000) (by omega) (by omega)
    omega
   obtain ⟨m',h'⟩:=ih (fl.drop (k+1)) (k+1) j (x1s6 p e fl[k]) (v+fl[k]*e.jump)
    ((((m.new (0,fc+4,9) (.row [I 0,I 0,I 0,I 0] 0 false)).set (0,fc+4,9) (.row e.c 0 false)).set (0,13,20) (.row ((p.set e.fr.toNat (at0 p e.fr.toNat - fl[k])).flatMap intE) 0 false)).set (0,13,20) (.row ((x1s6 p e fl[k]).flatMap intE) 0 false)) (fc+54) hd rfl (by simp at hj;omega) (by rw [x20i];exact hp)
    (by have:=hN.up (hp ▸ hee) (f:=fl[k]) (by omega) (by omega);rwa [show (k:Int)*1000+1000=((k+1:Nat):Int)*1000 by omega] at this) (by omega) (by omega) (by unfold OwnI;simp)
   have l3:e.to.toNat < (p.set e.fr.toNat (at0 p e.fr.toNat - fl[k])).length:=by simpa using l1
   have e2:at0 (p.set e.fr.toNat (at0 p e.fr.toNat - fl[k])) e.to.toNat=at0 p e.to.toNat:=by rw [x1q8 l2,if_neg htf]
   simp (disch:=omega) [hk',ix,ld,x1r7,Edge.c,x1x9,i1,i2,ho,ixf,x1pr,e1,e2,c,x264 htf]
   exact ⟨m',h'⟩
theorem inEdge {n:Int} {l:List Edge} (hr:Right n l):∀ e∈l,EdgeIn n.toNat e∧e.fr≠e.to:=by
 intro e he
 have:=hr.lo
 obtain ⟨⟨a,b⟩,⟨c,d⟩,hne,⟨j0,j1⟩,w0,w1⟩:=hr.ed e he
 exact ⟨⟨a,by omega,c,by omega,j0,j1,w0,w1⟩,hne⟩
theorem rep_in (n:Nat):NodeIn (List.replicate n 0) ((0:Nat)*1000):=by
 intro k
 rw [x1wa]
 omega
theorem w_value (d:Nat) {n:Int} {ev fa:AV} {l:List Edge} {fl:List Int} (h:Sl Edge.c ev l) (hr:Right n l) (hf:Ints fa fl) (m:Mem) :
 x1pb (x1pa (d+4)) x4r [.agg [I n,ev],fa] m=some (.tup [I (x1sh n l fl).1,I (x1sh n l fl).2],m):=by
 refine Ans.call0_tup ?_ (by simp [h.still1,hf.still]) rfl
 unfold Ans
 rw [xym]
 unfold x9k xi7
 have hn0:=hr.lo
 have hn1:=hr.hi
 have hl:=hr.len
 simp [mem0,h.one,hf.len x1pi,h.len x1s5]
 by_cases c1:(fl.length:Int)=(l.length:Int)
 rotate_left
 ·simp [x1sh,c1]
 obtain ⟨m',h'⟩:=l_value d [] h hl hf (by omega) (n:=n.toNat) (by omega) (inEdge hr) l fl 0 NN (List.replicate n.toNat 0) 0 (((⟨[],1⟩:Mem).new (0,0,2) (.row [I n,ev] 0 false)).new (0,13,20) (.row ((List.replicate n.toNat (0:Int)).flatMap intE) 0 false)) 21 rfl rfl (by rw [x1pp];omega) (by simp) (rep_in _) (by omega) (by omega) (by unfold OwnI;simp)
 simp [x1sh,c1,x1r9,x1tm hn0 (show n≤1000000 by omega),xdl,h.len x1s5]
 exact ⟨m',h'⟩
theorem l_flowOf0 (d:Nat) (hs:FHs) {n:Nat} {ev:AV} {p:List Int} (hn:n≤200) (hp:p.length=n) (v:Int):∀ (suf:List Int) (k j:Nat) (m:Mem) (fc:Nat),p.drop k=suf→suf.length < j →
 m.get (0,0,2)=some (.row [I n,ev] 0 false)→OwnI m (0,11,19) p →
 x37 (x1pa d) hs 0 j (.ptr (0,0,2) 0 0) (srI (0,11,19) n) (I v) (I k) m fc=some (.tup (bif suf.any (fun x=>!decide (x=0)) then [I 0,I 25] else [I v,I 0]),m):=by
 intro suf
 induction suf with
 | nil=>
   intro k j m fc hd hj hg ho
   obtain ⟨j,rfl⟩:∃ i,j=i+1:=⟨j - 1,by simp at hj;omega⟩
   have hk0:=List.drop_eq_nil_iff.mp hd
   have hk:¬ ((k:Int) < (n:Int)):=by omega
   simp only [x37]
   unfold xbt
   simp [hg,hk,x50]
 | cons x r ih=>
   intro k j m fc hd hj hg ho
   obtain ⟨j,rfl⟩:∃ i,j=i+1:=⟨j - 1,by simp at hj;omega⟩
   obtain ⟨hk,hke,hd⟩:=x1qg hd
   have hk':(k:Int) < (n:Int):=by omega
   have i1:=x1pw (id:=(0,11,19)) (n:=n) (k:=(k:Int)) (by omega) hk'
   have e1:at0 p k=x:=by rw [x1pu hk,hke]
   unfold OwnI at ho
   simp only [x37]
   unfold xbt
   simp (disch:=omega) [hg,hk',i1,ho,e1]
   by_cases c:x=0
   rotate_left
   ·simp [c]
   have h':=ih (k+1) j m (fc+12) hd (by simp at hj;omega) hg ho
   simp [c]
   exact h'
theorem l_flowOf1 (d:Nat) (hs:FHs) {ev fa:AV} {l:List Edge} {fl:List Int} {n:Nat} (h:Sl Edge.c ev l) (hl:l.length≤600) (hf:Ints fa fl) (hfl:fl.length=l.length) (hn:n≤200) (he:∀ e∈l,EdgeIn n e∧e.fr≠e.to) :
 ∀ (suf:List Edge) (sf:List Int) (k j:Nat) (p:List Int) (v:Int) (m:Mem) (fc:Nat),l.drop k=suf→fl.drop k=sf→suf.length < j→p.length=n→NodeIn p (k*1000)→-(k*1000000)≤v→v≤k*1000000 →
 m.get (0,0,2)=some (.row [I n,ev] 0 false)→OwnI m (0,11,19) p →
 ∃ m',x39 (x1pa (d+1)) hs 0 j fa (.ptr (0,0,2) 0 0) (srI (0,11,19) n) (I v) (I k) m fc=some (.tup [I (x1s7 p v suf sf).1,I (x1s7 p v suf sf).2],m'):=by
 intro suf
 induction suf with
 | nil=>
   intro sf k j p v m fc hd hdf hj hp hN v0 v1 hg ho
   obtain ⟨j,rfl⟩:∃ i,j=i+1:=⟨j - 1,by simp at hj;omega⟩
   have hk0:=List.drop_eq_nil_iff.mp hd
   have hk:¬ ((k:Int) < (l.length:Int)):=by omega
   have e:x1s7 p v [] sf=bif p.any (fun x=>!decide (x=0)) then (0,25) else (v,0):=by
    cases sf<;>rfl
   have h':=l_flowOf0 (d+1) hs hn hp v p 0 NN m (fc+4+1) rfl (by rw [x1pp];omega) hg ho
   rw [e]
   simp only [x39]
   unfold xbu
   simp [hk,hfl,hf.len x1pi,x38]
   refine ⟨m,?_⟩
   refine Eq.trans h' ?_
   cases p.any (fun x=>!decide (x=0))<;>rfl
 | cons e r ih=>
   intro sf k j p v m fc hd hdf hj hp hN v0 v1 hg ho
   obtain ⟨j,rfl⟩:∃ i,j=i+1:=⟨j - 1,by simp at hj;omega⟩
   obtain ⟨hk,hke,hd⟩:=x1qg hd
   have hk':(k:Int) < (l.length:Int):=by omega
   have hkf:k < fl.length:=by omega
   subst hdf
   have ix:=h.ix Edge.len hk
   have ld:=x1u6 (m:=m) Edge.len (by omega) hk
   rw [hke] at ld
   simp only [Edge.c] at ld
   obtain ⟨hee,hne⟩:=he e (hke ▸ List.getElem_mem hk)
   have hee':=hee
   obtain ⟨f0,f1,t0,t1,j0,j1,w0,w1⟩:=hee'
   have ixf:=hf.ix x1pv hkf
   have e1:at0 fl k=fl[k]:=x1pu hkf
   have i1:=x1pw (id:=(0,11,19)) t0 t1
   have i2:=x1pw (id:=(0,11,19)) f0 f1
   have b1:=hN e.to.toNat
   have b2:=hN e.fr.toNat
   have htf:e.to.toNat≠e.fr.toNat:=by omega
   have l1:e.to.toNat < p.length:=by omega
   have l2:e.fr.toNat < p.length:=by omega
   unfold OwnI at ho
   have hfm:x1s7 p v (e::r) (fl.drop k)=bif wi fl[k] (-e.wt) e.wt then x1s7 (x1s6 p e fl[k]) (v+fl[k]*e.jump) r (fl.drop (k+1)) else (0,2):=by rw [x1r6 hkf];rfl
   rw [hfm]
   simp only [x39]
   unfold xbu
   simp only [hf.len x1pi,hfl,x1pf,x1r1,hk',decide_true,x1qj,x1q5,Nat.zero_add,x1pm,hg,x1pn,Nat.beq_refl,x1pj,List.drop_succ_cons,List.drop_zero,rd_f,ix,ld]
   simp only [x1t7]
   simp only [x1q6]
   simp only [x1r7,Mem.get_new,if_true,x1y5,List.all_cons,List.all_nil,one_I,Bool.and_self,x1pj,x1pf]
   cases c:wi fl[k] (-e.wt) e.wt
   ·simp (disch:=omega) [hg,hfl,hf.len x1pi,hk',ix,ld,x1r7,Edge.c,ixf,x1pr,e1,x1up,c]
   have hw:=wi_t c
   have hmul:-1000000≤fl[k]*e.jump∧fl[k]*e.jump≤1000000:=by
    have:=x1yc (a:=fl[k]) (b:=e.jump) (x:=1000) (y:=1000) (by omega) (by omega)
    omega
   obtain ⟨m',h'⟩:=ih (fl.drop (k+1)) (k+1) j (x1s6 p e fl[k]) (v+fl[k]*e.jump)
    ((((m.new (0,fc+9,9) (.row [I 0,I 0,I 0,I 0] 0 false)).set (0,fc+9,9) (.row e.c 0 false)).set (0,11,19) (.row ((p.set e.to.toNat (at0 p e.to.toNat+fl[k])).flatMap intE) 0 false)).set (0,11,19) (.row ((x1s6 p e fl[k]).flatMap intE) 0 false)) (fc+65) hd rfl (by simp at hj;omega) (by rw [x20i];exact hp)
    (by have:=hN.up (hp ▸ hee) (f:=fl[k]) (by omega) (by omega);rwa [show (k:Int)*1000+1000=((k+1:Nat):Int)*1000 by omega] at this) (by omega) (by omega) (by simp [hg]) (by unfold OwnI;simp)
   have l3:e.fr.toNat < (p.set e.to.toNat (at0 p e.to.toNat+fl[k])).length:=by simpa using l2
   simp (disch:=omega) [x1up,i1,i2,ho,ixf,x1pr,e1,c,-x1q6]
   simp only [x1q6]
   simp (disch:=omega) [i2,ho,-x1q6]
   simp (disch:=omega) [apart_RS]
   exact ⟨m',h'⟩
theorem x265 (d:Nat) {n:Int} {ev fa:AV} {l:List Edge} {fl:List Int} (h:Sl Edge.c ev l) (hr:Right n l) (hf:Ints fa fl) (m:Mem) :
 x1pb (x1pa (d+2)) x2z [.agg [I n,ev],fa] m=some (.tup [I (x1sh n l fl).1,I (x1sh n l fl).2],m):=by
 refine Ans.call0_tup ?_ (by simp [h.still1,hf.still]) rfl
 unfold Ans
 rw [xxm]
 unfold x8f xgx
 have hn0:=hr.lo
 have hn1:=hr.hi
 have hl:=hr.len
 simp [mem0,h.one,hf.len x1pi,h.len x1s5]
 by_cases c1:(fl.length:Int)=(l.length:Int)
 rotate_left
 ·simp [x1sh,c1]
 have hnn:((n.toNat:Nat):Int)=n:=by omega
 obtain ⟨m',h'⟩:=l_flowOf1 d [] h hl hf (by omega) (n:=n.toNat) (by omega) (inEdge hr) l fl 0 NN (List.replicate n.toNat 0) 0 (((⟨[],1⟩:Mem).new (0,0,2) (.row [I n,ev] 0 false)).new (0,11,19) (.row ((List.replicate n.toNat (0:Int)).flatMap intE) 0 false)) 15 rfl rfl (by rw [x1pp];omega) (by simp) (rep_in _) (by omega) (by omega) (by simp [hnn]) (by unfold OwnI;simp)
 simp [x1sh,c1,x1r9,x1tm hn0 (show n≤1000000 by omega),xbv]
 exact ⟨m',h'⟩
end Go.Ix
