import Derived.Test.YtaoalekmhjclnaaGreatDoorWg2
set_option linter.unusedSimpArgs false
namespace Go.Ix
open Go.Proofs
structure Ps where
 nm:ByteArray
 fr:Int
 to:Int
 va:Int
 da:Int
def Ps.c(x:Ps):List AV:=[T x.nm,I x.fr,I x.to,I x.va,I x.da]
theorem Ps.len(x:Ps):x.c.length=5:=rfl
structure Lk where
 at_:Int
 da:Int
def Lk.c(x:Lk):List AV:=[I x.at_,I x.da]
theorem Lk.len(x:Lk):x.c.length=2:=rfl
def lkBad(l:List Lk)(x:Lk):Int:=bif !wi x.at_ 0 1000000000||!wi x.da 0 1000000 then 2
    else bif(match l.getLast? with|some y=>decide (x.at_<=y.at_)|none=>false)then 9 else 0
theorem x198:Tryz.prog.underlying xf=some (.slice x25):=by kernel_rfl
theorem x190:Tryz.prog.underlying xg=some (.slice x37):=by kernel_rfl
theorem z_pass:x18=[T ⟨#[]⟩,I 0,I 0,I 0,I 0]:=by kernel_rfl
theorem z_link:xo=[I 0,I 0]:=by kernel_rfl
def pw2(l:List Ps)(x:Ps):Int:=
 bif !wi x.fr 0 1000000000||!wi x.to 0 1000000000||!wi x.va 0 1000000||!wi x.da 0 1000000 then 2
 else bif decide (x.to<=x.fr)then 26
 else bif(match l.getLast? with|some y=>decide (x.to<y.to)|none=>false)then 9 else 0
def pwErr(l:List Ps)(x:Ps):Int:=bif decide (x1b9 x.nm (l.map Ps.nm)≠0)then x1b9 x.nm (l.map Ps.nm)else pw2 l x
def psErr(l:List Ps):Nat->List Ps->Int×Int
 |_,[]=>(0,0)
 |k,x::r=>bif decide (pwErr (l.take k) x≠0)then((k:Int),pwErr (l.take k) x)else psErr l (k+1) r
def x19i(res:Int×Int)(l:List Ps)(k:Nat)(suf:List Ps):Int×Int:=bif decide ((psErr l k suf).2≠0)then psErr l k suf else res
theorem x1iq{res:Int×Int}{l:List Ps}{k:Nat}:x19i res l k []=res:=rfl
theorem x19j{res:Int×Int}{l r:List Ps}{k:Nat}{e:Ps}{z:Int}(h:pwErr (l.take k) e=z)(hz:z≠0):x19i res l k (e::r)=((k:Int),z):=by
 simp[x19i,psErr,h,hz]
theorem x1dk{res:Int×Int}{l r:List Ps}{k:Nat}{e:Ps}(h:pwErr (l.take k) e=0):x19i res l k (e::r)=x19i res l (k+1) r:=by
 simp[x19i,psErr,h]
def lkErr(l:List Lk):Nat->List Lk->Int×Int
 |_,[]=>(0,0)
 |k,x::r=>bif decide (lkBad (l.take k) x≠0)then((k:Int),lkBad (l.take k) x)else lkErr l (k+1) r
def x191(res:Int×Int)(l:List Lk)(k:Nat)(suf:List Lk):Int×Int:=bif decide ((lkErr l k suf).2≠0)then lkErr l k suf else res
theorem x1ir{res:Int×Int}{l:List Lk}{k:Nat}:x191 res l k []=res:=rfl
theorem x1cd{res:Int×Int}{l r:List Lk}{k:Nat}{e:Lk}{z:Int}(h:lkBad (l.take k) e=z)(hz:z≠0):x191 res l k (e::r)=((k:Int),z):=by
 simp[x191,lkErr,h,hz]
theorem x1dl{res:Int×Int}{l r:List Lk}{k:Nat}{e:Lk}(h:lkBad (l.take k) e=0):x191 res l k (e::r)=x191 res l (k+1) r:=by
 simp[x191,lkErr,h]
def planM(ps:List Ps)(ls:List Lk)(gap sto:Int):Int×Int:=
 bif decide (40<ps.length)then(0,8)
 else x19i (bif decide (20<ls.length)then(0,8)else x191 (0,bif wi gap 0 1000000&&wi sto 0 1000000 then 0 else 2) ls 0 ls) ps 0 ps
theorem x1is{call:x17c}{f:FuncId}{l l':List AV}{m m':Mem}{r:AV}(hl:l.mapM (Go.Ix.frz m.get deep)=some l')(h:call [] f l' mem0=some (r,m'))(hr:x1ak r=true):x193 call f l m=some (r,m):=by
 unfold x193
 rw[hl]
 simp only[h,hr,x1rj]
theorem x1aw{α:Type}{l:List α}{k:Nat}(h:k<l.length):(l.take (k+1)).getLast?=some l[k]:=by
 rw[List.getLast?_eq_getElem?,x1ty,Nat.min_eq_left (by omega),Nat.add_sub_cancel,x1tz (by omega),x1qw h]
theorem inv_nm(d:Nat){pa li:AV}{gap sto:Int}{l:List Ps}(h:Sl Ps.c pa l){k:Nat}(hk:k<l.length)(m:Mem) :
 ∃m',x18j (x17h (d+1)) [] 2 (.clo xe [.plit [pa,li,I gap,I sto]]) [I k] m=some (T l[k].nm,m'):=by
 have ix:=h.ix Ps.len hk
 have e:x18j (x17h (d+1)) [] 2 (.clo xe [.plit [pa,li,I gap,I sto]]) [I k] m=x17h (d+1) [] xe [I k,.plit [pa,li,I gap,I sto]] m:=rfl
 rw[e,xzz]
 unfold xaq x8z
 refine⟨⟨m.hp,m.next+1⟩,?_⟩
 have h0:sFA 0 (.plit [pa,li,I gap,I sto])=some (.plit [pa,li,I gap,I sto]):=rfl
 have h1:∀m,sLd false 1 (.plit [pa,li,I gap,I sto]) m=some pa:=λ_=>rfl
 have h2:sFA 0 (.plit ((l.drop k).flatMap Ps.c))=some (.plit ((l.drop k).flatMap Ps.c)):=rfl
 have h3:∀m,sLd false 1 (.plit ((l.drop k).flatMap Ps.c)) m=some (T l[k].nm):=λm=>by
  rw[x18b hk,x1ql];rfl
 simp only[h0,h1,ix,h2,h3,x17m]
theorem frz_ptr0{objs:Id->Option Ob}{id:Id}{cs cs':List AV}{fr:Bool}{k:Nat}(h:objs id=some (.row cs 0 fr))(hs:cs.mapM (Go.Ix.frz objs k)=some cs'):Go.Ix.frz objs (k+1) (.ptr id 0 0)=some (.plit cs'):=by
 have e:Go.Ix.frz objs (k+1) (.ptr id 0 0)=((cs.drop 0).mapM (Go.Ix.frz objs k)).map .plit:=by
  simp only[Go.Ix.frz,h,x1rj]
 rw[e,x1qm,hs]
 rfl
theorem c_named(d:Nat){pa li:AV}{gap sto:Int}{l:List Ps}{kl:List Lk}{id:Id}(h:Sl Ps.c pa l)(h2:Sl Lk.c li kl)(hl:l.length<=1000){x:Ps}(hx:x.nm.size<=1000){k:Nat}(hk:k<=l.length){m:Mem}(hp:m.get id=some (.row [pa,li,I gap,I sto] 0 false)):x193 (x17h (d+3)) xi [T x.nm,.clo xe [.ptr id 0 0],I k] m=some (I (x1b9 x.nm ((l.take k).map Ps.nm)),m):=by
 have hkl:((l.take k).map Ps.nm).length=k:=by simp;omega
 obtain⟨m',h'⟩:=a_named (d+1) (s:=x.nm) (fv:=.clo xe [.plit [pa,li,I gap,I sto]]) (l:=(l.take k).map Ps.nm) hx (by omega) λi hi m=>by
  have hi':i<l.length:=by omega
  obtain⟨m',e⟩:=inv_nm (d+1) (li:=li) (gap:=gap) (sto:=sto) h hi' m
  refine⟨m',?_⟩
  have e2:((l.take k).map Ps.nm)[i]=l[i].nm:=by simp
  rw[e2]
  exact e
 rw[hkl]at h'
 have h3:x17h (d+3) [] xi [T x.nm,.clo xe [.plit [pa,li,I gap,I sto]],I k] mem0=some (I (x1b9 x.nm ((l.take k).map Ps.nm)),m'):=h'
 clear h'
 refine x1is ?_ h3 rfl
 have f1:Go.Ix.frz m.get 4 pa=some pa:=x1au _ 2 h.still
 have f2:Go.Ix.frz m.get 4 li=some li:=x1au _ 2 h2.still
 have f3:[pa,li,I gap,I sto].mapM (Go.Ix.frz m.get 4)=some [pa,li,I gap,I sto]:=by
  simp only[x1rt,x1sv,f1,f2];rfl
 have f4:Go.Ix.frz m.get 5 (.ptr id 0 0)=some (.plit [pa,li,I gap,I sto]):=by
  exact frz_ptr0 hp f3
 have f5:Go.Ix.frz m.get deep (.clo xe [.ptr id 0 0])=some (.clo xe [.plit [pa,li,I gap,I sto]]):=by
  show([AV.ptr id 0 0].mapM (Go.Ix.frz m.get 5)).map (AV.clo xe)=_
  simp only[x1rt,x1sv,f4];rfl
 have f6:Go.Ix.frz m.get deep (T x.nm)=some (T x.nm):=x1au _ 4 rfl
 have f7:Go.Ix.frz m.get deep (I k)=some (I k):=x1au _ 4 rfl
 simp only[x1rt,x1sv,f5,f6,f7];rfl
theorem l_pplan(d u:Nat){pa li:AV}{gap sto:Int}{l:List Ps}{kl:List Lk}(h:Sl Ps.c pa l)(h2:Sl Lk.c li kl)(hl:l.length<=40)(hn:∀x∈l,x.nm.size<=1000){res:Int×Int}(hB:∀m fc,m.get (u,0,1)=some (.row [pa,li,I gap,I sto] 0 false)->∃m',x87 (x17h (d+3)) [] u (.ptr (u,0,1) 0 0) m fc=some (.tup [I res.1,I res.2],m')) :
 ∀(suf:List Ps) (k j:Nat) (m:Mem) (fc:Nat),l.drop k=suf->suf.length<j->m.get (u,0,1)=some (.row [pa,li,I gap,I sto] 0 false) ->
 ∃m',x1s (x17h (d+3)) [] u j (.ptr (u,0,1) 0 0) pa (I l.length) (I k) m fc=some (.tup [I (x19i res l k suf).1,I (x19i res l k suf).2],m'):=by
 intro suf
 induction suf with
 |nil=>
  intro k j m fc hd hj hm
  obtain⟨j,rfl⟩:∃i,j=i+1:=⟨j-1,by simp at hj;omega⟩
  have hk:¬((k:Int)<(l.length:Int)):=by have:=x1qx.mp hd;omega
  obtain⟨m',h'⟩:=hB m (fc+1) hm
  refine⟨m',?_⟩
  simp only[x1s]
  unfold x88
  simp only[x17x,hk,x1qj,x182,x17m,h',x1iq]
 |cons e r ih=>
  intro k j m fc hd hj hm
  obtain⟨j,rfl⟩:∃i,j=i+1:=⟨j-1,by simp at hj;omega⟩
  obtain⟨hk,he,hd⟩:=x18t hd
  have hk':(k:Int)<(l.length:Int):=by omega
  have ix:=h.ix Ps.len hk
  have ld:=x1ei (m:=m) Ps.len (by omega) hk
  rw[he]at ld
  have hxn:e.nm.size<=1000:=hn e (he▸x1ra hk)
  have next:∀m fc,m.get (u,0,1)=some (.row [pa,li,I gap,I sto] 0 false)->∃m',x1s (x17h (d+3)) [] u j (.ptr (u,0,1) 0 0) pa (I l.length) (I ((k:Int)+1)) m fc=some (.tup [I (x19i res l (k+1) r).1,I (x19i res l (k+1) r).2],m'):=λm fc hm=>ih (k+1) j m fc hd (by simp at hj;omega) hm
  simp only[x1s]
  unfold x88
  simp only[x17x,hk',x1qk,x184,x17m,ix,ld,x1b7,z_pass]
  simp[Ps.c]
  have hT1:(T e.nm).one=true:=rfl
  simp only[hT1,x18l,x17m]
  generalize hm1:Mem.set _ _ _=m1
  have hg:m1.get (u,fc+4,5)=some (.row e.c 0 false):=by rw[<-hm1,Mem.get_set_same];rfl
  have hg0:m1.get (u,0,1)=some (.row [pa,li,I gap,I sto] 0 false):=by
   rw[<-hm1,Mem.get_set_ne (by simp),Mem.get_new_ne (by simp)];exact hm
  have hnm:=c_named d h h2 (by omega) hxn (k:=k) (by omega) hg0
  have hr0:x1bo false 1 0 0 (some (Ob.row [T e.nm,I e.fr,I e.to,I e.va,I e.da] 0 false))=some (T e.nm):=rfl
  simp only[hr0,hnm,x17m]
  obtain⟨z,hz⟩:∃z,x1b9 e.nm ((l.take k).map Ps.nm)=z:=⟨_,rfl⟩
  rw[hz]
  by_cases hq:z=0
  .have hp:pwErr (l.take k) e=pw2 (l.take k) e:=by unfold pwErr;rw[hz,hq];rfl
   subst hq
   simp[hg,Ps.c,x1bp,x1av]
   cases hw1:wi e.fr 0 1000000000 with
   |false=>
    rw[x19j (z:=2) (by rw[hp];simp[pw2,hw1]) (by decide)]
    simp
   |true=>
   simp[hg,Ps.c,x1bp,x1av]
   cases hw2:wi e.to 0 1000000000 with
   |false=>
    rw[x19j (z:=2) (by rw[hp];simp[pw2,hw2]) (by decide)]
    simp
   |true=>
   simp[hg,Ps.c,x1bp,x1av]
   cases hw3:wi e.va 0 1000000 with
   |false=>
    rw[x19j (z:=2) (by rw[hp];simp[pw2,hw3]) (by decide)]
    simp
   |true=>
   simp[hg,Ps.c,x1bp,x1av]
   cases hw4:wi e.da 0 1000000 with
   |false=>
    rw[x19j (z:=2) (by rw[hp];simp[pw2,hw4]) (by decide)]
    simp
   |true=>
   simp[hg,Ps.c,x1bp,x1av]
   by_cases hb:e.to<=e.fr
   .rw[x19j (z:=26) (by rw[hp];simp[pw2,hw1,hw2,hw3,hw4,hb]) (by decide)]
    simp[hb]
   .rcases k with _|k
    .rw[x1dk (by rw[hp];simp[pw2,hw1,hw2,hw3,hw4,hb])]
     simp[hb]
     obtain⟨m',h'⟩:=next m1 (fc+61) hg0
     exact⟨m',by simpa using h'⟩
    .have hk1:k<l.length:=by omega
     have ix1:=h.ix Ps.len hk1
     have fa1:sFA 2 (.plit ((l.drop k).flatMap Ps.c))=some (.plit (((l.drop k).flatMap Ps.c).drop 2)):=rfl
     have ld1:∀m,sLd false 1 (.plit (((l.drop k).flatMap Ps.c).drop 2)) m=some (I l[k].to):=λm=>by
      rw[x18b hk1,x1ql];rfl
     have hs1:w64 (k:Int)=k:=x17t (by omega) (by omega)
     have hs2:w64 ((k:Int)+1+1)=(k:Int)+1+1:=x17t (by omega) (by omega)
     have hlast:=x1aw hk1
     by_cases ho:e.to<l[k].to
     .rw[x19j (z:=9) (by rw[hp];simp[pw2,hw1,hw2,hw3,hw4,hb,hlast,ho]) (by decide)]
      simp[hb,hg0,hg,Ps.c,hs1,ix1,fa1,ld1,ho]
     .rw[x1dk (by rw[hp];simp[pw2,hw1,hw2,hw3,hw4,hb,hlast,ho])]
      simp[hb,hg0,hg,Ps.c,hs1,ix1,fa1,ld1,ho]
      obtain⟨m',h'⟩:=next m1 (fc+61) hg0
      exact⟨m',by rw[hs2];simpa using h'⟩
  .rw[x19j (z:=z) (by unfold pwErr;rw[hz,x1ro hq];rfl) hq]
   simp[hq]
theorem l_plinks(d u:Nat){pa li:AV}{gap sto:Int}{l:List Lk}(h:Sl Lk.c li l)(hl:l.length<=20) :
 ∀(suf:List Lk) (k j:Nat) (m:Mem) (fc:Nat),l.drop k=suf->suf.length<j->m.get (u,0,1)=some (.row [pa,li,I gap,I sto] 0 false) ->
 ∃m',x1r (x17h (d+3)) [] u j (.ptr (u,0,1) 0 0) li (I l.length) (I k) m fc=some (.tup [I (x191 (0,bif wi gap 0 1000000&&wi sto 0 1000000 then 0 else 2) l k suf).1,I (x191 (0,bif wi gap 0 1000000&&wi sto 0 1000000 then 0 else 2) l k suf).2],m'):=by
 intro suf
 induction suf with
 |nil=>
  intro k j m fc hd hj hm
  obtain⟨j,rfl⟩:∃i,j=i+1:=⟨j-1,by simp at hj;omega⟩
  have hk:¬((k:Int)<(l.length:Int)):=by have:=x1qx.mp hd;omega
  simp only[x1r]
  unfold x86
  simp only[x17x,hk,x1qj,x182,x17m,x1ir]
  unfold xbk
  simp[hm,x1av]
  cases hw1:wi gap 0 1000000<;>cases hw2:wi sto 0 1000000<;>simp[x1av,hm,w_ranged,hw1,hw2]
 |cons e r ih=>
  intro k j m fc hd hj hm
  obtain⟨j,rfl⟩:∃i,j=i+1:=⟨j-1,by simp at hj;omega⟩
  obtain⟨hk,he,hd⟩:=x18t hd
  have hk':(k:Int)<(l.length:Int):=by omega
  have ix:=h.ix Lk.len hk
  have ld:=x1ei (m:=m) Lk.len (by omega) hk
  rw[he]at ld
  have next:∀m fc,m.get (u,0,1)=some (.row [pa,li,I gap,I sto] 0 false)->∃m',x1r (x17h (d+3)) [] u j (.ptr (u,0,1) 0 0) li (I l.length) (I ((k:Int)+1)) m fc=some (.tup [I (x191 (0,bif wi gap 0 1000000&&wi sto 0 1000000 then 0 else 2) l (k+1) r).1,I (x191 (0,bif wi gap 0 1000000&&wi sto 0 1000000 then 0 else 2) l (k+1) r).2],m'):=λm fc hm=>ih (k+1) j m fc hd (by simp at hj;omega) hm
  simp only[x1r]
  unfold x86
  simp only[x17x,hk',x1qk,x184,x17m,ix,ld,x1b7,z_link]
  simp[Lk.c]
  generalize hm1:Mem.set _ _ _=m1
  have hg:m1.get (u,fc+4,8)=some (.row e.c 0 false):=by rw[<-hm1,Mem.get_set_same];rfl
  have hg0:m1.get (u,0,1)=some (.row [pa,li,I gap,I sto] 0 false):=by
   rw[<-hm1,Mem.get_set_ne (by simp),Mem.get_new_ne (by simp)];exact hm
  simp[hg,Lk.c,x1bp,x1av]
  cases hw1:wi e.at_ 0 1000000000 with
  |false=>
   rw[x1cd (z:=2) (by simp[lkBad,hw1]) (by decide)]
   simp
  |true=>
  simp[hg,Lk.c,x1bp,x1av]
  cases hw2:wi e.da 0 1000000 with
  |false=>
   rw[x1cd (z:=2) (by simp[lkBad,hw2]) (by decide)]
   simp
  |true=>
  simp[hg,Lk.c,x1bp,x1av]
  rcases k with _|k
  .rw[x1dl (by simp[lkBad,hw1,hw2])]
   simp
   obtain⟨m',h'⟩:=next m1 (fc+35) hg0
   exact⟨m',by simpa using h'⟩
  .have hk1:k<l.length:=by omega
   have ix1:=h.ix Lk.len hk1
   have fa1:sFA 0 (.plit ((l.drop k).flatMap Lk.c))=some (.plit ((l.drop k).flatMap Lk.c)):=rfl
   have ld1:∀m,sLd false 1 (.plit ((l.drop k).flatMap Lk.c)) m=some (I l[k].at_):=λm=>by
    rw[x18b hk1,x1ql];rfl
   have hs1:w64 (k:Int)=k:=x17t (by omega) (by omega)
   have hs2:w64 ((k:Int)+1+1)=(k:Int)+1+1:=x17t (by omega) (by omega)
   have hlast:=x1aw hk1
   by_cases ho:e.at_<=l[k].at_
   .rw[x1cd (z:=9) (by simp[lkBad,hw1,hw2,hlast,ho]) (by decide)]
    simp[hg0,hg,Lk.c,hs1,ix1,fa1,ld1,ho]
   .rw[x1dl (by simp[lkBad,hw1,hw2,hlast,ho])]
    simp[hg0,hg,Lk.c,hs1,ix1,fa1,ld1,ho]
    obtain⟨m',h'⟩:=next m1 (fc+35) hg0
    exact⟨m',by rw[hs2];simpa using h'⟩
theorem x1kc(d:Nat){pa li:AV}{gap sto:Int}{l:List Ps}{kl:List Lk}(h:Sl Ps.c pa l)(h2:Sl Lk.c li kl)(hn:∀x∈l,x.nm.size<=1000) :
 ∃m',x17h (d+4) [] x10 [.agg [pa,li,I gap,I sto]] mem0=some (.tup [I (planM l kl gap sto).1,I (planM l kl gap sto).2],m'):=by
 rw[xzo]
 unfold xag x89 planM
 simp only[mem0,x19p,x19v,x1r1,x1rk,h.one,h2.one,x19w,x1re,x1rf,x18l]
 generalize hm0:Mem.new _ _ _=m0
 have hg:m0.get (0,0,1)=some (.row [pa,li,I gap,I sto] 0 false):=by rw[<-hm0,Mem.get_new_same]
 by_cases hl:40<l.length
 .simp[hg,h.len x198,hl,show(40:Int)<l.length by omega]
 .simp only[x19x,x1g2,hg,x1ik,x17m,x1rj]
  simp[h.len x198,hl,show ¬((40:Int)<l.length) by omega]
  unfold xbm
  simp[hg,h.len x198]
  obtain⟨m',h'⟩:=l_pplan d 0 (sto:=sto) (gap:=gap) h h2 (by omega) hn (res:=bif decide (20<kl.length)then(0,8)else x191 (0,bif wi gap 0 1000000&&wi sto 0 1000000 then 0 else 2) kl 0 kl) (λm fc hm=>by
   unfold x87
   by_cases hk:20<kl.length
   .simp[hm,h2.len x190,hk,show(20:Int)<kl.length by omega]
   .obtain⟨m',h'⟩:=l_plinks d 0 (pa:=pa) (gap:=gap) (sto:=sto) h2 (by omega) kl 0 NN m (fc+8) rfl (by rw[x18k];omega) hm
    refine⟨m',?_⟩
    simp[hm,h2.len x190,hk,show ¬((20:Int)<kl.length) by omega]
    unfold xbl
    simp[hm,h2.len x190]
    exact h') l 0 NN m0 11 rfl (by rw[x18k];omega) hg
  exact⟨m',h'⟩
theorem x1it(d:Nat){pa li:AV}{gap sto:Int}{l:List Ps}{kl:List Lk}(h:Sl Ps.c pa l)(h2:Sl Lk.c li kl)(hn:∀x∈l,x.nm.size<=1000)(m:Mem) :
 x17e (x17h (d+4)) x10 [.agg [pa,li,I gap,I sto]] m=some (.tup [I (planM l kl gap sto).1,I (planM l kl gap sto).2],m):=by
 obtain⟨m',h'⟩:=x1kc d (gap:=gap) (sto:=sto) h h2 hn
 exact call0_tup (by simp[h.still1,h2.still1]) h' rfl
end Go.Ix
