import Derived.Test.YtaoalekmhjclnaaGreatDoorWg6
set_option linter.unusedSimpArgs false
set_option linter.unusedVariables false
namespace Go.Ix
open Go.Proofs
theorem l_rplinks(d u:Nat){pa li:AV}{gap sto:Int}{l:List Lk}(h:Sl Lk.c li l)(hl:l.length<=20) :
 ∀(suf:List Lk) (k j:Nat) (m:Mem) (fc:Nat),l.drop k=suf->suf.length<j->m.get (u,0,1)=some (.row [pa,li,I gap,I sto] 0 false) ->
 ∃m',x1p (x15i (d+1)) [] u j (.ptr (u,0,1) 0 0) (I k) m fc=some (.tup [I (x173 (0,bif wi gap 0 1000000&&wi sto 0 1000000 then 0 else 2) l k suf).1,I (x173 (0,bif wi gap 0 1000000&&wi sto 0 1000000 then 0 else 2) l k suf).2],m'):=by
 intro suf
 induction suf with
 |nil=>
  intro k j m fc hd hj hm
  obtain⟨j,rfl⟩:∃i,j=i+1:=⟨j-1,by simp at hj;omega⟩
  have hk:¬((k:Int)<(l.length:Int)):=by have:=x1oi.mp hd;omega
  simp only[x1p]
  unfold x7r
  simp[hm,h.len x194,hk,x1gf]
  unfold xaa
  simp[hm,x185]
  cases hw1:wi gap 0 1000000<;>cases hw2:wi sto 0 1000000<;>simp[x185,hm,hw1,hw2]
 |cons e r ih=>
  intro k j m fc hd hj hm
  obtain⟨j,rfl⟩:∃i,j=i+1:=⟨j-1,by simp at hj;omega⟩
  obtain⟨hk,he,hd1⟩:=x16s hd
  have hk':(k:Int)<(l.length:Int):=by omega
  have ix:=h.ix Lk.len hk
  have fa0:sFA 0 (.plit ((l.drop k).flatMap Lk.c))=some (.plit ((l.drop k).flatMap Lk.c)):=rfl
  have fa1:sFA 1 (.plit ((l.drop k).flatMap Lk.c))=some (.plit ((l.drop k).flatMap Lk.c).tail):=by rw[<-x1qz];rfl
  have ld0:∀m,sLd false 1 (.plit ((l.drop k).flatMap Lk.c)) m=some (I e.at_):=λm=>by
   rw[x16e hk,x1o5,he];rfl
  have ld1:∀m,sLd false 1 (.plit ((l.drop k).flatMap Lk.c).tail) m=some (I e.da):=λm=>by
   rw[x16e hk,x1o5,he];rfl
  have next:∀m fc,m.get (u,0,1)=some (.row [pa,li,I gap,I sto] 0 false)->∃m',x1p (x15i (d+1)) [] u j (.ptr (u,0,1) 0 0) (I ((k:Int)+1)) m fc=some (.tup [I (x173 (0,bif wi gap 0 1000000&&wi sto 0 1000000 then 0 else 2) l (k+1) r).1,I (x173 (0,bif wi gap 0 1000000&&wi sto 0 1000000 then 0 else 2) l (k+1) r).2],m'):=λm fc hm=>ih (k+1) j m fc hd1 (by simp at hj;omega) hm
  simp only[x1p]
  unfold x7r
  simp[hm,h.len x194,hk,ix,fa0,ld0,x185]
  cases hw1:wi e.at_ 0 1000000000 with
  |false=>
   rw[x1a9 (z:=2) (by simp[lkBad,hw1]) (by decide)]
   simp
  |true=>
  simp[hm,ix,fa1,ld1,x185]
  cases hw2:wi e.da 0 1000000 with
  |false=>
   rw[x1a9 (z:=2) (by simp[lkBad,hw2]) (by decide)]
   simp
  |true=>
  simp[hm,x185]
  rcases k with _|k
  .rw[x1bh (by simp[lkBad,hw1,hw2])]
   simp
   obtain⟨m',h'⟩:=next m (fc+44) hm
   exact⟨m',by simpa using h'⟩
  .have hk1:k<l.length:=by omega
   have ix1:=h.ix Lk.len hk1
   have fa2:sFA 0 (.plit ((l.drop k).flatMap Lk.c))=some (.plit ((l.drop k).flatMap Lk.c)):=rfl
   have ld2:∀m,sLd false 1 (.plit ((l.drop k).flatMap Lk.c)) m=some (I l[k].at_):=λm=>by
    rw[x16e hk1,x1o5];rfl
   have hs1:w64 (k:Int)=k:=x15x (by omega) (by omega)
   have hs2:w64 ((k:Int)+1+1)=(k:Int)+1+1:=x15x (by omega) (by omega)
   have hlast:=x195 hk1
   have ix':sIx 2 li (I ((k:Int)+1))=some (.plit ((l.drop (k+1)).flatMap Lk.c)):=ix
   by_cases ho:e.at_<=l[k].at_
   .rw[x1a9 (z:=9) (by simp[lkBad,hw1,hw2,hlast,ho]) (by decide)]
    simp[hm,hs1,ix1,ix',fa2,ld2,fa0,ld0,ho]
   .rw[x1bh (by simp[lkBad,hw1,hw2,hlast,ho])]
    obtain⟨m',h'⟩:=next m (fc+44) hm
    simp[hm,hs1,ix1,ix',fa2,ld2,fa0,ld0,ho]
    exact⟨m',by rw[hs2];simpa using h'⟩
theorem x1i6(d:Nat){pa li:AV}{gap sto:Int}{l:List Ps}{kl:List Lk}(h:Sl Ps.c pa l)(h2:Sl Lk.c li kl)(m:Mem) :
 x15e (x15i (d+2)) x19 [.agg [pa,li,I gap,I sto]] m=some (.tup [I (planM l kl gap sto).1,I (planM l kl gap sto).2],m):=by
 obtain⟨m',h'⟩:∃m',x15i (d+2) [] x19 [.agg [pa,li,I gap,I sto]] mem0=some (.tup [I (planM l kl gap sto).1,I (planM l kl gap sto).2],m'):=by
  rw[xxz]
  unfold x9b x7u planM
  simp only[mem0,x17f,x17l,x1oc,x1ox,h.one,h2.one,x17m,x1ou,x1oo,x16o]
  generalize hm0:Mem.new _ _ _=m0
  have hg:m0.get (0,0,1)=some (.row [pa,li,I gap,I sto] 0 false):=by rw[<-hm0,Mem.get_new_same]
  by_cases hl:40<l.length
  .simp[hg,h.len x16n,hl,show(40:Int)<l.length by omega]
  .obtain⟨m',h'⟩:=l_rpplan d 0 (li:=li) (sto:=sto) (gap:=gap) h (by omega) (res:=bif decide (20<kl.length)then(0,8)else x173 (0,bif wi gap 0 1000000&&wi sto 0 1000000 then 0 else 2) kl 0 kl) (λm fc hm=>by
    unfold x7s
    by_cases hk:20<kl.length
    .simp[hm,h2.len x194,hk,show(20:Int)<kl.length by omega]
    .obtain⟨m',h'⟩:=l_rplinks d 0 (pa:=pa) (gap:=gap) (sto:=sto) h2 (by omega) kl 0 NN m (fc+5) rfl (by rw[x16v];omega) hm
     refine⟨m',?_⟩
     simp[hm,h2.len x194,hk,show ¬((20:Int)<kl.length) by omega]
     unfold xab
     exact h') l 0 NN m0 9 nilS rfl (by rw[x16v];omega) hg Gr.nil
   simp[hg,h.len x16n,hl,show ¬((40:Int)<l.length) by omega]
   exact⟨m',h'⟩
 exact call0_tup (by simp[h.still1,h2.still1]) h' rfl
theorem ahM_gt{gap fr:Int}:∀{l:List Ps} {q:Nat} (hq:q<l.length),(∀(j:Nat) (h:j<=q),(l[j]'(by omega)).to+gap<=fr)->q<ahM gap fr l
 |x::r,0,_,h=>by
  have:=h 0 (x1o4 _)
  unfold ahM
  rw[x1ow (by simpa using this)]
  simp
 |x::r,q+1,hq,h=>by
  have h0:=h 0 (by omega)
  unfold ahM
  rw[x1ow (by simpa using h0)]
  have:=ahM_gt (gap:=gap) (fr:=fr) (l:=r) (q:=q) (by simpa using hq) λj hj=>by
   have:=h (j+1) (by omega)
   simpa using this
  simp
  omega
theorem RPlan.mono{l:List Ps}{kl:List Lk}{gap sto:Int}(R:RPlan l kl gap sto){i:Nat}:∀{j:Nat} (hj:j<l.length) (hij:i<=j),(l[i]'(by omega)).to<=l[j].to
 |0,hj,hij=>by
  have:i=0:=by omega
  subst this
  exact x1pj _
 |j+1,hj,hij=>by
  rcases Nat.lt_or_eq_of_le hij with h|rfl
  .exact Int.le_trans (R.mono (j:=j) (by omega) (by omega)) (R.mono1 hj)
  .exact x1pj _
theorem RPlan.ahead{l:List Ps}{kl:List Lk}{gap sto:Int}(R:RPlan l kl gap sto){q:Nat}(hq:q<l.length)(fr:Int):(ahM gap fr l<=q)↔fr<l[q].to+gap:=by
 constructor
 .intro h
  by_cases hc:fr<l[q].to+gap
  .exact hc
  .exfalso
   have:=ahM_gt (gap:=gap) (fr:=fr) hq λj hj=>by
    have:=R.mono hq hj
    omega
   omega
 .exact x18t hq
theorem l_rahead(call:x15d)(hs:FHs)(u:Nat){pa li:AV}{gap sto:Int}{l:List Ps}(h:Sl Ps.c pa l)(hl:l.length<=1000){i:Nat}(hi:i<l.length)(hg1:0<=gap/\gap<=1000000)(hto:∀x∈l,0<=x.to/\x.to<=1000000000)(hii:l[i].fr<l[i].to){id:Id} :
 ∀(suf:List Ps) (k j:Nat) (m:Mem) (fc:Nat),l.drop k=suf->k<=i->suf.length<j->m.get id=some (.row [pa,li,I gap,I sto] 0 false) ->
 x41 call hs u j (I i) (.ptr id 0 0) (I k) m fc=some (I ((k+ahM gap l[i].fr suf:Nat)),m):=by
 intro suf
 have ixi:=h.ix Ps.len hi
 have fai:sFA 1 (.plit ((l.drop i).flatMap Ps.c))=some (.plit ((l.drop i).flatMap Ps.c).tail):=by rw[<-x1qz];rfl
 have ldi:∀m,sLd false 1 (.plit ((l.drop i).flatMap Ps.c).tail) m=some (I l[i].fr):=λm=>by
  rw[x16e hi,x1o5];rfl
 induction suf with
 |nil=>
  intro k j m fc hd hki hj hm
  exfalso
  have:=x1oi.mp hd
  omega
 |cons e r ih=>
  intro k j m fc hd hki hj hm
  obtain⟨j,rfl⟩:∃i,j=i+1:=⟨j-1,by simp at hj;omega⟩
  obtain⟨hk,he,hd1⟩:=x16s hd
  simp only[x41]
  unfold xbf xbe
  by_cases hki':k<i
  .have hk':(k:Int)<(l.length:Int):=by omega
   have ix:=h.ix Ps.len hk
   have fa:sFA 2 (.plit ((l.drop k).flatMap Ps.c))=some (.plit (((l.drop k).flatMap Ps.c).drop 2)):=rfl
   have ld:∀m,sLd false 1 (.plit (((l.drop k).flatMap Ps.c).drop 2)) m=some (I e.to):=λm=>by
    rw[x16e hk,x1o5,he];rfl
   have hb:=hto e (he▸x1od hk)
   have hw:w64 (e.to+gap)=e.to+gap:=x15x (by omega) (by omega)
   have hw1:w64 ((k:Int)+1)=(k:Int)+1:=x15x (by omega) (by omega)
   by_cases hc:e.to+gap<=l[i].fr
   .have:=ih (k+1) j m (fc+24) hd1 (by omega) (by simp at hj;omega) hm
    simp[hm,hki',ix,fa,ld,ixi,fai,ldi,hw,hc,hw1,ahM]
    rw[show((k:Int)+((ahM gap l[i].fr r:Nat)+1))=(((k+1)+ahM gap l[i].fr r:Nat):Int) by omega]
    exact this
   .simp[hm,hki',ix,fa,ld,ixi,fai,ldi,hw,hc,ahM]
  .have:k=i:=by omega
   subst this
   have hz:ahM gap l[k].fr (e::r)=0:=by
    unfold ahM
    rw[x1pt (by rw[<-he];omega)]
    rfl
   rw[hz]
   simp
theorem x1gl(d:Nat){pa li:AV}{gap sto:Int}{l:List Ps}{kl:List Lk}(h:Sl Ps.c pa l)(h2:Sl Lk.c li kl)(R:RPlan l kl gap sto){i:Nat}(hi:i<l.length)(m:Mem) :
 x15e (x15i (d+1)) x13 [.agg [pa,li,I gap,I sto],I i] m=some (I (ahM gap l[i].fr l:Nat),m):=by
 obtain⟨m',h'⟩:∃m',x15i (d+1) [] x13 [.agg [pa,li,I gap,I sto],I i] mem0=some (I (ahM gap l[i].fr l:Nat),m'):=by
  rw[xyh]
  unfold x9r x8n
  simp only[mem0,x17f,x17l,x1oc,x1ox,h.one,h2.one,x17m,x1ou,x1oo,x16o]
  generalize hm0:Mem.new _ _ _=m0
  have hg:m0.get (0,0,2)=some (.row [pa,li,I gap,I sto] 0 false):=by rw[<-hm0,Mem.get_new_same]
  have:=l_rahead (x15i d) [] 0 (li:=li) (sto:=sto) h (by have:=R.len;omega) hi R.gap0 (λx hx=>(R.at hx).2.1) (R.at (x1od hi)).2.2.2.2 l 0 NN m0 3 rfl (by omega) (by rw[x16v];have:=R.len;omega) hg
  rw[x1pd]at this
  exact⟨_,this⟩
 exact call0 (by simp[h.still1,h2.still1]) h' rfl
end Go.Ix
