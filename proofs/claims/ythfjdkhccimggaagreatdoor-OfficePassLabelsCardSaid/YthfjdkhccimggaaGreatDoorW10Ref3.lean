import Derived.Test.YthfjdkhccimggaaGreatDoorW10Ref2
set_option linter.unusedSimpArgs false
set_option linter.unusedVariables false
namespace Go.Ix
open Go.Proofs
theorem l_rlabels(d:Nat)(hs:FHs)(u:Nat){pa li la:AV}{gap sto:Int}{l:List Ps}{kl:List Lk}{lab:List Int}(h:Sl Ps.c pa l)(h2:Sl Lk.c li kl)(h3:Ints la lab)(R:RPlan l kl gap sto)(hlen:lab.length=l.length+1){id:Id} :
 ∀(suf:List Int) (k j:Nat) (m:Mem) (fc:Nat),lab.drop k=suf->suf.length<j->(∀i,i<k->0<=at0 lab i/\at0 lab i<=1000000000)->m.get id=some (.row [pa,li,I gap,I sto] 0 false) ->
 ∃m',x1m (x14k (d+1)) hs u j la (.ptr id 0 0) (I k) m fc=some (.tup [I (lbGo l gap lab k suf).1,I (lbGo l gap lab k suf).2],m'):=by
 intro suf
 have hl40:=R.len
 induction suf with
 |nil=>
  intro k j m fc hd hj hall hm
  obtain⟨j,rfl⟩:∃i,j=i+1:=⟨j-1,by simp at hj;omega⟩
  have hk0:=x1mu.mp hd
  have hk:¬((k:Int)<(lab.length:Int)):=by omega
  have ix1:=h3.ix x16f (k:=lab.length-1) (by omega)
  have ix0:=h3.ix x16f (k:=0) (by omega)
  have ld1:=λm=>x17h (m:=m) (l:=lab) (k:=lab.length-1) (by omega)
  have ld0:=λm=>x17h (m:=m) (l:=lab) (k:=0) (by omega)
  have e1:(((lab.length-1:Nat)):Int)=(lab.length:Int)-1:=by omega
  rw[e1]at ix1
  have ew:w64 ((lab.length:Int)-1)=(lab.length:Int)-1:=x153 (by omega) (by omega)
  have b1:=hall (lab.length-1) (by omega)
  have b0:=hall 0 (by omega)
  have ew2:w64 (at0 lab (lab.length-1)-at0 lab 0)=at0 lab (lab.length-1)-at0 lab 0:=x153 (by omega) (by omega)
  simp only[x1m]
  unfold x7f x9q
  simp only[h3.len x17i,x16k,hk,x1n7,x189,x15d,x1ar,ew,ix1,ld1,lbGo]
  have ix0':sIx 1 la (I 0)=some (.plit ((lab.drop 0).flatMap intE)):=ix0
  simp only[ix0',ld0,x15d,x1ar,ew2]
  exact⟨_,rfl⟩
 |cons e r ih=>
  intro k j m fc hd hj hall hm
  obtain⟨j,rfl⟩:∃i,j=i+1:=⟨j-1,by simp at hj;omega⟩
  obtain⟨hk,he,hd1⟩:=x160 hd
  have hk':(k:Int)<(lab.length:Int):=by omega
  have ix:=h3.ix x16f hk
  have ld:=λm=>x17h (m:=m) (l:=lab) hk
  have ea:at0 lab k=e:=by simp[at0,hk,he]
  rw[ea]at ld
  simp only[x1m]
  unfold x7f
  simp only[h3.len x17i,x16k,hk',x1nh,x17f,x15d,ix,ld,x172,lbGo]
  cases hw:wi e 0 1000000000 with
  |false=>simp
  |true=>
  have hin:0<=e/\e<=1000000000:=by
   simp only[wi,x1m7,x1n4]at hw;omega
  have hwk:w64 ((k:Int)+1)=(k:Int)+1:=x153 (by omega) (by omega)
  have next:∀m fc,m.get id=some (.row [pa,li,I gap,I sto] 0 false)->∃m',x1m (x14k (d+1)) hs u j la (.ptr id 0 0) (I ((k:Int)+1)) m fc=some (.tup [I (lbGo l gap lab (k+1) r).1,I (lbGo l gap lab (k+1) r).2],m'):=λm fc hm=>
   ih (k+1) j m fc hd1 (by simp at hj;omega) (λi hi=>by
    rcases Nat.lt_or_eq_of_le (Nat.le_of_lt_succ hi)with h4|rfl
    .exact hall i h4
    .rw[ea];exact hin) hm
  rcases k with _|k
  .simp[x16a]
   obtain⟨m',h'⟩:=next m (fc+49) hm
   exact⟨m',by simpa using h'⟩
  .have hk1:k<lab.length:=by omega
   have hkl:k<l.length:=by omega
   have ix1:=h3.ix x16f hk1
   have ix':sIx 1 la (I ((k:Int)+1))=some (.plit ((lab.drop (k+1)).flatMap intE)):=ix
   have ld1:=λm=>x17h (m:=m) (l:=lab) hk1
   have ixi:=h.ix Ps.len hkl
   have fai:sFA 3 (.plit ((l.drop k).flatMap Ps.c))=some (.plit (((l.drop k).flatMap Ps.c).drop 3)):=rfl
   have ldi:∀m,sLd false 1 (.plit (((l.drop k).flatMap Ps.c).drop 3)) m=some (I l[k].va):=λm=>by
    rw[x15l hkl,x1mc];rfl
   have hs1:w64 (k:Int)=k:=x153 (by omega) (by omega)
   have hs2:w64 ((k:Int)+1+1)=(k:Int)+1+1:=x153 (by omega) (by omega)
   have hah:=w_rAhead d (sto:=sto) (gap:=gap) h h2 R hkl
   have hg0:=R.gap0
   have hq:ahM gap l[k].fr l<k+1:=by
    have:=(R.at (x1n6 hkl)).2.2.2.2
    have:=ahM_lt (gap:=gap) (fr:=l[k].fr) hkl (by omega)
    omega
   obtain⟨a,hae⟩:∃a,ahM gap l[k].fr l=a:=⟨_,rfl⟩
   rw[hae]at hq
   have ixa:=h3.ix x16f (k:=a) (by omega)
   have lda:=λm=>x17h (m:=m) (l:=lab) (k:=a) (by omega)
   rw[hae]at hah
   have hb1:=(R.at (x1n6 hkl)).2.2.1
   have hba:=hall a hq
   have hww:w64 (l[k].va+at0 lab a)=l[k].va+at0 lab a:=x153 (by omega) (by omega)
   by_cases ho:e<at0 lab k
   .simp[ix',ld,hs1,ix1,ld1,ho,x16a,h.clean1,h2.clean1,cAp,tR]
   .by_cases hc:e<l[k].va+at0 lab a
    .simp[ix',ld,hs1,ix1,ld1,ho,x16a,hm,ixi,fai,ldi,hah,hae,ixa,lda,hww,hc,x17v hkl,h.one,h2.one,h.clean1,h2.clean1,cAp,tR]
    .obtain⟨m',h'⟩:=next m (fc+49) hm
     simp[ix',ld,hs1,ix1,ld1,ho,x16a,hm,ixi,fai,ldi,hah,hae,ixa,lda,hww,hc,x17v hkl,h.one,h2.one,h.clean1,h2.clean1,cAp,tR]
     exact⟨m',by rw[hs2];simpa using h'⟩
theorem x1gl(d:Nat){pa li la:AV}{gap sto:Int}{l:List Ps}{kl:List Lk}{lab:List Int}(h:Sl Ps.c pa l)(h2:Sl Lk.c li kl)(h3:Ints la lab)(R:RPlan l kl gap sto)(m:Mem) :
 x14e (x14k (d+2)) x17 [.agg [pa,li,I gap,I sto],la] m=some (.tup [I (x16l l gap lab).1,I (x16l l gap lab).2],m):=by
 obtain⟨m',h'⟩:∃m',x14k (d+2) [] x17 [.agg [pa,li,I gap,I sto],la] mem0=some (.tup [I (x16l l gap lab).1,I (x16l l gap lab).2],m'):=by
  rw[xx6]
  unfold x8r x7g x9r
  simp only[mem0,x16t,x170,x1mt,x1na,h.one,h2.one,x171,x1n1,x1mz,x15s,x15d]
  generalize hm0:Mem.new _ _ _=m0
  have hg:m0.get (0,0,2)=some (.row [pa,li,I gap,I sto] 0 false):=by rw[<-hm0,Mem.get_new_same]
  have hlen:=R.len
  have hw:w64 ((l.length:Int)+1)=(l.length:Int)+1:=x153 (by omega) (by omega)
  by_cases hq:lab.length=l.length+1
  .obtain⟨m',h'⟩:=l_rlabels d [] 0 (sto:=sto) (gap:=gap) h h2 h3 R hq lab 0 NN m0 11 rfl (by rw[x16g];omega) (λi hi=>by omega) hg
   simp[hg,h3.len x17i,h.len x15r,hw,x16l,hq]
   exact⟨m',h'⟩
  .simp[hg,h3.len x17i,h.len x15r,hw,x16l,hq,show ¬((lab.length:Int)=(l.length:Int)+1) by omega]
 exact call0_tup (by simp[h.still1,h2.still1,h3.still]) h' rfl
end Go.Ix
