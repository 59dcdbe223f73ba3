import Derived.Test.YtaoalekmhjclnaaGreatDoorW10Ref2
set_option linter.unusedSimpArgs false
set_option linter.unusedVariables false
namespace Go.Ix
open Go.Proofs
theorem l_rcheck(d:Nat)(hs:FHs)(u:Nat){pa li sa:AV}{gap sto:Int}{l:List Ps}{kl:List Lk}{s:List Int}(h:Sl Ps.c pa l)(h3:Ints sa s)(hsl:s.length<=1000)(R:RPlan l kl gap sto){id:Id} :
 ∀(suf:List Int) (k j:Nat) (v:Int) (m:Mem) (fc:Nat),s.drop k=suf->suf.length<j->0<=v->v<=1000000*k->(∀(i:Nat) (hi:i<k),i<s.length->0<=at0 s i/\at0 s i<l.length)->m.get id=some (.row [pa,li,I gap,I sto] 0 false) ->
 ∃m',x1r (x15i (d+1)) hs u j sa (.ptr id 0 0) (I v) (I k) m fc=some (.tup [I (ckM l gap ((s.take k).getLast?) v suf).1,I (ckM l gap ((s.take k).getLast?) v suf).2],m'):=by
 intro suf
 have hl40:=R.len
 induction suf with
 |nil=>
  intro k j v m fc hd hj hv0 hv1 hin hm
  obtain⟨j,rfl⟩:∃i,j=i+1:=⟨j-1,by simp at hj;omega⟩
  have hk:¬((k:Int)<(s.length:Int)):=by have:=x1oi.mp hd;omega
  simp only[x1r]
  unfold x7v xac
  simp[h3.len x17v,hk,ckM]
 |cons e r ih=>
  intro k j v m fc hd hj hv0 hv1 hin hm
  obtain⟨j,rfl⟩:∃i,j=i+1:=⟨j-1,by simp at hj;omega⟩
  obtain⟨hk,he,hd1⟩:=x16s hd
  have hk':(k:Int)<(s.length:Int):=by omega
  have ix:=h3.ix x16u hk
  have ld:∀m,sLd false 1 (.plit ((s.drop k).flatMap intE)) m=some (I e):=λm=>by
   rw[x16e hk,x1o5,he];rfl
  have hwl:w64 ((l.length:Int)-1)=(l.length:Int)-1:=x15x (by omega) (by omega)
  simp only[x1r]
  unfold x7v
  simp only[h3.len x17v,x171,hk',x1p4,x184,x162,ix,ld]
  simp[hm,h.len x16n,hwl,x185,ckM]
  cases hw:wi e 0 ((l.length:Int)-1)with
  |false=>simp
  |true=>
  have hine:0<=e/\e<l.length:=by
   simp only[wi,x1o1,x1oy]at hw;omega
  obtain⟨i,rfl⟩:∃i:Nat,e=i:=⟨e.toNat,by omega⟩
  have hi:i<l.length:=by omega
  have ixi:=h.ix Ps.len hi
  have fai:sFA 3 (.plit ((l.drop i).flatMap Ps.c))=some (.plit (((l.drop i).flatMap Ps.c).drop 3)):=rfl
  have ldi:∀m,sLd false 1 (.plit (((l.drop i).flatMap Ps.c).drop 3)) m=some (I l[i].va):=λm=>by
   rw[x16e hi,x1o5];rfl
  have faf:sFA 1 (.plit ((l.drop i).flatMap Ps.c))=some (.plit ((l.drop i).flatMap Ps.c).tail):=by rw[<-x1qz];rfl
  have ldf:∀m,sLd false 1 (.plit ((l.drop i).flatMap Ps.c).tail) m=some (I l[i].fr):=λm=>by
   rw[x16e hi,x1o5];rfl
  have hvi:=(R.at (x1od hi)).2.2.1
  have hwv:w64 (v+l[i].va)=v+l[i].va:=x15x (by omega) (by omega)
  have hwk:w64 ((k:Int)+1)=(k:Int)+1:=x15x (by omega) (by omega)
  have ea:at0 s k=i:=by rw[x17u hk,he]
  have next:∀m fc,m.get id=some (.row [pa,li,I gap,I sto] 0 false)->∃m',x1r (x15i (d+1)) hs u j sa (.ptr id 0 0) (I (v+l[i].va)) (I ((k:Int)+1)) m fc=some (.tup [I (ckM l gap (some (i:Int)) (v+l[i].va) r).1,I (ckM l gap (some (i:Int)) (v+l[i].va) r).2],m'):=λm fc hm=>by
   have:=ih (k+1) j (v+l[i].va) m fc hd1 (by simp at hj;omega) (by omega) (by omega) (λi' hi' hs'=>by
    rcases Nat.lt_or_eq_of_le (Nat.le_of_lt_succ hi')with h4|rfl
    .exact hin i' h4 hs'
    .rw[ea];omega) hm
   rw[x195 hk,he]at this
   exact this
  rcases k with _|k
  .simp[hm,ix,ld,ixi,fai,ldi,hwv,x16w hi]
   obtain⟨m',h'⟩:=next m (fc+70) hm
   have ix0:sIx 1 sa (I 0)=some (.plit ((s.drop 0).flatMap intE)):=ix
   have ld0:∀m,sLd false 1 (.plit ((s.drop 0).flatMap intE)) m=some (I i):=ld
   rw[x1oh]at ix0 ld0
   exact⟨m',by simpa[ix0,ld0,ixi,fai,ldi,hwv]using h'⟩
  .have hk1:k<s.length:=by omega
   have ix1:=h3.ix x16u hk1
   have ld1:∀m,sLd false 1 (.plit ((s.drop k).flatMap intE)) m=some (I s[k]):=λm=>by
    rw[x16e hk1,x1o5];rfl
   have hs1:w64 (k:Int)=k:=x15x (by omega) (by omega)
   have hs2:w64 ((k:Int)+1+1)=(k:Int)+1+1:=x15x (by omega) (by omega)
   have hlast:=x195 hk1
   have ix':sIx 1 sa (I ((k:Int)+1))=some (.plit ((s.drop (k+1)).flatMap intE)):=ix
   by_cases ho:(i:Int)<=s[k]
   .simp[hm,ix',ld,hs1,ix1,ld1,hlast,ho]
   .have hpr:=hin k (by omega) hk1
    rw[x17u hk1]at hpr
    obtain⟨q,hq⟩:∃q:Nat,s[k]=q:=⟨s[k].toNat,by omega⟩
    have hql:q<l.length:=by omega
    have ixq:=h.ix Ps.len hql
    have faq:sFA 2 (.plit ((l.drop q).flatMap Ps.c))=some (.plit (((l.drop q).flatMap Ps.c).drop 2)):=rfl
    have ldq:∀m,sLd false 1 (.plit (((l.drop q).flatMap Ps.c).drop 2)) m=some (I l[q].to):=λm=>by
     rw[x16e hql,x1o5];rfl
    have hbq:=(R.at (x1od hql)).2.1
    have hg:=R.gap0
    have hwq:w64 (l[q].to+gap)=l[q].to+gap:=x15x (by omega) (by omega)
    have hah:=R.ahead hql l[i].fr
    have hqi:¬(i<=q):=by omega
    rw[hq]at ld1 hlast
    by_cases hc:l[i].fr<l[q].to+gap
    .have hc2:=hah.2 hc
     simp[hm,ix',ld,hs1,ix1,ld1,hlast,hqi,hc,hc2,x16w hi,ixi,faf,ldf,ixq,faq,ldq,hwq]
    .have hc2:¬(ahM gap l[i].fr l<=q):=λh=>hc (hah.1 h)
     obtain⟨m',h'⟩:=next m (fc+70) hm
     simp[hm,ix',ld,hs1,ix1,ld1,hlast,hqi,hc,hc2,x16w hi,ixi,faf,ldf,ixq,faq,ldq,hwq,fai,ldi,hwv]
     exact⟨m',by rw[hs2];simpa using h'⟩
theorem x1i7(d:Nat){pa li sa:AV}{gap sto:Int}{l:List Ps}{kl:List Lk}{s:List Int}(h:Sl Ps.c pa l)(h2:Sl Lk.c li kl)(h3:Ints sa s)(hsl:s.length<=1000)(R:RPlan l kl gap sto)(m:Mem) :
 x15e (x15i (d+2)) x1a [.agg [pa,li,I gap,I sto],sa] m=some (.tup [I (ckM l gap none 0 s).1,I (ckM l gap none 0 s).2],m):=by
 obtain⟨m',h'⟩:∃m',x15i (d+2) [] x1a [.agg [pa,li,I gap,I sto],sa] mem0=some (.tup [I (ckM l gap none 0 s).1,I (ckM l gap none 0 s).2],m'):=by
  rw[xy0]
  unfold x9c x7w xad
  simp only[mem0,x17f,x17l,x1oc,x1ox,h.one,h2.one,x17m,x1ou,x1oo,x16o,x162]
  generalize hm0:Mem.new _ _ _=m0
  have hg:m0.get (0,0,2)=some (.row [pa,li,I gap,I sto] 0 false):=by rw[<-hm0,Mem.get_new_same]
  obtain⟨m',h'⟩:=l_rcheck d [] 0 (li:=li) (sto:=sto) h h3 hsl R s 0 NN 0 m0 5 rfl (by rw[x16v];omega) (by omega) (by omega) (λi hi=>by omega) hg
  exact⟨m',h'⟩
 exact call0_tup (by simp[h.still1,h2.still1,h3.still]) h' rfl
theorem l_rlabels(d:Nat)(hs:FHs)(u:Nat){pa li la:AV}{gap sto:Int}{l:List Ps}{kl:List Lk}{lab:List Int}(h:Sl Ps.c pa l)(h2:Sl Lk.c li kl)(h3:Ints la lab)(R:RPlan l kl gap sto)(hlen:lab.length=l.length+1){id:Id} :
 ∀(suf:List Int) (k j:Nat) (m:Mem) (fc:Nat),lab.drop k=suf->suf.length<j->(∀i,i<k->0<=at0 lab i/\at0 lab i<=1000000000)->m.get id=some (.row [pa,li,I gap,I sto] 0 false) ->
 ∃m',x1t (x15i (d+1)) hs u j la (.ptr id 0 0) (I k) m fc=some (.tup [I (lbGo l gap lab k suf).1,I (lbGo l gap lab k suf).2],m'):=by
 intro suf
 have hl40:=R.len
 induction suf with
 |nil=>
  intro k j m fc hd hj hall hm
  obtain⟨j,rfl⟩:∃i,j=i+1:=⟨j-1,by simp at hj;omega⟩
  have hk0:=x1oi.mp hd
  have hk:¬((k:Int)<(lab.length:Int)):=by omega
  have ix1:=h3.ix x16u (k:=lab.length-1) (by omega)
  have ix0:=h3.ix x16u (k:=0) (by omega)
  have ld1:=λm=>x18r (m:=m) (l:=lab) (k:=lab.length-1) (by omega)
  have ld0:=λm=>x18r (m:=m) (l:=lab) (k:=0) (by omega)
  have e1:(((lab.length-1:Nat)):Int)=(lab.length:Int)-1:=by omega
  rw[e1]at ix1
  have ew:w64 ((lab.length:Int)-1)=(lab.length:Int)-1:=x15x (by omega) (by omega)
  have b1:=hall (lab.length-1) (by omega)
  have b0:=hall 0 (by omega)
  have ew2:w64 (at0 lab (lab.length-1)-at0 lab 0)=at0 lab (lab.length-1)-at0 lab 0:=x15x (by omega) (by omega)
  simp only[x1t]
  unfold x80 xag
  simp only[h3.len x17v,x171,hk,x1oz,x17t,x162,x19i,ew,ix1,ld1,lbGo]
  have ix0':sIx 1 la (I 0)=some (.plit ((lab.drop 0).flatMap intE)):=ix0
  simp only[ix0',ld0,x162,x19i,ew2]
  exact⟨_,rfl⟩
 |cons e r ih=>
  intro k j m fc hd hj hall hm
  obtain⟨j,rfl⟩:∃i,j=i+1:=⟨j-1,by simp at hj;omega⟩
  obtain⟨hk,he,hd1⟩:=x16s hd
  have hk':(k:Int)<(lab.length:Int):=by omega
  have ix:=h3.ix x16u hk
  have ld:=λm=>x18r (m:=m) (l:=lab) hk
  have ea:at0 lab k=e:=by simp[at0,hk,he]
  rw[ea]at ld
  simp only[x1t]
  unfold x80
  simp only[h3.len x17v,x171,hk',x1p4,x184,x162,ix,ld,x185,lbGo]
  cases hw:wi e 0 1000000000 with
  |false=>simp
  |true=>
  have hin:0<=e/\e<=1000000000:=by
   simp only[wi,x1o1,x1oy]at hw;omega
  have hwk:w64 ((k:Int)+1)=(k:Int)+1:=x15x (by omega) (by omega)
  have next:∀m fc,m.get id=some (.row [pa,li,I gap,I sto] 0 false)->∃m',x1t (x15i (d+1)) hs u j la (.ptr id 0 0) (I ((k:Int)+1)) m fc=some (.tup [I (lbGo l gap lab (k+1) r).1,I (lbGo l gap lab (k+1) r).2],m'):=λm fc hm=>
   ih (k+1) j m fc hd1 (by simp at hj;omega) (λi hi=>by
    rcases Nat.lt_or_eq_of_le (Nat.le_of_lt_succ hi)with h4|rfl
    .exact hall i h4
    .rw[ea];exact hin) hm
  rcases k with _|k
  .simp[x17a]
   obtain⟨m',h'⟩:=next m (fc+49) hm
   exact⟨m',by simpa using h'⟩
  .have hk1:k<lab.length:=by omega
   have hkl:k<l.length:=by omega
   have ix1:=h3.ix x16u hk1
   have ix':sIx 1 la (I ((k:Int)+1))=some (.plit ((lab.drop (k+1)).flatMap intE)):=ix
   have ld1:=λm=>x18r (m:=m) (l:=lab) hk1
   have ixi:=h.ix Ps.len hkl
   have fai:sFA 3 (.plit ((l.drop k).flatMap Ps.c))=some (.plit (((l.drop k).flatMap Ps.c).drop 3)):=rfl
   have ldi:∀m,sLd false 1 (.plit (((l.drop k).flatMap Ps.c).drop 3)) m=some (I l[k].va):=λm=>by
    rw[x16e hkl,x1o5];rfl
   have hs1:w64 (k:Int)=k:=x15x (by omega) (by omega)
   have hs2:w64 ((k:Int)+1+1)=(k:Int)+1+1:=x15x (by omega) (by omega)
   have hah:=x1gl d (sto:=sto) (gap:=gap) h h2 R hkl
   have hg0:=R.gap0
   have hq:ahM gap l[k].fr l<k+1:=by
    have:=(R.at (x1od hkl)).2.2.2.2
    have:=x18t (gap:=gap) (fr:=l[k].fr) hkl (by omega)
    omega
   obtain⟨a,hae⟩:∃a,ahM gap l[k].fr l=a:=⟨_,rfl⟩
   rw[hae]at hq
   have ixa:=h3.ix x16u (k:=a) (by omega)
   have lda:=λm=>x18r (m:=m) (l:=lab) (k:=a) (by omega)
   rw[hae]at hah
   have hb1:=(R.at (x1od hkl)).2.2.1
   have hba:=hall a hq
   have hww:w64 (l[k].va+at0 lab a)=l[k].va+at0 lab a:=x15x (by omega) (by omega)
   by_cases ho:e<at0 lab k
   .simp[ix',ld,hs1,ix1,ld1,ho,x17a,h.clean1,h2.clean1,cAp,tR]
   .by_cases hc:e<l[k].va+at0 lab a
    .simp[ix',ld,hs1,ix1,ld1,ho,x17a,hm,ixi,fai,ldi,hah,hae,ixa,lda,hww,hc,x16w hkl,h.one,h2.one,h.clean1,h2.clean1,cAp,tR]
    .obtain⟨m',h'⟩:=next m (fc+49) hm
     simp[ix',ld,hs1,ix1,ld1,ho,x17a,hm,ixi,fai,ldi,hah,hae,ixa,lda,hww,hc,x16w hkl,h.one,h2.one,h.clean1,h2.clean1,cAp,tR]
     exact⟨m',by rw[hs2];simpa using h'⟩
theorem x1i8(d:Nat){pa li la:AV}{gap sto:Int}{l:List Ps}{kl:List Lk}{lab:List Int}(h:Sl Ps.c pa l)(h2:Sl Lk.c li kl)(h3:Ints la lab)(R:RPlan l kl gap sto)(m:Mem) :
 x15e (x15i (d+2)) x1b [.agg [pa,li,I gap,I sto],la] m=some (.tup [I (x17q l gap lab).1,I (x17q l gap lab).2],m):=by
 obtain⟨m',h'⟩:∃m',x15i (d+2) [] x1b [.agg [pa,li,I gap,I sto],la] mem0=some (.tup [I (x17q l gap lab).1,I (x17q l gap lab).2],m'):=by
  rw[xy1]
  unfold x9d x81 xah
  simp only[mem0,x17f,x17l,x1oc,x1ox,h.one,h2.one,x17m,x1ou,x1oo,x16o,x162]
  generalize hm0:Mem.new _ _ _=m0
  have hg:m0.get (0,0,2)=some (.row [pa,li,I gap,I sto] 0 false):=by rw[<-hm0,Mem.get_new_same]
  have hlen:=R.len
  have hw:w64 ((l.length:Int)+1)=(l.length:Int)+1:=x15x (by omega) (by omega)
  by_cases hq:lab.length=l.length+1
  .obtain⟨m',h'⟩:=l_rlabels d [] 0 (sto:=sto) (gap:=gap) h h2 h3 R hq lab 0 NN m0 11 rfl (by rw[x16v];omega) (λi hi=>by omega) hg
   simp[hg,h3.len x17v,h.len x16n,hw,x17q,hq]
   exact⟨m',h'⟩
  .simp[hg,h3.len x17v,h.len x16n,hw,x17q,hq,show ¬((lab.length:Int)=(l.length:Int)+1) by omega]
 exact call0_tup (by simp[h.still1,h2.still1,h3.still]) h' rfl
end Go.Ix
