import Derived.Test.YtaoalekmhjclnaaGreatDoorWg4
import Derived.Test.YtaoalekmhjclnaaGreatDoorWg2
set_option linter.unusedSimpArgs false
namespace Go.Ix
open Go.Proofs
theorem ahM_le(gap fr:Int):∀l:List Ps,ahM gap fr l<=l.length
 |[]=>x1o4 _
 |x::r=>by
  unfold ahM
  cases decide (x.to+gap<=fr)with
  |true=>simp;exact ahM_le gap fr r
  |false=>simp
def x17a(l:List Ps)(gap:Int)(lab:List Int)(n:Int):Nat->Bool
 |0=>false
 |k+1=>decide (n<at0 lab k)||decide (n<(psAt l k).va+at0 lab (ahM gap (psAt l k).fr l))
def lbGo(l:List Ps)(gap:Int)(lab:List Int):Nat->List Int->Int×Int
 |_,[]=>(at0 lab (lab.length-1)-at0 lab 0,0)
 |k,n::r=>bif !wi n 0 1000000000 then(0,2)else bif x17a l gap lab n k then(0,22)else lbGo l gap lab (k+1) r
def x17q(l:List Ps)(gap:Int)(lab:List Int):Int×Int:=bif decide (lab.length=l.length+1)then lbGo l gap lab 0 lab else(0,10)
def labM(l:List Ps)(kl:List Lk)(gap sto:Int)(lab:List Int):Int×Int:=bif decide ((planM l kl gap sto).2≠0)then(0,(planM l kl gap sto).2)else x17q l gap lab
theorem x18t{gap fr:Int}:∀{l:List Ps} {k:Nat} (hk:k<l.length),fr<l[k].to+gap->ahM gap fr l<=k
 |x::r,0,_,h=>by
  unfold ahM
  rw[x1pt (show ¬(x.to+gap<=fr) by simp at h;omega)]
  simp
 |x::r,k+1,hk,h=>by
  unfold ahM
  cases decide (x.to+gap<=fr)with
  |true=>simp;exact x18t (by simpa using hk) (by simpa using h)
  |false=>simp
theorem l_labels(d:Nat)(hs:FHs)(u:Nat){pa li la:AV}{gap sto:Int}{l:List Ps}{kl:List Lk}{lab:List Int}(h:Sl Ps.c pa l)(h2:Sl Lk.c li kl)(h3:Ints la lab)(hl:l.length<=1000)(hlen:lab.length=l.length+1)(hg1:0<=gap/\gap<=1000000)(hto:∀x∈l,0<=x.to/\x.to<=1000000000)(hva:∀x∈l,0<=x.va/\x.va<=1000000)(hft:∀x∈l,x.fr<x.to){id id2:Id} :
 ∀(suf:List Int) (k j:Nat) (m:Mem) (fc:Nat),lab.drop k=suf->suf.length<j->(∀i,i<k->0<=at0 lab i/\at0 lab i<=1000000000)->m.get id=some (.row [pa,li,I gap,I sto] 0 false)->m.get id2=some (.row [pa,li,I gap,I sto] 0 false) ->
 ∃m',x1u (x15i (d+1)) hs u j la (.ptr id 0 0) (.ptr id2 0 0) la (I lab.length) (I k) m fc=some (.tup [I (lbGo l gap lab k suf).1,I (lbGo l gap lab k suf).2],m'):=by
 intro suf
 induction suf with
 |nil=>
  intro k j m fc hd hj hall hm hm2
  obtain⟨j,rfl⟩:∃i,j=i+1:=⟨j-1,by simp at hj;omega⟩
  have hk0:=x1oi.mp hd
  have hk:¬((k:Int)<(lab.length:Int)):=by omega
  have ix1:=h3.ix x16u (k:=lab.length-1) (by omega)
  have ix0:=h3.ix x16u (k:=0) (by omega)
  have ld1:=λm=>x18r (m:=m) (l:=lab) (k:=lab.length-1) (by omega)
  have ld0:=λm=>x18r (m:=m) (l:=lab) (k:=0) (by omega)
  have e1:(((lab.length-1:Nat)):Int)=(lab.length:Int)-1:=by omega
  rw[e1]at ix1
  have ew:w64 ((lab.length:Int)-1)=(lab.length:Int)-1:=x15x (by omega) (by omega)
  have b1:=hall (lab.length-1) (by omega)
  have b0:=hall 0 (by omega)
  have ew2:w64 (at0 lab (lab.length-1)-at0 lab 0)=at0 lab (lab.length-1)-at0 lab 0:=x15x (by omega) (by omega)
  simp only[x1u]
  unfold x84 xak
  simp only[x171,hk,x1oz,x17t,h3.len x17v,x162,x19i,ew,ix1,ld1,lbGo]
  have ix0':sIx 1 la (I 0)=some (.plit ((lab.drop 0).flatMap intE)):=ix0
  simp only[ix0',ld0,x162,x19i,ew2]
  exact⟨_,rfl⟩
 |cons e r ih=>
  intro k j m fc hd hj hall hm hm2
  obtain⟨j,rfl⟩:∃i,j=i+1:=⟨j-1,by simp at hj;omega⟩
  obtain⟨hk,he,hd1⟩:=x16s hd
  have hk':(k:Int)<(lab.length:Int):=by omega
  have ix:=h3.ix x16u hk
  have ld:=λm=>x18r (m:=m) (l:=lab) hk
  have ea:at0 lab k=e:=by simp[at0,hk,he]
  rw[ea]at ld
  simp only[x1u]
  unfold x84
  simp only[x171,hk',x1p4,x184,x162,ix,ld,x1cf,lbGo]
  cases hw:wi e 0 1000000000 with
  |false=>simp
  |true=>
  have hin:0<=e/\e<=1000000000:=by
   simp only[wi,x1o1,x1oy]at hw;omega
  have hwk:w64 ((k:Int)+1)=(k:Int)+1:=x15x (by omega) (by omega)
  have next:∀m fc,m.get id=some (.row [pa,li,I gap,I sto] 0 false)->m.get id2=some (.row [pa,li,I gap,I sto] 0 false)->∃m',x1u (x15i (d+1)) hs u j la (.ptr id 0 0) (.ptr id2 0 0) la (I lab.length) (I ((k:Int)+1)) m fc=some (.tup [I (lbGo l gap lab (k+1) r).1,I (lbGo l gap lab (k+1) r).2],m'):=λm fc hm hm2=>
   ih (k+1) j m fc hd1 (by simp at hj;omega) (λi hi=>by
    rcases Nat.lt_or_eq_of_le (Nat.le_of_lt_succ hi)with h4|rfl
    .exact hall i h4
    .rw[ea];exact hin) hm hm2
  rcases k with _|k
  .simp[x17a]
   obtain⟨m',h'⟩:=next m (fc+43) hm hm2
   exact⟨m',by simpa using h'⟩
  .have hk1:k<lab.length:=by omega
   have hkl:k<l.length:=by omega
   have ix1:=h3.ix x16u hk1
   have ld1:=λm=>x18r (m:=m) (l:=lab) hk1
   have ixi:=h.ix Ps.len hkl
   have fai:sFA 3 (.plit ((l.drop k).flatMap Ps.c))=some (.plit (((l.drop k).flatMap Ps.c).drop 3)):=rfl
   have ldi:∀m,sLd false 1 (.plit (((l.drop k).flatMap Ps.c).drop 3)) m=some (I l[k].va):=λm=>by
    rw[x16e hkl,x1o5];rfl
   have hs1:w64 (k:Int)=k:=x15x (by omega) (by omega)
   have hs2:w64 ((k:Int)+1+1)=(k:Int)+1+1:=x15x (by omega) (by omega)
   have hah:=x1cg d (sto:=sto) (gap:=gap) h h2 hl hkl hg1 hto
   obtain⟨a,hae⟩:∃a,ahM gap l[k].fr l=a:=⟨_,rfl⟩
   have hale:a<=l.length:=hae▸ahM_le _ _ _
   have ixa:=h3.ix x16u (k:=a) (by omega)
   have lda:=λm=>x18r (m:=m) (l:=lab) (k:=a) (by omega)
   rw[hae]at hah
   have hb1:=hva l[k] (x1od hkl)
   have hq:a<k+1:=by
    have:=hft l[k] (x1od hkl)
    have:=x18t (gap:=gap) (fr:=l[k].fr) hkl (by omega)
    omega
   have hba:=hall a hq
   have hww:w64 (l[k].va+at0 lab a)=l[k].va+at0 lab a:=x15x (by omega) (by omega)
   by_cases ho:e<at0 lab k
   .simp[hs1,ix1,ld1,ho,x17a,h.clean1,h2.clean1,cAp,tR]
   .by_cases hc:e<l[k].va+at0 lab a
    .simp[hs1,ix1,ld1,ho,x17a,hm,hm2,ixi,fai,ldi,hah,hae,ixa,lda,hww,hc,x16w hkl,h.one,h2.one,h.clean1,h2.clean1,cAp,tR]
    .simp[hs1,ix1,ld1,ho,x17a,hm,hm2,ixi,fai,ldi,hah,hae,ixa,lda,hww,hc,x16w hkl,h.one,h2.one,h.clean1,h2.clean1,cAp,tR]
     obtain⟨m',h'⟩:=next m (fc+43) hm hm2
     exact⟨m',by rw[hs2];simpa using h'⟩
theorem x1i3(d:Nat){pa li la:AV}{gap sto:Int}{l:List Ps}{kl:List Lk}{lab:List Int}(h:Sl Ps.c pa l)(h2:Sl Lk.c li kl)(h3:Ints la lab)(hn:∀x∈l,x.nm.size<=1000)(hl0:l.length<=1000)(m:Mem) :
 x15e (x15i (d+6)) x1d [.agg [pa,li,I gap,I sto],la] m=some (.tup [I (labM l kl gap sto lab).1,I (labM l kl gap sto lab).2],m):=by
 obtain⟨m',h'⟩:∃m',x15i (d+6) [] x1d [.agg [pa,li,I gap,I sto],la] mem0=some (.tup [I (labM l kl gap sto lab).1,I (labM l kl gap sto lab).2],m'):=by
  rw[xy3]
  unfold x9f x85 labM
  simp only[mem0,x17f,x17l,x1oc,x1ox,h.one,h2.one,x17m,x1ou,x1oo,x16o,x19j,x1bi]
  by_cases hz:(planM l kl gap sto).2=0
  .have R:=x1dy hz
   have hlen:=R.len
   have hw:w64 ((l.length:Int)+1)=(l.length:Int)+1:=x15x (by omega) (by omega)
   simp[x1aq d (gap:=gap) (sto:=sto) h h2 hn,h.one,h2.one,hz,h3.len x17v,h.len x16n,hw,x17q]
   by_cases hq:lab.length=l.length+1
   .generalize hm1:Mem.set _ _ _=m1
    have hg1:m1.get (0,8,6)=some (.row [pa,li,I gap,I sto] 0 false):=by rw[<-hm1,Mem.get_set_same]
    have hg0:m1.get (0,0,2)=some (.row [pa,li,I gap,I sto] 0 false):=by rw[<-hm1,Mem.get_set_ne (by simp),Mem.get_new_ne (by simp),Mem.get_new_same]
    obtain⟨m',h'⟩:=l_labels (d+4) [] 0 (sto:=sto) (gap:=gap) h h2 h3 hl0 hq R.gap0 (λx hx=>(R.at hx).2.1) (λx hx=>(R.at hx).2.2.1) (λx hx=>(R.at hx).2.2.2.2) lab 0 NN m1 25 rfl (by rw[x16v];omega) (λi hi=>by omega) hg0 hg1
    unfold xal
    simp[hq,h3.len x17v]
    rw[hq]at h'
    simp at h'
    exact⟨m',h'⟩
   .simp[hq,show ¬((lab.length:Int)=(l.length:Int)+1) by omega]
  .simp[x1aq d (gap:=gap) (sto:=sto) h h2 hn,h.one,h2.one,hz]
 exact call0_tup (by simp[h.still1,h2.still1,h3.still]) h' rfl
theorem Edge.still(e:Edge):e.c.all still1=true:=rfl
theorem x1dz(d:Nat){a:AV}{l:List Int}(h:Ints a l)(hl:l.length<=1000000)(m:Mem):∃a',Ints a' l/\x15e (x15i (d+1)) x11 [a] m=some (a',m):=by
 have hr:x15z l.length 8:=by unfold x15z;omega
 have he:=h.elems x16u
 by_cases h0:l=[]
 .subst h0
  refine⟨.slit [] 0 true,Sl.lit [] true,call0 (m':=⟨[],1⟩) (by simp[h.still]) ?_ rfl⟩
  rw[xjj]
  unfold x47 x3t
  have hr0:x15z 0 8:=by unfold x15z;omega
  simp[mem0,he,x1cd hr0]
 .have hq:l.length≠0:=by simpa using h0
  have hlen:=x18c x16u l
  refine⟨.slit (l.flatMap intE) l.length false,Sl.lit l false,x1g9 (m':=(⟨[],1⟩:Mem).new (0,3,5) (.row (l.flatMap intE) 0 false)) (r:=.sref (0,3,5) 0 0 l.length 1 true) (by simp[h.still]) ?_ ?_⟩
  .rw[xjj]
   unfold x47 x3t
   simp[mem0,he,x1cd hr,hq,h0]
  .have:=x1bf (objs:=((⟨[],1⟩:Mem).new (0,3,5) (.row (l.flatMap intE) 0 false)).get) (id:=(0,3,5)) (cs:=l.flatMap intE) (ver:=0) (off:=0) (n:=l.length) (z:=1) (k:=4) (f:=false) (x:=true) (by simp) (by omega) (by
    rw[x1oh,x1os (by omega)];exact x1ap x1dv l)
   rw[x1oh,x1os (by omega)]at this
   exact this
end Go.Ix
