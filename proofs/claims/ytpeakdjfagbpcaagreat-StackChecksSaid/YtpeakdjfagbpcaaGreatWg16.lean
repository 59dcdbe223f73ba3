import Derived.Test.YtpeakdjfagbpcaaGreatWg8
import Derived.Test.YtpeakdjfagbpcaaGreatWg15
import Derived.Test.YtpeakdjfagbpcaaGreatWg0
import Derived.Test.YtpeakdjfagbpcaaGreatWg1
import Derived.Test.YtpeakdjfagbpcaaGreatWg9
set_option linter.unusedSimpArgs false
set_option linter.unusedVariables false
namespace Go.Ix
open Go.Proofs
def Edge.same(a b:Edge):Bool:=decide (a.fr=b.fr)&&(decide (a.to=b.to)&&(decide (a.jump=b.jump)&&decide (a.wt=b.wt)))
theorem Edge.same_iff{a b:Edge}:a.same b=true↔a=b:=by
 cases a;cases b
 simp[Edge.same]
theorem Edge.still1(e:Edge):e.c.all Go.Ix.still1=true:=rfl
noncomputable def openM(l:List Scene)(P:List Pq)(ph:List Int):List Int:=(freshM P.length).filter fun i=>!decide (at0 (x2ie l P ph) i.toNat=0)
theorem phM{ph:List Int}(h:∀k,k<ph.length->-100000000<=at0 ph k/\at0 ph k<=100000000):∀k,k<ph.length->(at0 ph k).natAbs<=100000000:=fun k hk=>by have:=h k hk;omega
theorem len_few{l:List Scene}{P:List Pq}(h:few7 l P=true)(hR:Right7 l P):l.length<=8/\P.length<=14:=by
 have h1:=hR.ll
 have h2:=hR.pl
 unfold few7 at h
 by_cases c1:8<l.length
 .simp[c1,h1]at h
 .by_cases c2:14<P.length
  .simp[c2,h2]at h
  .omega
theorem w_rAlong7(d:Nat){s p f g v:AV}{l:List Scene}{P:List Pq}{ph:List Int}(hs:Sl Scene.c s l)(hp:Sl Pq.c p P)(hf:Ints f ph)(hg1:g.one=true/\still1 g=true/\clean1 g=true)(hv:Ints v (x2jb (fW l P) l.length P))(hR:Right7 l P)(hph:ph.length=P.length){M:Nat}(hM:∀k,k<ph.length->(at0 ph k).natAbs<=M)(hMb:M<=10000000000)(m:Mem) :
 ∃a,Ints a (phiL l.length (potL l P ph))/\x2i8 (x2i6 (d+3)) x3o [.agg [s,p,f,g],v] m=some (a,m):=
 x2k6 (by simp[hs.still1,hp.still1,hf.still1,hg1.2.1,hv.still]) (a_rAlong d hs hp hf hg1 hv hR hph hM hMb) m
theorem a_rMisses(d:Nat){s p f g:AV}{l:List Scene}{P:List Pq}{ph:List Int}(hs:Sl Scene.c s l)(hp:Sl Pq.c p P)(hf:Ints f ph)(hg1:g.one=true/\still1 g=true/\clean1 g=true)(hR:Right7 l P)(hph:ph.length=P.length){M:Nat}(hM:∀k,k<ph.length->(at0 ph k).natAbs<=M)(hMb:M<=10000000000) :
 RetF (fun a=>Ints a (x2ie l P ph)) (x2i6 (d+5) [] x2w [.agg [s,p,f,g]] mem0):=by
 have hll:=hR.ll
 have hpl:=hR.pl
 rw[x1ea]
 unfold xhf xke
 generalize hm1:(⟨[],1⟩:Mem).new (0,0,1) (.row [s,p,f,g] 0 false)=m1
 have g1:m1.get (0,0,1)=some (.row [s,p,f,g] 0 false):=by rw[<-hm1];simp
 obtain⟨a,ha,hlc⟩:=x2zm d hs hp hR m1
 obtain⟨v,hv,hac⟩:=w_rAlong7 (d+1) hs hp hf hg1 ha hR hph hM hMb m1
 simp[mem0,hs.one,hp.one,hf.one,hg1.1,hm1,g1,hlc,hac]
 unfold xe9
 have hnM:l.length*M<=60*10000000000:=Nat.mul_le_mul hll hMb
 refine x2j1 (N:=P.length) (fun n k o m fc=>x4v (x2i6 (d+4)) [] 0 n (.ptr (0,0,1) 0 0) v o (I k) m fc)
  (fun k o m=>m.get (0,0,1)=some (.row [s,p,f,g] 0 false)/\Gr 1 intE 0 50 m o ((x2ie l P ph).take k)) _ ?_ ?_ NN 0 nilS m1 _ (by omega) (by rw[x2in];omega) ⟨g1,by simpa using Gr.nil⟩
 .rintro n k o m fc hk ⟨hg,hG⟩ next
  have hk':(k:Int)<(P.length:Int):=by omega
  have ip:=hp.ix Pq.len hk
  have lp:=fun m=>x2jr (m:=m) (enc:=Pq.c) Pq.len (by omega) hk
  have ixf:=hf.ix x2im (show k<ph.length by omega)
  have ldf:=fun m=>x2j0 (m:=m) (show k<ph.length by omega)
  have hsn:=x2x3 (l:=l) (P:=P) (ph:=ph) hk
  obtain⟨q0,q1,q2⟩:=hR.pr P[k] (List.getElem_mem hk)
  rw[x2m3 hk]at hsn
  generalize P[k]=q at *
  have ia:=hv.ixI x2im (k:=q.a) q0 (by rw[x2kz];omega)
  have ib:=hv.ixI x2im (k:=q.b) (by omega) (by rw[x2kz];omega)
  have la:=fun m=>x2j0 (m:=m) (l:=phiL l.length (potL l P ph)) (k:=q.a.toNat) (by rw[x2kz];omega)
  have lb:=fun m=>x2j0 (m:=m) (l:=phiL l.length (potL l P ph)) (k:=q.b.toNat) (by rw[x2kz];omega)
  rw[x2s1 q0 (by omega)]at la
  rw[x2s1 (by omega) q2]at lb
  have ba:=x2po hR hph hM (v:=q.a) q0 (by omega)
  have bb:=x2po hR hph hM (v:=q.b) (by omega) q2
  have bp:=hM k (by omega)
  simp only[Pq.c]at lp
  simp only[x4v]
  unfold xe8
  simp[hg,hf.len x2il,hph,hk,ip,lp,x2l9]
  generalize hm2:Mem.set _ _ _=m2
  have g8:m2.get (0,fc+11,8)=some (.row [I q.a,I q.b] 0 false):=by rw[<-hm2];simp
  have g1:m2.get (0,0,1)=some (.row [s,p,f,g] 0 false):=by rw[<-hm2];simp[hg]
  have hG1:Gr 1 intE 0 50 m2 o ((x2ie l P ph).take k):=hG.frame fun s=>by rw[<-hm2];simp
  obtain⟨o2,m3,e1,e2,e3,e4⟩:=hG1.app (s0:=fc+32) (bytes:=8) x2im (by omega) (by unfold x2ik;simp[x2lo];omega) (at0 ph k-potL l P ph q.b+potL l P ph q.a)
  simp[g1,g8,hg,ixf,ldf,ia,ib,la,lb,x2jy]
  have hw1:w64 (at0 ph k-potL l P ph q.b)=at0 ph k-potL l P ph q.b:=x2ic (by omega) (by omega)
  rw[hw1,x2ic (by omega) (by omega),x2ic (by omega) (by omega)]
  rw[show ∀x:Int,elems m2.get 1 (.slit [I x] 1 true)=some (intE x,1)from fun _=>rfl,e1]
  exact next o2 m3 _ ⟨by rw[e4 _ (by simp)];exact g1,by rw[hsn];exact e2⟩
 .rintro n o m fc ⟨hg,hG⟩
  rw[List.take_of_length_le (by rw[x2lo];exact Nat.le_refl _)]at hG
  simp only[x4v]
  unfold xe8 x4u
  simp[hg,hf.len x2il,hph]
  obtain⟨a',h1,h2⟩:=hG.frzk (k:=4) x2im x2l8
  exact RetF.mk h2 h1
theorem x2xd(d:Nat){s p f g:AV}{l:List Scene}{P:List Pq}{ph:List Int}(hs:Sl Scene.c s l)(hp:Sl Pq.c p P)(hf:Ints f ph)(hg1:g.one=true/\still1 g=true/\clean1 g=true)(hR:Right7 l P)(hph:ph.length=P.length){M:Nat}(hM:∀k,k<ph.length->(at0 ph k).natAbs<=M)(hMb:M<=10000000000)(m:Mem) :
 ∃a,Ints a (x2ie l P ph)/\x2i8 (x2i6 (d+5)) x2w [.agg [s,p,f,g]] m=some (a,m):=
 x2k6 (by simp[hs.still1,hp.still1,hf.still1,hg1.2.1]) (a_rMisses d hs hp hf hg1 hR hph hM hMb) m
end Go.Ix
