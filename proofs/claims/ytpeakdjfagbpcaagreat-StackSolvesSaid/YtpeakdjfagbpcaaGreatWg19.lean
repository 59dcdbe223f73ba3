import Derived.Test.YtpeakdjfagbpcaaGreatWg18
set_option linter.unusedSimpArgs false
set_option linter.unusedVariables false
namespace Go.Ix
open Go.Proofs
theorem x2qm(d:Nat){s p f g v:AV}{l:List Scene}{P:List Pq}{ph:List Int}(hs:Sl Scene.c s l)(hp:Sl Pq.c p P)(hf:Ints f ph)(hg1:g.one=true/\still1 g=true/\clean1 g=true)(hv:Ints v (x2di (fW l P) l.length P))(hR:Right7 l P)(hph:ph.length=P.length){M:Nat}(hM:∀k,k<ph.length->(at0 ph k).natAbs<=M)(hMb:M<=10000000000)(m:Mem) :
 ∃a,Ints a (phiL l.length (potL l P ph))/\x2cm (x2cl (d+3)) x3e [.agg [s,p,f,g],v] m=some (a,m):=
 x2ei (by simp[hs.still1,hp.still1,hf.still1,hg1.2.1,hv.still]) (a_rAlong d hs hp hf hg1 hv hR hph hM hMb) m
theorem a_rMisses(d:Nat){s p f g:AV}{l:List Scene}{P:List Pq}{ph:List Int}(hs:Sl Scene.c s l)(hp:Sl Pq.c p P)(hf:Ints f ph)(hg1:g.one=true/\still1 g=true/\clean1 g=true)(hR:Right7 l P)(hph:ph.length=P.length){M:Nat}(hM:∀k,k<ph.length->(at0 ph k).natAbs<=M)(hMb:M<=10000000000) :
 RetF (fun a=>Ints a (x2dg l P ph)) (x2cl (d+5) [] x5i [.agg [s,p,f,g]] mem0):=by
 have hll:=hR.ll
 have hpl:=hR.pl
 rw[x1b9]
 unfold xgg xiu
 generalize hm1:(⟨[],1⟩:Mem).new (0,0,1) (.row [s,p,f,g] 0 false)=m1
 have g1:m1.get (0,0,1)=some (.row [s,p,f,g] 0 false):=by rw[<-hm1];simp
 obtain⟨a,ha,hlc⟩:=x2qd d hs hp hR m1
 obtain⟨v,hv,hac⟩:=x2qm (d+1) hs hp hf hg1 ha hR hph hM hMb m1
 simp[mem0,hs.one,hp.one,hf.one,hg1.1,hm1,g1,hlc,hac]
 unfold xdh
 have hnM:l.length*M<=60*10000000000:=Nat.mul_le_mul hll hMb
 refine x2de (N:=P.length) (fun n k o m fc=>x4g (x2cl (d+4)) [] 0 n (.ptr (0,0,1) 0 0) v o (I k) m fc)
  (fun k o m=>m.get (0,0,1)=some (.row [s,p,f,g] 0 false)/\Gr 1 intE 0 50 m o ((x2dg l P ph).take k)) _ ?_ ?_ NN 0 nilS m1 _ (by omega) (by rw[x2cz];omega) ⟨g1,by simpa using Gr.nil⟩
 .rintro n k o m fc hk ⟨hg,hG⟩ next
  have hk':(k:Int)<(P.length:Int):=by omega
  have ip:=hp.ix Pq.len hk
  have lp:=fun m=>x2eg (m:=m) (enc:=Pq.c) Pq.len (by omega) hk
  have ixf:=hf.ix x2cw (show k<ph.length by omega)
  have ldf:=fun m=>x2dc (m:=m) (show k<ph.length by omega)
  have hsn:=x2qg (l:=l) (P:=P) (ph:=ph) hk
  obtain⟨q0,q1,q2⟩:=hR.pr P[k] (List.getElem_mem hk)
  rw[x2lj hk]at hsn
  generalize P[k]=q at *
  have ia:=hv.ixI x2cw (k:=q.a) q0 (by rw[x2dw];omega)
  have ib:=hv.ixI x2cw (k:=q.b) (by omega) (by rw[x2dw];omega)
  have la:=fun m=>x2dc (m:=m) (l:=phiL l.length (potL l P ph)) (k:=q.a.toNat) (by rw[x2dw];omega)
  have lb:=fun m=>x2dc (m:=m) (l:=phiL l.length (potL l P ph)) (k:=q.b.toNat) (by rw[x2dw];omega)
  rw[x2ht q0 (by omega)]at la
  rw[x2ht (by omega) q2]at lb
  have ba:=x2g3 hR hph hM (v:=q.a) q0 (by omega)
  have bb:=x2g3 hR hph hM (v:=q.b) (by omega) q2
  have bp:=hM k (by omega)
  simp only[Pq.c]at lp
  simp only[x4g]
  unfold xdg
  simp[hg,hf.len x2cu,hph,hk,ip,lp,x2fo]
  generalize hm2:Mem.set _ _ _=m2
  have g8:m2.get (0,fc+11,8)=some (.row [I q.a,I q.b] 0 false):=by rw[<-hm2];simp
  have g1:m2.get (0,0,1)=some (.row [s,p,f,g] 0 false):=by rw[<-hm2];simp[hg]
  have hG1:Gr 1 intE 0 50 m2 o ((x2dg l P ph).take k):=hG.frame fun s=>by rw[<-hm2];simp
  obtain⟨o2,m3,e1,e2,e3,e4⟩:=hG1.app (s0:=fc+32) (bytes:=8) x2cw (by omega) (by unfold x2cx;simp[x2hu];omega) (at0 ph k-potL l P ph q.b+potL l P ph q.a)
  simp[g1,g8,hg,ixf,ldf,ia,ib,la,lb,x2e3]
  have hw1:w64 (at0 ph k-potL l P ph q.b)=at0 ph k-potL l P ph q.b:=x2cq (by omega) (by omega)
  rw[hw1,x2cq (by omega) (by omega),x2cq (by omega) (by omega)]
  rw[show ∀x:Int,elems m2.get 1 (.slit [I x] 1 true)=some (intE x,1)from fun _=>rfl,e1]
  exact next o2 m3 _ ⟨by rw[e4 _ (by simp)];exact g1,by rw[hsn];exact e2⟩
 .rintro n o m fc ⟨hg,hG⟩
  rw[List.take_of_length_le (by rw[x2hu];exact Nat.le_refl _)]at hG
  simp only[x4g]
  unfold xdg x4f
  simp[hg,hf.len x2cu,hph]
  obtain⟨a',h1,h2⟩:=hG.frzk (k:=4) x2cw x2fn
  exact RetF.mk h2 h1
theorem w_rMisses(d:Nat){s p f g:AV}{l:List Scene}{P:List Pq}{ph:List Int}(hs:Sl Scene.c s l)(hp:Sl Pq.c p P)(hf:Ints f ph)(hg1:g.one=true/\still1 g=true/\clean1 g=true)(hR:Right7 l P)(hph:ph.length=P.length){M:Nat}(hM:∀k,k<ph.length->(at0 ph k).natAbs<=M)(hMb:M<=10000000000)(m:Mem) :
 ∃a,Ints a (x2dg l P ph)/\x2cm (x2cl (d+5)) x5i [.agg [s,p,f,g]] m=some (a,m):=
 x2ei (by simp[hs.still1,hp.still1,hf.still1,hg1.2.1]) (a_rMisses d hs hp hf hg1 hR hph hM hMb) m
theorem lab_mu{l:List Scene}{P:List Pq}(hR:Right7 l P):∃mu:Nat->Nat,(∀v,mu v<=v)/\(∀v,mu (mu v)=mu v)/\∀v,v<l.length->at0 (labA l P) v=(mu v:Nat):=by
 have hL:=(Lab.fresh l.length).joins hR.pr
 refine⟨fun v=>if v<l.length then(at0 (labA l P) v).toNat else v,fun v=>?_,fun v=>?_,fun v hv=>?_⟩
 .by_cases c:v<l.length
  .have:=hL.ok v c
   simp only[c,if_true]
   unfold labA
   omega
  .simp[c]
 .by_cases c:v<l.length
  .have h1:=hL.ok v c
   unfold labA at *
   simp only[c,if_true]
   have c2:(at0 (joinsM (freshM l.length) P) v).toNat<l.length:=by omega
   simp only[c2,if_true,h1.2.2]
  .simp[c]
 .have:=hL.ok v hv
  simp only[hv,if_true]
  unfold labA
  omega
theorem a_rParts7(d:Nat){s p:AV}{l:List Scene}{P:List Pq}(hs:Sl Scene.c s l)(hp:Sl Pq.c p P)(hR:Right7 l P) :
 RetF (fun a=>Ints a (nmM (labA l P)).1) (x2cl (d+3) [] x5f [.agg [s,p]] mem0):=by
 have hll:=hR.ll
 have hpl:=hR.pl
 have hL:=(Lab.fresh l.length).joins hR.pr
 rw[x1az]
 unfold xg3 xie
 generalize hm1:(⟨[],1⟩:Mem).new (0,0,1) (.row [s,p] 0 false)=m1
 have g1:m1.get (0,0,1)=some (.row [s,p] 0 false):=by rw[<-hm1];simp
 have hal:(allM P.length (-1)).length=P.length:=by rw[all_1];simp[freshM]
 obtain⟨a,ha,hac⟩:=w_all (d+1) ⟨hs.one,hs.still1⟩ hp (by omega) (-1) m1
 obtain⟨u,hu,hjc⟩:=x2q5 (d+1) hs hp ha (all_rng hR (-1)) hll (by omega) m1
 rw[x2ng]at hu
 obtain⟨m',h1,h2,h3⟩:=x2sy (d+1) hu hL.len (by omega) (fun v hv=>⟨(hL.ok v hv).1,(hL.ok v hv).2.1⟩)
 have hnc:∃b,Ints b (nmM (joinsM (freshM l.length) P)).1/\x2cm (x2cl (d+2)) x5k [u] m1=some (b,m1):=by
  refine x2ei (T:=fun a=>Ints a (nmM (joinsM (freshM l.length) P)).1) (by simp[hu.still]) ?_ m1
  rw[h1]
  obtain⟨b,hb,hfb⟩:=x2ll (k:=4) h2
  rw[h3]at hfb
  exact RetF.mk hfb hb
 obtain⟨b,hb,hbc⟩:=hnc
 simp[mem0,hs.one,hp.one,hm1,g1,hac,hjc,hbc,hs.clean1,hp.clean1,cAp,tR]
 exact RetF.st hb.still hb
theorem w_rParts7(d:Nat){s p:AV}{l:List Scene}{P:List Pq}(hs:Sl Scene.c s l)(hp:Sl Pq.c p P)(hR:Right7 l P)(m:Mem) :
 ∃a,Ints a (nmM (labA l P)).1/\x2cm (x2cl (d+3)) x5f [.agg [s,p]] m=some (a,m):=
 x2ei (by simp[hs.still1,hp.still1]) (a_rParts7 d hs hp hR) m
theorem nm_iff{l:List Scene}{P:List Pq}(hR:Right7 l P){i j:Nat}(hi:i<l.length)(hj:j<l.length):(nmM (labA l P)).1.length=l.length/\(at0 (nmM (labA l P)).1 i=at0 (nmM (labA l P)).1 j↔at0 (labA l P) i=at0 (labA l P) j):=by
 obtain⟨mu,h1,h2,h3⟩:=lab_mu hR
 have hL:=((Lab.fresh l.length).joins hR.pr).len
 obtain⟨a,-,c⟩:=nb_can h1 h2 (ls:=labA l P) (n:=l.length) hL h3
 refine⟨a,(c i j hi hj).trans ?_⟩
 rw[h3 i hi,h3 j hj]
 omega
theorem a_rSolved(d:Nat){s p f g:AV}{l:List Scene}{P:List Pq}{ph:List Int}(hs:Sl Scene.c s l)(hp:Sl Pq.c p P)(hf:Ints f ph)(hg1:g.one=true/\still1 g=true/\clean1 g=true)(hR:Right7 l P)(hph:ph.length=P.length){M:Nat}(hM:∀k,k<ph.length->(at0 ph k).natAbs<=M)(hMb:M<=10000000000){D:Int}(hD:0<=D/\D<l.length) :
 RetF (fun v=>∃a b,v=.tup [a,b]/\Ints a (bif decide (0<(x2e4 l P ph).length)then[]else solM l P ph D)/\Ints b (x2e4 l P ph)) (x2cl (d+6) [] x5d [.agg [s,p,f,g],I D] mem0):=by
 have hll:=hR.ll
 have hpl:=hR.pl
 rw[x1ar]
 unfold xfu xhv
 generalize hm1:(⟨[],1⟩:Mem).new (0,0,2) (.row [s,p,f,g] 0 false)=m1
 have g2:m1.get (0,0,2)=some (.row [s,p,f,g] 0 false):=by rw[<-hm1];simp
 have n1:m1.next=1:=by rw[<-hm1];rfl
 obtain⟨ms,hms,hmc⟩:=w_rMisses d hs hp hf hg1 hR hph hM hMb m1
 have hml:=x2hu l P ph
 simp[mem0,hs.one,hp.one,hf.one,hg1.1,hm1,g2,hmc]
 unfold xcg
 refine x2de (N:=P.length) (fun n k b m fc=>x3w (x2cl (d+5)) [] 0 n (I D) (.ptr (0,0,2) 0 0) ms b (I k) m fc)
  (fun k b m=>(m.get (0,0,2)=some (.row [s,p,f,g] 0 false)/\m.next=1)/\Gr 1 intE 0 31 m b (((freshM P.length).take k).filter fun i=>!decide (at0 (x2dg l P ph) i.toNat=0))) _ ?_ ?_ NN 0 nilS m1 _ (by omega) (by rw[x2cz];omega) ⟨⟨g2,n1⟩,by simpa using Gr.nil⟩
 .rintro n k b m fc hk ⟨⟨g2,n1⟩,hG⟩ next
  have hk':(k:Int)<((x2dg l P ph).length:Int):=by omega
  have ix:=hms.ix x2cw (show k<(x2dg l P ph).length by omega)
  have ld:=fun m=>x2dc (m:=m) (show k<(x2dg l P ph).length by omega)
  have hsn:=x2qk (l:=l) (ph:=ph) hk
  have hfl:=x2ql (N:=P.length) (k:=k) fun i=>!decide (at0 (x2dg l P ph) i.toNat=0)
  simp only[x3w]
  unfold xcf xce
  by_cases c:at0 (x2dg l P ph) k=0
  .rw[if_pos c,List.append_nil]at hsn
   simp only[hms.len x2cu,x2db,hk',decide_true,x2d9,x2cs,ix,ld,sNe_I,c,Bool.not_true,x2fd]
   unfold x7b
   simp(disch:=omega) [x2cq]
   exact next b m _ ⟨⟨g2,n1⟩,by rw[hsn];exact hG⟩
  .rw[if_neg c]at hsn
   obtain⟨b2,m2,e1,e2,e3,e4⟩:=hG.app (s0:=fc+4+8) (bytes:=8) x2cw (by omega) (by unfold x2cx;omega) (k:Int)
   simp only[hms.len x2cu,x2db,hk',decide_true,x2d9,x2cs,ix,ld]
   simp[c,x2e3]
   rw[show ∀x:Int,elems m.get 1 (.slit [I x] 1 true)=some (intE x,1)from fun _=>rfl,e1]
   unfold x7b
   simp(disch:=omega) [x2cq]
   exact next b2 m2 _ ⟨⟨by rw[e4 _ (by simp)];exact g2,by omega⟩,by rw[hsn];exact e2⟩
 .rintro n b m fc ⟨⟨g2,n1⟩,hG⟩
  rw[List.take_of_length_le (by simp[freshM])]at hG
  have hG':Gr 1 intE 0 31 m b (x2e4 l P ph):=hG
  have hkn:¬(P.length:Int)<(P.length:Int):=by omega
  simp only[x3w]
  unfold xcf x1n
  simp only[hms.len x2cu,hml,x2db,hkn,decide_false,x2fd,x2cs,hG'.len x2cu,x2hh]
  by_cases c2:0<(x2e4 l P ph).length
  .simp[c2]
   obtain⟨b',hb',hfb⟩:=hG'.frzk (k:=3) x2cw x2fn
   exact RetF.mk (x2mr rfl hfb) ⟨nilS,b',rfl,Or.inl ⟨rfl,rfl⟩,hb'⟩
  .have hO:x2e4 l P ph=[]:=List.length_eq_zero_iff.mp (by omega)
   obtain⟨a,ha,hlc⟩:=x2qd (d+1) hs hp hR m
   obtain⟨v,hv,hac⟩:=x2qm (d+2) hs hp hf hg1 ha hR hph hM hMb m
   obtain⟨q,hq,hpc⟩:=w_rParts7 (d+2) hs hp hR m
   have hql:=(nm_iff hR (i:=D.toNat) (j:=D.toNat) (by omega) (by omega)).1
   simp[c2,g2,hlc,hac,hpc,hs.clean1,hp.clean1,hf.clean1,hg1.2.2,ha.clean,cAp,tR,n1,Nat.blt]
   unfold xcd
   have hnM:l.length*M<=60*10000000000:=Nat.mul_le_mul hll hMb
   refine x2de (N:=l.length) (fun n k o m fc=>x3v (x2cl (d+5)) [] 0 n (I D) v q o (I k) m fc)
    (fun k o m=>Gk 1 intE (fun id=>id.1=0/\(id.2.2=74\/id.2.2=77)) m o ((solM l P ph D).take k)) _ ?_ ?_ NN 0 nilS m _ (by omega) (by rw[x2cz];omega) (by simpa using Gk.nil)
   .rintro n k o m fc hk hG next
    have hk':(k:Int)<(l.length:Int):=by omega
    have ixv:=hv.ix x2cw (show k<(phiL l.length (potL l P ph)).length by rw[x2dw];omega)
    have ldv:=fun m=>x2dc (m:=m) (show k<(phiL l.length (potL l P ph)).length by rw[x2dw];omega)
    have ixd:=hv.ixI x2cw (k:=D) hD.1 (by rw[x2dw];omega)
    have ldd:=fun m=>x2dc (m:=m) (show D.toNat<(phiL l.length (potL l P ph)).length by rw[x2dw];omega)
    have ixu:=hq.ix x2cw (show k<(nmM (labA l P)).1.length by omega)
    have ldu:=fun m=>x2dc (m:=m) (show k<(nmM (labA l P)).1.length by omega)
    have ixe:=hq.ixI x2cw (k:=D) hD.1 (by omega)
    have lde:=fun m=>x2dc (m:=m) (show D.toNat<(nmM (labA l P)).1.length by omega)
    have gk:=x2ht (n:=l.length) (φ:=potL l P ph) (v:=(k:Int)) (by omega) hk'
    rw[Int.toNat_natCast]at gk
    rw[gk]at ldv
    rw[x2ht hD.1 hD.2]at ldd
    have bk:=x2g3 hR hph hM (v:=(k:Int)) (by omega) hk'
    have bd:=x2g3 hR hph hM (v:=D) hD.1 hD.2
    have hsn:=x2qj (P:=P) (ph:=ph) (D:=D) hk
    have hol:((solM l P ph D).take k).length<=60:=by simp[x2gi];omega
    have hiff:=(nm_iff hR (i:=k) (j:=D.toNat) hk (by omega)).2
    simp only[x3v]
    unfold xcc xcb
    simp only[hv.len x2cu,x2dw,x2db,hk',decide_true,x2d9,x2cs,ixv,ldv,ixu,ldu,ixe,lde,sEq_I]
    by_cases c:at0 (nmM (labA l P)).1 k=at0 (nmM (labA l P)).1 D.toNat
    .have hx:solX l P ph D k=potL l P ph k-potL l P ph D:=by unfold solX;rw[Int.toNat_natCast,if_pos (hiff.mp c)]
     rw[hx]at hsn
     obtain⟨o2,m2,e1,e2,-,-,e3,-⟩:=hG.app (bytes:=8) (id0:=(0,fc+4+20,74)) x2cw (by omega) ⟨rfl,.inl rfl⟩ (by unfold x2cx;omega) (potL l P ph k-potL l P ph D)
     simp only[c,decide_true,x2d9,ixd,ldd,x2cs,x2hg,x2e3]
     rw[x2cq (by omega) (by omega)]
     simp only[x2ke]
     rw[show ∀x:Int,elems m.get 1 (.slit [I x] 1 true)=some (intE x,1)from fun _=>rfl,e1]
     unfold x7a
     simp(disch:=omega) [x2cq]
     exact next o2 m2 _ (by rw[hsn];exact e2)
    .have hx:solX l P ph D k=1000000000000:=by unfold solX;rw[Int.toNat_natCast,if_neg fun e=>c (hiff.mpr e)]
     rw[hx]at hsn
     obtain⟨o2,m2,e1,e2,-,-,e3,-⟩:=hG.app (bytes:=8) (id0:=(0,fc+4+11,77)) x2cw (by omega) ⟨rfl,.inr rfl⟩ (by unfold x2cx;omega) (1000000000000:Int)
     simp only[c,decide_false,x2fd,x2e3,x2ke]
     rw[show ∀x:Int,elems m.get 1 (.slit [I x] 1 true)=some (intE x,1)from fun _=>rfl,e1]
     unfold x7a
     simp(disch:=omega) [x2cq]
     exact next o2 m2 _ (by rw[hsn];exact e2)
   .rintro n o m fc hG
    rw[List.take_of_length_le (by rw[x2gi];exact Nat.le_refl _)]at hG
    simp only[x3v]
    unfold xcc x1m
    simp[hv.len x2cu,x2dw]
    obtain⟨a',ha',hfa⟩:=hG.sl1 3
    exact RetF.mk (x2mr hfa rfl) ⟨a',nilS,rfl,ha',Or.inl ⟨rfl,hO⟩⟩
theorem w_Solved(d:Nat){s p f g:AV}{l:List Scene}{P:List Pq}{ph wt:List Int}(hs:Sl Scene.c s l)(hp:Sl Pq.c p P)(hf:Ints f ph)(hg:Ints g wt)(h1:ph.length<1000000)(h2:wt.length<1000000)(hfw:few7 l P=true)(D:Int)(m:Mem) :
 ∃a b,Ints a (x2f5 l P ph wt D)/\Ints b (x2f6 l P ph wt D)/\x2cm (x2cl (d+14)) x36 [.agg [s,p,f,g],I D] m=some (.tup [a,b,I (x2ea l P ph wt D)],m):=by
 obtain⟨v,⟨a,b,rfl,e1,e2⟩,hc⟩:=x2ei (by simp[hs.still1,hp.still1,hf.still1,hg.still1]) (a_Solved d hs hp hf hg h1 h2 hfw D) m
 exact⟨a,b,e1,e2,hc⟩
theorem w_rSolved(d:Nat){s p f g:AV}{l:List Scene}{P:List Pq}{ph:List Int}(hs:Sl Scene.c s l)(hp:Sl Pq.c p P)(hf:Ints f ph)(hg1:g.one=true/\still1 g=true/\clean1 g=true)(hR:Right7 l P)(hph:ph.length=P.length){M:Nat}(hM:∀k,k<ph.length->(at0 ph k).natAbs<=M)(hMb:M<=10000000000){D:Int}(hD:0<=D/\D<l.length)(m:Mem) :
 ∃a b,Ints a (bif decide (0<(x2e4 l P ph).length)then[]else solM l P ph D)/\Ints b (x2e4 l P ph)/\x2cm (x2cl (d+6)) x5d [.agg [s,p,f,g],I D] m=some (.tup [a,b],m):=by
 obtain⟨v,⟨a,b,rfl,e1,e2⟩,hc⟩:=x2ei (by simp[hs.still1,hp.still1,hf.still1,hg1.2.1]) (a_rSolved d hs hp hf hg1 hR hph hM hMb hD) m
 exact⟨a,b,e1,e2,hc⟩
theorem sol_get{l:List Scene}{P:List Pq}{ph:List Int}{D v:Int}(h0:0<=v)(h1:v<l.length):at0 (solM l P ph D) v.toNat=solX l P ph D v:=by
 rw[x2d4 (by rw[x2gi];omega)]
 simp[solM,freshM]
 rw[Int.max_eq_left h0]
theorem x2qn(x y:Operand)(a b:Bool):sBin Tryz.prog .neq x77 x y (B a) (B b)=some (B (!decide (a=b))):=by
 cases a<;>cases b<;>kernel_rfl
theorem sol_pair{l:List Scene}{P:List Pq}{ph:List Int}(hR:Right7 l P)(hph:ph.length=P.length)(hM:∀k,k<ph.length->(at0 ph k).natAbs<=100000000)(hl:l.length<=8)(hO:x2e4 l P ph=[]){D:Int}(hD:0<=D/\D<l.length){k:Nat}(hk:k<P.length){q:Pq}(hq:P[k]=q) :
 (solX l P ph D q.a=1000000000000↔solX l P ph D q.b=1000000000000)/\(solX l P ph D q.a≠1000000000000->-2000000000<=solX l P ph D q.a/\solX l P ph D q.a<=2000000000/\solX l P ph D q.b-solX l P ph D q.a=at0 ph k):=by
 have hin:=hR.pr P[k] (List.getElem_mem hk)
 rw[hq]at hin
 obtain⟨q0,q1,q2⟩:=hin
 have he:=x2h4 (Lab.fresh l.length) hR.pr P[k] (List.getElem_mem hk)
 rw[hq]at he
 unfold Sm at he
 have hm:at0 (x2dg l P ph) k=0:=by
  apply Classical.byContradiction
  intro hc
  have:(k:Int)∈x2e4 l P ph:=List.mem_filter.mpr ⟨fresh_mem.mpr ⟨by omega,by omega⟩,by simpa using hc⟩
  rw[hO]at this
  cases this
 rw[x2qf hk,x2lj hk,hq]at hm
 have ba:=x2g3 hR hph hM (v:=q.a) q0 (by omega)
 have bb:=x2g3 hR hph hM (v:=q.b) (by omega) q2
 have bd:=x2g3 hR hph hM (v:=D) hD.1 hD.2
 have hnM:l.length*100000000<=8*100000000:=Nat.mul_le_mul hl (Nat.le_refl _)
 unfold solX labA
 rw[he]
 by_cases c:at0 (joinsM (freshM l.length) P) q.b.toNat=at0 (joinsM (freshM l.length) P) D.toNat
 .rw[if_pos c,if_pos c]
  exact⟨by omega,fun _=>⟨by omega,by omega,by omega⟩⟩
 .rw[if_neg c,if_neg c]
  exact⟨Iff.rfl,fun h=>absurd rfl h⟩
theorem law_StackSolves{s p f g:AV}{l:List Scene}{P:List Pq}{ph wt:List Int}(hs:Sl Scene.c s l)(hp:Sl Pq.c p P)(hf:Ints f ph)(hg:Ints g wt)(D:Int):∃m',x2cl 31 [] x86 [.agg [s,p,f,g],I D] mem0=some (B true,m'):=by
 rw[x1al]
 unfold xfn xhn
 generalize hm1:(⟨[],1⟩:Mem).new (0,0,2) (.row [s,p,f,g] 0 false)=m1
 have g2:m1.get (0,0,2)=some (.row [s,p,f,g] 0 false):=by rw[<-hm1];simp
 obtain⟨bl,hbl,hlc⟩:=w_light7 24 hs hp hf hg m1
 simp[mem0,hs.one,hp.one,hf.one,hg.one,hm1,w_awake7,g2,hlc]
 cases bl with
 |false=>simp
 |true=>
  have hL:=hbl rfl
  have ha:=hL.a
  have hb:=hL.b
  obtain⟨l1,l2⟩:=few7_len hL.few
  obtain⟨s',p',f',g',hs',hp',hf',hg',hcp⟩:=w_Copy7 28 hs hp hf hg (by omega) (by omega) (by omega) (by omega) m1
  obtain⟨a,b,hA,hB,hsc⟩:=w_Solved 16 hs' hp' hf' hg' (by omega) (by omega) hL.few D m1
  have hct:=x2qh 25 hs hp hf hg (by omega) (by omega) m1
  simp[g2,hcp,hsc,hct]
  unfold xbz
  by_cases hE:taskE l P ph wt=0
  rotate_left
  .have e1:x2ea l P ph wt D=taskE l P ph wt:=by unfold x2ea;simp[hE]
   have e2:x2f5 l P ph wt D=[]:=by unfold x2f5;rw[e1];simp[hE]
   have e3:x2f6 l P ph wt D=[]:=by unfold x2f6;simp[hE]
   rw[e2]at hA
   rw[e3]at hB
   simp[hE]
   unfold x5w
   simp[hE,e1,hA.len x2cu,hB.len x2cu]
  have hT:=x2nh hE
  have hR:=hT.r
  obtain⟨hl8,hP14⟩:=len_few hL.few hR
  simp[hE,g2,hs.len x2dr]
  rw[x2cq (by omega) (by omega)]
  simp[x2ib]
  cases c1:wi D 0 ((l.length:Int)-1)with
  |false=>
   have e1:x2ea l P ph wt D=6:=by unfold x2ea;simp[hE,c1]
   have e2:x2f5 l P ph wt D=[]:=by unfold x2f5;simp[e1]
   have e3:x2f6 l P ph wt D=[]:=by unfold x2f6;simp[c1]
   rw[e2]at hA
   rw[e3]at hB
   simp
   unfold x5w
   simp[e1,hA.len x2cu,hB.len x2cu]
  |true=>
   obtain⟨d0,d1⟩:=wi_t c1
   have e3:x2f6 l P ph wt D=x2e4 l P ph:=by unfold x2f6;simp[hE,c1]
   rw[e3]at hB
   obtain⟨a2,b2,hA2,hB2,hrc⟩:=w_rSolved 24 hs hp hf ⟨hg.one,hg.still1,hg.clean1⟩ hR hT.lp (phM hT.hp) (by omega) (D:=D) ⟨d0,by omega⟩ m1
   have hol:(x2e4 l P ph).length<=P.length:=by
    unfold x2e4
    have h1:=List.length_filter_le (fun i:Int=>!decide (at0 (x2dg l P ph) i.toNat=0)) (freshM P.length)
    have h2:(freshM P.length).length=P.length:=by simp[freshM]
    omega
   simp
   unfold x5w
   simp[g2,hrc,hB2.len x2cu]
   by_cases c2:0<(x2e4 l P ph).length
   .have e1:x2ea l P ph wt D=26:=by unfold x2ea;simp[hE,c1,c2]
    have e2:x2f5 l P ph wt D=[]:=by unfold x2f5;simp[e1]
    rw[e2]at hA
    simp[c2,e1,hA.len x2cu,w_Ints 29 hB hB2 (by omega)]
   .have hO:x2e4 l P ph=[]:=List.length_eq_zero_iff.mp (by omega)
    have e1:x2ea l P ph wt D=0:=by unfold x2ea;simp[hE,c1,c2]
    have e2:x2f5 l P ph wt D=solM l P ph D:=by unfold x2f5;simp[e1]
    have e4:(bif decide (0<(x2e4 l P ph).length)then[]else solM l P ph D)=solM l P ph D:=by simp[c2]
    rw[e2]at hA
    rw[e4]at hA2
    rw[hO]at hB
    simp[c2,e1,w_Ints 29 hA hA2 (by rw[x2gi];omega),hB.len x2cu]
    unfold xby
    refine x2de (N:=P.length) (σ:=Unit) (fun n k _ m fc=>x3m (x2cl 30) [] 0 n (.ptr (0,0,2) 0 0) a (I k) m fc) (fun _ _ m=>m=m1) (fun r=>∃m',r=some (B true,m')) ?_ ?_ NN 0 () m1 _ (by omega) (by rw[x2cz];omega) rfl
    .rintro n k-m fc hk rfl next
     have hk':(k:Int)<(P.length:Int):=by omega
     have ip:=hp.ix Pq.len hk
     have q0:=fun m=>x2h1 (m:=m) (enc:=Pq.c) hk 0 rfl
     have q1:=fun m=>x2h1 (m:=m) (enc:=Pq.c) hk 1 rfl
     simp only[List.drop_zero]at q0
     simp only[List.drop_one]at q1
     obtain⟨r0,r1,r2⟩:=hR.pr P[k] (List.getElem_mem hk)
     obtain⟨s1,s2⟩:=sol_pair hR hT.lp (phM hT.hp) hl8 hO (D:=D) ⟨d0,by omega⟩ hk rfl
     have ixf:=hf.ix x2cw (show k<ph.length by rw[hT.lp];omega)
     have ldf:=fun m=>x2dc (m:=m) (show k<ph.length by rw[hT.lp];omega)
     have hphk:=hT.hp k (by rw[hT.lp];omega)
     generalize P[k]=q at *
     have ia:=hA.ixI x2cw (k:=q.a) r0 (by rw[x2gi];omega)
     have ib:=hA.ixI x2cw (k:=q.b) (by omega) (by rw[x2gi];omega)
     have la:=fun m=>x2dc (m:=m) (l:=solM l P ph D) (k:=q.a.toNat) (by rw[x2gi];omega)
     have lb:=fun m=>x2dc (m:=m) (l:=solM l P ph D) (k:=q.b.toNat) (by rw[x2gi];omega)
     rw[sol_get r0 (by omega)]at la
     rw[sol_get (by omega) r2]at lb
     generalize solX l P ph D q.a=xa at *
     generalize solX l P ph D q.b=xb at *
     simp only[x3m]
     unfold xbx
     by_cases c:xa=1000000000000
     .have cb:=s1.mp c
      simp[g2,hf.len x2cu,hT.lp,hk,ip,q0,q1,ia,ib,la,lb,c,cb,x2qn]
      rw[x2cq (by omega) (by omega)]
      exact next () m _ rfl
     .have cb:¬xb=1000000000000:=fun e=>c (s1.mpr e)
      obtain⟨t1,t2,t3⟩:=s2 c
      simp[g2,hf.len x2cu,hT.lp,hk,ip,q0,q1,ia,ib,la,lb,c,cb,x2qn,ixf,ldf]
      rw[x2cq (by omega) (by omega),x2cq (by omega) (by omega)]
      simp[t3]
      exact next () m _ rfl
    .rintro n-m fc rfl
     simp only[x3m]
     unfold xbx x3l
     simp[g2,hf.len x2cu,hT.lp]
end Go.Ix
