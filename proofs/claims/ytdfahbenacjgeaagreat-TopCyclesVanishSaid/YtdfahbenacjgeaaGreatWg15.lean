import Derived.Test.YtdfahbenacjgeaaGreatWg14
import Derived.Test.YtdfahbenacjgeaaGreatWg9
import Derived.Test.YtdfahbenacjgeaaGreatWg7
import Derived.Test.YtdfahbenacjgeaaGreatWg6
set_option linter.unusedSimpArgs false
set_option linter.unusedVariables false
namespace Go.Ix
open Go.Proofs
theorem all_take{N:Nat}{but:Int}{k:Nat}(hk:k<N):((freshM N).take (k+1)).filter (λi=>!decide (i=but))=((freshM N).take k).filter (λi=>!decide (i=but))++(if(k:Int)=but then[]else[(k:Int)]):=by
 rw[<-xxp hk,x1iq]
 congr 1
 by_cases c:(k:Int)=but<;>simp[x1ja,c]
theorem uni_app1(n:Nat)(P:List Pq)(F:List Int)(i:Int):uniM n P (F++[i])=xtx (uniM n P F) (prAt P i):=by
 unfold uniM prs
 rw[x1hr,x180]
 rfl
theorem a_pjoined(d:Nat){s p:AV}{l:List Scene}{P:List Pq}(hs:Sl Scene.c s l)(hp:Sl Pq.c p P)(hR:Right7 l P)(but:Int) :
 RetF (λa=>Ints a (uniM l.length P (allM P.length but))) (xsi (d+2) [] x2f [.agg [s,p],I but] mem0):=by
 have hll:=hR.ll
 have hpl:=hR.pl
 rw[xmk]
 unfold xe3 x8s
 generalize hm1:(⟨[],1⟩:Mem).new (0,0,2) (.row [s,p] 0 false)=m1
 have g2:m1.get (0,0,2)=some (.row [s,p] 0 false):=by rw[<-hm1];simp
 have n1:m1.next=1:=by rw[<-hm1];rfl
 obtain⟨a,M,hc,hG,hM,hfr⟩:=x14l d (n:=l.length) (by omega) m1
 have gM:M.get (0,0,2)=some (.row [s,p] 0 false):=by rw[hfr _ (by show 0<m1.next;omega)];exact g2
 simp[mem0,hs.one,hp.one,hm1,g2,hs.len xtt,hc]
 unfold xhb
 simp[gM,hp.len xu7]
 rw[n1]at hG
 refine xtd (N:=P.length) (σ:=Unit) (λn k _ m fc=>x5g (xsi (d+1)) [] 0 n (I but) a p (I P.length) (I k) m fc)
  (λk _ m=>1<m.next/\Gk 1 intE (λid=>id.1=1) m a (uniM l.length P (((freshM P.length).take k).filter λi=>!decide (i=but)))) _ ?_ ?_ NN 0 () M _ (by omega) (by rw[xsu];omega) ⟨by omega,by simpa[uniM,prs,joinsM]using hG⟩
 .rintro n k-m fc hk ⟨hn,hU⟩ next
  have hk':(k:Int)<(P.length:Int):=by omega
  have ip:=hp.ix Pq.len hk
  have lp:=λm=>xtz (m:=m) (enc:=Pq.c) Pq.len (by omega) hk
  have hsn:=all_take (but:=but) hk
  have hq:=hR.pr P[k] (x1go hk)
  have hpr:=xz8 hk
  have hL:(uniM l.length P (((freshM P.length).take k).filter λi=>!decide (i=but))).length=l.length:=(x103 (n:=l.length) (λi hi=>by
   have:=fresh_mem.mp (x1j3 (x1h1.mp hi).1)
   exact⟨this,hR.at this⟩)).len
  generalize P[k]=q at *
  simp only[Pq.c]at lp
  simp only[x5g]
  unfold x8r xha
  simp[hk',ip,lp,xv3]
  generalize hm2:Mem.set _ _ _=m2
  have g7:m2.get (0,fc+1+3,7)=some (.row [I q.a,I q.b] 0 false):=by rw[<-hm2];simp
  have hU2:Gk 1 intE (λid=>id.1=1) m2 a (uniM l.length P (((freshM P.length).take k).filter λi=>!decide (i=but))):=hU.frame λj hj=>by
   have hj':j.1=1:=hj
   rw[<-hm2,Mem.get_set,x1g6 (by rintro rfl;simp at hj'),Mem.get_new,x1g6 (by rintro rfl;simp at hj')]
  have n2:m2.next=m.next:=by rw[<-hm2];rfl
  by_cases c:(k:Int)=but
  .rw[x1g7 c,x1hc]at hsn
   obtain rfl:but=(k:Int):=c.symm
   unfold x6v
   simp(disch:=omega) [xso]
   exact next () m2 _ ⟨by omega,by rw[hsn];exact hU2⟩
  .rw[x1g6 c]at hsn
   obtain⟨m3,e1,e2,e3,e4⟩:=c_join d [] hU2 (λj hj=>by have hj':j.1=1:=hj;omega) (p:=q) (by rw[hL];exact hq) (by rw[hL];omega)
   simp[c,g7,e1]
   unfold x6v
   simp(disch:=omega) [xso]
   exact next () m3 _ ⟨by omega,by rw[hsn,uni_app1,hpr];exact e2⟩
 .rintro n-m fc ⟨hn,hU⟩
  rw[x1gg (by simp[freshM])]at hU
  simp only[x5g]
  unfold x8r xh9
  simp
  obtain⟨a',h1,h2⟩:=hU.sl1 4
  exact RetF.mk h2 h1
theorem w_pjoined(d:Nat){s p:AV}{l:List Scene}{P:List Pq}(hs:Sl Scene.c s l)(hp:Sl Pq.c p P)(hR:Right7 l P)(but:Int)(m:Mem) :
 ∃a,Ints a (uniM l.length P (allM P.length but))/\xsl (xsi (d+2)) x2f [.agg [s,p],I but] m=some (a,m):=
 xu6 (by simp[hs.still1,hp.still1]) (a_pjoined d hs hp hR but) m
def labA(l:List Scene)(P:List Pq):List Int:=joinsM (freshM l.length) P
noncomputable def xvp(l:List Scene)(P:List Pq)(ph:List Int):List Int:=(freshM P.length).filter λi=>!decide (at0 (xsy l P ph) i.toNat=0)
noncomputable def solX(l:List Scene)(P:List Pq)(ph:List Int)(D i:Int):Int:=if at0 (labA l P) i.toNat=at0 (labA l P) D.toNat then potL l P ph i-potL l P ph D else 1000000000000
noncomputable def solM(l:List Scene)(P:List Pq)(ph:List Int)(D:Int):List Int:=(freshM l.length).map (solX l P ph D)
theorem sol_snoc{l:List Scene}{P:List Pq}{ph:List Int}{D:Int}{k:Nat}(hk:k<l.length):(solM l P ph D).take (k+1)=(solM l P ph D).take k++[solX l P ph D k]:=by
 rw[x1gz (by simpa[solM,freshM]using hk)]
 simp[solM,freshM]
theorem x15k{l:List Scene}{P:List Pq}{ph:List Int}{D:Int}:(solM l P ph D).length=l.length:=by simp[solM,freshM]
theorem open_snoc{l:List Scene}{P:List Pq}{ph:List Int}{k:Nat}(hk:k<P.length):((freshM P.length).take (k+1)).filter (λi=>!decide (at0 (xsy l P ph) i.toNat=0))=((freshM P.length).take k).filter (λi=>!decide (at0 (xsy l P ph) i.toNat=0))++(if at0 (xsy l P ph) k=0 then[]else[(k:Int)]):=by
 rw[<-xxp hk,x1iq]
 congr 1
 by_cases c:at0 (xsy l P ph) k=0<;>simp[x1ja,c]
theorem filt_len{N k:Nat}(q:Int->Bool):(((freshM N).take k).filter q).length<=N:=by
 have h1:=x1it q ((freshM N).take k)
 have h2:((freshM N).take k).length<=N:=by simp[freshM];omega
 omega
noncomputable def xw0(l:List Scene)(P:List Pq)(ph wt:List Int)(D:Int):Int:=bif !decide (taskE l P ph wt=0)then taskE l P ph wt else bif !(wi D 0 ((l.length:Int)-1))then 6 else bif decide (0<(xvp l P ph).length)then 26 else 0
noncomputable def xyk(l:List Scene)(P:List Pq)(ph wt:List Int)(D:Int):List Int:=bif decide (xw0 l P ph wt D=0)then solM l P ph D else[]
noncomputable def xyl(l:List Scene)(P:List Pq)(ph wt:List Int)(D:Int):List Int:=bif decide (taskE l P ph wt=0)&&wi D 0 ((l.length:Int)-1)then xvp l P ph else[]
theorem phM{ph:List Int}(h:∀k,k<ph.length->-100000000<=at0 ph k/\at0 ph k<=100000000):∀k,k<ph.length->(at0 ph k).natAbs<=100000000:=λk hk=>by have:=h k hk;omega
theorem x10b{l:List Scene}{P:List Pq}(h:few7 l P=true)(hR:Right7 l P):l.length<=8/\P.length<=14:=by
 have h1:=hR.ll
 have h2:=hR.pl
 unfold few7 at h
 by_cases c1:8<l.length
 .simp[c1,h1]at h
 .by_cases c2:14<P.length
  .simp[c2,h2]at h
  .omega
theorem a_Solved(d:Nat){s p f g:AV}{l:List Scene}{P:List Pq}{ph wt:List Int}(hs:Sl Scene.c s l)(hp:Sl Pq.c p P)(hf:Ints f ph)(hg:Ints g wt)(h1:ph.length<1000000)(h2:wt.length<1000000)(hfw:few7 l P=true)(D:Int) :
 RetF (λv=>∃a b,v=.tup [a,b,I (xw0 l P ph wt D)]/\Ints a (xyk l P ph wt D)/\Ints b (xyl l P ph wt D)) (xsi (d+14) [] x26 [.agg [s,p,f,g],I D] mem0):=by
 have fin:∀(e:Int) (m:Mem),e≠0->xw0 l P ph wt D=e->xyl l P ph wt D=[]->RetF (λv=>∃a b,v=.tup [a,b,I (xw0 l P ph wt D)]/\Ints a (xyk l P ph wt D)/\Ints b (xyl l P ph wt D)) (some (.tup [nilS,nilS,I e],m)):=λe m h0 he hB=>
  RetF.tup rfl ⟨nilS,nilS,by rw[he],Or.inl ⟨rfl,by unfold xyk;rw[he];simp[h0]⟩,Or.inl ⟨rfl,hB⟩⟩
 rw[xm5]
 unfold xdo x7y
 simp[mem0,hs.one,hp.one,hf.one,hg.one,x12k (d+5) hs hp hf hg h1 h2]
 by_cases hE:taskE l P ph wt=0
 rotate_left
 .simp[hE]
  exact fin _ _ hE (by unfold xw0;simp[hE]) (by unfold xyl;simp[hE])
 have hT:=xxs hE
 have hR:=hT.r
 obtain⟨hl,hPl⟩:=x10b hfw hR
 simp[hE,x104]
 rw[show xsw [nilS,nilS] [(0,2,AV.agg [s,p])]=some (.agg [s,p]) by simp[xsw,xtj]]
 simp[hs.one,hp.one,hs.len xtt]
 rw[xso (by omega) (by omega)]
 generalize hm1:Mem.set _ _ _=m1
 have g2:m1.get (0,0,2)=some (.row [s,p,f,g] 0 false):=by rw[<-hm1];simp
 have g8:m1.get (0,12,8)=some (.row [s,p] 0 false):=by rw[<-hm1];simp
 have n1:m1.next=1:=by rw[<-hm1];rfl
 simp[xy9]
 cases c1:wi D 0 ((l.length:Int)-1)with
 |false=>
  simp
  exact fin 6 _ (by omega) (by unfold xw0;simp[hE,c1]) (by unfold xyl;simp[c1])
 |true=>
  obtain⟨d0,d1⟩:=wi_t c1
  simp
  unfold xgg
  obtain⟨ms,hms,hmc⟩:=x18r d hs hp hf hR hl hPl hT.lp (phM hT.hp) (by omega) m1
  have hml:=xx6 l P ph
  simp[g8,g2,hmc,hms.len xt8]
  refine xtd (N:=P.length) (λn k b m fc=>x53 (xsi (d+13)) [] 0 n (I D) (.ptr (0,0,2) 0 0) (.ptr (0,12,8) 0 0) b ms (I (xsy l P ph).length) (I k) m fc)
   (λk b m=>(m.get (0,0,2)=some (.row [s,p,f,g] 0 false)/\m.get (0,12,8)=some (.row [s,p] 0 false)/\m.next=1)/\Gr 1 intE 0 48 m b (((freshM P.length).take k).filter λi=>!decide (at0 (xsy l P ph) i.toNat=0))) _ ?_ ?_ NN 0 nilS m1 _ (by omega) (by rw[xsu];omega) ⟨⟨g2,g8,n1⟩,by simpa using Gr.nil⟩
  .rintro n k b m fc hk ⟨⟨g2,g8,n1⟩,hG⟩ next
   have hk':(k:Int)<((xsy l P ph).length:Int):=by omega
   have ix:=hms.ix xt2 (show k<(xsy l P ph).length by omega)
   have ld:=λm=>xte (m:=m) (show k<(xsy l P ph).length by omega)
   have hsn:=open_snoc (l:=l) (ph:=ph) hk
   have hfl:=filt_len (N:=P.length) (k:=k) λi=>!decide (at0 (xsy l P ph) i.toNat=0)
   simp only[x53]
   unfold x7x xgf
   by_cases c:at0 (xsy l P ph) k=0
   .rw[x1g7 c,x1hc]at hsn
    simp only[xta,hk',x1gm,xt9,xsn,ix,ld,xzr,c,x1jh,xup]
    unfold x6o
    simp(disch:=omega) [xso]
    exact next b m _ ⟨⟨g2,g8,n1⟩,by rw[hsn];exact hG⟩
   .rw[x1g6 c]at hsn
    obtain⟨b2,m2,e1,e2,e3,e4⟩:=hG.app (s0:=fc+1+10) (bytes:=8) xt2 (by omega) (by unfold xt6;omega) (k:Int)
    simp only[xta,hk',x1gm,xt9,xsn,ix,ld]
    simp[c,xu3]
    rw[show ∀x:Int,elems m.get 1 (.slit [I x] 1 true)=some (intE x,1)from λ_=>rfl,e1]
    unfold x6o
    simp(disch:=omega) [xso]
    exact next b2 m2 _ ⟨⟨by rw[e4 _ (by simp)];exact g2,by rw[e4 _ (by simp)];exact g8,by omega⟩,by rw[hsn];exact e2⟩
  .rintro n b m fc ⟨⟨g2,g8,n1⟩,hG⟩
   rw[x1gg (by simp[freshM])]at hG
   have hG':Gr 1 intE 0 48 m b (xvp l P ph):=hG
   simp only[x53]
   unfold x7x xge
   simp only[hml,xta,Int.lt_irrefl,x1h9,xup,xsn,hG'.len xt8,xxh]
   by_cases c2:0<(xvp l P ph).length
   .have c2':(0:Int)<((xvp l P ph).length:Int):=by omega
    have hS:xw0 l P ph wt D=26:=by unfold xw0;simp[hE,c1,c2]
    simp[c2]
    obtain⟨b',hb',hfb⟩:=hG'.frzk (k:=3) xt2 xvc
    exact RetF.mk (x17m rfl hfb xzw) ⟨nilS,b',by rw[hS],Or.inl ⟨rfl,by unfold xyk;simp[hS]⟩,by unfold xyl;simp[hE,c1];exact hb'⟩
   .have hS:xw0 l P ph wt D=0:=by unfold xw0;simp[hE,c1,c2]
    obtain⟨v,hv,hsc⟩:=w_sums (d+1) hs hp hf hR hl hPl hT.lp (phM hT.hp) (by omega) m
    obtain⟨u,hu,hjc⟩:=w_pjoined (d+11) hs hp hR (-1) m
    rw[uni_all]at hu
    have c2':¬(0:Int)<((xvp l P ph).length:Int):=by omega
    simp[c2,c2',g8,g2,hsc,hjc,hs.clean1,hp.clean1,hf.clean,cAp,tR,n1,Nat.blt]
    unfold xgd
    have hul:=((Lab.fresh l.length).joins hR.pr).len
    simp[hv.len xt8,xuv]
    refine xtd (N:=l.length) (λn k o m fc=>x52 (xsi (d+13)) [] 0 n (I D) v u o v (I l.length) (I k) m fc)
     (λk o m=>Gk 1 intE (λid=>id.1=0/\(id.2.2=84\/id.2.2=87)) m o ((solM l P ph D).take k)) _ ?_ ?_ NN 0 nilS m _ (by omega) (by rw[xsu];omega) (by simpa using Gk.nil)
    .rintro n k o m fc hk hG next
     have hk':(k:Int)<(l.length:Int):=by omega
     have ixv:=hv.ix xt2 (show k<(phiL l.length (potM l.length P (xu0 (fW l P) l.length P) (phI ph))).length by rw[xuv];omega)
     have ldv:=λm=>xte (m:=m) (show k<(phiL l.length (potM l.length P (xu0 (fW l P) l.length P) (phI ph))).length by rw[xuv];omega)
     have ixd:=hv.ixI xt2 (k:=D) d0 (by rw[xuv];omega)
     have ldd:=λm=>xte (m:=m) (show D.toNat<(phiL l.length (potM l.length P (xu0 (fW l P) l.length P) (phI ph))).length by rw[xuv];omega)
     have ixu:=hu.ix xt2 (show k<(joinsM (freshM l.length) P).length by omega)
     have ldu:=λm=>xte (m:=m) (show k<(joinsM (freshM l.length) P).length by omega)
     have ixe:=hu.ixI xt2 (k:=D) d0 (by omega)
     have lde:=λm=>xte (m:=m) (show D.toNat<(joinsM (freshM l.length) P).length by omega)
     have gk:=x106 (n:=l.length) (φ:=potM l.length P (xu0 (fW l P) l.length P) (phI ph)) (v:=(k:Int)) (by omega) hk'
     rw[x1gb]at gk
     rw[gk]at ldv
     rw[x106 d0 (by omega)]at ldd
     have bk:=xyf hR hT.lp (phM hT.hp) (v:=(k:Int)) (by omega) hk'
     have bd:=xyf hR hT.lp (phM hT.hp) (v:=D) d0 (by omega)
     have hsn:=sol_snoc (P:=P) (ph:=ph) (D:=D) hk
     have hol:((solM l P ph D).take k).length<=8:=by simp[x15k];omega
     unfold potL at bk bd
     simp only[x52]
     unfold x7w xgc
     simp only[xta,hk',x1gm,xt9,xsn,ixv,ldv,ixu,ldu,ixe,lde,sEq_I]
     by_cases c:at0 (joinsM (freshM l.length) P) k=at0 (joinsM (freshM l.length) P) D.toNat
     .have hx:solX l P ph D k=potM l.length P (xu0 (fW l P) l.length P) (phI ph) k-potM l.length P (xu0 (fW l P) l.length P) (phI ph) D:=by unfold solX labA potL;rw[x1gb,x1g7 c]
      rw[hx]at hsn
      obtain⟨o2,m2,e1,e2,-,-,e3,-⟩:=hG.app (bytes:=8) (id0:=(0,fc+1+22,84)) xt2 (by omega) ⟨rfl,.inl rfl⟩ (by unfold xt6;omega) (potM l.length P (xu0 (fW l P) l.length P) (phI ph) k-potM l.length P (xu0 (fW l P) l.length P) (phI ph) D)
      simp only[c,x1gm,xt9,ixd,ldd,xsn,xvv,xu3]
      rw[xso (by omega) (by omega)]
      simp only[xwn]
      rw[show ∀x:Int,elems m.get 1 (.slit [I x] 1 true)=some (intE x,1)from λ_=>rfl,e1]
      unfold x6n
      simp(disch:=omega) [xso]
      exact next o2 m2 _ (by rw[hsn];exact e2)
     .have hx:solX l P ph D k=1000000000000:=by unfold solX labA;rw[x1gb,x1g6 c]
      rw[hx]at hsn
      obtain⟨o2,m2,e1,e2,-,-,e3,-⟩:=hG.app (bytes:=8) (id0:=(0,fc+1+16,87)) xt2 (by omega) ⟨rfl,.inr rfl⟩ (by unfold xt6;omega) (1000000000000:Int)
      simp only[c,x1h9,xup,xu3,xwn]
      rw[show ∀x:Int,elems m.get 1 (.slit [I x] 1 true)=some (intE x,1)from λ_=>rfl,e1]
      unfold x6n
      simp(disch:=omega) [xso]
      exact next o2 m2 _ (by rw[hsn];exact e2)
    .rintro n o m fc hG
     rw[x1gg (by rw[x15k];exact x1ga _)]at hG
     simp only[x52]
     unfold x7w xgb
     simp
     obtain⟨a',ha',hfa⟩:=hG.sl1 3
     have hO:xvp l P ph=[]:=x1hv.mp (by omega)
     exact RetF.mk (x17m hfa rfl xzw) ⟨a',nilS,by rw[hS],by unfold xyk;simp[hS];exact ha',Or.inl ⟨rfl,by unfold xyl;simp[hE,c1,hO]⟩⟩
theorem w_rAlong7(d:Nat){s p f g v:AV}{l:List Scene}{P:List Pq}{ph:List Int}(hs:Sl Scene.c s l)(hp:Sl Pq.c p P)(hf:Ints f ph)(hg1:g.one=true/\still1 g=true/\clean1 g=true)(hv:Ints v (xu0 (fW l P) l.length P))(hR:Right7 l P)(hph:ph.length=P.length){M:Nat}(hM:∀k,k<ph.length->(at0 ph k).natAbs<=M)(hMb:M<=10000000000)(m:Mem) :
 ∃a,Ints a (phiL l.length (potL l P ph))/\xsl (xsi (d+3)) x28 [.agg [s,p,f,g],v] m=some (a,m):=
 xu6 (by simp[hs.still1,hp.still1,hf.still1,hg1.2.1,hv.still]) (a_rAlong d hs hp hf hg1 hv hR hph hM hMb) m
theorem a_rMisses(d:Nat){s p f g:AV}{l:List Scene}{P:List Pq}{ph:List Int}(hs:Sl Scene.c s l)(hp:Sl Pq.c p P)(hf:Ints f ph)(hg1:g.one=true/\still1 g=true/\clean1 g=true)(hR:Right7 l P)(hph:ph.length=P.length){M:Nat}(hM:∀k,k<ph.length->(at0 ph k).natAbs<=M)(hMb:M<=10000000000) :
 RetF (λa=>Ints a (xsy l P ph)) (xsi (d+5) [] x2w [.agg [s,p,f,g]] mem0):=by
 have hll:=hR.ll
 have hpl:=hR.pl
 rw[xnw]
 unfold xfc xb7
 generalize hm1:(⟨[],1⟩:Mem).new (0,0,1) (.row [s,p,f,g] 0 false)=m1
 have g1:m1.get (0,0,1)=some (.row [s,p,f,g] 0 false):=by rw[<-hm1];simp
 obtain⟨a,ha,hlc⟩:=x1ca d hs hp hR m1
 obtain⟨v,hv,hac⟩:=w_rAlong7 (d+1) hs hp hf hg1 ha hR hph hM hMb m1
 simp[mem0,hs.one,hp.one,hf.one,hg1.1,hm1,g1,hlc,hac]
 unfold xje
 have hnM:l.length*M<=60*10000000000:=x1j4 hll hMb
 refine xtd (N:=P.length) (λn k o m fc=>x63 (xsi (d+4)) [] 0 n (.ptr (0,0,1) 0 0) v o (I k) m fc)
  (λk o m=>m.get (0,0,1)=some (.row [s,p,f,g] 0 false)/\Gr 1 intE 0 50 m o ((xsy l P ph).take k)) _ ?_ ?_ NN 0 nilS m1 _ (by omega) (by rw[xsu];omega) ⟨g1,by simpa using Gr.nil⟩
 .rintro n k o m fc hk ⟨hg,hG⟩ next
  have hk':(k:Int)<(P.length:Int):=by omega
  have ip:=hp.ix Pq.len hk
  have lp:=λm=>xtz (m:=m) (enc:=Pq.c) Pq.len (by omega) hk
  have ixf:=hf.ix xt2 (show k<ph.length by omega)
  have ldf:=λm=>xte (m:=m) (show k<ph.length by omega)
  have hsn:=x18q (l:=l) (P:=P) (ph:=ph) hk
  obtain⟨q0,q1,q2⟩:=hR.pr P[k] (x1go hk)
  rw[xz8 hk]at hsn
  generalize P[k]=q at *
  have ia:=hv.ixI xt2 (k:=q.a) q0 (by rw[xuv];omega)
  have ib:=hv.ixI xt2 (k:=q.b) (by omega) (by rw[xuv];omega)
  have la:=λm=>xte (m:=m) (l:=phiL l.length (potL l P ph)) (k:=q.a.toNat) (by rw[xuv];omega)
  have lb:=λm=>xte (m:=m) (l:=phiL l.length (potL l P ph)) (k:=q.b.toNat) (by rw[xuv];omega)
  rw[x106 q0 (by omega)]at la
  rw[x106 (by omega) q2]at lb
  have ba:=xyf hR hph hM (v:=q.a) q0 (by omega)
  have bb:=xyf hR hph hM (v:=q.b) (by omega) q2
  have bp:=hM k (by omega)
  simp only[Pq.c]at lp
  simp only[x63]
  unfold xb6
  simp[hg,hf.len xt8,hph,hk,ip,lp,xv3]
  generalize hm2:Mem.set _ _ _=m2
  have g8:m2.get (0,fc+11,8)=some (.row [I q.a,I q.b] 0 false):=by rw[<-hm2];simp
  have g1:m2.get (0,0,1)=some (.row [s,p,f,g] 0 false):=by rw[<-hm2];simp[hg]
  have hG1:Gr 1 intE 0 50 m2 o ((xsy l P ph).take k):=hG.frame λs=>by rw[<-hm2];simp
  obtain⟨o2,m3,e1,e2,e3,e4⟩:=hG1.app (s0:=fc+32) (bytes:=8) xt2 (by omega) (by unfold xt6;simp[xx6];omega) (at0 ph k-potL l P ph q.b+potL l P ph q.a)
  simp[g1,g8,hg,ixf,ldf,ia,ib,la,lb,xu3]
  have hw1:w64 (at0 ph k-potL l P ph q.b)=at0 ph k-potL l P ph q.b:=xso (by omega) (by omega)
  rw[hw1,xso (by omega) (by omega),xso (by omega) (by omega)]
  rw[show ∀x:Int,elems m2.get 1 (.slit [I x] 1 true)=some (intE x,1)from λ_=>rfl,e1]
  exact next o2 m3 _ ⟨by rw[e4 _ (by simp)];exact g1,by rw[hsn];exact e2⟩
 .rintro n o m fc ⟨hg,hG⟩
  rw[x1gg (by rw[xx6];exact x1ga _)]at hG
  simp only[x63]
  unfold xb6 xjd
  simp[hg,hf.len xt8,hph]
  obtain⟨a',h1,h2⟩:=hG.frzk (k:=4) xt2 xvc
  exact RetF.mk h2 h1
theorem w_rMisses(d:Nat){s p f g:AV}{l:List Scene}{P:List Pq}{ph:List Int}(hs:Sl Scene.c s l)(hp:Sl Pq.c p P)(hf:Ints f ph)(hg1:g.one=true/\still1 g=true/\clean1 g=true)(hR:Right7 l P)(hph:ph.length=P.length){M:Nat}(hM:∀k,k<ph.length->(at0 ph k).natAbs<=M)(hMb:M<=10000000000)(m:Mem) :
 ∃a,Ints a (xsy l P ph)/\xsl (xsi (d+5)) x2w [.agg [s,p,f,g]] m=some (a,m):=
 xu6 (by simp[hs.still1,hp.still1,hf.still1,hg1.2.1]) (a_rMisses d hs hp hf hg1 hR hph hM hMb) m
theorem w_Solved(d:Nat){s p f g:AV}{l:List Scene}{P:List Pq}{ph wt:List Int}(hs:Sl Scene.c s l)(hp:Sl Pq.c p P)(hf:Ints f ph)(hg:Ints g wt)(h1:ph.length<1000000)(h2:wt.length<1000000)(hfw:few7 l P=true)(D:Int)(m:Mem) :
 ∃a b,Ints a (xyk l P ph wt D)/\Ints b (xyl l P ph wt D)/\xsl (xsi (d+14)) x26 [.agg [s,p,f,g],I D] m=some (.tup [a,b,I (xw0 l P ph wt D)],m):=by
 obtain⟨v,⟨a,b,rfl,e1,e2⟩,hc⟩:=xu6 (by simp[hs.still1,hp.still1,hf.still1,hg.still1]) (a_Solved d hs hp hf hg h1 h2 hfw D) m
 exact⟨a,b,e1,e2,hc⟩
def RO(m:Mem)(id:Id)(a:AV)(l:List Int):Prop:=(l=[]/\(a=nilS\/a=.slit [] 0 true))\/(l≠[]/\a=.sref id 0 0 l.length 1 true/\Ow intE m id l)
theorem RO.fr{m m':Mem}{id:Id}{a:AV}{l:List Int}(h:RO m id a l)(e:m'.get id=m.get id):RO m' id a l:=by
 rcases h with h|⟨h0,h1,h2⟩
 .exact .inl h
 .exact .inr ⟨h0,h1,h2.fr e⟩
theorem RO.frz{m:Mem}{id:Id}{a:AV}{l:List Int}(h:RO m id a l)(k:Nat):∃a',Ints a' l/\Go.Ix.frz m.get (k+2) a=some a':=by
 rcases h with ⟨rfl,rfl|rfl⟩|⟨-,rfl,h⟩
 .exact⟨nilS,Or.inl ⟨rfl,rfl⟩,rfl⟩
 .exact⟨.slit [] 0 true,Sl.lit [] true,rfl⟩
 .exact⟨_,Sl.lit l false,xxm (k:=k) xt2 xvc h⟩
def corL(ph tu:List Int):List Int:=(List.range ph.length).map λk=>at0 ph k-4096*at0 tu k
theorem xzc(ph tu:List Int):(corL ph tu).length=ph.length:=by simp[corL]
theorem cor_get{ph tu:List Int}{k:Nat}(h:k<ph.length):at0 (corL ph tu) k=at0 ph k-4096*at0 tu k:=by
 rw[xt5 (by rw[xzc];exact h)]
 simp[corL]
theorem cor_mix{ph tu:List Int}{k:Nat}(hk:k<ph.length):((corL ph tu).take k++ph.drop k).set k (at0 ph k-4096*at0 tu k)=(corL ph tu).take (k+1)++ph.drop (k+1):=by
 rw[<-cor_get hk]
 exact x14k (xzc ph tu) hk
theorem w_closure(d:Nat){f c:AV}{ph:List Int}{w:List Sp}(hf:Ints f ph)(hc:Sl Sp.c c w)(hw:StOK7 ph.length w)(hwl:w.length<=1000){M:Nat}(hM:∀k,k<ph.length->(at0 ph k).natAbs<=M)(hMb:M<=10000000000)(m:Mem) :
 xsl (xsi (d+1)) x4c [f,c] m=some (I (sumW (phI ph) w),m):=by
 refine xua (by simp[hf.still,hc.still]) ?_ m
 rw[xn4]
 unfold xem x9v xid
 simp[hc.len x105]
 refine xtd (N:=w.length) (σ:=Unit) (λn k _ m fc=>x5s (xsi d) [] 0 n f (I (sumW (phI ph) (w.take k))) c (I w.length) (I k) m fc) (λ_ _ _=>True) _ ?_ ?_ NN 0 () _ _ (by omega) (by rw[xsu];omega) trivial
 .rintro n k-m fc hk-next
  have hk':(k:Int)<(w.length:Int):=by omega
  have ix:=hc.ix Sp.len hk
  have ld:=λm=>xtz (m:=m) (enc:=Sp.c) Sp.len (by omega) hk
  have hsn:=x18s (phI ph) hk
  obtain⟨h1,h2⟩:=hw w[k] (x1go hk)
  have ha:(sumW (phI ph) (w.take k)).natAbs<=(w.take k).length*M:=StOK7.abs hM λy hy=>hw y (x1j3 hy)
  have hb:(w.take k).length*M<=1000*10000000000:=x1j4 (by simp;omega) hMb
  generalize w[k]=x at *
  simp only[Sp.c]at ld
  have ip:=hf.ixI xt2 h1.1 h1.2
  have lp:=λm=>xte (m:=m) (show x.p.toNat<ph.length by omega)
  have h3:=hM x.p.toNat (by omega)
  have h4:(x.s*at0 ph x.p.toNat).natAbs=(at0 ph x.p.toNat).natAbs:=by rcases h2 with e|e<;>rw[e]<;>simp
  simp only[x5s]
  unfold x9u
  simp[hk,ix,ld,ip,lp,xws]
  have hw1:w64 (x.s*at0 ph x.p.toNat)=x.s*at0 ph x.p.toNat:=xso (by omega) (by omega)
  have hw2:w64 (sumW (phI ph) (w.take k)+x.s*at0 ph x.p.toNat)=sumW (phI ph) (w.take k)+x.s*at0 ph x.p.toNat:=xso (by omega) (by omega)
  have hw3:w64 ((k:Int)+1)=(k:Int)+1:=xso (by omega) (by omega)
  simp only[hw1,hw2,hw3]
  generalize hm2:Mem.set _ _ _=m2
  have:=next () m2 (fc+18) trivial
  rw[hsn]at this
  exact this
 .rintro n-m fc -
  simp only[x5s]
  unfold x9u xic
  simp
  exact RetF.st rfl rfl
theorem cyE_ok{P:List Pq}:∀(w:List Sp) (k:Nat) (b e:Int),cyE P k b e w=0->StOK7 P.length w/\(k≠0->Wk P w e b)/\(k=0->w≠[]->∃a,Wk P w a a)
 |[],k,b,e,h=>by
  refine⟨(λx hx=>by cases hx),λ_=>?_,λ_ h=>absurd rfl h⟩
  simp only[cyE]at h
  by_cases c:b=e
  .exact c.symm
  .simp[c]at h
 |x::r,k,b,e,h=>by
  simp only[cyE]at h
  cases c1:wi x.p 0 ((P.length:Int)-1)with
  |false=>simp[c1]at h
  |true=>
   have hx:=wi_t c1
   by_cases c2:x.s=1\/x.s=-1
   .have hs:(!decide (x.s=1)&&!decide (x.s=-1))=false:=by rcases c2 with q|q<;>simp[q]
    rw[c1,hs]at h
    have hok:∀r',StOK7 P.length r'->StOK7 P.length (x::r'):=λr' hr y hy=>by
     rcases x1gn.mp hy with rfl|hy
     .exact⟨by omega,c2⟩
     .exact hr y hy
    by_cases c3:k=0
    .simp[c3]at h
     obtain⟨i1,i2,i3⟩:=cyE_ok r 1 (frS P x) (toS P x) h
     exact⟨hok r i1,λh=>absurd c3 h,λ_ _=>⟨frS P x,rfl,i2 (by omega)⟩⟩
    .by_cases c4:frS P x=e
     .simp[c3,c4]at h
      obtain⟨i1,i2,i3⟩:=cyE_ok r (k+1) b (toS P x) h
      exact⟨hok r i1,λ_=>⟨c4,i2 (by omega)⟩,λh=>absurd h c3⟩
     .simp[c3,c4]at h
   .have h1:x.s≠1:=λe=>c2 (.inl e)
    have h2:x.s≠-1:=λe=>c2 (.inr e)
    simp[c1,h1,h2]at h
theorem cycE_ok{P:List Pq}{w:List Sp}(h:cycE P w=0):w.length<=400/\StOK7 P.length w/\∃a,Wk P w a a:=by
 unfold cycE at h
 by_cases c1:w.length=0
 .simp[c1]at h
 .by_cases c2:400<w.length
  .simp[c1,c2]at h
  .simp[c1,c2]at h
   obtain⟨i1,i2,i3⟩:=cyE_ok w 0 0 0 h
   exact⟨by omega,i1,i3 rfl λe=>c1 (by rw[e];rfl)⟩
noncomputable def clE(l:List Scene)(P:List Pq)(ph wt:List Int)(w:List Sp):Int:=bif !decide (taskE l P ph wt=0)then taskE l P ph wt else cycE P w
noncomputable def clN(l:List Scene)(P:List Pq)(ph wt:List Int)(w:List Sp):Int:=bif decide (clE l P ph wt w=0)then sumW (phI ph) w else 0
theorem x19p{l:List Scene}{P:List Pq}{ph wt:List Int}(h:taskE l P ph wt=0):(net7 l P).2=0:=by
 unfold taskE at h
 by_cases he:(net7 l P).2=0
 .exact he
 .simp[he]at h
theorem x19q(d:Nat){s p f g c:AV}{l:List Scene}{P:List Pq}{ph wt:List Int}{w:List Sp}(hs:Sl Scene.c s l)(hp:Sl Pq.c p P)(hf:Ints f ph)(hg:Ints g wt)(hc:Sl Sp.c c w)(h1:ph.length<1000000)(h2:wt.length<1000000)(hw:w.length<=1000)(m:Mem) :
 xsl (xsi (d+9)) x2b [.agg [s,p,f,g],c] m=some (.tup [I (clN l P ph wt w),I (clE l P ph wt w)],m):=by
 refine xua (by simp[hs.still1,hp.still1,hf.still1,hg.still1,hc.still]) ?_ m
 rw[xmd]
 unfold xdw x8c
 simp[mem0,hs.one,hp.one,hf.one,hg.one,x12k d hs hp hf hg h1 h2,x1cb d hs hp hc hw]
 by_cases hE:taskE l P ph wt=0
 rotate_left
 .have e1:clE l P ph wt w=taskE l P ph wt:=by unfold clE;simp[hE]
  simp[hE]
  exact RetF.tup rfl (by unfold clN;rw[e1];simp[hE])
 have hT:=xxs hE
 have hn:=x19p hE
 have e1:clE l P ph wt w=cycE P w:=by unfold clE;simp[hE]
 simp[hE,hn]
 by_cases c1:cycE P w=0
 .obtain⟨q1,q2,-⟩:=cycE_ok c1
  have:=w_closure (d+7) hf hc (by rw[hT.lp];exact q2) (by omega) (phM hT.hp) (by omega)
  simp[c1,this]
  exact RetF.tup rfl (by unfold clN;rw[e1,c1];rfl)
 .simp[c1]
  exact RetF.tup rfl (by unfold clN;rw[e1];simp[c1])
theorem x19r{l:List Scene}{P:List Pq}{ph:List Int}(hph:ph.length=P.length)(hO:xvp l P ph=[]):∀{w:List Sp} {a b:Int},StOK7 P.length w->Wk P w a b->sumW (phI ph) w=potL l P ph b-potL l P ph a
 |[],a,b,_,hw=>by cases hw;simp[sumW]
 |x::r,a,b,hs,hw=>by
  obtain⟨h1,h2⟩:=hs x (x1gf ..)
  have ih:=x19r hph hO (λy hy=>hs y (x1ge _ hy)) hw.2
  have hm:at0 (xsy l P ph) x.p.toNat=0:=by
   apply Classical.byContradiction
   intro hc
   have:x.p∈xvp l P ph:=x1h1.mpr ⟨fresh_mem.mpr h1,by simpa using hc⟩
   rw[hO]at this
   cases this
  rw[x118 (by omega),x1hg h1.1]at hm
  have hfa:=hw.1
  rw[sumW,ih,<-hfa]
  unfold frS toS phI
  rcases h2 with e|e<;>rw[e]<;>simp<;>omega
theorem g_Copy7(d u:Nat){s p f g:AV}{l:List Scene}{P:List Pq}{ph wt:List Int}(hs:Sl Scene.c s l)(hp:Sl Pq.c p P)(hf:Ints f ph)(hg:Ints g wt)(h1:l.length<=1000000)(h2:P.length<=1000000)(h3:ph.length<=1000000)(h4:wt.length<=1000000) :
 ∃s' p' a b m',Sl Scene.c s' l/\Sl Pq.c p' P/\xsi (d+2) [] xf [.agg [s,p,f,g]] ⟨[],u⟩=some (.agg [s',p',a,b],m')/\CI m' (u+1) a ph/\CI m' (u+2) b wt/\m'.next=u+3:=by
 suffices main:∀Q:O2->Prop,(∀s' p' a b m',Sl Scene.c s' l->Sl Pq.c p' P->CI m' (u+1) a ph->CI m' (u+2) b wt->m'.next=u+3->Q (some (.agg [s',p',a,b],m')))->Q (xsi (d+2) [] xf [.agg [s,p,f,g]] ⟨[],u⟩)from
  main (λr=>∃s' p' a b m',Sl Scene.c s' l/\Sl Pq.c p' P/\r=some (.agg [s',p',a,b],m')/\CI m' (u+1) a ph/\CI m' (u+2) b wt/\m'.next=u+3) λs' p' a b m' h1 h2 h3 h4 h5=>⟨s',p',a,b,m',h1,h2,rfl,h3,h4,h5⟩
 intro Q hQ
 rw[xlh]
 unfold x7n x6p
 simp[hs.one,hp.one,hf.one,hg.one,x151]
 generalize hm1:Mem.new _ _ _=m1
 have g1:m1.get (u,0,1)=some (.row [s,p,f,g] 0 false):=by rw[<-hm1];simp
 have n1:m1.next=u+1:=by rw[<-hm1];rfl
 obtain⟨s',p',hs',hp',hcp⟩:=x14f d hs hp h1 h2 m1
 obtain⟨a,M,c1,c2,c3,c4⟩:=x12m d hf h3 m1
 obtain⟨b,M2,e1,e2,e3,e4⟩:=x12m d hg h4 M
 have gM:M.get (u,0,1)=some (.row [s,p,f,g] 0 false):=by rw[c4 _ (by show u<m1.next;omega)];exact g1
 have g2:m1.get (u,1,2)=some (.row [nilS,nilS,nilS,nilS] 0 false):=by rw[<-hm1];simp
 have gM2:M2.get (u,1,2)=some (.row [nilS,nilS,nilS,nilS] 0 false):=by rw[e4 _ (by show u<M.next;omega),c4 _ (by show u<m1.next;omega)];exact g2
 have ca:=c2.one
 have cb:=e2.one
 have hb1:Nat.blt u (u+1)=true:=by rw[Nat.blt_eq];omega
 simp[hcp,g1,c1,gM,e1]
 rw[show xsw [nilS,nilS,nilS,nilS] [(0,2,.agg [s',p']),(2,1,a),(3,1,b)]=some (.agg [s',p',a,b]) by simp[xsw,xtj,ca.1,cb.1]]
 simp[gM2,hs'.one,hp'.one,ca.2.1,cb.2.1,hs.clean1,hp.clean1,hf.clean,hg.clean,cAp,tR,hb1,sLdP]
 refine hQ s' p' a b _ hs' hp' ?_ ?_ (by show M2.next=u+3;omega)
 .rw[show u+1=m1.next from n1.symm]
  exact c2.fr (by rw[Mem.get_set,x1g6 (by rw[n1];simp),e4 _ (by show m1.next<M.next;omega)])
 .rw[show u+2=M.next by omega]
  exact e2.fr (by rw[Mem.get_set,x1g6 (by rw[c3,n1];simp)])
theorem x1cx(d:Nat){s p f g t:AV}{l:List Scene}{P:List Pq}{ph wt tu:List Int}(hs:Sl Scene.c s l)(hp:Sl Pq.c p P)(hf:Ints f ph)(hg:Ints g wt)(ht:Ints t tu)(h1:l.length<=1000000)(h2:P.length<=1000000)(h3:ph.length<=1000000)(h4:wt.length<=1000000)(hl:tu.length=ph.length)(hpb:∀k,k<ph.length->-100000000<=at0 ph k/\at0 ph k<=100000000)(htb:∀k,k<tu.length->-1000000<=at0 tu k/\at0 tu k<=1000000) :
 RetF (λv=>∃s' p' f' g',v=.agg [s',p',f',g']/\Sl Scene.c s' l/\Sl Pq.c p' P/\Ints f' (corL ph tu)/\Ints g' wt) (xsi (d+3) [] x2a [.agg [s,p,f,g],t] mem0):=by
 rw[xmb]
 unfold xdu x88
 simp[mem0,hs.one,hp.one,hf.one,hg.one,x151]
 generalize hm1:Mem.new _ _ _=m1
 have n1:m1.next=1:=by rw[<-hm1];rfl
 have g4:m1.get (0,1,4)=some (.row [nilS,nilS,nilS,nilS] 0 false):=by rw[<-hm1];simp
 obtain⟨s',p',a,b,mC,hs',hp',hc,hCa,hCb,hCn⟩:=g_Copy7 d 1 hs hp hf hg h1 h2 h3 h4
 rw[<-n1]at hc
 obtain⟨M,hM,hMn,hMg⟩:=xz4 (l:=[.agg [s,p,f,g]]) (m:=m1) (by simp[clean,hs.clean1,hp.clean1,hf.clean1,hg.clean1]) hc
 have ca:=hCa.one
 have cb:=hCb.one
 have gM4:M.get (0,1,4)=some (.row [nilS,nilS,nilS,nilS] 0 false):=by rw[hMg,x1g6 (by show ¬m1.next<=0;omega)];exact g4
 have hA:CI M 2 a ph:=hCa.fr (by rw[hMg,x1g7 (by show m1.next<=2;omega)])
 have hB:CI M 3 b wt:=hCb.fr (by rw[hMg,x1g7 (by show m1.next<=3;omega)])
 simp[hM,hs'.one,hp'.one,ca.2.1,cb.2.1]
 generalize hm2:Mem.set _ _ _=m2
 have q4:m2.get (0,1,4)=some (.row [nilS,nilS,nilS,nilS] 0 false):=by rw[<-hm2,Mem.get_set,x1g6 (by simp),Mem.get_new,x1g6 (by simp)];exact gM4
 have q5:m2.get (0,4,5)=some (.row [s',p',a,b] 0 false):=by rw[<-hm2];simp
 have hA2:CI m2 2 a ph:=hA.fr (by rw[<-hm2,Mem.get_set,x1g6 (by simp),Mem.get_new,x1g6 (by simp)])
 have hB2:CI m2 3 b wt:=hB.fr (by rw[<-hm2,Mem.get_set,x1g6 (by simp),Mem.get_new,x1g6 (by simp)])
 unfold xgp
 refine xtd (N:=ph.length) (σ:=Unit) (λn k _ m fc=>x57 (xsi (d+2)) [] 0 n t (.ptr (0,1,4) 0 0) (.ptr (0,4,5) 0 0) (I k) m fc)
  (λk _ m=>m.get (0,1,4)=some (.row [nilS,nilS,nilS,nilS] 0 false)/\m.get (0,4,5)=some (.row [s',p',a,b] 0 false)/\CI m 2 a ((corL ph tu).take k++ph.drop k)/\CI m 3 b wt) _ ?_ ?_ NN 0 () m2 _ (by omega) (by rw[xsu];omega) ⟨q4,q5,by simpa using hA2,hB2⟩
 .rintro n k-m fc hk ⟨q4,q5,hA,hB⟩ next
  have hk':(k:Int)<(tu.length:Int):=by omega
  have ixt:=ht.ix xt2 (show k<tu.length by omega)
  have ldt:=λm=>xte (m:=m) (show k<tu.length by omega)
  have hml:=x113 (l:=ph) (X:=corL ph tu) (xzc ph tu) (k:=k) (by omega)
  have hmx:=mix_at (l:=ph) (X:=corL ph tu) (xzc ph tu) hk
  have hml2:=x113 (l:=ph) (X:=corL ph tu) (xzc ph tu) (k:=k+1) (by omega)
  rcases hA with ⟨h0,-⟩|⟨h0,rfl,hOw⟩
  .rw[h0]at hml;simp only[x1i6]at hml;omega
  have ixa:sIx 1 (.sref (2,3,5) 0 0 ((corL ph tu).take k++ph.drop k).length 1 true) (I (k:Int))=some (.ptr (2,3,5) 0 (k:Int).toNat):=xwr (by omega) (by rw[hml];omega)
  have lda:=hOw.ldI (k:=(k:Int)) (by omega) (by rw[hml];omega)
  obtain⟨st1,st2⟩:=hOw.st1 (g:=I) (λ_=>rfl) (k:=(k:Int)) (by omega) (by rw[hml];omega) (x:=at0 ph k-4096*at0 tu k) rfl rfl
  rw[x1gb]at ixa lda st1 st2
  rw[hmx]at lda
  rw[cor_mix hk]at st1 st2
  have hphk:=hpb k hk
  have htk:=htb k (by omega)
  have hw1:w64 (at0 tu k*4096)=at0 tu k*4096:=xso (by omega) (by omega)
  have hw2:w64 (at0 ph k-at0 tu k*4096)=at0 ph k-4096*at0 tu k:=by rw[xso (by omega) (by omega)];omega
  have hw3:w64 ((k:Int)+1)=(k:Int)+1:=xso (by omega) (by omega)
  simp only[x57]
  unfold x87
  simp only[ht.len xt8,xta,hk',x1gm,xt9,xsn,xtn,xsv,q5,xt1,x1gd,xsr,x1gl,x1gr,x1g8,rd_f,ixa,ixt,ldt]
  rw[<-xsv,lda]
  simp only[xsn,sMul_I,hw1,xvv,hw2,st1,xux,hw3]
  generalize hm3:Mem.set m _ _=m3 at st2 ⊢
  have hne:(corL ph tu).take (k+1)++ph.drop (k+1)≠[]:=by
   intro e
   rw[e]at hml2
   simp only[x1i6]at hml2
   omega
  have hg:∀j:Id,j≠(2,3,5)->m3.get j=m.get j:=λj hj=>by rw[<-hm3,Mem.get_set,x1g6 hj]
  exact next () m3 _ ⟨by rw[hg _ (by simp)];exact q4,by rw[hg _ (by simp)];exact q5,.inr ⟨hne,by rw[hml,hml2],st2⟩,hB.fr (hg _ (by simp))⟩
 .rintro n-m fc ⟨q4,q5,hA,hB⟩
  rw[x1gg (by rw[xzc];exact x1ga _),x1h5 (x1ga _),x1hc]at hA
  have hkn:¬((ph.length:Int)<(tu.length:Int)):=by omega
  simp only[x57]
  unfold x87 xgo
  simp[ht.len xt8,hkn,q5,q4,hs'.one,hp'.one,ca.2.1,cb.2.1,sLdP]
  generalize hm3:Mem.set _ _ _=m3
  obtain⟨a',ha',hfa⟩:=(hA.fr (m':=m3) (by rw[<-hm3,Mem.get_set,x1g6 (by simp)])).frz 3
  obtain⟨b',hb',hfb⟩:=(hB.fr (m':=m3) (by rw[<-hm3,Mem.get_set,x1g6 (by simp)])).frz 3
  exact RetF.mk (x18u (k:=4) (xuh _ 3 hs'.still) (xuh _ 3 hp'.still) hfa hfb) ⟨s',p',a',b',rfl,hs',hp',ha',hb'⟩
theorem x1cy(d:Nat){s p f g t:AV}{l:List Scene}{P:List Pq}{ph wt tu:List Int}(hs:Sl Scene.c s l)(hp:Sl Pq.c p P)(hf:Ints f ph)(hg:Ints g wt)(ht:Ints t tu)(h1:l.length<=1000000)(h2:P.length<=1000000)(h3:ph.length<=1000000)(h4:wt.length<=1000000)(hl:tu.length=ph.length)(hpb:∀k,k<ph.length->-100000000<=at0 ph k/\at0 ph k<=100000000)(htb:∀k,k<tu.length->-1000000<=at0 tu k/\at0 tu k<=1000000)(m:Mem) :
 ∃s' p' f' g',Sl Scene.c s' l/\Sl Pq.c p' P/\Ints f' (corL ph tu)/\Ints g' wt/\xsl (xsi (d+3)) x2a [.agg [s,p,f,g],t] m=some (.agg [s',p',f',g'],m):=by
 obtain⟨v,⟨s',p',f',g',rfl,a1,a2,a3,a4⟩,hc⟩:=xu6 (by simp[hs.still1,hp.still1,hf.still1,hg.still1,ht.still]) (x1cx d hs hp hf hg ht h1 h2 h3 h4 hl hpb htb) m
 exact⟨s',p',f',g',a1,a2,a3,a4,hc⟩
end Go.Ix
