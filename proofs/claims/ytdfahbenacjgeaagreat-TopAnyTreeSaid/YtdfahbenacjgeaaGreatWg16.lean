import Derived.Test.YtdfahbenacjgeaaGreatWg15
import Derived.Test.YtdfahbenacjgeaaGreatWg9
import Derived.Test.YtdfahbenacjgeaaGreatWg8
import Derived.Test.YtdfahbenacjgeaaGreatWg6
set_option linter.unusedSimpArgs false
set_option linter.unusedVariables false
namespace Go.Ix
open Go.Proofs
theorem Edge.still1(e:Edge):e.c.all Go.Ix.still1=true:=rfl
theorem all_take{N:Nat}{but:Int}{k:Nat}(hk:k<N):((freshM N).take (k+1)).filter (λi=>!decide (i=but))=((freshM N).take k).filter (λi=>!decide (i=but))++(if(k:Int)=but then[]else[(k:Int)]):=by
 rw[<-xpi hk,x14x]
 congr 1
 by_cases c:(k:Int)=but<;>simp[x159,c]
theorem uni_app1(n:Nat)(P:List Pq)(F:List Int)(i:Int):uniM n P (F++[i])=xl1 (uniM n P F) (prAt P i):=by
 unfold uniM prs
 rw[x13q,xws]
 rfl
theorem a_pjoined(d:Nat){s p:AV}{l:List Scene}{P:List Pq}(hs:Sl Scene.c s l)(hp:Sl Pq.c p P)(hR:Right7 l P)(but:Int) :
 RetF (λa=>Ints a (uniM l.length P (allM P.length but))) (xk2 (d+2) [] xw [.agg [s,p],I but] mem0):=by
 have hll:=hR.ll
 have hpl:=hR.pl
 rw[xg0]
 unfold x9l x5z
 generalize hm1:(⟨[],1⟩:Mem).new (0,0,2) (.row [s,p] 0 false)=m1
 have g2:m1.get (0,0,2)=some (.row [s,p] 0 false):=by rw[<-hm1];simp
 have n1:m1.next=1:=by rw[<-hm1];rfl
 obtain⟨a,M,hc,hG,hM,hfr⟩:=xu2 d (n:=l.length) (by omega) m1
 have gM:M.get (0,0,2)=some (.row [s,p] 0 false):=by rw[hfr _ (by show 0<m1.next;omega)];exact g2
 simp[mem0,hs.one,hp.one,hm1,g2,hs.len xl8,hc]
 unfold xc9
 simp[gM,hp.len xlc]
 rw[n1]at hG
 refine xkq (N:=P.length) (σ:=Unit) (λn k _ m fc=>x3k (xk2 (d+1)) [] 0 n (I but) a p (I P.length) (I k) m fc)
  (λk _ m=>1<m.next/\Gk 1 intE (λid=>id.1=1) m a (uniM l.length P (((freshM P.length).take k).filter λi=>!decide (i=but)))) _ ?_ ?_ NN 0 () M _ (by omega) (by rw[xkj];omega) ⟨by omega,by simpa[uniM,prs,joinsM]using hG⟩
 .rintro n k-m fc hk ⟨hn,hU⟩ next
  have hk':(k:Int)<(P.length:Int):=by omega
  have ip:=hp.ix Pq.len hk
  have lp:=λm=>xlt (m:=m) (enc:=Pq.c) Pq.len (by omega) hk
  have hsn:=all_take (but:=but) hk
  have hq:=hR.pr P[k] (x12s hk)
  have hpr:=xq3 hk
  have hL:(uniM l.length P (((freshM P.length).take k).filter λi=>!decide (i=but))).length=l.length:=(xot (n:=l.length) (λi hi=>by
   have:=fresh_mem.mp (x15r (x130.mp hi).1)
   exact⟨this,hR.at this⟩)).len
  generalize P[k]=q at *
  simp only[Pq.c]at lp
  simp only[x3k]
  unfold x5y xc8
  simp[hk',ip,lp,xmn]
  generalize hm2:Mem.set _ _ _=m2
  have g7:m2.get (0,fc+1+3,7)=some (.row [I q.a,I q.b] 0 false):=by rw[<-hm2];simp
  have hU2:Gk 1 intE (λid=>id.1=1) m2 a (uniM l.length P (((freshM P.length).take k).filter λi=>!decide (i=but))):=hU.frame λj hj=>by
   have hj':j.1=1:=hj
   rw[<-hm2,Mem.get_set,x12b (by rintro rfl;simp at hj'),Mem.get_new,x12b (by rintro rfl;simp at hj')]
  have n2:m2.next=m.next:=by rw[<-hm2];rfl
  by_cases c:(k:Int)=but
  .rw[x12c c,x13y]at hsn
   obtain rfl:but=(k:Int):=c.symm
   unfold x4m
   simp(disch:=omega) [xk6]
   exact next () m2 _ ⟨by omega,by rw[hsn];exact hU2⟩
  .rw[x12b c]at hsn
   obtain⟨m3,e1,e2,e3,e4⟩:=c_join d [] hU2 (λj hj=>by have hj':j.1=1:=hj;omega) (p:=q) (by rw[hL];exact hq) (by rw[hL];omega)
   simp[c,g7,e1]
   unfold x4m
   simp(disch:=omega) [xk6]
   exact next () m3 _ ⟨by omega,by rw[hsn,uni_app1,hpr];exact e2⟩
 .rintro n-m fc ⟨hn,hU⟩
  rw[x12g (by simp[freshM])]at hU
  simp only[x3k]
  unfold x5y xc7
  simp
  obtain⟨a',h1,h2⟩:=hU.sl1 4
  exact RetF.mk h2 h1
theorem xxp(d:Nat){s p:AV}{l:List Scene}{P:List Pq}(hs:Sl Scene.c s l)(hp:Sl Pq.c p P)(hR:Right7 l P)(but:Int)(m:Mem) :
 ∃a,Ints a (uniM l.length P (allM P.length but))/\xk4 (xk2 (d+2)) xw [.agg [s,p],I but] m=some (a,m):=
 xlq (by simp[hs.still1,hp.still1]) (a_pjoined d hs hp hR but) m
def labA(l:List Scene)(P:List Pq):List Int:=joinsM (freshM l.length) P
noncomputable def xn1(l:List Scene)(P:List Pq)(ph:List Int):List Int:=(freshM P.length).filter λi=>!decide (at0 (xki l P ph) i.toNat=0)
noncomputable def solX(l:List Scene)(P:List Pq)(ph:List Int)(D i:Int):Int:=if at0 (labA l P) i.toNat=at0 (labA l P) D.toNat then potL l P ph i-potL l P ph D else 1000000000000
noncomputable def solM(l:List Scene)(P:List Pq)(ph:List Int)(D:Int):List Int:=(freshM l.length).map (solX l P ph D)
theorem sol_snoc{l:List Scene}{P:List Pq}{ph:List Int}{D:Int}{k:Nat}(hk:k<l.length):(solM l P ph D).take (k+1)=(solM l P ph D).take k++[solX l P ph D k]:=by
 rw[x12y (by simpa[solM,freshM]using hk)]
 simp[solM,freshM]
theorem xnq{l:List Scene}{P:List Pq}{ph:List Int}{D:Int}:(solM l P ph D).length=l.length:=by simp[solM,freshM]
theorem open_snoc{l:List Scene}{P:List Pq}{ph:List Int}{k:Nat}(hk:k<P.length):((freshM P.length).take (k+1)).filter (λi=>!decide (at0 (xki l P ph) i.toNat=0))=((freshM P.length).take k).filter (λi=>!decide (at0 (xki l P ph) i.toNat=0))++(if at0 (xki l P ph) k=0 then[]else[(k:Int)]):=by
 rw[<-xpi hk,x14x]
 congr 1
 by_cases c:at0 (xki l P ph) k=0<;>simp[x159,c]
theorem filt_len{N k:Nat}(q:Int->Bool):(((freshM N).take k).filter q).length<=N:=by
 have h1:=x16c q ((freshM N).take k)
 have h2:((freshM N).take k).length<=N:=by simp[freshM];omega
 omega
noncomputable def xm7(l:List Scene)(P:List Pq)(ph wt:List Int)(D:Int):Int:=bif !decide (taskE l P ph wt=0)then taskE l P ph wt else bif !(wi D 0 ((l.length:Int)-1))then 6 else bif decide (0<(xn1 l P ph).length)then 26 else 0
noncomputable def xnd(l:List Scene)(P:List Pq)(ph wt:List Int)(D:Int):List Int:=bif decide (xm7 l P ph wt D=0)then solM l P ph D else[]
noncomputable def xoy(l:List Scene)(P:List Pq)(ph wt:List Int)(D:Int):List Int:=bif decide (taskE l P ph wt=0)&&wi D 0 ((l.length:Int)-1)then xn1 l P ph else[]
theorem phM{ph:List Int}(h:∀k,k<ph.length->-100000000<=at0 ph k/\at0 ph k<=100000000):∀k,k<ph.length->(at0 ph k).natAbs<=100000000:=λk hk=>by have:=h k hk;omega
theorem xsc{l:List Scene}{P:List Pq}(h:few7 l P=true)(hR:Right7 l P):l.length<=8/\P.length<=14:=by
 have h1:=hR.ll
 have h2:=hR.pl
 unfold few7 at h
 by_cases c1:8<l.length
 .simp[c1,h1]at h
 .by_cases c2:14<P.length
  .simp[c2,h2]at h
  .omega
theorem a_Solved(d:Nat){s p f g:AV}{l:List Scene}{P:List Pq}{ph wt:List Int}(hs:Sl Scene.c s l)(hp:Sl Pq.c p P)(hf:Ints f ph)(hg:Ints g wt)(h1:ph.length<1000000)(h2:wt.length<1000000)(hfw:few7 l P=true)(D:Int) :
 RetF (λv=>∃a b,v=.tup [a,b,I (xm7 l P ph wt D)]/\Ints a (xnd l P ph wt D)/\Ints b (xoy l P ph wt D)) (xk2 (d+14) [] xt [.agg [s,p,f,g],I D] mem0):=by
 have fin:∀(e:Int) (m:Mem),e≠0->xm7 l P ph wt D=e->xoy l P ph wt D=[]->RetF (λv=>∃a b,v=.tup [a,b,I (xm7 l P ph wt D)]/\Ints a (xnd l P ph wt D)/\Ints b (xoy l P ph wt D)) (some (.tup [nilS,nilS,I e],m)):=λe m h0 he hB=>
  RetF.tup rfl ⟨nilS,nilS,by rw[he],Or.inl ⟨rfl,by unfold xnd;rw[he];simp[h0]⟩,Or.inl ⟨rfl,hB⟩⟩
 rw[xfl]
 unfold x96 x56
 simp[mem0,hs.one,hp.one,hf.one,hg.one,x100 (d+5) hs hp hf hg h1 h2]
 by_cases hE:taskE l P ph wt=0
 rotate_left
 .simp[hE]
  exact fin _ _ hE (by unfold xm7;simp[hE]) (by unfold xoy;simp[hE])
 have hT:=xqy hE
 have hR:=hT.r
 obtain⟨hl,hPl⟩:=xsc hfw hR
 simp[hE,xue]
 rw[show xkr [nilS,nilS] [(0,2,AV.agg [s,p])]=some (.agg [s,p]) by simp[xkr,xle]]
 simp[hs.one,hp.one,hs.len xl8]
 rw[xk6 (by omega) (by omega)]
 generalize hm1:Mem.set _ _ _=m1
 have g2:m1.get (0,0,2)=some (.row [s,p,f,g] 0 false):=by rw[<-hm1];simp
 have g8:m1.get (0,12,8)=some (.row [s,p] 0 false):=by rw[<-hm1];simp
 have n1:m1.next=1:=by rw[<-hm1];rfl
 simp[xon]
 cases c1:wi D 0 ((l.length:Int)-1)with
 |false=>
  simp
  exact fin 6 _ (by omega) (by unfold xm7;simp[hE,c1]) (by unfold xoy;simp[c1])
 |true=>
  obtain⟨d0,d1⟩:=wi_t c1
  simp
  unfold xbg
  obtain⟨ms,hms,hmc⟩:=w_misses d hs hp hf hR hl hPl hT.lp (phM hT.hp) (by omega) m1
  have hml:=xo4 l P ph
  simp[g8,g2,hmc,hms.len xke]
  refine xkq (N:=P.length) (λn k b m fc=>x37 (xk2 (d+13)) [] 0 n (I D) (.ptr (0,0,2) 0 0) (.ptr (0,12,8) 0 0) b ms (I (xki l P ph).length) (I k) m fc)
   (λk b m=>(m.get (0,0,2)=some (.row [s,p,f,g] 0 false)/\m.get (0,12,8)=some (.row [s,p] 0 false)/\m.next=1)/\Gr 1 intE 0 48 m b (((freshM P.length).take k).filter λi=>!decide (at0 (xki l P ph) i.toNat=0))) _ ?_ ?_ NN 0 nilS m1 _ (by omega) (by rw[xkj];omega) ⟨⟨g2,g8,n1⟩,by simpa using Gr.nil⟩
  .rintro n k b m fc hk ⟨⟨g2,g8,n1⟩,hG⟩ next
   have hk':(k:Int)<((xki l P ph).length:Int):=by omega
   have ix:=hms.ix xk7 (show k<(xki l P ph).length by omega)
   have ld:=λm=>xkn (m:=m) (show k<(xki l P ph).length by omega)
   have hsn:=open_snoc (l:=l) (ph:=ph) hk
   have hfl:=filt_len (N:=P.length) (k:=k) λi=>!decide (at0 (xki l P ph) i.toNat=0)
   simp only[x37]
   unfold x55 xbf
   by_cases c:at0 (xki l P ph) k=0
   .rw[x12c c,x13y]at hsn
    simp only[xkx,hk',x12o,xku,xka,ix,ld,sNe_I,c,x14t,xmk]
    unfold x4h
    simp(disch:=omega) [xk6]
    exact next b m _ ⟨⟨g2,g8,n1⟩,by rw[hsn];exact hG⟩
   .rw[x12b c]at hsn
    obtain⟨b2,m2,e1,e2,e3,e4⟩:=hG.app (s0:=fc+1+10) (bytes:=8) xk7 (by omega) (by unfold xkg;omega) (k:Int)
    simp only[xkx,hk',x12o,xku,xka,ix,ld]
    simp[c,xlo]
    rw[show ∀x:Int,elems m.get 1 (.slit [I x] 1 true)=some (intE x,1)from λ_=>rfl,e1]
    unfold x4h
    simp(disch:=omega) [xk6]
    exact next b2 m2 _ ⟨⟨by rw[e4 _ (by simp)];exact g2,by rw[e4 _ (by simp)];exact g8,by omega⟩,by rw[hsn];exact e2⟩
  .rintro n b m fc ⟨⟨g2,g8,n1⟩,hG⟩
   rw[x12g (by simp[freshM])]at hG
   have hG':Gr 1 intE 0 48 m b (xn1 l P ph):=hG
   simp only[x37]
   unfold x55 xbe
   simp only[hml,xkx,Int.lt_irrefl,x13k,xmk,xka,hG'.len xke,xpe]
   by_cases c2:0<(xn1 l P ph).length
   .have c2':(0:Int)<((xn1 l P ph).length:Int):=by omega
    have hS:xm7 l P ph wt D=26:=by unfold xm7;simp[hE,c1,c2]
    simp[c2]
    obtain⟨b',hb',hfb⟩:=hG'.frzk (k:=3) xk7 xm5
    exact RetF.mk (xwf rfl hfb frz_I) ⟨nilS,b',by rw[hS],Or.inl ⟨rfl,by unfold xnd;simp[hS]⟩,by unfold xoy;simp[hE,c1];exact hb'⟩
   .have hS:xm7 l P ph wt D=0:=by unfold xm7;simp[hE,c1,c2]
    obtain⟨v,hv,hsc⟩:=w_sums (d+1) hs hp hf hR hl hPl hT.lp (phM hT.hp) (by omega) m
    obtain⟨u,hu,hjc⟩:=xxp (d+11) hs hp hR (-1) m
    rw[xsa]at hu
    have c2':¬(0:Int)<((xn1 l P ph).length:Int):=by omega
    simp[c2,c2',g8,g2,hsc,hjc,hs.clean1,hp.clean1,hf.clean,cAp,tR,n1,Nat.blt]
    unfold xbd
    have hul:=((Lab.fresh l.length).joins hR.pr).len
    simp[hv.len xke,xls]
    refine xkq (N:=l.length) (λn k o m fc=>x36 (xk2 (d+13)) [] 0 n (I D) v u o v (I l.length) (I k) m fc)
     (λk o m=>Gk 1 intE (λid=>id.1=0/\(id.2.2=84\/id.2.2=87)) m o ((solM l P ph D).take k)) _ ?_ ?_ NN 0 nilS m _ (by omega) (by rw[xkj];omega) (by simpa using Gk.nil)
    .rintro n k o m fc hk hG next
     have hk':(k:Int)<(l.length:Int):=by omega
     have ixv:=hv.ix xk7 (show k<(phiL l.length (potM l.length P (xl4 (fW l P) l.length P) (phI ph))).length by rw[xls];omega)
     have ldv:=λm=>xkn (m:=m) (show k<(phiL l.length (potM l.length P (xl4 (fW l P) l.length P) (phI ph))).length by rw[xls];omega)
     have ixd:=hv.ixI xk7 (k:=D) d0 (by rw[xls];omega)
     have ldd:=λm=>xkn (m:=m) (show D.toNat<(phiL l.length (potM l.length P (xl4 (fW l P) l.length P) (phI ph))).length by rw[xls];omega)
     have ixu:=hu.ix xk7 (show k<(joinsM (freshM l.length) P).length by omega)
     have ldu:=λm=>xkn (m:=m) (show k<(joinsM (freshM l.length) P).length by omega)
     have ixe:=hu.ixI xk7 (k:=D) d0 (by omega)
     have lde:=λm=>xkn (m:=m) (show D.toNat<(joinsM (freshM l.length) P).length by omega)
     have gk:=xow (n:=l.length) (φ:=potM l.length P (xl4 (fW l P) l.length P) (phI ph)) (v:=(k:Int)) (by omega) hk'
     rw[x12t]at gk
     rw[gk]at ldv
     rw[xow d0 (by omega)]at ldd
     have bk:=xox hR hT.lp (phM hT.hp) (v:=(k:Int)) (by omega) hk'
     have bd:=xox hR hT.lp (phM hT.hp) (v:=D) d0 (by omega)
     have hsn:=sol_snoc (P:=P) (ph:=ph) (D:=D) hk
     have hol:((solM l P ph D).take k).length<=8:=by simp[xnq];omega
     unfold potL at bk bd
     simp only[x36]
     unfold x54 xbc
     simp only[xkx,hk',x12o,xku,xka,ixv,ldv,ixu,ldu,ixe,lde,sEq_I]
     by_cases c:at0 (joinsM (freshM l.length) P) k=at0 (joinsM (freshM l.length) P) D.toNat
     .have hx:solX l P ph D k=potM l.length P (xl4 (fW l P) l.length P) (phI ph) k-potM l.length P (xl4 (fW l P) l.length P) (phI ph) D:=by unfold solX labA potL;rw[x12t,x12c c]
      rw[hx]at hsn
      obtain⟨o2,m2,e1,e2,-,-,e3,-⟩:=hG.app (bytes:=8) (id0:=(0,fc+1+22,84)) xk7 (by omega) ⟨rfl,.inl rfl⟩ (by unfold xkg;omega) (potM l.length P (xl4 (fW l P) l.length P) (phI ph) k-potM l.length P (xl4 (fW l P) l.length P) (phI ph) D)
      simp only[c,x12o,xku,ixd,ldd,xka,xpd,xlo]
      rw[xk6 (by omega) (by omega)]
      simp only[xtn]
      rw[show ∀x:Int,elems m.get 1 (.slit [I x] 1 true)=some (intE x,1)from λ_=>rfl,e1]
      unfold x4g
      simp(disch:=omega) [xk6]
      exact next o2 m2 _ (by rw[hsn];exact e2)
     .have hx:solX l P ph D k=1000000000000:=by unfold solX labA;rw[x12t,x12b c]
      rw[hx]at hsn
      obtain⟨o2,m2,e1,e2,-,-,e3,-⟩:=hG.app (bytes:=8) (id0:=(0,fc+1+16,87)) xk7 (by omega) ⟨rfl,.inr rfl⟩ (by unfold xkg;omega) (1000000000000:Int)
      simp only[c,x13k,xmk,xlo,xtn]
      rw[show ∀x:Int,elems m.get 1 (.slit [I x] 1 true)=some (intE x,1)from λ_=>rfl,e1]
      unfold x4g
      simp(disch:=omega) [xk6]
      exact next o2 m2 _ (by rw[hsn];exact e2)
    .rintro n o m fc hG
     rw[x12g (by rw[xnq];exact x12f _)]at hG
     simp only[x36]
     unfold x54 xbb
     simp
     obtain⟨a',ha',hfa⟩:=hG.sl1 3
     have hO:xn1 l P ph=[]:=x144.mp (by omega)
     exact RetF.mk (xwf hfa rfl frz_I) ⟨a',nilS,by rw[hS],by unfold xnd;simp[hS];exact ha',Or.inl ⟨rfl,by unfold xoy;simp[hE,c1,hO]⟩⟩
theorem w_rAlong7(d:Nat){s p f g v:AV}{l:List Scene}{P:List Pq}{ph:List Int}(hs:Sl Scene.c s l)(hp:Sl Pq.c p P)(hf:Ints f ph)(hg1:g.one=true/\still1 g=true/\clean1 g=true)(hv:Ints v (xl4 (fW l P) l.length P))(hR:Right7 l P)(hph:ph.length=P.length){M:Nat}(hM:∀k,k<ph.length->(at0 ph k).natAbs<=M)(hMb:M<=10000000000)(m:Mem) :
 ∃a,Ints a (phiL l.length (potL l P ph))/\xk4 (xk2 (d+3)) xi [.agg [s,p,f,g],v] m=some (a,m):=
 xlq (by simp[hs.still1,hp.still1,hf.still1,hg1.2.1,hv.still]) (a_rAlong d hs hp hf hg1 hv hR hph hM hMb) m
theorem a_rMisses(d:Nat){s p f g:AV}{l:List Scene}{P:List Pq}{ph:List Int}(hs:Sl Scene.c s l)(hp:Sl Pq.c p P)(hf:Ints f ph)(hg1:g.one=true/\still1 g=true/\clean1 g=true)(hR:Right7 l P)(hph:ph.length=P.length){M:Nat}(hM:∀k,k<ph.length->(at0 ph k).natAbs<=M)(hMb:M<=10000000000) :
 RetF (λa=>Ints a (xki l P ph)) (xk2 (d+5) [] x1r [.agg [s,p,f,g]] mem0):=by
 have hll:=hR.ll
 have hpl:=hR.pl
 rw[xgx]
 unfold xah x7t
 generalize hm1:(⟨[],1⟩:Mem).new (0,0,1) (.row [s,p,f,g] 0 false)=m1
 have g1:m1.get (0,0,1)=some (.row [s,p,f,g] 0 false):=by rw[<-hm1];simp
 obtain⟨a,ha,hlc⟩:=xzx d hs hp hR m1
 obtain⟨v,hv,hac⟩:=w_rAlong7 (d+1) hs hp hf hg1 ha hR hph hM hMb m1
 simp[mem0,hs.one,hp.one,hf.one,hg1.1,hm1,g1,hlc,hac]
 unfold xdt
 have hnM:l.length*M<=60*10000000000:=x15e hll hMb
 refine xkq (N:=P.length) (λn k o m fc=>x44 (xk2 (d+4)) [] 0 n (.ptr (0,0,1) 0 0) v o (I k) m fc)
  (λk o m=>m.get (0,0,1)=some (.row [s,p,f,g] 0 false)/\Gr 1 intE 0 50 m o ((xki l P ph).take k)) _ ?_ ?_ NN 0 nilS m1 _ (by omega) (by rw[xkj];omega) ⟨g1,by simpa using Gr.nil⟩
 .rintro n k o m fc hk ⟨hg,hG⟩ next
  have hk':(k:Int)<(P.length:Int):=by omega
  have ip:=hp.ix Pq.len hk
  have lp:=λm=>xlt (m:=m) (enc:=Pq.c) Pq.len (by omega) hk
  have ixf:=hf.ix xk7 (show k<ph.length by omega)
  have ldf:=λm=>xkn (m:=m) (show k<ph.length by omega)
  have hsn:=xxj (l:=l) (P:=P) (ph:=ph) hk
  obtain⟨q0,q1,q2⟩:=hR.pr P[k] (x12s hk)
  rw[xq3 hk]at hsn
  generalize P[k]=q at *
  have ia:=hv.ixI xk7 (k:=q.a) q0 (by rw[xls];omega)
  have ib:=hv.ixI xk7 (k:=q.b) (by omega) (by rw[xls];omega)
  have la:=λm=>xkn (m:=m) (l:=phiL l.length (potL l P ph)) (k:=q.a.toNat) (by rw[xls];omega)
  have lb:=λm=>xkn (m:=m) (l:=phiL l.length (potL l P ph)) (k:=q.b.toNat) (by rw[xls];omega)
  rw[xow q0 (by omega)]at la
  rw[xow (by omega) q2]at lb
  have ba:=xox hR hph hM (v:=q.a) q0 (by omega)
  have bb:=xox hR hph hM (v:=q.b) (by omega) q2
  have bp:=hM k (by omega)
  simp only[Pq.c]at lp
  simp only[x44]
  unfold x7s
  simp[hg,hf.len xke,hph,hk,ip,lp,xmn]
  generalize hm2:Mem.set _ _ _=m2
  have g8:m2.get (0,fc+11,8)=some (.row [I q.a,I q.b] 0 false):=by rw[<-hm2];simp
  have g1:m2.get (0,0,1)=some (.row [s,p,f,g] 0 false):=by rw[<-hm2];simp[hg]
  have hG1:Gr 1 intE 0 50 m2 o ((xki l P ph).take k):=hG.frame λs=>by rw[<-hm2];simp
  obtain⟨o2,m3,e1,e2,e3,e4⟩:=hG1.app (s0:=fc+32) (bytes:=8) xk7 (by omega) (by unfold xkg;simp[xo4];omega) (at0 ph k-potL l P ph q.b+potL l P ph q.a)
  simp[g1,g8,hg,ixf,ldf,ia,ib,la,lb,xlo]
  have hw1:w64 (at0 ph k-potL l P ph q.b)=at0 ph k-potL l P ph q.b:=xk6 (by omega) (by omega)
  rw[hw1,xk6 (by omega) (by omega),xk6 (by omega) (by omega)]
  rw[show ∀x:Int,elems m2.get 1 (.slit [I x] 1 true)=some (intE x,1)from λ_=>rfl,e1]
  exact next o2 m3 _ ⟨by rw[e4 _ (by simp)];exact g1,by rw[hsn];exact e2⟩
 .rintro n o m fc ⟨hg,hG⟩
  rw[x12g (by rw[xo4];exact x12f _)]at hG
  simp only[x44]
  unfold x7s xds
  simp[hg,hf.len xke,hph]
  obtain⟨a',h1,h2⟩:=hG.frzk (k:=4) xk7 xm5
  exact RetF.mk h2 h1
theorem w_rMisses(d:Nat){s p f g:AV}{l:List Scene}{P:List Pq}{ph:List Int}(hs:Sl Scene.c s l)(hp:Sl Pq.c p P)(hf:Ints f ph)(hg1:g.one=true/\still1 g=true/\clean1 g=true)(hR:Right7 l P)(hph:ph.length=P.length){M:Nat}(hM:∀k,k<ph.length->(at0 ph k).natAbs<=M)(hMb:M<=10000000000)(m:Mem) :
 ∃a,Ints a (xki l P ph)/\xk4 (xk2 (d+5)) x1r [.agg [s,p,f,g]] m=some (a,m):=
 xlq (by simp[hs.still1,hp.still1,hf.still1,hg1.2.1]) (a_rMisses d hs hp hf hg1 hR hph hM hMb) m
theorem lab_mu{l:List Scene}{P:List Pq}(hR:Right7 l P):∃mu:Nat->Nat,(∀v,mu v<=v)/\(∀v,mu (mu v)=mu v)/\∀v,v<l.length->at0 (labA l P) v=(mu v:Nat):=by
 have hL:=(Lab.fresh l.length).joins hR.pr
 refine⟨λv=>if v<l.length then(at0 (labA l P) v).toNat else v,λv=>?_,λv=>?_,λv hv=>?_⟩
 .by_cases c:v<l.length
  .have:=hL.ok v c
   simp only[c,x12v]
   unfold labA
   omega
  .simp[c]
 .by_cases c:v<l.length
  .have h1:=hL.ok v c
   unfold labA at *
   simp only[c,x12v]
   have c2:(at0 (joinsM (freshM l.length) P) v).toNat<l.length:=by omega
   simp only[c2,x12v,h1.2.2]
  .simp[c]
 .have:=hL.ok v hv
  simp only[hv,x12v]
  unfold labA
  omega
theorem nm_iff{l:List Scene}{P:List Pq}(hR:Right7 l P){i j:Nat}(hi:i<l.length)(hj:j<l.length):(nmM (labA l P)).1.length=l.length/\(at0 (nmM (labA l P)).1 i=at0 (nmM (labA l P)).1 j↔at0 (labA l P) i=at0 (labA l P) j):=by
 obtain⟨mu,h1,h2,h3⟩:=lab_mu hR
 have hL:=((Lab.fresh l.length).joins hR.pr).len
 obtain⟨a,-,c⟩:=nb_can h1 h2 (ls:=labA l P) (n:=l.length) hL h3
 refine⟨a,(c i j hi hj).trans ?_⟩
 rw[h3 i hi,h3 j hj]
 omega
theorem xxq(d:Nat){s p f g:AV}{l:List Scene}{P:List Pq}{ph wt:List Int}(hs:Sl Scene.c s l)(hp:Sl Pq.c p P)(hf:Ints f ph)(hg:Ints g wt)(h1:ph.length<1000000)(h2:wt.length<1000000)(hfw:few7 l P=true)(D:Int)(m:Mem) :
 ∃a b,Ints a (xnd l P ph wt D)/\Ints b (xoy l P ph wt D)/\xk4 (xk2 (d+14)) xt [.agg [s,p,f,g],I D] m=some (.tup [a,b,I (xm7 l P ph wt D)],m):=by
 obtain⟨v,⟨a,b,rfl,e1,e2⟩,hc⟩:=xlq (by simp[hs.still1,hp.still1,hf.still1,hg.still1]) (a_Solved d hs hp hf hg h1 h2 hfw D) m
 exact⟨a,b,e1,e2,hc⟩
theorem sol_get{l:List Scene}{P:List Pq}{ph:List Int}{D v:Int}(h0:0<=v)(h1:v<l.length):at0 (solM l P ph D) v.toNat=solX l P ph D v:=by
 rw[xkl (by rw[xnq];omega)]
 simp[solM,freshM]
 rw[Int.max_eq_left h0]
theorem neq_bool7(x y:Operand)(a b:Bool):sBin Tryz.prog .neq x11 x y (B a) (B b)=some (B (!decide (a=b))):=by
 cases a<;>cases b<;>kernel_rfl
def RO(m:Mem)(id:Id)(a:AV)(l:List Int):Prop:=(l=[]/\(a=nilS\/a=.slit [] 0 true))\/(l≠[]/\a=.sref id 0 0 l.length 1 true/\Ow intE m id l)
theorem RO.fr{m m':Mem}{id:Id}{a:AV}{l:List Int}(h:RO m id a l)(e:m'.get id=m.get id):RO m' id a l:=by
 rcases h with h|⟨h0,h1,h2⟩
 .exact .inl h
 .exact .inr ⟨h0,h1,h2.fr e⟩
theorem RO.frz{m:Mem}{id:Id}{a:AV}{l:List Int}(h:RO m id a l)(k:Nat):∃a',Ints a' l/\Go.Ix.frz m.get (k+2) a=some a':=by
 rcases h with ⟨rfl,rfl|rfl⟩|⟨-,rfl,h⟩
 .exact⟨nilS,Or.inl ⟨rfl,rfl⟩,rfl⟩
 .exact⟨.slit [] 0 true,Sl.lit [] true,rfl⟩
 .exact⟨_,Sl.lit l false,xoq (k:=k) xk7 xm5 h⟩
theorem taskE_net{l:List Scene}{P:List Pq}{ph wt:List Int}(h:taskE l P ph wt=0):(net7 l P).2=0:=by
 unfold taskE at h
 by_cases he:(net7 l P).2=0
 .exact he
 .simp[he]at h
theorem xxr{l:List Scene}{P:List Pq}{ph:List Int}(hph:ph.length=P.length)(hO:xn1 l P ph=[]):∀{w:List Sp} {a b:Int},StOK7 P.length w->Wk P w a b->sumW (phI ph) w=potL l P ph b-potL l P ph a
 |[],a,b,_,hw=>by cases hw;simp[sumW]
 |x::r,a,b,hs,hw=>by
  obtain⟨h1,h2⟩:=hs x (x12m ..)
  have ih:=xxr hph hO (λy hy=>hs y (x12l _ hy)) hw.2
  have hm:at0 (xki l P ph) x.p.toNat=0:=by
   apply Classical.byContradiction
   intro hc
   have:x.p∈xn1 l P ph:=x130.mpr ⟨fresh_mem.mpr h1,by simpa using hc⟩
   rw[hO]at this
   cases this
  rw[xui (by omega),x13i h1.1]at hm
  have hfa:=hw.1
  rw[sumW,ih,<-hfa]
  unfold frS toS phI
  rcases h2 with e|e<;>rw[e]<;>simp<;>omega
end Go.Ix
