import Derived.Test.YtdfahbenacjgeaaWg11
import Derived.Test.YtdfahbenacjgeaaWg16
import Derived.Test.YtdfahbenacjgeaaWg0
import Derived.Test.YtdfahbenacjgeaaWg1
import Derived.Test.YtdfahbenacjgeaaWg10
set_option linter.unusedSimpArgs false
set_option linter.unusedVariables false
namespace Go.Ix
open Go.Proofs
def Edge.same(a b:Edge):Bool:=decide (a.fr=b.fr)&&(decide (a.to=b.to)&&(decide (a.jump=b.jump)&&decide (a.wt=b.wt)))
theorem Edge.same_iff{a b:Edge}:a.same b=true↔a=b:=by cases a;cases b;simp[Edge.same]
theorem Edge.still1(e:Edge):e.c.all Go.Ix.still1=true:=rfl
theorem all_take{N:Nat}{but:Int}{k:Nat}(hk:k<N):((freshM N).take (k+1)).filter (λi=>!decide (i=but))=((freshM N).take k).filter (λi=>!decide (i=but))++(if(k:Int)=but then[]else[(k:Int)]):=by rw[<-L5 hk,xex];congr 1;by_cases c:(k:Int)=but<;>simp[xek,c]
theorem uni_app1(n:Nat)(P:List Pq)(F:List Int)(i:Int):tU n P (F++[i])=sR (tU n P F) (qO P i):=by unfold tU prs;rw[xds,x7b];rfl
theorem a_pjoined(d:Nat){s p:AV}{l:List Scene}{P:List Pq}(hs:Sl Scene.c s l)(hp:Sl Pq.c p P)(hR:Right7 l P)(but:Int) :
 RetF (λa=>Ints a (tU l.length P (allM P.length but))) (qG (d+2) [] bR [.agg [s,p],I but] mem0):=by
 have hll:=hR.ll;have hpl:=hR.pl;rw[x1c];unfold lJ hJ;generalize hm1:(⟨[],1⟩:Mem).new (0,0,2) (.row [s,p] 0 false)=m1;have g2:m1.get (0,0,2)=some (.row [s,p] 0 false):=(by rw[<-hm1];simp);have n1:m1.next=1:=(by rw[<-hm1];rfl);obtain⟨a,M,hc,hG,hM,hfr⟩:=x7e d (n:=l.length) (by omega) m1;have gM:M.get (0,0,2)=some (.row [s,p] 0 false):=(by rw[hfr _ (by show 0<m1.next;omega)];exact g2);simp[mem0,hs.one,hp.one,hm1,g2,hs.len yZ,hc];unfold oF;simp[gM,hp.len A8];rw[n1]at hG;refine tW (N:=P.length) (σ:=Unit) (λn k _ m fc=>dY (qG (d+1)) [] 0 n (I but) a p (I P.length) (I k) m fc)
  (λk _ m=>1<m.next/\Gk 1 intE (λid=>id.1=1) m a (tU l.length P (((freshM P.length).take k).filter λi=>!decide (i=but)))) _ ?_ ?_ NN 0 () M _ (by omega) (by rw[rQ];omega) ⟨by omega,by simpa[tU,prs,joinsM]using hG⟩
 .rintro n k-m fc hk ⟨hn,hU⟩ next;have hk':(k:Int)<(P.length:Int):=(by omega);have ip:=hp.ix Pq.len hk;have lp:=λm=>vW (m:=m) (enc:=Pq.c) Pq.len (by omega) hk
  have hsn:=all_take (but:=but) hk;have hq:=hR.pr P[k] (xcp hk);have hpr:=M2 hk
  have hL:(tU l.length P (((freshM P.length).take k).filter λi=>!decide (i=but))).length=l.length:=(uni_lab (n:=l.length) (λi hi=>by
   have:=fresh_mem.mp (xfa (xcn.mp hi).1)
   exact⟨this,hR.at this⟩)).len
  generalize P[k]=q at *
  simp only[Pq.c]at lp;simp only[dY];unfold gZ oE;simp[hk',ip,lp,v3];generalize hm2:Mem.set _ _ _=m2;have g7:m2.get (0,fc+1+3,7)=some (.row [I q.a,I q.b] 0 false):=(by rw[<-hm2];simp);have hU2:Gk 1 intE (λid=>id.1=1) m2 a (tU l.length P (((freshM P.length).take k).filter λi=>!decide (i=but))):=hU.frame λj hj=>by have hj':j.1=1:=hj;rw[<-hm2,Mem.get_set,xc1 (by rintro rfl;simp at hj'),Mem.get_new,xc1 (by rintro rfl;simp at hj')]
  have n2:m2.next=m.next:=(by rw[<-hm2];rfl);by_cases c:(k:Int)=but
  .rw[xc2 c,xe6]at hsn;obtain rfl:but=(k:Int):=c.symm;unfold eW;simp(disch:=omega) [qQ];exact next () m2 _ ⟨by omega,by rw[hsn];exact hU2⟩
  .rw[xc1 c]at hsn;obtain⟨m3,e1,e2,e3,e4⟩:=c_join d [] hU2 (λj hj=>by have hj':j.1=1:=hj;omega) (p:=q) (by rw[hL];exact hq) (by rw[hL];omega);simp[c,g7,e1];unfold eW;simp(disch:=omega) [qQ];exact next () m3 _ ⟨by omega,by rw[hsn,uni_app1,hpr];exact e2⟩
 .rintro n-m fc ⟨hn,hU⟩;rw[xca (by simp[freshM])]at hU;simp only[dY];unfold gZ oD;simp;obtain⟨a',h1,h2⟩:=hU.sl1 4;exact RetF.mk h2 h1
theorem w_pjoined(d:Nat){s p:AV}{l:List Scene}{P:List Pq}(hs:Sl Scene.c s l)(hp:Sl Pq.c p P)(hR:Right7 l P)(but:Int)(m:Mem) :
 ∃a,Ints a (tU l.length P (allM P.length but))/\qK (qG (d+2)) bR [.agg [s,p],I but] m=some (a,m):=
 d8 (by simp[hs.still1,hp.still1]) (a_pjoined d hs hp hR but) m
def v9(l:List Scene)(P:List Pq):List Int:=joinsM (freshM l.length) P
noncomputable def zF(l:List Scene)(P:List Pq)(ph:List Int):List Int:=(freshM P.length).filter λi=>!decide (at0 (tN l P ph) i.toNat=0)
noncomputable def yH(l:List Scene)(P:List Pq)(ph:List Int)(D i:Int):Int:=if at0 (v9 l P) i.toNat=at0 (v9 l P) D.toNat then uG l P ph i-uG l P ph D else 1000000000000
noncomputable def vX(l:List Scene)(P:List Pq)(ph:List Int)(D:Int):List Int:=(freshM l.length).map (yH l P ph D)
theorem sol_snoc{l:List Scene}{P:List Pq}{ph:List Int}{D:Int}{k:Nat}(hk:k<l.length):(vX l P ph D).take (k+1)=(vX l P ph D).take k++[yH l P ph D k]:=by rw[xd9 (by simpa[vX,freshM]using hk)];simp[vX,freshM]
theorem M5{l:List Scene}{P:List Pq}{ph:List Int}{D:Int}:(vX l P ph D).length=l.length:=by simp[vX,freshM]
theorem open_snoc{l:List Scene}{P:List Pq}{ph:List Int}{k:Nat}(hk:k<P.length):((freshM P.length).take (k+1)).filter (λi=>!decide (at0 (tN l P ph) i.toNat=0))=((freshM P.length).take k).filter (λi=>!decide (at0 (tN l P ph) i.toNat=0))++(if at0 (tN l P ph) k=0 then[]else[(k:Int)]):=by rw[<-L5 hk,xex];congr 1;by_cases c:at0 (tN l P ph) k=0<;>simp[xek,c]
theorem filt_len{N k:Nat}(q:Int->Bool):(((freshM N).take k).filter q).length<=N:=by have h1:=xgm q ((freshM N).take k);have h2:((freshM N).take k).length<=N:=(by simp[freshM];omega);omega
noncomputable def wQ(l:List Scene)(P:List Pq)(ph wt:List Int)(D:Int):Int:=bif !decide (yF l P ph wt=0)then yF l P ph wt else bif !(wi D 0 ((l.length:Int)-1))then 6 else bif decide (0<(zF l P ph).length)then 26 else 0
noncomputable def y3(l:List Scene)(P:List Pq)(ph wt:List Int)(D:Int):List Int:=bif decide (wQ l P ph wt D=0)then vX l P ph D else[]
noncomputable def zG(l:List Scene)(P:List Pq)(ph wt:List Int)(D:Int):List Int:=bif decide (yF l P ph wt=0)&&wi D 0 ((l.length:Int)-1)then zF l P ph else[]
theorem phM{ph:List Int}(h:∀k,k<ph.length->-100000000<=at0 ph k/\at0 ph k<=100000000):∀k,k<ph.length->(at0 ph k).natAbs<=100000000:=λk hk=>by have:=h k hk;omega
theorem len_few{l:List Scene}{P:List Pq}(h:few7 l P=true)(hR:Right7 l P):l.length<=8/\P.length<=14:=by
 have h1:=hR.ll;have h2:=hR.pl;unfold few7 at h;by_cases c1:8<l.length
 .simp[c1,h1]at h
 .by_cases c2:14<P.length
  .simp[c2,h2]at h
  .omega
theorem a_Solved(d:Nat){s p f g:AV}{l:List Scene}{P:List Pq}{ph wt:List Int}(hs:Sl Scene.c s l)(hp:Sl Pq.c p P)(hf:Ints f ph)(hg:Ints g wt)(h1:ph.length<1000000)(h2:wt.length<1000000)(hfw:few7 l P=true)(D:Int) :
 RetF (λv=>∃a b,v=.tup [a,b,I (wQ l P ph wt D)]/\Ints a (y3 l P ph wt D)/\Ints b (zG l P ph wt D)) (qG (d+14) [] cS [.agg [s,p,f,g],I D] mem0):=by
 have fin:∀(e:Int) (m:Mem),e≠0->wQ l P ph wt D=e->zG l P ph wt D=[]->RetF (λv=>∃a b,v=.tup [a,b,I (wQ l P ph wt D)]/\Ints a (y3 l P ph wt D)/\Ints b (zG l P ph wt D)) (some (.tup [nilS,nilS,I e],m)):=λe m h0 he hB=>
  RetF.tup rfl ⟨nilS,nilS,by rw[he],Or.inl ⟨rfl,by unfold y3;rw[he];simp[h0]⟩,Or.inl ⟨rfl,hB⟩⟩
 rw[xw];unfold kS gD;simp[mem0,hs.one,hp.one,hf.one,hg.one,x81 (d+5) hs hp hf hg h1 h2];by_cases hE:yF l P ph wt=0;rotate_left
 .simp[hE];exact fin _ _ hE (by unfold wQ;simp[hE]) (by unfold zG;simp[hE])
 have hT:=x80 hE;have hR:=hT.r;obtain⟨hl,hPl⟩:=len_few hfw hR;simp[hE,z_graph];rw[show rI [nilS,nilS] [(0,2,AV.agg [s,p])]=some (.agg [s,p]) by simp[rI,tP]];simp[hs.one,hp.one,hs.len yZ];rw[qQ (by omega) (by omega)];generalize hm1:Mem.set _ _ _=m1;have g2:m1.get (0,0,2)=some (.row [s,p,f,g] 0 false):=(by rw[<-hm1];simp);have g8:m1.get (0,12,8)=some (.row [s,p] 0 false):=(by rw[<-hm1];simp);have n1:m1.next=1:=(by rw[<-hm1];rfl);simp[A6];cases c1:wi D 0 ((l.length:Int)-1)with
 |false=>simp;exact fin 6 _ (by omega) (by unfold wQ;simp[hE,c1]) (by unfold zG;simp[c1])
 |true=>
  obtain⟨d0,d1⟩:=xC c1;simp;unfold nJ;obtain⟨ms,hms,hmc⟩:=w_misses d hs hp hf hR hl hPl hT.lp (phM hT.hp) (by omega) m1;have hml:=G1 l P ph;simp[g8,g2,hmc,hms.len tH];refine tW (N:=P.length) (λn k b m fc=>dS (qG (d+13)) [] 0 n (I D) (.ptr (0,0,2) 0 0) (.ptr (0,12,8) 0 0) b ms (I (tN l P ph).length) (I k) m fc)
   (λk b m=>(m.get (0,0,2)=some (.row [s,p,f,g] 0 false)/\m.get (0,12,8)=some (.row [s,p] 0 false)/\m.next=1)/\Gr 1 intE 0 48 m b (((freshM P.length).take k).filter λi=>!decide (at0 (tN l P ph) i.toNat=0))) _ ?_ ?_ NN 0 nilS m1 _ (by omega) (by rw[rQ];omega) ⟨⟨g2,g8,n1⟩,by simpa using Gr.nil⟩
  .rintro n k b m fc hk ⟨⟨g2,g8,n1⟩,hG⟩ next;have hk':(k:Int)<((tN l P ph).length:Int):=(by omega);have ix:=hms.ix rX (show k<(tN l P ph).length by omega);have ld:=λm=>vQ (m:=m) (show k<(tN l P ph).length by omega)
   have hsn:=open_snoc (l:=l) (ph:=ph) hk;have hfl:=filt_len (N:=P.length) (k:=k) λi=>!decide (at0 (tN l P ph) i.toNat=0)
   simp only[dS];unfold gC nI;by_cases c:at0 (tN l P ph) k=0
   .rw[xc2 c,xe6]at hsn;simp only[sK,hk',xcc,sM,qV,ix,ld,z9,c,xdt,vP];unfold eU;simp(disch:=omega) [qQ];exact next b m _ ⟨⟨g2,g8,n1⟩,by rw[hsn];exact hG⟩
   .rw[xc1 c]at hsn;obtain⟨b2,m2,e1,e2,e3,e4⟩:=hG.app (s0:=fc+1+10) (bytes:=8) rX (by omega) (by unfold qW;omega) (k:Int);simp only[sK,hk',xcc,sM,qV,ix,ld];simp[c,wI];rw[show ∀x:Int,elems m.get 1 (.slit [I x] 1 true)=some (intE x,1)from λ_=>rfl,e1];unfold eU;simp(disch:=omega) [qQ];exact next b2 m2 _ ⟨⟨by rw[e4 _ (by simp)];exact g2,by rw[e4 _ (by simp)];exact g8,by omega⟩,by rw[hsn];exact e2⟩
  .rintro n b m fc ⟨⟨g2,g8,n1⟩,hG⟩;rw[xca (by simp[freshM])]at hG;have hG':Gr 1 intE 0 48 m b (zF l P ph):=hG;simp only[dS];unfold gC nH;simp only[hml,sK,Int.lt_irrefl,xd2,vP,qV,hG'.len tH,E7];by_cases c2:0<(zF l P ph).length
   .have c2':(0:Int)<((zF l P ph).length:Int):=(by omega);have hS:wQ l P ph wt D=26:=(by unfold wQ;simp[hE,c1,c2]);simp[c2];obtain⟨b',hb',hfb⟩:=hG'.frzk (k:=3) rX yY;exact RetF.mk (x6p rfl hfb frz_I) ⟨nilS,b',by rw[hS],Or.inl ⟨rfl,by unfold y3;simp[hS]⟩,by unfold zG;simp[hE,c1];exact hb'⟩
   .have hS:wQ l P ph wt D=0:=(by unfold wQ;simp[hE,c1,c2]);obtain⟨v,hv,hsc⟩:=w_sums (d+1) hs hp hf hR hl hPl hT.lp (phM hT.hp) (by omega) m;obtain⟨u,hu,hjc⟩:=w_pjoined (d+11) hs hp hR (-1) m;rw[uni_all]at hu;have c2':¬(0:Int)<((zF l P ph).length:Int):=(by omega);simp[c2,c2',g8,g2,hsc,hjc,hs.clean1,hp.clean1,hf.clean,cAp,tR,n1,Nat.blt];unfold nG;have hul:=((Lab.fresh l.length).joins hR.pr).len;simp[hv.len tH,wP];refine tW (N:=l.length) (λn k o m fc=>dR (qG (d+13)) [] 0 n (I D) v u o v (I l.length) (I k) m fc)
     (λk o m=>Gk 1 intE (λid=>id.1=0/\(id.2.2=84\/id.2.2=87)) m o ((vX l P ph D).take k)) _ ?_ ?_ NN 0 nilS m _ (by omega) (by rw[rQ];omega) (by simpa using Gk.nil)
    .rintro n k o m fc hk hG next;have hk':(k:Int)<(l.length:Int):=(by omega);have ixv:=hv.ix rX (show k<(uU l.length (uF l.length P (sS (fW l P) l.length P) (phI ph))).length by rw[wP];omega);have ldv:=λm=>vQ (m:=m) (show k<(uU l.length (uF l.length P (sS (fW l P) l.length P) (phI ph))).length by rw[wP];omega)
     have ixd:=hv.ixI rX (k:=D) d0 (by rw[wP];omega);have ldd:=λm=>vQ (m:=m) (show D.toNat<(uU l.length (uF l.length P (sS (fW l P) l.length P) (phI ph))).length by rw[wP];omega)
     have ixu:=hu.ix rX (show k<(joinsM (freshM l.length) P).length by omega);have ldu:=λm=>vQ (m:=m) (show k<(joinsM (freshM l.length) P).length by omega)
     have ixe:=hu.ixI rX (k:=D) d0 (by omega);have lde:=λm=>vQ (m:=m) (show D.toNat<(joinsM (freshM l.length) P).length by omega)
     have gk:=M0 (n:=l.length) (φ:=uF l.length P (sS (fW l P) l.length P) (phI ph)) (v:=(k:Int)) (by omega) hk';rw[xcr]at gk;rw[gk]at ldv;rw[M0 d0 (by omega)]at ldd;have bk:=M1 hR hT.lp (phM hT.hp) (v:=(k:Int)) (by omega) hk';have bd:=M1 hR hT.lp (phM hT.hp) (v:=D) d0 (by omega);have hsn:=sol_snoc (P:=P) (ph:=ph) (D:=D) hk;have hol:((vX l P ph D).take k).length<=8:=(by simp[M5];omega);unfold uG at bk bd;simp only[dR];unfold gB nF;simp only[sK,hk',xcc,sM,qV,ixv,ldv,ixu,ldu,ixe,lde,sEq_I];by_cases c:at0 (joinsM (freshM l.length) P) k=at0 (joinsM (freshM l.length) P) D.toNat
     .have hx:yH l P ph D k=uF l.length P (sS (fW l P) l.length P) (phI ph) k-uF l.length P (sS (fW l P) l.length P) (phI ph) D:=(by unfold yH v9 uG;rw[xcr,xc2 c]);rw[hx]at hsn;obtain⟨o2,m2,e1,e2,-,-,e3,-⟩:=hG.app (bytes:=8) (id0:=(0,fc+1+22,84)) rX (by omega) ⟨rfl,.inl rfl⟩ (by unfold qW;omega) (uF l.length P (sS (fW l P) l.length P) (phI ph) k-uF l.length P (sS (fW l P) l.length P) (phI ph) D);simp only[c,xcc,sM,ixd,ldd,qV,xV,wI];rw[qQ (by omega) (by omega)];simp only[T0];rw[show ∀x:Int,elems m.get 1 (.slit [I x] 1 true)=some (intE x,1)from λ_=>rfl,e1];unfold eT;simp(disch:=omega) [qQ];exact next o2 m2 _ (by rw[hsn];exact e2)
     .have hx:yH l P ph D k=1000000000000:=(by unfold yH v9;rw[xcr,xc1 c]);rw[hx]at hsn;obtain⟨o2,m2,e1,e2,-,-,e3,-⟩:=hG.app (bytes:=8) (id0:=(0,fc+1+16,87)) rX (by omega) ⟨rfl,.inr rfl⟩ (by unfold qW;omega) (1000000000000:Int);simp only[c,xd2,vP,wI,T0];rw[show ∀x:Int,elems m.get 1 (.slit [I x] 1 true)=some (intE x,1)from λ_=>rfl,e1];unfold eT;simp(disch:=omega) [qQ];exact next o2 m2 _ (by rw[hsn];exact e2)
    .rintro n o m fc hG;rw[xca (by rw[M5];exact xc7 _)]at hG;simp only[dR];unfold gB nE;simp;obtain⟨a',ha',hfa⟩:=hG.sl1 3;have hO:zF l P ph=[]:=xdy.mp (by omega);exact RetF.mk (x6p hfa rfl frz_I) ⟨a',nilS,by rw[hS],by unfold y3;simp[hS];exact ha',Or.inl ⟨rfl,by unfold zG;simp[hE,c1,hO]⟩⟩
theorem prAt_mem8{P:List Pq}{i:Int}(h0:0<=i)(h1:i<P.length):qO P i∈P:=by have:i.toNat<P.length:=(by omega);have e:=M2 this;rw[xd7 h0]at e;rw[e];exact xcp this
theorem x83{l:List Scene}{P:List Pq}{ph:List Int}(hR:Right7 l P){ψ:Int->Int}(h:∀k,k<P.length->at0 ph k=ψ (qO P k).b-ψ (qO P k).a) :
 (∀v:Nat,v<l.length->uG l P ph v=ψ v-ψ (at0 (v9 l P) v))/\zF l P ph=[]:=by
 have hT:=x7s hR.pr (fW l P);have hLab:=(Lab.fresh l.length).joins hR.pr;have hps:PotS P (sS (fW l P) l.length P) (phI ph) ψ:=λi hi=>by have hr:=hT.fo.rng i hi;have:=h i.toNat (by omega);rw[xd7 hr.1]at this;unfold phI;omega
 have hpot:∀v:Nat,v<l.length->uG l P ph v=ψ v-ψ (at0 (joinsM (freshM l.length) P) v):=λv hv=>by obtain⟨w,w1,w2,-,w4⟩:=root_way hR (ph:=ph) hv;rw[<-w4,hps.walk w1 w2]
 refine⟨hpot,?_⟩;unfold zF;rw[List.filter_eq_nil_iff];intro i hi;have hi2:=fresh_mem.mp hi;obtain⟨a0,a1,a2⟩:=hR.at hi2;have e1:=hpot (qO P i).a.toNat (by omega);have e2:=hpot (qO P i).b.toNat (by omega);have hm:=zD (Lab.fresh l.length) hR.pr (qO P i) (prAt_mem8 hi2.1 hi2.2);unfold Sm at hm;rw[hm]at e1;rw[xd7 (by omega)]at e1 e2;have hk:=h i.toNat (by omega);rw[xd7 hi2.1]at hk;rw[x7z (by omega),xd7 hi2.1,e1,e2,hk];simp;omega
def psi8(l:List Ep)(i:Int):Int:=(atE l i.toNat).ph
theorem ph8_full{l:List Ep}{P:List Pq}(hp:∀p∈P,PqIn l.length p):ph8 l P=P.map (phD l):=by unfold ph8;congr 1;rw[xew];intro p hm;obtain⟨h1,h2,h3⟩:=hp p hm;unfold inP;rw[wi_iff.mpr (⟨by omega,by omega⟩:0<=p.a/\p.a<=(l.length:Int)-1),wi_iff.mpr (⟨by omega,by omega⟩:0<=p.b/\p.b<=(l.length:Int)-1)];rfl
theorem ph8_at{l:List Ep}{P:List Pq}(hp:∀p∈P,PqIn l.length p){k:Nat}(hk:k<P.length):at0 (ph8 l P) k=psi8 l (qO P k).b-psi8 l (qO P k).a:=by rw[ph8_full hp,rJ (by simpa using hk),xgf,M2 hk];rfl
theorem sol8{l:List Ep}{P:List Pq}(hR:Right7 (scn8 l) P){D v:Nat}(hD:D<l.length)(hv:v<l.length) :
 (yH (scn8 l) P (ph8 l P) D v=(atE l v).ph-(atE l D).ph)\/yH (scn8 l) P (ph8 l P) D v=1000000000000:=by
 have hpr:∀p∈P,PqIn l.length p:=λp hp=>by have:=hR.pr p hp;rwa[yG]at this
 obtain⟨h1,-⟩:=x83 hR (ψ:=psi8 l) λk hk=>ph8_at hpr hk
 have ev:=h1 v (by rw[yG];exact hv);have eD:=h1 D (by rw[yG];exact hD);unfold yH;rw[xcr,xcr];by_cases c:at0 (v9 (scn8 l) P) v=at0 (v9 (scn8 l) P) D
 .rw[xc2 c,ev,eD,c];left;unfold psi8;rw[xcr,xcr];omega
 .rw[xc1 c];exact .inr rfl
theorem few8{l:List Ep}{P:List Pq}(h8:l.length<=8)(h12:P.length<=12):few7 (scn8 l) P=true:=by unfold few7;have h1:¬8<(scn8 l).length:=(by rw[yG];omega);have h2:¬62<(scn8 l).length:=(by rw[yG];omega);have h3:U0 (scn8 l)=true:=(by unfold U0;rw[xc8];intro x hx;unfold scn8 at hx;rw[xch]at hx;obtain⟨k,-,rfl⟩:=hx;exact xdz rfl);simp[h1,h2,show ¬14<P.length by omega,show ¬202<P.length by omega,h3]
theorem psL_sh{l:List Ep}{ps:List Int}{φ:Int}(h:∀i,i<l.length->at0 ps i=(atE l i).ph-φ):psL l ps=l.map (Ep.sh φ):=by refine(psL_eq (by simp) λi hi=>?_).symm;rw[xeb,xci hi,h i hi,xF hi];rfl
theorem frE_0{a b:Int}(h:frE a b=0):frN a b<=1000000000/\-1000000000<=frN a b/\frD a b<=1000000000:=by
 unfold frE at h;split at h
 .assumption
 .cases h
theorem x84{D x y z:Int}(h:uE D [x,y,z]=0):frE x D=0/\frE y D=0/\frE z D=0:=by
 simp only[uE]at h;by_cases c1:frE x D=0
 .by_cases c2:frE y D=0
  .by_cases c3:frE z D=0
   .exact⟨c1,c2,c3⟩
   .simp[c1,c2,c3]at h
  .simp[c1,c2]at h
 .simp[c1]at h
theorem x85(D:Int):∀L,uE D L=0\/uE D L=8
 |[]=>.inl rfl
 |v::r=>by
  rw[uE];by_cases c:frE v D=0
  .simp only[c,xcc,sN];exact x85 D r
  .simp only[c,xd2,uZ];unfold frE at c ⊢;split
   .rename_i h;rw[xc2 h]at c;exact absurd rfl c
   .exact .inr rfl
theorem solE_err{s:ByteArray}{l:List Ep}(h:sH s l=0):tF s l=0\/tF s l=30\/tF s l=8:=by
 unfold tF;by_cases c:vR s l=0
 .simp only[c,xcc,sN];rcases x85 (rH (nmW l)) (tY (nmW l))with h1|h1<;>simp[h1]
 .simp only[c,xd2,uZ];unfold vR at c ⊢;rw[h]at c ⊢;cases c2:decide (rH (nmW l)=0)with
  |true=>simp[c2]
  |false=>simp[c2]at c
theorem sol_sh{s:ByteArray}{l:List Ep}{φ:Int}(h:tF s l=0)(h':tF s (l.map (Ep.sh φ))=0)(h8:l.length<=8) :
 ∃a b c e f g:Int,sQ s l=[I a,I b,I c,I e,I f,I g]/\sQ s (l.map (Ep.sh φ))=[I a,I b,I c,I e,I (f-φ*g),I g]/\(-1000000000<=f/\f<=1000000000)/\(0<=g/\g<=1000000000)/\(-1000000000<=f-φ*g/\f-φ*g<=1000000000):=by
 have hs:vR s l=0:=by
  unfold tF at h;by_cases c:vR s l=0
  .exact c
  .simp[c]at h
 have hs':vR s (l.map (Ep.sh φ))=0:=by
  unfold tF at h';by_cases c:vR s (l.map (Ep.sh φ))=0
  .exact c
  .simp[c]at h'
 obtain⟨c1,c2⟩:=U5 hs;obtain⟨c1',c2'⟩:=U5 hs';obtain⟨-,-,hd0,hall⟩:=F3 c1;obtain⟨-,-,hd0',hall'⟩:=F3 c1';obtain⟨hnw,hnb⟩:=T8 hd0 hall h8;obtain⟨hnw',hnb'⟩:=T8 hd0' hall' (by simpa using h8);obtain⟨⟨q1,-⟩,⟨q2,-⟩,⟨q3,-⟩,⟨q4,-⟩⟩:=T9 hnb;obtain⟨⟨r1,-⟩,⟨r2,-⟩,⟨r3,-⟩,⟨r4,-⟩⟩:=T9 hnb';obtain⟨t1,t2,t3,t4⟩:=fit_sh (nmI_sh φ l);rw[<-hnw]at q1 q2 q3 q4 t1 t2 t3 t4;rw[<-hnw']at r1 r2 r3 r4 t1 t2 t3 t4;have e1:rH (nmW (l.map (Ep.sh φ)))=rH (nmW l):=(by rw[r1,q1,t1]);have e2:vA (nmW (l.map (Ep.sh φ)))=vA (nmW l):=(by rw[r2,q2,t2]);have e3:vB (nmW (l.map (Ep.sh φ)))=vB (nmW l):=(by rw[r3,q3,t3]);have e4:uP (nmW (l.map (Ep.sh φ)))=uP (nmW l)-φ*rH (nmW l):=(by rw[r4,q4,t4,q1]);have hf:uE (rH (nmW l)) (tY (nmW l))=0:=(by unfold tF at h;simpa[hs]using h);have hf':uE (rH (nmW (l.map (Ep.sh φ)))) (tY (nmW (l.map (Ep.sh φ))))=0:=(by unfold tF at h';simpa[hs']using h');have f1:=frE_0 (x84 hf).2.2;have f2:=frE_0 (x84 hf').2.2;obtain⟨g1,g2⟩:=fr_sh (a:=uP (nmW l)) (b:=rH (nmW l)) (φ:=φ) c2;rw[e1,e4,g2]at f2;have hC:sQ s l=((tY (nmW l)).map (frP (rH (nmW l)))).flatMap frC:=(by unfold sQ;simp[h]);have hC':sQ s (l.map (Ep.sh φ))=((tY (nmW (l.map (Ep.sh φ)))).map (frP (rH (nmW (l.map (Ep.sh φ)))))).flatMap frC:=(by unfold sQ;simp[h']);refine⟨frN (vA (nmW l)) (rH (nmW l)),frD (vA (nmW l)) (rH (nmW l)),frN (vB (nmW l)) (rH (nmW l)),frD (vB (nmW l)) (rH (nmW l)),frN (uP (nmW l)) (rH (nmW l)),frD (uP (nmW l)) (rH (nmW l)),by rw[hC];rfl,?_,⟨by omega,by omega⟩,⟨frD_pos c2,by omega⟩,⟨by omega,by omega⟩⟩;rw[hC'];simp only[tY,e1,e2,e3,e4,xcj,xcy,frP,xct,xge,frC,g1,g2];rfl
end Go.Ix
