import Derived.Test.YtpeakdjfagbpcaaGreatWg15
import Derived.Test.YtpeakdjfagbpcaaGreatWg16
import Derived.Test.YtpeakdjfagbpcaaGreatWg10
import Derived.Test.YtpeakdjfagbpcaaGreatWg8
set_option linter.unusedSimpArgs false
set_option linter.unusedVariables false
namespace Go.Ix
open Go.Proofs
theorem all_take{N:Nat}{but:Int}{k:Nat}(hk:k<N):((freshM N).take (k+1)).filter (fun i=>!decide (i=but))=((freshM N).take k).filter (fun i=>!decide (i=but))++(if(k:Int)=but then[]else[(k:Int)]):=by
 rw[<-x2nq hk,List.filter_append]
 congr 1
 by_cases c:(k:Int)=but<;>simp[List.filter_cons,c]
theorem uni_app1(n:Nat)(P:List Pq)(F:List Int)(i:Int):uniM n P (F++[i])=x2ga (uniM n P F) (prAt P i):=by
 unfold uniM prs
 rw[List.map_append,x2s0]
 rfl
theorem a_pjoined(d:Nat){s p:AV}{l:List Scene}{P:List Pq}(hs:Sl Scene.c s l)(hp:Sl Pq.c p P)(hR:Right7 l P)(but:Int) :
 RetF (fun a=>Ints a (uniM l.length P (allM P.length but))) (x2f7 (d+2) [] x4w [.agg [s,p],I but] mem0):=by
 have hll:=hR.ll
 have hpl:=hR.pl
 rw[x1cq]
 unfold xfx xih
 generalize hm1:(⟨[],1⟩:Mem).new (0,0,2) (.row [s,p] 0 false)=m1
 have g2:m1.get (0,0,2)=some (.row [s,p] 0 false):=by rw[<-hm1];simp
 have n1:m1.next=1:=by rw[<-hm1];rfl
 obtain⟨a,M,hc,hG,hM,hfr⟩:=x2s5 d (n:=l.length) (by omega) m1
 have gM:M.get (0,0,2)=some (.row [s,p] 0 false):=by rw[hfr _ (by show 0<m1.next;omega)];exact g2
 simp[mem0,hs.one,hp.one,hm1,g2,hs.len x2gl,hc]
 unfold xdb
 simp[gM,hp.len x2h6]
 rw[n1]at hG
 refine x2gh (N:=P.length) (σ:=Unit) (fun n k _ m fc=>x3z (x2f7 (d+1)) [] 0 n (I but) a p (I P.length) (I k) m fc)
  (fun k _ m=>1<m.next/\Gk 1 intE (fun id=>id.1=1) m a (uniM l.length P (((freshM P.length).take k).filter fun i=>!decide (i=but)))) _ ?_ ?_ NN 0 () M _ (by omega) (by rw[x2fs];omega) ⟨by omega,by simpa[uniM,prs,joinsM]using hG⟩
 .rintro n k-m fc hk ⟨hn,hU⟩ next
  have hk':(k:Int)<(P.length:Int):=by omega
  have ip:=hp.ix Pq.len hk
  have lp:=fun m=>x2he (m:=m) (enc:=Pq.c) Pq.len (by omega) hk
  have hsn:=all_take (but:=but) hk
  have hq:=hR.pr P[k] (List.getElem_mem hk)
  have hpr:=x2ss hk
  have hL:(uniM l.length P (((freshM P.length).take k).filter fun i=>!decide (i=but))).length=l.length:=(uni_lab (n:=l.length) (fun i hi=>by
   have:=fresh_mem.mp (List.mem_of_mem_take (List.mem_filter.mp hi).1)
   exact⟨this,hR.at this⟩)).len
  generalize P[k]=q at *
  simp only[Pq.c]at lp
  simp only[x3z]
  unfold xda xd9
  simp[hk',ip,lp,x2km]
  generalize hm2:Mem.set _ _ _=m2
  have g7:m2.get (0,fc+1+3,7)=some (.row [I q.a,I q.b] 0 false):=by rw[<-hm2];simp
  have hU2:Gk 1 intE (fun id=>id.1=1) m2 a (uniM l.length P (((freshM P.length).take k).filter fun i=>!decide (i=but))):=hU.frame fun j hj=>by
   have hj':j.1=1:=hj
   rw[<-hm2,Mem.get_set,if_neg (by rintro rfl;simp at hj'),Mem.get_new,if_neg (by rintro rfl;simp at hj')]
  have n2:m2.next=m.next:=by rw[<-hm2];rfl
  by_cases c:(k:Int)=but
  .rw[if_pos c,List.append_nil]at hsn
   obtain rfl:but=(k:Int):=c.symm
   unfold x6t
   simp(disch:=omega) [x2fe]
   exact next () m2 _ ⟨by omega,by rw[hsn];exact hU2⟩
  .rw[if_neg c]at hsn
   obtain⟨m3,e1,e2,e3,e4⟩:=c_join d [] hU2 (fun j hj=>by have hj':j.1=1:=hj;omega) (p:=q) (by rw[hL];exact hq) (by rw[hL];omega)
   simp[c,g7,e1]
   unfold x6t
   simp(disch:=omega) [x2fe]
   exact next () m3 _ ⟨by omega,by rw[hsn,uni_app1,hpr];exact e2⟩
 .rintro n-m fc ⟨hn,hU⟩
  rw[List.take_of_length_le (by simp[freshM])]at hU
  simp only[x3z]
  unfold xda x1p
  simp
  obtain⟨a',h1,h2⟩:=hU.sl1 4
  exact RetF.mk h2 h1
theorem w_pjoined(d:Nat){s p:AV}{l:List Scene}{P:List Pq}(hs:Sl Scene.c s l)(hp:Sl Pq.c p P)(hR:Right7 l P)(but:Int)(m:Mem) :
 ∃a,Ints a (uniM l.length P (allM P.length but))/\x2f8 (x2f7 (d+2)) x4w [.agg [s,p],I but] m=some (a,m):=
 x2id (by simp[hs.still1,hp.still1]) (a_pjoined d hs hp hR but) m
def labA(l:List Scene)(P:List Pq):List Int:=joinsM (freshM l.length) P
noncomputable def x2if(l:List Scene)(P:List Pq)(ph:List Int):List Int:=(freshM P.length).filter fun i=>!decide (at0 (x2g3 l P ph) i.toNat=0)
noncomputable def solX(l:List Scene)(P:List Pq)(ph:List Int)(D i:Int):Int:=if at0 (labA l P) i.toNat=at0 (labA l P) D.toNat then potL l P ph i-potL l P ph D else 1000000000000
noncomputable def solM(l:List Scene)(P:List Pq)(ph:List Int)(D:Int):List Int:=(freshM l.length).map (solX l P ph D)
theorem sol_snoc{l:List Scene}{P:List Pq}{ph:List Int}{D:Int}{k:Nat}(hk:k<l.length):(solM l P ph D).take (k+1)=(solM l P ph D).take k++[solX l P ph D k]:=by
 rw[List.take_succ_eq_append_getElem (by simpa[solM,freshM]using hk)]
 simp[solM,freshM]
theorem sol_len{l:List Scene}{P:List Pq}{ph:List Int}{D:Int}:(solM l P ph D).length=l.length:=by simp[solM,freshM]
theorem open_snoc{l:List Scene}{P:List Pq}{ph:List Int}{k:Nat}(hk:k<P.length):((freshM P.length).take (k+1)).filter (fun i=>!decide (at0 (x2g3 l P ph) i.toNat=0))=((freshM P.length).take k).filter (fun i=>!decide (at0 (x2g3 l P ph) i.toNat=0))++(if at0 (x2g3 l P ph) k=0 then[]else[(k:Int)]):=by
 rw[<-x2nq hk,List.filter_append]
 congr 1
 by_cases c:at0 (x2g3 l P ph) k=0<;>simp[List.filter_cons,c]
theorem filt_len{N k:Nat}(q:Int->Bool):(((freshM N).take k).filter q).length<=N:=by
 have h1:=List.length_filter_le q ((freshM N).take k)
 have h2:((freshM N).take k).length<=N:=by simp[freshM];omega
 omega
noncomputable def x2hu(l:List Scene)(P:List Pq)(ph wt:List Int)(D:Int):Int:=bif !decide (taskE l P ph wt=0)then taskE l P ph wt else bif !(wi D 0 ((l.length:Int)-1))then 6 else bif decide (0<(x2if l P ph).length)then 26 else 0
noncomputable def x2m4(l:List Scene)(P:List Pq)(ph wt:List Int)(D:Int):List Int:=bif decide (x2hu l P ph wt D=0)then solM l P ph D else[]
noncomputable def x2iv(l:List Scene)(P:List Pq)(ph wt:List Int)(D:Int):List Int:=bif decide (taskE l P ph wt=0)&&wi D 0 ((l.length:Int)-1)then x2if l P ph else[]
theorem phM{ph:List Int}(h:∀k,k<ph.length->-100000000<=at0 ph k/\at0 ph k<=100000000):∀k,k<ph.length->(at0 ph k).natAbs<=100000000:=fun k hk=>by have:=h k hk;omega
theorem len_few{l:List Scene}{P:List Pq}(h:few7 l P=true)(hR:Right7 l P):l.length<=8/\P.length<=14:=by
 have h1:=hR.ll
 have h2:=hR.pl
 unfold few7 at h
 by_cases c1:8<l.length
 .simp[c1,h1]at h
 .by_cases c2:14<P.length
  .simp[c2,h2]at h
  .omega
theorem a_Solved(d:Nat){s p f g:AV}{l:List Scene}{P:List Pq}{ph wt:List Int}(hs:Sl Scene.c s l)(hp:Sl Pq.c p P)(hf:Ints f ph)(hg:Ints g wt)(h1:ph.length<1000000)(h2:wt.length<1000000)(hfw:few7 l P=true)(D:Int) :
 RetF (fun v=>∃a b,v=.tup [a,b,I (x2hu l P ph wt D)]/\Ints a (x2m4 l P ph wt D)/\Ints b (x2iv l P ph wt D)) (x2f7 (d+14) [] x2m [.agg [s,p,f,g],I D] mem0):=by
 have fin:∀(e:Int) (m:Mem),e≠0->x2hu l P ph wt D=e->x2iv l P ph wt D=[]->RetF (fun v=>∃a b,v=.tup [a,b,I (x2hu l P ph wt D)]/\Ints a (x2m4 l P ph wt D)/\Ints b (x2iv l P ph wt D)) (some (.tup [nilS,nilS,I e],m)):=fun e m h0 he hB=>
  RetF.tup rfl ⟨nilS,nilS,by rw[he],Or.inl ⟨rfl,by unfold x2m4;rw[he];simp[h0]⟩,Or.inl ⟨rfl,hB⟩⟩
 rw[x1c9]
 unfold xfd xh9
 simp[mem0,hs.one,hp.one,hf.one,hg.one,x2pu (d+5) hs hp hf hg h1 h2]
 by_cases hE:taskE l P ph wt=0
 rotate_left
 .simp[hE]
  exact fin _ _ hE (by unfold x2hu;simp[hE]) (by unfold x2iv;simp[hE])
 have hT:=x2m3 hE
 have hR:=hT.r
 obtain⟨hl,hPl⟩:=len_few hfw hR
 simp[hE,x2nt]
 rw[show x2fi [nilS,nilS] [(0,2,AV.agg [s,p])]=some (.agg [s,p]) by simp[x2fi,x2gc]]
 simp[hs.one,hp.one,hs.len x2gl]
 rw[x2fe (by omega) (by omega)]
 generalize hm1:Mem.set _ _ _=m1
 have g2:m1.get (0,0,2)=some (.row [s,p,f,g] 0 false):=by rw[<-hm1];simp
 have g8:m1.get (0,12,8)=some (.row [s,p] 0 false):=by rw[<-hm1];simp
 have n1:m1.next=1:=by rw[<-hm1];rfl
 simp[x2kl]
 cases c1:wi D 0 ((l.length:Int)-1)with
 |false=>
  simp
  exact fin 6 _ (by omega) (by unfold x2hu;simp[hE,c1]) (by unfold x2iv;simp[c1])
 |true=>
  obtain⟨d0,d1⟩:=wi_t c1
  simp
  unfold xcc
  obtain⟨ms,hms,hmc⟩:=w_misses d hs hp hf hR hl hPl hT.lp (phM hT.hp) (by omega) m1
  have hml:=x2kt l P ph
  simp[g8,g2,hmc,hms.len x2fu]
  refine x2gh (N:=P.length) (fun n k b m fc=>x3j (x2f7 (d+13)) [] 0 n (I D) (.ptr (0,0,2) 0 0) (.ptr (0,12,8) 0 0) b ms (I (x2g3 l P ph).length) (I k) m fc)
   (fun k b m=>(m.get (0,0,2)=some (.row [s,p,f,g] 0 false)/\m.get (0,12,8)=some (.row [s,p] 0 false)/\m.next=1)/\Gr 1 intE 0 48 m b (((freshM P.length).take k).filter fun i=>!decide (at0 (x2g3 l P ph) i.toNat=0))) _ ?_ ?_ NN 0 nilS m1 _ (by omega) (by rw[x2fs];omega) ⟨⟨g2,g8,n1⟩,by simpa using Gr.nil⟩
  .rintro n k b m fc hk ⟨⟨g2,g8,n1⟩,hG⟩ next
   have hk':(k:Int)<((x2g3 l P ph).length:Int):=by omega
   have ix:=hms.ix x2fq (show k<(x2g3 l P ph).length by omega)
   have ld:=fun m=>x2gr (m:=m) (show k<(x2g3 l P ph).length by omega)
   have hsn:=open_snoc (l:=l) (ph:=ph) hk
   have hfl:=filt_len (N:=P.length) (k:=k) fun i=>!decide (at0 (x2g3 l P ph) i.toNat=0)
   simp only[x3j]
   unfold xcb xca
   by_cases c:at0 (x2g3 l P ph) k=0
   .rw[if_pos c,List.append_nil]at hsn
    simp only[x2g6,hk',decide_true,x2gd,x2fj,ix,ld,sNe_I,c,Bool.not_true,x2iq]
    unfold x6q
    simp(disch:=omega) [x2fe]
    exact next b m _ ⟨⟨g2,g8,n1⟩,by rw[hsn];exact hG⟩
   .rw[if_neg c]at hsn
    obtain⟨b2,m2,e1,e2,e3,e4⟩:=hG.app (s0:=fc+1+10) (bytes:=8) x2fq (by omega) (by unfold x2fh;omega) (k:Int)
    simp only[x2g6,hk',decide_true,x2gd,x2fj,ix,ld]
    simp[c,x2hj]
    rw[show ∀x:Int,elems m.get 1 (.slit [I x] 1 true)=some (intE x,1)from fun _=>rfl,e1]
    unfold x6q
    simp(disch:=omega) [x2fe]
    exact next b2 m2 _ ⟨⟨by rw[e4 _ (by simp)];exact g2,by rw[e4 _ (by simp)];exact g8,by omega⟩,by rw[hsn];exact e2⟩
  .rintro n b m fc ⟨⟨g2,g8,n1⟩,hG⟩
   rw[List.take_of_length_le (by simp[freshM])]at hG
   have hG':Gr 1 intE 0 48 m b (x2if l P ph):=hG
   simp only[x3j]
   unfold xcb x1k
   simp only[hml,x2g6,Int.lt_irrefl,decide_false,x2iq,x2fj,hG'.len x2fu,x2ki]
   by_cases c2:0<(x2if l P ph).length
   .have c2':(0:Int)<((x2if l P ph).length:Int):=by omega
    have hS:x2hu l P ph wt D=26:=by unfold x2hu;simp[hE,c1,c2]
    simp[c2]
    obtain⟨b',hb',hfb⟩:=hG'.frzk (k:=3) x2fq x2ji
    exact RetF.mk (x2rm rfl hfb frz_I) ⟨nilS,b',by rw[hS],Or.inl ⟨rfl,by unfold x2m4;simp[hS]⟩,by unfold x2iv;simp[hE,c1];exact hb'⟩
   .have hS:x2hu l P ph wt D=0:=by unfold x2hu;simp[hE,c1,c2]
    obtain⟨v,hv,hsc⟩:=w_sums (d+1) hs hp hf hR hl hPl hT.lp (phM hT.hp) (by omega) m
    obtain⟨u,hu,hjc⟩:=w_pjoined (d+11) hs hp hR (-1) m
    rw[uni_all]at hu
    have c2':¬(0:Int)<((x2if l P ph).length:Int):=by omega
    simp[c2,c2',g8,g2,hsc,hjc,hs.clean1,hp.clean1,hf.clean,cAp,tR,n1,Nat.blt]
    unfold xc9
    have hul:=((Lab.fresh l.length).joins hR.pr).len
    simp[hv.len x2fu,x2i3]
    refine x2gh (N:=l.length) (fun n k o m fc=>x3i (x2f7 (d+13)) [] 0 n (I D) v u o v (I l.length) (I k) m fc)
     (fun k o m=>Gk 1 intE (fun id=>id.1=0/\(id.2.2=84\/id.2.2=87)) m o ((solM l P ph D).take k)) _ ?_ ?_ NN 0 nilS m _ (by omega) (by rw[x2fs];omega) (by simpa using Gk.nil)
    .rintro n k o m fc hk hG next
     have hk':(k:Int)<(l.length:Int):=by omega
     have ixv:=hv.ix x2fq (show k<(phiL l.length (potM l.length P (x2gj (fW l P) l.length P) (phI ph))).length by rw[x2i3];omega)
     have ldv:=fun m=>x2gr (m:=m) (show k<(phiL l.length (potM l.length P (x2gj (fW l P) l.length P) (phI ph))).length by rw[x2i3];omega)
     have ixd:=hv.ixI x2fq (k:=D) d0 (by rw[x2i3];omega)
     have ldd:=fun m=>x2gr (m:=m) (show D.toNat<(phiL l.length (potM l.length P (x2gj (fW l P) l.length P) (phI ph))).length by rw[x2i3];omega)
     have ixu:=hu.ix x2fq (show k<(joinsM (freshM l.length) P).length by omega)
     have ldu:=fun m=>x2gr (m:=m) (show k<(joinsM (freshM l.length) P).length by omega)
     have ixe:=hu.ixI x2fq (k:=D) d0 (by omega)
     have lde:=fun m=>x2gr (m:=m) (show D.toNat<(joinsM (freshM l.length) P).length by omega)
     have gk:=x2nv (n:=l.length) (φ:=potM l.length P (x2gj (fW l P) l.length P) (phI ph)) (v:=(k:Int)) (by omega) hk'
     rw[Int.toNat_natCast]at gk
     rw[gk]at ldv
     rw[x2nv d0 (by omega)]at ldd
     have bk:=x2nw hR hT.lp (phM hT.hp) (v:=(k:Int)) (by omega) hk'
     have bd:=x2nw hR hT.lp (phM hT.hp) (v:=D) d0 (by omega)
     have hsn:=sol_snoc (P:=P) (ph:=ph) (D:=D) hk
     have hol:((solM l P ph D).take k).length<=8:=by simp[sol_len];omega
     unfold potL at bk bd
     simp only[x3i]
     unfold xc8 xc7
     simp only[x2g6,hk',decide_true,x2gd,x2fj,ixv,ldv,ixu,ldu,ixe,lde,sEq_I]
     by_cases c:at0 (joinsM (freshM l.length) P) k=at0 (joinsM (freshM l.length) P) D.toNat
     .have hx:solX l P ph D k=potM l.length P (x2gj (fW l P) l.length P) (phI ph) k-potM l.length P (x2gj (fW l P) l.length P) (phI ph) D:=by unfold solX labA potL;rw[Int.toNat_natCast,if_pos c]
      rw[hx]at hsn
      obtain⟨o2,m2,e1,e2,-,-,e3,-⟩:=hG.app (bytes:=8) (id0:=(0,fc+1+22,84)) x2fq (by omega) ⟨rfl,.inl rfl⟩ (by unfold x2fh;omega) (potM l.length P (x2gj (fW l P) l.length P) (phI ph) k-potM l.length P (x2gj (fW l P) l.length P) (phI ph) D)
      simp only[c,decide_true,x2gd,ixd,ldd,x2fj,x2jg,x2hj]
      rw[x2fe (by omega) (by omega)]
      simp only[mkLit_I]
      rw[show ∀x:Int,elems m.get 1 (.slit [I x] 1 true)=some (intE x,1)from fun _=>rfl,e1]
      unfold x6p
      simp(disch:=omega) [x2fe]
      exact next o2 m2 _ (by rw[hsn];exact e2)
     .have hx:solX l P ph D k=1000000000000:=by unfold solX labA;rw[Int.toNat_natCast,if_neg c]
      rw[hx]at hsn
      obtain⟨o2,m2,e1,e2,-,-,e3,-⟩:=hG.app (bytes:=8) (id0:=(0,fc+1+16,87)) x2fq (by omega) ⟨rfl,.inr rfl⟩ (by unfold x2fh;omega) (1000000000000:Int)
      simp only[c,decide_false,x2iq,x2hj,mkLit_I]
      rw[show ∀x:Int,elems m.get 1 (.slit [I x] 1 true)=some (intE x,1)from fun _=>rfl,e1]
      unfold x6p
      simp(disch:=omega) [x2fe]
      exact next o2 m2 _ (by rw[hsn];exact e2)
    .rintro n o m fc hG
     rw[List.take_of_length_le (by rw[sol_len];exact Nat.le_refl _)]at hG
     simp only[x3i]
     unfold xc8 x1j
     simp
     obtain⟨a',ha',hfa⟩:=hG.sl1 3
     have hO:x2if l P ph=[]:=List.length_eq_zero_iff.mp (by omega)
     exact RetF.mk (x2rm hfa rfl frz_I) ⟨a',nilS,by rw[hS],by unfold x2m4;simp[hS];exact ha',Or.inl ⟨rfl,by unfold x2iv;simp[hE,c1,hO]⟩⟩
theorem w_Solved(d:Nat){s p f g:AV}{l:List Scene}{P:List Pq}{ph wt:List Int}(hs:Sl Scene.c s l)(hp:Sl Pq.c p P)(hf:Ints f ph)(hg:Ints g wt)(h1:ph.length<1000000)(h2:wt.length<1000000)(hfw:few7 l P=true)(D:Int)(m:Mem) :
 ∃a b,Ints a (x2m4 l P ph wt D)/\Ints b (x2iv l P ph wt D)/\x2f8 (x2f7 (d+14)) x2m [.agg [s,p,f,g],I D] m=some (.tup [a,b,I (x2hu l P ph wt D)],m):=by
 obtain⟨v,⟨a,b,rfl,e1,e2⟩,hc⟩:=x2id (by simp[hs.still1,hp.still1,hf.still1,hg.still1]) (a_Solved d hs hp hf hg h1 h2 hfw D) m
 exact⟨a,b,e1,e2,hc⟩
end Go.Ix
