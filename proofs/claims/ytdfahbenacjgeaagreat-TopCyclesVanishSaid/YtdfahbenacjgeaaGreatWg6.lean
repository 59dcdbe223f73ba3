import Derived.Test.YtdfahbenacjgeaaGreatWg5
import Derived.Test.YtdfahbenacjgeaaGreatWg2
import Derived.Test.YtdfahbenacjgeaaGreatWg4
set_option linter.unusedSimpArgs false
set_option linter.unusedVariables false
namespace Go.Ix
open Go.Proofs
def idD:Id:=(0,8,15)
def DoneI(f:Int->Int)(N k:Nat)(D:List Bool):Prop:=D.length=N/\∀i:Nat,i<N->D.getD i false=decide ((i:Int)∈(ordM f N).take k)
theorem DoneI.next{f:Int->Int}{N k:Nat}{D:List Bool}(h:DoneI f N k D)(hk:k<N):DoneI f N (k+1) (D.set (at0 (ordM f N) k).toNat true):=by
 have hl:=x117 f N
 have hkl:k<(ordM f N).length:=by omega
 have hx:=InN.get (ord_rng (f:=f) (N:=N)) hkl
 refine⟨by simp[h.1],λi hi=>?_⟩
 rw[x1gz hkl,<-xt5 hkl,x1gk,x1jd]
 have h2:=h.2 i hi
 rw[x1gk]at h2
 by_cases c:(at0 (ordM f N) k).toNat=i
 .rw[x1g7 c,x1g7 (by rw[h.1];omega)]
  have:(i:Int)=at0 (ordM f N) k:=by omega
  simp[this]
 .rw[x1g6 c,h2]
  have:¬(i:Int)=at0 (ordM f N) k:=by omega
  simp[this]
structure RL (s p:AV) (f:Int->Int) (n:Nat) (P:List Pq) (k:Nat) (t4:AV) (m:Mem):Prop where
 b1:m.get (0,0,1)=some (.row [s,p] 0 false)
 dn:∃D,Ow bE m idD D/\DoneI f P.length k D
 tk:Gk 1 intE (okU7 0 75) m t4 (takeM P (freshM n) ((ordM f P.length).take k))
 nx:1<=m.next
theorem takeS(f:Int->Int)(n:Nat)(P:List Pq){k:Nat}(hk:k<P.length):takeM P (freshM n) ((ordM f P.length).take (k+1))=takeM P (freshM n) ((ordM f P.length).take k)++(if at0 (uniM n P ((ordM f P.length).take k)) (prAt P (at0 (ordM f P.length) k)).a.toNat=at0 (uniM n P ((ordM f P.length).take k)) (prAt P (at0 (ordM f P.length) k)).b.toNat then[]else[at0 (ordM f P.length) k]):=by
 have hkl:k<(ordM f P.length).length:=by rw[x117];exact hk
 rw[x1gz hkl,x184,xt5 hkl]
 rfl
theorem sumT_in{l:List Scene}{P:List Pq}(hR:Right7 l P){T:List Int}(hT:∀i∈T,0<=i/\i<P.length):0<=(T.map (fW l P)).sum/\(T.map (fW l P)).sum<=T.length*300000:=by
 have:=sumL_in hR.ib (F:=T) λi hi=>⟨hT i hi,hR.at (hT i hi)⟩
 rw[x14x]at this
 rw[show fW l P=λi=>lenP l (prAt P i)from rfl]
 simpa using this
theorem l_rbest(d:Nat){s p:AV}{l:List Scene}{P:List Pq}(hs:Sl Scene.c s l)(hp:Sl Pq.c p P)(hR:Right7 l P){k:Nat}(hk:k<P.length)(t4 t5 t18:AV)(rec1:AV->AV->AV->AV->AV->AV->Mem->Nat->O2)(Q:O2->Prop){D:List Bool}(hD:DoneI (fW l P) P.length k D){m:Mem}(b1:m.get (0,0,1)=some (.row [s,p] 0 false))(bD:Ow bE m idD D)(hn:1<=m.next)(hQ:∀fc,Q (xc8 (xsi (d+3)) [] 0 rec1 (.ptr (0,0,1) 0 0) t4 t5 (.sref idD 0 0 P.length 1 true) (I (at0 (ordM (fW l P) P.length) k)) t18 (I k) m fc)) :
 ∀(n i:Nat) (b:Int) (m':Mem) (fc:Nat),i<=P.length->P.length<n+i->(m'=m/\BestI (fW l P) ((ordM (fW l P) P.length).take k) i b) ->
 Q (x3p (xsi (d+3)) [] 0 rec1 n (.ptr (0,0,1) 0 0) t4 t5 (.sref idD 0 0 P.length 1 true) (I b) (I i) t18 (I k) m' fc):=by
 have hpl:=hR.pl
 refine xtd (λn i b m fc=>x3p (xsi (d+3)) [] 0 rec1 n (.ptr (0,0,1) 0 0) t4 t5 (.sref idD 0 0 P.length 1 true) (I b) (I i) t18 (I k) m fc) (λi b m'=>m'=m/\BestI (fW l P) ((ordM (fW l P) P.length).take k) i b) Q ?_ ?_
 .rintro n i b m' fc hi ⟨rfl,hB⟩ next
  have hi':(i:Int)<(P.length:Int):=by omega
  have ixD:sIx 1 (.sref idD 0 0 P.length 1 true) (I (i:Int))=some (.ptr idD 0 (i:Int).toNat):=xwr (by omega) hi'
  have ldD:=bD.ldB (k:=(i:Int)) (by omega) (by rw[hD.1];exact hi')
  rw[x1gb,hD.2 i hi]at ldD
  rw[x1gb]at ixD
  have hbn:Nat.blt 0 m'.next=true:=by rw[Nat.blt_eq];omega
  simp only[x3p]
  unfold xc9 xk6
  by_cases c1:(i:Int)∈(ordM (fW l P) P.length).take k
  .rw[x1h6 c1]at ldD
   simp only[xtn,xsv,b1,xt1,x1gd,xsr,x1gl,x1gr,x1g8,rd_f,xsn,hp.len xu7,xta,hi',x1gm,xt9,ixD]
   rw[<-xsv,ldD]
   simp[cAp,tR,hbn]
   unfold x3o
   simp(disch:=omega) [xso]
   exact next b _ _ ⟨rfl,hB.in_ c1⟩
  .rw[x1ib c1]at ldD
   have hi2:=hR.at (i:=(i:Int)) ⟨by omega,hi'⟩
   have hli:=x14o (d+1) hs hp hR.ib ⟨by omega,hi'⟩ hi2 m'
   simp only[xtn,xsv,b1,xt1,x1gd,xsr,x1gl,x1gr,x1g8,rd_f,xsn,hp.len xu7,xta,hi',x1gm,xt9,ixD]
   rw[<-xsv,ldD]
   by_cases c2:b<0
   .simp[c2,cAp,tR,hbn]
    unfold x3o
    simp(disch:=omega) [xso]
    exact next (i:Int) _ _ ⟨rfl,hB.take_ c1 (.inl c2)⟩
   .have hb:0<=b/\b<P.length:=by
     rcases hB with ⟨h1,-⟩|⟨h1,-⟩<;>omega
    have hlb:=x14o (d+1) hs hp hR.ib hb (hR.at hb) m'
    simp[c2,b1,hli,hlb,hs.clean1,hp.clean1,cAp,tR,hbn]
    by_cases c3:fW l P i<fW l P b
    .have c3':lenP l (prAt P (i:Int))<lenP l (prAt P b):=c3
     simp[c3']
     unfold x3o
     simp(disch:=omega) [xso]
     exact next (i:Int) _ _ ⟨rfl,hB.take_ c1 (.inr c3)⟩
    .have c3':¬lenP l (prAt P (i:Int))<lenP l (prAt P b):=c3
     simp[c3']
     unfold x3o
     simp(disch:=omega) [xso]
     exact next b _ _ ⟨rfl,hB.leave c1 hb.1 c3⟩
 .rintro n b m' fc ⟨rfl,hB⟩
  have hb:=hB.fin hk
  subst hb
  simp only[x3p]
  unfold xc9
  simp[b1,hp.len xu7]
  exact hQ _
theorem x1c9(d:Nat){s p:AV}{l:List Scene}{P:List Pq}(hs:Sl Scene.c s l)(hp:Sl Pq.c p P)(hR:Right7 l P) :
 RetF (λv=>∃a,v=.tup [a,I ((xuf (fW l P) l.length P).map (fW l P)).sum]/\Ints a (xu0 (fW l P) l.length P)) (xsi (d+4) [] x34 [.agg [s,p]] mem0):=by
 have hpl:=hR.pl
 have hll:=hR.ll
 rw[xoe]
 unfold xfq xcb xk9
 simp[mem0,hs.one,hp.one,hp.len xu7,mkSl_b (n:=P.length) (by omega)]
 have hol:=x117 (fW l P) P.length
 refine xtd (N:=P.length) (λn k t4 m fc=>x1y (xsi (d+3)) [] 0 n (.ptr (0,0,1) 0 0) t4 (I ((takeM P (freshM l.length) ((ordM (fW l P) P.length).take k)).map (fW l P)).sum) (.sref idD 0 0 P.length 1 true) (I P.length) (I k) m fc)
  (λk t4 m=>RL s p (fW l P) l.length P k t4 m) _ ?_ ?_ NN 0 nilS _ _ (by omega) (by rw[xsu];omega)
  ⟨by simp,⟨List.replicate P.length false,by unfold Ow;simp[idD],by simp,λi hi=>by simp[x1gk,hi]⟩,by simpa[takeM]using Gk.nil,by simp⟩
 .rintro n k t4 m fc hk ⟨b1,⟨D,bD,hD⟩,hT,hn⟩ next
  have hk':(k:Int)<(P.length:Int):=by omega
  simp only[x1y]
  unfold xca xk8 xk7
  simp only[xta,hk',x1gm,xt9,xsn]
  refine l_rbest d hs hp hR hk t4 _ (I P.length) (x1y (xsi (d+3)) [] 0 n) _ hD b1 bD hn (λfc=>?_) NN 0 (-1) m _ (by omega) (by rw[xsu];omega) ⟨rfl,.inl ⟨rfl,λj hj=>by omega⟩⟩
  have hkl:k<(ordM (fW l P) P.length).length:=by omega
  have hx:=InN.get (ord_rng (f:=fW l P) (N:=P.length)) hkl
  have hts:=takeS (fW l P) l.length P hk
  have hDn:=hD.next hk
  have hTr:∀i∈takeM P (freshM l.length) ((ordM (fW l P) P.length).take k),0<=i/\i<P.length:=λi hi=>ord_rng _ (x1j3 ((xyc _ _).subset hi))
  have htl:(takeM P (freshM l.length) ((ordM (fW l P) P.length).take k)).length<=P.length:=by
   have h1:=(xyc (P:=P) ((ordM (fW l P) P.length).take k) (freshM l.length)).length_le
   simp at h1
   omega
  have hTj:uniM l.length P (takeM P (freshM l.length) ((ordM (fW l P) P.length).take k))=uniM l.length P ((ordM (fW l P) P.length).take k):=x12h _ _
  have hsum:=sumT_in hR hTr
  obtain⟨x,hxe⟩:∃x,x=at0 (ordM (fW l P) P.length) k:=⟨_,rfl⟩
  rw[<-hxe]at hx hts hDn ⊢
  have hq:=hR.at hx
  obtain⟨q0,q1,q2⟩:=hq
  have ixD:sIx 1 (.sref idD 0 0 P.length 1 true) (I x)=some (.ptr idD 0 x.toNat):=xwr hx.1 hx.2
  obtain⟨st1,st2⟩:=bD.st1 (g:=B) (λ_=>rfl) (k:=x) hx.1 (by rw[hD.1];exact hx.2) (x:=true) rfl rfl
  unfold xc8
  simp only[ixD,xsn,st1]
  generalize hm1:Mem.set m _ _=m1 at st2 ⊢
  have hm1g:∀j:Id,j≠idD->m1.get j=m.get j:=λj hj=>by rw[<-hm1,Mem.get_set,x1g6 hj]
  have hm1n:m1.next=m.next:=by rw[<-hm1];rfl
  have c1:m1.get (0,0,1)=some (.row [s,p] 0 false):=by rw[hm1g _ (by simp[idD])];exact b1
  have hT1:Gk 1 intE (okU7 0 75) m1 t4 (takeM P (freshM l.length) ((ordM (fW l P) P.length).take k)):=hT.frame λj hj=>hm1g j (by unfold idD;rintro rfl;exact absurd hj.2 (by simp))
  obtain⟨a,m2,e1,e2,e3,e4⟩:=x18h (d+2) [] (m0:=m1) (f:=t4) (F:=takeM P (freshM l.length) ((ordM (fW l P) P.length).take k)) hs hp (hT1.len xt8)
   (λmm hmm j hj=>by
    have hG:Gk 1 intE (okU7 0 75) mm t4 (takeM P (freshM l.length) ((ordM (fW l P) P.length).take k)):=hT1.frame λi hi=>hmm i (by have:=hi.1;omega)
    rcases hG with ⟨_,h0⟩|⟨id,ver,hid,rfl,hg⟩
    .rw[h0]at hj;simp at hj
    .refine⟨.ptr id ver j,?_,?_,λaa bb=>?_⟩
     .have:(j:Int)<((takeM P (freshM l.length) ((ordM (fW l P) P.length).take k)).length:Int):=by omega
      simp[sIx,asI,this]
     .rw[ld_ptr hg,rd,x1g6 (by simp),xwa,<-x1jv,xtm hj,<-xt5 hj]
      rfl
     .have:=hid.1
      simp only[tR,xsm,disj]
      simp
      intro h1
      rw[h1]at this
      simp at this
      omega) (λi hi=>⟨hTr i hi,hR.at (hTr i hi)⟩) hll (by omega)
  rw[hTj]at e2
  have k0:∀j:Id,j.1=0->m2.get j=m1.get j:=λj hj=>e4 j (by omega)
  have c2:m2.get (0,0,1)=some (.row [s,p] 0 false):=by rw[k0 _ rfl];exact c1
  have hT2:Gk 1 intE (okU7 0 75) m2 t4 (takeM P (freshM l.length) ((ordM (fW l P) P.length).take k)):=hT1.frame λj hj=>k0 j hj.1
  have hL:=(x103 (ord_Rng hR (fW l P) k)).len
  obtain⟨qa,ia,la,-⟩:=e2.at (k:=(prAt P x).a) q0 (by rw[hL];omega)
  obtain⟨qb,ib,lb,-⟩:=e2.at (k:=(prAt P x).b) (by omega) (by rw[hL];omega)
  have ip:=hp.ixz Pq.len hx.1 hx.2
  have l0:=λm=>xy8 (m:=m) (enc:=Pq.c) (show x.toNat<P.length by omega) 0 rfl
  have l1:=λm=>xy8 (m:=m) (enc:=Pq.c) (show x.toNat<P.length by omega) 1 rfl
  rw[<-xxq (by omega)]at l0 l1
  simp only[x1g8]at l0
  simp only[List.drop_one]at l1
  simp[c1,e1,c2,ip,l0,l1,ia,ib,la,lb]
  by_cases c3:at0 (uniM l.length P ((ordM (fW l P) P.length).take k)) (prAt P x).a.toNat=at0 (uniM l.length P ((ordM (fW l P) P.length).take k)) (prAt P x).b.toNat
  .rw[x1g7 c3,x1hc]at hts
   simp[c3]
   unfold x6a
   simp(disch:=omega) [xso]
   have:=next t4 m2 (fc+27+2) ⟨c2,⟨_,st2.fr (k0 _ rfl),hDn⟩,by rw[hts];exact hT2,by omega⟩
   rw[hts]at this
   exact this
  .rw[x1g6 c3]at hts
   obtain⟨t42,m3,a1,a2,-,-,a3,a4⟩:=hT2.app (bytes:=8) (id0:=(0,fc+30,75)) xt2 (by omega) ⟨rfl,rfl⟩ (by unfold xt6;omega) x
   have hlx:=x14o (d+1) hs hp hR.ib hx (hR.at hx) m3
   have hlin:=x114 hR.ib (hR.at hx)
   have c3m:m3.get (0,0,1)=some (.row [s,p] 0 false):=by rw[a4 _ (by unfold okU7;simp)];exact c2
   simp[c3,xu3]
   rw[show ∀x:Int,elems m2.get 1 (.slit [I x] 1 true)=some (intE x,1)from λ_=>rfl,a1]
   simp[c3m,hlx,hs.clean1,hp.clean1,tR,tX,xsm,disj]
   rw[xso (by omega) (by omega)]
   have hfin:∀fc2,RetF (λv=>∃a,v=.tup [a,I ((xuf (fW l P) l.length P).map (fW l P)).sum]/\Ints a (xu0 (fW l P) l.length P)) (x6a (xsi (d+3)) [] 0 (x1y (xsi (d+3)) [] 0 n) (.ptr (0,0,1) 0 0) t42 (I (((takeM P (freshM l.length) ((ordM (fW l P) P.length).take k)).map (fW l P)).sum+lenP l (prAt P x))) (.sref idD 0 0 P.length 1 true) (I P.length) (I k) m3 fc2):=λfc2=>by
    unfold x6a
    simp(disch:=omega) [xso]
    have:=next t42 m3 (fc2+2) ⟨c3m,⟨_,st2.fr (by rw[a4 _ (by unfold okU7 idD;simp),k0 _ rfl]),hDn⟩,by rw[hts];exact a2,by omega⟩
    rw[hts,x1hr,List.sum_append]at this
    simpa[fW]using this
   rcases hT2 with ⟨rfl,-⟩|⟨id,ver,hid,rfl,hg⟩
   .have e:tA (0,fc+30,75) nilS=some [(0,fc+30,75)]:=rfl
    simp[e]
    exact hfin _
   .have hne:¬((0,0,1):Id)=id:=by rintro rfl;exact absurd hid.2 (by simp)
    have e:tA (0,fc+30,75) (.sref id ver 0 (takeM P (freshM l.length) ((ordM (fW l P) P.length).take k)).length 1 true)=some [id]:=rfl
    simp[e,hne]
    exact hfin _
 .rintro n t4 m fc ⟨b1,-,hT,hn⟩
  rw[x1gg (by omega)]at hT ⊢
  have hTL:takeM P (freshM l.length) (ordM (fW l P) P.length)=xuf (fW l P) l.length P:=rfl
  rw[hTL]at hT ⊢
  simp only[x1y]
  unfold xca xk5 xk4
  simp
  have hlm:∀j:Nat,(xu0 (fW l P) l.length P)=(freshM P.length).filter λi=>(xuf (fW l P) l.length P).contains i:=λ_=>rfl
  have htl:(xuf (fW l P) l.length P).length<=P.length:=by
   have h1:=(xyc (P:=P) (ordM (fW l P) P.length) (freshM l.length)).length_le
   rw[hol]at h1
   exact h1
  refine xtd (N:=P.length) (λn k o m fc=>x69 (xsi (d+3)) [] 0 n (.ptr (0,0,1) 0 0) t4 (I ((xuf (fW l P) l.length P).map (fW l P)).sum) o (I k) m fc)
   (λk o m=>m.get (0,0,1)=some (.row [s,p] 0 false)/\GkF (okU7 0 75) m t4 (xuf (fW l P) l.length P)/\Gk 1 intE (okU7 0 95) m o (((freshM P.length).take k).filter λi=>(xuf (fW l P) l.length P).contains i)) _ ?_ ?_ NN 0 nilS m _ (by omega) (by rw[xsu];omega) ⟨b1,hT.toF,by simpa using Gk.nil⟩
  .rintro n k o m fc hk ⟨b1,hF,hO⟩ next
   have hk':(k:Int)<(P.length:Int):=by omega
   obtain⟨m2,h1,h2,h3,h4⟩:=w_HasF (d+2) (x:=(k:Int)) hF (by omega)
   have c1:m2.get (0,0,1)=some (.row [s,p] 0 false):=by rw[h4 _ (by unfold okU7;simp)];exact b1
   have hO2:Gk 1 intE (okU7 0 95) m2 o (((freshM P.length).take k).filter λi=>(xuf (fW l P) l.length P).contains i):=hO.frame λj hj=>h4 j (by have:=hj.2;unfold okU7;omega)
   have hsn:((freshM P.length).take (k+1)).filter (λi=>(xuf (fW l P) l.length P).contains i)=((freshM P.length).take k).filter (λi=>(xuf (fW l P) l.length P).contains i)++(if(xuf (fW l P) l.length P).contains (k:Int)then[(k:Int)]else[]):=by
    rw[<-xxp hk,x1iq]
    congr 1
    simp[x1ja]
   have hany:((xuf (fW l P) l.length P).any λy=>decide (y=(k:Int)))=(xuf (fW l P) l.length P).contains (k:Int):=by
    rw[x1lf,x1k6,x1la]
    simp
   have hfl:(((freshM P.length).take k).filter λi=>(xuf (fW l P) l.length P).contains i).length<=P.length:=by
    have h1:=x1it (λi=>(xuf (fW l P) l.length P).contains i) ((freshM P.length).take k)
    have h2:((freshM P.length).take k).length<=P.length:=by simp[freshM];omega
    omega
   rw[hany]at h1
   simp only[x69]
   unfold xc7 xk3
   simp only[xtn,xsv,b1,xt1,x1gd,xsr,x1gl,x1gr,x1g8,rd_f,xsn,hp.len xu7,xta,hk',x1gm,xt9,h1]
   cases hc:(xuf (fW l P) l.length P).contains (k:Int)with
   |true=>
    rw[hc,x1g7 rfl]at hsn
    obtain⟨o2,m3,a1,a2,-,-,a3,a4⟩:=hO2.app (bytes:=8) (id0:=(0,fc+5+6,95)) xt2 (by omega) ⟨rfl,rfl⟩ (by unfold xt6;omega) (k:Int)
    simp only[xt9,xu3,xwn]
    rw[show ∀x:Int,elems m2.get 1 (.slit [I x] 1 true)=some (intE x,1)from λ_=>rfl,a1]
    unfold x79
    simp(disch:=omega) [xso]
    exact next o2 m3 _ ⟨by rw[a4 _ (by unfold okU7;simp)];exact c1,h2.frame λj hj=>a4 j (by have:=hj.2;unfold okU7;omega),by rw[hsn];exact a2⟩
   |false=>
    rw[hc,x1g6 (by simp),x1hc]at hsn
    simp only[xup]
    unfold x79
    simp(disch:=omega) [xso]
    exact next o m2 _ ⟨c1,h2,by rw[hsn];exact hO2⟩
  .rintro n o m fc ⟨b1,hF,hO⟩
   rw[x1gg (by simp[freshM])]at hO
   simp only[x69]
   unfold xc7 xk2
   simp[b1,hp.len xu7]
   obtain⟨a',h1,h2⟩:=hO.sl1 3
   exact RetF.mk (xxk h2 xzw) ⟨a',rfl,h1⟩
theorem x1ca(d:Nat){s p:AV}{l:List Scene}{P:List Pq}(hs:Sl Scene.c s l)(hp:Sl Pq.c p P)(hR:Right7 l P)(m:Mem) :
 ∃a,Ints a (xu0 (fW l P) l.length P)/\xsl (xsi (d+4)) x34 [.agg [s,p]] m=some (.tup [a,I ((xuf (fW l P) l.length P).map (fW l P)).sum],m):=by
 obtain⟨v,⟨a,rfl,h1⟩,hc⟩:=xu6 (by simp[hs.still1,hp.still1]) (x1c9 d hs hp hR) m
 exact⟨a,h1,hc⟩
theorem x105:Tryz.prog.underlying xg=some (.slice xde):=by kernel_rfl
theorem xws:x9=[I 0,I 0]:=by kernel_rfl
theorem w_ends(d:Nat){s p:AV}{P:List Pq}(hs:s.one=true/\still1 s=true)(hp:Sl Pq.c p P){x:Sp}(hx:0<=x.p/\x.p<P.length)(m:Mem) :
 xsl (xsi (d+1)) x2u [.agg [s,p],.agg [I x.p,I x.s]] m=some (.tup [I (frS P x),I (toS P x)],m):=by
 refine xua (by simp[hs.2,hp.still1]) ?_ m
 have ip:=hp.ixz Pq.len hx.1 hx.2
 have lp:=λm=>xtz (m:=m) (enc:=Pq.c) Pq.len (by omega) (show x.p.toNat<P.length by omega)
 rw[<-xxq (by omega)]at lp
 unfold frS toS
 generalize prAt P x.p=q at *
 simp only[Pq.c]at lp
 rw[xnq]
 unfold xf6 xaw
 by_cases c:x.s<0
 .simp[mem0,hs.1,hp.one,ip,lp,xv3,c]
  exact RetF.tup rfl rfl
 .simp[mem0,hs.1,hp.one,ip,lp,xv3,c]
  exact RetF.tup rfl rfl
theorem w_rends(d:Nat){s p:AV}{P:List Pq}(hs:s.one=true/\still1 s=true)(hp:Sl Pq.c p P){x:Sp}(hx:0<=x.p/\x.p<P.length)(h1:x.s=1\/x.s=-1)(m:Mem) :
 xsl (xsi (d+1)) x2p [.agg [s,p],.agg [I x.p,I x.s]] m=some (.tup [I (frS P x),I (toS P x)],m):=by
 refine xua (by simp[hs.2,hp.still1]) ?_ m
 have ip:=hp.ixz Pq.len hx.1 hx.2
 have lp:=λm=>xtz (m:=m) (enc:=Pq.c) Pq.len (by omega) (show x.p.toNat<P.length by omega)
 rw[<-xxq (by omega)]at lp
 unfold frS toS
 generalize prAt P x.p=q at *
 simp only[Pq.c]at lp
 rw[xni]
 unfold xf0 xai
 rcases h1 with c|c
 .simp[mem0,hs.1,hp.one,ip,lp,xv3,c]
  exact RetF.tup rfl rfl
 .simp[mem0,hs.1,hp.one,ip,lp,xv3,c]
  exact RetF.tup rfl rfl
def cyE(P:List Pq):Nat->Int->Int->List Sp->Int
 |_,b,e,[]=>bif !decide (b=e)then 25 else 0
 |k,b,e,x::r=>
  bif !(wi x.p 0 ((P.length:Int)-1))then 6
  else bif !decide (x.s=1)&&!decide (x.s=-1)then 2
  else bif decide (k=0)then cyE P (k+1) (frS P x) (toS P x) r
  else bif !decide (frS P x=e)then 14
  else cyE P (k+1) b (toS P x) r
def cycE(P:List Pq)(w:List Sp):Int:=bif decide (w.length=0)then 10 else bif decide (400<w.length)then 8 else cyE P 0 0 0 w
theorem x1cb(d:Nat){s p c:AV}{l:List Scene}{P:List Pq}{w:List Sp}(hs:Sl Scene.c s l)(hp:Sl Pq.c p P)(hc:Sl Sp.c c w)(hw:w.length<=1000)(m:Mem) :
 xsl (xsi (d+8)) x4b [.agg [s,p],c] m=some (I (bif !decide ((net7 l P).2=0)then(net7 l P).2 else cycE P w),m):=by
 refine xua (by simp[hs.still1,hp.still1,hc.still]) ?_ m
 rw[xn3]
 unfold xel x9t
 simp[hs.one,hp.one,mem0,x111 (d+1) hs hp]
 by_cases he:(net7 l P).2=0
 rotate_left
 .simp[he]
  exact RetF.st rfl rfl
 have hR:=x116 he
 have hpl:=hR.pl
 simp[he,hc.len x105]
 by_cases c1:w.length=0
 .have:w=[]:=x1hv.mp c1
  simp[this]
  exact RetF.st rfl (by simp[cycE,c1])
 have c1':¬(w.length:Int)=0:=by omega
 have c1'':¬w=[]:=λe=>c1 (by rw[e];rfl)
 simp[c1'']
 by_cases c2:400<w.length
 .have c2':(400:Int)<(w.length:Int):=by omega
  simp[c2']
  exact RetF.st rfl (by simp[cycE,c1,c2])
 have c2':¬(400:Int)<(w.length:Int):=by omega
 have hE:cycE P w=cyE P 0 0 0 w:=by simp[cycE,c1,c2]
 simp[c2',hE]
 unfold xib
 simp[hc.len x105]
 refine xtd (N:=w.length) (λn k (b:Int×Int) m fc=>x3f (xsi (d+7)) [] 0 n (.ptr (0,0,2) 0 0) (I b.1) (I b.2) c (I w.length) (I k) m fc)
  (λk b m=>m.get (0,0,2)=some (.row [s,p] 0 false)/\cyE P k b.1 b.2 (w.drop k)=cyE P 0 0 0 w) _ ?_ ?_ NN 0 (0,0) _ _ (by omega) (by rw[xsu];omega) ⟨by simp,by simp⟩
 .rintro n k ⟨b,e⟩ m fc hk ⟨g2,hT⟩ next
  have hk':(k:Int)<(w.length:Int):=by omega
  have ix:=hc.ix Sp.len hk
  have ld:=λm=>xtz (m:=m) (enc:=Sp.c) Sp.len (by omega) hk
  rw[xtm hk]at hT
  generalize w[k]=x at *
  simp only[cyE]at hT
  simp only[x3f]
  unfold x9s xia
  simp only[Sp.c]at ld
  simp[hk',ix,ld,xws]
  generalize hm1:Mem.set _ _ _=m1
  have q2:m1.get (0,0,2)=some (.row [s,p] 0 false):=by rw[<-hm1];simp[g2]
  have q9:m1.get (0,fc+1+3,9)=some (.row [I x.p,I x.s] 0 false):=by rw[<-hm1];simp
  simp[q2,g2,hp.len xu7]
  rw[xso (by omega) (by omega)]
  simp[xy9]
  cases c3:wi x.p 0 ((P.length:Int)-1)with
  |false=>
   simp[c3]at hT ⊢
   exact RetF.st rfl (by rw[<-hT])
  |true=>
   have hx:=wi_t c3
   have he2:=λm=>w_ends (d+6) ⟨hs.one,hs.still1⟩ hp (x:=x) ⟨hx.1,by omega⟩ m
   have tl:(x.s=1\/x.s=-1)->∀fc2,RetF (λv=>v=I (cyE P 0 0 0 w)) (x9r (xsi (d+7)) [] 0 (x3f (xsi (d+7)) [] 0 n) (.ptr (0,0,2) 0 0) (I b) (I e) (I k) (I (frS P x)) (I (toS P x)) c (I w.length) (I k) m1 fc2):=λhs1 fc2=>by
    have hs2:(!decide (x.s=1)&&!decide (x.s=-1))=false:=by rcases hs1 with q|q<;>simp[q]
    rw[c3,hs2]at hT
    unfold x9r x9q xi9
    by_cases c4:k=0
    .simp[c4]at hT
     simp(disch:=omega) [c4,xso]
     have:=next (frS P x,toS P x) m1 (fc2+5+2+2) ⟨q2,by simpa[c4]using hT⟩
     simpa[c4]using this
    .have c4':¬(k:Int)=0:=by omega
     by_cases c5:frS P x=e
     .simp[c4,c5]at hT
      simp(disch:=omega) [c4,c5,xso]
      exact next (b,toS P x) m1 _ ⟨q2,hT⟩
     .simp[c4,c5]at hT
      simp[c4,c5]
      exact RetF.st rfl (by rw[<-hT])
   simp[q9]
   by_cases s1:x.s=1
   .have:=tl (.inl s1)
    simp[s1,q2,q9,x104,xsw,xtj]
    rw[<-s1]
    simp[he2]
    exact this _
   .simp[s1,q9]
    by_cases s2:x.s=-1
    .have:=tl (.inr s2)
     simp[s2,q2,q9,x104,xsw,xtj]
     rw[<-s2]
     simp[he2]
     exact this _
    .simp[c3,s1,s2]at hT
     simp[s2]
     exact RetF.st rfl (by rw[<-hT])
 .rintro n ⟨b,e⟩ m fc ⟨g2,hT⟩
  rw[x1h5 (x1ga _)]at hT
  simp only[cyE]at hT
  simp only[x3f]
  unfold x9s xi8
  rw[<-hT]
  by_cases c:b=e
  .simp[c]
   exact RetF.st rfl rfl
  .simp[c]
   exact RetF.st rfl rfl
def idY:Id:=(0,5,21)
def idS:Id:=(0,10,25)
structure WM (s p:AV) (st:RSt) (m:Mem):Prop where
 b4:m.get (0,0,4)=some (.row [s,p] 0 false)
 oY:Ow Sp.c m idY st.y
 oS:Ow bE m idS st.k
theorem WM.fr{s p:AV}{st:RSt}{m m':Mem}(h:WM s p st m)(e:∀j:Id,j=(0,0,4)\/j=idY\/j=idS->m'.get j=m.get j):WM s p st m':=
 ⟨by rw[e _ (.inl rfl)];exact h.b4,h.oY.fr (e _ (.inr (.inl rfl))),h.oS.fr (e _ (.inr (.inr rfl)))⟩
theorem ow_ix2{id:Id}{n:Nat}{k:Int}(h0:0<=k)(h1:k<n):sIx 2 (.sref id 0 0 n 2 true) (I k)=some (.ptr id 0 (k.toNat*2)):=ow_ix h0 h1
theorem l_rtry(d:Nat){s p f:AV}{l:List Scene}{P:List Pq}{F:List Int}(hs:Sl Scene.c s l)(hp:Sl Pq.c p P)(hf:Ints f F)(hP:∀p∈P,PqIn l.length p)(hr:∀i∈F,0<=i/\i<P.length)(hF:F.length<=1000){k:Nat}(hk:k<F.length){fr:Int}(sg:Int)(hsg:sg=1\/sg=-1){st:RSt}(hI:RInv7 l.length P F fr st){rec1:AV->AV->AV->AV->AV->AV->AV->AV->Mem->Nat->O2}{rec2:AV->AV->AV->AV->AV->AV->AV->AV->AV->Mem->Nat->O2}{n1:Nat}{t2 t3 t31 t32:AV}{Q:O2->Prop}{m:Mem}(fc:Nat)(hM:WM s p st m)(go:∀m' fc',WM s p (xvn P st ⟨at0 F k,sg⟩) m'->Q (x1p (xsi (d+1)) [] 0 rec1 rec2 n1 f t2 t3 (.ptr (0,0,4) 0 0) (.sref idY 0 0 l.length 2 true) (.sref idS 0 0 l.length 1 true) (I k) (I (sg+2)) t31 t32 m' fc')) :
 Q (x1p (xsi (d+1)) [] 0 rec1 rec2 (n1+1) f t2 t3 (.ptr (0,0,4) 0 0) (.sref idY 0 0 l.length 2 true) (.sref idS 0 0 l.length 1 true) (I k) (I sg) t31 t32 m fc):=by
 have ix:=hf.ix xt2 hk
 have ld:=λm=>xte (m:=m) hk
 have hmem:at0 F k∈F:=by rw[xt5 hk];exact x1go hk
 have hx:=hr _ hmem
 obtain⟨x,hxe⟩:∃x:Sp,x=⟨at0 F k,sg⟩:=⟨_,rfl⟩
 have hIn:InF F x:=by rw[hxe];exact⟨hmem,hsg⟩
 obtain⟨⟨a0,a1⟩,t0,t1⟩:=xvg hP hr hIn
 have he:=λm=>w_rends d ⟨hs.one,hs.still1⟩ hp (x:=x) (by rw[hxe];exact hx) (by rw[hxe];exact hsg) m
 rw[<-hxe]at go
 have hxp:x.p=at0 F k:=by rw[hxe]
 have hxs:x.s=sg:=by rw[hxe]
 rw[<-hxp]at ld
 rw[<-hxs]at go ⊢
 have hle:x.s<=1:=by rcases hIn.2 with e|e<;>omega
 have hbuild:xsw [I 0,I 0] [(0,1,I x.p),(1,1,I x.s)]=some (.agg [I x.p,I x.s]):=by simp[xsw,xtj]
 simp only[x1p]
 unfold x9e xi0
 simp only[sLe_I,hle,x1gm,xt9,xsn,ix,ld,xws,hbuild]
 simp only[xvs,xtp,Mem.get_new,x1gp,xvw]
 simp
 generalize hm1:Mem.set _ _ _=m1
 have q13:m1.get (0,fc+2+6,13)=some (.row [I x.p,I x.s] 0 false):=by rw[<-hm1];simp
 have hM1:WM s p st m1:=hM.fr λj hj=>by
  rw[<-hm1]
  rcases hj with rfl|rfl|rfl
  .simp
  .simp[idY]
  .simp[idS]
 have ixA:sIx 1 (.sref idS 0 0 l.length 1 true) (I (frS P x))=some (.ptr idS 0 (frS P x).toNat):=xwr a0 a1
 have ldA:sLd false 1 (.ptr idS 0 (frS P x).toNat) m1=some (B (boA st.k (frS P x))):=hM1.oS.ldB a0 (by rw[hI.k];exact a1)
 have ixT:sIx 1 (.sref idS 0 0 l.length 1 true) (I (toS P x))=some (.ptr idS 0 (toS P x).toNat):=xwr t0 t1
 have ldT:sLd false 1 (.ptr idS 0 (toS P x).toNat) m1=some (B (boA st.k (toS P x))):=hM1.oS.ldB t0 (by rw[hI.k];exact t1)
 have ixY:sIx 2 (.sref idY 0 0 l.length 2 true) (I (toS P x))=some (.ptr idY 0 ((toS P x).toNat*2)):=ow_ix2 t0 t1
 have hb4:=hM1.b4
 have skip:xvn P st x=st->∀fc2,Q (x5o (xsi (d+1)) [] 0 rec1 rec2 (x1p (xsi (d+1)) [] 0 rec1 rec2 n1) f t2 t3 (.ptr (0,0,4) 0 0) (.sref idY 0 0 l.length 2 true) (.sref idS 0 0 l.length 1 true) (I k) (I x.s) t31 t32 m1 fc2):=λe fc2=>by
  unfold x5o
  simp only[xux,xsn]
  rw[xso (by rcases hIn.2 with e|e<;>omega) (by rcases hIn.2 with e|e<;>omega)]
  exact go m1 _ (by rw[e];exact hM1)
 have hb4m:=hM.b4
 simp[-xtp,hb4m,hb4,q13,he,ixA]
 rw[<-xsv,ldA]
 cases ca:boA st.k (frS P x)with
 |false=>
  simp
  exact skip (by unfold xvn;simp[ca]) _
 |true=>
  simp[-xtp,ixT]
  rw[<-xsv,ldT]
  cases cb:boA st.k (toS P x)with
  |true=>
   simp
   exact skip (by unfold xvn;simp[cb]) _
  |false=>
   have hst:xvn P st x=⟨st.y.set (toS P x).toNat x,st.k.set (toS P x).toNat true⟩:=by unfold xvn;simp[ca,cb]
   obtain⟨y1,y2⟩:=hM1.oY.st Sp.len (k:=(toS P x).toNat) (by rw[hI.y];omega) (x:=x) (v:=.agg [I x.p,I x.s]) rfl rfl
   have hM2:WM s p ⟨st.y.set (toS P x).toNat x,st.k⟩ (m1.set idY (.row ((st.y.set (toS P x).toNat x).flatMap Sp.c) 0 false)):=⟨by rw[Mem.get_set,x1g6 (by simp[idY])];exact hM1.b4,y2,hM1.oS.fr (by rw[Mem.get_set,x1g6 (by simp[idY,idS])])⟩
   generalize hm2:Mem.set m1 _ _=m2 at y1 hM2
   obtain⟨s1,s2⟩:=hM2.oS.st1 (g:=B) (λ_=>rfl) (k:=toS P x) t0 (by rw[hI.k];exact t1) (x:=true) rfl rfl
   have hM3:WM s p ⟨st.y.set (toS P x).toNat x,st.k.set (toS P x).toNat true⟩ (m2.set idS (.row ((st.k.set (toS P x).toNat true).flatMap bE) 0 false)):=⟨by rw[Mem.get_set,x1g6 (by simp[idS])];exact hM2.b4,hM2.oY.fr (by rw[Mem.get_set,x1g6 (by simp[idY,idS])]),s2⟩
   simp[-xtp,q13,ixY,y1,s1]
   unfold x5o
   simp only[xux,xsn]
   rw[xso (by rcases hIn.2 with e|e<;>omega) (by rcases hIn.2 with e|e<;>omega)]
   exact go _ _ (by rw[hst];exact hM3)
theorem x1cc{F:List Int}{k:Nat}(hk:k<F.length):xyd (F.drop k)=⟨at0 F k,-1⟩::⟨at0 F k,1⟩::xyd (F.drop (k+1)):=by
 unfold xyd
 rw[xtm hk,x1gy,xt5 hk]
 rfl
def OutS(m:Mem)(a:AV)(l:List Sp):Prop:=Sl Sp.c a l\/∃id:Id,id.1=0/\id.2.2=85/\a=.sref id 0 0 l.length 2 true/\Ow Sp.c m id l
theorem OutS.elems{m:Mem}{a:AV}{l:List Sp}(h:OutS m a l):elems m.get 2 a=some (l.flatMap Sp.c,l.length):=by
 rcases h with h|⟨id,-,-,rfl,h⟩
 .exact h.elems Sp.len m.get
 .have hl:=xut Sp.len l
  unfold Go.Ix.elems
  simp only
  unfold Ow at h
  rw[h]
  simp only
  rw[x1g7 ⟨trivial,trivial,by omega⟩,x1g8,x1gg (by omega)]
theorem OutS.frz{m:Mem}{a:AV}{l:List Sp}(h:OutS m a l)(k:Nat):∃a',Sl Sp.c a' l/\Go.Ix.frz m.get (k+2) a=some a':=by
 rcases h with h|⟨id,-,-,rfl,h⟩
 .exact⟨a,h,xuh _ k h.still⟩
 .exact⟨_,Sl.lit l false,xxm (k:=k) Sp.len Sp.still h⟩
theorem l_rback(d:Nat){s p:AV}{l:List Scene}{P:List Pq}{F:List Int}(hs:Sl Scene.c s l)(hp:Sl Pq.c p P)(hP:∀p∈P,PqIn l.length p)(hr:∀i∈F,0<=i/\i<P.length){fr:Int}{st:RSt}(hI:RInv7 l.length P F fr st){T:List Sp}(hT:T.length<=1000) :
 ∀(r:List Sp) (v:Int) (acc:List Sp) (n:Nat) (o:AV) (m:Mem) (fc:Nat),Bw P F st fr r v->0<=v->v<l.length->r.length<n->WM s p st m->OutS m o acc->r.reverse++acc=T ->
 RetF (λa=>Sl Sp.c a T) (x5n (xsi (d+1)) [] 0 n (I fr) (.ptr (0,0,4) 0 0) (.sref idY 0 0 l.length 2 true) o (I v) m fc):=by
 intro r
 induction r with
 |nil=>
  intro v acc n o m fc hB v0 v1 hn hM hO hE
  obtain⟨n,rfl⟩:∃i,n=i+1:=⟨n-1,by omega⟩
  have:=hB.2
  subst this
  simp only[x5n]
  unfold x9d xhv
  simp
  obtain⟨a',h1,h2⟩:=hO.frz 4
  rw[<-hE]
  exact RetF.mk h2 h1
 |cons x r ih=>
  intro v acc n o m fc hB v0 v1 hn hM hO hE
  obtain⟨n,rfl⟩:∃i,n=i+1:=⟨n-1,by omega⟩
  obtain⟨b1,b2,b3,b4,b5,b6⟩:=hB
  obtain⟨⟨a0,a1⟩,-,-⟩:=xvg hP hr b5
  have hx:=hr x.p b5.1
  have ixY:sIx 2 (.sref idY 0 0 l.length 2 true) (I v)=some (.ptr idY 0 (v.toNat*2)):=ow_ix2 v0 v1
  have hvl:v.toNat<st.y.length:=by rw[hI.y];omega
  have ldY:∀mm,WM s p st mm->sLd true 2 (.ptr idY 0 (v.toNat*2)) mm=some (.agg [I x.p,I x.s]):=λmm hmm=>by
   have:=hmm.oY.ldS Sp.len (k:=v.toNat) hvl
   have e:st.y[v.toNat]=x:=by
    have:=b3
    unfold byA at this
    rw[x1gk,x1gv hvl]at this
    exact this
   rw[e]at this
   exact this
  have he:=λm=>w_rends d ⟨hs.one,hs.still1⟩ hp (x:=x) hx b5.2 m
  have hlen:(r.reverse++x::acc).length<=1000:=by rw[<-List.singleton_append,<-x1i3,<-x1ka,hE];exact hT
  simp at hlen
  obtain⟨o2,m2,h1,h2,h3⟩:∃o2 m2,(∀{R:Type} (K:AV->Mem->Option R),sApp 2 16 (0,fc+9,85) (Go.Ix.elems m.get 2 o) (.slit [I x.p,I x.s] 1 true) m K=K o2 m2)/\OutS m2 o2 (x::acc)/\∀j:Id,j.2.2≠85->m2.get j=m.get j:=by
   by_cases h0:acc.length=0
   .have:=x1hv.mp h0
    subst this
    refine⟨.slit [I x.p,I x.s] 1 true,m,λK=>?_,.inl (Sl.lit [x] true),λ_ _=>rfl⟩
    rw[hO.elems]
    simp[sApp]
   .refine⟨.sref (0,fc+9,85) 0 0 (x::acc).length 2 true,m.new (0,fc+9,85) (.row ((x::acc).flatMap Sp.c) 0 false),λK=>?_,.inr ⟨(0,fc+9,85),rfl,rfl,rfl,by unfold Ow;simp⟩,λj hj=>by rw[Mem.get_new,x1g6 (by rintro rfl;exact hj rfl)]⟩
    rw[hO.elems]
    simp only[sApp]
    rw[x1g7 (by simp),x1g6 h0,x1g7 (by unfold xt6;omega)]
    rw[x1jg 1]
    rfl
  have hM2:WM s p st m2:=hM.fr λj hj=>h3 j (by rcases hj with rfl|rfl|rfl<;>simp[idY,idS])
  have hb4:=hM2.b4
  simp only[x5n]
  unfold x9d
  simp only[xzr,decide_not,show(decide (v=fr))=false from x1ib b2,x1ht,xt9,xsn,ixY,ldY m hM,xws,x129]
  rw[h1]
  simp only[xsv,hb4,xt1,x1gd,xsr,x1g8,rd_2,xsn]
  rw[<-xsv,ldY m2 hM2]
  simp[he]
  exact ih (frS P x) (x::acc) n o2 m2 _ b6 a0 a1 (by simp at hn;omega) hM2 h2 (by rw[<-hE,x1ka,x1i3];rfl)
theorem a_rway(d:Nat){s p f:AV}{l:List Scene}{P:List Pq}{F:List Int}(hs:Sl Scene.c s l)(hp:Sl Pq.c p P)(hf:Ints f F)(hl:l.length<=60)(hP:∀p∈P,PqIn l.length p)(hF:For l.length P F){fr b:Int}(h0:0<=fr)(h1:fr<l.length)(b0:0<=b)(b1:b<l.length){w:List Sp}(hw:Wk P w fr b)(hwF:AllF F w)(hN:NB P w) :
 RetF (λv=>Sl Sp.c v w) (xsi (d+2) [] x2h [.agg [s,p],f,I fr,I b] mem0):=by
 have hFl:=hF.len hP
 have hwl:=xzy (hF.cut hP) hw hwF hN
 rw[xmv]
 unfold xee x9h
 have ixS:sIx 1 (.sref idS 0 0 l.length 1 true) (I fr)=some (.ptr idS 0 fr.toNat):=xwr h0 h1
 simp[-xtp,mem0,hs.one,hp.one,hs.len xtt,mkSl_s (n:=l.length) (by omega),mkSl_b (n:=l.length) (by omega)]
 generalize hm1:Mem.new _ _ _=m1
 have hM1:WM s p ⟨List.replicate l.length ⟨0,0⟩,List.replicate l.length false⟩ m1:=⟨by rw[<-hm1];simp,by unfold Ow;rw[<-hm1];simp[idY],by unfold Ow;rw[<-hm1];simp[idS]⟩
 obtain⟨s1,s2⟩:=hM1.oS.st1 (g:=B) (λ_=>rfl) (k:=fr) h0 (by simpa using h1) (x:=true) rfl rfl
 rw[show((0,10,25):Id)=idS from rfl,show((0,5,21):Id)=idY from rfl,ixS]
 simp only[xsn,s1]
 generalize hm2:Mem.set m1 _ _=m2 at s2
 have hM2:WM s p (r0 l.length fr) m2:=⟨by rw[<-hm2,Mem.get_set,x1g6 (by simp[idS])];exact hM1.b4,hM1.oY.fr (by rw[<-hm2,Mem.get_set,x1g6 (by simp[idY,idS])]),s2⟩
 have hB:=rway_ok hP hF h0 h1 b0 b1 hw hwF hN
 have hI0:=r0_ok (P:=P) (F:=F) h0 h1
 obtain⟨hIE,-⟩:=hI0.rounds hP hF.rng h0 (k:=l.length)
 unfold xi3
 simp only[xtn,xsv,hM2.b4,xt1,x1gd,xsr,x1gl,x1g8,rd_f,xsn,hs.len xtt]
 refine xtd (N:=l.length) (λn k (st:RSt) m fc=>x3e (xsi (d+1)) [] 0 n f (I fr) (I b) (.ptr (0,0,4) 0 0) (.sref idY 0 0 l.length 2 true) (.sref idS 0 0 l.length 1 true) (I l.length) (I k) m fc)
  (λk st m=>WM s p st m/\RInv7 l.length P F fr st/\xye P F (l.length-k) st=xye P F l.length (r0 l.length fr)) _ ?_ ?_ NN 0 (r0 l.length fr) m2 _ (by omega) (by rw[xsu];omega) ⟨hM2,hI0,rfl⟩
 .rintro n k st m fc hk ⟨hM,hI,hT⟩ next
  have hk':(k:Int)<(l.length:Int):=by omega
  rw[show l.length-k=(l.length-(k+1))+1 by omega,xye]at hT
  simp only[x3e]
  unfold x9g xi2
  simp only[xta,hk',x1gm,xt9,xsn]
  refine xtd (N:=F.length) (λn2 j (st2:RSt) m fc=>x5p (xsi (d+1)) [] 0 (x3e (xsi (d+1)) [] 0 n) n2 f (I fr) (I b) (.ptr (0,0,4) 0 0) (.sref idY 0 0 l.length 2 true) (.sref idS 0 0 l.length 1 true) (I j) (I l.length) (I k) m fc)
   (λj st2 m=>WM s p st2 m/\RInv7 l.length P F fr st2/\(xyd (F.drop j)).foldl (xvn P) st2=x12i P F st) _ ?_ ?_ NN 0 st m _ (by omega) (by rw[xsu];omega) ⟨hM,hI,by simp[x12i]⟩
  .rintro n2 j st2 m fc hj ⟨hM,hI,hR⟩ next2
   have hj':(j:Int)<(F.length:Int):=by omega
   have hmem:at0 F j∈F:=by rw[xt5 hj];exact x1go hj
   rw[x1cc hj,x1ic,x1ic]at hR
   simp only[x5p]
   unfold x9f xi1
   simp only[hf.len xt8,xta,hj',x1gm,xt9,xsn]
   obtain⟨NM,hNM⟩:∃NM,NN=NM+1+1+1:=⟨NN-3,by have:=xsu;omega⟩
   rw[hNM]
   obtain⟨i1,-,-⟩:=hI.step hP hF.rng h0 (x:=⟨at0 F j,-1⟩) ⟨hmem,.inr rfl⟩
   obtain⟨i2,-,-⟩:=i1.step hP hF.rng h0 (x:=⟨at0 F j,1⟩) ⟨hmem,.inl rfl⟩
   refine l_rtry d hs hp hf hP hF.rng (by omega) hj (-1) (.inr rfl) hI _ hM λm3 fc3 hM3=>?_
   refine l_rtry d hs hp hf hP hF.rng (by omega) hj 1 (.inl rfl) i1 _ hM3 λm4 fc4 hM4=>?_
   simp only[x1p]
   unfold x9e xhz
   simp(disch:=omega) [xso]
   exact next2 _ m4 _ ⟨hM4,i2,hR⟩
  .rintro n2 st2 m fc ⟨hM,hI,hR⟩
   rw[x1h5 (x1ga _)]at hR
   have hR':st2=x12i P F st:=hR
   subst hR'
   simp only[x5p]
   unfold x9f xhy
   simp(disch:=omega) [hf.len xt8,xso]
   exact next _ m _ ⟨hM,hI,hT⟩
 .rintro n st m fc ⟨hM,hI,hT⟩
  rw[x1ip,xye]at hT
  rw[<-hT]at hB
  simp only[x3e]
  unfold x9g xhx xhw
  simp
  refine l_rback d hs hp hP hF.rng hI (T:=w) (by omega) w.reverse b [] NN nilS m _ hB b0 b1 (by rw[xsu];simp;omega) hM (.inl (Or.inl ⟨rfl,rfl⟩)) (by simp)
theorem w_rway(d:Nat){s p f:AV}{l:List Scene}{P:List Pq}{F:List Int}(hs:Sl Scene.c s l)(hp:Sl Pq.c p P)(hf:Ints f F)(hl:l.length<=60)(hP:∀p∈P,PqIn l.length p)(hF:For l.length P F){fr b:Int}(h0:0<=fr)(h1:fr<l.length)(b0:0<=b)(b1:b<l.length){w:List Sp}(hw:Wk P w fr b)(hwF:AllF F w)(hN:NB P w)(m:Mem) :
 ∃v,Sl Sp.c v w/\xsl (xsi (d+2)) x2h [.agg [s,p],f,I fr,I b] m=some (v,m):=
 xu6 (by simp[hs.still1,hp.still1,hf.still]) (a_rway d hs hp hf hl hP hF h0 h1 b0 b1 hw hwF hN) m
theorem z_2i:xlo=[I 0,I 0]:=by kernel_rfl
theorem idx_2i0:sIdx Tryz.prog x73 (.agg [I 1,I (-1)]) (I 0)=some (I 1):=by kernel_rfl
theorem idx_2i1:sIdx Tryz.prog x73 (.agg [I 1,I (-1)]) (I 1)=some (I (-1)):=by kernel_rfl
theorem w_from(d:Nat){s p f:AV}{l:List Scene}{P:List Pq}{F:List Int}(hs:Sl Scene.c s l)(hp:Sl Pq.c p P)(hf:Ints f F)(v:Int)(m:Mem) :
 xsl (xsi (d+1)) x2o [.agg [s,p],I v,f] m=some (.clo x18 [.plit [f],.plit [s,p],.plit [I v]],m):=by
 refine xua (by simp[hs.still1,hp.still1,hf.still]) ?_ m
 rw[xne]
 unfold xew xac
 simp[mem0,hs.one,hp.one,hf.one,hf.cells]
 generalize hm:Mem.new _ _ _=m1
 have g5:m1.get (0,2,5)=some (.row [f] 0 false):=by rw[<-hm];simp
 have g3:m1.get (0,0,3)=some (.row [s,p] 0 false):=by rw[<-hm];simp
 have g4:m1.get (0,1,4)=some (.row [I v] 0 false):=by rw[<-hm];simp
 have e5:Go.Ix.frz m1.get 5 (.ptr (0,2,5) 0 0)=some (.plit [f]):=x12j g5 (xuh _ 2 hf.still)
 have e4:Go.Ix.frz m1.get 5 (.ptr (0,1,4) 0 0)=some (.plit [I v]):=x12j g4 rfl
 have e3:Go.Ix.frz m1.get 5 (.ptr (0,0,3) 0 0)=some (.plit [s,p]):=by
  rw[x14y g3]
  simp only[x1g8,x1gw,x1hd,xuh m1.get 2 hs.still,xuh m1.get 2 hp.still]
  rfl
 refine RetF.mk (a':=.clo x18 [.plit [f],.plit [s,p],.plit [I v]]) ?_ rfl
 show(([AV.ptr (0,2,5) 0 0,.ptr (0,0,3) 0 0,.ptr (0,1,4) 0 0].mapM (Go.Ix.frz m1.get 5)).map λl=>AV.clo _ l)=_
 simp only[x1gw,x1hd,e5,e4,e3]
 rfl
theorem x1cd{F:List Int}{k:Nat}(hk:k<F.length):xw9 (F.take (k+1))=xw9 (F.take k)++[⟨at0 F k,1⟩]++[⟨at0 F k,-1⟩]:=by
 unfold xw9
 rw[x1gz hk,List.flatMap_append,xt5 hk]
 simp
theorem c_from2(d:Nat){hh:FHs}{id:Id}{h:List AV->Mem->Option Mem}{s p f:AV}{l:List Scene}{P:List Pq}{F:List Int}(hs:Sl Scene.c s l)(hp:Sl Pq.c p P)(hf:Ints f F)(hF:F.length<=1000)(hr:∀i∈F,0<=i/\i<P.length)(hl:xvj hh id=some h)(v:Int){m0:Mem}(Inv:List Sp->Mem->Prop)(Fin:Mem->Prop)(hst:∀pre m m',Inv pre m->m'.next=m.next->(∀i:Id,¬i.1=m0.next->m'.get i=m.get i)->Inv pre m')(hy:∀pre x m,InF F x->frS P x=v->Inv pre m->∃m2,h [.agg [I x.p,I x.s],I (toS P x)] m=some m2/\(live m2.get id=true/\Inv (pre++[x]) m2\/live m2.get id=false/\Fin m2))(hn:∀pre x m,InF F x->frS P x≠v->Inv pre m->Inv (pre++[x]) m)(h0:∀m,m.next=m0.next+1->(∀i:Id,m.get i=m0.get i)->Inv [] m) :
 ∃m',xsi (d+2) hh x18 [.yld id,.plit [f],.plit [s,p],.plit [I v]] m0=some (.tup [],m')/\(Inv (xw9 F) m'\/Fin m'):=by
 rw[xo1]
 unfold xfh xbe
 generalize hu:m0.next=u at *
 simp only[xx2,rd_f,xsn,hf.len xt8]
 refine xtd (N:=F.length) (σ:=Unit) (λn k _ m fc=>x1t (xsi (d+1)) hh u n (.yld id) (.plit [s,p]) (.plit [I v]) f (I F.length) (I k) m fc) (λk _ m=>Inv (xw9 (F.take k)) m)
  (λr=>∃m',r=some (.tup [],m')/\(Inv (xw9 F) m'\/Fin m')) ?_ ?_ NN 0 () _ _ (by omega) (by rw[xsu];omega) (by simpa[xw9]using h0 ⟨m0.hp,u+1⟩ rfl (λ_=>rfl))
 .rintro n k-m fc hk hI next
  have hk':(k:Int)<(F.length:Int):=by omega
  have ix:=hf.ix xt2 hk
  have ld:=λm=>xte (m:=m) hk
  have hmem:at0 F k∈F:=by rw[xt5 hk];exact x1go hk
  have hx:=hr _ hmem
  have hsc:=x1cd hk
  generalize at0 F k=i at *
  simp only[x1t]
  unfold xbd xjh
  simp only[xta,hk',x1gm,xt9,xsn,ix,ld,z_2i]
  rw[show xsw [I 0,I 0] [(0,1,I 1),(1,1,I (-1))]=some (.agg [I 1,I (-1)]) by simp[xsw,xtj]]
  simp only[xsn]
  have one:∀(sg:Int) (q:Int) (pre:List Sp) (m:Mem) (fc n1:Nat),(sg=1\/sg=-1)->q<2->0<=q->sIdx Tryz.prog x73 (.agg [I 1,I (-1)]) (I q)=some (I sg)->Inv pre m ->
   (∀m' fc',Inv (pre++[⟨i,sg⟩]) m'->∃m2,x3k (xsi (d+1)) hh u (x1t (xsi (d+1)) hh u n) n1 (.yld id) (.plit [s,p]) (.plit [I v]) (I i) f (I F.length) (I k) (.agg [I 1,I (-1)]) (I (q+1)) m' fc'=some (.tup [],m2)/\(Inv (xw9 F) m2\/Fin m2)) ->
   ∃m2,x3k (xsi (d+1)) hh u (x1t (xsi (d+1)) hh u n) (n1+1) (.yld id) (.plit [s,p]) (.plit [I v]) (I i) f (I F.length) (I k) (.agg [I 1,I (-1)]) (I q) m fc=some (.tup [],m2)/\(Inv (xw9 F) m2\/Fin m2):=by
   intro sg q pre m fc n1 hsg hq2 hq0 hidx hI2 go
   have hIn:InF F ⟨i,sg⟩:=⟨hmem,hsg⟩
   have he:=λm=>w_ends d ⟨hs.one,hs.still1⟩ hp (x:=⟨i,sg⟩) hx m
   simp only[x3k]
   unfold xbc
   simp only[xta,hq2,x1gm,xt9,xsn,hidx,xws]
   rw[show xsw [I 0,I 0] [(0,1,I i),(1,1,I sg)]=some (.agg [I i,I sg]) by simp[xsw,xtj]]
   simp
   generalize hm1:Mem.set _ _ _=m1
   have q9:m1.get (u,fc+6,9)=some (.row [I i,I sg] 0 false):=by rw[<-hm1];simp
   have hI3:Inv pre m1:=hst pre m m1 hI2 (by rw[<-hm1];rfl) λj hj=>by
    rw[<-hm1,Mem.get_set,x1g6 (by rintro rfl;exact hj rfl),Mem.get_new,x1g6 (by rintro rfl;exact hj rfl)]
   simp[q9,he]
   rw[xso (by omega) (by omega)]
   by_cases c:frS P ⟨i,sg⟩=v
   .obtain⟨m2,h1,h2⟩:=hy pre ⟨i,sg⟩ m1 hIn c hI3
    have hinv:xu2 (xsi (d+1)) hh 2 (.yld id) [.agg [I i,I sg],I (toS P ⟨i,sg⟩)] m1=some (B (live m2.get id),m2):=by
     show(match xvj hh id with
      |some h=>(h [.agg [I i,I sg],I (toS P ⟨i,sg⟩)] m1).map λ(m':Mem)=>(B (live m'.get id),m')
      |none=>none)=_
     rw[hl]
     simp only
     rw[h1]
     rfl
    rcases h2 with ⟨hlv,h2⟩|⟨hlv,h2⟩
    .rw[hlv]at hinv
     simp[c,q9,hinv]
     exact go m2 _ h2
    .rw[hlv]at hinv
     simp[c,q9,hinv]
     exact .inr h2
   .simp[c]
    exact go m1 _ (hn pre ⟨i,sg⟩ m1 hIn c hI3)
  obtain⟨NM,hNM⟩:∃NM,NN=NM+1+1+1:=⟨NN-3,by have:=xsu;omega⟩
  rw[hNM]
  refine one 1 0 _ m _ _ (.inl rfl) (by omega) (by omega) idx_2i0 hI λm1 fc1 h1=>?_
  refine one (-1) 1 _ m1 _ _ (.inr rfl) (by omega) (by omega) idx_2i1 h1 λm2 fc2 h2=>?_
  simp only[x3k]
  unfold xbc xjg
  simp(disch:=omega) [xso]
  exact next () m2 _ (by rw[hsc];exact h2)
 .rintro n-m fc hI
  rw[x1gg (x1ga _)]at hI
  simp only[x1t]
  unfold xbd
  simp
  exact .inl hI
theorem c_from(d:Nat){hh:FHs}{id:Id}{h:List AV->Mem->Option Mem}{s p f:AV}{l:List Scene}{P:List Pq}{F:List Int}(hs:Sl Scene.c s l)(hp:Sl Pq.c p P)(hf:Ints f F)(hF:F.length<=1000)(hr:∀i∈F,0<=i/\i<P.length)(hl:xvj hh id=some h)(v:Int){m0:Mem}(Inv:List Sp->Mem->Prop)(hst:∀pre m m',Inv pre m->m'.next=m.next->(∀i:Id,¬i.1=m0.next->m'.get i=m.get i)->Inv pre m')(hy:∀pre x m,InF F x->frS P x=v->Inv pre m->∃m2,h [.agg [I x.p,I x.s],I (toS P x)] m=some m2/\Inv (pre++[x]) m2)(hn:∀pre x m,InF F x->frS P x≠v->Inv pre m->Inv (pre++[x]) m)(h0:∀m,m.next=m0.next+1->(∀i:Id,m.get i=m0.get i)->Inv [] m)(hid:id.2.2=0:=by rfl) :
 ∃m',xsi (d+2) hh x18 [.yld id,.plit [f],.plit [s,p],.plit [I v]] m0=some (.tup [],m')/\Inv (xw9 F) m':=by
 obtain⟨m',h1,h2⟩:=c_from2 d hs hp hf hF hr hl v Inv (λ_=>False) hst (λpre x m a b c=>by
  obtain⟨m2,h1,h2⟩:=hy pre x m a b c
  exact⟨m2,h1,.inl ⟨by unfold live;rw[hid];rfl,h2⟩⟩) hn h0
 exact⟨m',h1,h2.resolve_right λx=>x⟩
end Go.Ix
namespace Go.Ix
variable{P:List Pq}{n:Nat}{F:List Int}
theorem at0_setI{l:List Int}{b v:Int}{x:Int}(h0:0<=b)(hb:b<l.length)(hv:0<=v):at0 (l.set b.toNat x) v.toNat=if v=b then x else at0 l v.toNat:=by
 unfold at0
 rw[x1gk,x1gk,x1jd]
 by_cases c:v=b
 .rw[x1g7 c,c,x1g7 rfl,x1g7 (by omega)];rfl
 .rw[x1g6 c,x1g6 (by omega)]
def unk(K:List Bool):Nat:=(K.filter λb=>!b).length
theorem x150:∀{K:List Bool} {k:Nat},k<K.length->K.getD k false=false->unk (K.set k true)+1=unk K
 |[],_,h,_=>by simp at h
 |b::r,0,_,hb=>by
  simp at hb
  subst hb
  simp[unk]
 |b::r,k+1,h,hb=>by
  have:=x150 (K:=r) (k:=k) (by simpa using h) (by simpa using hb)
  unfold unk at this ⊢
  rw[x1jy]
  cases b<;>simp<;>omega
theorem unk_le:∀{K L:List Bool},K.length=L.length->(∀k,k<K.length->K.getD k false=true->L.getD k false=true)->unk L<=unk K
 |[],[],_,_=>x1ga _
 |[],_::_,h,_=>by simp at h
 |_::_,[],h,_=>by simp at h
 |a::r,b::s,h,hk=>by
  have ih:=unk_le (K:=r) (L:=s) (by simpa using h) λk hk2=>by
   have:=hk (k+1) (by simpa using hk2)
   simpa using this
  have h0:=hk 0 (by simp)
  simp only[x1kq]at h0
  unfold unk at ih ⊢
  cases a with
  |true=>
   rw[h0 rfl]
   exact ih
  |false=>
   cases b
   .show(r.filter λb=>!b).length+1 ≥ (s.filter λb=>!b).length+1
    omega
   .show(s.filter λb=>!b).length<=(r.filter λb=>!b).length+1
    omega
structure DS (n:Nat) (φ:Int->Int) (O:List Int) (K:List Bool):Prop where
 lo:O.length=n
 lk:K.length=n
 kn:∀v:Int,0<=v->v<n->boA K v=true->at0 O v.toNat=φ v
def Un(n:Nat)(O:List Int)(K:List Bool)(but:Int):Prop:=∀v:Int,0<=v->v<n->v≠but->boA K v=false->at0 O v.toNat=0
def Sub(n:Nat)(K L:List Bool):Prop:=∀v:Int,0<=v->v<n->boA K v=true->boA L v=true
theorem Sub.unk{K L:List Bool}(h:Sub n K L)(hk:K.length=n)(hl:L.length=n):unk L<=unk K:=unk_le (by omega) λk hk2 e=>by
 have:=h (k:Int) (by omega) (by omega) (by unfold boA;simpa using e)
 unfold boA at this
 simpa using this
def Clo(P:List Pq)(F:List Int)(K L:List Bool):Prop:=∀x,InF F x->boA K (frS P x)=false->boA L (frS P x)=true->boA L (toS P x)=true
def Cls(P:List Pq)(F:List Int)(K:List Bool):Prop:=∀x,InF F x->boA K (frS P x)=true->boA K (toS P x)=true
theorem Clo.trans(hP:∀p∈P,PqIn n p)(hr:∀i∈F,0<=i/\i<P.length){K L M:List Bool}(h:Clo P F K L)(h2:Clo P F L M)(hs:Sub n L M):Clo P F K M:=λx hx h0 h1=>by
 cases c:boA L (frS P x)with
 |true=>exact hs _ (xvg hP hr hx).2.1 (xvg hP hr hx).2.2 (h x hx h0 c)
 |false=>exact h2 x hx c h1
theorem Cls.grow(hP:∀p∈P,PqIn n p)(hr:∀i∈F,0<=i/\i<P.length){K L:List Bool}(h:Cls P F K)(h2:Clo P F K L)(hs:Sub n K L):Cls P F L:=λx hx h1=>by
 cases c:boA K (frS P x)with
 |true=>exact hs _ (xvg hP hr hx).2.1 (xvg hP hr hx).2.2 (h x hx c)
 |false=>exact h2 x hx c h1
theorem Cls.walk{K:List Bool}(h:Cls P F K):∀{w:List Sp} {a b:Int},Wk P w a b->AllF F w->boA K a=true->boA K b=true
 |[],_,_,hw,_,ha=>by cases hw;exact ha
 |x::r,a,b,hw,hF,ha=>Cls.walk h hw.2 hF.tail (h x hF.head (by rw[hw.1];exact ha))
theorem root_of(hP:∀p∈P,PqIn n p)(hF:For n P F){K:List Bool}(h:Cls P F K){i:Nat}(hi:i<n)(hk:∀j:Nat,j<i->boA K j=true)(hn:boA K i=false):at0 (joinsM (freshM n) (prs P F)) i=i:=by
 have hL:=(Lab.fresh n).joins (xv4 hP hF.rng)
 obtain⟨l0,l1,l2⟩:=hL.ok i hi
 apply Classical.byContradiction
 intro hne
 obtain⟨w,hw,hwF⟩:=x12f hP hF.rng (v:=(at0 (joinsM (freshM n) (prs P F)) i).toNat) (w:=i) (by omega) hi (by unfold Sm;exact l2)
 have:=h.walk hw hwF (hk _ (by omega))
 rw[hn]at this
 cases this
def phiL(n:Nat)(φ:Int->Int):List Int:=(List.range n).map λ(v:Nat)=>φ v
theorem xuv(n:Nat)(φ:Int->Int):(phiL n φ).length=n:=by simp[phiL]
theorem x106{φ:Int->Int}{v:Int}(h0:0<=v)(h1:v<n):at0 (phiL n φ) v.toNat=φ v:=by
 rw[xt5 (by rw[xuv];omega)]
 simp[phiL]
 rw[Int.max_eq_left h0]
theorem DS.all{φ:Int->Int}{O:List Int}{K:List Bool}(h:DS n φ O K)(hk:∀j:Nat,j<n->boA K j=true):O=phiL n φ:=by
 apply x1j2
 .rw[h.lo,xuv]
 .intro i h1 h2
  have hi:i<n:=by rw[<-h.lo];exact h1
  have:=h.kn i (by omega) (by omega) (hk i hi)
  rw[x1gb,xt5 h1]at this
  rw[this]
  simp[phiL]
end Go.Ix
