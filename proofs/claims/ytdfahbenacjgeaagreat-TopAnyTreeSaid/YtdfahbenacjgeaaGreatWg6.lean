import Derived.Test.YtdfahbenacjgeaaGreatWg5
import Derived.Test.YtdfahbenacjgeaaGreatWg2
import Derived.Test.YtdfahbenacjgeaaGreatWg4
set_option linter.unusedSimpArgs false
set_option linter.unusedVariables false
namespace Go.Ix
open Go.Proofs
def idD:Id:=(0,8,15)
def DoneI(f:Int->Int)(N k:Nat)(D:List Bool):Prop:=D.length=N/\∀i:Nat,i<N->D.getD i false=decide ((i:Int)∈(ordM f N).take k)
theorem DoneI.next{f:Int->Int}{N k:Nat}{D:List Bool}(h:DoneI f N k D)(hk:k<N):DoneI f N (k+1) (D.set (at0 (ordM f N) k).toNat true):=by
 have hl:=xqx f N
 have hkl:k<(ordM f N).length:=by omega
 have hx:=InN.get (ord_rng (f:=f) (N:=N)) hkl
 refine⟨by simp[h.1],λi hi=>?_⟩
 rw[x12y hkl,<-xkl hkl,x12n,x15o]
 have h2:=h.2 i hi
 rw[x12n]at h2
 by_cases c:(at0 (ordM f N) k).toNat=i
 .rw[x12c c,x12c (by rw[h.1];omega)]
  have:(i:Int)=at0 (ordM f N) k:=by omega
  simp[this]
 .rw[x12b c,h2]
  have:¬(i:Int)=at0 (ordM f N) k:=by omega
  simp[this]
structure RL (s p:AV) (f:Int->Int) (n:Nat) (P:List Pq) (k:Nat) (t4:AV) (m:Mem):Prop where
 b1:m.get (0,0,1)=some (.row [s,p] 0 false)
 dn:∃D,Ow bE m idD D/\DoneI f P.length k D
 tk:Gk 1 intE (okU7 0 75) m t4 (takeM P (freshM n) ((ordM f P.length).take k))
 nx:1<=m.next
theorem takeS(f:Int->Int)(n:Nat)(P:List Pq){k:Nat}(hk:k<P.length):takeM P (freshM n) ((ordM f P.length).take (k+1))=takeM P (freshM n) ((ordM f P.length).take k)++(if at0 (uniM n P ((ordM f P.length).take k)) (prAt P (at0 (ordM f P.length) k)).a.toNat=at0 (uniM n P ((ordM f P.length).take k)) (prAt P (at0 (ordM f P.length) k)).b.toNat then[]else[at0 (ordM f P.length) k]):=by
 have hkl:k<(ordM f P.length).length:=by rw[xqx];exact hk
 rw[x12y hkl,xwv,xkl hkl]
 rfl
theorem sumT_in{l:List Scene}{P:List Pq}(hR:Right7 l P){T:List Int}(hT:∀i∈T,0<=i/\i<P.length):0<=(T.map (fW l P)).sum/\(T.map (fW l P)).sum<=T.length*300000:=by
 have:=xuf hR.ib (F:=T) λi hi=>⟨hT i hi,hR.at (hT i hi)⟩
 rw[xqw]at this
 rw[show fW l P=λi=>lenP l (prAt P i)from rfl]
 simpa using this
theorem l_rbest(d:Nat){s p:AV}{l:List Scene}{P:List Pq}(hs:Sl Scene.c s l)(hp:Sl Pq.c p P)(hR:Right7 l P){k:Nat}(hk:k<P.length)(t4 t5 t18:AV)(rec1:AV->AV->AV->AV->AV->AV->Mem->Nat->O2)(Q:O2->Prop){D:List Bool}(hD:DoneI (fW l P) P.length k D){m:Mem}(b1:m.get (0,0,1)=some (.row [s,p] 0 false))(bD:Ow bE m idD D)(hn:1<=m.next)(hQ:∀fc,Q (x89 (xk2 (d+3)) [] 0 rec1 (.ptr (0,0,1) 0 0) t4 t5 (.sref idD 0 0 P.length 1 true) (I (at0 (ordM (fW l P) P.length) k)) t18 (I k) m fc)) :
 ∀(n i:Nat) (b:Int) (m':Mem) (fc:Nat),i<=P.length->P.length<n+i->(m'=m/\BestI (fW l P) ((ordM (fW l P) P.length).take k) i b) ->
 Q (x2c (xk2 (d+3)) [] 0 rec1 n (.ptr (0,0,1) 0 0) t4 t5 (.sref idD 0 0 P.length 1 true) (I b) (I i) t18 (I k) m' fc):=by
 have hpl:=hR.pl
 refine xkq (λn i b m fc=>x2c (xk2 (d+3)) [] 0 rec1 n (.ptr (0,0,1) 0 0) t4 t5 (.sref idD 0 0 P.length 1 true) (I b) (I i) t18 (I k) m fc) (λi b m'=>m'=m/\BestI (fW l P) ((ordM (fW l P) P.length).take k) i b) Q ?_ ?_
 .rintro n i b m' fc hi ⟨rfl,hB⟩ next
  have hi':(i:Int)<(P.length:Int):=by omega
  have ixD:sIx 1 (.sref idD 0 0 P.length 1 true) (I (i:Int))=some (.ptr idD 0 (i:Int).toNat):=xnp (by omega) hi'
  have ldD:=bD.ldB (k:=(i:Int)) (by omega) (by rw[hD.1];exact hi')
  rw[x12t,hD.2 i hi]at ldD
  rw[x12t]at ixD
  have hbn:Nat.blt 0 m'.next=true:=by rw[Nat.blt_eq];omega
  simp only[x2c]
  unfold x8a xe9
  by_cases c1:(i:Int)∈(ordM (fW l P) P.length).take k
  .rw[x13e c1]at ldD
   simp only[xoj,xlb,b1,xmf,x13j,xlf,x13c,x146,x12j,rd_f,xka,hp.len xlc,xkx,hi',x12o,xku,ixD]
   rw[<-xlb,ldD]
   simp[cAp,tR,hbn]
   unfold x2b
   simp(disch:=omega) [xk6]
   exact next b _ _ ⟨rfl,hB.in_ c1⟩
  .rw[x14b c1]at ldD
   have hi2:=hR.at (i:=(i:Int)) ⟨by omega,hi'⟩
   have hli:=xs3 (d+1) hs hp hR.ib ⟨by omega,hi'⟩ hi2 m'
   simp only[xoj,xlb,b1,xmf,x13j,xlf,x13c,x146,x12j,rd_f,xka,hp.len xlc,xkx,hi',x12o,xku,ixD]
   rw[<-xlb,ldD]
   by_cases c2:b<0
   .simp[c2,cAp,tR,hbn]
    unfold x2b
    simp(disch:=omega) [xk6]
    exact next (i:Int) _ _ ⟨rfl,hB.take_ c1 (.inl c2)⟩
   .have hb:0<=b/\b<P.length:=by
     rcases hB with ⟨h1,-⟩|⟨h1,-⟩<;>omega
    have hlb:=xs3 (d+1) hs hp hR.ib hb (hR.at hb) m'
    simp[c2,b1,hli,hlb,hs.clean1,hp.clean1,cAp,tR,hbn]
    by_cases c3:fW l P i<fW l P b
    .have c3':lenP l (prAt P (i:Int))<lenP l (prAt P b):=c3
     simp[c3']
     unfold x2b
     simp(disch:=omega) [xk6]
     exact next (i:Int) _ _ ⟨rfl,hB.take_ c1 (.inr c3)⟩
    .have c3':¬lenP l (prAt P (i:Int))<lenP l (prAt P b):=c3
     simp[c3']
     unfold x2b
     simp(disch:=omega) [xk6]
     exact next b _ _ ⟨rfl,hB.leave c1 hb.1 c3⟩
 .rintro n b m' fc ⟨rfl,hB⟩
  have hb:=hB.fin hk
  subst hb
  simp only[x2c]
  unfold x8a
  simp[b1,hp.len xlc]
  exact hQ _
theorem xzw(d:Nat){s p:AV}{l:List Scene}{P:List Pq}(hs:Sl Scene.c s l)(hp:Sl Pq.c p P)(hR:Right7 l P) :
 RetF (λv=>∃a,v=.tup [a,I ((xlj (fW l P) l.length P).map (fW l P)).sum]/\Ints a (xl4 (fW l P) l.length P)) (xk2 (d+4) [] x1w [.agg [s,p]] mem0):=by
 have hpl:=hR.pl
 have hll:=hR.ll
 rw[xh6]
 unfold xaq x8c xec
 simp[mem0,hs.one,hp.one,hp.len xlc,mkSl_b (n:=P.length) (by omega)]
 have hol:=xqx (fW l P) P.length
 refine xkq (N:=P.length) (λn k t4 m fc=>x17 (xk2 (d+3)) [] 0 n (.ptr (0,0,1) 0 0) t4 (I ((takeM P (freshM l.length) ((ordM (fW l P) P.length).take k)).map (fW l P)).sum) (.sref idD 0 0 P.length 1 true) (I P.length) (I k) m fc)
  (λk t4 m=>RL s p (fW l P) l.length P k t4 m) _ ?_ ?_ NN 0 nilS _ _ (by omega) (by rw[xkj];omega)
  ⟨by simp,⟨List.replicate P.length false,by unfold Ow;simp[idD],by simp,λi hi=>by simp[x12n,hi]⟩,by simpa[takeM]using Gk.nil,by simp⟩
 .rintro n k t4 m fc hk ⟨b1,⟨D,bD,hD⟩,hT,hn⟩ next
  have hk':(k:Int)<(P.length:Int):=by omega
  simp only[x17]
  unfold x8b xeb xea
  simp only[xkx,hk',x12o,xku,xka]
  refine l_rbest d hs hp hR hk t4 _ (I P.length) (x17 (xk2 (d+3)) [] 0 n) _ hD b1 bD hn (λfc=>?_) NN 0 (-1) m _ (by omega) (by rw[xkj];omega) ⟨rfl,.inl ⟨rfl,λj hj=>by omega⟩⟩
  have hkl:k<(ordM (fW l P) P.length).length:=by omega
  have hx:=InN.get (ord_rng (f:=fW l P) (N:=P.length)) hkl
  have hts:=takeS (fW l P) l.length P hk
  have hDn:=hD.next hk
  have hTr:∀i∈takeM P (freshM l.length) ((ordM (fW l P) P.length).take k),0<=i/\i<P.length:=λi hi=>ord_rng _ (x15r ((xos _ _).subset hi))
  have htl:(takeM P (freshM l.length) ((ordM (fW l P) P.length).take k)).length<=P.length:=by
   have h1:=(xos (P:=P) ((ordM (fW l P) P.length).take k) (freshM l.length)).length_le
   simp at h1
   omega
  have hTj:uniM l.length P (takeM P (freshM l.length) ((ordM (fW l P) P.length).take k))=uniM l.length P ((ordM (fW l P) P.length).take k):=xs5 _ _
  have hsum:=sumT_in hR hTr
  obtain⟨x,hxe⟩:∃x,x=at0 (ordM (fW l P) P.length) k:=⟨_,rfl⟩
  rw[<-hxe]at hx hts hDn ⊢
  have hq:=hR.at hx
  obtain⟨q0,q1,q2⟩:=hq
  have ixD:sIx 1 (.sref idD 0 0 P.length 1 true) (I x)=some (.ptr idD 0 x.toNat):=xnp hx.1 hx.2
  obtain⟨st1,st2⟩:=bD.st1 (g:=B) (λ_=>rfl) (k:=x) hx.1 (by rw[hD.1];exact hx.2) (x:=true) rfl rfl
  unfold x89
  simp only[ixD,xka,st1]
  generalize hm1:Mem.set m _ _=m1 at st2 ⊢
  have hm1g:∀j:Id,j≠idD->m1.get j=m.get j:=λj hj=>by rw[<-hm1,Mem.get_set,x12b hj]
  have hm1n:m1.next=m.next:=by rw[<-hm1];rfl
  have c1:m1.get (0,0,1)=some (.row [s,p] 0 false):=by rw[hm1g _ (by simp[idD])];exact b1
  have hT1:Gk 1 intE (okU7 0 75) m1 t4 (takeM P (freshM l.length) ((ordM (fW l P) P.length).take k)):=hT.frame λj hj=>hm1g j (by unfold idD;rintro rfl;exact absurd hj.2 (by simp))
  obtain⟨a,m2,e1,e2,e3,e4⟩:=xx7 (d+2) [] (m0:=m1) (f:=t4) (F:=takeM P (freshM l.length) ((ordM (fW l P) P.length).take k)) hs hp (hT1.len xke)
   (λmm hmm j hj=>by
    have hG:Gk 1 intE (okU7 0 75) mm t4 (takeM P (freshM l.length) ((ordM (fW l P) P.length).take k)):=hT1.frame λi hi=>hmm i (by have:=hi.1;omega)
    rcases hG with ⟨_,h0⟩|⟨id,ver,hid,rfl,hg⟩
    .rw[h0]at hj;simp at hj
    .refine⟨.ptr id ver j,?_,?_,λaa bb=>?_⟩
     .have:(j:Int)<((takeM P (freshM l.length) ((ordM (fW l P) P.length).take k)).length:Int):=by omega
      simp[sIx,asI,this]
     .rw[ld_ptr hg,rd,x12b (by simp),xo0,<-List.map_drop,xl7 hj,<-xkl hj]
      rfl
     .have:=hid.1
      simp only[tR,xk8,disj]
      simp
      intro h1
      rw[h1]at this
      simp at this
      omega) (λi hi=>⟨hTr i hi,hR.at (hTr i hi)⟩) hll (by omega)
  rw[hTj]at e2
  have k0:∀j:Id,j.1=0->m2.get j=m1.get j:=λj hj=>e4 j (by omega)
  have c2:m2.get (0,0,1)=some (.row [s,p] 0 false):=by rw[k0 _ rfl];exact c1
  have hT2:Gk 1 intE (okU7 0 75) m2 t4 (takeM P (freshM l.length) ((ordM (fW l P) P.length).take k)):=hT1.frame λj hj=>k0 j hj.1
  have hL:=(xot (ord_Rng hR (fW l P) k)).len
  obtain⟨qa,ia,la,-⟩:=e2.at (k:=(prAt P x).a) q0 (by rw[hL];omega)
  obtain⟨qb,ib,lb,-⟩:=e2.at (k:=(prAt P x).b) (by omega) (by rw[hL];omega)
  have ip:=hp.ixz Pq.len hx.1 hx.2
  have l0:=λm=>xmy (m:=m) (enc:=Pq.c) (show x.toNat<P.length by omega) 0 rfl
  have l1:=λm=>xmy (m:=m) (enc:=Pq.c) (show x.toNat<P.length by omega) 1 rfl
  rw[<-xnn (by omega)]at l0 l1
  simp only[x12j]at l0
  simp only[x15q]at l1
  simp[c1,e1,c2,ip,l0,l1,ia,ib,la,lb]
  by_cases c3:at0 (uniM l.length P ((ordM (fW l P) P.length).take k)) (prAt P x).a.toNat=at0 (uniM l.length P ((ordM (fW l P) P.length).take k)) (prAt P x).b.toNat
  .rw[x12c c3,x13y]at hts
   simp[c3]
   unfold x47
   simp(disch:=omega) [xk6]
   have:=next t4 m2 (fc+27+2) ⟨c2,⟨_,st2.fr (k0 _ rfl),hDn⟩,by rw[hts];exact hT2,by omega⟩
   rw[hts]at this
   exact this
  .rw[x12b c3]at hts
   obtain⟨t42,m3,a1,a2,-,-,a3,a4⟩:=hT2.app (bytes:=8) (id0:=(0,fc+30,75)) xk7 (by omega) ⟨rfl,rfl⟩ (by unfold xkg;omega) x
   have hlx:=xs3 (d+1) hs hp hR.ib hx (hR.at hx) m3
   have hlin:=xq0 hR.ib (hR.at hx)
   have c3m:m3.get (0,0,1)=some (.row [s,p] 0 false):=by rw[a4 _ (by unfold okU7;simp)];exact c2
   simp[c3,xlo]
   rw[show ∀x:Int,elems m2.get 1 (.slit [I x] 1 true)=some (intE x,1)from λ_=>rfl,a1]
   simp[c3m,hlx,hs.clean1,hp.clean1,tR,tX,xk8,disj]
   rw[xk6 (by omega) (by omega)]
   have hfin:∀fc2,RetF (λv=>∃a,v=.tup [a,I ((xlj (fW l P) l.length P).map (fW l P)).sum]/\Ints a (xl4 (fW l P) l.length P)) (x47 (xk2 (d+3)) [] 0 (x17 (xk2 (d+3)) [] 0 n) (.ptr (0,0,1) 0 0) t42 (I (((takeM P (freshM l.length) ((ordM (fW l P) P.length).take k)).map (fW l P)).sum+lenP l (prAt P x))) (.sref idD 0 0 P.length 1 true) (I P.length) (I k) m3 fc2):=λfc2=>by
    unfold x47
    simp(disch:=omega) [xk6]
    have:=next t42 m3 (fc2+2) ⟨c3m,⟨_,st2.fr (by rw[a4 _ (by unfold okU7 idD;simp),k0 _ rfl]),hDn⟩,by rw[hts];exact a2,by omega⟩
    rw[hts,x13q,List.sum_append]at this
    simpa[fW]using this
   rcases hT2 with ⟨rfl,-⟩|⟨id,ver,hid,rfl,hg⟩
   .have e:tA (0,fc+30,75) nilS=some [(0,fc+30,75)]:=rfl
    simp[e]
    exact hfin _
   .have hne:¬((0,0,1):Id)=id:=by rintro rfl;exact absurd hid.2 (by simp)
    have e:tA (0,fc+30,75) (.sref id ver 0 (takeM P (freshM l.length) ((ordM (fW l P) P.length).take k)).length 1 true)=some [id]:=rfl
    simp[e,hne]
    exact hfin _
 .rintro n t4 m fc ⟨b1,-,hT,hn⟩
  rw[x12g (by omega)]at hT ⊢
  have hTL:takeM P (freshM l.length) (ordM (fW l P) P.length)=xlj (fW l P) l.length P:=rfl
  rw[hTL]at hT ⊢
  simp only[x17]
  unfold x8b xe8 xe7
  simp
  have hlm:∀j:Nat,(xl4 (fW l P) l.length P)=(freshM P.length).filter λi=>(xlj (fW l P) l.length P).contains i:=λ_=>rfl
  have htl:(xlj (fW l P) l.length P).length<=P.length:=by
   have h1:=(xos (P:=P) (ordM (fW l P) P.length) (freshM l.length)).length_le
   rw[hol]at h1
   exact h1
  refine xkq (N:=P.length) (λn k o m fc=>x46 (xk2 (d+3)) [] 0 n (.ptr (0,0,1) 0 0) t4 (I ((xlj (fW l P) l.length P).map (fW l P)).sum) o (I k) m fc)
   (λk o m=>m.get (0,0,1)=some (.row [s,p] 0 false)/\GkF (okU7 0 75) m t4 (xlj (fW l P) l.length P)/\Gk 1 intE (okU7 0 95) m o (((freshM P.length).take k).filter λi=>(xlj (fW l P) l.length P).contains i)) _ ?_ ?_ NN 0 nilS m _ (by omega) (by rw[xkj];omega) ⟨b1,hT.toF,by simpa using Gk.nil⟩
  .rintro n k o m fc hk ⟨b1,hF,hO⟩ next
   have hk':(k:Int)<(P.length:Int):=by omega
   obtain⟨m2,h1,h2,h3,h4⟩:=w_HasF (d+2) (x:=(k:Int)) hF (by omega)
   have c1:m2.get (0,0,1)=some (.row [s,p] 0 false):=by rw[h4 _ (by unfold okU7;simp)];exact b1
   have hO2:Gk 1 intE (okU7 0 95) m2 o (((freshM P.length).take k).filter λi=>(xlj (fW l P) l.length P).contains i):=hO.frame λj hj=>h4 j (by have:=hj.2;unfold okU7;omega)
   have hsn:((freshM P.length).take (k+1)).filter (λi=>(xlj (fW l P) l.length P).contains i)=((freshM P.length).take k).filter (λi=>(xlj (fW l P) l.length P).contains i)++(if(xlj (fW l P) l.length P).contains (k:Int)then[(k:Int)]else[]):=by
    rw[<-xpi hk,x14x]
    congr 1
    simp[x159]
   have hany:((xlj (fW l P) l.length P).any λy=>decide (y=(k:Int)))=(xlj (fW l P) l.length P).contains (k:Int):=by
    rw[x16z,x15l,x16v]
    simp
   have hfl:(((freshM P.length).take k).filter λi=>(xlj (fW l P) l.length P).contains i).length<=P.length:=by
    have h1:=x16c (λi=>(xlj (fW l P) l.length P).contains i) ((freshM P.length).take k)
    have h2:((freshM P.length).take k).length<=P.length:=by simp[freshM];omega
    omega
   rw[hany]at h1
   simp only[x46]
   unfold x88 xe6
   simp only[xoj,xlb,b1,xmf,x13j,xlf,x13c,x146,x12j,rd_f,xka,hp.len xlc,xkx,hk',x12o,xku,h1]
   cases hc:(xlj (fW l P) l.length P).contains (k:Int)with
   |true=>
    rw[hc,x12c rfl]at hsn
    obtain⟨o2,m3,a1,a2,-,-,a3,a4⟩:=hO2.app (bytes:=8) (id0:=(0,fc+5+6,95)) xk7 (by omega) ⟨rfl,rfl⟩ (by unfold xkg;omega) (k:Int)
    simp only[xku,xlo,xtn]
    rw[show ∀x:Int,elems m2.get 1 (.slit [I x] 1 true)=some (intE x,1)from λ_=>rfl,a1]
    unfold x4t
    simp(disch:=omega) [xk6]
    exact next o2 m3 _ ⟨by rw[a4 _ (by unfold okU7;simp)];exact c1,h2.frame λj hj=>a4 j (by have:=hj.2;unfold okU7;omega),by rw[hsn];exact a2⟩
   |false=>
    rw[hc,x12b (by simp),x13y]at hsn
    simp only[xmk]
    unfold x4t
    simp(disch:=omega) [xk6]
    exact next o m2 _ ⟨c1,h2,by rw[hsn];exact hO2⟩
  .rintro n o m fc ⟨b1,hF,hO⟩
   rw[x12g (by simp[freshM])]at hO
   simp only[x46]
   unfold x88 xe5
   simp[b1,hp.len xlc]
   obtain⟨a',h1,h2⟩:=hO.sl1 3
   exact RetF.mk (xtp h2 frz_I) ⟨a',rfl,h1⟩
theorem xzx(d:Nat){s p:AV}{l:List Scene}{P:List Pq}(hs:Sl Scene.c s l)(hp:Sl Pq.c p P)(hR:Right7 l P)(m:Mem) :
 ∃a,Ints a (xl4 (fW l P) l.length P)/\xk4 (xk2 (d+4)) x1w [.agg [s,p]] m=some (.tup [a,I ((xlj (fW l P) l.length P).map (fW l P)).sum],m):=by
 obtain⟨v,⟨a,rfl,h1⟩,hc⟩:=xlq (by simp[hs.still1,hp.still1]) (xzw d hs hp hR) m
 exact⟨a,h1,hc⟩
theorem xxi:Tryz.prog.underlying x3r=some (.slice x92):=by kernel_rfl
theorem xs9:xh=[I 0,I 0]:=by kernel_rfl
theorem w_ends(d:Nat){s p:AV}{P:List Pq}(hs:s.one=true/\still1 s=true)(hp:Sl Pq.c p P){x:Sp}(hx:0<=x.p/\x.p<P.length)(m:Mem) :
 xk4 (xk2 (d+1)) x2t [.agg [s,p],.agg [I x.p,I x.s]] m=some (.tup [I (frS P x),I (toS P x)],m):=by
 refine xlu (by simp[hs.2,hp.still1]) ?_ m
 have ip:=hp.ixz Pq.len hx.1 hx.2
 have lp:=λm=>xlt (m:=m) (enc:=Pq.c) Pq.len (by omega) (show x.p.toNat<P.length by omega)
 rw[<-xnn (by omega)]at lp
 unfold frS toS
 generalize prAt P x.p=q at *
 simp only[Pq.c]at lp
 rw[xgv]
 unfold xaf x7o
 by_cases c:x.s<0
 .simp[mem0,hs.1,hp.one,ip,lp,xmn,c]
  exact RetF.tup rfl rfl
 .simp[mem0,hs.1,hp.one,ip,lp,xmn,c]
  exact RetF.tup rfl rfl
theorem w_rends(d:Nat){s p:AV}{P:List Pq}(hs:s.one=true/\still1 s=true)(hp:Sl Pq.c p P){x:Sp}(hx:0<=x.p/\x.p<P.length)(h1:x.s=1\/x.s=-1)(m:Mem) :
 xk4 (xk2 (d+1)) x1q [.agg [s,p],.agg [I x.p,I x.s]] m=some (.tup [I (frS P x),I (toS P x)],m):=by
 refine xlu (by simp[hs.2,hp.still1]) ?_ m
 have ip:=hp.ixz Pq.len hx.1 hx.2
 have lp:=λm=>xlt (m:=m) (enc:=Pq.c) Pq.len (by omega) (show x.p.toNat<P.length by omega)
 rw[<-xnn (by omega)]at lp
 unfold frS toS
 generalize prAt P x.p=q at *
 simp only[Pq.c]at lp
 rw[xgs]
 unfold xad x7i
 rcases h1 with c|c
 .simp[mem0,hs.1,hp.one,ip,lp,xmn,c]
  exact RetF.tup rfl rfl
 .simp[mem0,hs.1,hp.one,ip,lp,xmn,c]
  exact RetF.tup rfl rfl
def idY:Id:=(0,5,21)
def idS:Id:=(0,10,25)
structure WM (s p:AV) (st:RSt) (m:Mem):Prop where
 b4:m.get (0,0,4)=some (.row [s,p] 0 false)
 oY:Ow Sp.c m idY st.y
 oS:Ow bE m idS st.k
theorem WM.fr{s p:AV}{st:RSt}{m m':Mem}(h:WM s p st m)(e:∀j:Id,j=(0,0,4)\/j=idY\/j=idS->m'.get j=m.get j):WM s p st m':=
 ⟨by rw[e _ (.inl rfl)];exact h.b4,h.oY.fr (e _ (.inr (.inl rfl))),h.oS.fr (e _ (.inr (.inr rfl)))⟩
theorem ow_ix2{id:Id}{n:Nat}{k:Int}(h0:0<=k)(h1:k<n):sIx 2 (.sref id 0 0 n 2 true) (I k)=some (.ptr id 0 (k.toNat*2)):=ow_ix h0 h1
theorem l_rtry(d:Nat){s p f:AV}{l:List Scene}{P:List Pq}{F:List Int}(hs:Sl Scene.c s l)(hp:Sl Pq.c p P)(hf:Ints f F)(hP:∀p∈P,PqIn l.length p)(hr:∀i∈F,0<=i/\i<P.length)(hF:F.length<=1000){k:Nat}(hk:k<F.length){fr:Int}(sg:Int)(hsg:sg=1\/sg=-1){st:RSt}(hI:RInv7 l.length P F fr st){rec1:AV->AV->AV->AV->AV->AV->AV->AV->Mem->Nat->O2}{rec2:AV->AV->AV->AV->AV->AV->AV->AV->AV->Mem->Nat->O2}{n1:Nat}{t2 t3 t31 t32:AV}{Q:O2->Prop}{m:Mem}(fc:Nat)(hM:WM s p st m)(go:∀m' fc',WM s p (xmg P st ⟨at0 F k,sg⟩) m'->Q (x13 (xk2 (d+1)) [] 0 rec1 rec2 n1 f t2 t3 (.ptr (0,0,4) 0 0) (.sref idY 0 0 l.length 2 true) (.sref idS 0 0 l.length 1 true) (I k) (I (sg+2)) t31 t32 m' fc')) :
 Q (x13 (xk2 (d+1)) [] 0 rec1 rec2 (n1+1) f t2 t3 (.ptr (0,0,4) 0 0) (.sref idY 0 0 l.length 2 true) (.sref idS 0 0 l.length 1 true) (I k) (I sg) t31 t32 m fc):=by
 have ix:=hf.ix xk7 hk
 have ld:=λm=>xkn (m:=m) hk
 have hmem:at0 F k∈F:=by rw[xkl hk];exact x12s hk
 have hx:=hr _ hmem
 obtain⟨x,hxe⟩:∃x:Sp,x=⟨at0 F k,sg⟩:=⟨_,rfl⟩
 have hIn:InF F x:=by rw[hxe];exact⟨hmem,hsg⟩
 obtain⟨⟨a0,a1⟩,t0,t1⟩:=xmh hP hr hIn
 have he:=λm=>w_rends d ⟨hs.one,hs.still1⟩ hp (x:=x) (by rw[hxe];exact hx) (by rw[hxe];exact hsg) m
 rw[<-hxe]at go
 have hxp:x.p=at0 F k:=by rw[hxe]
 have hxs:x.s=sg:=by rw[hxe]
 rw[<-hxp]at ld
 rw[<-hxs]at go ⊢
 have hle:x.s<=1:=by rcases hIn.2 with e|e<;>omega
 have hbuild:xkr [I 0,I 0] [(0,1,I x.p),(1,1,I x.s)]=some (.agg [I x.p,I x.s]):=by simp[xkr,xle]
 simp only[x13]
 unfold x6q xd0
 simp only[sLe_I,hle,x12o,xku,xka,ix,ld,xs9,hbuild]
 simp only[xrl,xok,Mem.get_new,x12v,xqr]
 simp
 generalize hm1:Mem.set _ _ _=m1
 have q13:m1.get (0,fc+2+6,13)=some (.row [I x.p,I x.s] 0 false):=by rw[<-hm1];simp
 have hM1:WM s p st m1:=hM.fr λj hj=>by
  rw[<-hm1]
  rcases hj with rfl|rfl|rfl
  .simp
  .simp[idY]
  .simp[idS]
 have ixA:sIx 1 (.sref idS 0 0 l.length 1 true) (I (frS P x))=some (.ptr idS 0 (frS P x).toNat):=xnp a0 a1
 have ldA:sLd false 1 (.ptr idS 0 (frS P x).toNat) m1=some (B (boA st.k (frS P x))):=hM1.oS.ldB a0 (by rw[hI.k];exact a1)
 have ixT:sIx 1 (.sref idS 0 0 l.length 1 true) (I (toS P x))=some (.ptr idS 0 (toS P x).toNat):=xnp t0 t1
 have ldT:sLd false 1 (.ptr idS 0 (toS P x).toNat) m1=some (B (boA st.k (toS P x))):=hM1.oS.ldB t0 (by rw[hI.k];exact t1)
 have ixY:sIx 2 (.sref idY 0 0 l.length 2 true) (I (toS P x))=some (.ptr idY 0 ((toS P x).toNat*2)):=ow_ix2 t0 t1
 have hb4:=hM1.b4
 have skip:xmg P st x=st->∀fc2,Q (x3u (xk2 (d+1)) [] 0 rec1 rec2 (x13 (xk2 (d+1)) [] 0 rec1 rec2 n1) f t2 t3 (.ptr (0,0,4) 0 0) (.sref idY 0 0 l.length 2 true) (.sref idS 0 0 l.length 1 true) (I k) (I x.s) t31 t32 m1 fc2):=λe fc2=>by
  unfold x3u
  simp only[sAdd_I,xka]
  rw[xk6 (by rcases hIn.2 with e|e<;>omega) (by rcases hIn.2 with e|e<;>omega)]
  exact go m1 _ (by rw[e];exact hM1)
 have hb4m:=hM.b4
 simp[-xok,hb4m,hb4,q13,he,ixA]
 rw[<-xlb,ldA]
 cases ca:boA st.k (frS P x)with
 |false=>
  simp
  exact skip (by unfold xmg;simp[ca]) _
 |true=>
  simp[-xok,ixT]
  rw[<-xlb,ldT]
  cases cb:boA st.k (toS P x)with
  |true=>
   simp
   exact skip (by unfold xmg;simp[cb]) _
  |false=>
   have hst:xmg P st x=⟨st.y.set (toS P x).toNat x,st.k.set (toS P x).toNat true⟩:=by unfold xmg;simp[ca,cb]
   obtain⟨y1,y2⟩:=hM1.oY.st Sp.len (k:=(toS P x).toNat) (by rw[hI.y];omega) (x:=x) (v:=.agg [I x.p,I x.s]) rfl rfl
   have hM2:WM s p ⟨st.y.set (toS P x).toNat x,st.k⟩ (m1.set idY (.row ((st.y.set (toS P x).toNat x).flatMap Sp.c) 0 false)):=⟨by rw[Mem.get_set,x12b (by simp[idY])];exact hM1.b4,y2,hM1.oS.fr (by rw[Mem.get_set,x12b (by simp[idY,idS])])⟩
   generalize hm2:Mem.set m1 _ _=m2 at y1 hM2
   obtain⟨s1,s2⟩:=hM2.oS.st1 (g:=B) (λ_=>rfl) (k:=toS P x) t0 (by rw[hI.k];exact t1) (x:=true) rfl rfl
   have hM3:WM s p ⟨st.y.set (toS P x).toNat x,st.k.set (toS P x).toNat true⟩ (m2.set idS (.row ((st.k.set (toS P x).toNat true).flatMap bE) 0 false)):=⟨by rw[Mem.get_set,x12b (by simp[idS])];exact hM2.b4,hM2.oY.fr (by rw[Mem.get_set,x12b (by simp[idY,idS])]),s2⟩
   simp[-xok,q13,ixY,y1,s1]
   unfold x3u
   simp only[sAdd_I,xka]
   rw[xk6 (by rcases hIn.2 with e|e<;>omega) (by rcases hIn.2 with e|e<;>omega)]
   exact go _ _ (by rw[hst];exact hM3)
theorem xzy{F:List Int}{k:Nat}(hk:k<F.length):xou (F.drop k)=⟨at0 F k,-1⟩::⟨at0 F k,1⟩::xou (F.drop (k+1)):=by
 unfold xou
 rw[xl7 hk,x139,xkl hk]
 rfl
def OutS(m:Mem)(a:AV)(l:List Sp):Prop:=Sl Sp.c a l\/∃id:Id,id.1=0/\id.2.2=85/\a=.sref id 0 0 l.length 2 true/\Ow Sp.c m id l
theorem OutS.elems{m:Mem}{a:AV}{l:List Sp}(h:OutS m a l):elems m.get 2 a=some (l.flatMap Sp.c,l.length):=by
 rcases h with h|⟨id,-,-,rfl,h⟩
 .exact h.elems Sp.len m.get
 .have hl:=xme Sp.len l
  unfold Go.Ix.elems
  simp only
  unfold Ow at h
  rw[h]
  simp only
  rw[x12c ⟨trivial,trivial,by omega⟩,x12j,x12g (by omega)]
theorem OutS.frz{m:Mem}{a:AV}{l:List Sp}(h:OutS m a l)(k:Nat):∃a',Sl Sp.c a' l/\Go.Ix.frz m.get (k+2) a=some a':=by
 rcases h with h|⟨id,-,-,rfl,h⟩
 .exact⟨a,h,xmm _ k h.still⟩
 .exact⟨_,Sl.lit l false,xoq (k:=k) Sp.len Sp.still h⟩
theorem l_rback(d:Nat){s p:AV}{l:List Scene}{P:List Pq}{F:List Int}(hs:Sl Scene.c s l)(hp:Sl Pq.c p P)(hP:∀p∈P,PqIn l.length p)(hr:∀i∈F,0<=i/\i<P.length){fr:Int}{st:RSt}(hI:RInv7 l.length P F fr st){T:List Sp}(hT:T.length<=1000) :
 ∀(r:List Sp) (v:Int) (acc:List Sp) (n:Nat) (o:AV) (m:Mem) (fc:Nat),Bw P F st fr r v->0<=v->v<l.length->r.length<n->WM s p st m->OutS m o acc->r.reverse++acc=T ->
 RetF (λa=>Sl Sp.c a T) (x3t (xk2 (d+1)) [] 0 n (I fr) (.ptr (0,0,4) 0 0) (.sref idY 0 0 l.length 2 true) o (I v) m fc):=by
 intro r
 induction r with
 |nil=>
  intro v acc n o m fc hB v0 v1 hn hM hO hE
  obtain⟨n,rfl⟩:∃i,n=i+1:=⟨n-1,by omega⟩
  have:=hB.2
  subst this
  simp only[x3t]
  unfold x6p xcv
  simp
  obtain⟨a',h1,h2⟩:=hO.frz 4
  rw[<-hE]
  exact RetF.mk h2 h1
 |cons x r ih=>
  intro v acc n o m fc hB v0 v1 hn hM hO hE
  obtain⟨n,rfl⟩:∃i,n=i+1:=⟨n-1,by omega⟩
  obtain⟨b1,b2,b3,b4,b5,b6⟩:=hB
  obtain⟨⟨a0,a1⟩,-,-⟩:=xmh hP hr b5
  have hx:=hr x.p b5.1
  have ixY:sIx 2 (.sref idY 0 0 l.length 2 true) (I v)=some (.ptr idY 0 (v.toNat*2)):=ow_ix2 v0 v1
  have hvl:v.toNat<st.y.length:=by rw[hI.y];omega
  have ldY:∀mm,WM s p st mm->sLd true 2 (.ptr idY 0 (v.toNat*2)) mm=some (.agg [I x.p,I x.s]):=λmm hmm=>by
   have:=hmm.oY.ldS Sp.len (k:=v.toNat) hvl
   have e:st.y[v.toNat]=x:=by
    have:=b3
    unfold byA at this
    rw[x12n,x12z hvl]at this
    exact this
   rw[e]at this
   exact this
  have he:=λm=>w_rends d ⟨hs.one,hs.still1⟩ hp (x:=x) hx b5.2 m
  have hlen:(r.reverse++x::acc).length<=1000:=by rw[<-List.singleton_append,<-x14z,<-x15s,hE];exact hT
  simp at hlen
  obtain⟨o2,m2,h1,h2,h3⟩:∃o2 m2,(∀{R:Type} (K:AV->Mem->Option R),sApp 2 16 (0,fc+9,85) (Go.Ix.elems m.get 2 o) (.slit [I x.p,I x.s] 1 true) m K=K o2 m2)/\OutS m2 o2 (x::acc)/\∀j:Id,j.2.2≠85->m2.get j=m.get j:=by
   by_cases h0:acc.length=0
   .have:=x144.mp h0
    subst this
    refine⟨.slit [I x.p,I x.s] 1 true,m,λK=>?_,.inl (Sl.lit [x] true),λ_ _=>rfl⟩
    rw[hO.elems]
    simp[sApp]
   .refine⟨.sref (0,fc+9,85) 0 0 (x::acc).length 2 true,m.new (0,fc+9,85) (.row ((x::acc).flatMap Sp.c) 0 false),λK=>?_,.inr ⟨(0,fc+9,85),rfl,rfl,rfl,by unfold Ow;simp⟩,λj hj=>by rw[Mem.get_new,x12b (by rintro rfl;exact hj rfl)]⟩
    rw[hO.elems]
    simp only[sApp]
    rw[x12c (by simp),x12b h0,x12c (by unfold xkg;omega)]
    rw[x15t 1]
    rfl
  have hM2:WM s p st m2:=hM.fr λj hj=>h3 j (by rcases hj with rfl|rfl|rfl<;>simp[idY,idS])
  have hb4:=hM2.b4
  simp only[x3t]
  unfold x6p
  simp only[sNe_I,decide_not,show(decide (v=fr))=false from x14b b2,x13n,xku,xka,ixY,ldY m hM,xs9,mkLit_P]
  rw[h1]
  simp only[xlb,hb4,xmf,x13j,xlf,x12j,rd_2,xka]
  rw[<-xlb,ldY m2 hM2]
  simp[he]
  exact ih (frS P x) (x::acc) n o2 m2 _ b6 a0 a1 (by simp at hn;omega) hM2 h2 (by rw[<-hE,x15s,x14z];rfl)
theorem a_rway(d:Nat){s p f:AV}{l:List Scene}{P:List Pq}{F:List Int}(hs:Sl Scene.c s l)(hp:Sl Pq.c p P)(hf:Ints f F)(hl:l.length<=60)(hP:∀p∈P,PqIn l.length p)(hF:For l.length P F){fr b:Int}(h0:0<=fr)(h1:fr<l.length)(b0:0<=b)(b1:b<l.length){w:List Sp}(hw:Wk P w fr b)(hwF:AllF F w)(hN:NB P w) :
 RetF (λv=>Sl Sp.c v w) (xk2 (d+2) [] x1j [.agg [s,p],f,I fr,I b] mem0):=by
 have hFl:=hF.len hP
 have hwl:=xqs (hF.cut hP) hw hwF hN
 rw[xgc]
 unfold x9x x6t
 have ixS:sIx 1 (.sref idS 0 0 l.length 1 true) (I fr)=some (.ptr idS 0 fr.toNat):=xnp h0 h1
 simp[-xok,mem0,hs.one,hp.one,hs.len xl8,mkSl_s (n:=l.length) (by omega),mkSl_b (n:=l.length) (by omega)]
 generalize hm1:Mem.new _ _ _=m1
 have hM1:WM s p ⟨List.replicate l.length ⟨0,0⟩,List.replicate l.length false⟩ m1:=⟨by rw[<-hm1];simp,by unfold Ow;rw[<-hm1];simp[idY],by unfold Ow;rw[<-hm1];simp[idS]⟩
 obtain⟨s1,s2⟩:=hM1.oS.st1 (g:=B) (λ_=>rfl) (k:=fr) h0 (by simpa using h1) (x:=true) rfl rfl
 rw[show((0,10,25):Id)=idS from rfl,show((0,5,21):Id)=idY from rfl,ixS]
 simp only[xka,s1]
 generalize hm2:Mem.set m1 _ _=m2 at s2
 have hM2:WM s p (r0 l.length fr) m2:=⟨by rw[<-hm2,Mem.get_set,x12b (by simp[idS])];exact hM1.b4,hM1.oY.fr (by rw[<-hm2,Mem.get_set,x12b (by simp[idY,idS])]),s2⟩
 have hB:=rway_ok hP hF h0 h1 b0 b1 hw hwF hN
 have hI0:=r0_ok (P:=P) (F:=F) h0 h1
 obtain⟨hIE,-⟩:=hI0.rounds hP hF.rng h0 (k:=l.length)
 unfold xd3
 simp only[xoj,xlb,hM2.b4,xmf,x13j,xlf,x13c,x12j,rd_f,xka,hs.len xl8]
 refine xkq (N:=l.length) (λn k (st:RSt) m fc=>x26 (xk2 (d+1)) [] 0 n f (I fr) (I b) (.ptr (0,0,4) 0 0) (.sref idY 0 0 l.length 2 true) (.sref idS 0 0 l.length 1 true) (I l.length) (I k) m fc)
  (λk st m=>WM s p st m/\RInv7 l.length P F fr st/\xov P F (l.length-k) st=xov P F l.length (r0 l.length fr)) _ ?_ ?_ NN 0 (r0 l.length fr) m2 _ (by omega) (by rw[xkj];omega) ⟨hM2,hI0,rfl⟩
 .rintro n k st m fc hk ⟨hM,hI,hT⟩ next
  have hk':(k:Int)<(l.length:Int):=by omega
  rw[show l.length-k=(l.length-(k+1))+1 by omega,xov]at hT
  simp only[x26]
  unfold x6s xd2
  simp only[xkx,hk',x12o,xku,xka]
  refine xkq (N:=F.length) (λn2 j (st2:RSt) m fc=>x3v (xk2 (d+1)) [] 0 (x26 (xk2 (d+1)) [] 0 n) n2 f (I fr) (I b) (.ptr (0,0,4) 0 0) (.sref idY 0 0 l.length 2 true) (.sref idS 0 0 l.length 1 true) (I j) (I l.length) (I k) m fc)
   (λj st2 m=>WM s p st2 m/\RInv7 l.length P F fr st2/\(xou (F.drop j)).foldl (xmg P) st2=xs8 P F st) _ ?_ ?_ NN 0 st m _ (by omega) (by rw[xkj];omega) ⟨hM,hI,by simp[xs8]⟩
  .rintro n2 j st2 m fc hj ⟨hM,hI,hR⟩ next2
   have hj':(j:Int)<(F.length:Int):=by omega
   have hmem:at0 F j∈F:=by rw[xkl hj];exact x12s hj
   rw[xzy hj,x14s,x14s]at hR
   simp only[x3v]
   unfold x6r xd1
   simp only[hf.len xke,xkx,hj',x12o,xku,xka]
   obtain⟨NM,hNM⟩:∃NM,NN=NM+1+1+1:=⟨NN-3,by have:=xkj;omega⟩
   rw[hNM]
   obtain⟨i1,-,-⟩:=hI.step hP hF.rng h0 (x:=⟨at0 F j,-1⟩) ⟨hmem,.inr rfl⟩
   obtain⟨i2,-,-⟩:=i1.step hP hF.rng h0 (x:=⟨at0 F j,1⟩) ⟨hmem,.inl rfl⟩
   refine l_rtry d hs hp hf hP hF.rng (by omega) hj (-1) (.inr rfl) hI _ hM λm3 fc3 hM3=>?_
   refine l_rtry d hs hp hf hP hF.rng (by omega) hj 1 (.inl rfl) i1 _ hM3 λm4 fc4 hM4=>?_
   simp only[x13]
   unfold x6q xcz
   simp(disch:=omega) [xk6]
   exact next2 _ m4 _ ⟨hM4,i2,hR⟩
  .rintro n2 st2 m fc ⟨hM,hI,hR⟩
   rw[x134 (x12f _)]at hR
   have hR':st2=xs8 P F st:=hR
   subst hR'
   simp only[x3v]
   unfold x6r xcy
   simp(disch:=omega) [hf.len xke,xk6]
   exact next _ m _ ⟨hM,hI,hT⟩
 .rintro n st m fc ⟨hM,hI,hT⟩
  rw[x162,xov]at hT
  rw[<-hT]at hB
  simp only[x26]
  unfold x6s xcx xcw
  simp
  refine l_rback d hs hp hP hF.rng hI (T:=w) (by omega) w.reverse b [] NN nilS m _ hB b0 b1 (by rw[xkj];simp;omega) hM (.inl (Or.inl ⟨rfl,rfl⟩)) (by simp)
theorem w_rway(d:Nat){s p f:AV}{l:List Scene}{P:List Pq}{F:List Int}(hs:Sl Scene.c s l)(hp:Sl Pq.c p P)(hf:Ints f F)(hl:l.length<=60)(hP:∀p∈P,PqIn l.length p)(hF:For l.length P F){fr b:Int}(h0:0<=fr)(h1:fr<l.length)(b0:0<=b)(b1:b<l.length){w:List Sp}(hw:Wk P w fr b)(hwF:AllF F w)(hN:NB P w)(m:Mem) :
 ∃v,Sl Sp.c v w/\xk4 (xk2 (d+2)) x1j [.agg [s,p],f,I fr,I b] m=some (v,m):=
 xlq (by simp[hs.still1,hp.still1,hf.still]) (a_rway d hs hp hf hl hP hF h0 h1 b0 b1 hw hwF hN) m
theorem z_2i:xf8=[I 0,I 0]:=by kernel_rfl
theorem idx_2i0:sIdx Tryz.prog x4s (.agg [I 1,I (-1)]) (I 0)=some (I 1):=by kernel_rfl
theorem idx_2i1:sIdx Tryz.prog x4s (.agg [I 1,I (-1)]) (I 1)=some (I (-1)):=by kernel_rfl
theorem w_from(d:Nat){s p f:AV}{l:List Scene}{P:List Pq}{F:List Int}(hs:Sl Scene.c s l)(hp:Sl Pq.c p P)(hf:Ints f F)(v:Int)(m:Mem) :
 xk4 (xk2 (d+1)) x2p [.agg [s,p],I v,f] m=some (.clo xq [.plit [f],.plit [s,p],.plit [I v]],m):=by
 refine xlu (by simp[hs.still1,hp.still1,hf.still]) ?_ m
 rw[xgo]
 unfold xa9 x7c
 simp[mem0,hs.one,hp.one,hf.one,hf.cells]
 generalize hm:Mem.new _ _ _=m1
 have g5:m1.get (0,2,5)=some (.row [f] 0 false):=by rw[<-hm];simp
 have g3:m1.get (0,0,3)=some (.row [s,p] 0 false):=by rw[<-hm];simp
 have g4:m1.get (0,1,4)=some (.row [I v] 0 false):=by rw[<-hm];simp
 have e5:Go.Ix.frz m1.get 5 (.ptr (0,2,5) 0 0)=some (.plit [f]):=xud g5 (xmm _ 2 hf.still)
 have e4:Go.Ix.frz m1.get 5 (.ptr (0,1,4) 0 0)=some (.plit [I v]):=xud g4 rfl
 have e3:Go.Ix.frz m1.get 5 (.ptr (0,0,3) 0 0)=some (.plit [s,p]):=by
  rw[xxe g3]
  simp only[x12j,x135,x13p,xmm m1.get 2 hs.still,xmm m1.get 2 hp.still]
  rfl
 refine RetF.mk (a':=.clo xq [.plit [f],.plit [s,p],.plit [I v]]) ?_ rfl
 show(([AV.ptr (0,2,5) 0 0,.ptr (0,0,3) 0 0,.ptr (0,1,4) 0 0].mapM (Go.Ix.frz m1.get 5)).map λl=>AV.clo _ l)=_
 simp only[x135,x13p,e5,e4,e3]
 rfl
theorem xzz{F:List Int}{k:Nat}(hk:k<F.length):xmz (F.take (k+1))=xmz (F.take k)++[⟨at0 F k,1⟩]++[⟨at0 F k,-1⟩]:=by
 unfold xmz
 rw[x12y hk,List.flatMap_append,xkl hk]
 simp
theorem c_from2(d:Nat){hh:FHs}{id:Id}{h:List AV->Mem->Option Mem}{s p f:AV}{l:List Scene}{P:List Pq}{F:List Int}(hs:Sl Scene.c s l)(hp:Sl Pq.c p P)(hf:Ints f F)(hF:F.length<=1000)(hr:∀i∈F,0<=i/\i<P.length)(hl:xnk hh id=some h)(v:Int){m0:Mem}(Inv:List Sp->Mem->Prop)(Fin:Mem->Prop)(hst:∀pre m m',Inv pre m->m'.next=m.next->(∀i:Id,¬i.1=m0.next->m'.get i=m.get i)->Inv pre m')(hy:∀pre x m,InF F x->frS P x=v->Inv pre m->∃m2,h [.agg [I x.p,I x.s],I (toS P x)] m=some m2/\(live m2.get id=true/\Inv (pre++[x]) m2\/live m2.get id=false/\Fin m2))(hn:∀pre x m,InF F x->frS P x≠v->Inv pre m->Inv (pre++[x]) m)(h0:∀m,m.next=m0.next+1->(∀i:Id,m.get i=m0.get i)->Inv [] m) :
 ∃m',xk2 (d+2) hh xq [.yld id,.plit [f],.plit [s,p],.plit [I v]] m0=some (.tup [],m')/\(Inv (xmz F) m'\/Fin m'):=by
 rw[xh2]
 unfold xam x80
 generalize hu:m0.next=u at *
 simp only[sLd_cons,rd_f,xka,hf.len xke]
 refine xkq (N:=F.length) (σ:=Unit) (λn k _ m fc=>x15 (xk2 (d+1)) hh u n (.yld id) (.plit [s,p]) (.plit [I v]) f (I F.length) (I k) m fc) (λk _ m=>Inv (xmz (F.take k)) m)
  (λr=>∃m',r=some (.tup [],m')/\(Inv (xmz F) m'\/Fin m')) ?_ ?_ NN 0 () _ _ (by omega) (by rw[xkj];omega) (by simpa[xmz]using h0 ⟨m0.hp,u+1⟩ rfl (λ_=>rfl))
 .rintro n k-m fc hk hI next
  have hk':(k:Int)<(F.length:Int):=by omega
  have ix:=hf.ix xk7 hk
  have ld:=λm=>xkn (m:=m) hk
  have hmem:at0 F k∈F:=by rw[xkl hk];exact x12s hk
  have hx:=hr _ hmem
  have hsc:=xzz hk
  generalize at0 F k=i at *
  simp only[x15]
  unfold x7z xdx
  simp only[xkx,hk',x12o,xku,xka,ix,ld,z_2i]
  rw[show xkr [I 0,I 0] [(0,1,I 1),(1,1,I (-1))]=some (.agg [I 1,I (-1)]) by simp[xkr,xle]]
  simp only[xka]
  have one:∀(sg:Int) (q:Int) (pre:List Sp) (m:Mem) (fc n1:Nat),(sg=1\/sg=-1)->q<2->0<=q->sIdx Tryz.prog x4s (.agg [I 1,I (-1)]) (I q)=some (I sg)->Inv pre m ->
   (∀m' fc',Inv (pre++[⟨i,sg⟩]) m'->∃m2,x29 (xk2 (d+1)) hh u (x15 (xk2 (d+1)) hh u n) n1 (.yld id) (.plit [s,p]) (.plit [I v]) (I i) f (I F.length) (I k) (.agg [I 1,I (-1)]) (I (q+1)) m' fc'=some (.tup [],m2)/\(Inv (xmz F) m2\/Fin m2)) ->
   ∃m2,x29 (xk2 (d+1)) hh u (x15 (xk2 (d+1)) hh u n) (n1+1) (.yld id) (.plit [s,p]) (.plit [I v]) (I i) f (I F.length) (I k) (.agg [I 1,I (-1)]) (I q) m fc=some (.tup [],m2)/\(Inv (xmz F) m2\/Fin m2):=by
   intro sg q pre m fc n1 hsg hq2 hq0 hidx hI2 go
   have hIn:InF F ⟨i,sg⟩:=⟨hmem,hsg⟩
   have he:=λm=>w_ends d ⟨hs.one,hs.still1⟩ hp (x:=⟨i,sg⟩) hx m
   simp only[x29]
   unfold x7y
   simp only[xkx,hq2,x12o,xku,xka,hidx,xs9]
   rw[show xkr [I 0,I 0] [(0,1,I i),(1,1,I sg)]=some (.agg [I i,I sg]) by simp[xkr,xle]]
   simp
   generalize hm1:Mem.set _ _ _=m1
   have q9:m1.get (u,fc+6,9)=some (.row [I i,I sg] 0 false):=by rw[<-hm1];simp
   have hI3:Inv pre m1:=hst pre m m1 hI2 (by rw[<-hm1];rfl) λj hj=>by
    rw[<-hm1,Mem.get_set,x12b (by rintro rfl;exact hj rfl),Mem.get_new,x12b (by rintro rfl;exact hj rfl)]
   simp[q9,he]
   rw[xk6 (by omega) (by omega)]
   by_cases c:frS P ⟨i,sg⟩=v
   .obtain⟨m2,h1,h2⟩:=hy pre ⟨i,sg⟩ m1 hIn c hI3
    have hinv:xlx (xk2 (d+1)) hh 2 (.yld id) [.agg [I i,I sg],I (toS P ⟨i,sg⟩)] m1=some (B (live m2.get id),m2):=by
     show(match xnk hh id with
      |some h=>(h [.agg [I i,I sg],I (toS P ⟨i,sg⟩)] m1).map λ(m':Mem)=>(B (live m'.get id),m')
      |none=>none)=_
     rw[hl]
     simp only
     rw[h1]
     rfl
    rcases h2 with ⟨hlv,h2⟩|⟨hlv,h2⟩
    .rw[hlv]at hinv
     simp[c,q9,hinv]
     exact go m2 _ h2
    .rw[hlv]at hinv
     simp[c,q9,hinv]
     exact .inr h2
   .simp[c]
    exact go m1 _ (hn pre ⟨i,sg⟩ m1 hIn c hI3)
  obtain⟨NM,hNM⟩:∃NM,NN=NM+1+1+1:=⟨NN-3,by have:=xkj;omega⟩
  rw[hNM]
  refine one 1 0 _ m _ _ (.inl rfl) (by omega) (by omega) idx_2i0 hI λm1 fc1 h1=>?_
  refine one (-1) 1 _ m1 _ _ (.inr rfl) (by omega) (by omega) idx_2i1 h1 λm2 fc2 h2=>?_
  simp only[x29]
  unfold x7y xdw
  simp(disch:=omega) [xk6]
  exact next () m2 _ (by rw[hsc];exact h2)
 .rintro n-m fc hI
  rw[x12g (x12f _)]at hI
  simp only[x15]
  unfold x7z
  simp
  exact .inl hI
theorem c_from(d:Nat){hh:FHs}{id:Id}{h:List AV->Mem->Option Mem}{s p f:AV}{l:List Scene}{P:List Pq}{F:List Int}(hs:Sl Scene.c s l)(hp:Sl Pq.c p P)(hf:Ints f F)(hF:F.length<=1000)(hr:∀i∈F,0<=i/\i<P.length)(hl:xnk hh id=some h)(v:Int){m0:Mem}(Inv:List Sp->Mem->Prop)(hst:∀pre m m',Inv pre m->m'.next=m.next->(∀i:Id,¬i.1=m0.next->m'.get i=m.get i)->Inv pre m')(hy:∀pre x m,InF F x->frS P x=v->Inv pre m->∃m2,h [.agg [I x.p,I x.s],I (toS P x)] m=some m2/\Inv (pre++[x]) m2)(hn:∀pre x m,InF F x->frS P x≠v->Inv pre m->Inv (pre++[x]) m)(h0:∀m,m.next=m0.next+1->(∀i:Id,m.get i=m0.get i)->Inv [] m)(hid:id.2.2=0:=by rfl) :
 ∃m',xk2 (d+2) hh xq [.yld id,.plit [f],.plit [s,p],.plit [I v]] m0=some (.tup [],m')/\Inv (xmz F) m':=by
 obtain⟨m',h1,h2⟩:=c_from2 d hs hp hf hF hr hl v Inv (λ_=>False) hst (λpre x m a b c=>by
  obtain⟨m2,h1,h2⟩:=hy pre x m a b c
  exact⟨m2,h1,.inl ⟨by unfold live;rw[hid];rfl,h2⟩⟩) hn h0
 exact⟨m',h1,h2.resolve_right λx=>x⟩
end Go.Ix
