import Derived.Test.YtdfahbenacjgeaaGreatWg16
import Derived.Test.YtdfahbenacjgeaaGreatWg15
import Derived.Test.YtdfahbenacjgeaaGreatWg11
import Derived.Test.YtdfahbenacjgeaaGreatWg14
import Derived.Test.YtdfahbenacjgeaaGreatWg12
import Derived.Test.YtdfahbenacjgeaaGreatWg9
import Derived.Test.YtdfahbenacjgeaaGreatWg2
set_option linter.unusedSimpArgs false
set_option linter.unusedVariables false
namespace Go.Ix
open Go.Proofs
noncomputable def potF(l:List Scene)(P:List Pq)(F:List Int)(ph:List Int):Int->Int:=potM l.length P F (phI ph)
theorem xxs{l:List Scene}{P:List Pq}{F:List Int}(hR:Right7 l P)(hT:Tree l.length P F){ph:List Int}{k:Nat}(hk:k<l.length):∃w,Wk P w (at0 (joinsM (freshM l.length) P) k) k/\AllF F w/\NB P w/\sumW (phI ph) w=potF l P F ph k:=by
 have hF:=hT.fo
 have hL:=(Lab.fresh l.length).joins hR.pr
 obtain⟨l0,l1,l2⟩:=hL.ok k hk
 have hu:=hT.uni hR.pr
 obtain⟨w,hw,hwF⟩:=xs2 hR.pr hF.rng (v:=(at0 (joinsM (freshM l.length) P) k).toNat) (w:=k) (by omega) hk (by rw[hu];unfold Sm;exact l2)
 obtain⟨w2,hw2,hwF2,hN⟩:=nb_of hw hwF
 rw[x13i l0]at hw2
 have hpot:=xq2 hR.pr (phI ph) hF
 refine⟨w2,hw2,hwF2,hN,?_⟩
 have:=hpot.st.walk hw2 hwF2
 rw[this]
 have hz:=hpot.z (at0 (joinsM (freshM l.length) P) k).toNat (by omega) (by rw[hu,l2];omega)
 rw[x13i l0]at hz
 unfold potF
 omega
theorem xxt{l:List Scene}{P:List Pq}{F:List Int}(hR:Right7 l P)(hT:Tree l.length P F){ph:List Int}(hph:ph.length=P.length)(hO:xn1 l P ph=[]){k:Nat}(hk:k<l.length):potF l P F ph k=potL l P ph k:=by
 obtain⟨w,h1,h2,h3,h4⟩:=xxs hR hT (ph:=ph) hk
 have hst:StOK7 P.length w:=λx hx=>⟨hT.fo.rng _ (h2 x hx).1,(h2 x hx).2⟩
 have h5:=xxr hph hO hst h1
 have hL:=xub hR.pr (fW l P)
 have hLab:=(Lab.fresh l.length).joins hR.pr
 obtain⟨l0,l1,l2⟩:=hLab.ok k hk
 have hpot:=xq2 hR.pr (phI ph) hL.fo
 have hz:=hpot.z (at0 (joinsM (freshM l.length) P) k).toNat (by omega) (by rw[hL.uni hR.pr,l2];omega)
 rw[x13i l0]at hz
 unfold potL at h5 ⊢
 omega
theorem w_rAlongT(d:Nat){s p f g v:AV}{l:List Scene}{P:List Pq}{F ph:List Int}(hs:Sl Scene.c s l)(hp:Sl Pq.c p P)(hf:Ints f ph)(hg1:g.one=true/\still1 g=true/\clean1 g=true)(hv:Ints v F)(hT:Tree l.length P F)(hR:Right7 l P)(hph:ph.length=P.length){M:Nat}(hM:∀k,k<ph.length->(at0 ph k).natAbs<=M)(hMb:M<=10000000000)(m:Mem) :
 ∃a,Ints a (phiL l.length (potF l P F ph))/\xk4 (xk2 (d+3)) xi [.agg [s,p,f,g],v] m=some (a,m):=by
 refine xlq (T:=λa=>Ints a (phiL l.length (potF l P F ph))) (by simp[hs.still1,hp.still1,hf.still1,hg1.2.1,hv.still]) ?_ m
 have hll:=hR.ll
 have hF:=hT.fo
 rw[xf4]
 unfold x4y x4i
 generalize hm1:(⟨[],1⟩:Mem).new (0,0,2) (.row [s,p,f,g] 0 false)=m1
 have g2:m1.get (0,0,2)=some (.row [s,p,f,g] 0 false):=by rw[<-hm1];simp
 obtain⟨a,ha,hca⟩:=w_all (d+1) ⟨hs.one,hs.still1⟩ hp (by have:=hR.pl;omega) (-1) m1
 have hal:(allM P.length (-1)).length=P.length:=by rw[all_1];simp[freshM]
 obtain⟨u,hu,hcu⟩:=xs6 (d+1) hs hp ha (all_rng hR (-1)) hll (by have:=hR.pl;omega) m1
 rw[xsa]at hu
 have hul:=((Lab.fresh l.length).joins hR.pr).len
 simp[mem0,hs.one,hp.one,hf.one,hg1.1,hm1,g2,hca,hcu,hs.clean1,hp.clean1,cAp,tR]
 unfold x5g
 refine xkq (N:=l.length) (λn k o m fc=>xr (xk2 (d+2)) [] 0 n v (.ptr (0,0,2) 0 0) u o (I k) m fc)
  (λk o m=>m.get (0,0,2)=some (.row [s,p,f,g] 0 false)/\Gr 1 intE 0 34 m o ((phiL l.length (potF l P F ph)).take k)) _ ?_ ?_ NN 0 nilS m1 _ (by omega) (by rw[xkj];omega) ⟨g2,by simpa using Gr.nil⟩
 .rintro n k o m fc hk ⟨hg,hG⟩ next
  have hk':(k:Int)<(l.length:Int):=by omega
  have hku:(k:Int)<((joinsM (freshM l.length) P).length:Int):=by omega
  have ixu:=hu.ix xk7 (show k<(joinsM (freshM l.length) P).length by omega)
  have ldu:=λm=>xkn (m:=m) (show k<(joinsM (freshM l.length) P).length by omega)
  obtain⟨l0,l1,l2⟩:=((Lab.fresh l.length).joins hR.pr).ok k hk
  obtain⟨w,hw,hwF,hN,hsum⟩:=xxs hR hT (ph:=ph) hk
  have hwl:=xqs (hF.cut hR.pr) hw hwF hN
  have hFl:=hF.len hR.pr
  obtain⟨c,hc,hway⟩:=w_rway d hs hp hv hll hR.pr hF (fr:=at0 (joinsM (freshM l.length) P) k) (b:=k) l0 (by omega) (by omega) hk' hw hwF hN m
  have hS:=w_rSum (d+1) hf hc (λx hx=>⟨by have:=hF.rng x.p (hwF x hx).1;omega,(hwF x hx).2⟩) (by omega) hM hMb m
  rw[hsum]at hS
  have hsn:=xxk l.length (potF l P F ph) hk
  obtain⟨o2,m2,e1,e2,e3,e4⟩:=hG.app (s0:=fc+18) (bytes:=8) xk7 (by omega) (by unfold xkg;simp[xls];omega) (potF l P F ph k)
  simp only[xr]
  unfold x3c
  simp[hu.len xke,hku,hul,hg,ixu,ldu,hway,hS,xlo,hk']
  rw[show ∀x:Int,elems m.get 1 (.slit [I x] 1 true)=some (intE x,1)from λ_=>rfl,e1]
  simp[hs.clean1,hp.clean1,hv.clean,hf.clean,hc.clean,cAp,tR]
  rw[xk6 (by omega) (by omega)]
  exact next o2 m2 _ ⟨by rw[e4 _ (by simp)];exact hg,by rw[hsn];exact e2⟩
 .rintro n o m fc ⟨hg,hG⟩
  rw[x12g (by rw[xls];exact x12f _)]at hG
  simp only[xr]
  unfold x3c x5f
  simp[hu.len xke,hul]
  obtain⟨a',h1,h2⟩:=hG.frzk (k:=4) xk7 xm5
  exact RetF.mk h2 h1
def xnr(x:Int):Bool:=!decide (x % 4096=0)
def xo5(x:Int):Bool:=!(wi (x.tdiv 4096) (-1000) 1000)
noncomputable def nofE(l:List Scene)(P:List Pq)(ph:List Int):Int:=bif(xki l P ph).any xnr then 27 else bif(xki l P ph).any xo5 then 8 else 0
noncomputable def edgeK(l:List Scene)(P:List Pq)(ph wt:List Int)(k:Nat):Edge:=⟨(prAt P k).a,(prAt P k).b,(at0 (xki l P ph) k).tdiv 4096,at0 wt k⟩
noncomputable def netL(l:List Scene)(P:List Pq)(ph wt:List Int):List Edge:=(List.range P.length).map (edgeK l P ph wt)
noncomputable def nofN(l:List Scene)(P:List Pq)(ph wt:List Int):Int:=bif decide (nofE l P ph=0)then l.length else 0
noncomputable def nofL(l:List Scene)(P:List Pq)(ph wt:List Int):List Edge:=bif decide (nofE l P ph=0)then netL l P ph wt else[]
theorem xqz(l:List Scene)(P:List Pq)(ph wt:List Int):(netL l P ph wt).length=P.length:=by simp[netL]
theorem net_snoc{l:List Scene}{P:List Pq}{ph wt:List Int}{k:Nat}(hk:k<P.length):(netL l P ph wt).take (k+1)=(netL l P ph wt).take k++[edgeK l P ph wt k]:=by
 rw[x12y (by rw[xqz];exact hk)]
 simp[netL]
theorem mkLit_E7{id:Id}{a b c d:Int}{m:Mem}{R:Type}(k:AV->Mem->Option R):xl3 [I 0,I 0,I 0,I 0] [(0,4,.agg [I a,I b,I c,I d])] 1 4 id m k=k (.slit [I a,I b,I c,I d] 1 true) m:=by
 simp[xl3,xle,xld,x15b,clean1,AV.one,Value.oneCell']
theorem xsd:x23=[I 0,nilS]:=by kernel_rfl
theorem z_edge7:xd6=[I 0,I 0,I 0,I 0]:=by kernel_rfl
theorem build_E7{a b c d:Int}:xkr [I 0,I 0,I 0,I 0] [(0,1,I a),(1,1,I b),(2,1,I c),(3,1,I d)]=some (.agg [I a,I b,I c,I d]):=by simp[xkr,xle]
theorem miss_in{l:List Scene}{P:List Pq}{ph:List Int}(hR:Right7 l P)(hph:ph.length=P.length)(hM:∀k,k<ph.length->(at0 ph k).natAbs<=100000000){k:Nat}(hk:k<P.length):(at0 (xki l P ph) k).natAbs<=13000000000:=by
 have hnM:l.length*100000000<=60*100000000:=x15e hR.ll (x12f _)
 obtain⟨q0,q1,q2⟩:=hR.pr P[k] (x12s hk)
 rw[xui hk,xq3 hk]
 have ba:=xox hR hph hM (v:=P[k].a) q0 (by omega)
 have bb:=xox hR hph hM (v:=P[k].b) (by omega) q2
 have bp:=hM k (by omega)
 omega
theorem tdiv_in{x:Int}(h:x.natAbs<=13000000000):(x.tdiv 4096).natAbs<=13000000000:=by
 rw[Int.natAbs_tdiv]
 exact x13f (Nat.div_le_self _ _) h
def IsNet(l:List Scene)(P:List Pq)(ph wt:List Int)(v:AV):Prop:=∃e,v=.tup [.agg [I (nofN l P ph wt),e],I (nofE l P ph)]/\Sl Edge.c e (nofL l P ph wt)
theorem frz_net{objs:Id->Option Ob}{a b:AV}{x e:Int}(h:Go.Ix.frz objs 4 a=some b):Go.Ix.frz objs deep (.tup [.agg [I x,a],I e])=some (.tup [.agg [I x,b],I e]):=by
 refine xtp ?_ rfl
 exact xrx (k:=3) rfl h
noncomputable def nfE(l:List Scene)(P:List Pq)(ph wt:List Int):Int:=bif !decide (taskE l P ph wt=0)then taskE l P ph wt else nofE l P ph
noncomputable def nfN(l:List Scene)(P:List Pq)(ph wt:List Int):Int:=bif !decide (taskE l P ph wt=0)then 0 else nofN l P ph wt
noncomputable def nfL(l:List Scene)(P:List Pq)(ph wt:List Int):List Edge:=bif !decide (taskE l P ph wt=0)then[]else nofL l P ph wt
theorem a_rNetOf7(d:Nat){s p f g:AV}{l:List Scene}{P:List Pq}{ph wt:List Int}(hs:Sl Scene.c s l)(hp:Sl Pq.c p P)(hf:Ints f ph)(hg:Ints g wt)(hT:TaskOK l P ph wt) :
 RetF (IsNet l P ph wt) (xk2 (d+6) [] x1m [.agg [s,p,f,g]] mem0):=by
 have hR:=hT.r
 have hpl:=hR.pl
 have hM:=phM hT.hp
 have fin:∀(e:Int) (m:Mem),e≠0->nofE l P ph=e->RetF (IsNet l P ph wt) (some (.tup [.agg [I 0,nilS],I e],m)):=λe m h0 he=>
  RetF.mk (frz_net rfl) ⟨nilS,by unfold nofN;rw[he];simp[h0],Or.inl ⟨rfl,by unfold nofL;rw[he];simp[h0]⟩⟩
 rw[xgi]
 unfold xa3 x73
 simp[mem0,hs.one,hp.one,hf.one,hg.one,xsd,hs.len xl8]
 rw[show xkr [I 0,nilS] [(0,1,I (l.length:Int))]=some (.agg [I l.length,nilS]) by simp[xkr,xle]]
 simp
 generalize hm1:Mem.set _ _ _=m1
 have g1:m1.get (0,0,1)=some (.row [s,p,f,g] 0 false):=by rw[<-hm1];simp
 have g2:m1.get (0,1,2)=some (.row [I 0,nilS] 0 false):=by rw[<-hm1];simp
 have g4:m1.get (0,8,4)=some (.row [I l.length,nilS] 0 false):=by rw[<-hm1];simp
 obtain⟨ms,hms,hmc⟩:=w_rMisses d hs hp hf ⟨hg.one,hg.still1,hg.clean1⟩ hR hT.lp hM (by omega) m1
 have hml:=xo4 l P ph
 simp[g1,hmc]
 unfold xd8
 refine xkq (N:=P.length) (σ:=Unit) (λn k _ m fc=>x3y (xk2 (d+5)) [] 0 n (.ptr (0,0,1) 0 0) (.ptr (0,1,2) 0 0) (.ptr (0,8,4) 0 0) ms (I k) m fc)
  (λk _ m=>m=m1/\(xki l P ph).any xnr=((xki l P ph).drop k).any xnr) _ ?_ ?_ NN 0 () m1 _ (by omega) (by rw[xkj];omega) ⟨rfl,by simp⟩
 .rintro n k-m fc hk ⟨rfl,hA⟩ next
  have hk':(k:Int)<((xki l P ph).length:Int):=by omega
  have ixm:=hms.ix xk7 (show k<(xki l P ph).length by omega)
  have ldm:=λm=>xkn (m:=m) (show k<(xki l P ph).length by omega)
  have hmd:=λm=>w_Mod (d+4) (x:=at0 (xki l P ph) k) (y:=4096) (by omega) (by omega) m
  rw[xl7 (show k<(xki l P ph).length by omega),x14c,<-xkl]at hA
  simp only[x3y]
  unfold x72
  simp only[hms.len xke,xkx,hk',x12o,xku,xka,ixm,ldm,hmd,sNe_I]
  by_cases c:at0 (xki l P ph) k % 4096=0
  .rw[show xnr (at0 (xki l P ph) k)=false by unfold xnr;rw[x13e c];rfl,x15c]at hA
   simp only[c,x12o,x14t,xmk]
   simp(disch:=omega) [xk6]
   exact next () m _ ⟨rfl,hA⟩
  .rw[show xnr (at0 (xki l P ph) k)=true by unfold xnr;rw[x14b c];rfl,x14i]at hA
   simp only[c,x13k,x13n,xku]
   simp[g2,xkr,xle,sLdP,xsd]
   exact fin 27 _ (by omega) (by unfold nofE;rw[hA];rfl)
 .rintro n-m fc ⟨rfl,hA⟩
  rw[x134 (by omega)]at hA
  have c1:(xki l P ph).any xnr=false:=hA
  have hkn:¬((P.length:Int)<((xki l P ph).length:Int)):=by omega
  simp only[x3y]
  unfold x72 xd7
  simp only[hms.len xke,xkx,hkn,x13k,xmk,xka]
  refine xkq (N:=P.length) (σ:=Unit) (λn k _ m fc=>x3x (xk2 (d+5)) [] 0 n (.ptr (0,0,1) 0 0) (.ptr (0,1,2) 0 0) (.ptr (0,8,4) 0 0) ms (I k) m fc)
   (λk _ m=>(m.get (0,0,1)=some (.row [s,p,f,g] 0 false)/\m.get (0,1,2)=some (.row [I 0,nilS] 0 false))/\(∃o,m.get (0,8,4)=some (.row [I l.length,o] 0 false)/\Gk 4 Edge.c (okU7 0 67) m o ((netL l P ph wt).take k))/\(xki l P ph).any xo5=((xki l P ph).drop k).any xo5) _ ?_ ?_ NN 0 () m _ (by omega) (by rw[xkj];omega) ⟨⟨g1,g2⟩,⟨nilS,g4,by simpa using Gk.nil⟩,by simp⟩
  .rintro n k-m fc hk ⟨⟨q1,q2⟩,⟨o,q5,hG⟩,hA⟩ next
   have hk':(k:Int)<((xki l P ph).length:Int):=by omega
   have ip:=hp.ix Pq.len hk
   have lp:=λm=>xlt (m:=m) (enc:=Pq.c) Pq.len (by omega) hk
   have ixm:=hms.ix xk7 (show k<(xki l P ph).length by omega)
   have ldm:=λm=>xkn (m:=m) (show k<(xki l P ph).length by omega)
   have ixg:=hg.ix xk7 (show k<wt.length by rw[hT.lw];omega)
   have ldg:=λm=>xkn (m:=m) (show k<wt.length by rw[hT.lw];omega)
   have hmi:=miss_in hR hT.lp hM hk
   have htd:=tdiv_in hmi
   rw[xl7 (show k<(xki l P ph).length by omega),x14c,<-xkl]at hA
   have hsn:=net_snoc (l:=l) (ph:=ph) (wt:=wt) hk
   have hek:edgeK l P ph wt k=⟨P[k].a,P[k].b,(at0 (xki l P ph) k).tdiv 4096,at0 wt k⟩:=by unfold edgeK;rw[xq3 hk]
   rw[hek]at hsn
   have hnl:((netL l P ph wt).take k).length<=200:=by simp[xqz];omega
   generalize P[k]=q at *
   simp only[Pq.c]at lp
   have hw1:w64 ((at0 (xki l P ph) k).tdiv 4096)=(at0 (xki l P ph) k).tdiv 4096:=xk6 (by omega) (by omega)
   simp only[x3x]
   unfold x71
   simp only[hms.len xke,xkx,hk',x12o,xku,xka,ixm,ldm,sQuo_I (show(4096:Int)≠0 by omega),hw1]
   simp[xom]
   cases c2:wi ((at0 (xki l P ph) k).tdiv 4096) (-1000) 1000 with
   |false=>
    rw[show xo5 (at0 (xki l P ph) k)=true by unfold xo5;rw[c2];rfl,x14i]at hA
    simp[q2,xkr,xle,sLdP,xsd]
    exact fin 8 _ (by omega) (by unfold nofE;rw[c1,hA];rfl)
   |true=>
    rw[show xo5 (at0 (xki l P ph) k)=false by unfold xo5;rw[c2];rfl,x15c]at hA
    simp[q1,ip,lp,xmn]
    generalize hm3:Mem.set _ _ _=m3
    have r1:m3.get (0,0,1)=some (.row [s,p,f,g] 0 false):=by rw[<-hm3];simp[q1]
    have r2:m3.get (0,1,2)=some (.row [I 0,nilS] 0 false):=by rw[<-hm3];simp[q2]
    have r5:m3.get (0,8,4)=some (.row [I l.length,o] 0 false):=by rw[<-hm3];simp[q5]
    have r7:m3.get (0,fc+4+13,8)=some (.row [I q.a,I q.b] 0 false):=by rw[<-hm3];simp
    have hG3:Gk 4 Edge.c (okU7 0 67) m3 o ((netL l P ph wt).take k):=hG.frame λj hj=>by
     rw[<-hm3,Mem.get_set,x12b (by rintro rfl;exact absurd hj.2 (by simp)),Mem.get_new,x12b (by rintro rfl;exact absurd hj.2 (by simp))]
    obtain⟨o2,m4,a1,a2,a3,a4,a5,a6⟩:=hG3.app (bytes:=32) (id0:=(0,fc+37,67)) Edge.len (by omega) ⟨rfl,rfl⟩ (by unfold xkg;omega) ⟨q.a,q.b,(at0 (xki l P ph) k).tdiv 4096,at0 wt k⟩
    simp[r1,r5,r7,ixm,ldm,sQuo_I (show(4096:Int)≠0 by omega),hw1,ixg,ldg,z_edge7,build_E7,mkLit_E7,q5]
    rw[show ∀a b c e:Int,elems m3.get 4 (.slit [I a,I b,I c,I e] 1 true)=some (Edge.c ⟨a,b,c,e⟩,1)from λ_ _ _ _=>rfl,a1]
    have s5:m4.get (0,8,4)=some (.row [I l.length,o] 0 false):=by rw[a6 _ (by unfold okU7;simp)];exact r5
    have s1:m4.get (0,0,1)=some (.row [s,p,f,g] 0 false):=by rw[a6 _ (by unfold okU7;simp)];exact r1
    have s2:m4.get (0,1,2)=some (.row [I 0,nilS] 0 false):=by rw[a6 _ (by unfold okU7;simp)];exact r2
    simp[s5,a3,a4,tR,xk8,disj]
    rw[xk6 (by omega) (by omega)]
    refine next () _ _ ⟨⟨by simp[s1],by simp[s2]⟩,⟨o2,by simp[xkz],?_⟩,hA⟩
    rw[hsn]
    exact a2.frame λj hj=>by rw[Mem.get_set,x12b (by rintro rfl;exact absurd hj.2 (by simp))]
  .rintro n-m fc ⟨⟨q1,q2⟩,⟨o,q5,hG⟩,hA⟩
   rw[x12g (by rw[xqz];exact x12f _)]at hG
   rw[x134 (by omega)]at hA
   have hE:nofE l P ph=0:=by unfold nofE;rw[c1,hA];rfl
   have ho:=hG.one
   simp only[x3x]
   unfold x71 xd5
   simp[hms.len xke,hml,q5,q2,ho.1,ho.2,sLdP]
   generalize hm3:Mem.set _ _ _=m3
   have hG3:Gk 4 Edge.c (okU7 0 67) m3 o (netL l P ph wt):=hG.frame λj hj=>by rw[<-hm3,Mem.get_set,x12b (by rintro rfl;exact absurd hj.2 (by simp))]
   obtain⟨o',ho',hfo⟩:=hG3.frz Edge.len (λ_=>rfl) (k:=2)
   exact RetF.mk (frz_net hfo) ⟨o',by unfold nofN;rw[hE];rfl,by unfold nofL;rw[hE];exact ho'⟩
theorem w_rNetOf7(d:Nat){s p f g:AV}{l:List Scene}{P:List Pq}{ph wt:List Int}(hs:Sl Scene.c s l)(hp:Sl Pq.c p P)(hf:Ints f ph)(hg:Ints g wt)(hT:TaskOK l P ph wt)(m:Mem) :
 ∃e,Sl Edge.c e (nofL l P ph wt)/\xk4 (xk2 (d+6)) x1m [.agg [s,p,f,g]] m=some (.tup [.agg [I (nofN l P ph wt),e],I (nofE l P ph)],m):=by
 obtain⟨v,⟨e,rfl,he⟩,hc⟩:=xlq (by simp[hs.still1,hp.still1,hf.still1,hg.still1]) (a_rNetOf7 d hs hp hf hg hT) m
 exact⟨e,he,hc⟩
theorem jump_eq{l:List Scene}{P:List Pq}{ph:List Int}(hE:nofE l P ph=0){k:Nat}(hk:k<P.length):4096*(at0 (xki l P ph) k).tdiv 4096=at0 (xki l P ph) k/\-1000<=(at0 (xki l P ph) k).tdiv 4096/\(at0 (xki l P ph) k).tdiv 4096<=1000:=by
 unfold nofE at hE
 cases c1:(xki l P ph).any xnr with
 |true=>rw[c1]at hE;simp at hE
 |false=>
  cases c2:(xki l P ph).any xo5 with
  |true=>rw[c1,c2]at hE;simp at hE
  |false=>
   have hkm:k<(xki l P ph).length:=by rw[xo4];exact hk
   rw[x14j]at c1 c2
   have a:=c1 _ (x12s hkm)
   have b:=c2 _ (x12s hkm)
   rw[<-xkl hkm]at a b
   unfold xnr at a
   unfold xo5 at b
   have b2:=wi_t (a:=(at0 (xki l P ph) k).tdiv 4096) (b:=-1000) (c:=1000) (by simpa using b)
   have a2:at0 (xki l P ph) k % 4096=0:=by simpa using a
   exact⟨Int.mul_tdiv_cancel' (Int.dvd_of_emod_eq_zero a2),b2.1,b2.2⟩
theorem net_mem{l:List Scene}{P:List Pq}{ph wt:List Int}(hT:TaskOK l P ph wt)(hE:nofE l P ph=0):∀e∈netL l P ph wt,EdgeIn l.length e/\e.fr<e.to:=by
 intro e he
 unfold netL at he
 obtain⟨k,hk,rfl⟩:=x12r.mp he
 have hk':=x132.mp hk
 obtain⟨-,j1,j2⟩:=jump_eq hE hk'
 obtain⟨q0,q1,q2⟩:=hT.r.pr P[k] (x12s hk')
 have hw:=hT.hw k (by rw[hT.lw];exact hk')
 unfold edgeK
 rw[xq3 hk']
 refine⟨⟨?_,?_,?_,?_,?_,?_,?_,?_⟩,?_⟩<;>simp only<;>omega
def Stp.c(s:Stp):List AV:=[I s.fr,I s.to,I s.ed,I s.sg,I s.gain,I s.room]
theorem Stp.len(s:Stp):s.c.length=6:=rfl
theorem Stp.still1(s:Stp):s.c.all Go.Ix.still1=true:=rfl
theorem Sl.ixS{st:AV}{S:List Stp}(h:Sl Stp.c st S){i:Int}(h0:0<=i)(hi:i<S.length):∃rest,sIx 6 st (I i)=some (.plit (I (stpAt S i.toNat).fr::I (stpAt S i.toNat).to::I (stpAt S i.toNat).ed::I (stpAt S i.toNat).sg::I (stpAt S i.toNat).gain::I (stpAt S i.toNat).room::rest)):=by
 have hi':i.toNat<S.length:=by omega
 refine⟨(S.drop (i.toNat+1)).flatMap Stp.c,?_⟩
 rw[h.ixI Stp.len h0 hi,xl7 hi',x139,xxm hi']
 rfl
theorem ldS{a b c d e f:AV}{rest:List AV}{m:Mem}:sLd true 6 (.plit (a::b::c::d::e::f::rest)) m=some (.agg [a,b,c,d,e,f]):=by
 simp only[sLd,List.isEmpty_cons,x138,x12w]
 rw[rd_t]
 simp only[x12x]
 rw[x13e (by omega)]
 rfl
structure GoodV (n:Nat) (S:List Stp) (by':List Int) (v:Nat):Prop where
 v0:v<n
 b0:0<=at0 by' v
 b1:at0 by' v<S.length
 fr:(stB S by' v).fr=(prN S by' v:Nat)
 to:(stB S by' v).to=(v:Nat)
 mem:stB S by' v∈S
theorem GoodV.ixs{n:Nat}{S:List Stp}{by':List Int}{v:Nat}(h:GoodV n S by' v)(hl:by'.length=n){st:AV}(hst:Sl Stp.c st S):∃rest,
 sIx 1 (srI (0,12,27) n) (I v)=some (.ptr (0,12,27) 0 v)/\v<by'.length /\
 sIx 6 st (I (at0 by' v))=some (.plit (I (prN S by' v:Nat)::I v::I (stB S by' v).ed::I (stB S by' v).sg::I (stB S by' v).gain::I (stB S by' v).room::rest)):=by
 obtain⟨rest,hr⟩:=hst.ixS h.b0 h.b1
 have hv:=h.v0
 have e1:stpAt S (at0 by' v).toNat=stB S by' v:=rfl
 rw[e1,h.fr,h.to]at hr
 exact⟨rest,by simpa using ix_own (id:=(0,12,27)) (n:=n) (k:=(v:Int)) (by omega) (by omega),by omega,hr⟩
end Go.Ix
