import Derived.Test.YtpeakdjfagbpcaaGreatWg14
import Derived.Test.YtpeakdjfagbpcaaGreatWg9
import Derived.Test.YtpeakdjfagbpcaaGreatWg7
set_option linter.unusedSimpArgs false
set_option linter.unusedVariables false
namespace Go.Ix
open Go.Proofs
noncomputable def openM(l:List Scene)(P:List Pq)(ph:List Int):List Int:=(freshM P.length).filter λi=>!decide (at0 (xro l P ph) i.toNat=0)
theorem phM{ph:List Int}(h:∀k,k<ph.length->-100000000<=at0 ph k/\at0 ph k<=100000000):∀k,k<ph.length->(at0 ph k).natAbs<=100000000:=λk hk=>by have:=h k hk;omega
theorem x105{l:List Scene}{P:List Pq}(h:few7 l P=true)(hR:Right7 l P):l.length<=8/\P.length<=14:=by
 have h1:=hR.ll
 have h2:=hR.pl
 unfold few7 at h
 by_cases c1:8<l.length
 .simp[c1,h1]at h
 .by_cases c2:14<P.length
  .simp[c2,h2]at h
  .omega
theorem w_rAlong7(d:Nat){s p f g v:AV}{l:List Scene}{P:List Pq}{ph:List Int}(hs:Sl Scene.c s l)(hp:Sl Pq.c p P)(hf:Ints f ph)(hg1:g.one=true/\still1 g=true/\clean1 g=true)(hv:Ints v (xsw (fW l P) l.length P))(hR:Right7 l P)(hph:ph.length=P.length){M:Nat}(hM:∀k,k<ph.length->(at0 ph k).natAbs<=M)(hMb:M<=10000000000)(m:Mem) :
 ∃a,Ints a (phiL l.length (potL l P ph))/\xr8 (xr4 (d+3)) x2d [.agg [s,p,f,g],v] m=some (a,m):=
 xtg (by simp[hs.still1,hp.still1,hf.still1,hg1.2.1,hv.still]) (a_rAlong d hs hp hf hg1 hv hR hph hM hMb) m
theorem a_rMisses(d:Nat){s p f g:AV}{l:List Scene}{P:List Pq}{ph:List Int}(hs:Sl Scene.c s l)(hp:Sl Pq.c p P)(hf:Ints f ph)(hg1:g.one=true/\still1 g=true/\clean1 g=true)(hR:Right7 l P)(hph:ph.length=P.length){M:Nat}(hM:∀k,k<ph.length->(at0 ph k).natAbs<=M)(hMb:M<=10000000000) :
 RetF (λa=>Ints a (xro l P ph)) (xr4 (d+5) [] x2c [.agg [s,p,f,g]] mem0):=by
 have hll:=hR.ll
 have hpl:=hR.pl
 rw[xlt]
 unfold xdz x9b
 generalize hm1:(⟨[],1⟩:Mem).new (0,0,1) (.row [s,p,f,g] 0 false)=m1
 have g1:m1.get (0,0,1)=some (.row [s,p,f,g] 0 false):=by rw[<-hm1];simp
 obtain⟨a,ha,hlc⟩:=x1bb d hs hp hR m1
 obtain⟨v,hv,hac⟩:=w_rAlong7 (d+1) hs hp hf hg1 ha hR hph hM hMb m1
 simp[mem0,hs.one,hp.one,hf.one,hg1.1,hm1,g1,hlc,hac]
 unfold xh2
 have hnM:l.length*M<=60*10000000000:=x1h1 hll hMb
 refine xsf (N:=P.length) (λn k o m fc=>x5l (xr4 (d+4)) [] 0 n (.ptr (0,0,1) 0 0) v o (I k) m fc)
  (λk o m=>m.get (0,0,1)=some (.row [s,p,f,g] 0 false)/\Gr 1 intE 0 50 m o ((xro l P ph).take k)) _ ?_ ?_ NN 0 nilS m1 _ (by omega) (by rw[xrg];omega) ⟨g1,by simpa using Gr.nil⟩
 .rintro n k o m fc hk ⟨hg,hG⟩ next
  have hk':(k:Int)<(P.length:Int):=by omega
  have ip:=hp.ix Pq.len hk
  have lp:=λm=>xsy (m:=m) (enc:=Pq.c) Pq.len (by omega) hk
  have ixf:=hf.ix xrm (show k<ph.length by omega)
  have ldf:=λm=>xs2 (m:=m) (show k<ph.length by omega)
  have hsn:=x17h (l:=l) (P:=P) (ph:=ph) hk
  obtain⟨q0,q1,q2⟩:=hR.pr P[k] (x1fg hk)
  rw[xvt hk]at hsn
  generalize P[k]=q at *
  have ia:=hv.ixI xrm (k:=q.a) q0 (by rw[xum];omega)
  have ib:=hv.ixI xrm (k:=q.b) (by omega) (by rw[xum];omega)
  have la:=λm=>xs2 (m:=m) (l:=phiL l.length (potL l P ph)) (k:=q.a.toNat) (by rw[xum];omega)
  have lb:=λm=>xs2 (m:=m) (l:=phiL l.length (potL l P ph)) (k:=q.b.toNat) (by rw[xum];omega)
  rw[x11f q0 (by omega)]at la
  rw[x11f (by omega) q2]at lb
  have ba:=xys hR hph hM (v:=q.a) q0 (by omega)
  have bb:=xys hR hph hM (v:=q.b) (by omega) q2
  have bp:=hM k (by omega)
  simp only[Pq.c]at lp
  simp only[x5l]
  unfold x9a
  simp[hg,hf.len xru,hph,hk,ip,lp,xus]
  generalize hm2:Mem.set _ _ _=m2
  have g8:m2.get (0,fc+11,8)=some (.row [I q.a,I q.b] 0 false):=by rw[<-hm2];simp
  have g1:m2.get (0,0,1)=some (.row [s,p,f,g] 0 false):=by rw[<-hm2];simp[hg]
  have hG1:Gr 1 intE 0 50 m2 o ((xro l P ph).take k):=hG.frame λs=>by rw[<-hm2];simp
  obtain⟨o2,m3,e1,e2,e3,e4⟩:=hG1.app (s0:=fc+32) (bytes:=8) xrm (by omega) (by unfold xrq;simp[xvs];omega) (at0 ph k-potL l P ph q.b+potL l P ph q.a)
  simp[g1,g8,hg,ixf,ldf,ia,ib,la,lb,xso]
  have hw1:w64 (at0 ph k-potL l P ph q.b)=at0 ph k-potL l P ph q.b:=xrc (by omega) (by omega)
  rw[hw1,xrc (by omega) (by omega),xrc (by omega) (by omega)]
  rw[show ∀x:Int,elems m2.get 1 (.slit [I x] 1 true)=some (intE x,1)from λ_=>rfl,e1]
  exact next o2 m3 _ ⟨by rw[e4 _ (by simp)];exact g1,by rw[hsn];exact e2⟩
 .rintro n o m fc ⟨hg,hG⟩
  rw[x1f8 (by rw[xvs];exact x1f3 _)]at hG
  simp only[x5l]
  unfold x9a xh1
  simp[hg,hf.len xru,hph]
  obtain⟨a',h1,h2⟩:=hG.frzk (k:=4) xrm xto
  exact RetF.mk h2 h1
theorem w_rMisses(d:Nat){s p f g:AV}{l:List Scene}{P:List Pq}{ph:List Int}(hs:Sl Scene.c s l)(hp:Sl Pq.c p P)(hf:Ints f ph)(hg1:g.one=true/\still1 g=true/\clean1 g=true)(hR:Right7 l P)(hph:ph.length=P.length){M:Nat}(hM:∀k,k<ph.length->(at0 ph k).natAbs<=M)(hMb:M<=10000000000)(m:Mem) :
 ∃a,Ints a (xro l P ph)/\xr8 (xr4 (d+5)) x2c [.agg [s,p,f,g]] m=some (a,m):=
 xtg (by simp[hs.still1,hp.still1,hf.still1,hg1.2.1]) (a_rMisses d hs hp hf hg1 hR hph hM hMb) m
def RO(m:Mem)(id:Id)(a:AV)(l:List Int):Prop:=(l=[]/\(a=nilS\/a=.slit [] 0 true))\/(l≠[]/\a=.sref id 0 0 l.length 1 true/\Ow intE m id l)
theorem RO.fr{m m':Mem}{id:Id}{a:AV}{l:List Int}(h:RO m id a l)(e:m'.get id=m.get id):RO m' id a l:=by
 rcases h with h|⟨h0,h1,h2⟩
 .exact .inl h
 .exact .inr ⟨h0,h1,h2.fr e⟩
theorem RO.frz{m:Mem}{id:Id}{a:AV}{l:List Int}(h:RO m id a l)(k:Nat):∃a',Ints a' l/\Go.Ix.frz m.get (k+2) a=some a':=by
 rcases h with ⟨rfl,rfl|rfl⟩|⟨-,rfl,h⟩
 .exact⟨nilS,Or.inl ⟨rfl,rfl⟩,rfl⟩
 .exact⟨.slit [] 0 true,Sl.lit [] true,rfl⟩
 .exact⟨_,Sl.lit l false,xx5 (k:=k) xrm xto h⟩
theorem x18l(cs:List AV)(n:Nat)(x:Bool):sBin Tryz.prog .eql x4 (.tmp 3) (.const (.slice none 0 0)) (.slit cs n x) nilS=some (B false):=by
 kernel_rfl
theorem x1bs:sBin Tryz.prog .eql x4 (.tmp 3) (.const (.slice none 0 0)) nilS nilS=some (B true):=by kernel_rfl
theorem c_Clone1(d:Nat){x:AV}{l:List Int}(h:Ints x l)(hl:l.length<=1000000)(m:Mem):∃a M,xtt (xr4 (d+1)) x2i [x] m=some (a,M)/\RO M (m.next,5,7) a l/\M.next=m.next+1/\∀j:Id,j.1<m.next->M.get j=m.get j:=by
 obtain⟨a,m',h1,h2,h3⟩:∃a m',xr4 (d+1) [] x2i [x] ⟨[],m.next⟩=some (a,m')/\RO m' (m.next,5,7) a l/\m'.next=m.next+1:=by
  rw[xma]
  unfold xef xa3
  have hr:xrq l.length 8:=by unfold xrq;omega
  have hac:=x115 xrm h hr (m.next,5,7) (⟨[],m.next+1⟩:Mem)
  rcases h with ⟨rfl,rfl⟩|⟨b,rfl⟩
  .refine⟨nilS,⟨[],m.next+1⟩,?_,.inl ⟨rfl,.inl rfl⟩,rfl⟩
   simp[x1bs]
  .rcases hac with ⟨rfl,h1⟩|⟨h0,h1⟩
   .refine⟨.slit [] 0 true,⟨[],m.next+1⟩,?_,.inl ⟨rfl,.inr rfl⟩,rfl⟩
    simp[x18l,xso,xs0,xsd,xsc]
    exact h1 _
   .refine⟨.sref (m.next,5,7) 0 0 l.length 1 true,(⟨[],m.next+1⟩:Mem).new (m.next,5,7) (.row (l.flatMap intE) 0 false),?_,.inr ⟨h0,rfl,by unfold Ow;simp⟩,rfl⟩
    simp[x18l,xso,xs0,xsd,xsc]
    exact h1 _
 obtain⟨M,hc,hM,hj⟩:=xwj (l:=[x]) (by simp[h.clean]) h1
 refine⟨a,M,hc,h2.fr ?_,by omega,λj hlt=>?_⟩
 .rw[hj,x1ez (x1f3 _)]
 .rw[hj,x1ey (by omega)]
def corL(ph tu:List Int):List Int:=(List.range ph.length).map λk=>at0 ph k-4096*at0 tu k
theorem xwo(ph tu:List Int):(corL ph tu).length=ph.length:=by simp[corL]
theorem x11t{ph tu:List Int}{k:Nat}(h:k<ph.length):at0 (corL ph tu) k=at0 ph k-4096*at0 tu k:=by
 rw[xrn (by rw[xwo];exact h)]
 simp[corL]
def xuf(wt tu:List Int):Nat->Int
 |0=>0
 |k+1=>xuf wt tu k+at0 wt k*((at0 tu k).natAbs:Int)
def xy5(x:Int):Bool:=!(wi x (-1000000) 1000000)
noncomputable def ccE(l:List Scene)(P:List Pq)(ph wt tu:List Int):Int:=
 bif !decide (tu.length=P.length)then 10 else bif tu.any xy5 then 2 else bif(xro l P (corL ph tu)).any (λn=>!decide (n=0))then 26 else 0
noncomputable def ccN(l:List Scene)(P:List Pq)(ph wt tu:List Int):Int:=bif decide (ccE l P ph wt tu=0)then xuf wt tu P.length else 0
theorem tells_tu(d:Nat):xwg (xr4 (d+3)) (.clo x2h []) xy5:=by
 intro hs x m
 refine⟨m.next+1,?_⟩
 show xr4 (d+3) hs x2h [I x] m=_
 rw[xm9]
 unfold xee xa2 xy5
 simp[x10z]
theorem tells_nz(d:Nat):xwg (xr4 (d+1)) (.clo x2j []) (λn=>!decide (n=0)):=by
 intro hs x m
 refine⟨m.next+1,?_⟩
 show xr4 (d+1) hs x2j [I x] m=_
 rw[xmc]
 unfold xeh xa5
 simp
theorem cost_in{wt tu:List Int}(hw:∀k,k<wt.length->0<=at0 wt k/\at0 wt k<=1000)(ht:∀k,k<tu.length->-1000000<=at0 tu k/\at0 tu k<=1000000):∀k,k<=wt.length->k<=tu.length->0<=xuf wt tu k/\xuf wt tu k<=k*1000000000
 |0,_,_=>by simp[xuf]
 |k+1,h1,h2=>by
  have ih:=cost_in hw ht k (by omega) (by omega)
  have a:=hw k (by omega)
  have b:=ht k (by omega)
  have c0:0<=at0 wt k*((at0 tu k).natAbs:Int):=x1ie a.1 (by omega)
  have c1:at0 wt k*((at0 tu k).natAbs:Int)<=1000*1000000:=x1iv a.2 (by omega) (by omega) (by omega)
  rw[xuf]
  omega
theorem corM7{ph tu:List Int}(hp:∀k,k<ph.length->-100000000<=at0 ph k/\at0 ph k<=100000000)(ht:∀k,k<tu.length->-1000000<=at0 tu k/\at0 tu k<=1000000)(hl:tu.length=ph.length):∀k,k<(corL ph tu).length->(at0 (corL ph tu) k).natAbs<=4200000000:=λk hk=>by
 rw[xwo]at hk
 have:=hp k hk
 have:=ht k (by omega)
 rw[x11t hk]
 omega
noncomputable def pcE(l:List Scene)(P:List Pq)(ph wt tu:List Int):Int:=bif !decide (taskE l P ph wt=0)then taskE l P ph wt else ccE l P ph wt tu
noncomputable def pcN(l:List Scene)(P:List Pq)(ph wt tu:List Int):Int:=bif !decide (taskE l P ph wt=0)then 0 else ccN l P ph wt tu
theorem cor_mix{ph tu:List Int}{k:Nat}(hk:k<ph.length):((corL ph tu).take k++ph.drop k).set k (at0 ph k-4096*at0 tu k)=(corL ph tu).take (k+1)++ph.drop (k+1):=by
 rw[<-x11t hk]
 exact x13j (xwo ph tu) hk
theorem x1bt(d:Nat){s p f g t:AV}{l:List Scene}{P:List Pq}{ph wt tu:List Int}(hs:Sl Scene.c s l)(hp:Sl Pq.c p P)(hf:Ints f ph)(hg:Ints g wt)(ht:Ints t tu)(h1:ph.length<1000000)(h2:wt.length<1000000)(h3:tu.length<1000000)(hfw:few7 l P=true) :
 RetF (λv=>v=.tup [I (pcN l P ph wt tu),I (pcE l P ph wt tu)]) (xr4 (d+14) [] x28 [.agg [s,p,f,g],t] mem0):=by
 rw[xlj]
 unfold xdq x8t
 generalize hm1:(⟨[],1⟩:Mem).new (0,0,2) (.row [s,p,f,g] 0 false)=m1
 have g2:m1.get (0,0,2)=some (.row [s,p,f,g] 0 false):=by rw[<-hm1];simp
 have n1:m1.next=1:=by rw[<-hm1];rfl
 simp[mem0,hs.one,hp.one,hf.one,hg.one,hm1,g2,x13w (d+5) hs hp hf hg h1 h2]
 by_cases hE:taskE l P ph wt=0
 rotate_left
 .simp[hE]
  exact RetF.tup rfl (by unfold pcN pcE;simp[hE])
 have hT:=xwl hE
 have hR:=hT.r
 obtain⟨hl,hPl⟩:=x105 hfw hR
 have ePE:pcE l P ph wt tu=ccE l P ph wt tu:=by unfold pcE;simp[hE]
 have ePN:pcN l P ph wt tu=ccN l P ph wt tu:=by unfold pcN;simp[hE]
 rw[ePE,ePN]
 have fin:∀(e:Int) (m:Mem),e≠0->ccE l P ph wt tu=e->RetF (λv=>v=.tup [I (ccN l P ph wt tu),I (ccE l P ph wt tu)]) (some (.tup [I 0,I e],m)):=λe m h0 he=>
  RetF.tup rfl (by unfold ccN;rw[he];simp[h0])
 simp[hE,g2,ht.len xru,hp.len xt9]
 by_cases c1:tu.length=P.length
 rotate_left
 .have c1':¬(tu.length:Int)=(P.length:Int):=by omega
  simp[c1']
  exact fin 10 _ (by omega) (by unfold ccE;simp[c1])
 have hcf:=λm=>xzo (d+11) ht h3 (tells_tu (d+8)) rfl m
 simp[c1,hcf]
 cases c2:tu.any xy5 with
 |true=>
  simp
  exact fin 2 _ (by omega) (by unfold ccE;simp[c1,c2])
 |false=>
  have htu:=x11h (q:=xy5) (λ_=>rfl) c2
  obtain⟨a,M,hcl,hRO,hMn,hMf⟩:=c_Clone1 (d+12) hf (by omega) m1
  have gM:M.get (0,0,2)=some (.row [s,p,f,g] 0 false):=by rw[hMf _ (by show 0<m1.next;omega)];exact g2
  rw[n1]at hRO
  simp[g2,hcl]
  unfold xgi
  simp[ht.len xru]
  refine xsf (N:=P.length) (σ:=Unit) (λn k _ m fc=>x5e (xr4 (d+13)) [] 0 n (.ptr (0,0,2) 0 0) a (I (xuf wt tu k)) t (I tu.length) (I k) m fc)
   (λk _ m=>m.get (0,0,2)=some (.row [s,p,f,g] 0 false)/\RO m (1,5,7) a ((corL ph tu).take k++ph.drop k)) _ ?_ ?_ NN 0 () M _ (by omega) (by rw[xrg];omega) ⟨gM,by simpa using hRO⟩
  .rintro n k-m fc hk ⟨hb,hO⟩ next
   have hk':(k:Int)<(tu.length:Int):=by omega
   have ixt:=ht.ix xrm (show k<tu.length by omega)
   have ldt:=λm=>xs2 (m:=m) (show k<tu.length by omega)
   have ixg:=hg.ix xrm (show k<wt.length by rw[hT.lw];omega)
   have ldg:=λm=>xs2 (m:=m) (show k<wt.length by rw[hT.lw];omega)
   have hkp:k<ph.length:=by rw[hT.lp];omega
   have hml:=xyq (l:=ph) (X:=corL ph tu) (xwo ph tu) (k:=k) (by omega)
   rcases hO with ⟨h0,-⟩|⟨h0,rfl,hOw⟩
   .rw[h0]at hml;simp at hml;omega
   have hmx:=mix_at (l:=ph) (X:=corL ph tu) (xwo ph tu) hkp
   have ixa:sIx 1 (.sref (1,5,7) 0 0 ((corL ph tu).take k++ph.drop k).length 1 true) (I (k:Int))=some (.ptr (1,5,7) 0 (k:Int).toNat):=xvr (by omega) (by rw[hml];omega)
   have lda:=hOw.ldI (k:=(k:Int)) (by omega) (by rw[hml];omega)
   obtain⟨st1,st2⟩:=hOw.st1 (g:=I) (λ_=>rfl) (k:=(k:Int)) (by omega) (by rw[hml];omega) (x:=at0 ph k-4096*at0 tu k) rfl rfl
   rw[x1f1]at ixa lda st1 st2
   rw[hmx]at lda
   rw[cor_mix hkp]at st1 st2
   have hphk:=hT.hp k hkp
   have htk:=htu k (by omega)
   have hwk:=hT.hw k (by rw[hT.lw];omega)
   have hci:=cost_in hT.hw htu k (by rw[hT.lw];omega) (by omega)
   have hkb:(k:Int)*1000000000<=14*1000000000:=by omega
   have hc0:0<=at0 wt k*((at0 tu k).natAbs:Int):=x1ie hwk.1 (by omega)
   have hc1:at0 wt k*((at0 tu k).natAbs:Int)<=1000*1000000:=x1iv hwk.2 (by omega) (by omega) (by omega)
   have hsz:=λm=>w_size7 (d+12) (at0 tu k) m (by omega) (by omega)
   simp only[x5e]
   unfold x8s
   have hw1:w64 (4096*at0 tu k)=4096*at0 tu k:=xrc (by omega) (by omega)
   have hw2:w64 (at0 ph k-4096*at0 tu k)=at0 ph k-4096*at0 tu k:=xrc (by omega) (by omega)
   have hw3:w64 (at0 wt k*((at0 tu k).natAbs:Int))=at0 wt k*((at0 tu k).natAbs:Int):=xrc (by omega) (by omega)
   simp only[xry,hk',x1ff,xrw,xr9,ixt,ldt,ixa,lda,sMul_I,hw1,xup,hw2,st1]
   generalize hm2:Mem.set m _ _=m2 at st2 ⊢
   have g3:m2.get (0,0,2)=some (.row [s,p,f,g] 0 false):=by rw[<-hm2,Mem.get_set,x1ey (by simp)];exact hb
   rw[hml]
   simp only[xs5,xrh,g3,xri,x1f4,xre,x1f9,x1fk,x1f0,rd_f,xr9,ixg,ldg,hsz,sMul_I,hw3,xte]
   have hw4:w64 (xuf wt tu k+at0 wt k*((at0 tu k).natAbs:Int))=xuf wt tu k+at0 wt k*((at0 tu k).natAbs:Int):=xrc (by omega) (by omega)
   have hw5:w64 ((k:Int)+1)=(k:Int)+1:=xrc (by omega) (by omega)
   simp only[hw4,hw5]
   simp[cAp,tR]
   have hne:(corL ph tu).take (k+1)++ph.drop (k+1)≠[]:=by
    intro e
    have:=congrArg List.length e
    rw[xyq (l:=ph) (X:=corL ph tu) (xwo ph tu) (k:=k+1) (by omega)]at this
    simp only[x1hd]at this
    omega
   have hlen2:=xyq (l:=ph) (X:=corL ph tu) (xwo ph tu) (k:=k+1) (by omega)
   have:=next () m2 (fc+28) ⟨g3,.inr ⟨hne,by rw[hml,hlen2],st2⟩⟩
   rw[xuf,hml]at this
   exact this
  .rintro n-m fc ⟨hb,hO⟩
   rw[x1f8 (by rw[xwo,hT.lp];exact x1f3 _),x1g4 (by rw[hT.lp];exact x1f3 _),x1g5]at hO
   have hkn:¬((P.length:Int)<(tu.length:Int)):=by omega
   have hcl:(corL ph tu).length=P.length:=by rw[xwo,hT.lp]
   obtain⟨a',ha',hfa⟩:=hO.frz 4
   obtain⟨v,m2,hv,hmc,hmn,-⟩:=callR (call:=xr4 (d+13)) (f:=x15) (l:=[.agg [s,p],a]) (l':=[.agg [s,p],a']) (m:=m) (frz_two (by simp[hs.still1,hp.still1]) hfa) (x17i d hs hp ha' hR hl hPl hcl (corM7 hT.hp htu (by rw[c1,hT.lp])) (by omega))
   have hml:=xvs l P (corL ph tu)
   have hcf2:=λm=>xzo (d+11) hv (by omega) (tells_nz (d+10)) rfl m
   simp only[x5e]
   unfold x8s xgg
   simp only[xry,hkn,x1g1,xtc,xr9,xs5,xrh,hb,xri,x1f4,xre,x1f9,x1f0,rd_2,z_graph]
   rw[show xrr [nilS,nilS] [(0,2,AV.agg [s,p])]=some (.agg [s,p]) by simp[xrr,xsd]]
   simp only[xr9,hmc,hcf2]
   cases c3:(xro l P (corL ph tu)).any (λn=>!decide (n=0))with
   |true=>
    simp only[xrw]
    exact fin 26 _ (by omega) (by unfold ccE;rw[c2,c3];simp[c1])
   |false=>
    have hc:ccE l P ph wt tu=0:=by unfold ccE;rw[c2,c3];simp[c1]
    simp only[xtc]
    exact RetF.tup rfl (by unfold ccN;rw[hc];rfl)
theorem x1bu(d:Nat){s p f g t:AV}{l:List Scene}{P:List Pq}{ph wt tu:List Int}(hs:Sl Scene.c s l)(hp:Sl Pq.c p P)(hf:Ints f ph)(hg:Ints g wt)(ht:Ints t tu)(h1:ph.length<1000000)(h2:wt.length<1000000)(h3:tu.length<1000000)(hfw:few7 l P=true)(m:Mem) :
 xr8 (xr4 (d+14)) x28 [.agg [s,p,f,g],t] m=some (.tup [I (pcN l P ph wt tu),I (pcE l P ph wt tu)],m):=
 xth (by simp[hs.still1,hp.still1,hf.still1,hg.still1,ht.still]) (x1bt d hs hp hf hg ht h1 h2 h3 hfw) m
end Go.Ix
