import Derived.Test.YtpeakdjfagbpcaaGreatWg6
import Derived.Test.YtpeakdjfagbpcaaGreatWg15
import Derived.Test.YtpeakdjfagbpcaaGreatWg14
import Derived.Test.YtpeakdjfagbpcaaGreatWg10
import Derived.Test.YtpeakdjfagbpcaaGreatWg13
set_option linter.unusedSimpArgs false
set_option linter.unusedVariables false
namespace Go.Ix
open Go.Proofs
theorem ccE_ok{l:List Scene}{P:List Pq}{ph wt tu:List Int}(h:ccE l P ph wt tu=0):tu.length=P.length/\(∀k,k<tu.length->-1000000<=at0 tu k/\at0 tu k<=1000000)/\openM l P (corL ph tu)=[]:=by
 unfold ccE at h
 by_cases c1:tu.length=P.length
 .cases c2:tu.any xy5 with
  |true=>rw[c2]at h;simp[c1]at h
  |false=>
   cases c3:(xro l P (corL ph tu)).any (λn=>!decide (n=0))with
   |true=>rw[c2,c3]at h;simp[c1]at h
   |false=>
    refine⟨c1,x11h (q:=xy5) (λ_=>rfl) c2,?_⟩
    unfold openM
    rw[List.filter_eq_nil_iff]
    intro i hi
    have hi2:=fresh_mem.mp hi
    rw[x1ib]at c3
    have hl:i.toNat<(xro l P (corL ph tu)).length:=by rw[xvs];omega
    have:=c3 _ (x1fg hl)
    rw[<-xrn hl]at this
    simpa using this
 .simp[c1]at h
theorem tmod_emod(x:Int):decide (x.tmod 4096=0)=decide (x % 4096=0):=by
 rw[decide_eq_decide]
 exact⟨λh=>Int.emod_eq_zero_of_dvd (Int.dvd_of_tmod_eq_zero h),λh=>Int.tmod_eq_zero_of_dvd (Int.dvd_of_emod_eq_zero h)⟩
def xux(x:Int):Bool:=!decide (x % 4096=0)
def xug(x:Int):Bool:=!(wi (x.tdiv 4096) (-1000) 1000)
noncomputable def nofE(l:List Scene)(P:List Pq)(ph:List Int):Int:=bif(xro l P ph).any xux then 27 else bif(xro l P ph).any xug then 8 else 0
noncomputable def xuy(l:List Scene)(P:List Pq)(ph wt:List Int)(k:Nat):Edge:=⟨(prAt P k).a,(prAt P k).b,(at0 (xro l P ph) k).tdiv 4096,at0 wt k⟩
noncomputable def netL(l:List Scene)(P:List Pq)(ph wt:List Int):List Edge:=(List.range P.length).map (xuy l P ph wt)
noncomputable def nofN(l:List Scene)(P:List Pq)(ph wt:List Int):Int:=bif decide (nofE l P ph=0)then l.length else 0
noncomputable def nofL(l:List Scene)(P:List Pq)(ph wt:List Int):List Edge:=bif decide (nofE l P ph=0)then netL l P ph wt else[]
theorem xvc(l:List Scene)(P:List Pq)(ph wt:List Int):(netL l P ph wt).length=P.length:=by simp[netL]
theorem x18m{l:List Scene}{P:List Pq}{ph wt:List Int}{k:Nat}(hk:k<P.length):(netL l P ph wt).take (k+1)=(netL l P ph wt).take k++[xuy l P ph wt k]:=by
 rw[x1g3 (by rw[xvc];exact hk)]
 simp[netL]
theorem x18n{id:Id}{a b c d:Int}{m:Mem}{R:Type}(k:AV->Mem->Option R):xs0 [I 0,I 0,I 0,I 0] [(0,4,.agg [I a,I b,I c,I d])] 1 4 id m k=k (.slit [I a,I b,I c,I d] 1 true) m:=by
 simp[xs0,xsd,xsc,x1hb,clean1,AV.one,Value.oneCell']
theorem xuz:x9=[I 0,nilS]:=by kernel_rfl
theorem x11u:xe=[I 0,I 0,I 0,I 0]:=by kernel_rfl
theorem x18o{a b c d:Int}:xrr [I 0,I 0,I 0,I 0] [(0,1,I a),(1,1,I b),(2,1,I c),(3,1,I d)]=some (.agg [I a,I b,I c,I d]):=by simp[xrr,xsd]
theorem tells_md(d:Nat):xwg (xr4 (d+1)) (.clo x2w []) xux:=by
 intro hs x m
 refine⟨m.next+1,?_⟩
 show xr4 (d+1) hs x2w [I x] m=_
 rw[xn3]
 unfold xf6 xbq xux
 simp only[sRem_I (show(4096:Int)≠0 by omega),xr9,sNe_I,tmod_emod]
theorem miss_in{l:List Scene}{P:List Pq}{ph:List Int}(hR:Right7 l P)(hph:ph.length=P.length)(hM:∀k,k<ph.length->(at0 ph k).natAbs<=100000000){k:Nat}(hk:k<P.length):(at0 (xro l P ph) k).natAbs<=13000000000:=by
 have hnM:l.length*100000000<=60*100000000:=x1h1 hR.ll (x1f3 _)
 obtain⟨q0,q1,q2⟩:=hR.pr P[k] (x1fg hk)
 rw[x11g hk,xvt hk]
 have ba:=xys hR hph hM (v:=P[k].a) q0 (by omega)
 have bb:=xys hR hph hM (v:=P[k].b) (by omega) q2
 have bp:=hM k (by omega)
 omega
theorem tdiv_in{x:Int}(h:x.natAbs<=13000000000):(x.tdiv 4096).natAbs<=13000000000:=by
 rw[Int.natAbs_tdiv]
 exact x1gb (Nat.div_le_self _ _) h
def xyy(l:List Scene)(P:List Pq)(ph wt:List Int)(v:AV):Prop:=∃e,v=.tup [.agg [I (nofN l P ph wt),e],I (nofE l P ph)]/\Sl Edge.c e (nofL l P ph wt)
theorem x106{objs:Id->Option Ob}{a b:AV}{x e:Int}(h:Go.Ix.frz objs 4 a=some b):Go.Ix.frz objs deep (.tup [.agg [I x,a],I e])=some (.tup [.agg [I x,b],I e]):=by
 refine x10y ?_ rfl
 exact x116 (k:=3) rfl h
theorem a_netOf(d:Nat){s p f g:AV}{l:List Scene}{P:List Pq}{ph wt:List Int}(hs:Sl Scene.c s l)(hp:Sl Pq.c p P)(hf:Ints f ph)(hg:Ints g wt)(hT:TaskOK l P ph wt)(hl:l.length<=8)(hPl:P.length<=14) :
 RetF (xyy l P ph wt) (xr4 (d+14) [] x4q [.agg [s,p,f,g]] mem0):=by
 have hR:=hT.r
 have hM:=phM hT.hp
 have fin:∀(e:Int) (m:Mem),e≠0->nofE l P ph=e->RetF (xyy l P ph wt) (some (.tup [.agg [I 0,nilS],I e],m)):=λe m h0 he=>
  RetF.mk (x106 rfl) ⟨nilS,by unfold nofN;rw[he];simp[h0],Or.inl ⟨rfl,by unfold nofL;rw[he];simp[h0]⟩⟩
 rw[xmr]
 unfold xew xaz
 simp[mem0,hs.one,hp.one,hf.one,hg.one,z_graph,xuz]
 rw[show xrr [nilS,nilS] [(0,2,AV.agg [s,p])]=some (.agg [s,p]) by simp[xrr,xsd]]
 generalize hm1:Mem.new _ _ _=m1
 have g1:m1.get (0,0,1)=some (.row [s,p,f,g] 0 false):=by rw[<-hm1];simp
 have g2:m1.get (0,1,2)=some (.row [I 0,nilS] 0 false):=by rw[<-hm1];simp
 obtain⟨ms,hms,hmc⟩:=w_misses d hs hp hf hR hl hPl hT.lp hM (by omega) m1
 have hml:=xvs l P ph
 have hcf:=λm=>xzo (d+11) hms (by omega) (tells_md (d+10)) rfl m
 simp[g1,hmc,hcf]
 cases c1:(xro l P ph).any xux with
 |true=>
  simp[g2,xrr,xsd,sLdP]
  exact fin 27 _ (by omega) (by unfold nofE;rw[c1];rfl)
 |false=>
  simp[g1,hs.len xt5]
  rw[show xrr [I 0,nilS] [(0,1,I (l.length:Int))]=some (.agg [I l.length,nilS]) by simp[xrr,xsd]]
  simp
  generalize hm2:Mem.set _ _ _=m2
  have q1:m2.get (0,0,1)=some (.row [s,p,f,g] 0 false):=by rw[<-hm2];simp[g1]
  have q2:m2.get (0,1,2)=some (.row [I 0,nilS] 0 false):=by rw[<-hm2];simp[g2]
  have q5:m2.get (0,17,5)=some (.row [I l.length,nilS] 0 false):=by rw[<-hm2];simp
  unfold xig
  simp[q1,hp.len xt9]
  refine xsf (N:=P.length) (σ:=Unit) (λn k _ m fc=>x5w (xr4 (d+13)) [] 0 n (.ptr (0,0,1) 0 0) (.ptr (0,1,2) 0 0) ms (.ptr (0,17,5) 0 0) p (I P.length) (I k) m fc)
   (λk _ m=>(m.get (0,0,1)=some (.row [s,p,f,g] 0 false)/\m.get (0,1,2)=some (.row [I 0,nilS] 0 false))/\(∃o,m.get (0,17,5)=some (.row [I l.length,o] 0 false)/\Gk 4 Edge.c (okU7 0 55) m o ((netL l P ph wt).take k))/\(xro l P ph).any xug=((xro l P ph).drop k).any xug) _ ?_ ?_ NN 0 () m2 _ (by omega) (by rw[xrg];omega) ⟨⟨q1,q2⟩,⟨nilS,q5,by simpa using Gk.nil⟩,by simp⟩
  .rintro n k-m fc hk ⟨⟨q1,q2⟩,⟨o,q5,hG⟩,hA⟩ next
   have hk':(k:Int)<(P.length:Int):=by omega
   have ip:=hp.ix Pq.len hk
   have lp:=λm=>xsy (m:=m) (enc:=Pq.c) Pq.len (by omega) hk
   have ixm:=hms.ix xrm (show k<(xro l P ph).length by omega)
   have ldm:=λm=>xs2 (m:=m) (show k<(xro l P ph).length by omega)
   have ixg:=hg.ix xrm (show k<wt.length by rw[hT.lw];omega)
   have ldg:=λm=>xs2 (m:=m) (show k<wt.length by rw[hT.lw];omega)
   have hmi:=miss_in hR hT.lp hM hk
   have htd:=tdiv_in hmi
   rw[xsj (show k<(xro l P ph).length by omega),x1hk,<-xrn]at hA
   have hsn:=x18m (l:=l) (ph:=ph) (wt:=wt) hk
   have hek:xuy l P ph wt k=⟨P[k].a,P[k].b,(at0 (xro l P ph) k).tdiv 4096,at0 wt k⟩:=by unfold xuy;rw[xvt hk]
   rw[hek]at hsn
   have hnl:((netL l P ph wt).take k).length<=14:=by simp[xvc];omega
   generalize P[k]=q at *
   simp only[Pq.c]at lp
   simp only[x5w]
   unfold xay
   simp[hk,ip,lp,xus]
   generalize hm3:Mem.set _ _ _=m3
   have r1:m3.get (0,0,1)=some (.row [s,p,f,g] 0 false):=by rw[<-hm3];simp[q1]
   have r2:m3.get (0,1,2)=some (.row [I 0,nilS] 0 false):=by rw[<-hm3];simp[q2]
   have r5:m3.get (0,17,5)=some (.row [I l.length,o] 0 false):=by rw[<-hm3];simp[q5]
   have r7:m3.get (0,fc+4,7)=some (.row [I q.a,I q.b] 0 false):=by rw[<-hm3];simp
   have hG3:Gk 4 Edge.c (okU7 0 55) m3 o ((netL l P ph wt).take k):=hG.frame λj hj=>by
    rw[<-hm3,Mem.get_set,x1ey (by rintro rfl;exact absurd hj.2 (by simp)),Mem.get_new,x1ey (by rintro rfl;exact absurd hj.2 (by simp))]
   have hw1:w64 ((at0 (xro l P ph) k).tdiv 4096)=(at0 (xro l P ph) k).tdiv 4096:=xrc (by omega) (by omega)
   simp only[ixm,ldm,xr9,sQuo_I (show(4096:Int)≠0 by omega),hw1]
   simp[x10z]
   cases c2:wi ((at0 (xro l P ph) k).tdiv 4096) (-1000) 1000 with
   |false=>
    rw[show xug (at0 (xro l P ph) k)=true by unfold xug;rw[c2];rfl,x1hq]at hA
    simp[r2,xrr,xsd,sLdP,xuz]
    exact fin 8 _ (by omega) (by unfold nofE;rw[c1,hA];rfl)
   |true=>
    rw[show xug (at0 (xro l P ph) k)=false by unfold xug;rw[c2];rfl,x1i1]at hA
    obtain⟨o2,m4,a1,a2,a3,a4,a5,a6⟩:=hG3.app (bytes:=32) (id0:=(0,fc+30,55)) Edge.len (by omega) ⟨rfl,rfl⟩ (by unfold xrq;omega) ⟨q.a,q.b,(at0 (xro l P ph) k).tdiv 4096,at0 wt k⟩
    simp[r1,r5,r7,ixg,ldg,x11u,x18o,x18n]
    rw[show ∀a b c e:Int,elems m3.get 4 (.slit [I a,I b,I c,I e] 1 true)=some (Edge.c ⟨a,b,c,e⟩,1)from λ_ _ _ _=>rfl,a1]
    have s5:m4.get (0,17,5)=some (.row [I l.length,o] 0 false):=by rw[a6 _ (by unfold okU7;simp)];exact r5
    have s1:m4.get (0,0,1)=some (.row [s,p,f,g] 0 false):=by rw[a6 _ (by unfold okU7;simp)];exact r1
    have s2:m4.get (0,1,2)=some (.row [I 0,nilS] 0 false):=by rw[a6 _ (by unfold okU7;simp)];exact r2
    simp[s5,a3,a4,tR,xr6,disj]
    rw[xrc (by omega) (by omega)]
    refine next () _ _ ⟨⟨by simp[s1],by simp[s2]⟩,⟨o2,by simp[xs3],?_⟩,hA⟩
    rw[hsn]
    exact a2.frame λj hj=>by rw[Mem.get_set,x1ey (by rintro rfl;exact absurd hj.2 (by simp))]
  .rintro n-m fc ⟨⟨q1,q2⟩,⟨o,q5,hG⟩,hA⟩
   rw[x1f8 (by rw[xvc];exact x1f3 _)]at hG
   rw[x1g4 (by omega)]at hA
   have hE:nofE l P ph=0:=by unfold nofE;rw[c1,hA];rfl
   have ho:=hG.one
   simp only[x5w]
   unfold xay xif
   simp[q5,q2,ho.1,ho.2,sLdP]
   generalize hm3:Mem.set _ _ _=m3
   have hG3:Gk 4 Edge.c (okU7 0 55) m3 o (netL l P ph wt):=hG.frame λj hj=>by rw[<-hm3,Mem.get_set,x1ey (by rintro rfl;exact absurd hj.2 (by simp))]
   obtain⟨o',ho',hfo⟩:=hG3.frz Edge.len (λ_=>rfl) (k:=2)
   exact RetF.mk (x106 hfo) ⟨o',by unfold nofN;rw[hE];rfl,by unfold nofL;rw[hE];exact ho'⟩
theorem a_NetOf7(d:Nat){s p f g:AV}{l:List Scene}{P:List Pq}{ph wt:List Int}(hs:Sl Scene.c s l)(hp:Sl Pq.c p P)(hf:Ints f ph)(hg:Ints g wt)(hT:TaskOK l P ph wt)(hE:taskE l P ph wt=0)(hl:l.length<=8)(hPl:P.length<=14) :
 RetF (xyy l P ph wt) (xr4 (d+15) [] x18 [.agg [s,p,f,g]] mem0):=by
 rw[xkj]
 unfold x7u x6p
 have hn:=λm=>xtg (T:=xyy l P ph wt) (by simp[hs.still1,hp.still1,hf.still1,hg.still1]) (a_netOf d hs hp hf hg hT hl hPl) m
 simp[mem0,hs.one,hp.one,hf.one,hg.one,xuz]
 generalize hm1:Mem.new _ _ _=m1
 have g1:m1.get (0,0,1)=some (.row [s,p,f,g] 0 false):=by rw[<-hm1];simp
 have g2:m1.get (0,1,2)=some (.row [I 0,nilS] 0 false):=by rw[<-hm1];simp
 have hct:=x13w (d+6) hs hp hf hg (by rw[hT.lp];have:=hT.r.pl;omega) (by rw[hT.lw];have:=hT.r.pl;omega) m1
 obtain⟨v,⟨e,rfl,he⟩,hc⟩:=hn m1
 simp[g1,hct,hE,hc,g2,he.one,sLdP]
 exact RetF.tup (by simp[he.still1]) ⟨e,rfl,he⟩
theorem a_NetOf7e(d:Nat){s p f g:AV}{l:List Scene}{P:List Pq}{ph wt:List Int}(hs:Sl Scene.c s l)(hp:Sl Pq.c p P)(hf:Ints f ph)(hg:Ints g wt)(h1:ph.length<1000000)(h2:wt.length<1000000)(hE:taskE l P ph wt≠0) :
 RetF (λv=>v=.tup [.agg [I 0,nilS],I (taskE l P ph wt)]) (xr4 (d+9) [] x18 [.agg [s,p,f,g]] mem0):=by
 rw[xkj]
 unfold x7u x6p
 simp[mem0,hs.one,hp.one,hf.one,hg.one,xuz]
 generalize hm1:Mem.new _ _ _=m1
 have g1:m1.get (0,0,1)=some (.row [s,p,f,g] 0 false):=by rw[<-hm1];simp
 have g2:m1.get (0,1,2)=some (.row [I 0,nilS] 0 false):=by rw[<-hm1];simp
 have hct:=x13w d hs hp hf hg h1 h2 m1
 simp[g1,hct,hE,g2,xrr,xsd,sLdP]
 exact RetF.mk (x106 rfl) rfl
noncomputable def nfE(l:List Scene)(P:List Pq)(ph wt:List Int):Int:=bif !decide (taskE l P ph wt=0)then taskE l P ph wt else nofE l P ph
noncomputable def nfN(l:List Scene)(P:List Pq)(ph wt:List Int):Int:=bif !decide (taskE l P ph wt=0)then 0 else nofN l P ph wt
noncomputable def nfL(l:List Scene)(P:List Pq)(ph wt:List Int):List Edge:=bif !decide (taskE l P ph wt=0)then[]else nofL l P ph wt
theorem x14l(d:Nat){s p f g:AV}{l:List Scene}{P:List Pq}{ph wt:List Int}(hs:Sl Scene.c s l)(hp:Sl Pq.c p P)(hf:Ints f ph)(hg:Ints g wt)(h1:ph.length<1000000)(h2:wt.length<1000000)(hfw:few7 l P=true)(m:Mem) :
 ∃e,Sl Edge.c e (nfL l P ph wt)/\xr8 (xr4 (d+15)) x18 [.agg [s,p,f,g]] m=some (.tup [.agg [I (nfN l P ph wt),e],I (nfE l P ph wt)],m):=by
 by_cases hE:taskE l P ph wt=0
 .have hT:=xwl hE
  obtain⟨hl,hPl⟩:=x105 hfw hT.r
  obtain⟨v,⟨e,rfl,he⟩,hc⟩:=xtg (by simp[hs.still1,hp.still1,hf.still1,hg.still1]) (a_NetOf7 d hs hp hf hg hT hE hl hPl) m
  exact⟨e,by unfold nfL;simp[hE];exact he,by rw[hc];unfold nfN nfE;simp[hE]⟩
 .refine⟨nilS,by unfold nfL;simp[hE];exact Or.inl ⟨rfl,rfl⟩,?_⟩
  have:=xth (by simp[hs.still1,hp.still1,hf.still1,hg.still1]) (a_NetOf7e (d+6) hs hp hf hg h1 h2 hE) m
  rw[show d+6+9=d+15 by omega]at this
  rw[this]
  unfold nfN nfE
  simp[hE]
theorem a_rNetOf7(d:Nat){s p f g:AV}{l:List Scene}{P:List Pq}{ph wt:List Int}(hs:Sl Scene.c s l)(hp:Sl Pq.c p P)(hf:Ints f ph)(hg:Ints g wt)(hT:TaskOK l P ph wt) :
 RetF (xyy l P ph wt) (xr4 (d+6) [] x1g [.agg [s,p,f,g]] mem0):=by
 have hR:=hT.r
 have hpl:=hR.pl
 have hM:=phM hT.hp
 have fin:∀(e:Int) (m:Mem),e≠0->nofE l P ph=e->RetF (xyy l P ph wt) (some (.tup [.agg [I 0,nilS],I e],m)):=λe m h0 he=>
  RetF.mk (x106 rfl) ⟨nilS,by unfold nofN;rw[he];simp[h0],Or.inl ⟨rfl,by unfold nofL;rw[he];simp[h0]⟩⟩
 rw[xlg]
 unfold xdn x8n
 simp[mem0,hs.one,hp.one,hf.one,hg.one,xuz,hs.len xt5]
 rw[show xrr [I 0,nilS] [(0,1,I (l.length:Int))]=some (.agg [I l.length,nilS]) by simp[xrr,xsd]]
 simp
 generalize hm1:Mem.set _ _ _=m1
 have g1:m1.get (0,0,1)=some (.row [s,p,f,g] 0 false):=by rw[<-hm1];simp
 have g2:m1.get (0,1,2)=some (.row [I 0,nilS] 0 false):=by rw[<-hm1];simp
 have g4:m1.get (0,8,4)=some (.row [I l.length,nilS] 0 false):=by rw[<-hm1];simp
 obtain⟨ms,hms,hmc⟩:=w_rMisses d hs hp hf ⟨hg.one,hg.still1,hg.clean1⟩ hR hT.lp hM (by omega) m1
 have hml:=xvs l P ph
 simp[g1,hmc]
 unfold xga
 refine xsf (N:=P.length) (σ:=Unit) (λn k _ m fc=>x5a (xr4 (d+5)) [] 0 n (.ptr (0,0,1) 0 0) (.ptr (0,1,2) 0 0) (.ptr (0,8,4) 0 0) ms (I k) m fc)
  (λk _ m=>m=m1/\(xro l P ph).any xux=((xro l P ph).drop k).any xux) _ ?_ ?_ NN 0 () m1 _ (by omega) (by rw[xrg];omega) ⟨rfl,by simp⟩
 .rintro n k-m fc hk ⟨rfl,hA⟩ next
  have hk':(k:Int)<((xro l P ph).length:Int):=by omega
  have ixm:=hms.ix xrm (show k<(xro l P ph).length by omega)
  have ldm:=λm=>xs2 (m:=m) (show k<(xro l P ph).length by omega)
  have hmd:=λm=>w_Mod (d+4) (x:=at0 (xro l P ph) k) (y:=4096) (by omega) (by omega) m
  rw[xsj (show k<(xro l P ph).length by omega),x1hk,<-xrn]at hA
  simp only[x5a]
  unfold x8m
  simp only[hms.len xru,xry,hk',x1ff,xrw,xr9,ixm,ldm,hmd,sNe_I]
  by_cases c:at0 (xro l P ph) k % 4096=0
  .rw[show xux (at0 (xro l P ph) k)=false by unfold xux;rw[x1fy c];rfl,x1i1]at hA
   simp only[c,x1ff,Bool.not_true,xtc]
   simp(disch:=omega) [xrc]
   exact next () m _ ⟨rfl,hA⟩
  .rw[show xux (at0 (xro l P ph) k)=true by unfold xux;rw[x1h4 c];rfl,x1hq]at hA
   simp only[c,x1g1,x1gh,xrw]
   simp[g2,xrr,xsd,sLdP,xuz]
   exact fin 27 _ (by omega) (by unfold nofE;rw[hA];rfl)
 .rintro n-m fc ⟨rfl,hA⟩
  rw[x1g4 (by omega)]at hA
  have c1:(xro l P ph).any xux=false:=hA
  have hkn:¬((P.length:Int)<((xro l P ph).length:Int)):=by omega
  simp only[x5a]
  unfold x8m xg9
  simp only[hms.len xru,xry,hkn,x1g1,xtc,xr9]
  refine xsf (N:=P.length) (σ:=Unit) (λn k _ m fc=>x59 (xr4 (d+5)) [] 0 n (.ptr (0,0,1) 0 0) (.ptr (0,1,2) 0 0) (.ptr (0,8,4) 0 0) ms (I k) m fc)
   (λk _ m=>(m.get (0,0,1)=some (.row [s,p,f,g] 0 false)/\m.get (0,1,2)=some (.row [I 0,nilS] 0 false))/\(∃o,m.get (0,8,4)=some (.row [I l.length,o] 0 false)/\Gk 4 Edge.c (okU7 0 67) m o ((netL l P ph wt).take k))/\(xro l P ph).any xug=((xro l P ph).drop k).any xug) _ ?_ ?_ NN 0 () m _ (by omega) (by rw[xrg];omega) ⟨⟨g1,g2⟩,⟨nilS,g4,by simpa using Gk.nil⟩,by simp⟩
  .rintro n k-m fc hk ⟨⟨q1,q2⟩,⟨o,q5,hG⟩,hA⟩ next
   have hk':(k:Int)<((xro l P ph).length:Int):=by omega
   have ip:=hp.ix Pq.len hk
   have lp:=λm=>xsy (m:=m) (enc:=Pq.c) Pq.len (by omega) hk
   have ixm:=hms.ix xrm (show k<(xro l P ph).length by omega)
   have ldm:=λm=>xs2 (m:=m) (show k<(xro l P ph).length by omega)
   have ixg:=hg.ix xrm (show k<wt.length by rw[hT.lw];omega)
   have ldg:=λm=>xs2 (m:=m) (show k<wt.length by rw[hT.lw];omega)
   have hmi:=miss_in hR hT.lp hM hk
   have htd:=tdiv_in hmi
   rw[xsj (show k<(xro l P ph).length by omega),x1hk,<-xrn]at hA
   have hsn:=x18m (l:=l) (ph:=ph) (wt:=wt) hk
   have hek:xuy l P ph wt k=⟨P[k].a,P[k].b,(at0 (xro l P ph) k).tdiv 4096,at0 wt k⟩:=by unfold xuy;rw[xvt hk]
   rw[hek]at hsn
   have hnl:((netL l P ph wt).take k).length<=200:=by simp[xvc];omega
   generalize P[k]=q at *
   simp only[Pq.c]at lp
   have hw1:w64 ((at0 (xro l P ph) k).tdiv 4096)=(at0 (xro l P ph) k).tdiv 4096:=xrc (by omega) (by omega)
   simp only[x59]
   unfold x8l
   simp only[hms.len xru,xry,hk',x1ff,xrw,xr9,ixm,ldm,sQuo_I (show(4096:Int)≠0 by omega),hw1]
   simp[xxv]
   cases c2:wi ((at0 (xro l P ph) k).tdiv 4096) (-1000) 1000 with
   |false=>
    rw[show xug (at0 (xro l P ph) k)=true by unfold xug;rw[c2];rfl,x1hq]at hA
    simp[q2,xrr,xsd,sLdP,xuz]
    exact fin 8 _ (by omega) (by unfold nofE;rw[c1,hA];rfl)
   |true=>
    rw[show xug (at0 (xro l P ph) k)=false by unfold xug;rw[c2];rfl,x1i1]at hA
    simp[q1,ip,lp,xus]
    generalize hm3:Mem.set _ _ _=m3
    have r1:m3.get (0,0,1)=some (.row [s,p,f,g] 0 false):=by rw[<-hm3];simp[q1]
    have r2:m3.get (0,1,2)=some (.row [I 0,nilS] 0 false):=by rw[<-hm3];simp[q2]
    have r5:m3.get (0,8,4)=some (.row [I l.length,o] 0 false):=by rw[<-hm3];simp[q5]
    have r7:m3.get (0,fc+4+13,8)=some (.row [I q.a,I q.b] 0 false):=by rw[<-hm3];simp
    have hG3:Gk 4 Edge.c (okU7 0 67) m3 o ((netL l P ph wt).take k):=hG.frame λj hj=>by
     rw[<-hm3,Mem.get_set,x1ey (by rintro rfl;exact absurd hj.2 (by simp)),Mem.get_new,x1ey (by rintro rfl;exact absurd hj.2 (by simp))]
    obtain⟨o2,m4,a1,a2,a3,a4,a5,a6⟩:=hG3.app (bytes:=32) (id0:=(0,fc+37,67)) Edge.len (by omega) ⟨rfl,rfl⟩ (by unfold xrq;omega) ⟨q.a,q.b,(at0 (xro l P ph) k).tdiv 4096,at0 wt k⟩
    simp[r1,r5,r7,ixm,ldm,sQuo_I (show(4096:Int)≠0 by omega),hw1,ixg,ldg,x11u,x18o,x18n,q5]
    rw[show ∀a b c e:Int,elems m3.get 4 (.slit [I a,I b,I c,I e] 1 true)=some (Edge.c ⟨a,b,c,e⟩,1)from λ_ _ _ _=>rfl,a1]
    have s5:m4.get (0,8,4)=some (.row [I l.length,o] 0 false):=by rw[a6 _ (by unfold okU7;simp)];exact r5
    have s1:m4.get (0,0,1)=some (.row [s,p,f,g] 0 false):=by rw[a6 _ (by unfold okU7;simp)];exact r1
    have s2:m4.get (0,1,2)=some (.row [I 0,nilS] 0 false):=by rw[a6 _ (by unfold okU7;simp)];exact r2
    simp[s5,a3,a4,tR,xr6,disj]
    rw[xrc (by omega) (by omega)]
    refine next () _ _ ⟨⟨by simp[s1],by simp[s2]⟩,⟨o2,by simp[xs3],?_⟩,hA⟩
    rw[hsn]
    exact a2.frame λj hj=>by rw[Mem.get_set,x1ey (by rintro rfl;exact absurd hj.2 (by simp))]
  .rintro n-m fc ⟨⟨q1,q2⟩,⟨o,q5,hG⟩,hA⟩
   rw[x1f8 (by rw[xvc];exact x1f3 _)]at hG
   rw[x1g4 (by omega)]at hA
   have hE:nofE l P ph=0:=by unfold nofE;rw[c1,hA];rfl
   have ho:=hG.one
   simp only[x59]
   unfold x8l xg8
   simp[hms.len xru,hml,q5,q2,ho.1,ho.2,sLdP]
   generalize hm3:Mem.set _ _ _=m3
   have hG3:Gk 4 Edge.c (okU7 0 67) m3 o (netL l P ph wt):=hG.frame λj hj=>by rw[<-hm3,Mem.get_set,x1ey (by rintro rfl;exact absurd hj.2 (by simp))]
   obtain⟨o',ho',hfo⟩:=hG3.frz Edge.len (λ_=>rfl) (k:=2)
   exact RetF.mk (x106 hfo) ⟨o',by unfold nofN;rw[hE];rfl,by unfold nofL;rw[hE];exact ho'⟩
theorem x14m(d:Nat){s p f g:AV}{l:List Scene}{P:List Pq}{ph wt:List Int}(hs:Sl Scene.c s l)(hp:Sl Pq.c p P)(hf:Ints f ph)(hg:Ints g wt)(hT:TaskOK l P ph wt)(m:Mem) :
 ∃e,Sl Edge.c e (nofL l P ph wt)/\xr8 (xr4 (d+6)) x1g [.agg [s,p,f,g]] m=some (.tup [.agg [I (nofN l P ph wt),e],I (nofE l P ph)],m):=by
 obtain⟨v,⟨e,rfl,he⟩,hc⟩:=xtg (by simp[hs.still1,hp.still1,hf.still1,hg.still1]) (a_rNetOf7 d hs hp hf hg hT) m
 exact⟨e,he,hc⟩
theorem jump_eq{l:List Scene}{P:List Pq}{ph:List Int}(hE:nofE l P ph=0){k:Nat}(hk:k<P.length):4096*(at0 (xro l P ph) k).tdiv 4096=at0 (xro l P ph) k/\-1000<=(at0 (xro l P ph) k).tdiv 4096/\(at0 (xro l P ph) k).tdiv 4096<=1000:=by
 unfold nofE at hE
 cases c1:(xro l P ph).any xux with
 |true=>rw[c1]at hE;simp at hE
 |false=>
  cases c2:(xro l P ph).any xug with
  |true=>rw[c1,c2]at hE;simp at hE
  |false=>
   have hkm:k<(xro l P ph).length:=by rw[xvs];exact hk
   rw[x1ib]at c1 c2
   have a:=c1 _ (x1fg hkm)
   have b:=c2 _ (x1fg hkm)
   rw[<-xrn hkm]at a b
   unfold xux at a
   unfold xug at b
   have b2:=wi_t (a:=(at0 (xro l P ph) k).tdiv 4096) (b:=-1000) (c:=1000) (by simpa using b)
   have a2:at0 (xro l P ph) k % 4096=0:=by simpa using a
   exact⟨Int.mul_tdiv_cancel' (Int.dvd_of_emod_eq_zero a2),b2.1,b2.2⟩
theorem x14n{l:List Scene}{P:List Pq}{ph wt:List Int}(hT:TaskOK l P ph wt)(hE:nofE l P ph=0):∀e∈netL l P ph wt,EdgeIn l.length e/\e.fr<e.to:=by
 intro e he
 unfold netL at he
 obtain⟨k,hk,rfl⟩:=x1fj.mp he
 have hk':=x1fn.mp hk
 obtain⟨-,j1,j2⟩:=jump_eq hE hk'
 obtain⟨q0,q1,q2⟩:=hT.r.pr P[k] (x1fg hk')
 have hw:=hT.hw k (by rw[hT.lw];exact hk')
 unfold xuy
 rw[xvt hk']
 refine⟨⟨?_,?_,?_,?_,?_,?_,?_,?_⟩,?_⟩<;>simp only<;>omega
theorem x18p{n:Int}:∀{l:List Edge} (i:Int),(∀e∈l,EdgeIn n.toNat e/\e.fr<e.to)->0<=n->xuq n i l=(0,0)
 |[],_,_,_=>rfl
 |e::r,i,h,h0=>by
  obtain⟨⟨a0,a1,b0,b1,c0,c1,d0,d1⟩,hlt⟩:=h e (x1f7 ..)
  have w1:wi e.fr 0 (n-1)=true:=by unfold wi;rw[x1hs];omega
  have w2:wi e.to 0 (n-1)=true:=by unfold wi;rw[x1hs];omega
  have w3:wi e.jump (-1000) 1000=true:=by unfold wi;rw[x1hs];omega
  have w4:wi e.wt 0 1000=true:=by unfold wi;rw[x1hs];omega
  have hne:¬e.fr=e.to:=by omega
  rw[xuq,w1,w2,w3,w4,x18p (l:=r) (i+1) (λe he=>h e (x1f6 _ he)) h0]
  simp[hne]
theorem x18q{l:List Scene}{P:List Pq}{ph wt:List Int}(hT:TaskOK l P ph wt)(hE:nofE l P ph=0):xur (l.length:Int) (netL l P ph wt)=(0,0):=by
 have h1:=hT.r.ll
 have h2:=hT.r.pl
 have hl:=xvc l P ph wt
 have w1:wi (l.length:Int) 0 200=true:=by unfold wi;rw[x1hs];omega
 have hc:¬(600:Int)<((netL l P ph wt).length:Int):=by omega
 unfold xur
 rw[w1,x18p (n:=(l.length:Int)) 0 (λe he=>by rw[x1f1];exact x14n hT hE e he) (by omega)]
 simp[hc]
theorem cor_turns{l:List Scene}{P:List Pq}{ph wt tu:List Int}(hT:TaskOK l P ph wt)(hE:nofE l P ph=0)(hC:ccE l P ph wt tu=0):∃x:Nat->Int,∀k,k<P.length->exF x (xuy l P ph wt k)=at0 tu k:=by
 obtain⟨k1,k2,k3⟩:=ccE_ok hC
 have hR:=hT.r
 have hF:=xxz (P:=P) (n:=l.length) hR.pr (fW l P)
 have hp1:=xzv hR.pr (phI ph) hF
 have hp2:=xzv hR.pr (phI (corL ph tu)) hF
 have hz:∀k,k<P.length->at0 (xro l P (corL ph tu)) k=0:=λk hk=>by
  apply Classical.byContradiction
  intro hc
  have:(k:Int)∈openM l P (corL ph tu):=x1fr.mpr ⟨fresh_mem.mpr ⟨by omega,by omega⟩,by simpa using hc⟩
  rw[k3]at this
  cases this
 have hstep:∀{w:List Sp} {a b:Int},Wk P w a b->AllF (xsw (fW l P) l.length P) w->(4096:Int) ∣ (potL l P ph b-potL l P (corL ph tu) b)-(potL l P ph a-potL l P (corL ph tu) a):=by
  intro w
  induction w with
  |nil=>intro a b hw _;cases hw;simp
  |cons x r ih=>
   intro a b hw hwF
   have h1:=ih hw.2 hwF.tail
   have s1:=hp1.st.step hwF.head
   have s2:=hp2.st.step hwF.head
   have hx:=hF.rng x.p hwF.head.1
   have hfa:=hw.1
   have hc:=x11t (ph:=ph) (tu:=tu) (k:=x.p.toNat) (by rw[hT.lp];omega)
   rw[show phI ph x.p=at0 ph x.p.toNat from rfl]at s1
   rw[show phI (corL ph tu) x.p=at0 (corL ph tu) x.p.toNat from rfl,hc,Int.mul_sub]at s2
   rw[hfa]at s1 s2
   have e:x.s*(4096*at0 tu x.p.toNat)=4096*(x.s*at0 tu x.p.toNat):=by rw[Int.mul_left_comm]
   rw[e]at s2
   unfold potL at h1 ⊢
   generalize x.s*at0 ph x.p.toNat=A at s1 s2
   generalize x.s*at0 tu x.p.toNat=B at s1 s2
   omega
 have hdiv:∀v:Nat,v<l.length->(4096:Int) ∣ potL l P ph v-potL l P (corL ph tu) v:=λv hv=>by
  have hL:=(Lab.fresh l.length).joins (xtp hR.pr hF.rng)
  obtain⟨l0,l1,l2⟩:=hL.ok v hv
  obtain⟨w,hw,hwF⟩:=x119 hR.pr hF.rng (v:=(at0 (joinsM (freshM l.length) (prs P (xsw (fW l P) l.length P))) v).toNat) (w:=v) (by omega) hv (by unfold Sm;exact l2)
  have z1:=hp1.z (at0 (joinsM (freshM l.length) (prs P (xsw (fW l P) l.length P))) v).toNat (by omega) (by rw[l2];omega)
  have z2:=hp2.z (at0 (joinsM (freshM l.length) (prs P (xsw (fW l P) l.length P))) v).toNat (by omega) (by rw[l2];omega)
  have:=hstep hw hwF
  unfold potL at this ⊢
  rw[z1,z2]at this
  simpa using this
 refine⟨λv=>(potL l P ph v-potL l P (corL ph tu) v) / 4096,λk hk=>?_⟩
 obtain⟨j0,-,-⟩:=jump_eq hE hk
 obtain⟨q0,q1,q2⟩:=hR.pr P[k] (x1fg hk)
 have h0:=hz k hk
 rw[x11g hk,x11t (by rw[hT.lp];exact hk)]at h0
 have h1:=x11g (l:=l) (ph:=ph) hk
 have da:=hdiv (prAt P k).a.toNat (by rw[xvt hk];omega)
 have db:=hdiv (prAt P k).b.toNat (by rw[xvt hk];omega)
 rw[x1ge (by rw[xvt hk];omega)]at da db
 unfold exF xuy
 simp only
 rw[x1ge (by rw[xvt hk];omega),x1ge (by rw[xvt hk];omega)]
 omega
theorem x18r{l:List Scene}{P:List Pq}{ph wt tu:List Int}{x:Nat->Int}(hx:∀k,k<P.length->exF x (xuy l P ph wt k)=at0 tu k):∀(j k:Nat),k+j=P.length->xti x ((netL l P ph wt).drop k)=xuf wt tu P.length-xuf wt tu k
 |0,k,h=>by
  rw[x1g4 (by rw[xvc];omega),show k=P.length by omega]
  simp[xti]
 |j+1,k,h=>by
  have hk:k<P.length:=by omega
  have ih:=x18r hx j (k+1) (by omega)
  have e:(netL l P ph wt)[k]'(by rw[xvc];exact hk)=xuy l P ph wt k:=by simp[netL]
  rw[xsj (by rw[xvc];exact hk),e,xti,ih,hx k hk]
  have:(xuy l P ph wt k).wt=at0 wt k:=rfl
  rw[this,xuf]
  omega
end Go.Ix
