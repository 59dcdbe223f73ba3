import Derived.Test.YtdfahbenacjgeaaGreatWg15
import Derived.Test.YtdfahbenacjgeaaGreatWg14
import Derived.Test.YtdfahbenacjgeaaGreatWg10
import Derived.Test.YtdfahbenacjgeaaGreatWg13
import Derived.Test.YtdfahbenacjgeaaGreatWg11
import Derived.Test.YtdfahbenacjgeaaGreatWg9
import Derived.Test.YtdfahbenacjgeaaGreatWg2
set_option linter.unusedSimpArgs false
set_option linter.unusedVariables false
namespace Go.Ix
open Go.Proofs
theorem tmod_emod(x:Int):decide (x.tmod 4096=0)=decide (x % 4096=0):=by
 rw[decide_eq_decide]
 exact⟨λh=>Int.emod_eq_zero_of_dvd (Int.dvd_of_tmod_eq_zero h),λh=>Int.tmod_eq_zero_of_dvd (Int.dvd_of_emod_eq_zero h)⟩
def xw1(x:Int):Bool:=!decide (x % 4096=0)
def xvq(x:Int):Bool:=!(wi (x.tdiv 4096) (-1000) 1000)
noncomputable def nofE(l:List Scene)(P:List Pq)(ph:List Int):Int:=bif(xsy l P ph).any xw1 then 27 else bif(xsy l P ph).any xvq then 8 else 0
noncomputable def xxt(l:List Scene)(P:List Pq)(ph wt:List Int)(k:Nat):Edge:=⟨(prAt P k).a,(prAt P k).b,(at0 (xsy l P ph) k).tdiv 4096,at0 wt k⟩
noncomputable def netL(l:List Scene)(P:List Pq)(ph wt:List Int):List Edge:=(List.range P.length).map (xxt l P ph wt)
noncomputable def nofN(l:List Scene)(P:List Pq)(ph wt:List Int):Int:=bif decide (nofE l P ph=0)then l.length else 0
noncomputable def nofL(l:List Scene)(P:List Pq)(ph wt:List Int):List Edge:=bif decide (nofE l P ph=0)then netL l P ph wt else[]
theorem xx9(l:List Scene)(P:List Pq)(ph wt:List Int):(netL l P ph wt).length=P.length:=by simp[netL]
theorem x19s{l:List Scene}{P:List Pq}{ph wt:List Int}{k:Nat}(hk:k<P.length):(netL l P ph wt).take (k+1)=(netL l P ph wt).take k++[xxt l P ph wt k]:=by
 rw[x1gz (by rw[xx9];exact hk)]
 simp[netL]
theorem x19t{id:Id}{a b c d:Int}{m:Mem}{R:Type}(k:AV->Mem->Option R):xtc [I 0,I 0,I 0,I 0] [(0,4,.agg [I a,I b,I c,I d])] 1 4 id m k=k (.slit [I a,I b,I c,I d] 1 true) m:=by
 simp[xtc,xtj,xtq,x1jb,clean1,AV.one,Value.oneCell']
theorem xwt:xd=[I 0,nilS]:=by kernel_rfl
theorem x15l:xj=[I 0,I 0,I 0,I 0]:=by kernel_rfl
theorem x19u{a b c d:Int}:xsw [I 0,I 0,I 0,I 0] [(0,1,I a),(1,1,I b),(2,1,I c),(3,1,I d)]=some (.agg [I a,I b,I c,I d]):=by simp[xsw,xtj]
theorem tells_md(d:Nat):xy7 (xsi (d+1)) (.clo x2s []) xw1:=by
 intro hs x m
 refine⟨m.next+1,?_⟩
 show xsi (d+1) hs x2s [I x] m=_
 rw[xnl]
 unfold xf2 xao xw1
 simp only[sRem_I (show(4096:Int)≠0 by omega),xsn,xzr,tmod_emod]
theorem miss_in{l:List Scene}{P:List Pq}{ph:List Int}(hR:Right7 l P)(hph:ph.length=P.length)(hM:∀k,k<ph.length->(at0 ph k).natAbs<=100000000){k:Nat}(hk:k<P.length):(at0 (xsy l P ph) k).natAbs<=13000000000:=by
 have hnM:l.length*100000000<=60*100000000:=x1j4 hR.ll (x1ga _)
 obtain⟨q0,q1,q2⟩:=hR.pr P[k] (x1go hk)
 rw[x118 hk,xz8 hk]
 have ba:=xyf hR hph hM (v:=P[k].a) q0 (by omega)
 have bb:=xyf hR hph hM (v:=P[k].b) (by omega) q2
 have bp:=hM k (by omega)
 omega
theorem tdiv_in{x:Int}(h:x.natAbs<=13000000000):(x.tdiv 4096).natAbs<=13000000000:=by
 rw[Int.natAbs_tdiv]
 exact x1hh (Nat.div_le_self _ _) h
def x10c(l:List Scene)(P:List Pq)(ph wt:List Int)(v:AV):Prop:=∃e,v=.tup [.agg [I (nofN l P ph wt),e],I (nofE l P ph)]/\Sl Edge.c e (nofL l P ph wt)
theorem x11e{objs:Id->Option Ob}{a b:AV}{x e:Int}(h:Go.Ix.frz objs 4 a=some b):Go.Ix.frz objs deep (.tup [.agg [I x,a],I e])=some (.tup [.agg [I x,b],I e]):=by
 refine xxk ?_ rfl
 exact x12b (k:=3) rfl h
theorem a_netOf(d:Nat){s p f g:AV}{l:List Scene}{P:List Pq}{ph wt:List Int}(hs:Sl Scene.c s l)(hp:Sl Pq.c p P)(hf:Ints f ph)(hg:Ints g wt)(hT:TaskOK l P ph wt)(hl:l.length<=8)(hPl:P.length<=14) :
 RetF (x10c l P ph wt) (xsi (d+14) [] x48 [.agg [s,p,f,g]] mem0):=by
 have hR:=hT.r
 have hM:=phM hT.hp
 have fin:∀(e:Int) (m:Mem),e≠0->nofE l P ph=e->RetF (x10c l P ph wt) (some (.tup [.agg [I 0,nilS],I e],m)):=λe m h0 he=>
  RetF.mk (x11e rfl) ⟨nilS,by unfold nofN;rw[he];simp[h0],Or.inl ⟨rfl,by unfold nofL;rw[he];simp[h0]⟩⟩
 rw[xmz]
 unfold xeh x9l
 simp[mem0,hs.one,hp.one,hf.one,hg.one,x104,xwt]
 rw[show xsw [nilS,nilS] [(0,2,AV.agg [s,p])]=some (.agg [s,p]) by simp[xsw,xtj]]
 generalize hm1:Mem.new _ _ _=m1
 have g1:m1.get (0,0,1)=some (.row [s,p,f,g] 0 false):=by rw[<-hm1];simp
 have g2:m1.get (0,1,2)=some (.row [I 0,nilS] 0 false):=by rw[<-hm1];simp
 obtain⟨ms,hms,hmc⟩:=x18r d hs hp hf hR hl hPl hT.lp hM (by omega) m1
 have hml:=xx6 l P ph
 have hcf:=λm=>x147 (d+11) hms (by omega) (tells_md (d+10)) rfl m
 simp[g1,hmc,hcf]
 cases c1:(xsy l P ph).any xw1 with
 |true=>
  simp[g2,xsw,xtj,sLdP]
  exact fin 27 _ (by omega) (by unfold nofE;rw[c1];rfl)
 |false=>
  simp[g1,hs.len xtt]
  rw[show xsw [I 0,nilS] [(0,1,I (l.length:Int))]=some (.agg [I l.length,nilS]) by simp[xsw,xtj]]
  simp
  generalize hm2:Mem.set _ _ _=m2
  have q1:m2.get (0,0,1)=some (.row [s,p,f,g] 0 false):=by rw[<-hm2];simp[g1]
  have q2:m2.get (0,1,2)=some (.row [I 0,nilS] 0 false):=by rw[<-hm2];simp[g2]
  have q5:m2.get (0,17,5)=some (.row [I l.length,nilS] 0 false):=by rw[<-hm2];simp
  unfold xi5
  simp[q1,hp.len xu7]
  refine xtd (N:=P.length) (σ:=Unit) (λn k _ m fc=>x5q (xsi (d+13)) [] 0 n (.ptr (0,0,1) 0 0) (.ptr (0,1,2) 0 0) ms (.ptr (0,17,5) 0 0) p (I P.length) (I k) m fc)
   (λk _ m=>(m.get (0,0,1)=some (.row [s,p,f,g] 0 false)/\m.get (0,1,2)=some (.row [I 0,nilS] 0 false))/\(∃o,m.get (0,17,5)=some (.row [I l.length,o] 0 false)/\Gk 4 Edge.c (okU7 0 55) m o ((netL l P ph wt).take k))/\(xsy l P ph).any xvq=((xsy l P ph).drop k).any xvq) _ ?_ ?_ NN 0 () m2 _ (by omega) (by rw[xsu];omega) ⟨⟨q1,q2⟩,⟨nilS,q5,by simpa using Gk.nil⟩,by simp⟩
  .rintro n k-m fc hk ⟨⟨q1,q2⟩,⟨o,q5,hG⟩,hA⟩ next
   have hk':(k:Int)<(P.length:Int):=by omega
   have ip:=hp.ix Pq.len hk
   have lp:=λm=>xtz (m:=m) (enc:=Pq.c) Pq.len (by omega) hk
   have ixm:=hms.ix xt2 (show k<(xsy l P ph).length by omega)
   have ldm:=λm=>xte (m:=m) (show k<(xsy l P ph).length by omega)
   have ixg:=hg.ix xt2 (show k<wt.length by rw[hT.lw];omega)
   have ldg:=λm=>xte (m:=m) (show k<wt.length by rw[hT.lw];omega)
   have hmi:=miss_in hR hT.lp hM hk
   have htd:=tdiv_in hmi
   rw[xtm (show k<(xsy l P ph).length by omega),x1im,<-xt5]at hA
   have hsn:=x19s (l:=l) (ph:=ph) (wt:=wt) hk
   have hek:xxt l P ph wt k=⟨P[k].a,P[k].b,(at0 (xsy l P ph) k).tdiv 4096,at0 wt k⟩:=by unfold xxt;rw[xz8 hk]
   rw[hek]at hsn
   have hnl:((netL l P ph wt).take k).length<=14:=by simp[xx9];omega
   generalize P[k]=q at *
   simp only[Pq.c]at lp
   simp only[x5q]
   unfold x9k
   simp[hk,ip,lp,xv3]
   generalize hm3:Mem.set _ _ _=m3
   have r1:m3.get (0,0,1)=some (.row [s,p,f,g] 0 false):=by rw[<-hm3];simp[q1]
   have r2:m3.get (0,1,2)=some (.row [I 0,nilS] 0 false):=by rw[<-hm3];simp[q2]
   have r5:m3.get (0,17,5)=some (.row [I l.length,o] 0 false):=by rw[<-hm3];simp[q5]
   have r7:m3.get (0,fc+4,7)=some (.row [I q.a,I q.b] 0 false):=by rw[<-hm3];simp
   have hG3:Gk 4 Edge.c (okU7 0 55) m3 o ((netL l P ph wt).take k):=hG.frame λj hj=>by
    rw[<-hm3,Mem.get_set,x1g6 (by rintro rfl;exact absurd hj.2 (by simp)),Mem.get_new,x1g6 (by rintro rfl;exact absurd hj.2 (by simp))]
   have hw1:w64 ((at0 (xsy l P ph) k).tdiv 4096)=(at0 (xsy l P ph) k).tdiv 4096:=xso (by omega) (by omega)
   simp only[ixm,ldm,xsn,sQuo_I (show(4096:Int)≠0 by omega),hw1]
   simp[x148]
   cases c2:wi ((at0 (xsy l P ph) k).tdiv 4096) (-1000) 1000 with
   |false=>
    rw[show xvq (at0 (xsy l P ph) k)=true by unfold xvq;rw[c2];rfl,x1ie]at hA
    simp[r2,xsw,xtj,sLdP,xwt]
    exact fin 8 _ (by omega) (by unfold nofE;rw[c1,hA];rfl)
   |true=>
    rw[show xvq (at0 (xsy l P ph) k)=false by unfold xvq;rw[c2];rfl,x1jc]at hA
    obtain⟨o2,m4,a1,a2,a3,a4,a5,a6⟩:=hG3.app (bytes:=32) (id0:=(0,fc+30,55)) Edge.len (by omega) ⟨rfl,rfl⟩ (by unfold xt6;omega) ⟨q.a,q.b,(at0 (xsy l P ph) k).tdiv 4096,at0 wt k⟩
    simp[r1,r5,r7,ixg,ldg,x15l,x19u,x19t]
    rw[show ∀a b c e:Int,elems m3.get 4 (.slit [I a,I b,I c,I e] 1 true)=some (Edge.c ⟨a,b,c,e⟩,1)from λ_ _ _ _=>rfl,a1]
    have s5:m4.get (0,17,5)=some (.row [I l.length,o] 0 false):=by rw[a6 _ (by unfold okU7;simp)];exact r5
    have s1:m4.get (0,0,1)=some (.row [s,p,f,g] 0 false):=by rw[a6 _ (by unfold okU7;simp)];exact r1
    have s2:m4.get (0,1,2)=some (.row [I 0,nilS] 0 false):=by rw[a6 _ (by unfold okU7;simp)];exact r2
    simp[s5,a3,a4,tR,xsm,disj]
    rw[xso (by omega) (by omega)]
    refine next () _ _ ⟨⟨by simp[s1],by simp[s2]⟩,⟨o2,by simp[xth],?_⟩,hA⟩
    rw[hsn]
    exact a2.frame λj hj=>by rw[Mem.get_set,x1g6 (by rintro rfl;exact absurd hj.2 (by simp))]
  .rintro n-m fc ⟨⟨q1,q2⟩,⟨o,q5,hG⟩,hA⟩
   rw[x1gg (by rw[xx9];exact x1ga _)]at hG
   rw[x1h5 (by omega)]at hA
   have hE:nofE l P ph=0:=by unfold nofE;rw[c1,hA];rfl
   have ho:=hG.one
   simp only[x5q]
   unfold x9k xi4
   simp[q5,q2,ho.1,ho.2,sLdP]
   generalize hm3:Mem.set _ _ _=m3
   have hG3:Gk 4 Edge.c (okU7 0 55) m3 o (netL l P ph wt):=hG.frame λj hj=>by rw[<-hm3,Mem.get_set,x1g6 (by rintro rfl;exact absurd hj.2 (by simp))]
   obtain⟨o',ho',hfo⟩:=hG3.frz Edge.len (λ_=>rfl) (k:=2)
   exact RetF.mk (x11e hfo) ⟨o',by unfold nofN;rw[hE];rfl,by unfold nofL;rw[hE];exact ho'⟩
theorem a_NetOf7(d:Nat){s p f g:AV}{l:List Scene}{P:List Pq}{ph wt:List Int}(hs:Sl Scene.c s l)(hp:Sl Pq.c p P)(hf:Ints f ph)(hg:Ints g wt)(hT:TaskOK l P ph wt)(hE:taskE l P ph wt=0)(hl:l.length<=8)(hPl:P.length<=14) :
 RetF (x10c l P ph wt) (xsi (d+15) [] x11 [.agg [s,p,f,g]] mem0):=by
 rw[xlj]
 unfold x7p x6r
 have hn:=λm=>xu6 (T:=x10c l P ph wt) (by simp[hs.still1,hp.still1,hf.still1,hg.still1]) (a_netOf d hs hp hf hg hT hl hPl) m
 simp[mem0,hs.one,hp.one,hf.one,hg.one,xwt]
 generalize hm1:Mem.new _ _ _=m1
 have g1:m1.get (0,0,1)=some (.row [s,p,f,g] 0 false):=by rw[<-hm1];simp
 have g2:m1.get (0,1,2)=some (.row [I 0,nilS] 0 false):=by rw[<-hm1];simp
 have hct:=x12k (d+6) hs hp hf hg (by rw[hT.lp];have:=hT.r.pl;omega) (by rw[hT.lw];have:=hT.r.pl;omega) m1
 obtain⟨v,⟨e,rfl,he⟩,hc⟩:=hn m1
 simp[g1,hct,hE,hc,g2,he.one,sLdP]
 exact RetF.tup (by simp[he.still1]) ⟨e,rfl,he⟩
theorem a_NetOf7e(d:Nat){s p f g:AV}{l:List Scene}{P:List Pq}{ph wt:List Int}(hs:Sl Scene.c s l)(hp:Sl Pq.c p P)(hf:Ints f ph)(hg:Ints g wt)(h1:ph.length<1000000)(h2:wt.length<1000000)(hE:taskE l P ph wt≠0) :
 RetF (λv=>v=.tup [.agg [I 0,nilS],I (taskE l P ph wt)]) (xsi (d+9) [] x11 [.agg [s,p,f,g]] mem0):=by
 rw[xlj]
 unfold x7p x6r
 simp[mem0,hs.one,hp.one,hf.one,hg.one,xwt]
 generalize hm1:Mem.new _ _ _=m1
 have g1:m1.get (0,0,1)=some (.row [s,p,f,g] 0 false):=by rw[<-hm1];simp
 have g2:m1.get (0,1,2)=some (.row [I 0,nilS] 0 false):=by rw[<-hm1];simp
 have hct:=x12k d hs hp hf hg h1 h2 m1
 simp[g1,hct,hE,g2,xsw,xtj,sLdP]
 exact RetF.mk (x11e rfl) rfl
noncomputable def nfE(l:List Scene)(P:List Pq)(ph wt:List Int):Int:=bif !decide (taskE l P ph wt=0)then taskE l P ph wt else nofE l P ph
noncomputable def nfN(l:List Scene)(P:List Pq)(ph wt:List Int):Int:=bif !decide (taskE l P ph wt=0)then 0 else nofN l P ph wt
noncomputable def nfL(l:List Scene)(P:List Pq)(ph wt:List Int):List Edge:=bif !decide (taskE l P ph wt=0)then[]else nofL l P ph wt
theorem x15m(d:Nat){s p f g:AV}{l:List Scene}{P:List Pq}{ph wt:List Int}(hs:Sl Scene.c s l)(hp:Sl Pq.c p P)(hf:Ints f ph)(hg:Ints g wt)(h1:ph.length<1000000)(h2:wt.length<1000000)(hfw:few7 l P=true)(m:Mem) :
 ∃e,Sl Edge.c e (nfL l P ph wt)/\xsl (xsi (d+15)) x11 [.agg [s,p,f,g]] m=some (.tup [.agg [I (nfN l P ph wt),e],I (nfE l P ph wt)],m):=by
 by_cases hE:taskE l P ph wt=0
 .have hT:=xxs hE
  obtain⟨hl,hPl⟩:=x10b hfw hT.r
  obtain⟨v,⟨e,rfl,he⟩,hc⟩:=xu6 (by simp[hs.still1,hp.still1,hf.still1,hg.still1]) (a_NetOf7 d hs hp hf hg hT hE hl hPl) m
  exact⟨e,by unfold nfL;simp[hE];exact he,by rw[hc];unfold nfN nfE;simp[hE]⟩
 .refine⟨nilS,by unfold nfL;simp[hE];exact Or.inl ⟨rfl,rfl⟩,?_⟩
  have:=xua (by simp[hs.still1,hp.still1,hf.still1,hg.still1]) (a_NetOf7e (d+6) hs hp hf hg h1 h2 hE) m
  rw[show d+6+9=d+15 by omega]at this
  rw[this]
  unfold nfN nfE
  simp[hE]
theorem a_rNetOf7(d:Nat){s p f g:AV}{l:List Scene}{P:List Pq}{ph wt:List Int}(hs:Sl Scene.c s l)(hp:Sl Pq.c p P)(hf:Ints f ph)(hg:Ints g wt)(hT:TaskOK l P ph wt) :
 RetF (x10c l P ph wt) (xsi (d+6) [] x2k [.agg [s,p,f,g]] mem0):=by
 have hR:=hT.r
 have hpl:=hR.pl
 have hM:=phM hT.hp
 have fin:∀(e:Int) (m:Mem),e≠0->nofE l P ph=e->RetF (x10c l P ph wt) (some (.tup [.agg [I 0,nilS],I e],m)):=λe m h0 he=>
  RetF.mk (x11e rfl) ⟨nilS,by unfold nofN;rw[he];simp[h0],Or.inl ⟨rfl,by unfold nofL;rw[he];simp[h0]⟩⟩
 rw[xn8]
 unfold xeq xa3
 simp[mem0,hs.one,hp.one,hf.one,hg.one,xwt,hs.len xtt]
 rw[show xsw [I 0,nilS] [(0,1,I (l.length:Int))]=some (.agg [I l.length,nilS]) by simp[xsw,xtj]]
 simp
 generalize hm1:Mem.set _ _ _=m1
 have g1:m1.get (0,0,1)=some (.row [s,p,f,g] 0 false):=by rw[<-hm1];simp
 have g2:m1.get (0,1,2)=some (.row [I 0,nilS] 0 false):=by rw[<-hm1];simp
 have g4:m1.get (0,8,4)=some (.row [I l.length,nilS] 0 false):=by rw[<-hm1];simp
 obtain⟨ms,hms,hmc⟩:=w_rMisses d hs hp hf ⟨hg.one,hg.still1,hg.clean1⟩ hR hT.lp hM (by omega) m1
 have hml:=xx6 l P ph
 simp[g1,hmc]
 unfold xih
 refine xtd (N:=P.length) (σ:=Unit) (λn k _ m fc=>x5v (xsi (d+5)) [] 0 n (.ptr (0,0,1) 0 0) (.ptr (0,1,2) 0 0) (.ptr (0,8,4) 0 0) ms (I k) m fc)
  (λk _ m=>m=m1/\(xsy l P ph).any xw1=((xsy l P ph).drop k).any xw1) _ ?_ ?_ NN 0 () m1 _ (by omega) (by rw[xsu];omega) ⟨rfl,by simp⟩
 .rintro n k-m fc hk ⟨rfl,hA⟩ next
  have hk':(k:Int)<((xsy l P ph).length:Int):=by omega
  have ixm:=hms.ix xt2 (show k<(xsy l P ph).length by omega)
  have ldm:=λm=>xte (m:=m) (show k<(xsy l P ph).length by omega)
  have hmd:=λm=>w_Mod (d+4) (x:=at0 (xsy l P ph) k) (y:=4096) (by omega) (by omega) m
  rw[xtm (show k<(xsy l P ph).length by omega),x1im,<-xt5]at hA
  simp only[x5v]
  unfold xa2
  simp only[hms.len xt8,xta,hk',x1gm,xt9,xsn,ixm,ldm,hmd,xzr]
  by_cases c:at0 (xsy l P ph) k % 4096=0
  .rw[show xw1 (at0 (xsy l P ph) k)=false by unfold xw1;rw[x1h6 c];rfl,x1jc]at hA
   simp only[c,x1gm,x1jh,xup]
   simp(disch:=omega) [xso]
   exact next () m _ ⟨rfl,hA⟩
  .rw[show xw1 (at0 (xsy l P ph) k)=true by unfold xw1;rw[x1ib c];rfl,x1ie]at hA
   simp only[c,x1h9,x1ht,xt9]
   simp[g2,xsw,xtj,sLdP,xwt]
   exact fin 27 _ (by omega) (by unfold nofE;rw[hA];rfl)
 .rintro n-m fc ⟨rfl,hA⟩
  rw[x1h5 (by omega)]at hA
  have c1:(xsy l P ph).any xw1=false:=hA
  have hkn:¬((P.length:Int)<((xsy l P ph).length:Int)):=by omega
  simp only[x5v]
  unfold xa2 xig
  simp only[hms.len xt8,xta,hkn,x1h9,xup,xsn]
  refine xtd (N:=P.length) (σ:=Unit) (λn k _ m fc=>x5u (xsi (d+5)) [] 0 n (.ptr (0,0,1) 0 0) (.ptr (0,1,2) 0 0) (.ptr (0,8,4) 0 0) ms (I k) m fc)
   (λk _ m=>(m.get (0,0,1)=some (.row [s,p,f,g] 0 false)/\m.get (0,1,2)=some (.row [I 0,nilS] 0 false))/\(∃o,m.get (0,8,4)=some (.row [I l.length,o] 0 false)/\Gk 4 Edge.c (okU7 0 67) m o ((netL l P ph wt).take k))/\(xsy l P ph).any xvq=((xsy l P ph).drop k).any xvq) _ ?_ ?_ NN 0 () m _ (by omega) (by rw[xsu];omega) ⟨⟨g1,g2⟩,⟨nilS,g4,by simpa using Gk.nil⟩,by simp⟩
  .rintro n k-m fc hk ⟨⟨q1,q2⟩,⟨o,q5,hG⟩,hA⟩ next
   have hk':(k:Int)<((xsy l P ph).length:Int):=by omega
   have ip:=hp.ix Pq.len hk
   have lp:=λm=>xtz (m:=m) (enc:=Pq.c) Pq.len (by omega) hk
   have ixm:=hms.ix xt2 (show k<(xsy l P ph).length by omega)
   have ldm:=λm=>xte (m:=m) (show k<(xsy l P ph).length by omega)
   have ixg:=hg.ix xt2 (show k<wt.length by rw[hT.lw];omega)
   have ldg:=λm=>xte (m:=m) (show k<wt.length by rw[hT.lw];omega)
   have hmi:=miss_in hR hT.lp hM hk
   have htd:=tdiv_in hmi
   rw[xtm (show k<(xsy l P ph).length by omega),x1im,<-xt5]at hA
   have hsn:=x19s (l:=l) (ph:=ph) (wt:=wt) hk
   have hek:xxt l P ph wt k=⟨P[k].a,P[k].b,(at0 (xsy l P ph) k).tdiv 4096,at0 wt k⟩:=by unfold xxt;rw[xz8 hk]
   rw[hek]at hsn
   have hnl:((netL l P ph wt).take k).length<=200:=by simp[xx9];omega
   generalize P[k]=q at *
   simp only[Pq.c]at lp
   have hw1:w64 ((at0 (xsy l P ph) k).tdiv 4096)=(at0 (xsy l P ph) k).tdiv 4096:=xso (by omega) (by omega)
   simp only[x5u]
   unfold xa1
   simp only[hms.len xt8,xta,hk',x1gm,xt9,xsn,ixm,ldm,sQuo_I (show(4096:Int)≠0 by omega),hw1]
   simp[xy5]
   cases c2:wi ((at0 (xsy l P ph) k).tdiv 4096) (-1000) 1000 with
   |false=>
    rw[show xvq (at0 (xsy l P ph) k)=true by unfold xvq;rw[c2];rfl,x1ie]at hA
    simp[q2,xsw,xtj,sLdP,xwt]
    exact fin 8 _ (by omega) (by unfold nofE;rw[c1,hA];rfl)
   |true=>
    rw[show xvq (at0 (xsy l P ph) k)=false by unfold xvq;rw[c2];rfl,x1jc]at hA
    simp[q1,ip,lp,xv3]
    generalize hm3:Mem.set _ _ _=m3
    have r1:m3.get (0,0,1)=some (.row [s,p,f,g] 0 false):=by rw[<-hm3];simp[q1]
    have r2:m3.get (0,1,2)=some (.row [I 0,nilS] 0 false):=by rw[<-hm3];simp[q2]
    have r5:m3.get (0,8,4)=some (.row [I l.length,o] 0 false):=by rw[<-hm3];simp[q5]
    have r7:m3.get (0,fc+4+13,8)=some (.row [I q.a,I q.b] 0 false):=by rw[<-hm3];simp
    have hG3:Gk 4 Edge.c (okU7 0 67) m3 o ((netL l P ph wt).take k):=hG.frame λj hj=>by
     rw[<-hm3,Mem.get_set,x1g6 (by rintro rfl;exact absurd hj.2 (by simp)),Mem.get_new,x1g6 (by rintro rfl;exact absurd hj.2 (by simp))]
    obtain⟨o2,m4,a1,a2,a3,a4,a5,a6⟩:=hG3.app (bytes:=32) (id0:=(0,fc+37,67)) Edge.len (by omega) ⟨rfl,rfl⟩ (by unfold xt6;omega) ⟨q.a,q.b,(at0 (xsy l P ph) k).tdiv 4096,at0 wt k⟩
    simp[r1,r5,r7,ixm,ldm,sQuo_I (show(4096:Int)≠0 by omega),hw1,ixg,ldg,x15l,x19u,x19t,q5]
    rw[show ∀a b c e:Int,elems m3.get 4 (.slit [I a,I b,I c,I e] 1 true)=some (Edge.c ⟨a,b,c,e⟩,1)from λ_ _ _ _=>rfl,a1]
    have s5:m4.get (0,8,4)=some (.row [I l.length,o] 0 false):=by rw[a6 _ (by unfold okU7;simp)];exact r5
    have s1:m4.get (0,0,1)=some (.row [s,p,f,g] 0 false):=by rw[a6 _ (by unfold okU7;simp)];exact r1
    have s2:m4.get (0,1,2)=some (.row [I 0,nilS] 0 false):=by rw[a6 _ (by unfold okU7;simp)];exact r2
    simp[s5,a3,a4,tR,xsm,disj]
    rw[xso (by omega) (by omega)]
    refine next () _ _ ⟨⟨by simp[s1],by simp[s2]⟩,⟨o2,by simp[xth],?_⟩,hA⟩
    rw[hsn]
    exact a2.frame λj hj=>by rw[Mem.get_set,x1g6 (by rintro rfl;exact absurd hj.2 (by simp))]
  .rintro n-m fc ⟨⟨q1,q2⟩,⟨o,q5,hG⟩,hA⟩
   rw[x1gg (by rw[xx9];exact x1ga _)]at hG
   rw[x1h5 (by omega)]at hA
   have hE:nofE l P ph=0:=by unfold nofE;rw[c1,hA];rfl
   have ho:=hG.one
   simp only[x5u]
   unfold xa1 xif
   simp[hms.len xt8,hml,q5,q2,ho.1,ho.2,sLdP]
   generalize hm3:Mem.set _ _ _=m3
   have hG3:Gk 4 Edge.c (okU7 0 67) m3 o (netL l P ph wt):=hG.frame λj hj=>by rw[<-hm3,Mem.get_set,x1g6 (by rintro rfl;exact absurd hj.2 (by simp))]
   obtain⟨o',ho',hfo⟩:=hG3.frz Edge.len (λ_=>rfl) (k:=2)
   exact RetF.mk (x11e hfo) ⟨o',by unfold nofN;rw[hE];rfl,by unfold nofL;rw[hE];exact ho'⟩
theorem w_rNetOf7(d:Nat){s p f g:AV}{l:List Scene}{P:List Pq}{ph wt:List Int}(hs:Sl Scene.c s l)(hp:Sl Pq.c p P)(hf:Ints f ph)(hg:Ints g wt)(hT:TaskOK l P ph wt)(m:Mem) :
 ∃e,Sl Edge.c e (nofL l P ph wt)/\xsl (xsi (d+6)) x2k [.agg [s,p,f,g]] m=some (.tup [.agg [I (nofN l P ph wt),e],I (nofE l P ph)],m):=by
 obtain⟨v,⟨e,rfl,he⟩,hc⟩:=xu6 (by simp[hs.still1,hp.still1,hf.still1,hg.still1]) (a_rNetOf7 d hs hp hf hg hT) m
 exact⟨e,he,hc⟩
theorem jump_eq{l:List Scene}{P:List Pq}{ph:List Int}(hE:nofE l P ph=0){k:Nat}(hk:k<P.length):4096*(at0 (xsy l P ph) k).tdiv 4096=at0 (xsy l P ph) k/\-1000<=(at0 (xsy l P ph) k).tdiv 4096/\(at0 (xsy l P ph) k).tdiv 4096<=1000:=by
 unfold nofE at hE
 cases c1:(xsy l P ph).any xw1 with
 |true=>rw[c1]at hE;simp at hE
 |false=>
  cases c2:(xsy l P ph).any xvq with
  |true=>rw[c1,c2]at hE;simp at hE
  |false=>
   have hkm:k<(xsy l P ph).length:=by rw[xx6];exact hk
   rw[x1ir]at c1 c2
   have a:=c1 _ (x1go hkm)
   have b:=c2 _ (x1go hkm)
   rw[<-xt5 hkm]at a b
   unfold xw1 at a
   unfold xvq at b
   have b2:=wi_t (a:=(at0 (xsy l P ph) k).tdiv 4096) (b:=-1000) (c:=1000) (by simpa using b)
   have a2:at0 (xsy l P ph) k % 4096=0:=by simpa using a
   exact⟨Int.mul_tdiv_cancel' (Int.dvd_of_emod_eq_zero a2),b2.1,b2.2⟩
theorem x15n{l:List Scene}{P:List Pq}{ph wt:List Int}(hT:TaskOK l P ph wt)(hE:nofE l P ph=0):∀e∈netL l P ph wt,EdgeIn l.length e/\e.fr<e.to:=by
 intro e he
 unfold netL at he
 obtain⟨k,hk,rfl⟩:=x1gs.mp he
 have hk':=x1h0.mp hk
 obtain⟨-,j1,j2⟩:=jump_eq hE hk'
 obtain⟨q0,q1,q2⟩:=hT.r.pr P[k] (x1go hk')
 have hw:=hT.hw k (by rw[hT.lw];exact hk')
 unfold xxt
 rw[xz8 hk']
 refine⟨⟨?_,?_,?_,?_,?_,?_,?_,?_⟩,?_⟩<;>simp only<;>omega
theorem x19v{n:Int}:∀{l:List Edge} (i:Int),(∀e∈l,EdgeIn n.toNat e/\e.fr<e.to)->0<=n->xvm n i l=(0,0)
 |[],_,_,_=>rfl
 |e::r,i,h,h0=>by
  obtain⟨⟨a0,a1,b0,b1,c0,c1,d0,d1⟩,hlt⟩:=h e (x1gf ..)
  have w1:wi e.fr 0 (n-1)=true:=by unfold wi;rw[x1il];omega
  have w2:wi e.to 0 (n-1)=true:=by unfold wi;rw[x1il];omega
  have w3:wi e.jump (-1000) 1000=true:=by unfold wi;rw[x1il];omega
  have w4:wi e.wt 0 1000=true:=by unfold wi;rw[x1il];omega
  have hne:¬e.fr=e.to:=by omega
  rw[xvm,w1,w2,w3,w4,x19v (l:=r) (i+1) (λe he=>h e (x1ge _ he)) h0]
  simp[hne]
theorem x19w{l:List Scene}{P:List Pq}{ph wt:List Int}(hT:TaskOK l P ph wt)(hE:nofE l P ph=0):xv1 (l.length:Int) (netL l P ph wt)=(0,0):=by
 have h1:=hT.r.ll
 have h2:=hT.r.pl
 have hl:=xx9 l P ph wt
 have w1:wi (l.length:Int) 0 200=true:=by unfold wi;rw[x1il];omega
 have hc:¬(600:Int)<((netL l P ph wt).length:Int):=by omega
 unfold xv1
 rw[w1,x19v (n:=(l.length:Int)) 0 (λe he=>by rw[x1gb];exact x15n hT hE e he) (by omega)]
 simp[hc]
def Stp.c(s:Stp):List AV:=[I s.fr,I s.to,I s.ed,I s.sg,I s.gain,I s.room]
theorem Stp.len(s:Stp):s.c.length=6:=rfl
theorem Stp.still1(s:Stp):s.c.all Go.Ix.still1=true:=rfl
theorem Sl.ixS{st:AV}{S:List Stp}(h:Sl Stp.c st S){i:Int}(h0:0<=i)(hi:i<S.length):∃rest,sIx 6 st (I i)=some (.plit (I (stpAt S i.toNat).fr::I (stpAt S i.toNat).to::I (stpAt S i.toNat).ed::I (stpAt S i.toNat).sg::I (stpAt S i.toNat).gain::I (stpAt S i.toNat).room::rest)):=by
 have hi':i.toNat<S.length:=by omega
 refine⟨(S.drop (i.toNat+1)).flatMap Stp.c,?_⟩
 rw[h.ixI Stp.len h0 hi,xtm hi',x1gy,x19g hi']
 rfl
theorem ldS{a b c d e f:AV}{rest:List AV}{m:Mem}:sLd true 6 (.plit (a::b::c::d::e::f::rest)) m=some (.agg [a,b,c,d,e,f]):=by
 simp only[sLd,List.isEmpty_cons,x1h3,x1gu]
 rw[rd_t]
 simp only[x1gq]
 rw[x1h6 (by omega)]
 rfl
end Go.Ix
