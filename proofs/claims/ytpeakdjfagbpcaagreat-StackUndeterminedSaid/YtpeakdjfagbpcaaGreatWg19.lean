import Derived.Test.YtpeakdjfagbpcaaGreatWg18
import Derived.Test.YtpeakdjfagbpcaaGreatWg16
set_option linter.unusedSimpArgs false
set_option linter.unusedVariables false
namespace Go.Ix
open Go.Proofs
def excL(T:List Int)(N:List Edge):List Int:=N.map (exF (at0 T))
theorem x107(T:List Int)(N:List Edge):(excL T N).length=N.length:=by simp[excL]
theorem exc_take{T:List Int}{N:List Edge}{k:Nat}(hk:k<N.length):excL T (N.take (k+1))=excL T (N.take k)++[exF (at0 T) N[k]]:=by
 unfold excL
 rw[x1g3 hk,x1h0]
 rfl
def CoR(n:Nat)(l:List Edge)(v:AV):Prop:=∃fl tu ex a b,v=.tup [a,b,I (xub (xrt n (xrv n l) tu) 0 l),I 0]/\Solved 20 n l fl tu ex/\Ints a (excL (xrt n (xrv n l) tu) l)/\Ints b fl
theorem frz_tup4{objs:Id->Option Ob}{a b c d a' b' c' d':AV}(ha:frz objs 5 a=some a')(hb:frz objs 5 b=some b')(hc:frz objs 5 c=some c')(hd:frz objs 5 d=some d'):frz objs deep (.tup [a,b,c,d])=some (.tup [a',b',c',d']):=by
 show([a,b,c,d].mapM (frz objs 5)).map AV.tup=_
 simp only[x1fq,x1g8,ha,hb,hc,hd]
 rfl
theorem a_Best(d:Nat){s p f g:AV}{l:List Scene}{P:List Pq}{ph wt:List Int}(hs:Sl Scene.c s l)(hp:Sl Pq.c p P)(hf:Ints f ph)(hg:Ints g wt)(h1:ph.length<1000000)(h2:wt.length<1000000)(hfw:few7 l P=true)(hE:nfE l P ph wt=0)(hS:Slim 20 l.length (netL l P ph wt)) :
 RetF (CoR l.length (netL l P ph wt)) (xr4 (d+16) [] x4a [.agg [s,p,f,g]] mem0):=by
 obtain⟨hE1,hE2,hN,hL⟩:=xy9 hE
 have hT:=xwl hE1
 have hck:=x18q (wt:=wt) hT hE2
 rw[xli]
 unfold xdp x8r
 generalize hm1:(⟨[],1⟩:Mem).new (0,0,1) (.row [s,p,f,g] 0 false)=m1
 have g1:m1.get (0,0,1)=some (.row [s,p,f,g] 0 false):=by rw[<-hm1];simp
 obtain⟨e,he,hec⟩:=x14l d hs hp hf hg h1 h2 hfw m1
 rw[hL]at he
 simp[mem0,hs.one,hp.one,hf.one,hg.one,hm1,g1,hec,hE,hN,xuz,he.one]
 generalize hm2:Mem.set _ _ _=m2
 have g4:m2.get (0,10,6)=some (.row [I l.length,e] 0 false):=by rw[<-hm2];simp
 obtain⟨fl,tu,ex,hSo,hnc⟩:=x1br (d+7) he (by rw[hck]) hS m2
 simp[g4,hnc]
 generalize hnet:netL l P ph wt=N at *
 have hNl:N.length<=17:=hS.ll
 have hfl:fl.length=N.length:=hSo.f.fll
 have htb:=hSo.turns (by omega)
 have htl:(xrt l.length (xrv l.length N) tu).length=l.length:=by simp[xrt]
 generalize hq:xrt l.length (xrv l.length N) tu=q at *
 have hqs:Ints (.slit (q.flatMap intE) l.length false) q:=by rw[<-htl];exact Sl.lit q false
 have hfs:Ints (.slit (fl.flatMap intE) N.length false) fl:=by rw[<-hfl];exact Sl.lit fl false
 unfold xgf
 simp[g4,he.len xua]
 refine xsf (N:=N.length) (λn k t11 m fc=>x5d (xr4 (d+15)) [] 0 n (.slit (q.flatMap intE) l.length false) (.slit (fl.flatMap intE) N.length false) (I (xub q 0 N)) t11 e (I N.length) (I k) m fc) (λk t11 m=>Gr 1 intE 0 55 m t11 (excL q (N.take k))) _ ?_ ?_ NN 0 nilS m2 _ (by omega) (by rw[xrg];omega) (by simpa[excL]using Gr.nil)
 .rintro n k t11 m fc hk hG next
  have hk':(k:Int)<(N.length:Int):=by omega
  obtain⟨⟨f0,f1,t0,t1,-⟩,-⟩:=hS.ed N[k] (x1fg hk)
  have hjw:=hS.jw N[k] (x1fg hk)
  have ix:=he.ix Edge.len hk
  have ld:=λm=>xsy (m:=m) Edge.len (by omega) hk
  have hts:=exc_take (T:=q) hk
  have hlen:(excL q (N.take k)).length<=17:=by rw[x107,x1go];omega
  generalize N[k]=x at *
  have ia:=hqs.ixI xrm f0 (by omega)
  have ib:=hqs.ixI xrm t0 (by omega)
  have la:=λm=>xs2 (m:=m) (l:=q) (k:=x.fr.toNat) (by omega)
  have lb:=λm=>xs2 (m:=m) (l:=q) (k:=x.to.toNat) (by omega)
  have b1:=htb x.fr.toNat
  have b2:=htb x.to.toNat
  have hx:exF (at0 q) x=at0 q x.to.toNat-at0 q x.fr.toNat+x.jump:=rfl
  simp only[x5d]
  unfold x8q
  simp only[Edge.c]at ld
  simp[hk',ix,ld,x11u]
  generalize hm3:Mem.set _ _ _=m3
  have e3:∀j:Id,j.2.2≠13->m3.get j=m.get j:=λj hj=>by
   rw[<-hm3,Mem.get_set,x1ey (by rintro rfl;exact hj rfl),Mem.get_new,x1ey (by rintro rfl;exact hj rfl)]
  have q9:m3.get (0,fc+3,13)=some (.row [I x.fr,I x.to,I x.jump,I x.wt] 0 false):=by rw[<-hm3];simp
  have hG3:Gr 1 intE 0 55 m3 t11 (excL q (N.take k)):=hG.frame λs=>e3 _ (by simp)
  obtain⟨a',m4,k1,k2,k3,k4⟩:=hG3.app (s0:=fc+21) (bytes:=8) xrm (by omega) (by unfold xrq;omega) (exF (at0 q) x)
  have hel:∀(M:Mem) (y:Int),elems M.get 1 (.slit [I y] 1 true)=some (intE y,1):=λ_ _=>rfl
  simp(disch:=omega) [q9,ia,ib,la,lb,x11z,hel]
  rw[<-hx,k1]
  exact next a' m4 _ (by rw[hts];exact k2)
 .rintro n t11 m fc hG
  rw[x1hy]at hG
  simp only[x5d]
  unfold x8q xge
  simp
  obtain⟨a',f1,f2⟩:=hG.frzk (k:=3) xrm xto
  exact RetF.mk (T:=CoR l.length N) (frz_tup4 f2 (xtu _ 3 hfs.still) (frz_I (k:=4)) (frz_I (k:=4))) ⟨fl,tu,ex,a',_,by rw[hq],hSo,by rw[hq];exact f1,hfs⟩
def Br7(l:List Scene)(P:List Pq)(ph wt:List Int):Prop:=Lt7 l P ph wt/\(nfE l P ph wt=0->Slim 20 l.length (netL l P ph wt))
def IsBr(l:List Scene)(P:List Pq)(ph wt:List Int)(v:AV):Prop:=∃b,v=B b/\(b=true->Br7 l P ph wt)
theorem slim7{l:List Scene}{P:List Pq}{ph wt:List Int}(hL:Lt7 l P ph wt)(hE:taskE l P ph wt=0)(hE2:nofE l P ph=0)(hj:∀e∈netL l P ph wt,e.jump.natAbs<=20):Slim 20 l.length (netL l P ph wt):=by
 have hT:=xwl hE
 obtain⟨l8,p14⟩:=x105 hL.few hT.r
 refine⟨by omega,by omega,by omega,by rw[xvc];omega,λe he=>?_,λe he=>?_⟩
 .obtain⟨h1,h2⟩:=x14n hT hE2 e he
  exact⟨h1,by omega⟩
 .have h1:=hj e he
  refine⟨by omega,by omega,?_⟩
  unfold netL at he
  obtain⟨k,hk,rfl⟩:=x1fj.mp he
  have hk2:k<P.length:=by simpa using hk
  exact(hL.c hE k (by rw[hT.lp];exact hk2)).1
theorem w_brief7(d:Nat){s p f g:AV}{l:List Scene}{P:List Pq}{ph wt:List Int}(hs:Sl Scene.c s l)(hp:Sl Pq.c p P)(hf:Ints f ph)(hg:Ints g wt)(m:Mem) :
 ∃b,(b=true->Br7 l P ph wt)/\xr8 (xr4 (d+7)) x26 [.agg [s,p,f,g]] m=some (B b,m):=by
 suffices key:RetF (IsBr l P ph wt) (xr4 (d+7) [] x26 [.agg [s,p,f,g]] mem0) by
  obtain⟨v,⟨b,rfl,h⟩,hc⟩:=xtg (by simp[hs.still1,hp.still1,hf.still1,hg.still1]) key m
  exact⟨b,h,hc⟩
 have no:∀m,RetF (IsBr l P ph wt) (some (B false,m)):=λm=>RetF.st rfl ⟨false,rfl,λh=>by cases h⟩
 rw[xlf]
 unfold xdm x8j
 generalize hm1:(⟨[],1⟩:Mem).new (0,0,1) (.row [s,p,f,g] 0 false)=m1
 have g1:m1.get (0,0,1)=some (.row [s,p,f,g] 0 false):=by rw[<-hm1];simp
 obtain⟨bl,hbl,hlc⟩:=w_light7 d hs hp hf hg m1
 simp[mem0,hs.one,hp.one,hf.one,hg.one,hm1,g1,hlc]
 cases bl with
 |false=>simp;exact no m1
 |true=>
  have hL:=hbl rfl
  have ha:=hL.a
  have hb:=hL.b
  have yes:(nfE l P ph wt=0->∀e∈netL l P ph wt,e.jump.natAbs<=20)->∀m,RetF (IsBr l P ph wt) (some (B true,m)):=λh m=>RetF.st rfl ⟨true,rfl,λ_=>⟨hL,λhE=>slim7 hL (xy9 hE).1 (xy9 hE).2.1 (h hE)⟩⟩
  simp[g1,x13x (d+1) hs hp hf hg (by omega) (by omega)]
  by_cases hE:taskE l P ph wt=0
  rotate_left
  .simp[hE]
   exact yes (λh=>absurd (xy9 h).1 hE) m1
  have hT:=xwl hE
  obtain⟨e,he,hec⟩:=x14m d hs hp hf hg hT m1
  simp[hE,g1,hec,xuz,he.one]
  generalize hm2:Mem.set _ _ _=m2
  have g3:m2.get (0,13,3)=some (.row [I (nofN l P ph wt),e] 0 false):=by rw[<-hm2];simp
  by_cases hE2:nofE l P ph=0
  rotate_left
  .simp[hE2]
   exact yes (λh=>absurd (xy9 h).2.1 hE2) m2
  simp[hE2]
  unfold xg4
  have hN:nofL l P ph wt=netL l P ph wt:=by unfold nofL;simp[hE2]
  rw[hN]at he
  have hmem:=x14n (wt:=wt) hT hE2
  have hle:=xvc l P ph wt
  obtain⟨l8,p14⟩:=x105 hL.few hT.r
  generalize hnet:netL l P ph wt=N at *
  refine xsf (N:=N.length) (σ:=Unit) (λn k _ m fc=>x57 (xr4 (d+6)) [] 0 n (.ptr (0,13,3) 0 0) (I k) m fc) (λk _ m=>m=m2/\∀e∈N.take k,e.jump.natAbs<=20) _ ?_ ?_ NN 0 () m2 _ (by omega) (by rw[xrg];omega) ⟨rfl,by simp⟩
  .rintro n k-m fc hk ⟨hm,hI⟩ next
   rw[hm]
   have hk':(k:Int)<(N.length:Int):=by omega
   have ix:=he.ix Edge.len hk
   have lj:=λm=>xw1 (enc:=Edge.c) (m:=m) (l:=N) hk 2 (v:=I (N[k]).jump) rfl
   obtain⟨-,-,-,-,b1,b2,-⟩:=(hmem N[k] (x1fg hk)).1
   have hts:=x1g3 hk
   generalize N[k]=x at *
   have hsz:=λm=>w_Size (d+5) x.jump m (by omega) (by omega)
   simp only[x57]
   unfold x8i
   simp(disch:=omega) [g3,he.len xua,hk',ix,lj,hsz]
   by_cases c:20<(x.jump.natAbs:Int)
   .simp[c]
    exact no m2
   .simp[c]
    refine next () m2 _ ⟨rfl,λy hy=>?_⟩
    rw[hts]at hy
    rcases x1fw.mp hy with hy|hy
    .exact hI y hy
    .simp at hy;subst hy;omega
  .rintro n-m fc ⟨hm,hI⟩
   rw[hm]
   rw[x1hy]at hI
   simp only[x57]
   unfold x8i xg3
   simp[g3,he.len xua]
   exact yes (λ_=>by first|exact hI|(rw[hnet];exact hI)) m2
theorem law_StackUndetermined{s p f g t:AV}{l:List Scene}{P:List Pq}{ph wt tu:List Int}(hs:Sl Scene.c s l)(hp:Sl Pq.c p P)(hf:Ints f ph)(hg:Ints g wt)(ht:Ints t tu):∃m',xr4 31 [] x6j [.agg [s,p,f,g],t] mem0=some (B true,m'):=by
 rw[xl5]
 unfold xdc x7y
 generalize hm1:(⟨[],1⟩:Mem).new (0,0,2) (.row [s,p,f,g] 0 false)=m1
 have g1:m1.get (0,0,2)=some (.row [s,p,f,g] 0 false):=by rw[<-hm1];simp
 obtain⟨bl,hbl,hlc⟩:=w_brief7 23 hs hp hf hg m1
 simp[mem0,hs.one,hp.one,hf.one,hg.one,hm1,w_awake7,g1,hlc]
 cases bl with
 |false=>simp
 |true=>
  obtain⟨hL,hSl⟩:=hbl rfl
  have ha:=hL.a
  have hb:=hL.b
  obtain⟨l1,l2⟩:=few7_len hL.few
  simp[ht.len xru]
  by_cases h20:(20:Int)<(tu.length:Int)
  .simp[h20]
  obtain⟨s',p',f',g',hs',hp',hf',hg',hcp⟩:=w_Copy7 28 hs hp hf hg (by omega) (by omega) (by omega) (by omega) m1
  simp[h20,g1,hcp]
  have hct:=λm=>x13x 25 hs hp hf hg (by omega) (by omega) m
  by_cases hE:nfE l P ph wt=0
  rotate_left
  ·
   simp[w_Und0 14 hs' hp' hf' hg' (by omega) (by omega) hL.few hE,g1,hct,xuz]
   generalize hm2:Mem.new m1 _ _=m2
   have g2:m2.get (0,0,2)=some (.row [s,p,f,g] 0 false):=by rw[<-hm2];simp[g1]
   have g8:m2.get (0,23,8)=some (.row [I 0,nilS] 0 false):=by rw[<-hm2];simp
   unfold x7x
   by_cases hT0:taskE l P ph wt=0
   .have hT:=xwl hT0
    have hne:nfE l P ph wt=nofE l P ph:=by unfold nfE;simp[hT0]
    obtain⟨e,he,hec⟩:=x14m 24 hs hp hf hg hT m2
    rw[hne]at hE ⊢
    simp[hT0,g2,g8,hec,he.one]
    unfold x50
    simp[hE,xxt xru]
   .have hne:nfE l P ph wt=taskE l P ph wt:=by unfold nfE;simp[hT0]
    rw[hne]
    simp[hT0]
    unfold x50
    simp[hT0,xxt xru]
  .have hS:=hSl hE
   obtain⟨hT0,hE2,hN,hNL⟩:=xy9 hE
   have hT:=xwl hT0
   obtain⟨l8,p14⟩:=x105 hL.few hT.r
   obtain⟨v,⟨fl,tu2,ex,a,rfl,hSo,hA⟩,hac⟩:=xtg (by simp[hs'.still1,hp'.still1,hf'.still1,hg'.still1]) (a_Und 14 hs' hp' hf' hg' (by omega) (by omega) hL.few hE hS) m1
   simp[hac,g1,hct,xuz,hT0]
   generalize hm2:Mem.new m1 _ _=m2
   have g2:m2.get (0,0,2)=some (.row [s,p,f,g] 0 false):=by rw[<-hm2];simp[g1]
   have g8:m2.get (0,23,8)=some (.row [I 0,nilS] 0 false):=by rw[<-hm2];simp
   obtain⟨e,he,hec⟩:=x14m 24 hs hp hf hg hT m2
   have hnN:nofN l P ph wt=l.length:=by unfold nofN;simp[hE2]
   have hnL:nofL l P ph wt=netL l P ph wt:=by unfold nofL;simp[hE2]
   rw[hnL]at he
   unfold x7x
   simp[g2,g8,hec,he.one,hnN,hE2]
   generalize hm3:Mem.set m2 _ _=m3
   have g3:m3.get (0,0,2)=some (.row [s,p,f,g] 0 false):=by rw[<-hm3];simp[g2]
   have g9:m3.get (0,23,8)=some (.row [I l.length,e] 0 false):=by rw[<-hm3];simp
   obtain⟨fr,b,hB,hb',hbc⟩:=w_rUnd7 26 he hS m3
   have hAB:idxL (twC (numM l.length (nbP l.length (mP l.length (netL l P ph wt) fl (xrt l.length (xrv l.length (netL l P ph wt)) tu2)))).1) 0 (netL l P ph wt)=idxL (λe=>!(relB l.length (netL l P ph wt) fr e.fr.toNat e.to.toNat)) 0 (netL l P ph wt):=x193 (two_rel hS hB hSo)
   rw[hAB]at hA
   have hil:=x11y (λe=>!(relB l.length (netL l P ph wt) fr e.fr.toNat e.to.toNat)) (netL l P ph wt) 0
   have hnl:=xvc l P ph wt
   obtain⟨s2,p2,f2,g2',hs2,hp2,hf2,hg2,hcp2⟩:=w_Copy7 28 hs hp hf hg (by omega) (by omega) (by omega) (by omega) m3
   obtain⟨t',ht',htc⟩:=x1b1 29 ht (by omega) m3
   obtain⟨v,⟨fl2,tu3,ex3,ta,fb,rfl,hSo3,hta,hfb⟩,hbest⟩:=xtg (by simp[hs2.still1,hp2.still1,hf2.still1,hg2.still1]) (a_Best 14 hs2 hp2 hf2 hg2 (by omega) (by omega) hL.few hE hS) m3
   have hcc:=x1bu 16 hs2 hp2 hf2 hg2 ht' (by omega) (by omega) (by omega) hL.few m3
   unfold x50
   simp[g9,hbc,w_Ints 29 hA hb' (by omega),g3,hcp2,hbest,htc,hcc,hta.len xru,hf.len xru,x107,hnl,hT.lp]
   by_cases hC:pcE l P ph wt tu=0
   rotate_left
   .simp[hC]
   by_cases hCo:pcN l P ph wt tu=xub (xrt l.length (xrv l.length (netL l P ph wt)) tu3) 0 (netL l P ph wt)
   rotate_left
   .simp[hC,hCo]
   simp[hC,hCo]
   have hcE:ccE l P ph wt tu=0:=by unfold pcE at hC;simpa[hT0]using hC
   obtain⟨x,hx⟩:=cor_turns hT hE2 hcE
   have hck:=x18r hx P.length 0 (by omega)
   have hcN:pcN l P ph wt tu=xuf wt tu P.length:=by unfold pcN ccN;simp[hT0,hcE]
   rw[hcN,x18k,Int.zero_add]at hCo
   rw[x1f0,show xuf wt tu 0=0 from rfl,Int.sub_zero,hCo]at hck
   have htl:tu.length=P.length:=(ccE_ok hcE).1
   unfold xfn
   refine xsf (N:=tu.length) (σ:=Unit) (λn k _ m fc=>x4z (xr4 30) [] 0 n t a ta (I k) m fc) (λk _ m=>True) (λr=>∃m',r=some (B true,m')) ?_ ?_ NN 0 () m3 _ (by omega) (by rw[xrg];omega) trivial
   .rintro n k-m fc hk-next
    have hk':(k:Int)<(tu.length:Int):=by omega
    have hh:=λm=>w_Has 29 (x:=(k:Int)) hA (by omega) m
    have ixt:=ht.ix xrm hk
    have ldt:=λm=>xs2 (m:=m) hk
    have ixa:=hta.ix xrm (show k<(excL (xrt l.length (xrv l.length (netL l P ph wt)) tu3) (netL l P ph wt)).length by rw[x107,hnl];omega)
    have lda:=λm=>xs2 (m:=m) (show k<(excL (xrt l.length (xrv l.length (netL l P ph wt)) tu3) (netL l P ph wt)).length by rw[x107,hnl];omega)
    simp only[x4z]
    unfold x7w
    simp[ht.len xru,hk',hh]
    cases hhas:(idxL (λe=>!(relB l.length (netL l P ph wt) fr e.fr.toNat e.to.toNat)) 0 (netL l P ph wt)).any λy=>decide (y=(k:Int))with
    |true=>
     simp(disch:=omega)
     exact next () m _ trivial
    |false=>
     have hkN:k<(netL l P ph wt).length:=by omega
     have hr:=x194 (k:=0) hkN (q:=λe=>!(relB l.length (netL l P ph wt) fr e.fr.toNat e.to.toNat)) (by
      intro hm
      rw[x1ib]at hhas
      have:=hhas _ hm
      simp at this)
     have hr2:relB l.length (netL l P ph wt) fr (netL l P ph wt)[k].fr.toNat (netL l P ph wt)[k].to.toNat=true:=by simpa using hr
     have hse:=same_ex1 hS hB hSo3 hck (x1fg hkN) hr2
     have hgk:(netL l P ph wt)[k]=xuy l P ph wt k:=by simp[netL]
     have e1:at0 tu k=at0 (excL (xrt l.length (xrv l.length (netL l P ph wt)) tu3) (netL l P ph wt)) k:=by
      rw[xrn (l:=excL _ _) (by rw[x107];exact hkN)]
      simp only[excL,x1ix]
      rw[<-hse,hgk,hx k (by omega)]
     simp(disch:=omega) [ixt,ldt,ixa,lda,e1]
     exact next () m _ trivial
   .rintro n-m fc -
    simp only[x4z]
    unfold x7w xfm
    simp[ht.len xru]
end Go.Ix
