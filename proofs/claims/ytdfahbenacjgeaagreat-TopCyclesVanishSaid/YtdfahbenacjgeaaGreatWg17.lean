import Derived.Test.YtdfahbenacjgeaaGreatWg16
import Derived.Test.YtdfahbenacjgeaaGreatWg15
import Derived.Test.YtdfahbenacjgeaaGreatWg14
import Derived.Test.YtdfahbenacjgeaaGreatWg5
import Derived.Test.YtdfahbenacjgeaaGreatWg2
import Derived.Test.YtdfahbenacjgeaaGreatWg13
set_option linter.unusedSimpArgs false
set_option linter.unusedVariables false
namespace Go.Ix
open Go.Proofs
def ClassC(n u:Nat)(ev:AV)(M:Nat->List Int)(m:Mem):Prop:=
 m.get (0,0,1)=some (.row [I n,ev] 0 false)/\∃A,m.get (0,5,4)=some (.row [A] 0 false)/\(n=0\/∃id ver cs,id.1=0/\A=.sref id ver 0 n 1 true/\m.get id=some (.row cs ver false)/\cs.length=n /\
  ∀(v:Nat) (hv:v<cs.length),∃i:Id,i.1<u/\cs[v]=srI i n/\m.get i=some (.row ((M v).flatMap intE) 0 false))
theorem ClassC.frame{n u:Nat}{ev:AV}{M:Nat->List Int}{m m':Mem}(hu:0<u)(h:ClassC n u ev M m)(hm:∀id:Id,id.1<u->m'.get id=m.get id):ClassC n u ev M m':=by
 obtain⟨h1,A,h2,h3⟩:=h
 refine⟨by rw[hm _ hu];exact h1,A,by rw[hm _ hu];exact h2,?_⟩
 rcases h3 with h3|⟨id,ver,cs,a,b,c,d,e⟩
 .exact Or.inl h3
 .refine Or.inr ⟨id,ver,cs,a,b,by rw[hm _ (by omega)];exact c,d,λv hv=>?_⟩
  obtain⟨i,i1,i2,i3⟩:=e v hv
  exact⟨i,i1,i2,by rw[hm _ i1];exact i3⟩
theorem ClassC.rd{n u:Nat}{ev:AV}{M:Nat->List Int}{m:Mem}(h:ClassC n u ev M m)(hMl:∀v,v<n->(M v).length=n)(hn:0<n):∃A,m.get (0,5,4)=some (.row [A] 0 false)/\∀a,a<n->∃p x,
 sIx 1 A (I (a:Nat))=some p/\sLd false 1 p m=some x/\∀b,b<n->∃q,sIx 1 x (I (b:Nat))=some q/\sLd false 1 q m=some (I (at0 (M a) b)):=by
 obtain⟨-,A,h2,h3⟩:=h
 rcases h3 with h3|⟨id,ver,cs,ha0,rfl,c,d,e⟩
 .omega
 refine⟨_,h2,λa ha=>?_⟩
 obtain⟨i,i1,i2,i3⟩:=e a (by omega)
 refine⟨.ptr id ver a,cs[a]'(by omega),?_,?_,λb hb=>?_⟩
 .simp[sIx,asI,ha]
 .rw[xsv,c,xt1,x1gd,xsr]
  exact x108 (by omega)
 .rw[i2]
  refine⟨.ptr i 0 b,by simpa using xtu (id:=i) (n:=n) (k:=(b:Int)) (by omega) (by omega),?_⟩
  rw[xsv,i3]
  exact xum (by rw[hMl a ha];exact hb)
theorem Way.app{z:List (Edge×Int)}{u v w:Nat}{c d:Int}(h1:Way z u v c)(h2:Way z v w d):Way z u w (c+d):=by
 induction h2 with
 |nil=>rw[Int.add_zero];exact h1
 |cons _ ha ih=>rw[<-Int.add_assoc];exact ih.cons ha
theorem z_ints7:xtr=[I 0]:=by kernel_rfl
theorem x10d{l:List Scene}{P:List Pq}{ph wt:List Int}(h:nfE l P ph wt=0):taskE l P ph wt=0/\nofE l P ph=0/\nfN l P ph wt=l.length/\nfL l P ph wt=netL l P ph wt:=by
 unfold nfE at h
 by_cases c:taskE l P ph wt=0
 .simp[c]at h
  exact⟨c,h,by simp[nfN,nofN,c,h],by simp[nfL,nofL,c,h]⟩
 .simp[c]at h
def excL(T:List Int)(N:List Edge):List Int:=N.map (exF (at0 T))
theorem xxu(T:List Int)(N:List Edge):(excL T N).length=N.length:=by simp[excL]
theorem exc_take{T:List Int}{N:List Edge}{k:Nat}(hk:k<N.length):excL T (N.take (k+1))=excL T (N.take k)++[exF (at0 T) N[k]]:=by
 unfold excL
 rw[x1gz hk,x1hr]
 rfl
def CoR(n:Nat)(l:List Edge)(v:AV):Prop:=∃fl tu ex a b,v=.tup [a,b,I (xvd (xu4 n (xu8 n l) tu) 0 l),I 0]/\Solved 20 n l fl tu ex/\Ints a (excL (xu4 n (xu8 n l) tu) l)/\Ints b fl
theorem x19x{objs:Id->Option Ob}{a b c d a' b' c' d':AV}(ha:frz objs 5 a=some a')(hb:frz objs 5 b=some b')(hc:frz objs 5 c=some c')(hd:frz objs 5 d=some d'):frz objs deep (.tup [a,b,c,d])=some (.tup [a',b',c',d']):=by
 show([a,b,c,d].mapM (frz objs 5)).map AV.tup=_
 simp only[x1gw,x1hd,ha,hb,hc,hd]
 rfl
theorem a_Best(d:Nat){s p f g:AV}{l:List Scene}{P:List Pq}{ph wt:List Int}(hs:Sl Scene.c s l)(hp:Sl Pq.c p P)(hf:Ints f ph)(hg:Ints g wt)(h1:ph.length<1000000)(h2:wt.length<1000000)(hfw:few7 l P=true)(hE:nfE l P ph wt=0)(hS:Slim 20 l.length (netL l P ph wt)) :
 RetF (CoR l.length (netL l P ph wt)) (xsi (d+16) [] x29 [.agg [s,p,f,g]] mem0):=by
 obtain⟨hE1,hE2,hN,hL⟩:=x10d hE
 have hT:=xxs hE1
 have hck:=x19w (wt:=wt) hT hE2
 rw[xli]
 unfold x7o x6q
 generalize hm1:(⟨[],1⟩:Mem).new (0,0,1) (.row [s,p,f,g] 0 false)=m1
 have g1:m1.get (0,0,1)=some (.row [s,p,f,g] 0 false):=by rw[<-hm1];simp
 obtain⟨e,he,hec⟩:=x15m d hs hp hf hg h1 h2 hfw m1
 rw[hL]at he
 simp[mem0,hs.one,hp.one,hf.one,hg.one,hm1,g1,hec,hE,hN,xwt,he.one]
 generalize hm2:Mem.set _ _ _=m2
 have g4:m2.get (0,10,6)=some (.row [I l.length,e] 0 false):=by rw[<-hm2];simp
 obtain⟨fl,tu,ex,hSo,hnc⟩:=x1cw (d+7) he (by rw[hck]) hS m2
 simp[g4,hnc]
 generalize hnet:netL l P ph wt=N at *
 have hNl:N.length<=17:=hS.ll
 have hfl:fl.length=N.length:=hSo.f.fll
 have htb:=hSo.turns (by omega)
 have htl:(xu4 l.length (xu8 l.length N) tu).length=l.length:=by simp[xu4]
 generalize hq:xu4 l.length (xu8 l.length N) tu=q at *
 have hqs:Ints (.slit (q.flatMap intE) l.length false) q:=by rw[<-htl];exact Sl.lit q false
 have hfs:Ints (.slit (fl.flatMap intE) N.length false) fl:=by rw[<-hfl];exact Sl.lit fl false
 unfold xgn
 simp[g4,he.len xwo]
 refine xtd (N:=N.length) (λn k t11 m fc=>x56 (xsi (d+15)) [] 0 n (.slit (q.flatMap intE) l.length false) (.slit (fl.flatMap intE) N.length false) (I (xvd q 0 N)) t11 e (I N.length) (I k) m fc) (λk t11 m=>Gr 1 intE 0 55 m t11 (excL q (N.take k))) _ ?_ ?_ NN 0 nilS m2 _ (by omega) (by rw[xsu];omega) (by simpa[excL]using Gr.nil)
 .rintro n k t11 m fc hk hG next
  have hk':(k:Int)<(N.length:Int):=by omega
  obtain⟨⟨f0,f1,t0,t1,-⟩,-⟩:=hS.ed N[k] (x1go hk)
  have hjw:=hS.jw N[k] (x1go hk)
  have ix:=he.ix Edge.len hk
  have ld:=λm=>xtz (m:=m) Edge.len (by omega) hk
  have hts:=exc_take (T:=q) hk
  have hlen:(excL q (N.take k)).length<=17:=by rw[xxu,x1ia];omega
  generalize N[k]=x at *
  have ia:=hqs.ixI xt2 f0 (by omega)
  have ib:=hqs.ixI xt2 t0 (by omega)
  have la:=λm=>xte (m:=m) (l:=q) (k:=x.fr.toNat) (by omega)
  have lb:=λm=>xte (m:=m) (l:=q) (k:=x.to.toNat) (by omega)
  have b1:=htb x.fr.toNat
  have b2:=htb x.to.toNat
  have hx:exF (at0 q) x=at0 q x.to.toNat-at0 q x.fr.toNat+x.jump:=rfl
  simp only[x56]
  unfold x84
  simp only[Edge.c]at ld
  simp[hk',ix,ld,x15l]
  generalize hm3:Mem.set _ _ _=m3
  have e3:∀j:Id,j.2.2≠13->m3.get j=m.get j:=λj hj=>by
   rw[<-hm3,Mem.get_set,x1g6 (by rintro rfl;exact hj rfl),Mem.get_new,x1g6 (by rintro rfl;exact hj rfl)]
  have q9:m3.get (0,fc+3,13)=some (.row [I x.fr,I x.to,I x.jump,I x.wt] 0 false):=by rw[<-hm3];simp
  have hG3:Gr 1 intE 0 55 m3 t11 (excL q (N.take k)):=hG.frame λs=>e3 _ (by simp)
  obtain⟨a',m4,k1,k2,k3,k4⟩:=hG3.app (s0:=fc+21) (bytes:=8) xt2 (by omega) (by unfold xt6;omega) (exF (at0 q) x)
  have hel:∀(M:Mem) (y:Int),elems M.get 1 (.slit [I y] 1 true)=some (intE y,1):=λ_ _=>rfl
  simp(disch:=omega) [q9,ia,ib,la,lb,z_ints7,hel]
  rw[<-hx,k1]
  exact next a' m4 _ (by rw[hts];exact k2)
 .rintro n t11 m fc hG
  rw[x1jk]at hG
  simp only[x56]
  unfold x84 xgm
  simp
  obtain⟨a',f1,f2⟩:=hG.frzk (k:=3) xt2 xvc
  exact RetF.mk (T:=CoR l.length N) (x19x f2 (xuh _ 3 hfs.still) (xzw (k:=4)) (xzw (k:=4))) ⟨fl,tu,ex,a',_,by rw[hq],hSo,by rw[hq];exact f1,hfs⟩
theorem w_Best0(d:Nat){s p f g:AV}{l:List Scene}{P:List Pq}{ph wt:List Int}(hs:Sl Scene.c s l)(hp:Sl Pq.c p P)(hf:Ints f ph)(hg:Ints g wt)(h1:ph.length<1000000)(h2:wt.length<1000000)(hfw:few7 l P=true)(hE:nfE l P ph wt≠0)(m:Mem) :
 xsl (xsi (d+16)) x29 [.agg [s,p,f,g]] m=some (.tup [nilS,nilS,I 0,I (nfE l P ph wt)],m):=by
 refine xua (by simp[hs.still1,hp.still1,hf.still1,hg.still1]) ?_ m
 rw[xli]
 unfold x7o x6q
 generalize hm1:(⟨[],1⟩:Mem).new (0,0,1) (.row [s,p,f,g] 0 false)=m1
 have g1:m1.get (0,0,1)=some (.row [s,p,f,g] 0 false):=by rw[<-hm1];simp
 obtain⟨e,he,hec⟩:=x15m d hs hp hf hg h1 h2 hfw m1
 simp[mem0,hs.one,hp.one,hf.one,hg.one,hm1,g1,hec,hE,xwt,he.one]
 exact RetF.mk (T:=λv=>v=.tup [nilS,nilS,I 0,I (nfE l P ph wt)]) (x19x rfl rfl rfl rfl) rfl
def Br7(l:List Scene)(P:List Pq)(ph wt:List Int):Prop:=Lt7 l P ph wt/\(nfE l P ph wt=0->Slim 20 l.length (netL l P ph wt))
def IsBr(l:List Scene)(P:List Pq)(ph wt:List Int)(v:AV):Prop:=∃b,v=B b/\(b=true->Br7 l P ph wt)
theorem slim7{l:List Scene}{P:List Pq}{ph wt:List Int}(hL:Lt7 l P ph wt)(hE:taskE l P ph wt=0)(hE2:nofE l P ph=0)(hj:∀e∈netL l P ph wt,e.jump.natAbs<=20):Slim 20 l.length (netL l P ph wt):=by
 have hT:=xxs hE
 obtain⟨l8,p14⟩:=x10b hL.few hT.r
 refine⟨by omega,by omega,by omega,by rw[xx9];omega,λe he=>?_,λe he=>?_⟩
 .obtain⟨h1,h2⟩:=x15n hT hE2 e he
  exact⟨h1,by omega⟩
 .have h1:=hj e he
  refine⟨by omega,by omega,?_⟩
  unfold netL at he
  obtain⟨k,hk,rfl⟩:=x1gs.mp he
  have hk2:k<P.length:=by simpa using hk
  exact(hL.c hE k (by rw[hT.lp];exact hk2)).1
theorem w_brief7(d:Nat){s p f g:AV}{l:List Scene}{P:List Pq}{ph wt:List Int}(hs:Sl Scene.c s l)(hp:Sl Pq.c p P)(hf:Ints f ph)(hg:Ints g wt)(m:Mem) :
 ∃b,(b=true->Br7 l P ph wt)/\xsl (xsi (d+7)) x2e [.agg [s,p,f,g]] m=some (B b,m):=by
 suffices key:RetF (IsBr l P ph wt) (xsi (d+7) [] x2e [.agg [s,p,f,g]] mem0) by
  obtain⟨v,⟨b,rfl,h⟩,hc⟩:=xu6 (by simp[hs.still1,hp.still1,hf.still1,hg.still1]) key m
  exact⟨b,h,hc⟩
 have no:∀m,RetF (IsBr l P ph wt) (some (B false,m)):=λm=>RetF.st rfl ⟨false,rfl,λh=>by cases h⟩
 rw[xmf]
 unfold xdy x8k
 generalize hm1:(⟨[],1⟩:Mem).new (0,0,1) (.row [s,p,f,g] 0 false)=m1
 have g1:m1.get (0,0,1)=some (.row [s,p,f,g] 0 false):=by rw[<-hm1];simp
 obtain⟨bl,hbl,hlc⟩:=w_light7 d hs hp hf hg m1
 simp[mem0,hs.one,hp.one,hf.one,hg.one,hm1,g1,hlc]
 cases bl with
 |false=>simp;exact no m1
 |true=>
  have hL:=hbl rfl
  have ha:=hL.a
  have hb:=hL.b
  have yes:(nfE l P ph wt=0->∀e∈netL l P ph wt,e.jump.natAbs<=20)->∀m,RetF (IsBr l P ph wt) (some (B true,m)):=λh m=>RetF.st rfl ⟨true,rfl,λ_=>⟨hL,λhE=>slim7 hL (x10d hE).1 (x10d hE).2.1 (h hE)⟩⟩
  simp[g1,x12l (d+1) hs hp hf hg (by omega) (by omega)]
  by_cases hE:taskE l P ph wt=0
  rotate_left
  .simp[hE]
   exact yes (λh=>absurd (x10d h).1 hE) m1
  have hT:=xxs hE
  obtain⟨e,he,hec⟩:=w_rNetOf7 d hs hp hf hg hT m1
  simp[hE,g1,hec,xwt,he.one]
  generalize hm2:Mem.set _ _ _=m2
  have g3:m2.get (0,13,3)=some (.row [I (nofN l P ph wt),e] 0 false):=by rw[<-hm2];simp
  by_cases hE2:nofE l P ph=0
  rotate_left
  .simp[hE2]
   exact yes (λh=>absurd (x10d h).2.1 hE2) m2
  simp[hE2]
  unfold xh2
  have hN:nofL l P ph wt=netL l P ph wt:=by unfold nofL;simp[hE2]
  rw[hN]at he
  have hmem:=x15n (wt:=wt) hT hE2
  have hle:=xx9 l P ph wt
  obtain⟨l8,p14⟩:=x10b hL.few hT.r
  generalize hnet:netL l P ph wt=N at *
  refine xtd (N:=N.length) (σ:=Unit) (λn k _ m fc=>x5d (xsi (d+6)) [] 0 n (.ptr (0,13,3) 0 0) (I k) m fc) (λk _ m=>m=m2/\∀e∈N.take k,e.jump.natAbs<=20) _ ?_ ?_ NN 0 () m2 _ (by omega) (by rw[xsu];omega) ⟨rfl,by simp⟩
  .rintro n k-m fc hk ⟨hm,hI⟩ next
   rw[hm]
   have hk':(k:Int)<(N.length:Int):=by omega
   have ix:=he.ix Edge.len hk
   have lj:=λm=>xy8 (enc:=Edge.c) (m:=m) (l:=N) hk 2 (v:=I (N[k]).jump) rfl
   obtain⟨-,-,-,-,b1,b2,-⟩:=(hmem N[k] (x1go hk)).1
   have hts:=x1gz hk
   generalize N[k]=x at *
   have hsz:=λm=>w_Size (d+5) x.jump m (by omega) (by omega)
   simp only[x5d]
   unfold x8j
   simp(disch:=omega) [g3,he.len xwo,hk',ix,lj,hsz]
   by_cases c:20<(x.jump.natAbs:Int)
   .simp[c]
    exact no m2
   .simp[c]
    refine next () m2 _ ⟨rfl,λy hy=>?_⟩
    rw[hts]at hy
    rcases x1h2.mp hy with hy|hy
    .exact hI y hy
    .simp at hy;subst hy;omega
  .rintro n-m fc ⟨hm,hI⟩
   rw[hm]
   rw[x1jk]at hI
   simp only[x5d]
   unfold x8j xh1
   simp[g3,he.len xwo]
   exact yes (λ_=>by first|exact hI|(rw[hnet];exact hI)) m2
def nmF(ls:List Int)(k:Nat):List Int×Int:=(List.range k).foldl (nmS ls) (List.replicate ls.length 0,0)
structure PtI (ls:List Int) (k:Nat) (E:List (Int×Int)):Prop where
 len:(nmF ls k).1.length=ls.length
 cnt:(nmF ls k).2=(E.length:Int)
 le:E.length<=k
 get:∀v:Nat,v<ls.length->lkp E v=if v<k/\at0 ls v=v then some (at0 (nmF ls k).1 v)else none
theorem PtI.nil(ls:List Int):PtI ls 0 []:=⟨by simp[nmF],by simp[nmF],by simp,λv _=>by simp[lkp]⟩
end Go.Ix
