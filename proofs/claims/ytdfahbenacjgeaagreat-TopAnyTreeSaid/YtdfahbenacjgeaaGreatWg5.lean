import Derived.Test.YtdfahbenacjgeaaGreatWg4
import Derived.Test.YtdfahbenacjgeaaGreatWg3
import Derived.Test.YtdfahbenacjgeaaGreatWg0
set_option linter.unusedSimpArgs false
set_option linter.unusedVariables false
namespace Go.Ix
theorem asc_last{F:List Int}(h:Asc F){a:Int}(ha:a∈F):a<=at0 F (F.length-1):=by
 obtain⟨k,hk,rfl⟩:=x151.mp ha
 rw[xkl (by omega)]
 by_cases c:k=F.length-1
 .simp only[c];exact x165 _
 .have:=x16b.mp h k (F.length-1) hk (by omega) (by omega)
  omega
theorem xxc{l:List Scene}{P:List Pq}(h:Right7 l P){F:List Int}:∀(suf:List Int) (k:Nat),F.drop k=suf->Asc (F.take k)->For l.length P (F.take k)->forE l.length P F k suf=0->Asc F/\For l.length P F
 |[],k,hd,h1,h2,_=>by
  have:F.length<=k:=x13z.mp hd
  rw[x12g this]at h1 h2
  exact⟨h1,h2⟩
 |x::r,k,hd,h1,h2,hE=>by
  obtain⟨hk,he,hd⟩:=xmx hd
  simp only[forE]at hE
  cases c1:wi x 0 ((P.length:Int)-1)with
  |false=>simp[c1]at hE
  |true=>
   have hx:=wi_t c1
   cases c2:decide (0<k)&&decide (x<=at0 F (k-1))with
   |true=>simp[c1,c2]at hE
   |false=>
    simp only[c1,c2,x14t,cond_false]at hE
    by_cases c3:at0 (uniM l.length P (F.take k)) (prAt P x).a.toNat=at0 (uniM l.length P (F.take k)) (prAt P x).b.toNat
    .simp[c3]at hE
    .simp[c3]at hE
     have hlen:(F.take k).length=k:=by simp;omega
     have hA:Asc (F.take (k+1)):=by
      rw[x12y hk,he]
      unfold Asc
      rw[x14g]
      refine⟨h1,by simp,λa ha b hb=>?_⟩
      simp at hb
      subst hb
      have h3:=asc_last h1 ha
      rw[hlen]at h3
      have h0:0<k:=by
       cases k with
       |zero=>simp at ha
       |succ k=>omega
      have e:at0 (F.take k) (k-1)=at0 F (k-1):=by
       rw[xkl (by omega),xkl (by omega),x15n]
      rw[e]at h3
      simp[h0]at c2
      omega
     refine xxc h r (k+1) hd hA ⟨λi hi=>?_,hA.nodup,?_⟩ hE
     .rw[x12y hk,he]at hi
      rcases x136.mp hi with hi|hi
      .exact h2.rng i hi
      .simp at hi;subst hi;omega
     .rw[x12y hk,he]
      unfold prs
      rw[x13q]
      exact Indep.app.mpr ⟨h2.ind,c3,trivial⟩
theorem xxd{l:List Scene}{P:List Pq}{F:List Int}(hA:Asc F)(hF:For l.length P F):∀(suf:List Int) (k:Nat),F.drop k=suf->forE l.length P F k suf=0
 |[],_,_=>rfl
 |x::r,k,hd=>by
  obtain⟨hk,he,hd⟩:=xmx hd
  have ih:=xxd hA hF r (k+1) hd
  have hx:=hF.rng x (by rw[<-he];exact x12s hk)
  have c1:wi x 0 ((P.length:Int)-1)=true:=by
   unfold wi
   rw[x15m]
   omega
  have c2:(decide (0<k)&&decide (x<=at0 F (k-1)))=false:=by
   by_cases h0:0<k
   .have:=x16b.mp hA (k-1) k (by omega) hk (by omega)
    rw[he,<-xkl (by omega)]at this
    simp[h0];omega
   .simp[h0]
  have c3:¬at0 (uniM l.length P (F.take k)) (prAt P x).a.toNat=at0 (uniM l.length P (F.take k)) (prAt P x).b.toNat:=by
   have:=hF.ind
   rw[<-x16a (k+1) F,x12y hk,he]at this
   unfold prs at this
   rw[x13q,x13q]at this
   exact(Indep.app.mp (Indep.app.mp this).1).2.1
  rw[forE,c1,c2,x14b c3]
  exact ih
theorem xzo{l:List Scene}{P:List Pq}(h:Right7 l P){F:List Int}:xlr l.length P F=0↔Tree l.length P F:=by
 have hopen:xno l.length P F=false↔∀p∈P,Sm (joinsM (freshM l.length) (prs P F)) p.a.toNat p.b.toNat:=by
  unfold xno uniM Sm
  rw[x14j]
  simp
 unfold xlr
 constructor
 .intro hE
  by_cases c:forE l.length P F 0 F=0
  .obtain⟨h1,h2⟩:=xxc h F 0 rfl (by simp[Asc]) ⟨λi hi=>by simp at hi,by simp,by simp[prs,Indep]⟩ c
   refine⟨h2,h1,hopen.mp ?_⟩
   cases ho:xno l.length P F with
   |false=>rfl
   |true=>simp[c,ho]at hE
  .simp[c]at hE
 .intro hT
  have:=xxd hT.asc hT.fo F 0 rfl
  rw[this,hopen.mpr hT.all]
  rfl
theorem xqw(l:List Scene)(P:List Pq):∀(F:List Int) (s:Int),sumL l P s F=s+(F.map λi=>lenP l (prAt P i)).sum
 |[],s=>by simp[sumL]
 |i::r,s=>by
  rw[sumL,xqw l P r,x12p,List.sum_cons]
  omega
open Go.Proofs
theorem xxe{objs:Id->Option Ob}{id:Id}{cs:List AV}{v off k:Nat}{f:Bool}(h:objs id=some (.row cs v f)):Go.Ix.frz objs (k+1) (.ptr id v off)=((cs.drop off).mapM (Go.Ix.frz objs k)).map AV.plit:=by
 simp only[Go.Ix.frz,h,x12v]
theorem xud{objs:Id->Option Ob}{id:Id}{a a':AV}{v k:Nat}{f:Bool}(h:objs id=some (.row [a] v f))(ha:Go.Ix.frz objs k a=some a'):Go.Ix.frz objs (k+1) (.ptr id v 0)=some (.plit [a']):=by
 rw[xxe h]
 simp only[x12j,x135,x13p,ha]
 rfl
theorem frz_clo1{objs:Id->Option Ob}{f:FuncId}{a a':AV}{k:Nat}(ha:Go.Ix.frz objs k a=some a'):Go.Ix.frz objs (k+1) (.clo f [a])=some (.clo f [a']):=by
 show(([a].mapM (Go.Ix.frz objs k)).map λl=>AV.clo f l)=_
 simp only[x135,x13p,ha]
 rfl
theorem frz_two{objs:Id->Option Ob}{a b b':AV}(ha:still a=true)(hb:Go.Ix.frz objs deep b=some b'):[a,b].mapM (Go.Ix.frz objs deep)=some [a,b']:=by
 simp only[x135,x13p,hb]
 rw[show Go.Ix.frz objs deep a=some a from xmm objs 4 ha]
 rfl
def cfE(l:List Scene)(P:List Pq)(F:List Int):Int:=bif !decide ((net7 l P).2=0)then(net7 l P).2 else xlr l.length P F
def cfN(l:List Scene)(P:List Pq)(F:List Int):Int:=bif decide (cfE l P F=0)then sumL l P 0 F else 0
theorem xue:x38=[nilS,nilS]:=by kernel_rfl
theorem z_union:xf5=[nilS]:=by kernel_rfl
theorem xxf{n:Nat}{P:List Pq}{F:List Int}{k:Nat}(hk:k<F.length)(h:Rng n P (F.take k)){x:Int}(hx:F[k]=x)(h1:0<=x/\x<P.length)(h2:PqIn n (prAt P x)):Rng n P (F.take (k+1)):=by
 rw[x12y hk,hx]
 intro i hi
 rcases x136.mp hi with hi|hi
 .exact h i hi
 .simp at hi;subst hi;exact⟨h1,h2⟩
theorem xzp(d:Nat){s p f:AV}{l:List Scene}{P:List Pq}{F:List Int}(hs:Sl Scene.c s l)(hp:Sl Pq.c p P)(hf:Ints f F)(hF:F.length<=1000) :
 RetF (λv=>v=.tup [I (cfN l P F),I (cfE l P F)]) (xk2 (d+8) [] x1c [.agg [s,p],f] mem0):=by
 rw[xfp]
 unfold x9a x5b
 simp[hs.one,hp.one,mem0,xrw (d+1) hs hp]
 by_cases he:(net7 l P).2=0
 rotate_left
 .have hE:cfE l P F=(net7 l P).2:=by simp[cfE,he]
  simp[he]
  exact RetF.tup rfl (by rw[show cfN l P F=0 by simp[cfN,hE,he],hE])
 have hR:=xs7 he
 have hE:cfE l P F=xlr l.length P F:=by simp[cfE,he]
 have hN:cfN l P F=bif decide (xlr l.length P F=0)then sumL l P 0 F else 0:=by rw[cfN,hE]
 rw[hE,hN]
 obtain⟨a,M,hc,hG,hM,hfr⟩:=xu2 (d+6) (n:=l.length) (by have:=hR.ll;omega) ((⟨[],1⟩:Mem).new (0,0,2) (.row [s,p] 0 false))
 simp[he,hs.len xl8,hc,z_union]
 have hone:=hG.one
 simp[hone.1,hone.2]
 generalize hm1:Mem.set _ _ _=m1
 have hMn:M.next=2:=by rw[hM];rfl
 have hokf:∀j:Id,j.1=1->j.1<m1.next:=λj hj=>by
  have:m1.next=M.next:=by rw[<-hm1];rfl
  rw[this];omega
 have g2:m1.get (0,0,2)=some (.row [s,p] 0 false):=by
  rw[<-hm1,Mem.get_set,x12b (by simp),Mem.get_new,x12b (by simp),hfr _ (by show(0:Nat)<1;omega)]
  simp
 have g7:m1.get (0,12,7)=some (.row [a] 0 false):=by rw[<-hm1];simp
 have hG1:Gk 1 intE (λid=>id.1=1) m1 a (freshM l.length):=hG.frame λj hj=>by
  have hj':j.1=1:=hj
  rw[<-hm1,Mem.get_set,x12b (by rintro rfl;simp at hj'),Mem.get_new,x12b (by rintro rfl;simp at hj')]
 have hm1n:2<=m1.next:=by rw[<-hm1];show 2<=M.next;omega
 unfold xbk
 simp[hf.len xke]
 refine xkq (N:=F.length) (σ:=Unit) (λn k _ m fc=>x22 (xk2 (d+7)) [] 0 n f (.ptr (0,0,2) 0 0) (.ptr (0,12,7) 0 0) f (I F.length) (I k) m fc)
  (λk _ m=>(m.get (0,0,2)=some (.row [s,p] 0 false)/\m.get (0,12,7)=some (.row [a] 0 false)/\2<=m.next)/\Gk 1 intE (λid=>id.1=1) m a (uniM l.length P (F.take k))/\Rng l.length P (F.take k)/\forE l.length P F k (F.drop k)=forE l.length P F 0 F) _ ?_ ?_ NN 0 () m1 _ (by omega) (by rw[xkj];omega)
  ⟨⟨g2,g7,hm1n⟩,by simpa[uniM,prs,joinsM]using hG1,λi hi=>by simp at hi,by simp⟩
 .rintro n k-m fc hk ⟨⟨g2,g7,hmn⟩,hG,hRk,hT⟩ next
  have hk':(k:Int)<(F.length:Int):=by omega
  have ix:=hf.ix xk7 hk
  have ld:=λm=>xkn (m:=m) hk
  have hpl:=hR.pl
  have hkx:F[k]=at0 F k:=(xkl hk).symm
  rw[xl7 hk,hkx]at hT
  have hL:=(xot hRk).len
  have hus:=xuc (n:=l.length) (P:=P) hk
  simp only[forE]at hT
  simp only[x22]
  unfold x5a
  simp[hk',ix,ld,g2,hp.len xlc]
  rw[xk6 (by omega) (by omega)]
  simp[xon]
  have fin:∀e:Int,e≠0->forE l.length P F 0 F=e->xlr l.length P F=e:=λe h0 h1=>by
   unfold xlr
   rw[h1]
   simp[h0]
  cases c1:wi (at0 F k) 0 ((P.length:Int)-1)with
  |false=>
   simp[c1]at hT ⊢
   exact RetF.tup rfl (by rw[fin 6 (by omega) hT.symm];rfl)
  |true=>
   have hx:=wi_t c1
   have hq:=hR.at (i:=at0 F k) ⟨hx.1,by omega⟩
   have ip:=hp.ixz Pq.len hx.1 (show at0 F k<P.length by omega)
   have lp:=λm=>xlt (m:=m) (enc:=Pq.c) Pq.len (by omega) (show(at0 F k).toNat<P.length by omega)
   rw[<-xnn (by omega)]at lp
   have hRs:=xxf hk hRk hkx ⟨hx.1,by omega⟩ hq
   have join:(decide (0<k)&&decide (at0 F k<=at0 F (k-1)))=false->RetF (λv=>v=.tup [I (bif decide (xlr l.length P F=0)then sumL l P 0 F else 0),I (xlr l.length P F)])
    ((sLd false 1 (.ptr (0,12,7) 0 0) m).bind λt47=>(sIx 2 p (I (at0 F k))).bind λt51=>(sLd true 2 t51 m).bind λt52=>(xk2 (d+7) [] xm [t47,t52] m).bind λp53=>(sNot p53.1).bind λt54=>
      xk5 t54 (some (AV.tup [(I 0),(I 21)],p53.2)) ((sAdd (I (k:Int)) (I 1)).bind λt55=>x22 (xk2 (d+7)) [] 0 n f (.ptr (0,0,2) 0 0) (.ptr (0,12,7) 0 0) f (I F.length) t55 p53.2 (fc+37))):=λc2=>by
    rw[c1,c2]at hT
    have hq':=hq
    obtain⟨m2,e1,e2,e3,e4⟩:=c_join (d+6) [] hG (λj hj=>by have hj':j.1=1:=hj;omega) (p:=prAt P (at0 F k)) (by rw[hL];exact hq) (by rw[hL];have:=hR.ll;omega)
    simp only[Pq.c]at lp
    simp[g7,ip,lp,e1]
    by_cases c3:at0 (uniM l.length P (F.take k)) (prAt P (at0 F k)).a.toNat=at0 (uniM l.length P (F.take k)) (prAt P (at0 F k)).b.toNat
    .simp[c3]at hT ⊢
     exact RetF.tup rfl (by rw[fin 21 (by omega) hT.symm];rfl)
    .simp[c3]at hT
     simp(disch:=omega) [c3,xk6]
     refine next () m2 _ ⟨⟨?_,?_,by omega⟩,by rw[hus];exact e2,hRs,hT⟩
     .rw[e4 _ (by show ¬((0:Nat)=1);omega) (by show 0<m.next;omega)];exact g2
     .rw[e4 _ (by show ¬((0:Nat)=1);omega) (by show 0<m.next;omega)];exact g7
   by_cases h0:0<k
   .have h0':(0:Int)<(k:Int):=by omega
    have ix2:=hf.ix xk7 (show k-1<F.length by omega)
    have ld2:=λm=>xkn (m:=m) (show k-1<F.length by omega)
    have hk1:(k:Int)-1=((k-1:Nat):Int):=by omega
    simp[h0,g2]
    rw[xk6 (by omega) (by omega),hk1]
    simp[ix2,ld2,g2]
    by_cases c2:at0 F k<=at0 F (k-1)
    .simp[c1,c2,h0]at hT
     simp[c2]
     exact RetF.tup rfl (by rw[fin 9 (by omega) hT.symm];rfl)
    .simp[c2]
     have:=join (by simp[c2])
     simpa[g7,ip]using this
   .have h0':¬(0:Int)<(k:Int):=by omega
    simp[h0,g2]
    have:=join (by simp[h0])
    simpa[g7,ip]using this
 .rintro n-m fc ⟨⟨g2,g7,hmn⟩,hG,hRk,hT⟩
  have hk:¬((F.length:Int)<(F.length:Int)):=by omega
  rw[x12g (x12f _)]at hG hRk
  rw[x134 (x12f _)]at hT
  have hT0:forE l.length P F 0 F=0:=hT.symm
  have hfo:xlr l.length P F=bif xno l.length P F then 25 else 0:=by unfold xlr;simp[hT0]
  simp only[x22]
  unfold x5a xbj
  simp[g2]
  obtain⟨a',ha',hfz⟩:=hG.sl1 2
  have hlist:=frz_two (objs:=m.get) (a:=p) hp.still (frz_clo1 (f:=xx) (xud (k:=4) g7 hfz))
  obtain⟨m',hcf⟩:=xzn (d+4) (f:=xx) (caps:=[.plit [a']]) (q:=λx=>!decide (at0 (uniM l.length P F) x.a.toNat=at0 (uniM l.length P F) x.b.toNat)) hp (by have:=hR.pl;omega)
   (λx hx hs m=>a_apartPq (d+4) ha' (by rw[(xot hRk).len];exact hR.pr x hx) hs m) rfl
  obtain⟨v,m2,hv,hc,hmn2,hrow⟩:=callR (call:=xk2 (d+7)) (f:=x1i) hlist (T:=λv=>v=B (xno l.length P F)) (by rw[hcf];exact RetF.st rfl rfl)
  subst hv
  obtain⟨b',hg2⟩:=hrow _ _ _ _ g2
  simp[hc]
  cases ho:xno l.length P F with
  |true=>
   simp
   exact RetF.tup rfl (by rw[hfo,ho];rfl)
  |false=>
   simp[hg2,xue]
   have hw:=w_total (d+4) hs hp hf hR.ib hRk hF
   simp[hw,xkr,xle]
   exact RetF.tup rfl (by rw[hfo,ho];rfl)
theorem xzq(d:Nat){s p f:AV}{l:List Scene}{P:List Pq}{F:List Int}(hs:Sl Scene.c s l)(hp:Sl Pq.c p P)(hf:Ints f F)(hF:F.length<=1000)(m:Mem) :
 xk4 (xk2 (d+8)) x1c [.agg [s,p],f] m=some (.tup [I (cfN l P F),I (cfE l P F)],m):=
 xlu (by simp[hs.still1,hp.still1,hf.still]) (xzp d hs hp hf hF) m
theorem ints_pre{a:AV}{l:List Int}(h:Ints a l){k:Nat}(hk:k<=l.length)(h0:0<l.length):∃a',Ints a' (l.take k)/\xml Tryz.prog x2 a none (some (I k))=some a':=by
 rcases h with ⟨_,rfl⟩|⟨x,rfl⟩
 .simp at h0
 obtain⟨i,hi,hs⟩:=xu0
 have hl:=xo1 l
 refine⟨.slit ((l.take k).flatMap intE) (l.take k).length (x&&decide ((k:Int)=(l.length:Int))),Sl.lit _ _,?_⟩
 have e1:xks (.slit (l.flatMap intE) l.length x)=none:=_root_.id rfl
 have e2:asI (I (k:Int))=some (k:Int):=rfl
 have e3:asI (I 0)=some 0:=rfl
 unfold xml
 simp only[e1,xke,hi,Option.getD_some,Option.getD_none,e2,e3,hs,x14m,Int.sub_zero,x12t]
 rw[x12c ⟨by omega,by omega,by omega,by omega⟩,x14k,x16y hk,xo0,xo0,List.map_take]
 rfl
theorem sumL_snoc(l:List Scene)(P:List Pq){F:List Int}{k:Nat}(hk:k<F.length):sumL l P 0 (F.take (k+1))=sumL l P 0 (F.take k)+lenP l (prAt P (at0 F k)):=by
 rw[x12y hk,xqw,xqw,x13q,List.sum_append,xkl hk]
 simp
theorem xuf{l:List Scene}{P:List Pq}(hb:InB l):∀{F:List Int},Rng l.length P F->0<=sumL l P 0 F/\sumL l P 0 F<=F.length*300000
 |[],_=>by simp[sumL]
 |i::r,h=>by
  have ih:=xuf hb (F:=r) λj hj=>h j (x12l _ hj)
  have:=xq0 hb (h i (x12m ..)).2
  rw[xqw]at ih ⊢
  rw[x12p,List.sum_cons,x12x]
  omega
theorem xzr(d:Nat){s p f:AV}{l:List Scene}{P:List Pq}{F:List Int}(hs:Sl Scene.c s l)(hp:Sl Pq.c p P)(hf:Ints f F)(hF:F.length<=1000)(hR:Right7 l P) :
 RetF (λv=>v=.tup [I (bif decide (xlr l.length P F=0)then sumL l P 0 F else 0),I (xlr l.length P F)]) (xk2 (d+3) [] x1d [.agg [s,p],f] mem0):=by
 rw[xfq]
 unfold x9b x5e xbo
 simp[hs.one,hp.one,mem0]
 have hpl:=hR.pl
 have hll:=hR.ll
 refine xkq (N:=F.length) (λn k t m fc=>x3b (xk2 (d+2)) [] 0 n f (.ptr (0,0,2) 0 0) t (I k) m fc)
  (λk t m=>m.get (0,0,2)=some (.row [s,p] 0 false)/\t=I (sumL l P 0 (F.take k))/\Rng l.length P (F.take k)/\forE l.length P F k (F.drop k)=forE l.length P F 0 F) _ ?_ ?_ NN 0 (I 0) _ _ (by omega) (by rw[xkj];omega)
  ⟨by simp,by simp[sumL],λi hi=>by simp at hi,by simp⟩
 .rintro n k t m fc hk ⟨g2,rfl,hRk,hT⟩ next
  have hk':(k:Int)<(F.length:Int):=by omega
  have ix:=hf.ix xk7 hk
  have ld:=λm=>xkn (m:=m) hk
  have hkx:F[k]=at0 F k:=(xkl hk).symm
  rw[xl7 hk,hkx]at hT
  have hL:=(xot hRk).len
  have hsn:=sumL_snoc l P hk
  obtain⟨s0,s1⟩:=xuf hR.ib hRk
  have hkl:(F.take k).length=k:=by simp;omega
  rw[hkl]at s1
  simp only[forE]at hT
  simp only[x3b]
  unfold x5d
  simp[hf.len xke,hk',ix,ld,g2,hp.len xlc]
  rw[xk6 (by omega) (by omega)]
  simp[xom]
  have fin:∀e:Int,e≠0->forE l.length P F 0 F=e->xlr l.length P F=e:=λe h0 h1=>by
   unfold xlr
   rw[h1]
   simp[h0]
  cases c1:wi (at0 F k) 0 ((P.length:Int)-1)with
  |false=>
   simp[c1]at hT ⊢
   exact RetF.tup rfl (by rw[fin 6 (by omega) hT.symm];rfl)
  |true=>
   have hx:=wi_t c1
   have hq:=hR.at (i:=at0 F k) ⟨hx.1,by omega⟩
   have ip:=hp.ixz Pq.len hx.1 (show at0 F k<P.length by omega)
   have l0:=λm=>xmy (m:=m) (enc:=Pq.c) (show(at0 F k).toNat<P.length by omega) 0 rfl
   have l1:=λm=>xmy (m:=m) (enc:=Pq.c) (show(at0 F k).toNat<P.length by omega) 1 rfl
   rw[<-xnn (by omega)]at l0 l1
   simp only[x12j]at l0
   simp only[x15q]at l1
   have hRs:=xxf hk hRk hkx ⟨hx.1,by omega⟩ hq
   obtain⟨f',hf',hsl⟩:=ints_pre hf (k:=k) (by omega) (by omega)
   obtain⟨v,hv,hj⟩:=xs6 (d+1) hs hp hf' hRk hll (by omega) m
   obtain⟨q0,q1,q2⟩:=hq
   have ia:=hv.ixI xk7 (k:=(prAt P (at0 F k)).a) q0 (by rw[hL];omega)
   have ib:=hv.ixI xk7 (k:=(prAt P (at0 F k)).b) (by omega) (by rw[hL];omega)
   have la:=xkn (m:=m) (l:=uniM l.length P (F.take k)) (k:=(prAt P (at0 F k)).a.toNat) (by rw[hL];omega)
   have lb:=xkn (m:=m) (l:=uniM l.length P (F.take k)) (k:=(prAt P (at0 F k)).b.toNat) (by rw[hL];omega)
   have hlen:=xs3 d hs hp hR.ib ⟨hx.1,by omega⟩ (hR.at (i:=at0 F k) ⟨hx.1,by omega⟩) m
   have hlin:=xq0 hR.ib (hR.at (i:=at0 F k) ⟨hx.1,by omega⟩)
   have tail:(decide (0<k)&&decide (at0 F k<=at0 F (k-1)))=false ->
    (at0 (uniM l.length P (F.take k)) (prAt P (at0 F k)).a.toNat=at0 (uniM l.length P (F.take k)) (prAt P (at0 F k)).b.toNat->xlr l.length P F=21) /\
    (¬at0 (uniM l.length P (F.take k)) (prAt P (at0 F k)).a.toNat=at0 (uniM l.length P (F.take k)) (prAt P (at0 F k)).b.toNat->forE l.length P F (k+1) (F.drop (k+1))=forE l.length P F 0 F):=λc2=>by
    rw[c1,c2]at hT
    refine⟨λc3=>?_,λc3=>?_⟩
    .simp[c3]at hT
     exact fin 21 (by omega) hT.symm
    .simp[c3]at hT
     exact hT
   by_cases h0:0<k
   .have ix2:=hf.ix xk7 (show k-1<F.length by omega)
    have ld2:=λm=>xkn (m:=m) (show k-1<F.length by omega)
    have hk1:(k:Int)-1=((k-1:Nat):Int):=by omega
    simp[h0,g2,ix,ld]
    rw[xk6 (by omega) (by omega),hk1]
    simp[ix2,ld2,g2]
    by_cases c2:at0 F k<=at0 F (k-1)
    .simp[c1,c2,h0]at hT
     simp[c2]
     exact RetF.tup rfl (by rw[fin 9 (by omega) hT.symm];rfl)
    .obtain⟨t1,t2⟩:=tail (by simp[c2])
     simp[c2,hsl,hj,g2,ix,ld,ip,l0,l1,ia,ib,la,lb]
     by_cases c3:at0 (uniM l.length P (F.take k)) (prAt P (at0 F k)).a.toNat=at0 (uniM l.length P (F.take k)) (prAt P (at0 F k)).b.toNat
     .simp[c3]
      exact RetF.tup rfl (by rw[t1 c3];rfl)
     .simp[c3,g2,ix,ld,hlen,hs.clean1,hp.clean1]
      rw[xk6 (by omega) (by omega),xk6 (by omega) (by omega)]
      exact next _ m _ ⟨g2,by rw[hsn],hRs,t2 c3⟩
   .obtain⟨t1,t2⟩:=tail (by simp[h0])
    simp[h0,hsl,hj,g2,ix,ld,ip,l0,l1,ia,ib,la,lb]
    by_cases c3:at0 (uniM l.length P (F.take k)) (prAt P (at0 F k)).a.toNat=at0 (uniM l.length P (F.take k)) (prAt P (at0 F k)).b.toNat
    .simp[c3]
     exact RetF.tup rfl (by rw[t1 c3];rfl)
    .simp[c3,g2,ix,ld,hlen,hs.clean1,hp.clean1]
     rw[xk6 (by omega) (by omega),xk6 (by omega) (by omega)]
     exact next _ m _ ⟨g2,by rw[hsn],hRs,t2 c3⟩
 .rintro n t m fc ⟨g2,rfl,hRk,hT⟩
  have hk:¬((F.length:Int)<(F.length:Int)):=by omega
  rw[x12g (x12f _)]at hRk ⊢
  rw[x134 (x12f _)]at hT
  have hT0:forE l.length P F 0 F=0:=hT.symm
  have hfo:xlr l.length P F=bif xno l.length P F then 25 else 0:=by unfold xlr;simp[hT0]
  have hL:=(xot hRk).len
  obtain⟨v,hv,hj⟩:=xs6 (d+1) hs hp hf hRk hll (by omega) m
  simp only[x3b]
  unfold x5d xbn
  simp[hf.len xke,g2,hj]
  unfold xbm
  refine xkq (N:=P.length) (σ:=Unit) (λn k _ m fc=>x3a (xk2 (d+2)) [] 0 n (.ptr (0,0,2) 0 0) (I (sumL l P 0 F)) v (I k) m fc)
   (λk _ m=>m.get (0,0,2)=some (.row [s,p] 0 false)/\xno l.length P F=(P.drop k).any λp=>!decide (at0 (uniM l.length P F) p.a.toNat=at0 (uniM l.length P F) p.b.toNat)) _ ?_ ?_ NN 0 () m _ (by omega) (by rw[xkj];omega) ⟨g2,by simp[xno]⟩
  .rintro n k-m fc hk ⟨g2,ho⟩ next
   have hk':(k:Int)<(P.length:Int):=by omega
   have ip:=hp.ix Pq.len hk
   have l0:=λm=>xmy (m:=m) (enc:=Pq.c) hk 0 rfl
   have l1:=λm=>xmy (m:=m) (enc:=Pq.c) hk 1 rfl
   simp only[x12j]at l0
   simp only[x15q]at l1
   rw[xl7 hk,x14c]at ho
   obtain⟨q0,q1,q2⟩:=hR.pr P[k] (x12s hk)
   generalize P[k]=q at *
   have ia:=hv.ixI xk7 (k:=q.a) q0 (by rw[hL];omega)
   have ib:=hv.ixI xk7 (k:=q.b) (by omega) (by rw[hL];omega)
   have la:=xkn (m:=m) (l:=uniM l.length P F) (k:=q.a.toNat) (by rw[hL];omega)
   have lb:=xkn (m:=m) (l:=uniM l.length P F) (k:=q.b.toNat) (by rw[hL];omega)
   simp only[x3a]
   unfold x5c
   simp[g2,hp.len xlc,hk',ip,l0,l1,ia,ib,la,lb]
   by_cases c:at0 (uniM l.length P F) q.a.toNat=at0 (uniM l.length P F) q.b.toNat
   .simp(disch:=omega) [c,xk6]
    exact next () m _ ⟨g2,by simpa[c]using ho⟩
   .simp[c]
    simp[c]at ho
    exact RetF.tup rfl (by rw[hfo,ho];rfl)
  .rintro n-m fc ⟨g2,ho⟩
   rw[x134 (x12f _)]at ho
   simp only[x3a]
   unfold x5c xbl
   simp[g2,hp.len xlc]
   exact RetF.tup rfl (by rw[hfo,ho];rfl)
theorem xzs(d:Nat){s p f:AV}{l:List Scene}{P:List Pq}{F:List Int}(hs:Sl Scene.c s l)(hp:Sl Pq.c p P)(hf:Ints f F)(hF:F.length<=1000)(hR:Right7 l P)(m:Mem) :
 xk4 (xk2 (d+3)) x1d [.agg [s,p],f] m=some (.tup [I (bif decide (xlr l.length P F=0)then sumL l P 0 F else 0),I (xlr l.length P F)],m):=
 xlu (by simp[hs.still1,hp.still1,hf.still]) (xzr d hs hp hf hF hR) m
theorem cvt_small:∀n:Nat,n<=12->sCvt Tryz.prog xkv xdv (I n)=some (.sc (.int .u64 n))
 |0,_=>by kernel_rfl
 |1,_=>by kernel_rfl
 |2,_=>by kernel_rfl
 |3,_=>by kernel_rfl
 |4,_=>by kernel_rfl
 |5,_=>by kernel_rfl
 |6,_=>by kernel_rfl
 |7,_=>by kernel_rfl
 |8,_=>by kernel_rfl
 |9,_=>by kernel_rfl
 |10,_=>by kernel_rfl
 |11,_=>by kernel_rfl
 |12,_=>by kernel_rfl
 |n+13,h=>by omega
theorem a_Len64(call:xk3):∀n:Nat,n<=12->∃v:Int,xb1 call [] [.sc (.int .u64 n)] mem0=some (I v,⟨[],1⟩)
 |0,_=>⟨0,by kernel_rfl⟩
 |1,_=>⟨1,by kernel_rfl⟩
 |2,_=>⟨2,by kernel_rfl⟩
 |3,_=>⟨2,by kernel_rfl⟩
 |4,_=>⟨3,by kernel_rfl⟩
 |5,_=>⟨3,by kernel_rfl⟩
 |6,_=>⟨3,by kernel_rfl⟩
 |7,_=>⟨3,by kernel_rfl⟩
 |8,_=>⟨4,by kernel_rfl⟩
 |9,_=>⟨4,by kernel_rfl⟩
 |10,_=>⟨4,by kernel_rfl⟩
 |11,_=>⟨4,by kernel_rfl⟩
 |12,_=>⟨4,by kernel_rfl⟩
 |n+13,h=>by omega
theorem w_bitsLen(d:Nat){n:Nat}(hn:n<=12)(m:Mem):∃v:Int,xk4 (xk2 (d+2)) x2y [.sc (.int .u64 n)] m=some (I v,m):=by
 obtain⟨v,hv⟩:=a_Len64 (xk2 d) n hn
 have h64:∀m,xk4 (xk2 (d+1)) x33 [.sc (.int .u64 n)] m=some (I v,m):=λm=>by
  refine xlu rfl ?_ m
  rw[xhi,hv]
  exact RetF.st rfl rfl
 refine⟨v,xlu rfl ?_ m⟩
 rw[xh9]
 unfold xat x8i
 simp[mem0,h64]
 exact RetF.st rfl rfl
theorem c_Sort(d:Nat)(hs:FHs){a:AV}{ok:Id->Prop}{L:List Int}{m:Mem}(hL:L.length<=12)(hG:Gk 1 intE ok m a L) :
 ∃m',xk2 (d+5) hs x2x [a] m=some (.tup [],m')/\Gk 1 intE ok m' a (isoM (λx y=>decide (x<y)) (L.length-1) L)/\m.next<=m'.next/\xnc ok m m':=by
 rw[xh1]
 unfold xal x7x
 obtain⟨v,hv⟩:=w_bitsLen (d+2) hL (⟨m.hp,m.next+1⟩:Mem)
 simp only[hG.len xke,xka,cvt_small _ hL,hv]
 rw[xh8]
 unfold xas x8h
 obtain⟨NM,hNM⟩:∃NM,NN=NM+1:=⟨NN-1,by have:=xkj;omega⟩
 rw[hNM]
 simp only[x8g]
 unfold xel
 obtain⟨m',e1,e2,e3,e4⟩:=c_insertO d hs (L:=L) (m:=⟨m.hp,m.next+1+1⟩) (by omega) (hG.frame λ_ _=>rfl)
 have h12:(L.length:Int)<=12:=by omega
 simp[e1]
 rw[xk6 (by omega) (by omega)]
 simp[h12]
 exact⟨e2,by have:m'.next=m.next+1+1+1:=e3;omega,λj hj=>by rw[e4 j hj];rfl⟩
def fW(l:List Scene)(P:List Pq)(i:Int):Int:=lenP l (prAt P i)
theorem xzt(d:Nat){s p:AV}{l:List Scene}{P:List Pq}(hs:Sl Scene.c s l)(hp:Sl Pq.c p P)(hR:Right7 l P)(id:Id)(hid:id.1=0):Cmps (xk2 (d+3)) (.clo x1s [.ptr id 0 0]) id (.row [s,p] 0 false) P.length (λx y=>fW l P x-fW l P y):=by
 intro hh x y m x0 x1 y0 y1 hg
 refine⟨m.next+1,by omega,?_⟩
 show xk2 (d+3) hh x1s [I x,I y,.ptr id 0 0] m=_
 have hx:=hR.at (i:=x) ⟨x0,x1⟩
 have hy:=hR.at (i:=y) ⟨y0,y1⟩
 have i1:=xq0 hR.ib hx
 have i2:=xq0 hR.ib hy
 rw[xh0]
 unfold xak x7w
 have hg':(⟨m.hp,m.next+1⟩:Mem).get id=some (.row [s,p] 0 false):=hg
 obtain⟨i,j,k⟩:=id
 simp at hid
 subst hid
 have hb:Nat.ble 1 (m.next+1)=true:=by rw[Nat.ble_eq];omega
 unfold fW
 simp[hb,hg',xu4 d hs hp hR.ib ⟨x0,x1⟩ hx,xu4 d hs hp hR.ib ⟨y0,y1⟩ hy,hs.clean1,hp.clean1,cAp,tR,Nat.blt]
 rw[xk6 (by omega) (by omega)]
theorem ord_rng{f:Int->Int}{N:Nat}:InN N (ordM f N):=λx hx=>((xo3 f N).2 x).mp hx
theorem xqx(f:Int->Int)(N:Nat):(ordM f N).length=N:=by
 have:=xwy (xo3 f N).nodup (xu8 N).nodup λx=>((xo3 f N).2 x).trans fresh_mem.symm
 rw[this];simp[freshM]
theorem ord_Rng{l:List Scene}{P:List Pq}(hR:Right7 l P)(f:Int->Int)(k:Nat):Rng l.length P ((ordM f P.length).take k):=λi hi=>by
 have:=ord_rng _ (x15r hi)
 exact⟨this,hR.at this⟩
theorem xzu(d:Nat){s p:AV}{l:List Scene}{P:List Pq}(hs:Sl Scene.c s l)(hp:Sl Pq.c p P)(hR:Right7 l P)(hl:l.length<=8)(hP:P.length<=14) :
 RetF (λv=>Ints v (xl4 (fW l P) l.length P)) (xk2 (d+7) [] x1p [.agg [s,p]] mem0):=by
 rw[xgm]
 unfold xa7 x79 xdd
 simp[mem0,hs.one,hp.one,hp.len xlc]
 refine xkq (N:=P.length) (λn k a m fc=>x40 (xk2 (d+6)) [] 0 n (.ptr (0,0,1) 0 0) a nilS (I P.length) (I k) m fc)
  (λk a m=>m.get (0,0,1)=some (.row [s,p] 0 false)/\Gk 1 intE (okZ 19) m a ((freshM P.length).take k)/\m.next=1) _ ?_ ?_ NN 0 nilS _ _ (by omega) (by rw[xkj];omega) ⟨by simp,by simpa using Gk.nil,rfl⟩
 .rintro n k a m fc hk ⟨hg,hG,hn⟩ next
  have hk':(k:Int)<(P.length:Int):=by omega
  have hlt:((freshM P.length).take k).length=k:=by simp[freshM];omega
  obtain⟨a2,m2,e1,e2,-,-,e3,e4⟩:=hG.app (bytes:=8) (id0:=(0,fc+6,19)) xk7 (by omega) ⟨rfl,rfl⟩ (by unfold xkg;omega) (k:Int)
  simp only[x40]
  unfold x78
  simp(disch:=omega) [hk',xlo,xk6]
  rw[show elems m.get 1 (.slit [I (k:Int)] 1 true)=some (intE (k:Int),1)from rfl,e1]
  exact next a2 m2 _ ⟨by rw[e4 _ (by unfold okZ;simp)];exact hg,by rw[<-xpi hk];exact e2,by omega⟩
 .rintro n a m fc ⟨hg,hG,hn⟩
  have hk:¬((P.length:Int)<(P.length:Int)):=by omega
  rw[x12g (by simp[freshM])]at hG
  have hfl:(freshM P.length).length=P.length:=by simp[freshM]
  obtain⟨m1,c1,c2,c3,c4⟩:=xzm (d+3) [] (xzt d hs hp hR (0,0,1) rfl) (ok:=okZ 19) (by unfold okZ;simp) (by omega) (λx hx=>fresh_mem.mp hx) hG hg
  rw[show(λx y=>decide (fW l P x-fW l P y<0))=λx y=>decide (fW l P x<fW l P y)from by funext x y;exact decide_eq_decide.mpr (by omega),iso_ord]at c2
  have hg1:m1.get (0,0,1)=some (.row [s,p] 0 false):=by rw[c4 _ (by unfold okZ;simp)];exact hg
  obtain⟨ua,M,hc,hU,hM,hfr⟩:=xu2 (d+5) (n:=l.length) (by omega) m1
  simp only[x40]
  unfold x78 xdc
  simp[c1,hg1,hs.len xl8,hc]
  have hgM:M.get (0,0,1)=some (.row [s,p] 0 false):=by rw[hfr _ (by show 0<m1.next;omega)];exact hg1
  have hGM:Gk 1 intE (okZ 19) M a (ordM (fW l P) P.length):=c2.frame λj hj=>hfr j (by obtain⟨h1,h2⟩:=hj;omega)
  have hol:=xqx (fW l P) P.length
  unfold xdb
  simp only[hGM.len xke,xka]
  generalize hN1:m1.next=N1 at *
  have hN0:1<=N1:=by omega
  refine xkq (N:=(ordM (fW l P) P.length).length) (λn k o m fc=>x3z (xk2 (d+6)) [] 0 n (.ptr (0,0,1) 0 0) o ua a (I (ordM (fW l P) P.length).length) (I k) m fc)
   (λk o m=>(m.get (0,0,1)=some (.row [s,p] 0 false)/\N1<m.next)/\Gk 1 intE (okZ 19) m a (ordM (fW l P) P.length)/\Gk 1 intE (λid=>id.1=N1) m ua (uniM l.length P ((ordM (fW l P) P.length).take k)) /\
    Gk 1 intE (okZ 46) m o (takeM P (freshM l.length) ((ordM (fW l P) P.length).take k))) _ ?_ ?_ NN 0 nilS _ _ (by omega) (by rw[xkj];omega) ⟨⟨hgM,by omega⟩,hGM,by simpa[uniM,prs,joinsM]using hU,by simpa[takeM]using Gk.nil⟩
  .rintro n k o m fc hk ⟨⟨hg,hmn⟩,hO,hU,hT⟩ next
   have hk':(k:Int)<((ordM (fW l P) P.length).length:Int):=by omega
   obtain⟨q,i1,l1,-⟩:=hO.at (k:=(k:Int)) (by omega) hk'
   rw[x12t]at l1
   have hx:=ord_rng.get hk
   have hRk:=ord_Rng hR (fW l P) k
   have hL:=(xot hRk).len
   have hq:=hR.at hx
   have ip:=hp.ixz Pq.len hx.1 hx.2
   have lp:=λm=>xlt (m:=m) (enc:=Pq.c) Pq.len (by omega) (show(at0 (ordM (fW l P) P.length) k).toNat<P.length by omega)
   rw[<-xnn (by omega)]at lp
   have hus:=xuc (n:=l.length) (P:=P) hk
   have hts:takeM P (freshM l.length) ((ordM (fW l P) P.length).take (k+1))=takeM P (freshM l.length) ((ordM (fW l P) P.length).take k)++(if at0 (uniM l.length P ((ordM (fW l P) P.length).take k)) (prAt P (at0 (ordM (fW l P) P.length) k)).a.toNat=at0 (uniM l.length P ((ordM (fW l P) P.length).take k)) (prAt P (at0 (ordM (fW l P) P.length) k)).b.toNat then[]else[at0 (ordM (fW l P) P.length) k]):=by
    rw[x12y hk,xwv,xkl hk]
    rfl
   have htl:(takeM P (freshM l.length) ((ordM (fW l P) P.length).take k)).length<=14:=by
    have h1:=(xos (P:=P) ((ordM (fW l P) P.length).take k) (freshM l.length)).length_le
    simp at h1
    omega
   obtain⟨m2,e1,e2,e3,e4⟩:=c_join (d+5) [] hU (λj hj=>by have hj':j.1=N1:=hj;omega) (p:=prAt P (at0 (ordM (fW l P) P.length) k)) (by rw[hL];exact hq) (by rw[hL];omega)
   have keep:∀j:Id,j.1=0->m2.get j=m.get j:=λj hj=>e4 j (by show ¬j.1=N1;omega) (by omega)
   simp only[Pq.c]at lp
   simp only[x3z]
   unfold x77 xda
   have hO2:Gk 1 intE (okZ 19) m2 a (ordM (fW l P) P.length):=hO.frame λj hj=>keep j hj.1
   have hT2:Gk 1 intE (okZ 46) m2 o (takeM P (freshM l.length) ((ordM (fW l P) P.length).take k)):=hT.frame λj hj=>keep j hj.1
   have hg2:m2.get (0,0,1)=some (.row [s,p] 0 false):=by rw[keep _ rfl];exact hg
   rw[<-hus]at e2
   simp only[xkx,hk',x12o,xku,xka,i1,l1]
   simp[hg,ip,lp,e1]
   by_cases c3:at0 (uniM l.length P ((ordM (fW l P) P.length).take k)) (prAt P (at0 (ordM (fW l P) P.length) k)).a.toNat=at0 (uniM l.length P ((ordM (fW l P) P.length).take k)) (prAt P (at0 (ordM (fW l P) P.length) k)).b.toNat
   .rw[x12c c3,x13y]at hts
    simp[c3]
    unfold x4q
    simp(disch:=omega) [xk6]
    exact next o m2 _ ⟨⟨hg2,by omega⟩,hO2,e2,by rw[hts];exact hT2⟩
   .rw[x12b c3]at hts
    obtain⟨o2,m3,a1,a2,-,-,a3,a4⟩:=hT2.app (bytes:=8) (id0:=(0,fc+1+14,46)) xk7 (by omega) ⟨rfl,rfl⟩ (by unfold xkg;omega) (at0 (ordM (fW l P) P.length) k)
    simp[c3,xlo]
    rw[show ∀x:Int,elems m2.get 1 (.slit [I x] 1 true)=some (intE x,1)from λ_=>rfl,a1]
    unfold x4q
    simp(disch:=omega) [xk6]
    refine next o2 m3 _ ⟨⟨by rw[a4 _ (by unfold okZ;simp)];exact hg2,by omega⟩,hO2.frame λj hj=>a4 j (by obtain⟨h1,h2⟩:=hj;unfold okZ;omega),e2.frame λj hj=>a4 j (by have hj':j.1=N1:=hj;unfold okZ;omega),by rw[hts];exact a2⟩
  .rintro n o m fc ⟨⟨hg,hmn⟩,hO,hU,hT⟩
   rw[x12g (x12f _)]at hT
   have hTL:takeM P (freshM l.length) (ordM (fW l P) P.length)=xlj (fW l P) l.length P:=rfl
   rw[hTL]at hT
   have hlen:=(xua hR.pr (fW l P)).len hR.pr
   obtain⟨m2,e1,e2,e3,e4⟩:=c_Sort (d+1) [] (by omega) hT
   obtain⟨s1,s2⟩:=iso_asc (xx5 (n:=l.length) (P:=P) (fW l P))
   have hfin:isoM (λx y=>decide (x<y)) ((xlj (fW l P) l.length P).length-1) (xlj (fW l P) l.length P)=xl4 (fW l P) l.length P:=s1.one (xu9 _) λx=>(s2 x).trans light_mem.symm
   rw[hfin]at e2
   simp only[x3z]
   unfold x77 xd9
   simp[e1]
   obtain⟨v,h1,h2⟩:=e2.sl1 4
   exact RetF.mk h2 h1
theorem xzv(d:Nat){s p:AV}{l:List Scene}{P:List Pq}(hs:Sl Scene.c s l)(hp:Sl Pq.c p P)(hR:Right7 l P)(hl:l.length<=8)(hP:P.length<=14)(m:Mem) :
 ∃v,Ints v (xl4 (fW l P) l.length P)/\xk4 (xk2 (d+7)) x1p [.agg [s,p]] m=some (v,m):=
 xlq (by simp[hs.still1,hp.still1]) (xzu d hs hp hR hl hP) m
def bE(b:Bool):List AV:=[B b]
theorem bE_len(b:Bool):(bE b).length=1:=rfl
variable{α:Type}{z:Nat}{enc:α->List AV}
def Ow(enc:α->List AV)(m:Mem)(id:Id)(l:List α):Prop:=m.get id=some (.row (l.flatMap enc) 0 false)
theorem Ow.fr{m m':Mem}{id:Id}{l:List α}(h:Ow enc m id l)(e:m'.get id=m.get id):Ow enc m' id l:=by unfold Ow;rw[e];exact h
theorem ow_ix{id:Id}{n:Nat}{k:Int}(h0:0<=k)(h1:k<n):sIx z (.sref id 0 0 n z true) (I k)=some (.ptr id 0 (k.toNat*z)):=by
 simp[sIx,asI,h0,h1]
theorem Ow.ld(hz:∀x,(enc x).length=z){m:Mem}{id:Id}{l:List α}(h:Ow enc m id l){k:Nat}(hk:k<l.length){g:Bool}:sLd g z (.ptr id 0 (k*z)) m=rd g z (enc l[k]++(l.drop (k+1)).flatMap enc):=by
 rw[ld_ptr h,xtm hz,xl7 hk,x139]
theorem Ow.ldS(hz:∀x,(enc x).length=z){m:Mem}{id:Id}{l:List α}(h:Ow enc m id l){k:Nat}(hk:k<l.length):sLd true z (.ptr id 0 (k*z)) m=some (.agg (enc l[k])):=by
 rw[h.ld hz hk,rd_t,x13e (by simp[hz]),x163 (by rw[hz];exact x12f _),x12g (by rw[hz];exact x12f _)]
 rfl
theorem xxg(hz:∀x,(enc x).length=z)(x:α):∀(l:List α) (k:Nat),k<l.length->xkz (l.flatMap enc) (k*z) (enc x)=(l.set k x).flatMap enc
 |[],_,h=>by simp at h
 |y::r,0,_=>by
  simp only[xkz,x14e,x13c,x14u,x14y,List.set_cons_zero,x139]
  rw[hz,<-hz y,x174 (x12f _),x134 (x12f _),x14y]
 |y::r,k+1,h=>by
  have ih:=xxg hz x r k (by simpa using h)
  simp only[xkz,List.set_cons_succ,x139]at ih ⊢
  rw[x13g,show k*z+z=(enc y).length+k*z by rw[hz];omega,x175,x13r,x164,x14z,<-ih]
  have e:(enc y).length+(k*z+(enc x).length)-(enc y).length=k*z+(enc x).length:=by omega
  rw[e,x134 (by omega),x14y]
theorem Ow.st(hz:∀x,(enc x).length=z){m:Mem}{id:Id}{l:List α}(h:Ow enc m id l){k:Nat}(hk:k<l.length){x:α}{v:AV}(hv:v.cells=enc x)(h1:(enc x).all AV.one=true) :
 (∀{R:Type} (K:Mem->Option R),sSt z (.ptr id 0 (k*z)) v m K=K (m.set id (.row ((l.set k x).flatMap enc) 0 false)))/\Ow enc (m.set id (.row ((l.set k x).flatMap enc) 0 false)) id (l.set k x):=by
 refine⟨λK=>?_,by unfold Ow;simp⟩
 have hl:=xme hz l
 rw[st_ptr (z:=z) (x:=v) (k:=K) h (by rw[hv,hz]) (by rw[hl];have:=x13t z (show k+1<=l.length from hk);rw[x13g]at this;exact this) (by rw[hv];exact h1),hv,xxg hz x l k hk]
theorem zeros_c{z:List AV}{c:AV}(hc:∀i,i<z.length->z.getD i (.sc undef)=c)(h0:0<z.length)(k:Nat):xld z k=List.replicate k c:=by
 unfold xld
 apply x15p
 .simp
 .intro i h1 h2
  simp only[x167,List.getElem_range,List.getElem_replicate]
  exact hc _ (Nat.mod_lt _ h0)
theorem rep_flat(n:Nat)(c:AV)(x:α)(hx:enc x=List.replicate z c):(List.replicate n x).flatMap enc=List.replicate (n*z) c:=by
 induction n with
 |zero=>simp
 |succ n ih=>
  rw[List.replicate_succ,x139,ih,hx,x13g,x15t,List.replicate_append_replicate]
theorem mkSl_c{R:Type}{zc:List AV}{c:AV}{bytes:Nat}(hb:bytes<=64)(hzl:zc.length=z)(hc:∀i,i<zc.length->zc.getD i (.sc undef)=c)(h0:0<zc.length){x:α}(hx:enc x=List.replicate z c){n:Nat}(hn:n<=1000000)(id:Id)(m:Mem)(k:AV->Mem->Option R) :
 xmw zc z bytes (I n) (I n) id m k=k (.sref id 0 0 n z true) (m.new id (.row ((List.replicate n x).flatMap enc) 0 false)):=by
 have h1:bytes*n<=64*1000000:=x15e hb hn
 simp only[xmw,asI]
 rw[x12c ⟨by omega,x165 _,by omega,by omega⟩,zeros_c hc h0,rep_flat n c x hx]
 simp
theorem zb_b7:x4l=[B false]:=by kernel_rfl
theorem mkSl_b{R:Type}{n:Nat}(hn:n<=1000000)(id:Id)(m:Mem)(k:AV->Mem->Option R):xmw x4l 1 1 (I n) (I n) id m k=k (.sref id 0 0 n 1 true) (m.new id (.row ((List.replicate n false).flatMap bE) 0 false)):=
 mkSl_c (enc:=bE) (c:=B false) (by omega) (by rw[zb_b7];rfl) (by rw[zb_b7];intro i hi;simp at hi;subst hi;rfl) (by rw[zb_b7];simp) rfl hn id m k
theorem mkSl_i{R:Type}{n:Nat}(hn:n<=1000000)(id:Id)(m:Mem)(k:AV->Mem->Option R):xmw xly 1 8 (I n) (I n) id m k=k (.sref id 0 0 n 1 true) (m.new id (.row ((List.replicate n (0:Int)).flatMap intE) 0 false)):=
 mkSl_c (enc:=intE) (c:=I 0) (by omega) (by rw[xlo];rfl) (by rw[xlo];intro i hi;simp at hi;subst hi;rfl) (by rw[xlo];simp) rfl hn id m k
theorem xug:xh=[I 0,I 0]:=by kernel_rfl
theorem mkSl_s{R:Type}{n:Nat}(hn:n<=1000000)(id:Id)(m:Mem)(k:AV->Mem->Option R):xmw xh 2 16 (I n) (I n) id m k=k (.sref id 0 0 n 2 true) (m.new id (.row ((List.replicate n (⟨0,0⟩:Sp)).flatMap Sp.c) 0 false)):=
 mkSl_c (enc:=Sp.c) (c:=I 0) (by omega) (by rw[xug];rfl) (by
  rw[xug];intro i hi
  match i,hi with
  |0,_=>rfl
  |1,_=>rfl
  |i+2,h=>simp at h;omega) (by rw[xug];simp) rfl hn id m k
theorem Ow.ldB{m:Mem}{id:Id}{l:List Bool}(h:Ow bE m id l){k:Int}(h0:0<=k)(hk:k<l.length):sLd false 1 (.ptr id 0 k.toNat) m=some (B (l.getD k.toNat false)):=by
 have h1:k.toNat<l.length:=by omega
 have:=h.ld bE_len h1 (g:=false)
 rw[x14m]at this
 rw[this,x12n,x12z h1]
 rfl
theorem Ow.ldI{m:Mem}{id:Id}{l:List Int}(h:Ow intE m id l){k:Int}(h0:0<=k)(hk:k<l.length):sLd false 1 (.ptr id 0 k.toNat) m=some (I (at0 l k.toNat)):=by
 have h1:k.toNat<l.length:=by omega
 have:=h.ld xk7 h1 (g:=false)
 rw[x14m]at this
 rw[this,xkl h1]
 rfl
theorem xnp{id:Id}{n:Nat}{k:Int}(h0:0<=k)(h1:k<n):sIx 1 (.sref id 0 0 n 1 true) (I k)=some (.ptr id 0 k.toNat):=by
 simpa using ow_ix (z:=1) (id:=id) h0 h1
theorem Ow.st1{g:α->AV}(he:∀x,enc x=[g x]){m:Mem}{id:Id}{l:List α}(h:Ow enc m id l){k:Int}(h0:0<=k)(hk:k<l.length){x:α}(hc:(g x).cells=[g x])(h1:(g x).one=true) :
 (∀{R:Type} (K:Mem->Option R),sSt 1 (.ptr id 0 k.toNat) (g x) m K=K (m.set id (.row ((l.set k.toNat x).flatMap enc) 0 false)))/\Ow enc (m.set id (.row ((l.set k.toNat x).flatMap enc) 0 false)) id (l.set k.toNat x):=by
 have:=h.st (z:=1) (λx=>by rw[he];rfl) (k:=k.toNat) (by omega) (x:=x) (v:=g x) (by rw[hc,he]) (by rw[he];simp[h1])
 simpa using this
theorem l_Has(d:Nat)(hs:FHs){a:AV}{l:List Int}{x:Int}(h:Ints a l)(hl:l.length<=1000000)(u:Nat):∀(suf:List Int) (k j:Nat) (m:Mem) (fc:Nat),l.drop k=suf->suf.length<j ->
 x48 (xk2 d) hs u j a (I x) (I k) m fc=some (B (suf.any λy=>decide (y=x)),m):=by
 intro suf
 induction suf with
 |nil=>
  intro k j m fc hd hj
  obtain⟨j,rfl⟩:∃i,j=i+1:=⟨j-1,by simp at hj;omega⟩
  have hk:¬((k:Int)<(l.length:Int)):=by have:=x13z.mp hd;omega
  simp only[x48]
  unfold x8r
  simp[h.len xke,hk,xes]
 |cons y r ih=>
  intro k j m fc hd hj
  obtain⟨j,rfl⟩:∃i,j=i+1:=⟨j-1,by simp at hj;omega⟩
  obtain⟨hk,hke,hd⟩:=xmx hd
  have hk':(k:Int)<(l.length:Int):=by omega
  have ix:=h.ix xk7 hk
  have e1:at0 l k=y:=by rw[xkl hk,hke]
  have ih':=ih (k+1) j m (fc+13) hd (by simp at hj;omega)
  simp only[x48,x14c]
  unfold x8r
  by_cases c:y=x
  .simp(disch:=omega) [h.len xke,hk',ix,xkn,e1,c]
  .simp(disch:=omega) [h.len xke,hk',ix,xkn,e1,c]
   simpa using ih'
theorem w_Has(d:Nat){a:AV}{l:List Int}{x:Int}(h:Ints a l)(hl:l.length<=1000000)(m:Mem):xk4 (xk2 (d+1)) x10 [a,I x] m=some (B (l.any λy=>decide (y=x)),m):=by
 refine Ans.call0 ?_ (by simp[h.still]) rfl
 unfold Ans
 refine⟨⟨[],1⟩,?_⟩
 rw[xhe]
 exact l_Has d [] h hl 0 l 0 NN ⟨[],1⟩ 2 rfl (by rw[xkj];omega)
def GkF(ok:Id->Prop)(m:Mem)(a:AV)(l:List Int):Prop:=(a=nilS/\l=[])\/∃id ver b,ok id/\a=.sref id ver 0 l.length 1 true/\m.get id=some (.row (l.flatMap intE) ver b)
theorem Gk.toF{ok:Id->Prop}{m:Mem}{a:AV}{l:List Int}(h:Gk 1 intE ok m a l):GkF ok m a l:=by
 rcases h with h|⟨id,ver,h1,h2,h3⟩
 .exact .inl h
 .exact .inr ⟨id,ver,false,h1,h2,h3⟩
theorem GkF.frame{ok:Id->Prop}{m m':Mem}{a:AV}{l:List Int}(h:GkF ok m a l)(hm:∀id,ok id->m'.get id=m.get id):GkF ok m' a l:=by
 rcases h with h|⟨id,ver,b,h0,h1,h2⟩
 .exact Or.inl h
 .exact Or.inr ⟨id,ver,b,h0,h1,by rw[hm _ h0];exact h2⟩
theorem xxh(objs:Id->Option Ob)(k:Nat):∀l:List Int,(l.flatMap intE).flatMap (xkh objs k)=[]
 |[]=>rfl
 |x::r=>by
  rw[x139,List.flatMap_append,xxh objs k r]
  cases k<;>rfl
theorem w_HasF(d:Nat){ok:Id->Prop}{m:Mem}{a:AV}{l:List Int}{x:Int}(h:GkF ok m a l)(hl:l.length<=1000000) :
 ∃m2,xk4 (xk2 (d+1)) x10 [a,I x] m=some (B (l.any λy=>decide (y=x)),m2)/\GkF ok m2 a l/\m2.next=m.next/\xnc ok m m2:=by
 rcases h with ⟨rfl,rfl⟩|⟨id,ver,b,h0,rfl,hg⟩
 .exact⟨m,w_Has d (Or.inl ⟨rfl,rfl⟩) (by simp) m,.inl ⟨rfl,rfl⟩,rfl,λ_ _=>rfl⟩
 .have hfl:=xo1 l
  obtain⟨a',ha',hfz⟩:∃a',Ints a' l/\Go.Ix.frz m.get deep (.sref id ver 0 l.length 1 true)=some a':=by
   refine⟨.slit (l.flatMap intE) l.length false,Sl.lit l false,?_⟩
   have:=xol (objs:=m.get) (id:=id) (cs:=l.flatMap intE) (ver:=ver) (off:=0) (n:=l.length) (z:=1) (k:=4) (f:=b) (x:=true) hg (by omega) (by
    rw[x12j,x12g (by omega)];exact xny xm5 l)
   rw[x12j,x12g (by omega)]at this
   exact this
  have hw:=w_Has d (x:=x) ha' hl mem0
  have hl2:[a',I x].mapM (Go.Ix.frz mem0.get deep)=some [a',I x]:=xrk _ (by simp[ha'.still])
  unfold xk4 at hw ⊢
  rw[hl2]at hw
  rw[show[AV.sref id ver 0 l.length 1 true,I x].mapM (Go.Ix.frz m.get deep)=some [a',I x]from by simp only[x135,x13p,hfz];rfl]
  simp only at hw ⊢
  cases hc:xk2 (d+1) [] x10 [a',I x] mem0 with
  |none=>rw[hc]at hw;cases hw
  |some r=>
   obtain⟨r,m'⟩:=r
   rw[hc]at hw
   simp only[x12i,x12d]at hw
   obtain⟨v,hv,rfl,-⟩:=hw
   have hr:[AV.sref id ver 0 l.length 1 true,I x].flatMap (xkh m.get deep)=[id]:=by
    have h1:xkh m.get deep (.sref id ver 0 l.length 1 true)=[id]:=by
     show(match m.get id with
      |some (.row cs _ _)=>id::((cs.drop 0).take (l.length*1)).flatMap (xkh m.get 5)
      |_=>[id])=[id]
     rw[hg]
     simp only[x12j]
     rw[x12g (by omega),xxh]
    simp only[x139,List.flatMap_nil,h1]
    rfl
   have hm2:∀j,(⟨xn9 [id] m.hp,m.next⟩:Mem).get j=shut [id] m.get j:=λj=>congrFun (xri [id] m.hp) j
   refine⟨⟨xn9 [id] m.hp,m.next⟩,?_,.inr ⟨id,ver,true,h0,rfl,?_⟩,rfl,λj hj=>?_⟩
   .simp only[hv,hr]
    rfl
   .rw[hm2];unfold shut;rw[x12c (by simp),hg]
   .rw[hm2];unfold shut;rw[x12b (by simp;rintro rfl;exact hj h0)]
def BestI(f:Int->Int)(S:List Int)(i:Nat)(b:Int):Prop:=(b=-1/\∀j:Nat,j<i->(j:Int)∈S)\/((0<=b/\b<i)/\b∉S/\∀j:Nat,j<i->(j:Int)∉S->(j:Int)=b\/lx f b j)
theorem BestI.in_{f:Int->Int}{S:List Int}{i:Nat}{b:Int}(h:BestI f S i b)(hi:(i:Int)∈S):BestI f S (i+1) b:=by
 rcases h with ⟨h1,h2⟩|⟨h1,h2,h3⟩
 .refine .inl ⟨h1,λj hj=>?_⟩
  by_cases c:j=i
  .rw[c];exact hi
  .exact h2 j (by omega)
 .refine .inr ⟨by omega,h2,λj hj hn=>?_⟩
  by_cases c:j=i
  .rw[c]at hn;exact absurd hi hn
  .exact h3 j (by omega) hn
theorem BestI.take_{f:Int->Int}{S:List Int}{i:Nat}{b:Int}(h:BestI f S i b)(hi:(i:Int)∉S)(hc:b<0\/f i<f b):BestI f S (i+1) i:=by
 refine .inr ⟨by omega,hi,λj hj hn=>?_⟩
 by_cases c:j=i
 .exact .inl (by rw[c])
 .right
  rcases h with ⟨h1,h2⟩|⟨h1,h2,h3⟩
  .exact absurd (h2 j (by omega)) hn
  .have hfb:f i<f b:=hc.resolve_left (by omega)
   rcases h3 j (by omega) hn with e|e
   .rw[e];exact .inl hfb
   .unfold lx at *;omega
theorem BestI.leave{f:Int->Int}{S:List Int}{i:Nat}{b:Int}(h:BestI f S i b)(hi:(i:Int)∉S)(hb:0<=b)(hc:¬f i<f b):BestI f S (i+1) b:=by
 rcases h with ⟨h1,h2⟩|⟨h1,h2,h3⟩
 .omega
 .refine .inr ⟨by omega,h2,λj hj hn=>?_⟩
  by_cases c:j=i
  .right;rw[c];unfold lx;omega
  .exact h3 j (by omega) hn
theorem BestI.fin{f:Int->Int}{N:Nat}{k:Nat}{b:Int}(h:BestI f ((ordM f N).take k) N b)(hk:k<N):b=at0 (ordM f N) k:=by
 have hl:=xqx f N
 have hO:=xo3 f N
 have hkl:k<(ordM f N).length:=by omega
 have hx:=(InN.get (ord_rng (f:=f) (N:=N)) hkl)
 have hnd:=hO.nodup
 have hxn:at0 (ordM f N) k∉(ordM f N).take k:=λhm=>by
  obtain⟨j,hj,e⟩:=x151.mp hm
  rw[x15n,xkl hkl]at e
  simp at hj
  exact x16b.mp hnd j k (by omega) hkl (by omega) e
 rcases h with ⟨h1,h2⟩|⟨h1,h2,h3⟩
 .have:=h2 (at0 (ordM f N) k).toNat (by omega)
  rw[x13i hx.1]at this
  exact absurd this hxn
 .have h4:=h3 (at0 (ordM f N) k).toNat (by omega) (by rw[x13i hx.1];exact hxn)
  rw[x13i hx.1]at h4
  rcases h4 with e|e
  .exact e.symm
  .have hb:b∈ordM f N:=(hO.2 b).mpr h1
   rw[<-x16a k (ordM f N),x136]at hb
   have hb2:=hb.resolve_left h2
   rw[xl7 hkl,x12q]at hb2
   rcases hb2 with e2|e2
   .rw[xkl hkl];exact e2
   .have hs:=hO.1
    rw[<-x16a k (ordM f N),xl7 hkl]at hs
    have:=(x140.mp (x14g.mp hs).2.1).1 b e2
    rw[xkl hkl]at e
    exact(lx_asym _ _ this e).elim
end Go.Ix
