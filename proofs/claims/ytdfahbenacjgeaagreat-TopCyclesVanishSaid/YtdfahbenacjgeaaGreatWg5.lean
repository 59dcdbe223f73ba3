import Derived.Test.YtdfahbenacjgeaaGreatWg4
import Derived.Test.YtdfahbenacjgeaaGreatWg3
import Derived.Test.YtdfahbenacjgeaaGreatWg0
set_option linter.unusedSimpArgs false
set_option linter.unusedVariables false
namespace Go.Ix
theorem asc_last{F:List Int}(h:Asc F){a:Int}(ha:a∈F):a<=at0 F (F.length-1):=by
 obtain⟨k,hk,rfl⟩:=x1is.mp ha
 rw[xt5 (by omega)]
 by_cases c:k=F.length-1
 .simp only[c];exact x1ho _
 .have:=x1kp.mp h k (F.length-1) hk (by omega) (by omega)
  omega
theorem x18m{l:List Scene}{P:List Pq}(h:Right7 l P){F:List Int}:∀(suf:List Int) (k:Nat),F.drop k=suf->Asc (F.take k)->For l.length P (F.take k)->forE l.length P F k suf=0->Asc F/\For l.length P F
 |[],k,hd,h1,h2,_=>by
  have:F.length<=k:=x1ha.mp hd
  rw[x1gg this]at h1 h2
  exact⟨h1,h2⟩
 |x::r,k,hd,h1,h2,hE=>by
  obtain⟨hk,he,hd⟩:=xul hd
  simp only[forE]at hE
  cases c1:wi x 0 ((P.length:Int)-1)with
  |false=>simp[c1]at hE
  |true=>
   have hx:=wi_t c1
   cases c2:decide (0<k)&&decide (x<=at0 F (k-1))with
   |true=>simp[c1,c2]at hE
   |false=>
    simp only[c1,c2,x1jh,cond_false]at hE
    by_cases c3:at0 (uniM l.length P (F.take k)) (prAt P x).a.toNat=at0 (uniM l.length P (F.take k)) (prAt P x).b.toNat
    .simp[c3]at hE
    .simp[c3]at hE
     have hlen:(F.take k).length=k:=by simp;omega
     have hA:Asc (F.take (k+1)):=by
      rw[x1gz hk,he]
      unfold Asc
      rw[x1j0]
      refine⟨h1,by simp,λa ha b hb=>?_⟩
      simp at hb
      subst hb
      have h3:=asc_last h1 ha
      rw[hlen]at h3
      have h0:0<k:=by
       cases k with
       |zero=>simp at ha
       |succ k=>omega
      have e:at0 (F.take k) (k-1)=at0 F (k-1):=by
       rw[xt5 (by omega),xt5 (by omega),x1jt]
      rw[e]at h3
      simp[h0]at c2
      omega
     refine x18m h r (k+1) hd hA ⟨λi hi=>?_,hA.nodup,?_⟩ hE
     .rw[x1gz hk,he]at hi
      rcases x1h2.mp hi with hi|hi
      .exact h2.rng i hi
      .simp at hi;subst hi;omega
     .rw[x1gz hk,he]
      unfold prs
      rw[x1hr]
      exact Indep.app.mpr ⟨h2.ind,c3,trivial⟩
theorem x18n{l:List Scene}{P:List Pq}{F:List Int}(hA:Asc F)(hF:For l.length P F):∀(suf:List Int) (k:Nat),F.drop k=suf->forE l.length P F k suf=0
 |[],_,_=>rfl
 |x::r,k,hd=>by
  obtain⟨hk,he,hd⟩:=xul hd
  have ih:=x18n hA hF r (k+1) hd
  have hx:=hF.rng x (by rw[<-he];exact x1go hk)
  have c1:wi x 0 ((P.length:Int)-1)=true:=by
   unfold wi
   rw[x1il]
   omega
  have c2:(decide (0<k)&&decide (x<=at0 F (k-1)))=false:=by
   by_cases h0:0<k
   .have:=x1kp.mp hA (k-1) k (by omega) hk (by omega)
    rw[he,<-xt5 (by omega)]at this
    simp[h0];omega
   .simp[h0]
  have c3:¬at0 (uniM l.length P (F.take k)) (prAt P x).a.toNat=at0 (uniM l.length P (F.take k)) (prAt P x).b.toNat:=by
   have:=hF.ind
   rw[<-x1k9 (k+1) F,x1gz hk,he]at this
   unfold prs at this
   rw[x1hr,x1hr]at this
   exact(Indep.app.mp (Indep.app.mp this).1).2.1
  rw[forE,c1,c2,x1ib c3]
  exact ih
theorem x1c3{l:List Scene}{P:List Pq}(h:Right7 l P){F:List Int}:xwq l.length P F=0↔Tree l.length P F:=by
 have hopen:xz5 l.length P F=false↔∀p∈P,Sm (joinsM (freshM l.length) (prs P F)) p.a.toNat p.b.toNat:=by
  unfold xz5 uniM Sm
  rw[x1ir]
  simp
 unfold xwq
 constructor
 .intro hE
  by_cases c:forE l.length P F 0 F=0
  .obtain⟨h1,h2⟩:=x18m h F 0 rfl (by simp[Asc]) ⟨λi hi=>by simp at hi,by simp,by simp[prs,Indep]⟩ c
   refine⟨h2,h1,hopen.mp ?_⟩
   cases ho:xz5 l.length P F with
   |false=>rfl
   |true=>simp[c,ho]at hE
  .simp[c]at hE
 .intro hT
  have:=x18n hT.asc hT.fo F 0 rfl
  rw[this,hopen.mpr hT.all]
  rfl
theorem x14x(l:List Scene)(P:List Pq):∀(F:List Int) (s:Int),sumL l P s F=s+(F.map λi=>lenP l (prAt P i)).sum
 |[],s=>by simp[sumL]
 |i::r,s=>by
  rw[sumL,x14x l P r,x1gt,List.sum_cons]
  omega
open Go.Proofs
theorem x14y{objs:Id->Option Ob}{id:Id}{cs:List AV}{v off k:Nat}{f:Bool}(h:objs id=some (.row cs v f)):Go.Ix.frz objs (k+1) (.ptr id v off)=((cs.drop off).mapM (Go.Ix.frz objs k)).map AV.plit:=by
 simp only[Go.Ix.frz,h,x1gp]
theorem x12j{objs:Id->Option Ob}{id:Id}{a a':AV}{v k:Nat}{f:Bool}(h:objs id=some (.row [a] v f))(ha:Go.Ix.frz objs k a=some a'):Go.Ix.frz objs (k+1) (.ptr id v 0)=some (.plit [a']):=by
 rw[x14y h]
 simp only[x1g8,x1gw,x1hd,ha]
 rfl
theorem frz_clo1{objs:Id->Option Ob}{f:FuncId}{a a':AV}{k:Nat}(ha:Go.Ix.frz objs k a=some a'):Go.Ix.frz objs (k+1) (.clo f [a])=some (.clo f [a']):=by
 show(([a].mapM (Go.Ix.frz objs k)).map λl=>AV.clo f l)=_
 simp only[x1gw,x1hd,ha]
 rfl
theorem frz_two{objs:Id->Option Ob}{a b b':AV}(ha:still a=true)(hb:Go.Ix.frz objs deep b=some b'):[a,b].mapM (Go.Ix.frz objs deep)=some [a,b']:=by
 simp only[x1gw,x1hd,hb]
 rw[show Go.Ix.frz objs deep a=some a from xuh objs 4 ha]
 rfl
def cfE(l:List Scene)(P:List Pq)(F:List Int):Int:=bif !decide ((net7 l P).2=0)then(net7 l P).2 else xwq l.length P F
def cfN(l:List Scene)(P:List Pq)(F:List Int):Int:=bif decide (cfE l P F=0)then sumL l P 0 F else 0
theorem x104:x1n=[nilS,nilS]:=by kernel_rfl
theorem z_union:xlm=[nilS]:=by kernel_rfl
theorem rng_snoc{n:Nat}{P:List Pq}{F:List Int}{k:Nat}(hk:k<F.length)(h:Rng n P (F.take k)){x:Int}(hx:F[k]=x)(h1:0<=x/\x<P.length)(h2:PqIn n (prAt P x)):Rng n P (F.take (k+1)):=by
 rw[x1gz hk,hx]
 intro i hi
 rcases x1h2.mp hi with hi|hi
 .exact h i hi
 .simp at hi;subst hi;exact⟨h1,h2⟩
theorem x1c4(d:Nat){s p f:AV}{l:List Scene}{P:List Pq}{F:List Int}(hs:Sl Scene.c s l)(hp:Sl Pq.c p P)(hf:Ints f F)(hF:F.length<=1000) :
 RetF (λv=>v=.tup [I (cfN l P F),I (cfE l P F)]) (xsi (d+8) [] x27 [.agg [s,p],f] mem0):=by
 rw[xm7]
 unfold xdq x81
 simp[hs.one,hp.one,mem0,x111 (d+1) hs hp]
 by_cases he:(net7 l P).2=0
 rotate_left
 .have hE:cfE l P F=(net7 l P).2:=by simp[cfE,he]
  simp[he]
  exact RetF.tup rfl (by rw[show cfN l P F=0 by simp[cfN,hE,he],hE])
 have hR:=x116 he
 have hE:cfE l P F=xwq l.length P F:=by simp[cfE,he]
 have hN:cfN l P F=bif decide (xwq l.length P F=0)then sumL l P 0 F else 0:=by rw[cfN,hE]
 rw[hE,hN]
 obtain⟨a,M,hc,hG,hM,hfr⟩:=x14l (d+6) (n:=l.length) (by have:=hR.ll;omega) ((⟨[],1⟩:Mem).new (0,0,2) (.row [s,p] 0 false))
 simp[he,hs.len xtt,hc,z_union]
 have hone:=hG.one
 simp[hone.1,hone.2]
 generalize hm1:Mem.set _ _ _=m1
 have hMn:M.next=2:=by rw[hM];rfl
 have hokf:∀j:Id,j.1=1->j.1<m1.next:=λj hj=>by
  have:m1.next=M.next:=by rw[<-hm1];rfl
  rw[this];omega
 have g2:m1.get (0,0,2)=some (.row [s,p] 0 false):=by
  rw[<-hm1,Mem.get_set,x1g6 (by simp),Mem.get_new,x1g6 (by simp),hfr _ (by show(0:Nat)<1;omega)]
  simp
 have g7:m1.get (0,12,7)=some (.row [a] 0 false):=by rw[<-hm1];simp
 have hG1:Gk 1 intE (λid=>id.1=1) m1 a (freshM l.length):=hG.frame λj hj=>by
  have hj':j.1=1:=hj
  rw[<-hm1,Mem.get_set,x1g6 (by rintro rfl;simp at hj'),Mem.get_new,x1g6 (by rintro rfl;simp at hj')]
 have hm1n:2<=m1.next:=by rw[<-hm1];show 2<=M.next;omega
 unfold xgj
 simp[hf.len xt8]
 refine xtd (N:=F.length) (σ:=Unit) (λn k _ m fc=>x3a (xsi (d+7)) [] 0 n f (.ptr (0,0,2) 0 0) (.ptr (0,12,7) 0 0) f (I F.length) (I k) m fc)
  (λk _ m=>(m.get (0,0,2)=some (.row [s,p] 0 false)/\m.get (0,12,7)=some (.row [a] 0 false)/\2<=m.next)/\Gk 1 intE (λid=>id.1=1) m a (uniM l.length P (F.take k))/\Rng l.length P (F.take k)/\forE l.length P F k (F.drop k)=forE l.length P F 0 F) _ ?_ ?_ NN 0 () m1 _ (by omega) (by rw[xsu];omega)
  ⟨⟨g2,g7,hm1n⟩,by simpa[uniM,prs,joinsM]using hG1,λi hi=>by simp at hi,by simp⟩
 .rintro n k-m fc hk ⟨⟨g2,g7,hmn⟩,hG,hRk,hT⟩ next
  have hk':(k:Int)<(F.length:Int):=by omega
  have ix:=hf.ix xt2 hk
  have ld:=λm=>xte (m:=m) hk
  have hpl:=hR.pl
  have hkx:F[k]=at0 F k:=(xt5 hk).symm
  rw[xtm hk,hkx]at hT
  have hL:=(x103 hRk).len
  have hus:=x14v (n:=l.length) (P:=P) hk
  simp only[forE]at hT
  simp only[x3a]
  unfold x80
  simp[hk',ix,ld,g2,hp.len xu7]
  rw[xso (by omega) (by omega)]
  simp[xy9]
  have fin:∀e:Int,e≠0->forE l.length P F 0 F=e->xwq l.length P F=e:=λe h0 h1=>by
   unfold xwq
   rw[h1]
   simp[h0]
  cases c1:wi (at0 F k) 0 ((P.length:Int)-1)with
  |false=>
   simp[c1]at hT ⊢
   exact RetF.tup rfl (by rw[fin 6 (by omega) hT.symm];rfl)
  |true=>
   have hx:=wi_t c1
   have hq:=hR.at (i:=at0 F k) ⟨hx.1,by omega⟩
   have ip:=hp.ixz Pq.len hx.1 (show at0 F k<P.length by omega)
   have lp:=λm=>xtz (m:=m) (enc:=Pq.c) Pq.len (by omega) (show(at0 F k).toNat<P.length by omega)
   rw[<-xxq (by omega)]at lp
   have hRs:=rng_snoc hk hRk hkx ⟨hx.1,by omega⟩ hq
   have join:(decide (0<k)&&decide (at0 F k<=at0 F (k-1)))=false->RetF (λv=>v=.tup [I (bif decide (xwq l.length P F=0)then sumL l P 0 F else 0),I (xwq l.length P F)])
    ((sLd false 1 (.ptr (0,12,7) 0 0) m).bind λt47=>(sIx 2 p (I (at0 F k))).bind λt51=>(sLd true 2 t51 m).bind λt52=>(xsi (d+7) [] x14 [t47,t52] m).bind λp53=>(sNot p53.1).bind λt54=>
      xsk t54 (some (AV.tup [(I 0),(I 21)],p53.2)) ((sAdd (I (k:Int)) (I 1)).bind λt55=>x3a (xsi (d+7)) [] 0 n f (.ptr (0,0,2) 0 0) (.ptr (0,12,7) 0 0) f (I F.length) t55 p53.2 (fc+37))):=λc2=>by
    rw[c1,c2]at hT
    have hq':=hq
    obtain⟨m2,e1,e2,e3,e4⟩:=c_join (d+6) [] hG (λj hj=>by have hj':j.1=1:=hj;omega) (p:=prAt P (at0 F k)) (by rw[hL];exact hq) (by rw[hL];have:=hR.ll;omega)
    simp only[Pq.c]at lp
    simp[g7,ip,lp,e1]
    by_cases c3:at0 (uniM l.length P (F.take k)) (prAt P (at0 F k)).a.toNat=at0 (uniM l.length P (F.take k)) (prAt P (at0 F k)).b.toNat
    .simp[c3]at hT ⊢
     exact RetF.tup rfl (by rw[fin 21 (by omega) hT.symm];rfl)
    .simp[c3]at hT
     simp(disch:=omega) [c3,xso]
     refine next () m2 _ ⟨⟨?_,?_,by omega⟩,by rw[hus];exact e2,hRs,hT⟩
     .rw[e4 _ (by show ¬((0:Nat)=1);omega) (by show 0<m.next;omega)];exact g2
     .rw[e4 _ (by show ¬((0:Nat)=1);omega) (by show 0<m.next;omega)];exact g7
   by_cases h0:0<k
   .have h0':(0:Int)<(k:Int):=by omega
    have ix2:=hf.ix xt2 (show k-1<F.length by omega)
    have ld2:=λm=>xte (m:=m) (show k-1<F.length by omega)
    have hk1:(k:Int)-1=((k-1:Nat):Int):=by omega
    simp[h0,g2]
    rw[xso (by omega) (by omega),hk1]
    simp[ix2,ld2,g2]
    by_cases c2:at0 F k<=at0 F (k-1)
    .simp[c1,c2,h0]at hT
     simp[c2]
     exact RetF.tup rfl (by rw[fin 9 (by omega) hT.symm];rfl)
    .simp[c2]
     have:=join (by simp[c2])
     simpa[g7,ip]using this
   .have h0':¬(0:Int)<(k:Int):=by omega
    simp[h0,g2]
    have:=join (by simp[h0])
    simpa[g7,ip]using this
 .rintro n-m fc ⟨⟨g2,g7,hmn⟩,hG,hRk,hT⟩
  have hk:¬((F.length:Int)<(F.length:Int)):=by omega
  rw[x1gg (x1ga _)]at hG hRk
  rw[x1h5 (x1ga _)]at hT
  have hT0:forE l.length P F 0 F=0:=hT.symm
  have hfo:xwq l.length P F=bif xz5 l.length P F then 25 else 0:=by unfold xwq;simp[hT0]
  simp only[x3a]
  unfold x80 xgi
  simp[g2]
  obtain⟨a',ha',hfz⟩:=hG.sl1 2
  have hlist:=frz_two (objs:=m.get) (a:=p) hp.still (frz_clo1 (f:=x1i) (x12j (k:=4) g7 hfz))
  obtain⟨m',hcf⟩:=x1c2 (d+4) (f:=x1i) (caps:=[.plit [a']]) (q:=λx=>!decide (at0 (uniM l.length P F) x.a.toNat=at0 (uniM l.length P F) x.b.toNat)) hp (by have:=hR.pl;omega)
   (λx hx hs m=>a_apartPq (d+4) ha' (by rw[(x103 hRk).len];exact hR.pr x hx) hs m) rfl
  obtain⟨v,m2,hv,hc,hmn2,hrow⟩:=callR (call:=xsi (d+7)) (f:=x2g) hlist (T:=λv=>v=B (xz5 l.length P F)) (by rw[hcf];exact RetF.st rfl rfl)
  subst hv
  obtain⟨b',hg2⟩:=hrow _ _ _ _ g2
  simp[hc]
  cases ho:xz5 l.length P F with
  |true=>
   simp
   exact RetF.tup rfl (by rw[hfo,ho];rfl)
  |false=>
   simp[hg2,x104]
   have hw:=w_total (d+4) hs hp hf hR.ib hRk hF
   simp[hw,xsw,xtj]
   exact RetF.tup rfl (by rw[hfo,ho];rfl)
theorem x1c5(d:Nat){s p f:AV}{l:List Scene}{P:List Pq}{F:List Int}(hs:Sl Scene.c s l)(hp:Sl Pq.c p P)(hf:Ints f F)(hF:F.length<=1000)(m:Mem) :
 xsl (xsi (d+8)) x27 [.agg [s,p],f] m=some (.tup [I (cfN l P F),I (cfE l P F)],m):=
 xua (by simp[hs.still1,hp.still1,hf.still]) (x1c4 d hs hp hf hF) m
theorem sumL_in{l:List Scene}{P:List Pq}(hb:InB l):∀{F:List Int},Rng l.length P F->0<=sumL l P 0 F/\sumL l P 0 F<=F.length*300000
 |[],_=>by simp[sumL]
 |i::r,h=>by
  have ih:=sumL_in hb (F:=r) λj hj=>h j (x1ge _ hj)
  have:=x114 hb (h i (x1gf ..)).2
  rw[x14x]at ih ⊢
  rw[x1gt,List.sum_cons,x1gq]
  omega
theorem cvt_small:∀n:Nat,n<=12->sCvt Tryz.prog xtg xe (I n)=some (.sc (.int .u64 n))
 |0,_=>by kernel_rfl
 |1,_=>by kernel_rfl
 |2,_=>by kernel_rfl
 |3,_=>by kernel_rfl
 |4,_=>by kernel_rfl
 |5,_=>by kernel_rfl
 |6,_=>by kernel_rfl
 |7,_=>by kernel_rfl
 |8,_=>by kernel_rfl
 |9,_=>by kernel_rfl
 |10,_=>by kernel_rfl
 |11,_=>by kernel_rfl
 |12,_=>by kernel_rfl
 |n+13,h=>by omega
theorem a_Len64(call:xsj):∀n:Nat,n<=12->∃v:Int,xg2 call [] [.sc (.int .u64 n)] mem0=some (I v,⟨[],1⟩)
 |0,_=>⟨0,by kernel_rfl⟩
 |1,_=>⟨1,by kernel_rfl⟩
 |2,_=>⟨2,by kernel_rfl⟩
 |3,_=>⟨2,by kernel_rfl⟩
 |4,_=>⟨3,by kernel_rfl⟩
 |5,_=>⟨3,by kernel_rfl⟩
 |6,_=>⟨3,by kernel_rfl⟩
 |7,_=>⟨3,by kernel_rfl⟩
 |8,_=>⟨4,by kernel_rfl⟩
 |9,_=>⟨4,by kernel_rfl⟩
 |10,_=>⟨4,by kernel_rfl⟩
 |11,_=>⟨4,by kernel_rfl⟩
 |12,_=>⟨4,by kernel_rfl⟩
 |n+13,h=>by omega
theorem w_bitsLen(d:Nat){n:Nat}(hn:n<=12)(m:Mem):∃v:Int,xsl (xsi (d+2)) x4r [.sc (.int .u64 n)] m=some (I v,m):=by
 obtain⟨v,hv⟩:=a_Len64 (xsi d) n hn
 have h64:∀m,xsl (xsi (d+1)) x4x [.sc (.int .u64 n)] m=some (I v,m):=λm=>by
  refine xua rfl ?_ m
  rw[xot,hv]
  exact RetF.st rfl rfl
 refine⟨v,xua rfl ?_ m⟩
 rw[xoh]
 unfold xft xch
 simp[mem0,h64]
 exact RetF.st rfl rfl
theorem c_Sort(d:Nat)(hs:FHs){a:AV}{ok:Id->Prop}{L:List Int}{m:Mem}(hL:L.length<=12)(hG:Gk 1 intE ok m a L) :
 ∃m',xsi (d+5) hs x4n [a] m=some (.tup [],m')/\Gk 1 intE ok m' a (isoM (λx y=>decide (x<y)) (L.length-1) L)/\m.next<=m'.next/\xwp ok m m':=by
 rw[xo0]
 unfold xfg xbb
 obtain⟨v,hv⟩:=w_bitsLen (d+2) hL (⟨m.hp,m.next+1⟩:Mem)
 simp only[hG.len xt8,xsn,cvt_small _ hL,hv]
 rw[xog]
 unfold xfs xcg
 obtain⟨NM,hNM⟩:∃NM,NN=NM+1:=⟨NN-1,by have:=xsu;omega⟩
 rw[hNM]
 simp only[xcf]
 unfold xki
 obtain⟨m',e1,e2,e3,e4⟩:=c_insertO d hs (L:=L) (m:=⟨m.hp,m.next+1+1⟩) (by omega) (hG.frame λ_ _=>rfl)
 have h12:(L.length:Int)<=12:=by omega
 simp[e1]
 rw[xso (by omega) (by omega)]
 simp[h12]
 exact⟨e2,by have:m'.next=m.next+1+1+1:=e3;omega,λj hj=>by rw[e4 j hj];rfl⟩
def fW(l:List Scene)(P:List Pq)(i:Int):Int:=lenP l (prAt P i)
theorem x1c6(d:Nat){s p:AV}{l:List Scene}{P:List Pq}(hs:Sl Scene.c s l)(hp:Sl Pq.c p P)(hR:Right7 l P)(id:Id)(hid:id.1=0):Cmps (xsi (d+3)) (.clo x2x [.ptr id 0 0]) id (.row [s,p] 0 false) P.length (λx y=>fW l P x-fW l P y):=by
 intro hh x y m x0 x1 y0 y1 hg
 refine⟨m.next+1,by omega,?_⟩
 show xsi (d+3) hh x2x [I x,I y,.ptr id 0 0] m=_
 have hx:=hR.at (i:=x) ⟨x0,x1⟩
 have hy:=hR.at (i:=y) ⟨y0,y1⟩
 have i1:=x114 hR.ib hx
 have i2:=x114 hR.ib hy
 rw[xnz]
 unfold xff xba
 have hg':(⟨m.hp,m.next+1⟩:Mem).get id=some (.row [s,p] 0 false):=hg
 obtain⟨i,j,k⟩:=id
 simp at hid
 subst hid
 have hb:Nat.ble 1 (m.next+1)=true:=by rw[Nat.ble_eq];omega
 unfold fW
 simp[hb,hg',x14n d hs hp hR.ib ⟨x0,x1⟩ hx,x14n d hs hp hR.ib ⟨y0,y1⟩ hy,hs.clean1,hp.clean1,cAp,tR,Nat.blt]
 rw[xso (by omega) (by omega)]
theorem ord_rng{f:Int->Int}{N:Nat}:InN N (ordM f N):=λx hx=>((xxr f N).2 x).mp hx
theorem x117(f:Int->Int)(N:Nat):(ordM f N).length=N:=by
 have:=x187 (xxr f N).nodup (x14s N).nodup λx=>((xxr f N).2 x).trans fresh_mem.symm
 rw[this];simp[freshM]
theorem ord_Rng{l:List Scene}{P:List Pq}(hR:Right7 l P)(f:Int->Int)(k:Nat):Rng l.length P ((ordM f P.length).take k):=λi hi=>by
 have:=ord_rng _ (x1j3 hi)
 exact⟨this,hR.at this⟩
theorem x1c7(d:Nat){s p:AV}{l:List Scene}{P:List Pq}(hs:Sl Scene.c s l)(hp:Sl Pq.c p P)(hR:Right7 l P)(hl:l.length<=8)(hP:P.length<=14) :
 RetF (λv=>Ints v (xu0 (fW l P) l.length P)) (xsi (d+7) [] x2n [.agg [s,p]] mem0):=by
 rw[xnc]
 unfold xeu xa9 xim
 simp[mem0,hs.one,hp.one,hp.len xu7]
 refine xtd (N:=P.length) (λn k a m fc=>x5x (xsi (d+6)) [] 0 n (.ptr (0,0,1) 0 0) a nilS (I P.length) (I k) m fc)
  (λk a m=>m.get (0,0,1)=some (.row [s,p] 0 false)/\Gk 1 intE (okZ 19) m a ((freshM P.length).take k)/\m.next=1) _ ?_ ?_ NN 0 nilS _ _ (by omega) (by rw[xsu];omega) ⟨by simp,by simpa using Gk.nil,rfl⟩
 .rintro n k a m fc hk ⟨hg,hG,hn⟩ next
  have hk':(k:Int)<(P.length:Int):=by omega
  have hlt:((freshM P.length).take k).length=k:=by simp[freshM];omega
  obtain⟨a2,m2,e1,e2,-,-,e3,e4⟩:=hG.app (bytes:=8) (id0:=(0,fc+6,19)) xt2 (by omega) ⟨rfl,rfl⟩ (by unfold xt6;omega) (k:Int)
  simp only[x5x]
  unfold xa8
  simp(disch:=omega) [hk',xu3,xso]
  rw[show elems m.get 1 (.slit [I (k:Int)] 1 true)=some (intE (k:Int),1)from rfl,e1]
  exact next a2 m2 _ ⟨by rw[e4 _ (by unfold okZ;simp)];exact hg,by rw[<-xxp hk];exact e2,by omega⟩
 .rintro n a m fc ⟨hg,hG,hn⟩
  have hk:¬((P.length:Int)<(P.length:Int)):=by omega
  rw[x1gg (by simp[freshM])]at hG
  have hfl:(freshM P.length).length=P.length:=by simp[freshM]
  obtain⟨m1,c1,c2,c3,c4⟩:=x1c1 (d+3) [] (x1c6 d hs hp hR (0,0,1) rfl) (ok:=okZ 19) (by unfold okZ;simp) (by omega) (λx hx=>fresh_mem.mp hx) hG hg
  rw[show(λx y=>decide (fW l P x-fW l P y<0))=λx y=>decide (fW l P x<fW l P y)from by funext x y;exact decide_eq_decide.mpr (by omega),iso_ord]at c2
  have hg1:m1.get (0,0,1)=some (.row [s,p] 0 false):=by rw[c4 _ (by unfold okZ;simp)];exact hg
  obtain⟨ua,M,hc,hU,hM,hfr⟩:=x14l (d+5) (n:=l.length) (by omega) m1
  simp only[x5x]
  unfold xa8 xil
  simp[c1,hg1,hs.len xtt,hc]
  have hgM:M.get (0,0,1)=some (.row [s,p] 0 false):=by rw[hfr _ (by show 0<m1.next;omega)];exact hg1
  have hGM:Gk 1 intE (okZ 19) M a (ordM (fW l P) P.length):=c2.frame λj hj=>hfr j (by obtain⟨h1,h2⟩:=hj;omega)
  have hol:=x117 (fW l P) P.length
  unfold xik
  simp only[hGM.len xt8,xsn]
  generalize hN1:m1.next=N1 at *
  have hN0:1<=N1:=by omega
  refine xtd (N:=(ordM (fW l P) P.length).length) (λn k o m fc=>x5w (xsi (d+6)) [] 0 n (.ptr (0,0,1) 0 0) o ua a (I (ordM (fW l P) P.length).length) (I k) m fc)
   (λk o m=>(m.get (0,0,1)=some (.row [s,p] 0 false)/\N1<m.next)/\Gk 1 intE (okZ 19) m a (ordM (fW l P) P.length)/\Gk 1 intE (λid=>id.1=N1) m ua (uniM l.length P ((ordM (fW l P) P.length).take k)) /\
    Gk 1 intE (okZ 46) m o (takeM P (freshM l.length) ((ordM (fW l P) P.length).take k))) _ ?_ ?_ NN 0 nilS _ _ (by omega) (by rw[xsu];omega) ⟨⟨hgM,by omega⟩,hGM,by simpa[uniM,prs,joinsM]using hU,by simpa[takeM]using Gk.nil⟩
  .rintro n k o m fc hk ⟨⟨hg,hmn⟩,hO,hU,hT⟩ next
   have hk':(k:Int)<((ordM (fW l P) P.length).length:Int):=by omega
   obtain⟨q,i1,l1,-⟩:=hO.at (k:=(k:Int)) (by omega) hk'
   rw[x1gb]at l1
   have hx:=ord_rng.get hk
   have hRk:=ord_Rng hR (fW l P) k
   have hL:=(x103 hRk).len
   have hq:=hR.at hx
   have ip:=hp.ixz Pq.len hx.1 hx.2
   have lp:=λm=>xtz (m:=m) (enc:=Pq.c) Pq.len (by omega) (show(at0 (ordM (fW l P) P.length) k).toNat<P.length by omega)
   rw[<-xxq (by omega)]at lp
   have hus:=x14v (n:=l.length) (P:=P) hk
   have hts:takeM P (freshM l.length) ((ordM (fW l P) P.length).take (k+1))=takeM P (freshM l.length) ((ordM (fW l P) P.length).take k)++(if at0 (uniM l.length P ((ordM (fW l P) P.length).take k)) (prAt P (at0 (ordM (fW l P) P.length) k)).a.toNat=at0 (uniM l.length P ((ordM (fW l P) P.length).take k)) (prAt P (at0 (ordM (fW l P) P.length) k)).b.toNat then[]else[at0 (ordM (fW l P) P.length) k]):=by
    rw[x1gz hk,x184,xt5 hk]
    rfl
   have htl:(takeM P (freshM l.length) ((ordM (fW l P) P.length).take k)).length<=14:=by
    have h1:=(xyc (P:=P) ((ordM (fW l P) P.length).take k) (freshM l.length)).length_le
    simp at h1
    omega
   obtain⟨m2,e1,e2,e3,e4⟩:=c_join (d+5) [] hU (λj hj=>by have hj':j.1=N1:=hj;omega) (p:=prAt P (at0 (ordM (fW l P) P.length) k)) (by rw[hL];exact hq) (by rw[hL];omega)
   have keep:∀j:Id,j.1=0->m2.get j=m.get j:=λj hj=>e4 j (by show ¬j.1=N1;omega) (by omega)
   simp only[Pq.c]at lp
   simp only[x5w]
   unfold xa7 xij
   have hO2:Gk 1 intE (okZ 19) m2 a (ordM (fW l P) P.length):=hO.frame λj hj=>keep j hj.1
   have hT2:Gk 1 intE (okZ 46) m2 o (takeM P (freshM l.length) ((ordM (fW l P) P.length).take k)):=hT.frame λj hj=>keep j hj.1
   have hg2:m2.get (0,0,1)=some (.row [s,p] 0 false):=by rw[keep _ rfl];exact hg
   rw[<-hus]at e2
   simp only[xta,hk',x1gm,xt9,xsn,i1,l1]
   simp[hg,ip,lp,e1]
   by_cases c3:at0 (uniM l.length P ((ordM (fW l P) P.length).take k)) (prAt P (at0 (ordM (fW l P) P.length) k)).a.toNat=at0 (uniM l.length P ((ordM (fW l P) P.length).take k)) (prAt P (at0 (ordM (fW l P) P.length) k)).b.toNat
   .rw[x1g7 c3,x1hc]at hts
    simp[c3]
    unfold x6y
    simp(disch:=omega) [xso]
    exact next o m2 _ ⟨⟨hg2,by omega⟩,hO2,e2,by rw[hts];exact hT2⟩
   .rw[x1g6 c3]at hts
    obtain⟨o2,m3,a1,a2,-,-,a3,a4⟩:=hT2.app (bytes:=8) (id0:=(0,fc+1+14,46)) xt2 (by omega) ⟨rfl,rfl⟩ (by unfold xt6;omega) (at0 (ordM (fW l P) P.length) k)
    simp[c3,xu3]
    rw[show ∀x:Int,elems m2.get 1 (.slit [I x] 1 true)=some (intE x,1)from λ_=>rfl,a1]
    unfold x6y
    simp(disch:=omega) [xso]
    refine next o2 m3 _ ⟨⟨by rw[a4 _ (by unfold okZ;simp)];exact hg2,by omega⟩,hO2.frame λj hj=>a4 j (by obtain⟨h1,h2⟩:=hj;unfold okZ;omega),e2.frame λj hj=>a4 j (by have hj':j.1=N1:=hj;unfold okZ;omega),by rw[hts];exact a2⟩
  .rintro n o m fc ⟨⟨hg,hmn⟩,hO,hU,hT⟩
   rw[x1gg (x1ga _)]at hT
   have hTL:takeM P (freshM l.length) (ordM (fW l P) P.length)=xuf (fW l P) l.length P:=rfl
   rw[hTL]at hT
   have hlen:=(x14u hR.pr (fW l P)).len hR.pr
   obtain⟨m2,e1,e2,e3,e4⟩:=c_Sort (d+1) [] (by omega) hT
   obtain⟨s1,s2⟩:=iso_asc (x18e (n:=l.length) (P:=P) (fW l P))
   have hfin:isoM (λx y=>decide (x<y)) ((xuf (fW l P) l.length P).length-1) (xuf (fW l P) l.length P)=xu0 (fW l P) l.length P:=s1.one (x14t _) λx=>(s2 x).trans light_mem.symm
   rw[hfin]at e2
   simp only[x5w]
   unfold xa7 xii
   simp[e1]
   obtain⟨v,h1,h2⟩:=e2.sl1 4
   exact RetF.mk h2 h1
theorem x1c8(d:Nat){s p:AV}{l:List Scene}{P:List Pq}(hs:Sl Scene.c s l)(hp:Sl Pq.c p P)(hR:Right7 l P)(hl:l.length<=8)(hP:P.length<=14)(m:Mem) :
 ∃v,Ints v (xu0 (fW l P) l.length P)/\xsl (xsi (d+7)) x2n [.agg [s,p]] m=some (v,m):=
 xu6 (by simp[hs.still1,hp.still1]) (x1c7 d hs hp hR hl hP) m
def bE(b:Bool):List AV:=[B b]
theorem bE_len(b:Bool):(bE b).length=1:=rfl
variable{α:Type}{z:Nat}{enc:α->List AV}
def Ow(enc:α->List AV)(m:Mem)(id:Id)(l:List α):Prop:=m.get id=some (.row (l.flatMap enc) 0 false)
theorem Ow.fr{m m':Mem}{id:Id}{l:List α}(h:Ow enc m id l)(e:m'.get id=m.get id):Ow enc m' id l:=by unfold Ow;rw[e];exact h
theorem ow_ix{id:Id}{n:Nat}{k:Int}(h0:0<=k)(h1:k<n):sIx z (.sref id 0 0 n z true) (I k)=some (.ptr id 0 (k.toNat*z)):=by
 simp[sIx,asI,h0,h1]
theorem Ow.ld(hz:∀x,(enc x).length=z){m:Mem}{id:Id}{l:List α}(h:Ow enc m id l){k:Nat}(hk:k<l.length){g:Bool}:sLd g z (.ptr id 0 (k*z)) m=rd g z (enc l[k]++(l.drop (k+1)).flatMap enc):=by
 rw[ld_ptr h,x122 hz,xtm hk,x1gy]
theorem Ow.ldS(hz:∀x,(enc x).length=z){m:Mem}{id:Id}{l:List α}(h:Ow enc m id l){k:Nat}(hk:k<l.length):sLd true z (.ptr id 0 (k*z)) m=some (.agg (enc l[k])):=by
 rw[h.ld hz hk,rd_t,x1h6 (by simp[hz]),x1jr (by rw[hz];exact x1ga _),x1gg (by rw[hz];exact x1ga _)]
 rfl
theorem x18o(hz:∀x,(enc x).length=z)(x:α):∀(l:List α) (k:Nat),k<l.length->xth (l.flatMap enc) (k*z) (enc x)=(l.set k x).flatMap enc
 |[],_,h=>by simp at h
 |y::r,0,_=>by
  simp only[xth,x1in,x1gl,x1hw,x1hl,x1jx,x1gy]
  rw[hz,<-hz y,x1lp (x1ga _),x1h5 (x1ga _),x1hl]
 |y::r,k+1,h=>by
  have ih:=x18o hz x r k (by simpa using h)
  simp only[xth,x1jy,x1gy]at ih ⊢
  rw[x1hb,show k*z+z=(enc y).length+k*z by rw[hz];omega,x1lq,x1i5,x1j9,x1i3,<-ih]
  have e:(enc y).length+(k*z+(enc x).length)-(enc y).length=k*z+(enc x).length:=by omega
  rw[e,x1h5 (by omega),x1hl]
theorem Ow.st(hz:∀x,(enc x).length=z){m:Mem}{id:Id}{l:List α}(h:Ow enc m id l){k:Nat}(hk:k<l.length){x:α}{v:AV}(hv:v.cells=enc x)(h1:(enc x).all AV.one=true) :
 (∀{R:Type} (K:Mem->Option R),sSt z (.ptr id 0 (k*z)) v m K=K (m.set id (.row ((l.set k x).flatMap enc) 0 false)))/\Ow enc (m.set id (.row ((l.set k x).flatMap enc) 0 false)) id (l.set k x):=by
 refine⟨λK=>?_,by unfold Ow;simp⟩
 have hl:=xut hz l
 rw[st_ptr (z:=z) (x:=v) (k:=K) h (by rw[hv,hz]) (by rw[hl];have:=x1i1 z (show k+1<=l.length from hk);rw[x1hb]at this;exact this) (by rw[hv];exact h1),hv,x18o hz x l k hk]
theorem zeros_c{z:List AV}{c:AV}(hc:∀i,i<z.length->z.getD i (.sc undef)=c)(h0:0<z.length)(k:Nat):xtq z k=List.replicate k c:=by
 unfold xtq
 apply x1j2
 .simp
 .intro i h1 h2
  simp only[x1k7,List.getElem_range,List.getElem_replicate]
  exact hc _ (x1k3 _ h0)
theorem rep_flat(n:Nat)(c:AV)(x:α)(hx:enc x=List.replicate z c):(List.replicate n x).flatMap enc=List.replicate (n*z) c:=by
 induction n with
 |zero=>simp
 |succ n ih=>
  rw[x1kb,x1gy,ih,hx,x1hb,x1jg,x1li]
theorem mkSl_c{R:Type}{zc:List AV}{c:AV}{bytes:Nat}(hb:bytes<=64)(hzl:zc.length=z)(hc:∀i,i<zc.length->zc.getD i (.sc undef)=c)(h0:0<zc.length){x:α}(hx:enc x=List.replicate z c){n:Nat}(hn:n<=1000000)(id:Id)(m:Mem)(k:AV->Mem->Option R) :
 xty zc z bytes (I n) (I n) id m k=k (.sref id 0 0 n z true) (m.new id (.row ((List.replicate n x).flatMap enc) 0 false)):=by
 have h1:bytes*n<=64*1000000:=x1j4 hb hn
 simp only[xty,asI]
 rw[x1g7 ⟨by omega,x1ho _,by omega,by omega⟩,zeros_c hc h0,rep_flat n c x hx]
 simp
theorem zb_b7:x1a=[B false]:=by kernel_rfl
theorem mkSl_b{R:Type}{n:Nat}(hn:n<=1000000)(id:Id)(m:Mem)(k:AV->Mem->Option R):xty x1a 1 1 (I n) (I n) id m k=k (.sref id 0 0 n 1 true) (m.new id (.row ((List.replicate n false).flatMap bE) 0 false)):=
 mkSl_c (enc:=bE) (c:=B false) (by omega) (by rw[zb_b7];rfl) (by rw[zb_b7];intro i hi;simp at hi;subst hi;rfl) (by rw[zb_b7];simp) rfl hn id m k
theorem mkSl_i{R:Type}{n:Nat}(hn:n<=1000000)(id:Id)(m:Mem)(k:AV->Mem->Option R):xty xtr 1 8 (I n) (I n) id m k=k (.sref id 0 0 n 1 true) (m.new id (.row ((List.replicate n (0:Int)).flatMap intE) 0 false)):=
 mkSl_c (enc:=intE) (c:=I 0) (by omega) (by rw[xu3];rfl) (by rw[xu3];intro i hi;simp at hi;subst hi;rfl) (by rw[xu3];simp) rfl hn id m k
theorem x14z:x9=[I 0,I 0]:=by kernel_rfl
theorem mkSl_s{R:Type}{n:Nat}(hn:n<=1000000)(id:Id)(m:Mem)(k:AV->Mem->Option R):xty x9 2 16 (I n) (I n) id m k=k (.sref id 0 0 n 2 true) (m.new id (.row ((List.replicate n (⟨0,0⟩:Sp)).flatMap Sp.c) 0 false)):=
 mkSl_c (enc:=Sp.c) (c:=I 0) (by omega) (by rw[x14z];rfl) (by
  rw[x14z];intro i hi
  match i,hi with
  |0,_=>rfl
  |1,_=>rfl
  |i+2,h=>simp at h;omega) (by rw[x14z];simp) rfl hn id m k
theorem Ow.ldB{m:Mem}{id:Id}{l:List Bool}(h:Ow bE m id l){k:Int}(h0:0<=k)(hk:k<l.length):sLd false 1 (.ptr id 0 k.toNat) m=some (B (l.getD k.toNat false)):=by
 have h1:k.toNat<l.length:=by omega
 have:=h.ld bE_len h1 (g:=false)
 rw[x1i4]at this
 rw[this,x1gk,x1gv h1]
 rfl
theorem Ow.ldI{m:Mem}{id:Id}{l:List Int}(h:Ow intE m id l){k:Int}(h0:0<=k)(hk:k<l.length):sLd false 1 (.ptr id 0 k.toNat) m=some (I (at0 l k.toNat)):=by
 have h1:k.toNat<l.length:=by omega
 have:=h.ld xt2 h1 (g:=false)
 rw[x1i4]at this
 rw[this,xt5 h1]
 rfl
theorem xwr{id:Id}{n:Nat}{k:Int}(h0:0<=k)(h1:k<n):sIx 1 (.sref id 0 0 n 1 true) (I k)=some (.ptr id 0 k.toNat):=by
 simpa using ow_ix (z:=1) (id:=id) h0 h1
theorem Ow.st1{g:α->AV}(he:∀x,enc x=[g x]){m:Mem}{id:Id}{l:List α}(h:Ow enc m id l){k:Int}(h0:0<=k)(hk:k<l.length){x:α}(hc:(g x).cells=[g x])(h1:(g x).one=true) :
 (∀{R:Type} (K:Mem->Option R),sSt 1 (.ptr id 0 k.toNat) (g x) m K=K (m.set id (.row ((l.set k.toNat x).flatMap enc) 0 false)))/\Ow enc (m.set id (.row ((l.set k.toNat x).flatMap enc) 0 false)) id (l.set k.toNat x):=by
 have:=h.st (z:=1) (λx=>by rw[he];rfl) (k:=k.toNat) (by omega) (x:=x) (v:=g x) (by rw[hc,he]) (by rw[he];simp[h1])
 simpa using this
theorem l_Has(d:Nat)(hs:FHs){a:AV}{l:List Int}{x:Int}(h:Ints a l)(hl:l.length<=1000000)(u:Nat):∀(suf:List Int) (k j:Nat) (m:Mem) (fc:Nat),l.drop k=suf->suf.length<j ->
 x6d (xsi d) hs u j a (I x) (I k) m fc=some (B (suf.any λy=>decide (y=x)),m):=by
 intro suf
 induction suf with
 |nil=>
  intro k j m fc hd hj
  obtain⟨j,rfl⟩:∃i,j=i+1:=⟨j-1,by simp at hj;omega⟩
  have hk:¬((k:Int)<(l.length:Int)):=by have:=x1ha.mp hd;omega
  simp only[x6d]
  unfold xcw
  simp[h.len xt8,hk,xku]
 |cons y r ih=>
  intro k j m fc hd hj
  obtain⟨j,rfl⟩:∃i,j=i+1:=⟨j-1,by simp at hj;omega⟩
  obtain⟨hk,hke,hd⟩:=xul hd
  have hk':(k:Int)<(l.length:Int):=by omega
  have ix:=h.ix xt2 hk
  have e1:at0 l k=y:=by rw[xt5 hk,hke]
  have ih':=ih (k+1) j m (fc+13) hd (by simp at hj;omega)
  simp only[x6d,x1im]
  unfold xcw
  by_cases c:y=x
  .simp(disch:=omega) [h.len xt8,hk',ix,xte,e1,c]
  .simp(disch:=omega) [h.len xt8,hk',ix,xte,e1,c]
   simpa using ih'
theorem w_Has(d:Nat){a:AV}{l:List Int}{x:Int}(h:Ints a l)(hl:l.length<=1000000)(m:Mem):xsl (xsi (d+1)) x1m [a,I x] m=some (B (l.any λy=>decide (y=x)),m):=by
 refine Ans.call0 ?_ (by simp[h.still]) rfl
 unfold Ans
 refine⟨⟨[],1⟩,?_⟩
 rw[xop]
 exact l_Has d [] h hl 0 l 0 NN ⟨[],1⟩ 2 rfl (by rw[xsu];omega)
def GkF(ok:Id->Prop)(m:Mem)(a:AV)(l:List Int):Prop:=(a=nilS/\l=[])\/∃id ver b,ok id/\a=.sref id ver 0 l.length 1 true/\m.get id=some (.row (l.flatMap intE) ver b)
theorem Gk.toF{ok:Id->Prop}{m:Mem}{a:AV}{l:List Int}(h:Gk 1 intE ok m a l):GkF ok m a l:=by
 rcases h with h|⟨id,ver,h1,h2,h3⟩
 .exact .inl h
 .exact .inr ⟨id,ver,false,h1,h2,h3⟩
theorem GkF.frame{ok:Id->Prop}{m m':Mem}{a:AV}{l:List Int}(h:GkF ok m a l)(hm:∀id,ok id->m'.get id=m.get id):GkF ok m' a l:=by
 rcases h with h|⟨id,ver,b,h0,h1,h2⟩
 .exact Or.inl h
 .exact Or.inr ⟨id,ver,b,h0,h1,by rw[hm _ h0];exact h2⟩
theorem x18p(objs:Id->Option Ob)(k:Nat):∀l:List Int,(l.flatMap intE).flatMap (xt3 objs k)=[]
 |[]=>rfl
 |x::r=>by
  rw[x1gy,List.flatMap_append,x18p objs k r]
  cases k<;>rfl
theorem w_HasF(d:Nat){ok:Id->Prop}{m:Mem}{a:AV}{l:List Int}{x:Int}(h:GkF ok m a l)(hl:l.length<=1000000) :
 ∃m2,xsl (xsi (d+1)) x1m [a,I x] m=some (B (l.any λy=>decide (y=x)),m2)/\GkF ok m2 a l/\m2.next=m.next/\xwp ok m m2:=by
 rcases h with ⟨rfl,rfl⟩|⟨id,ver,b,h0,rfl,hg⟩
 .exact⟨m,w_Has d (Or.inl ⟨rfl,rfl⟩) (by simp) m,.inl ⟨rfl,rfl⟩,rfl,λ_ _=>rfl⟩
 .have hfl:=xvx l
  obtain⟨a',ha',hfz⟩:∃a',Ints a' l/\Go.Ix.frz m.get deep (.sref id ver 0 l.length 1 true)=some a':=by
   refine⟨.slit (l.flatMap intE) l.length false,Sl.lit l false,?_⟩
   have:=xx3 (objs:=m.get) (id:=id) (cs:=l.flatMap intE) (ver:=ver) (off:=0) (n:=l.length) (z:=1) (k:=4) (f:=b) (x:=true) hg (by omega) (by
    rw[x1g8,x1gg (by omega)];exact xwm xvc l)
   rw[x1g8,x1gg (by omega)]at this
   exact this
  have hw:=w_Has d (x:=x) ha' hl mem0
  have hl2:[a',I x].mapM (Go.Ix.frz mem0.get deep)=some [a',I x]:=x10w _ (by simp[ha'.still])
  unfold xsl at hw ⊢
  rw[hl2]at hw
  rw[show[AV.sref id ver 0 l.length 1 true,I x].mapM (Go.Ix.frz m.get deep)=some [a',I x]from by simp only[x1gw,x1hd,hfz];rfl]
  simp only at hw ⊢
  cases hc:xsi (d+1) [] x1m [a',I x] mem0 with
  |none=>rw[hc]at hw;cases hw
  |some r=>
   obtain⟨r,m'⟩:=r
   rw[hc]at hw
   simp only[x1gi,x1g9]at hw
   obtain⟨v,hv,rfl,-⟩:=hw
   have hr:[AV.sref id ver 0 l.length 1 true,I x].flatMap (xt3 m.get deep)=[id]:=by
    have h1:xt3 m.get deep (.sref id ver 0 l.length 1 true)=[id]:=by
     show(match m.get id with
      |some (.row cs _ _)=>id::((cs.drop 0).take (l.length*1)).flatMap (xt3 m.get 5)
      |_=>[id])=[id]
     rw[hg]
     simp only[x1g8]
     rw[x1gg (by omega),x18p]
    simp only[x1gy,List.flatMap_nil,h1]
    rfl
   have hm2:∀j,(⟨xw8 [id] m.hp,m.next⟩:Mem).get j=shut [id] m.get j:=λj=>congrFun (x11x [id] m.hp) j
   refine⟨⟨xw8 [id] m.hp,m.next⟩,?_,.inr ⟨id,ver,true,h0,rfl,?_⟩,rfl,λj hj=>?_⟩
   .simp only[hv,hr]
    rfl
   .rw[hm2];unfold shut;rw[x1g7 (by simp),hg]
   .rw[hm2];unfold shut;rw[x1g6 (by simp;rintro rfl;exact hj h0)]
def BestI(f:Int->Int)(S:List Int)(i:Nat)(b:Int):Prop:=(b=-1/\∀j:Nat,j<i->(j:Int)∈S)\/((0<=b/\b<i)/\b∉S/\∀j:Nat,j<i->(j:Int)∉S->(j:Int)=b\/lx f b j)
theorem BestI.in_{f:Int->Int}{S:List Int}{i:Nat}{b:Int}(h:BestI f S i b)(hi:(i:Int)∈S):BestI f S (i+1) b:=by
 rcases h with ⟨h1,h2⟩|⟨h1,h2,h3⟩
 .refine .inl ⟨h1,λj hj=>?_⟩
  by_cases c:j=i
  .rw[c];exact hi
  .exact h2 j (by omega)
 .refine .inr ⟨by omega,h2,λj hj hn=>?_⟩
  by_cases c:j=i
  .rw[c]at hn;exact absurd hi hn
  .exact h3 j (by omega) hn
theorem BestI.take_{f:Int->Int}{S:List Int}{i:Nat}{b:Int}(h:BestI f S i b)(hi:(i:Int)∉S)(hc:b<0\/f i<f b):BestI f S (i+1) i:=by
 refine .inr ⟨by omega,hi,λj hj hn=>?_⟩
 by_cases c:j=i
 .exact .inl (by rw[c])
 .right
  rcases h with ⟨h1,h2⟩|⟨h1,h2,h3⟩
  .exact absurd (h2 j (by omega)) hn
  .have hfb:f i<f b:=hc.resolve_left (by omega)
   rcases h3 j (by omega) hn with e|e
   .rw[e];exact .inl hfb
   .unfold lx at *;omega
theorem BestI.leave{f:Int->Int}{S:List Int}{i:Nat}{b:Int}(h:BestI f S i b)(hi:(i:Int)∉S)(hb:0<=b)(hc:¬f i<f b):BestI f S (i+1) b:=by
 rcases h with ⟨h1,h2⟩|⟨h1,h2,h3⟩
 .omega
 .refine .inr ⟨by omega,h2,λj hj hn=>?_⟩
  by_cases c:j=i
  .right;rw[c];unfold lx;omega
  .exact h3 j (by omega) hn
theorem BestI.fin{f:Int->Int}{N:Nat}{k:Nat}{b:Int}(h:BestI f ((ordM f N).take k) N b)(hk:k<N):b=at0 (ordM f N) k:=by
 have hl:=x117 f N
 have hO:=xxr f N
 have hkl:k<(ordM f N).length:=by omega
 have hx:=(InN.get (ord_rng (f:=f) (N:=N)) hkl)
 have hnd:=hO.nodup
 have hxn:at0 (ordM f N) k∉(ordM f N).take k:=λhm=>by
  obtain⟨j,hj,e⟩:=x1is.mp hm
  rw[x1jt,xt5 hkl]at e
  simp at hj
  exact x1kp.mp hnd j k (by omega) hkl (by omega) e
 rcases h with ⟨h1,h2⟩|⟨h1,h2,h3⟩
 .have:=h2 (at0 (ordM f N) k).toNat (by omega)
  rw[x1hg hx.1]at this
  exact absurd this hxn
 .have h4:=h3 (at0 (ordM f N) k).toNat (by omega) (by rw[x1hg hx.1];exact hxn)
  rw[x1hg hx.1]at h4
  rcases h4 with e|e
  .exact e.symm
  .have hb:b∈ordM f N:=(hO.2 b).mpr h1
   rw[<-x1k9 k (ordM f N),x1h2]at hb
   have hb2:=hb.resolve_left h2
   rw[xtm hkl,x1gn]at hb2
   rcases hb2 with e2|e2
   .rw[xt5 hkl];exact e2
   .have hs:=hO.1
    rw[<-x1k9 k (ordM f N),xtm hkl]at hs
    have:=(x1i9.mp (x1j0.mp hs).2.1).1 b e2
    rw[xt5 hkl]at e
    exact(lx_asym _ _ this e).elim
end Go.Ix
