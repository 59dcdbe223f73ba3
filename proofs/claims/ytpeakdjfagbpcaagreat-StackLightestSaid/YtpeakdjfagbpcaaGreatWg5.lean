import Derived.Test.YtpeakdjfagbpcaaGreatWg4
import Derived.Test.YtpeakdjfagbpcaaGreatWg3
set_option linter.unusedSimpArgs false
set_option linter.unusedVariables false
namespace Go.Ix
theorem asc_last{F:List Int}(h:Asc F){a:Int}(ha:a∈F):a<=at0 F (F.length-1):=by
 obtain⟨k,hk,rfl⟩:=List.mem_iff_getElem.mp ha
 rw[xxa (by omega)]
 by_cases c:k=F.length-1
 .simp only[c];exact Int.le_refl _
 .have:=List.pairwise_iff_getElem.mp h k (F.length-1) hk (by omega) (by omega)
  omega
theorem x191{l:List Scene}{P:List Pq}(h:Right7 l P){F:List Int}:∀(suf:List Int) (k:Nat),F.drop k=suf->Asc (F.take k)->For l.length P (F.take k)->forE l.length P F k suf=0->Asc F/\For l.length P F
 |[],k,hd,h1,h2,_=>by
  have:F.length<=k:=List.drop_eq_nil_iff.mp hd
  rw[List.take_of_length_le this]at h1 h2
  exact⟨h1,h2⟩
 |x::r,k,hd,h1,h2,hE=>by
  obtain⟨hk,he,hd⟩:=xzi hd
  simp only[forE]at hE
  cases c1:wi x 0 ((P.length:Int)-1)with
  |false=>simp[c1]at hE
  |true=>
   have hx:=wi_t c1
   cases c2:decide (0<k)&&decide (x<=at0 F (k-1))with
   |true=>simp[c1,c2]at hE
   |false=>
    simp only[c1,c2,Bool.not_true,cond_false]at hE
    by_cases c3:at0 (uniM l.length P (F.take k)) (prAt P x).a.toNat=at0 (uniM l.length P (F.take k)) (prAt P x).b.toNat
    .simp[c3]at hE
    .simp[c3]at hE
     have hlen:(F.take k).length=k:=by simp;omega
     have hA:Asc (F.take (k+1)):=by
      rw[List.take_succ_eq_append_getElem hk,he]
      unfold Asc
      rw[List.pairwise_append]
      refine⟨h1,by simp,fun a ha b hb=>?_⟩
      simp at hb
      subst hb
      have h3:=asc_last h1 ha
      rw[hlen]at h3
      have h0:0<k:=by
       cases k with
       |zero=>simp at ha
       |succ k=>omega
      have e:at0 (F.take k) (k-1)=at0 F (k-1):=by
       rw[xxa (by omega),xxa (by omega),List.getElem_take]
      rw[e]at h3
      simp[h0]at c2
      omega
     refine x191 h r (k+1) hd hA ⟨fun i hi=>?_,hA.nodup,?_⟩ hE
     .rw[List.take_succ_eq_append_getElem hk,he]at hi
      rcases List.mem_append.mp hi with hi|hi
      .exact h2.rng i hi
      .simp at hi;subst hi;omega
     .rw[List.take_succ_eq_append_getElem hk,he]
      unfold prs
      rw[List.map_append]
      exact Indep.app.mpr ⟨h2.ind,c3,trivial⟩
theorem x192{l:List Scene}{P:List Pq}{F:List Int}(hA:Asc F)(hF:For l.length P F):∀(suf:List Int) (k:Nat),F.drop k=suf->forE l.length P F k suf=0
 |[],_,_=>rfl
 |x::r,k,hd=>by
  obtain⟨hk,he,hd⟩:=xzi hd
  have ih:=x192 hA hF r (k+1) hd
  have hx:=hF.rng x (by rw[<-he];exact List.getElem_mem hk)
  have c1:wi x 0 ((P.length:Int)-1)=true:=by
   unfold wi
   rw[decide_eq_true_iff]
   omega
  have c2:(decide (0<k)&&decide (x<=at0 F (k-1)))=false:=by
   by_cases h0:0<k
   .have:=List.pairwise_iff_getElem.mp hA (k-1) k (by omega) hk (by omega)
    rw[he,<-xxa (by omega)]at this
    simp[h0];omega
   .simp[h0]
  have c3:¬at0 (uniM l.length P (F.take k)) (prAt P x).a.toNat=at0 (uniM l.length P (F.take k)) (prAt P x).b.toNat:=by
   have:=hF.ind
   rw[<-List.take_append_drop (k+1) F,List.take_succ_eq_append_getElem hk,he]at this
   unfold prs at this
   rw[List.map_append,List.map_append]at this
   exact(Indep.app.mp (Indep.app.mp this).1).2.1
  rw[forE,c1,c2,decide_eq_false c3]
  exact ih
theorem x193{l:List Scene}{P:List Pq}(h:Right7 l P){F:List Int}:xzl l.length P F=0↔Tree l.length P F:=by
 have hopen:x11h l.length P F=false↔∀p∈P,Sm (joinsM (freshM l.length) (prs P F)) p.a.toNat p.b.toNat:=by
  unfold x11h uniM Sm
  rw[List.any_eq_false]
  simp
 unfold xzl
 constructor
 .intro hE
  by_cases c:forE l.length P F 0 F=0
  .obtain⟨h1,h2⟩:=x191 h F 0 rfl (by simp[Asc]) ⟨fun i hi=>by simp at hi,by simp,by simp[prs,Indep]⟩ c
   refine⟨h2,h1,hopen.mp ?_⟩
   cases ho:x11h l.length P F with
   |false=>rfl
   |true=>simp[c,ho]at hE
  .simp[c]at hE
 .intro hT
  have:=x192 hT.asc hT.fo F 0 rfl
  rw[this,hopen.mpr hT.all]
  rfl
theorem x16a(l:List Scene)(P:List Pq):∀(F:List Int) (s:Int),sumL l P s F=s+(F.map fun i=>lenP l (prAt P i)).sum
 |[],s=>by simp[sumL]
 |i::r,s=>by
  rw[sumL,x16a l P r,List.map_cons,List.sum_cons]
  omega
open Go.Proofs
theorem x16b{objs:Id->Option Ob}{id:Id}{cs:List AV}{v off k:Nat}{f:Bool}(h:objs id=some (.row cs v f)):Go.Ix.frz objs (k+1) (.ptr id v off)=((cs.drop off).mapM (Go.Ix.frz objs k)).map AV.plit:=by
 simp only[Go.Ix.frz,h,if_true]
theorem x14e{objs:Id->Option Ob}{id:Id}{a a':AV}{v k:Nat}{f:Bool}(h:objs id=some (.row [a] v f))(ha:Go.Ix.frz objs k a=some a'):Go.Ix.frz objs (k+1) (.ptr id v 0)=some (.plit [a']):=by
 rw[x16b h]
 simp only[List.drop_zero,List.mapM_cons,List.mapM_nil,ha]
 rfl
theorem frz_clo1{objs:Id->Option Ob}{f:FuncId}{a a':AV}{k:Nat}(ha:Go.Ix.frz objs k a=some a'):Go.Ix.frz objs (k+1) (.clo f [a])=some (.clo f [a']):=by
 show(([a].mapM (Go.Ix.frz objs k)).map fun l=>AV.clo f l)=_
 simp only[List.mapM_cons,List.mapM_nil,ha]
 rfl
theorem frz_two{objs:Id->Option Ob}{a b b':AV}(ha:still a=true)(hb:Go.Ix.frz objs deep b=some b'):[a,b].mapM (Go.Ix.frz objs deep)=some [a,b']:=by
 simp only[List.mapM_cons,List.mapM_nil,hb]
 rw[show Go.Ix.frz objs deep a=some a from xyl objs 4 ha]
 rfl
def cfE(l:List Scene)(P:List Pq)(F:List Int):Int:=bif !decide ((net7 l P).2=0)then(net7 l P).2 else xzl l.length P F
def cfN(l:List Scene)(P:List Pq)(F:List Int):Int:=bif decide (cfE l P F=0)then sumL l P 0 F else 0
theorem x16c:x3b=[nilS,nilS]:=by kernel_rfl
theorem z_union:xci=[nilS]:=by kernel_rfl
theorem rng_snoc{n:Nat}{P:List Pq}{F:List Int}{k:Nat}(hk:k<F.length)(h:Rng n P (F.take k)){x:Int}(hx:F[k]=x)(h1:0<=x/\x<P.length)(h2:PqIn n (prAt P x)):Rng n P (F.take (k+1)):=by
 rw[List.take_succ_eq_append_getElem hk,hx]
 intro i hi
 rcases List.mem_append.mp hi with hi|hi
 .exact h i hi
 .simp at hi;subst hi;exact⟨h1,h2⟩
theorem x1b8(d:Nat){s p f:AV}{l:List Scene}{P:List Pq}{F:List Int}(hs:Sl Scene.c s l)(hp:Sl Pq.c p P)(hf:Ints f F)(hF:F.length<=1000) :
 RetF (fun v=>v=.tup [I (cfN l P F),I (cfE l P F)]) (xwy (d+8) [] x2u [.agg [s,p],f] mem0):=by
 rw[xhz]
 unfold x7j x97
 simp[hs.one,hp.one,mem0,x18j (d+1) hs hp]
 by_cases he:(net7 l P).2=0
 rotate_left
 .have hE:cfE l P F=(net7 l P).2:=by simp[cfE,he]
  simp[he]
  exact RetF.tup rfl (by rw[show cfN l P F=0 by simp[cfN,hE,he],hE])
 have hR:=x13a he
 have hE:cfE l P F=xzl l.length P F:=by simp[cfE,he]
 have hN:cfN l P F=bif decide (xzl l.length P F=0)then sumL l P 0 F else 0:=by rw[cfN,hE]
 rw[hE,hN]
 obtain⟨a,M,hc,hG,hM,hfr⟩:=x18p (d+6) (n:=l.length) (by have:=hR.ll;omega) ((⟨[],1⟩:Mem).new (0,0,2) (.row [s,p] 0 false))
 simp[he,hs.len xy6,hc,z_union]
 have hone:=hG.one
 simp[hone.1,hone.2]
 generalize hm1:Mem.set _ _ _=m1
 have hMn:M.next=2:=by rw[hM];rfl
 have hokf:∀j:Id,j.1=1->j.1<m1.next:=fun j hj=>by
  have:m1.next=M.next:=by rw[<-hm1];rfl
  rw[this];omega
 have g2:m1.get (0,0,2)=some (.row [s,p] 0 false):=by
  rw[<-hm1,Mem.get_set,if_neg (by simp),Mem.get_new,if_neg (by simp),hfr _ (by show(0:Nat)<1;omega)]
  simp
 have g7:m1.get (0,12,7)=some (.row [a] 0 false):=by rw[<-hm1];simp
 have hG1:Gk 1 intE (fun id=>id.1=1) m1 a (freshM l.length):=hG.frame fun j hj=>by
  have hj':j.1=1:=hj
  rw[<-hm1,Mem.get_set,if_neg (by rintro rfl;simp at hj'),Mem.get_new,if_neg (by rintro rfl;simp at hj')]
 have hm1n:2<=m1.next:=by rw[<-hm1];show 2<=M.next;omega
 unfold x5i
 simp[hf.len xxy]
 refine xxu (N:=F.length) (σ:=Unit) (fun n k _ m fc=>x18 (xwy (d+7)) [] 0 n f (.ptr (0,0,2) 0 0) (.ptr (0,12,7) 0 0) f (I F.length) (I k) m fc)
  (fun k _ m=>(m.get (0,0,2)=some (.row [s,p] 0 false)/\m.get (0,12,7)=some (.row [a] 0 false)/\2<=m.next)/\Gk 1 intE (fun id=>id.1=1) m a (uniM l.length P (F.take k))/\Rng l.length P (F.take k)/\forE l.length P F k (F.drop k)=forE l.length P F 0 F) _ ?_ ?_ NN 0 () m1 _ (by omega) (by rw[xxb];omega)
  ⟨⟨g2,g7,hm1n⟩,by simpa[uniM,prs,joinsM]using hG1,fun i hi=>by simp at hi,by simp⟩
 .rintro n k-m fc hk ⟨⟨g2,g7,hmn⟩,hG,hRk,hT⟩ next
  have hk':(k:Int)<(F.length:Int):=by omega
  have ix:=hf.ix xy2 hk
  have ld:=fun m=>xzy (m:=m) hk
  have hpl:=hR.pl
  have hkx:F[k]=at0 F k:=(xxa hk).symm
  rw[xxx hk,hkx]at hT
  have hL:=(x139 hRk).len
  have hus:=x163 (n:=l.length) (P:=P) hk
  simp only[forE]at hT
  simp only[x18]
  unfold x5h
  simp[hk',ix,ld,g2,hp.len xy8]
  rw[xx4 (by omega) (by omega)]
  simp[x135]
  have fin:∀e:Int,e≠0->forE l.length P F 0 F=e->xzl l.length P F=e:=fun e h0 h1=>by
   unfold xzl
   rw[h1]
   simp[h0]
  cases c1:wi (at0 F k) 0 ((P.length:Int)-1)with
  |false=>
   simp[c1]at hT ⊢
   exact RetF.tup rfl (by rw[fin 6 (by omega) hT.symm];rfl)
  |true=>
   have hx:=wi_t c1
   have hq:=hR.at (i:=at0 F k) ⟨hx.1,by omega⟩
   have ip:=hp.ixz Pq.len hx.1 (show at0 F k<P.length by omega)
   have lp:=fun m=>xya (m:=m) (enc:=Pq.c) Pq.len (by omega) (show(at0 F k).toNat<P.length by omega)
   rw[<-x10s (by omega)]at lp
   have hRs:=rng_snoc hk hRk hkx ⟨hx.1,by omega⟩ hq
   have join:(decide (0<k)&&decide (at0 F k<=at0 F (k-1)))=false->RetF (fun v=>v=.tup [I (bif decide (xzl l.length P F=0)then sumL l P 0 F else 0),I (xzl l.length P F)])
    ((sLd false 1 (.ptr (0,12,7) 0 0) m).bind fun t47=>(sIx 2 p (I (at0 F k))).bind fun t51=>(sLd true 2 t51 m).bind fun t52=>(xwy (d+7) [] x1p [t47,t52] m).bind fun p53=>(sNot p53.1).bind fun t54=>
      xx0 t54 (some (AV.tup [(I 0),(I 21)],p53.2)) ((sAdd (I (k:Int)) (I 1)).bind fun t55=>x18 (xwy (d+7)) [] 0 n f (.ptr (0,0,2) 0 0) (.ptr (0,12,7) 0 0) f (I F.length) t55 p53.2 (fc+37))):=fun c2=>by
    rw[c1,c2]at hT
    have hq':=hq
    obtain⟨m2,e1,e2,e3,e4⟩:=c_join (d+6) [] hG (fun j hj=>by have hj':j.1=1:=hj;omega) (p:=prAt P (at0 F k)) (by rw[hL];exact hq) (by rw[hL];have:=hR.ll;omega)
    simp only[Pq.c]at lp
    simp[g7,ip,lp,e1]
    by_cases c3:at0 (uniM l.length P (F.take k)) (prAt P (at0 F k)).a.toNat=at0 (uniM l.length P (F.take k)) (prAt P (at0 F k)).b.toNat
    .simp[c3]at hT ⊢
     exact RetF.tup rfl (by rw[fin 21 (by omega) hT.symm];rfl)
    .simp[c3]at hT
     simp(disch:=omega) [c3,xx4]
     refine next () m2 _ ⟨⟨?_,?_,by omega⟩,by rw[hus];exact e2,hRs,hT⟩
     .rw[e4 _ (by show ¬((0:Nat)=1);omega) (by show 0<m.next;omega)];exact g2
     .rw[e4 _ (by show ¬((0:Nat)=1);omega) (by show 0<m.next;omega)];exact g7
   by_cases h0:0<k
   .have h0':(0:Int)<(k:Int):=by omega
    have ix2:=hf.ix xy2 (show k-1<F.length by omega)
    have ld2:=fun m=>xzy (m:=m) (show k-1<F.length by omega)
    have hk1:(k:Int)-1=((k-1:Nat):Int):=by omega
    simp[h0,g2]
    rw[xx4 (by omega) (by omega),hk1]
    simp[ix2,ld2,g2]
    by_cases c2:at0 F k<=at0 F (k-1)
    .simp[c1,c2,h0]at hT
     simp[c2]
     exact RetF.tup rfl (by rw[fin 9 (by omega) hT.symm];rfl)
    .simp[c2]
     have:=join (by simp[c2])
     simpa[g7,ip]using this
   .have h0':¬(0:Int)<(k:Int):=by omega
    simp[h0,g2]
    have:=join (by simp[h0])
    simpa[g7,ip]using this
 .rintro n-m fc ⟨⟨g2,g7,hmn⟩,hG,hRk,hT⟩
  have hk:¬((F.length:Int)<(F.length:Int)):=by omega
  rw[List.take_of_length_le (Nat.le_refl _)]at hG hRk
  rw[List.drop_of_length_le (Nat.le_refl _)]at hT
  have hT0:forE l.length P F 0 F=0:=hT.symm
  have hfo:xzl l.length P F=bif x11h l.length P F then 25 else 0:=by unfold xzl;simp[hT0]
  simp only[x18]
  unfold x5h x22
  simp[g2]
  obtain⟨a',ha',hfz⟩:=hG.sl1 2
  have hlist:=frz_two (objs:=m.get) (a:=p) hp.still (frz_clo1 (f:=x1q) (x14e (k:=4) g7 hfz))
  obtain⟨m',hcf⟩:=x1b5 (d+4) (f:=x1q) (caps:=[.plit [a']]) (q:=fun x=>!decide (at0 (uniM l.length P F) x.a.toNat=at0 (uniM l.length P F) x.b.toNat)) hp (by have:=hR.pl;omega)
   (fun x hx hs m=>a_apartPq (d+4) ha' (by rw[(x139 hRk).len];exact hR.pr x hx) hs m) rfl
  obtain⟨v,m2,hv,hc,hmn2,hrow⟩:=callR (call:=xwy (d+7)) (f:=x31) hlist (T:=fun v=>v=B (x11h l.length P F)) (by rw[hcf];exact RetF.st rfl rfl)
  subst hv
  obtain⟨b',hg2⟩:=hrow _ _ _ _ g2
  simp[hc]
  cases ho:x11h l.length P F with
  |true=>
   simp
   exact RetF.tup rfl (by rw[hfo,ho];rfl)
  |false=>
   simp[hg2,x16c]
   have hw:=w_total (d+4) hs hp hf hR.ib hRk hF
   simp[hw,xxp,xyc]
   exact RetF.tup rfl (by rw[hfo,ho];rfl)
theorem x1b9(d:Nat){s p f:AV}{l:List Scene}{P:List Pq}{F:List Int}(hs:Sl Scene.c s l)(hp:Sl Pq.c p P)(hf:Ints f F)(hF:F.length<=1000)(m:Mem) :
 xwz (xwy (d+8)) x2u [.agg [s,p],f] m=some (.tup [I (cfN l P F),I (cfE l P F)],m):=
 xy7 (by simp[hs.still1,hp.still1,hf.still]) (x1b8 d hs hp hf hF) m
theorem sumL_in{l:List Scene}{P:List Pq}(hb:InB l):∀{F:List Int},Rng l.length P F->0<=sumL l P 0 F/\sumL l P 0 F<=F.length*300000
 |[],_=>by simp[sumL]
 |i::r,h=>by
  have ih:=sumL_in hb (F:=r) fun j hj=>h j (List.mem_cons_of_mem _ hj)
  have:=x137 hb (h i (List.mem_cons_self ..)).2
  rw[x16a]at ih ⊢
  rw[List.map_cons,List.sum_cons,List.length_cons]
  omega
theorem x11i:Tryz.prog.underlying x1u=some (.slice xco):=by kernel_rfl
theorem x12e:x1a=[I 0,I 0]:=by kernel_rfl
theorem w_ends(d:Nat){s p:AV}{P:List Pq}(hs:s.one=true/\still1 s=true)(hp:Sl Pq.c p P){x:Sp}(hx:0<=x.p/\x.p<P.length)(m:Mem) :
 xwz (xwy (d+1)) x3s [.agg [s,p],.agg [I x.p,I x.s]] m=some (.tup [I (frS P x),I (toS P x)],m):=by
 refine xy7 (by simp[hs.2,hp.still1]) ?_ m
 have ip:=hp.ixz Pq.len hx.1 hx.2
 have lp:=fun m=>xya (m:=m) (enc:=Pq.c) Pq.len (by omega) (show x.p.toNat<P.length by omega)
 rw[<-x10s (by omega)]at lp
 unfold frS toS
 generalize prAt P x.p=q at *
 simp only[Pq.c]at lp
 rw[xim]
 unfold x85 x9w
 by_cases c:x.s<0
 .simp[mem0,hs.1,hp.one,ip,lp,x100,c]
  exact RetF.tup rfl rfl
 .simp[mem0,hs.1,hp.one,ip,lp,x100,c]
  exact RetF.tup rfl rfl
theorem w_rends(d:Nat){s p:AV}{P:List Pq}(hs:s.one=true/\still1 s=true)(hp:Sl Pq.c p P){x:Sp}(hx:0<=x.p/\x.p<P.length)(h1:x.s=1\/x.s=-1)(m:Mem) :
 xwz (xwy (d+1)) x3t [.agg [s,p],.agg [I x.p,I x.s]] m=some (.tup [I (frS P x),I (toS P x)],m):=by
 refine xy7 (by simp[hs.2,hp.still1]) ?_ m
 have ip:=hp.ixz Pq.len hx.1 hx.2
 have lp:=fun m=>xya (m:=m) (enc:=Pq.c) Pq.len (by omega) (show x.p.toNat<P.length by omega)
 rw[<-x10s (by omega)]at lp
 unfold frS toS
 generalize prAt P x.p=q at *
 simp only[Pq.c]at lp
 rw[xin]
 unfold x86 x9x
 rcases h1 with c|c
 .simp[mem0,hs.1,hp.one,ip,lp,x100,c]
  exact RetF.tup rfl rfl
 .simp[mem0,hs.1,hp.one,ip,lp,x100,c]
  exact RetF.tup rfl rfl
def cyE(P:List Pq):Nat->Int->Int->List Sp->Int
 |_,b,e,[]=>bif !decide (b=e)then 25 else 0
 |k,b,e,x::r=>
  bif !(wi x.p 0 ((P.length:Int)-1))then 6
  else bif !decide (x.s=1)&&!decide (x.s=-1)then 2
  else bif decide (k=0)then cyE P (k+1) (frS P x) (toS P x) r
  else bif !decide (frS P x=e)then 14
  else cyE P (k+1) b (toS P x) r
def cycE(P:List Pq)(w:List Sp):Int:=bif decide (w.length=0)then 10 else bif decide (400<w.length)then 8 else cyE P 0 0 0 w
theorem x1ba(d:Nat){s p c:AV}{l:List Scene}{P:List Pq}{w:List Sp}(hs:Sl Scene.c s l)(hp:Sl Pq.c p P)(hc:Sl Sp.c c w)(hw:w.length<=1000)(hR:Right7 l P)(m:Mem) :
 xwz (xwy (d+2)) x3n [.agg [s,p],c] m=some (I (cycE P w),m):=by
 refine xy7 (by simp[hs.still1,hp.still1,hc.still]) ?_ m
 rw[xi3]
 unfold x7m x9c
 have hpl:=hR.pl
 simp[hs.one,hp.one,mem0,hc.len x11i]
 by_cases c1:w.length=0
 .have:w=[]:=List.length_eq_zero_iff.mp c1
  simp[this]
  exact RetF.st rfl (by simp[cycE,c1])
 have c1'':¬w=[]:=fun e=>c1 (by rw[e];rfl)
 simp[c1'']
 by_cases c2:400<w.length
 .have c2':(400:Int)<(w.length:Int):=by omega
  simp[c2']
  exact RetF.st rfl (by simp[cycE,c1,c2])
 have c2':¬(400:Int)<(w.length:Int):=by omega
 have hE:cycE P w=cyE P 0 0 0 w:=by simp[cycE,c1,c2]
 simp[c2',hE]
 unfold x5m
 refine xxu (N:=w.length) (fun n k (b:Int×Int) m fc=>x1b (xwy (d+1)) [] 0 n c (.ptr (0,0,2) 0 0) (I b.1) (I b.2) (I k) m fc)
  (fun k b m=>m.get (0,0,2)=some (.row [s,p] 0 false)/\cyE P k b.1 b.2 (w.drop k)=cyE P 0 0 0 w) _ ?_ ?_ NN 0 (0,0) _ _ (by omega) (by rw[xxb];omega) ⟨by simp,by simp⟩
 .rintro n k ⟨b,e⟩ m fc hk ⟨g2,hT⟩ next
  have hk':(k:Int)<(w.length:Int):=by omega
  have ix:=hc.ix Sp.len hk
  have ld:=fun m=>xya (m:=m) (enc:=Sp.c) Sp.len (by omega) hk
  rw[xxx hk]at hT
  generalize w[k]=x at *
  simp only[cyE]at hT
  simp only[x1b]
  unfold x5l x4l
  simp only[Sp.c]at ld
  simp[hc.len x11i,hk',ix,ld,x12e]
  generalize hm1:Mem.set _ _ _=m1
  have q2:m1.get (0,0,2)=some (.row [s,p] 0 false):=by rw[<-hm1];simp[g2]
  have q9:m1.get (0,fc+4+4,8)=some (.row [I x.p,I x.s] 0 false):=by rw[<-hm1];simp
  simp[q2,g2,hp.len xy8]
  rw[xx4 (by omega) (by omega)]
  simp[x134]
  cases c3:wi x.p 0 ((P.length:Int)-1)with
  |false=>
   simp[c3]at hT ⊢
   exact RetF.st rfl (by rw[<-hT])
  |true=>
   have hx:=wi_t c3
   have tl:(x.s=1\/x.s=-1)->∀fc2,RetF (fun v=>v=I (cyE P 0 0 0 w)) (x4k (xwy (d+1)) [] 0 (x1b (xwy (d+1)) [] 0 n) c (.ptr (0,0,2) 0 0) (I b) (I e) (I k) (I (frS P x)) (I (toS P x)) m1 fc2):=fun hs1 fc2=>by
    have hs2:(!decide (x.s=1)&&!decide (x.s=-1))=false:=by rcases hs1 with q|q<;>simp[q]
    rw[c3,hs2]at hT
    unfold x4k x4j xq
    by_cases c4:k=0
    .simp[c4]at hT
     simp(disch:=omega) [c4,xx4]
     have:=next (frS P x,toS P x) m1 (fc2+4+2+3) ⟨q2,by simpa[c4]using hT⟩
     simpa[c4]using this
    .have c4':¬(k:Int)=0:=by omega
     by_cases c5:frS P x=e
     .simp[c4,c5]at hT
      simp(disch:=omega) [c4,c5,xx4]
      exact next (b,toS P x) m1 _ ⟨q2,hT⟩
     .simp[c4,c5]at hT
      simp[c4,c5]
      exact RetF.st rfl (by rw[<-hT])
   simp[q9]
   by_cases s1:x.s=1
   .have:=tl (.inl s1)
    have he2:=fun m=>w_rends d ⟨hs.one,hs.still1⟩ hp (x:=x) ⟨hx.1,by omega⟩ (.inl s1) m
    simp[s1,q2,q9]
    rw[<-s1]
    simp[he2]
    exact this _
   .simp[s1,q9]
    by_cases s2:x.s=-1
    .have:=tl (.inr s2)
     have he2:=fun m=>w_rends d ⟨hs.one,hs.still1⟩ hp (x:=x) ⟨hx.1,by omega⟩ (.inr s2) m
     simp[s2,q2,q9]
     rw[<-s2]
     simp[he2]
     exact this _
    .simp[c3,s1,s2]at hT
     simp[s2]
     exact RetF.st rfl (by rw[<-hT])
 .rintro n ⟨b,e⟩ m fc ⟨g2,hT⟩
  rw[List.drop_of_length_le (Nat.le_refl _)]at hT
  simp only[cyE]at hT
  simp only[x1b]
  unfold x5l xh
  rw[<-hT]
  by_cases c:b=e
  .simp[hc.len x11i,c]
   exact RetF.st rfl rfl
  .simp[hc.len x11i,c,Ne.symm c]
   exact RetF.st rfl rfl
theorem z_2i:xck=[I 0,I 0]:=by kernel_rfl
theorem idx_2i0:sIdx Tryz.prog x4w (.agg [I 1,I (-1)]) (I 0)=some (I 1):=by kernel_rfl
theorem idx_2i1:sIdx Tryz.prog x4w (.agg [I 1,I (-1)]) (I 1)=some (I (-1)):=by kernel_rfl
theorem w_from(d:Nat){s p f:AV}{l:List Scene}{P:List Pq}{F:List Int}(hs:Sl Scene.c s l)(hp:Sl Pq.c p P)(hf:Ints f F)(v:Int)(m:Mem) :
 xwz (xwy (d+1)) x3x [.agg [s,p],I v,f] m=some (.clo x1t [.plit [f],.plit [s,p],.plit [I v]],m):=by
 refine xy7 (by simp[hs.still1,hp.still1,hf.still]) ?_ m
 rw[xit]
 unfold x8c xa3
 simp[mem0,hs.one,hp.one,hf.one,hf.cells]
 generalize hm:Mem.new _ _ _=m1
 have g5:m1.get (0,2,5)=some (.row [f] 0 false):=by rw[<-hm];simp
 have g3:m1.get (0,0,3)=some (.row [s,p] 0 false):=by rw[<-hm];simp
 have g4:m1.get (0,1,4)=some (.row [I v] 0 false):=by rw[<-hm];simp
 have e5:Go.Ix.frz m1.get 5 (.ptr (0,2,5) 0 0)=some (.plit [f]):=x14e g5 (xyl _ 2 hf.still)
 have e4:Go.Ix.frz m1.get 5 (.ptr (0,1,4) 0 0)=some (.plit [I v]):=x14e g4 rfl
 have e3:Go.Ix.frz m1.get 5 (.ptr (0,0,3) 0 0)=some (.plit [s,p]):=by
  rw[x16b g3]
  simp only[List.drop_zero,List.mapM_cons,List.mapM_nil,xyl m1.get 2 hs.still,xyl m1.get 2 hp.still]
  rfl
 refine RetF.mk (a':=.clo x1t [.plit [f],.plit [s,p],.plit [I v]]) ?_ rfl
 show(([AV.ptr (0,2,5) 0 0,.ptr (0,0,3) 0 0,.ptr (0,1,4) 0 0].mapM (Go.Ix.frz m1.get 5)).map fun l=>AV.clo _ l)=_
 simp only[List.mapM_cons,List.mapM_nil,e5,e4,e3]
 rfl
theorem x1bb{F:List Int}{k:Nat}(hk:k<F.length):xzk (F.take (k+1))=xzk (F.take k)++[⟨at0 F k,1⟩]++[⟨at0 F k,-1⟩]:=by
 unfold xzk
 rw[List.take_succ_eq_append_getElem hk,List.flatMap_append,xxa hk]
 simp
theorem c_from2(d:Nat){hh:FHs}{id:Id}{h:List AV->Mem->Option Mem}{s p f:AV}{l:List Scene}{P:List Pq}{F:List Int}(hs:Sl Scene.c s l)(hp:Sl Pq.c p P)(hf:Ints f F)(hF:F.length<=1000)(hr:∀i∈F,0<=i/\i<P.length)(hl:xz7 hh id=some h)(v:Int){m0:Mem}(Inv:List Sp->Mem->Prop)(Fin:Mem->Prop)(hst:∀pre m m',Inv pre m->m'.next=m.next->(∀i:Id,¬i.1=m0.next->m'.get i=m.get i)->Inv pre m')(hy:∀pre x m,InF F x->frS P x=v->Inv pre m->∃m2,h [.agg [I x.p,I x.s],I (toS P x)] m=some m2/\(live m2.get id=true/\Inv (pre++[x]) m2\/live m2.get id=false/\Fin m2))(hn:∀pre x m,InF F x->frS P x≠v->Inv pre m->Inv (pre++[x]) m)(h0:∀m,m.next=m0.next+1->(∀i:Id,m.get i=m0.get i)->Inv [] m) :
 ∃m',xwy (d+2) hh x1t [.yld id,.plit [f],.plit [s,p],.plit [I v]] m0=some (.tup [],m')/\(Inv (xzk F) m'\/Fin m'):=by
 rw[xj7]
 unfold x8q xaj
 generalize hu:m0.next=u at *
 simp only[sLd_cons,rd_f,xx7,hf.len xxy]
 refine xxu (N:=F.length) (σ:=Unit) (fun n k _ m fc=>x13 (xwy (d+1)) hh u n (.yld id) (.plit [s,p]) (.plit [I v]) f (I F.length) (I k) m fc) (fun k _ m=>Inv (xzk (F.take k)) m)
  (fun r=>∃m',r=some (.tup [],m')/\(Inv (xzk F) m'\/Fin m')) ?_ ?_ NN 0 () _ _ (by omega) (by rw[xxb];omega) (by simpa[xzk]using h0 ⟨m0.hp,u+1⟩ rfl (fun _=>rfl))
 .rintro n k-m fc hk hI next
  have hk':(k:Int)<(F.length:Int):=by omega
  have ix:=hf.ix xy2 hk
  have ld:=fun m=>xzy (m:=m) hk
  have hmem:at0 F k∈F:=by rw[xxa hk];exact List.getElem_mem hk
  have hx:=hr _ hmem
  have hsc:=x1bb hk
  generalize at0 F k=i at *
  simp only[x13]
  unfold x72 x4x
  simp only[xxt,hk',decide_true,xxz,xx7,ix,ld,z_2i]
  rw[show xxp [I 0,I 0] [(0,1,I 1),(1,1,I (-1))]=some (.agg [I 1,I (-1)]) by simp[xxp,xyc]]
  simp only[xx7]
  have one:∀(sg:Int) (q:Int) (pre:List Sp) (m:Mem) (fc n1:Nat),(sg=1\/sg=-1)->q<2->0<=q->sIdx Tryz.prog x4w (.agg [I 1,I (-1)]) (I q)=some (I sg)->Inv pre m ->
   (∀m' fc',Inv (pre++[⟨i,sg⟩]) m'->∃m2,x1l (xwy (d+1)) hh u (x13 (xwy (d+1)) hh u n) n1 (.yld id) (.plit [s,p]) (.plit [I v]) (I i) f (I F.length) (I k) (.agg [I 1,I (-1)]) (I (q+1)) m' fc'=some (.tup [],m2)/\(Inv (xzk F) m2\/Fin m2)) ->
   ∃m2,x1l (xwy (d+1)) hh u (x13 (xwy (d+1)) hh u n) (n1+1) (.yld id) (.plit [s,p]) (.plit [I v]) (I i) f (I F.length) (I k) (.agg [I 1,I (-1)]) (I q) m fc=some (.tup [],m2)/\(Inv (xzk F) m2\/Fin m2):=by
   intro sg q pre m fc n1 hsg hq2 hq0 hidx hI2 go
   have hIn:InF F ⟨i,sg⟩:=⟨hmem,hsg⟩
   have he:=fun m=>w_ends d ⟨hs.one,hs.still1⟩ hp (x:=⟨i,sg⟩) hx m
   simp only[x1l]
   unfold x71
   simp only[xxt,hq2,decide_true,xxz,xx7,hidx,x12e]
   rw[show xxp [I 0,I 0] [(0,1,I i),(1,1,I sg)]=some (.agg [I i,I sg]) by simp[xxp,xyc]]
   simp
   generalize hm1:Mem.set _ _ _=m1
   have q9:m1.get (u,fc+6,9)=some (.row [I i,I sg] 0 false):=by rw[<-hm1];simp
   have hI3:Inv pre m1:=hst pre m m1 hI2 (by rw[<-hm1];rfl) fun j hj=>by
    rw[<-hm1,Mem.get_set,if_neg (by rintro rfl;exact hj rfl),Mem.get_new,if_neg (by rintro rfl;exact hj rfl)]
   simp[q9,he]
   rw[xx4 (by omega) (by omega)]
   by_cases c:frS P ⟨i,sg⟩=v
   .obtain⟨m2,h1,h2⟩:=hy pre ⟨i,sg⟩ m1 hIn c hI3
    have hinv:xys (xwy (d+1)) hh 2 (.yld id) [.agg [I i,I sg],I (toS P ⟨i,sg⟩)] m1=some (B (live m2.get id),m2):=by
     show(match xz7 hh id with
      |some h=>(h [.agg [I i,I sg],I (toS P ⟨i,sg⟩)] m1).map fun(m':Mem)=>(B (live m'.get id),m')
      |none=>none)=_
     rw[hl]
     simp only
     rw[h1]
     rfl
    rcases h2 with ⟨hlv,h2⟩|⟨hlv,h2⟩
    .rw[hlv]at hinv
     simp[c,q9,hinv]
     exact go m2 _ h2
    .rw[hlv]at hinv
     simp[c,q9,hinv]
     exact .inr h2
   .simp[c]
    exact go m1 _ (hn pre ⟨i,sg⟩ m1 hIn c hI3)
  obtain⟨NM,hNM⟩:∃NM,NN=NM+1+1+1:=⟨NN-3,by have:=xxb;omega⟩
  rw[hNM]
  refine one 1 0 _ m _ _ (.inl rfl) (by omega) (by omega) idx_2i0 hI fun m1 fc1 h1=>?_
  refine one (-1) 1 _ m1 _ _ (.inr rfl) (by omega) (by omega) idx_2i1 h1 fun m2 fc2 h2=>?_
  simp only[x1l]
  unfold x71 xo
  simp(disch:=omega) [xx4]
  exact next () m2 _ (by rw[hsc];exact h2)
 .rintro n-m fc hI
  rw[List.take_of_length_le (Nat.le_refl _)]at hI
  simp only[x13]
  unfold x72
  simp
  exact .inl hI
def bE(b:Bool):List AV:=[B b]
theorem bE_len(b:Bool):(bE b).length=1:=rfl
variable{α:Type}{z:Nat}{enc:α->List AV}
def Ow(enc:α->List AV)(m:Mem)(id:Id)(l:List α):Prop:=m.get id=some (.row (l.flatMap enc) 0 false)
theorem Ow.fr{m m':Mem}{id:Id}{l:List α}(h:Ow enc m id l)(e:m'.get id=m.get id):Ow enc m' id l:=by unfold Ow;rw[e];exact h
theorem ow_ix{id:Id}{n:Nat}{k:Int}(h0:0<=k)(h1:k<n):sIx z (.sref id 0 0 n z true) (I k)=some (.ptr id 0 (k.toNat*z)):=by
 simp[sIx,asI,h0,h1]
theorem Ow.ld(hz:∀x,(enc x).length=z){m:Mem}{id:Id}{l:List α}(h:Ow enc m id l){k:Nat}(hk:k<l.length){g:Bool}:sLd g z (.ptr id 0 (k*z)) m=rd g z (enc l[k]++(l.drop (k+1)).flatMap enc):=by
 rw[ld_ptr h,x15n hz,xxx hk,List.flatMap_cons]
theorem x194(hz:∀x,(enc x).length=z)(x:α):∀(l:List α) (k:Nat),k<l.length->xxg (l.flatMap enc) (k*z) (enc x)=(l.set k x).flatMap enc
 |[],_,h=>by simp at h
 |y::r,0,_=>by
  simp only[xxg,Nat.zero_mul,Nat.zero_add,List.take_zero,List.nil_append,List.set_cons_zero,List.flatMap_cons]
  rw[hz,<-hz y,List.drop_append_of_le_length (Nat.le_refl _),List.drop_of_length_le (Nat.le_refl _),List.nil_append]
 |y::r,k+1,h=>by
  have ih:=x194 hz x r k (by simpa using h)
  simp only[xxg,List.set_cons_succ,List.flatMap_cons]at ih ⊢
  rw[Nat.succ_mul,show k*z+z=(enc y).length+k*z by rw[hz];omega,List.take_length_add_append,Nat.add_assoc,List.drop_append,List.append_assoc,<-ih]
  have e:(enc y).length+(k*z+(enc x).length)-(enc y).length=k*z+(enc x).length:=by omega
  rw[e,List.drop_of_length_le (by omega),List.nil_append]
theorem Ow.st(hz:∀x,(enc x).length=z){m:Mem}{id:Id}{l:List α}(h:Ow enc m id l){k:Nat}(hk:k<l.length){x:α}{v:AV}(hv:v.cells=enc x)(h1:(enc x).all AV.one=true) :
 (∀{R:Type} (K:Mem->Option R),sSt z (.ptr id 0 (k*z)) v m K=K (m.set id (.row ((l.set k x).flatMap enc) 0 false)))/\Ow enc (m.set id (.row ((l.set k x).flatMap enc) 0 false)) id (l.set k x):=by
 refine⟨fun K=>?_,by unfold Ow;simp⟩
 have hl:=xyv hz l
 rw[st_ptr (z:=z) (x:=v) (k:=K) h (by rw[hv,hz]) (by rw[hl];have:=Nat.mul_le_mul_right z (show k+1<=l.length from hk);rw[Nat.succ_mul]at this;exact this) (by rw[hv];exact h1),hv,x194 hz x l k hk]
theorem zeros_c{z:List AV}{c:AV}(hc:∀i,i<z.length->z.getD i (.sc undef)=c)(h0:0<z.length)(k:Nat):xxv z k=List.replicate k c:=by
 unfold xxv
 apply List.ext_getElem
 .simp
 .intro i h1 h2
  simp only[List.getElem_map,List.getElem_range,List.getElem_replicate]
  exact hc _ (Nat.mod_lt _ h0)
theorem rep_flat(n:Nat)(c:AV)(x:α)(hx:enc x=List.replicate z c):(List.replicate n x).flatMap enc=List.replicate (n*z) c:=by
 induction n with
 |zero=>simp
 |succ n ih=>
  rw[List.replicate_succ,List.flatMap_cons,ih,hx,Nat.succ_mul,Nat.add_comm,List.replicate_append_replicate]
theorem mkSl_c{R:Type}{zc:List AV}{c:AV}{bytes:Nat}(hb:bytes<=64)(hzl:zc.length=z)(hc:∀i,i<zc.length->zc.getD i (.sc undef)=c)(h0:0<zc.length){x:α}(hx:enc x=List.replicate z c){n:Nat}(hn:n<=1000000)(id:Id)(m:Mem)(k:AV->Mem->Option R) :
 x120 zc z bytes (I n) (I n) id m k=k (.sref id 0 0 n z true) (m.new id (.row ((List.replicate n x).flatMap enc) 0 false)):=by
 have h1:bytes*n<=64*1000000:=Nat.mul_le_mul hb hn
 simp only[x120,asI]
 rw[if_pos ⟨by omega,Int.le_refl _,by omega,by omega⟩,zeros_c hc h0,rep_flat n c x hx]
 simp
theorem zb_b7:x4n=[B false]:=by kernel_rfl
theorem mkSl_b{R:Type}{n:Nat}(hn:n<=1000000)(id:Id)(m:Mem)(k:AV->Mem->Option R):x120 x4n 1 1 (I n) (I n) id m k=k (.sref id 0 0 n 1 true) (m.new id (.row ((List.replicate n false).flatMap bE) 0 false)):=
 mkSl_c (enc:=bE) (c:=B false) (by omega) (by rw[zb_b7];rfl) (by rw[zb_b7];intro i hi;simp at hi;subst hi;rfl) (by rw[zb_b7];simp) rfl hn id m k
theorem Ow.ldB{m:Mem}{id:Id}{l:List Bool}(h:Ow bE m id l){k:Int}(h0:0<=k)(hk:k<l.length):sLd false 1 (.ptr id 0 k.toNat) m=some (B (l.getD k.toNat false)):=by
 have h1:k.toNat<l.length:=by omega
 have:=h.ld bE_len h1 (g:=false)
 rw[Nat.mul_one]at this
 rw[this,List.getD_eq_getElem?_getD,List.getElem?_eq_getElem h1]
 rfl
theorem ow_ix1{id:Id}{n:Nat}{k:Int}(h0:0<=k)(h1:k<n):sIx 1 (.sref id 0 0 n 1 true) (I k)=some (.ptr id 0 k.toNat):=by
 simpa using ow_ix (z:=1) (id:=id) h0 h1
theorem Ow.st1{g:α->AV}(he:∀x,enc x=[g x]){m:Mem}{id:Id}{l:List α}(h:Ow enc m id l){k:Int}(h0:0<=k)(hk:k<l.length){x:α}(hc:(g x).cells=[g x])(h1:(g x).one=true) :
 (∀{R:Type} (K:Mem->Option R),sSt 1 (.ptr id 0 k.toNat) (g x) m K=K (m.set id (.row ((l.set k.toNat x).flatMap enc) 0 false)))/\Ow enc (m.set id (.row ((l.set k.toNat x).flatMap enc) 0 false)) id (l.set k.toNat x):=by
 have:=h.st (z:=1) (fun x=>by rw[he];rfl) (k:=k.toNat) (by omega) (x:=x) (v:=g x) (by rw[hc,he]) (by rw[he];simp[h1])
 simpa using this
end Go.Ix
