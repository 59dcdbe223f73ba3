import Derived.Test.YtpeakdjfagbpcaaGreatWg4
import Derived.Test.YtpeakdjfagbpcaaGreatWg2
import Derived.Test.YtpeakdjfagbpcaaGreatWg3
set_option linter.unusedSimpArgs false
set_option linter.unusedVariables false
namespace Go.Ix
theorem asc_last{F:List Int}(h:Asc F){a:Int}(ha:a∈F):a<=at0 F (F.length-1):=by
 obtain⟨k,hk,rfl⟩:=List.mem_iff_getElem.mp ha
 rw[xva (by omega)]
 by_cases c:k=F.length-1
 .simp only[c];exact Int.le_refl _
 .have:=List.pairwise_iff_getElem.mp h k (F.length-1) hk (by omega) (by omega)
  omega
theorem x16v{l:List Scene}{P:List Pq}(h:Right7 l P){F:List Int}:∀(suf:List Int) (k:Nat),F.drop k=suf->Asc (F.take k)->For l.length P (F.take k)->forE l.length P F k suf=0->Asc F/\For l.length P F
 |[],k,hd,h1,h2,_=>by
  have:F.length<=k:=List.drop_eq_nil_iff.mp hd
  rw[List.take_of_length_le this]at h1 h2
  exact⟨h1,h2⟩
 |x::r,k,hd,h1,h2,hE=>by
  obtain⟨hk,he,hd⟩:=xxq hd
  simp only[forE]at hE
  cases c1:wi x 0 ((P.length:Int)-1)with
  |false=>simp[c1]at hE
  |true=>
   have hx:=wi_t c1
   cases c2:decide (0<k)&&decide (x<=at0 F (k-1))with
   |true=>simp[c1,c2]at hE
   |false=>
    simp only[c1,c2,Bool.not_true,cond_false]at hE
    by_cases c3:at0 (uniM l.length P (F.take k)) (prAt P x).a.toNat=at0 (uniM l.length P (F.take k)) (prAt P x).b.toNat
    .simp[c3]at hE
    .simp[c3]at hE
     have hlen:(F.take k).length=k:=by simp;omega
     have hA:Asc (F.take (k+1)):=by
      rw[List.take_succ_eq_append_getElem hk,he]
      unfold Asc
      rw[List.pairwise_append]
      refine⟨h1,by simp,fun a ha b hb=>?_⟩
      simp at hb
      subst hb
      have h3:=asc_last h1 ha
      rw[hlen]at h3
      have h0:0<k:=by
       cases k with
       |zero=>simp at ha
       |succ k=>omega
      have e:at0 (F.take k) (k-1)=at0 F (k-1):=by
       rw[xva (by omega),xva (by omega),List.getElem_take]
      rw[e]at h3
      simp[h0]at c2
      omega
     refine x16v h r (k+1) hd hA ⟨fun i hi=>?_,hA.nodup,?_⟩ hE
     .rw[List.take_succ_eq_append_getElem hk,he]at hi
      rcases List.mem_append.mp hi with hi|hi
      .exact h2.rng i hi
      .simp at hi;subst hi;omega
     .rw[List.take_succ_eq_append_getElem hk,he]
      unfold prs
      rw[List.map_append]
      exact Indep.app.mpr ⟨h2.ind,c3,trivial⟩
theorem x16w{l:List Scene}{P:List Pq}{F:List Int}(hA:Asc F)(hF:For l.length P F):∀(suf:List Int) (k:Nat),F.drop k=suf->forE l.length P F k suf=0
 |[],_,_=>rfl
 |x::r,k,hd=>by
  obtain⟨hk,he,hd⟩:=xxq hd
  have ih:=x16w hA hF r (k+1) hd
  have hx:=hF.rng x (by rw[<-he];exact List.getElem_mem hk)
  have c1:wi x 0 ((P.length:Int)-1)=true:=by
   unfold wi
   rw[decide_eq_true_iff]
   omega
  have c2:(decide (0<k)&&decide (x<=at0 F (k-1)))=false:=by
   by_cases h0:0<k
   .have:=List.pairwise_iff_getElem.mp hA (k-1) k (by omega) hk (by omega)
    rw[he,<-xva (by omega)]at this
    simp[h0];omega
   .simp[h0]
  have c3:¬at0 (uniM l.length P (F.take k)) (prAt P x).a.toNat=at0 (uniM l.length P (F.take k)) (prAt P x).b.toNat:=by
   have:=hF.ind
   rw[<-List.take_append_drop (k+1) F,List.take_succ_eq_append_getElem hk,he]at this
   unfold prs at this
   rw[List.map_append,List.map_append]at this
   exact(Indep.app.mp (Indep.app.mp this).1).2.1
  rw[forE,c1,c2,decide_eq_false c3]
  exact ih
theorem x16x{l:List Scene}{P:List Pq}(h:Right7 l P){F:List Int}:xvy l.length P F=0↔Tree l.length P F:=by
 have hopen:xxu l.length P F=false↔∀p∈P,Sm (joinsM (freshM l.length) (prs P F)) p.a.toNat p.b.toNat:=by
  unfold xxu uniM Sm
  rw[List.any_eq_false]
  simp
 unfold xvy
 constructor
 .intro hE
  by_cases c:forE l.length P F 0 F=0
  .obtain⟨h1,h2⟩:=x16v h F 0 rfl (by simp[Asc]) ⟨fun i hi=>by simp at hi,by simp,by simp[prs,Indep]⟩ c
   refine⟨h2,h1,hopen.mp ?_⟩
   cases ho:xxu l.length P F with
   |false=>rfl
   |true=>simp[c,ho]at hE
  .simp[c]at hE
 .intro hT
  have:=x16w hT.asc hT.fo F 0 rfl
  rw[this,hopen.mpr hT.all]
  rfl
theorem x123(l:List Scene)(P:List Pq):∀(F:List Int) (s:Int),sumL l P s F=s+(F.map fun i=>lenP l (prAt P i)).sum
 |[],s=>by simp[sumL]
 |i::r,s=>by
  rw[sumL,x123 l P r,List.map_cons,List.sum_cons]
  omega
open Go.Proofs
theorem x13z{objs:Id->Option Ob}{id:Id}{cs:List AV}{v off k:Nat}{f:Bool}(h:objs id=some (.row cs v f)):Go.Ix.frz objs (k+1) (.ptr id v off)=((cs.drop off).mapM (Go.Ix.frz objs k)).map AV.plit:=by
 simp only[Go.Ix.frz,h,if_true]
theorem x124{objs:Id->Option Ob}{id:Id}{a a':AV}{v k:Nat}{f:Bool}(h:objs id=some (.row [a] v f))(ha:Go.Ix.frz objs k a=some a'):Go.Ix.frz objs (k+1) (.ptr id v 0)=some (.plit [a']):=by
 rw[x13z h]
 simp only[List.drop_zero,List.mapM_cons,List.mapM_nil,ha]
 rfl
theorem frz_clo1{objs:Id->Option Ob}{f:FuncId}{a a':AV}{k:Nat}(ha:Go.Ix.frz objs k a=some a'):Go.Ix.frz objs (k+1) (.clo f [a])=some (.clo f [a']):=by
 show(([a].mapM (Go.Ix.frz objs k)).map fun l=>AV.clo f l)=_
 simp only[List.mapM_cons,List.mapM_nil,ha]
 rfl
theorem frz_two{objs:Id->Option Ob}{a b b':AV}(ha:still a=true)(hb:Go.Ix.frz objs deep b=some b'):[a,b].mapM (Go.Ix.frz objs deep)=some [a,b']:=by
 simp only[List.mapM_cons,List.mapM_nil,hb]
 rw[show Go.Ix.frz objs deep a=some a from xwe objs 4 ha]
 rfl
def cfE(l:List Scene)(P:List Pq)(F:List Int):Int:=bif !decide ((net7 l P).2=0)then(net7 l P).2 else xvy l.length P F
def cfN(l:List Scene)(P:List Pq)(F:List Int):Int:=bif decide (cfE l P F=0)then sumL l P 0 F else 0
theorem x140:x49=[nilS,nilS]:=by kernel_rfl
theorem z_union:xbr=[nilS]:=by kernel_rfl
theorem x16y{n:Nat}{P:List Pq}{F:List Int}{k:Nat}(hk:k<F.length)(h:Rng n P (F.take k)){x:Int}(hx:F[k]=x)(h1:0<=x/\x<P.length)(h2:PqIn n (prAt P x)):Rng n P (F.take (k+1)):=by
 rw[List.take_succ_eq_append_getElem hk,hx]
 intro i hi
 rcases List.mem_append.mp hi with hi|hi
 .exact h i hi
 .simp at hi;subst hi;exact⟨h1,h2⟩
theorem x199(d:Nat){s p f:AV}{l:List Scene}{P:List Pq}{F:List Int}(hs:Sl Scene.c s l)(hp:Sl Pq.c p P)(hf:Ints f F)(hF:F.length<=1000) :
 RetF (fun v=>v=.tup [I (cfN l P F),I (cfE l P F)]) (xuu (d+8) [] x1o [.agg [s,p],f] mem0):=by
 rw[xh2]
 unfold x7g x8w
 simp[hs.one,hp.one,mem0,x13p (d+1) hs hp]
 by_cases he:(net7 l P).2=0
 rotate_left
 .have hE:cfE l P F=(net7 l P).2:=by simp[cfE,he]
  simp[he]
  exact RetF.tup rfl (by rw[show cfN l P F=0 by simp[cfN,hE,he],hE])
 have hR:=x117 he
 have hE:cfE l P F=xvy l.length P F:=by simp[cfE,he]
 have hN:cfN l P F=bif decide (xvy l.length P F=0)then sumL l P 0 F else 0:=by rw[cfN,hE]
 rw[hE,hN]
 obtain⟨a,M,hc,hG,hM,hfr⟩:=x197 (d+6) (n:=l.length) (by have:=hR.ll;omega) ((⟨[],1⟩:Mem).new (0,0,2) (.row [s,p] 0 false))
 simp[he,hs.len xvf,hc,z_union]
 have hone:=hG.one
 simp[hone.1,hone.2]
 generalize hm1:Mem.set _ _ _=m1
 have hMn:M.next=2:=by rw[hM];rfl
 have hokf:∀j:Id,j.1=1->j.1<m1.next:=fun j hj=>by
  have:m1.next=M.next:=by rw[<-hm1];rfl
  rw[this];omega
 have g2:m1.get (0,0,2)=some (.row [s,p] 0 false):=by
  rw[<-hm1,Mem.get_set,if_neg (by simp),Mem.get_new,if_neg (by simp),hfr _ (by show(0:Nat)<1;omega)]
  simp
 have g7:m1.get (0,12,7)=some (.row [a] 0 false):=by rw[<-hm1];simp
 have hG1:Gk 1 intE (fun id=>id.1=1) m1 a (freshM l.length):=hG.frame fun j hj=>by
  have hj':j.1=1:=hj
  rw[<-hm1,Mem.get_set,if_neg (by rintro rfl;simp at hj'),Mem.get_new,if_neg (by rintro rfl;simp at hj')]
 have hm1n:2<=m1.next:=by rw[<-hm1];show 2<=M.next;omega
 unfold x56
 simp[hf.len xw9]
 refine xvh (N:=F.length) (σ:=Unit) (fun n k _ m fc=>x1a (xuu (d+7)) [] 0 n f (.ptr (0,0,2) 0 0) (.ptr (0,12,7) 0 0) f (I F.length) (I k) m fc)
  (fun k _ m=>(m.get (0,0,2)=some (.row [s,p] 0 false)/\m.get (0,12,7)=some (.row [a] 0 false)/\2<=m.next)/\Gk 1 intE (fun id=>id.1=1) m a (uniM l.length P (F.take k))/\Rng l.length P (F.take k)/\forE l.length P F k (F.drop k)=forE l.length P F 0 F) _ ?_ ?_ NN 0 () m1 _ (by omega) (by rw[xv8];omega)
  ⟨⟨g2,g7,hm1n⟩,by simpa[uniM,prs,joinsM]using hG1,fun i hi=>by simp at hi,by simp⟩
 .rintro n k-m fc hk ⟨⟨g2,g7,hmn⟩,hG,hRk,hT⟩ next
  have hk':(k:Int)<(F.length:Int):=by omega
  have ix:=hf.ix xvu hk
  have ld:=fun m=>xwf (m:=m) hk
  have hpl:=hR.pl
  have hkx:F[k]=at0 F k:=(xva hk).symm
  rw[xvs hk,hkx]at hT
  have hL:=(x116 hRk).len
  have hus:=x16j (n:=l.length) (P:=P) hk
  simp only[forE]at hT
  simp only[x1a]
  unfold x55
  simp[hk',ix,ld,g2,hp.len xw3]
  rw[xv1 (by omega) (by omega)]
  simp[x107]
  have fin:∀e:Int,e≠0->forE l.length P F 0 F=e->xvy l.length P F=e:=fun e h0 h1=>by
   unfold xvy
   rw[h1]
   simp[h0]
  cases c1:wi (at0 F k) 0 ((P.length:Int)-1)with
  |false=>
   simp[c1]at hT ⊢
   exact RetF.tup rfl (by rw[fin 6 (by omega) hT.symm];rfl)
  |true=>
   have hx:=wi_t c1
   have hq:=hR.at (i:=at0 F k) ⟨hx.1,by omega⟩
   have ip:=hp.ixz Pq.len hx.1 (show at0 F k<P.length by omega)
   have lp:=fun m=>xw8 (m:=m) (enc:=Pq.c) Pq.len (by omega) (show(at0 F k).toNat<P.length by omega)
   rw[<-xzd (by omega)]at lp
   have hRs:=x16y hk hRk hkx ⟨hx.1,by omega⟩ hq
   have join:(decide (0<k)&&decide (at0 F k<=at0 F (k-1)))=false->RetF (fun v=>v=.tup [I (bif decide (xvy l.length P F=0)then sumL l P 0 F else 0),I (xvy l.length P F)])
    ((sLd false 1 (.ptr (0,12,7) 0 0) m).bind fun t47=>(sIx 2 p (I (at0 F k))).bind fun t51=>(sLd true 2 t51 m).bind fun t52=>(xuu (d+7) [] x3c [t47,t52] m).bind fun p53=>(sNot p53.1).bind fun t54=>
      xuw t54 (some (AV.tup [(I 0),(I 21)],p53.2)) ((sAdd (I (k:Int)) (I 1)).bind fun t55=>x1a (xuu (d+7)) [] 0 n f (.ptr (0,0,2) 0 0) (.ptr (0,12,7) 0 0) f (I F.length) t55 p53.2 (fc+37))):=fun c2=>by
    rw[c1,c2]at hT
    have hq':=hq
    obtain⟨m2,e1,e2,e3,e4⟩:=c_join (d+6) [] hG (fun j hj=>by have hj':j.1=1:=hj;omega) (p:=prAt P (at0 F k)) (by rw[hL];exact hq) (by rw[hL];have:=hR.ll;omega)
    simp only[Pq.c]at lp
    simp[g7,ip,lp,e1]
    by_cases c3:at0 (uniM l.length P (F.take k)) (prAt P (at0 F k)).a.toNat=at0 (uniM l.length P (F.take k)) (prAt P (at0 F k)).b.toNat
    .simp[c3]at hT ⊢
     exact RetF.tup rfl (by rw[fin 21 (by omega) hT.symm];rfl)
    .simp[c3]at hT
     simp(disch:=omega) [c3,xv1]
     refine next () m2 _ ⟨⟨?_,?_,by omega⟩,by rw[hus];exact e2,hRs,hT⟩
     .rw[e4 _ (by show ¬((0:Nat)=1);omega) (by show 0<m.next;omega)];exact g2
     .rw[e4 _ (by show ¬((0:Nat)=1);omega) (by show 0<m.next;omega)];exact g7
   by_cases h0:0<k
   .have h0':(0:Int)<(k:Int):=by omega
    have ix2:=hf.ix xvu (show k-1<F.length by omega)
    have ld2:=fun m=>xwf (m:=m) (show k-1<F.length by omega)
    have hk1:(k:Int)-1=((k-1:Nat):Int):=by omega
    simp[h0,g2]
    rw[xv1 (by omega) (by omega),hk1]
    simp[ix2,ld2,g2]
    by_cases c2:at0 F k<=at0 F (k-1)
    .simp[c1,c2,h0]at hT
     simp[c2]
     exact RetF.tup rfl (by rw[fin 9 (by omega) hT.symm];rfl)
    .simp[c2]
     have:=join (by simp[c2])
     simpa[g7,ip]using this
   .have h0':¬(0:Int)<(k:Int):=by omega
    simp[h0,g2]
    have:=join (by simp[h0])
    simpa[g7,ip]using this
 .rintro n-m fc ⟨⟨g2,g7,hmn⟩,hG,hRk,hT⟩
  have hk:¬((F.length:Int)<(F.length:Int)):=by omega
  rw[List.take_of_length_le (Nat.le_refl _)]at hG hRk
  rw[List.drop_of_length_le (Nat.le_refl _)]at hT
  have hT0:forE l.length P F 0 F=0:=hT.symm
  have hfo:xvy l.length P F=bif xxu l.length P F then 25 else 0:=by unfold xvy;simp[hT0]
  simp only[x1a]
  unfold x55 x1z
  simp[g2]
  obtain⟨a',ha',hfz⟩:=hG.sl1 2
  have hlist:=frz_two (objs:=m.get) (a:=p) hp.still (frz_clo1 (f:=x1p) (x124 (k:=4) g7 hfz))
  obtain⟨m',hcf⟩:=x198 (d+4) (f:=x1p) (caps:=[.plit [a']]) (q:=fun x=>!decide (at0 (uniM l.length P F) x.a.toNat=at0 (uniM l.length P F) x.b.toNat)) hp (by have:=hR.pl;omega)
   (fun x hx hs m=>a_apartPq (d+4) ha' (by rw[(x116 hRk).len];exact hR.pr x hx) hs m) rfl
  obtain⟨v,m2,hv,hc,hmn2,hrow⟩:=callR (call:=xuu (d+7)) (f:=x3d) hlist (T:=fun v=>v=B (xxu l.length P F)) (by rw[hcf];exact RetF.st rfl rfl)
  subst hv
  obtain⟨b',hg2⟩:=hrow _ _ _ _ g2
  simp[hc]
  cases ho:xxu l.length P F with
  |true=>
   simp
   exact RetF.tup rfl (by rw[hfo,ho];rfl)
  |false=>
   simp[hg2,x140]
   have hw:=w_total (d+4) hs hp hf hR.ib hRk hF
   simp[hw,xv6,xvx]
   exact RetF.tup rfl (by rw[hfo,ho];rfl)
theorem x16z(d:Nat){s p f:AV}{l:List Scene}{P:List Pq}{F:List Int}(hs:Sl Scene.c s l)(hp:Sl Pq.c p P)(hf:Ints f F)(hF:F.length<=1000)(m:Mem) :
 xuv (xuu (d+8)) x1o [.agg [s,p],f] m=some (.tup [I (cfN l P F),I (cfE l P F)],m):=
 xw5 (by simp[hs.still1,hp.still1,hf.still]) (x199 d hs hp hf hF) m
theorem ints_pre{a:AV}{l:List Int}(h:Ints a l){k:Nat}(hk:k<=l.length)(h0:0<l.length):∃a',Ints a' (l.take k)/\xwv Tryz.prog x8 a none (some (I k))=some a':=by
 rcases h with ⟨_,rfl⟩|⟨x,rfl⟩
 .simp at h0
 obtain⟨i,hi,hs⟩:=x13u
 have hl:=xyn l
 refine⟨.slit ((l.take k).flatMap intE) (l.take k).length (x&&decide ((k:Int)=(l.length:Int))),Sl.lit _ _,?_⟩
 have e1:xv9 (.slit (l.flatMap intE) l.length x)=none:=_root_.id rfl
 have e2:asI (I (k:Int))=some (k:Int):=rfl
 have e3:asI (I 0)=some 0:=rfl
 unfold xwv
 simp only[e1,xw9,hi,Option.getD_some,Option.getD_none,e2,e3,hs,Nat.mul_one,Int.sub_zero,Int.toNat_natCast]
 rw[if_pos ⟨by omega,by omega,by omega,by omega⟩,List.length_take,Nat.min_eq_left hk,xym,xym,List.map_take]
 rfl
theorem sumL_snoc(l:List Scene)(P:List Pq){F:List Int}{k:Nat}(hk:k<F.length):sumL l P 0 (F.take (k+1))=sumL l P 0 (F.take k)+lenP l (prAt P (at0 F k)):=by
 rw[List.take_succ_eq_append_getElem hk,x123,x123,List.map_append,List.sum_append,xva hk]
 simp
theorem sumL_in{l:List Scene}{P:List Pq}(hb:InB l):∀{F:List Int},Rng l.length P F->0<=sumL l P 0 F/\sumL l P 0 F<=F.length*300000
 |[],_=>by simp[sumL]
 |i::r,h=>by
  have ih:=sumL_in hb (F:=r) fun j hj=>h j (List.mem_cons_of_mem _ hj)
  have:=x13x hb (h i (List.mem_cons_self ..)).2
  rw[x123]at ih ⊢
  rw[List.map_cons,List.sum_cons,List.length_cons]
  omega
theorem x19a(d:Nat){s p f:AV}{l:List Scene}{P:List Pq}{F:List Int}(hs:Sl Scene.c s l)(hp:Sl Pq.c p P)(hf:Ints f F)(hF:F.length<=1000)(hR:Right7 l P) :
 RetF (fun v=>v=.tup [I (bif decide (xvy l.length P F=0)then sumL l P 0 F else 0),I (xvy l.length P F)]) (xuu (d+3) [] x30 [.agg [s,p],f] mem0):=by
 rw[xh5]
 unfold x7j x90 x5b
 simp[hs.one,hp.one,mem0]
 have hpl:=hR.pl
 have hll:=hR.ll
 refine xvh (N:=F.length) (fun n k t m fc=>x23 (xuu (d+2)) [] 0 n f (.ptr (0,0,2) 0 0) t (I k) m fc)
  (fun k t m=>m.get (0,0,2)=some (.row [s,p] 0 false)/\t=I (sumL l P 0 (F.take k))/\Rng l.length P (F.take k)/\forE l.length P F k (F.drop k)=forE l.length P F 0 F) _ ?_ ?_ NN 0 (I 0) _ _ (by omega) (by rw[xv8];omega)
  ⟨by simp,by simp[sumL],fun i hi=>by simp at hi,by simp⟩
 .rintro n k t m fc hk ⟨g2,rfl,hRk,hT⟩ next
  have hk':(k:Int)<(F.length:Int):=by omega
  have ix:=hf.ix xvu hk
  have ld:=fun m=>xwf (m:=m) hk
  have hkx:F[k]=at0 F k:=(xva hk).symm
  rw[xvs hk,hkx]at hT
  have hL:=(x116 hRk).len
  have hsn:=sumL_snoc l P hk
  obtain⟨s0,s1⟩:=sumL_in hR.ib hRk
  have hkl:(F.take k).length=k:=by simp;omega
  rw[hkl]at s1
  simp only[forE]at hT
  simp only[x23]
  unfold x5a
  simp[hf.len xw9,hk',ix,ld,g2,hp.len xw3]
  rw[xv1 (by omega) (by omega)]
  simp[x106]
  have fin:∀e:Int,e≠0->forE l.length P F 0 F=e->xvy l.length P F=e:=fun e h0 h1=>by
   unfold xvy
   rw[h1]
   simp[h0]
  cases c1:wi (at0 F k) 0 ((P.length:Int)-1)with
  |false=>
   simp[c1]at hT ⊢
   exact RetF.tup rfl (by rw[fin 6 (by omega) hT.symm];rfl)
  |true=>
   have hx:=wi_t c1
   have hq:=hR.at (i:=at0 F k) ⟨hx.1,by omega⟩
   have ip:=hp.ixz Pq.len hx.1 (show at0 F k<P.length by omega)
   have l0:=fun m=>xxf (m:=m) (enc:=Pq.c) (show(at0 F k).toNat<P.length by omega) 0 rfl
   have l1:=fun m=>xxf (m:=m) (enc:=Pq.c) (show(at0 F k).toNat<P.length by omega) 1 rfl
   rw[<-xzd (by omega)]at l0 l1
   simp only[List.drop_zero]at l0
   simp only[List.drop_one]at l1
   have hRs:=x16y hk hRk hkx ⟨hx.1,by omega⟩ hq
   obtain⟨f',hf',hsl⟩:=ints_pre hf (k:=k) (by omega) (by omega)
   obtain⟨v,hv,hj⟩:=x16k (d+1) hs hp hf' hRk hll (by omega) m
   obtain⟨q0,q1,q2⟩:=hq
   have ia:=hv.ixI xvu (k:=(prAt P (at0 F k)).a) q0 (by rw[hL];omega)
   have ib:=hv.ixI xvu (k:=(prAt P (at0 F k)).b) (by omega) (by rw[hL];omega)
   have la:=xwf (m:=m) (l:=uniM l.length P (F.take k)) (k:=(prAt P (at0 F k)).a.toNat) (by rw[hL];omega)
   have lb:=xwf (m:=m) (l:=uniM l.length P (F.take k)) (k:=(prAt P (at0 F k)).b.toNat) (by rw[hL];omega)
   have hlen:=w_rLength d hs hp hR.ib ⟨hx.1,by omega⟩ (hR.at (i:=at0 F k) ⟨hx.1,by omega⟩) m
   have hlin:=x13x hR.ib (hR.at (i:=at0 F k) ⟨hx.1,by omega⟩)
   have tail:(decide (0<k)&&decide (at0 F k<=at0 F (k-1)))=false ->
    (at0 (uniM l.length P (F.take k)) (prAt P (at0 F k)).a.toNat=at0 (uniM l.length P (F.take k)) (prAt P (at0 F k)).b.toNat->xvy l.length P F=21) /\
    (¬at0 (uniM l.length P (F.take k)) (prAt P (at0 F k)).a.toNat=at0 (uniM l.length P (F.take k)) (prAt P (at0 F k)).b.toNat->forE l.length P F (k+1) (F.drop (k+1))=forE l.length P F 0 F):=fun c2=>by
    rw[c1,c2]at hT
    refine⟨fun c3=>?_,fun c3=>?_⟩
    .simp[c3]at hT
     exact fin 21 (by omega) hT.symm
    .simp[c3]at hT
     exact hT
   by_cases h0:0<k
   .have ix2:=hf.ix xvu (show k-1<F.length by omega)
    have ld2:=fun m=>xwf (m:=m) (show k-1<F.length by omega)
    have hk1:(k:Int)-1=((k-1:Nat):Int):=by omega
    simp[h0,g2,ix,ld]
    rw[xv1 (by omega) (by omega),hk1]
    simp[ix2,ld2,g2]
    by_cases c2:at0 F k<=at0 F (k-1)
    .simp[c1,c2,h0]at hT
     simp[c2]
     exact RetF.tup rfl (by rw[fin 9 (by omega) hT.symm];rfl)
    .obtain⟨t1,t2⟩:=tail (by simp[c2])
     simp[c2,hsl,hj,g2,ix,ld,ip,l0,l1,ia,ib,la,lb]
     by_cases c3:at0 (uniM l.length P (F.take k)) (prAt P (at0 F k)).a.toNat=at0 (uniM l.length P (F.take k)) (prAt P (at0 F k)).b.toNat
     .simp[c3]
      exact RetF.tup rfl (by rw[t1 c3];rfl)
     .simp[c3,g2,ix,ld,hlen,hs.clean1,hp.clean1]
      rw[xv1 (by omega) (by omega),xv1 (by omega) (by omega)]
      exact next _ m _ ⟨g2,by rw[hsn],hRs,t2 c3⟩
   .obtain⟨t1,t2⟩:=tail (by simp[h0])
    simp[h0,hsl,hj,g2,ix,ld,ip,l0,l1,ia,ib,la,lb]
    by_cases c3:at0 (uniM l.length P (F.take k)) (prAt P (at0 F k)).a.toNat=at0 (uniM l.length P (F.take k)) (prAt P (at0 F k)).b.toNat
    .simp[c3]
     exact RetF.tup rfl (by rw[t1 c3];rfl)
    .simp[c3,g2,ix,ld,hlen,hs.clean1,hp.clean1]
     rw[xv1 (by omega) (by omega),xv1 (by omega) (by omega)]
     exact next _ m _ ⟨g2,by rw[hsn],hRs,t2 c3⟩
 .rintro n t m fc ⟨g2,rfl,hRk,hT⟩
  have hk:¬((F.length:Int)<(F.length:Int)):=by omega
  rw[List.take_of_length_le (Nat.le_refl _)]at hRk ⊢
  rw[List.drop_of_length_le (Nat.le_refl _)]at hT
  have hT0:forE l.length P F 0 F=0:=hT.symm
  have hfo:xvy l.length P F=bif xxu l.length P F then 25 else 0:=by unfold xvy;simp[hT0]
  have hL:=(x116 hRk).len
  obtain⟨v,hv,hj⟩:=x16k (d+1) hs hp hf hRk hll (by omega) m
  simp only[x23]
  unfold x5a x22
  simp[hf.len xw9,g2,hj]
  unfold x59
  refine xvh (N:=P.length) (σ:=Unit) (fun n k _ m fc=>x21 (xuu (d+2)) [] 0 n (.ptr (0,0,2) 0 0) (I (sumL l P 0 F)) v (I k) m fc)
   (fun k _ m=>m.get (0,0,2)=some (.row [s,p] 0 false)/\xxu l.length P F=(P.drop k).any fun p=>!decide (at0 (uniM l.length P F) p.a.toNat=at0 (uniM l.length P F) p.b.toNat)) _ ?_ ?_ NN 0 () m _ (by omega) (by rw[xv8];omega) ⟨g2,by simp[xxu]⟩
  .rintro n k-m fc hk ⟨g2,ho⟩ next
   have hk':(k:Int)<(P.length:Int):=by omega
   have ip:=hp.ix Pq.len hk
   have l0:=fun m=>xxf (m:=m) (enc:=Pq.c) hk 0 rfl
   have l1:=fun m=>xxf (m:=m) (enc:=Pq.c) hk 1 rfl
   simp only[List.drop_zero]at l0
   simp only[List.drop_one]at l1
   rw[xvs hk,List.any_cons]at ho
   obtain⟨q0,q1,q2⟩:=hR.pr P[k] (List.getElem_mem hk)
   generalize P[k]=q at *
   have ia:=hv.ixI xvu (k:=q.a) q0 (by rw[hL];omega)
   have ib:=hv.ixI xvu (k:=q.b) (by omega) (by rw[hL];omega)
   have la:=xwf (m:=m) (l:=uniM l.length P F) (k:=q.a.toNat) (by rw[hL];omega)
   have lb:=xwf (m:=m) (l:=uniM l.length P F) (k:=q.b.toNat) (by rw[hL];omega)
   simp only[x21]
   unfold x58
   simp[g2,hp.len xw3,hk',ip,l0,l1,ia,ib,la,lb]
   by_cases c:at0 (uniM l.length P F) q.a.toNat=at0 (uniM l.length P F) q.b.toNat
   .simp(disch:=omega) [c,xv1]
    exact next () m _ ⟨g2,by simpa[c]using ho⟩
   .simp[c]
    simp[c]at ho
    exact RetF.tup rfl (by rw[hfo,ho];rfl)
  .rintro n-m fc ⟨g2,ho⟩
   rw[List.drop_of_length_le (Nat.le_refl _)]at ho
   simp only[x21]
   unfold x58 x20
   simp[g2,hp.len xw3]
   exact RetF.tup rfl (by rw[hfo,ho];rfl)
theorem x19b(d:Nat){s p f:AV}{l:List Scene}{P:List Pq}{F:List Int}(hs:Sl Scene.c s l)(hp:Sl Pq.c p P)(hf:Ints f F)(hF:F.length<=1000)(hR:Right7 l P)(m:Mem) :
 xuv (xuu (d+3)) x30 [.agg [s,p],f] m=some (.tup [I (bif decide (xvy l.length P F=0)then sumL l P 0 F else 0),I (xvy l.length P F)],m):=
 xw5 (by simp[hs.still1,hp.still1,hf.still]) (x19a d hs hp hf hF hR) m
theorem xyq:Tryz.prog.underlying xw=some (.slice x4a):=by kernel_rfl
theorem xxi:x5=[I 0,I 0]:=by kernel_rfl
theorem w_ends(d:Nat){s p:AV}{P:List Pq}(hs:s.one=true/\still1 s=true)(hp:Sl Pq.c p P){x:Sp}(hx:0<=x.p/\x.p<P.length)(m:Mem) :
 xuv (xuu (d+1)) x3x [.agg [s,p],.agg [I x.p,I x.s]] m=some (.tup [I (frS P x),I (toS P x)],m):=by
 refine xw5 (by simp[hs.2,hp.still1]) ?_ m
 have ip:=hp.ixz Pq.len hx.1 hx.2
 have lp:=fun m=>xw8 (m:=m) (enc:=Pq.c) Pq.len (by omega) (show x.p.toNat<P.length by omega)
 rw[<-xzd (by omega)]at lp
 unfold frS toS
 generalize prAt P x.p=q at *
 simp only[Pq.c]at lp
 rw[xht]
 unfold x86 x9p
 by_cases c:x.s<0
 .simp[mem0,hs.1,hp.one,ip,lp,xx4,c]
  exact RetF.tup rfl rfl
 .simp[mem0,hs.1,hp.one,ip,lp,xx4,c]
  exact RetF.tup rfl rfl
theorem w_rends(d:Nat){s p:AV}{P:List Pq}(hs:s.one=true/\still1 s=true)(hp:Sl Pq.c p P){x:Sp}(hx:0<=x.p/\x.p<P.length)(h1:x.s=1\/x.s=-1)(m:Mem) :
 xuv (xuu (d+1)) x3f [.agg [s,p],.agg [I x.p,I x.s]] m=some (.tup [I (frS P x),I (toS P x)],m):=by
 refine xw5 (by simp[hs.2,hp.still1]) ?_ m
 have ip:=hp.ixz Pq.len hx.1 hx.2
 have lp:=fun m=>xw8 (m:=m) (enc:=Pq.c) Pq.len (by omega) (show x.p.toNat<P.length by omega)
 rw[<-xzd (by omega)]at lp
 unfold frS toS
 generalize prAt P x.p=q at *
 simp only[Pq.c]at lp
 rw[xhu]
 unfold x87 x9q
 rcases h1 with c|c
 .simp[mem0,hs.1,hp.one,ip,lp,xx4,c]
  exact RetF.tup rfl rfl
 .simp[mem0,hs.1,hp.one,ip,lp,xx4,c]
  exact RetF.tup rfl rfl
theorem z_2i:xbt=[I 0,I 0]:=by kernel_rfl
theorem idx_2i0:sIdx Tryz.prog x4v (.agg [I 1,I (-1)]) (I 0)=some (I 1):=by kernel_rfl
theorem idx_2i1:sIdx Tryz.prog x4v (.agg [I 1,I (-1)]) (I 1)=some (I (-1)):=by kernel_rfl
theorem w_from(d:Nat){s p f:AV}{l:List Scene}{P:List Pq}{F:List Int}(hs:Sl Scene.c s l)(hp:Sl Pq.c p P)(hf:Ints f F)(v:Int)(m:Mem) :
 xuv (xuu (d+1)) x41 [.agg [s,p],I v,f] m=some (.clo x1t [.plit [f],.plit [s,p],.plit [I v]],m):=by
 refine xw5 (by simp[hs.still1,hp.still1,hf.still]) ?_ m
 rw[xi1]
 unfold x8e x9x
 simp[mem0,hs.one,hp.one,hf.one,hf.cells]
 generalize hm:Mem.new _ _ _=m1
 have g5:m1.get (0,2,5)=some (.row [f] 0 false):=by rw[<-hm];simp
 have g3:m1.get (0,0,3)=some (.row [s,p] 0 false):=by rw[<-hm];simp
 have g4:m1.get (0,1,4)=some (.row [I v] 0 false):=by rw[<-hm];simp
 have e5:Go.Ix.frz m1.get 5 (.ptr (0,2,5) 0 0)=some (.plit [f]):=x124 g5 (xwe _ 2 hf.still)
 have e4:Go.Ix.frz m1.get 5 (.ptr (0,1,4) 0 0)=some (.plit [I v]):=x124 g4 rfl
 have e3:Go.Ix.frz m1.get 5 (.ptr (0,0,3) 0 0)=some (.plit [s,p]):=by
  rw[x13z g3]
  simp only[List.drop_zero,List.mapM_cons,List.mapM_nil,xwe m1.get 2 hs.still,xwe m1.get 2 hp.still]
  rfl
 refine RetF.mk (a':=.clo x1t [.plit [f],.plit [s,p],.plit [I v]]) ?_ rfl
 show(([AV.ptr (0,2,5) 0 0,.ptr (0,0,3) 0 0,.ptr (0,1,4) 0 0].mapM (Go.Ix.frz m1.get 5)).map fun l=>AV.clo _ l)=_
 simp only[List.mapM_cons,List.mapM_nil,e5,e4,e3]
 rfl
theorem x19c{F:List Int}{k:Nat}(hk:k<F.length):xxh (F.take (k+1))=xxh (F.take k)++[⟨at0 F k,1⟩]++[⟨at0 F k,-1⟩]:=by
 unfold xxh
 rw[List.take_succ_eq_append_getElem hk,List.flatMap_append,xva hk]
 simp
theorem c_from2(d:Nat){hh:FHs}{id:Id}{h:List AV->Mem->Option Mem}{s p f:AV}{l:List Scene}{P:List Pq}{F:List Int}(hs:Sl Scene.c s l)(hp:Sl Pq.c p P)(hf:Ints f F)(hF:F.length<=1000)(hr:∀i∈F,0<=i/\i<P.length)(hl:xx3 hh id=some h)(v:Int){m0:Mem}(Inv:List Sp->Mem->Prop)(Fin:Mem->Prop)(hst:∀pre m m',Inv pre m->m'.next=m.next->(∀i:Id,¬i.1=m0.next->m'.get i=m.get i)->Inv pre m')(hy:∀pre x m,InF F x->frS P x=v->Inv pre m->∃m2,h [.agg [I x.p,I x.s],I (toS P x)] m=some m2/\(live m2.get id=true/\Inv (pre++[x]) m2\/live m2.get id=false/\Fin m2))(hn:∀pre x m,InF F x->frS P x≠v->Inv pre m->Inv (pre++[x]) m)(h0:∀m,m.next=m0.next+1->(∀i:Id,m.get i=m0.get i)->Inv [] m) :
 ∃m',xuu (d+2) hh x1t [.yld id,.plit [f],.plit [s,p],.plit [I v]] m0=some (.tup [],m')/\(Inv (xxh F) m'\/Fin m'):=by
 rw[xic]
 unfold x8p xa9
 generalize hu:m0.next=u at *
 simp only[sLd_cons,rd_f,xv4,hf.len xw9]
 refine xvh (N:=F.length) (σ:=Unit) (fun n k _ m fc=>x16 (xuu (d+1)) hh u n (.yld id) (.plit [s,p]) (.plit [I v]) f (I F.length) (I k) m fc) (fun k _ m=>Inv (xxh (F.take k)) m)
  (fun r=>∃m',r=some (.tup [],m')/\(Inv (xxh F) m'\/Fin m')) ?_ ?_ NN 0 () _ _ (by omega) (by rw[xv8];omega) (by simpa[xxh]using h0 ⟨m0.hp,u+1⟩ rfl (fun _=>rfl))
 .rintro n k-m fc hk hI next
  have hk':(k:Int)<(F.length:Int):=by omega
  have ix:=hf.ix xvu hk
  have ld:=fun m=>xwf (m:=m) hk
  have hmem:at0 F k∈F:=by rw[xva hk];exact List.getElem_mem hk
  have hx:=hr _ hmem
  have hsc:=x19c hk
  generalize at0 F k=i at *
  simp only[x16]
  unfold x77 x4w
  simp only[xwd,hk',decide_true,xw4,xv4,ix,ld,z_2i]
  rw[show xv6 [I 0,I 0] [(0,1,I 1),(1,1,I (-1))]=some (.agg [I 1,I (-1)]) by simp[xv6,xvx]]
  simp only[xv4]
  have one:∀(sg:Int) (q:Int) (pre:List Sp) (m:Mem) (fc n1:Nat),(sg=1\/sg=-1)->q<2->0<=q->sIdx Tryz.prog x4v (.agg [I 1,I (-1)]) (I q)=some (I sg)->Inv pre m ->
   (∀m' fc',Inv (pre++[⟨i,sg⟩]) m'->∃m2,x1n (xuu (d+1)) hh u (x16 (xuu (d+1)) hh u n) n1 (.yld id) (.plit [s,p]) (.plit [I v]) (I i) f (I F.length) (I k) (.agg [I 1,I (-1)]) (I (q+1)) m' fc'=some (.tup [],m2)/\(Inv (xxh F) m2\/Fin m2)) ->
   ∃m2,x1n (xuu (d+1)) hh u (x16 (xuu (d+1)) hh u n) (n1+1) (.yld id) (.plit [s,p]) (.plit [I v]) (I i) f (I F.length) (I k) (.agg [I 1,I (-1)]) (I q) m fc=some (.tup [],m2)/\(Inv (xxh F) m2\/Fin m2):=by
   intro sg q pre m fc n1 hsg hq2 hq0 hidx hI2 go
   have hIn:InF F ⟨i,sg⟩:=⟨hmem,hsg⟩
   have he:=fun m=>w_ends d ⟨hs.one,hs.still1⟩ hp (x:=⟨i,sg⟩) hx m
   simp only[x1n]
   unfold x76
   simp only[xwd,hq2,decide_true,xw4,xv4,hidx,xxi]
   rw[show xv6 [I 0,I 0] [(0,1,I i),(1,1,I sg)]=some (.agg [I i,I sg]) by simp[xv6,xvx]]
   simp
   generalize hm1:Mem.set _ _ _=m1
   have q9:m1.get (u,fc+6,9)=some (.row [I i,I sg] 0 false):=by rw[<-hm1];simp
   have hI3:Inv pre m1:=hst pre m m1 hI2 (by rw[<-hm1];rfl) fun j hj=>by
    rw[<-hm1,Mem.get_set,if_neg (by rintro rfl;exact hj rfl),Mem.get_new,if_neg (by rintro rfl;exact hj rfl)]
   simp[q9,he]
   rw[xv1 (by omega) (by omega)]
   by_cases c:frS P ⟨i,sg⟩=v
   .obtain⟨m2,h1,h2⟩:=hy pre ⟨i,sg⟩ m1 hIn c hI3
    have hinv:xww (xuu (d+1)) hh 2 (.yld id) [.agg [I i,I sg],I (toS P ⟨i,sg⟩)] m1=some (B (live m2.get id),m2):=by
     show(match xx3 hh id with
      |some h=>(h [.agg [I i,I sg],I (toS P ⟨i,sg⟩)] m1).map fun(m':Mem)=>(B (live m'.get id),m')
      |none=>none)=_
     rw[hl]
     simp only
     rw[h1]
     rfl
    rcases h2 with ⟨hlv,h2⟩|⟨hlv,h2⟩
    .rw[hlv]at hinv
     simp[c,q9,hinv]
     exact go m2 _ h2
    .rw[hlv]at hinv
     simp[c,q9,hinv]
     exact .inr h2
   .simp[c]
    exact go m1 _ (hn pre ⟨i,sg⟩ m1 hIn c hI3)
  obtain⟨NM,hNM⟩:∃NM,NN=NM+1+1+1:=⟨NN-3,by have:=xv8;omega⟩
  rw[hNM]
  refine one 1 0 _ m _ _ (.inl rfl) (by omega) (by omega) idx_2i0 hI fun m1 fc1 h1=>?_
  refine one (-1) 1 _ m1 _ _ (.inr rfl) (by omega) (by omega) idx_2i1 h1 fun m2 fc2 h2=>?_
  simp only[x1n]
  unfold x76 xt
  simp(disch:=omega) [xv1]
  exact next () m2 _ (by rw[hsc];exact h2)
 .rintro n-m fc hI
  rw[List.take_of_length_le (Nat.le_refl _)]at hI
  simp only[x16]
  unfold x77
  simp
  exact .inl hI
def bE(b:Bool):List AV:=[B b]
theorem bE_len(b:Bool):(bE b).length=1:=rfl
variable{α:Type}{z:Nat}{enc:α->List AV}
def Ow(enc:α->List AV)(m:Mem)(id:Id)(l:List α):Prop:=m.get id=some (.row (l.flatMap enc) 0 false)
theorem Ow.fr{m m':Mem}{id:Id}{l:List α}(h:Ow enc m id l)(e:m'.get id=m.get id):Ow enc m' id l:=by unfold Ow;rw[e];exact h
theorem ow_ix{id:Id}{n:Nat}{k:Int}(h0:0<=k)(h1:k<n):sIx z (.sref id 0 0 n z true) (I k)=some (.ptr id 0 (k.toNat*z)):=by
 simp[sIx,asI,h0,h1]
theorem Ow.ld(hz:∀x,(enc x).length=z){m:Mem}{id:Id}{l:List α}(h:Ow enc m id l){k:Nat}(hk:k<l.length){g:Bool}:sLd g z (.ptr id 0 (k*z)) m=rd g z (enc l[k]++(l.drop (k+1)).flatMap enc):=by
 rw[ld_ptr h,x13j hz,xvs hk,List.flatMap_cons]
theorem Ow.ldS(hz:∀x,(enc x).length=z){m:Mem}{id:Id}{l:List α}(h:Ow enc m id l){k:Nat}(hk:k<l.length):sLd true z (.ptr id 0 (k*z)) m=some (.agg (enc l[k])):=by
 rw[h.ld hz hk,rd_t,decide_eq_true (by simp[hz]),List.take_append_of_le_length (by rw[hz];exact Nat.le_refl _),List.take_of_length_le (by rw[hz];exact Nat.le_refl _)]
 rfl
theorem x170(hz:∀x,(enc x).length=z)(x:α):∀(l:List α) (k:Nat),k<l.length->xvc (l.flatMap enc) (k*z) (enc x)=(l.set k x).flatMap enc
 |[],_,h=>by simp at h
 |y::r,0,_=>by
  simp only[xvc,Nat.zero_mul,Nat.zero_add,List.take_zero,List.nil_append,List.set_cons_zero,List.flatMap_cons]
  rw[hz,<-hz y,List.drop_append_of_le_length (Nat.le_refl _),List.drop_of_length_le (Nat.le_refl _),List.nil_append]
 |y::r,k+1,h=>by
  have ih:=x170 hz x r k (by simpa using h)
  simp only[xvc,List.set_cons_succ,List.flatMap_cons]at ih ⊢
  rw[Nat.succ_mul,show k*z+z=(enc y).length+k*z by rw[hz];omega,List.take_length_add_append,Nat.add_assoc,List.drop_append,List.append_assoc,<-ih]
  have e:(enc y).length+(k*z+(enc x).length)-(enc y).length=k*z+(enc x).length:=by omega
  rw[e,List.drop_of_length_le (by omega),List.nil_append]
theorem Ow.st(hz:∀x,(enc x).length=z){m:Mem}{id:Id}{l:List α}(h:Ow enc m id l){k:Nat}(hk:k<l.length){x:α}{v:AV}(hv:v.cells=enc x)(h1:(enc x).all AV.one=true) :
 (∀{R:Type} (K:Mem->Option R),sSt z (.ptr id 0 (k*z)) v m K=K (m.set id (.row ((l.set k x).flatMap enc) 0 false)))/\Ow enc (m.set id (.row ((l.set k x).flatMap enc) 0 false)) id (l.set k x):=by
 refine⟨fun K=>?_,by unfold Ow;simp⟩
 have hl:=xwp hz l
 rw[st_ptr (z:=z) (x:=v) (k:=K) h (by rw[hv,hz]) (by rw[hl];have:=Nat.mul_le_mul_right z (show k+1<=l.length from hk);rw[Nat.succ_mul]at this;exact this) (by rw[hv];exact h1),hv,x170 hz x l k hk]
theorem zeros_c{z:List AV}{c:AV}(hc:∀i,i<z.length->z.getD i (.sc undef)=c)(h0:0<z.length)(k:Nat):xvq z k=List.replicate k c:=by
 unfold xvq
 apply List.ext_getElem
 .simp
 .intro i h1 h2
  simp only[List.getElem_map,List.getElem_range,List.getElem_replicate]
  exact hc _ (Nat.mod_lt _ h0)
theorem rep_flat(n:Nat)(c:AV)(x:α)(hx:enc x=List.replicate z c):(List.replicate n x).flatMap enc=List.replicate (n*z) c:=by
 induction n with
 |zero=>simp
 |succ n ih=>
  rw[List.replicate_succ,List.flatMap_cons,ih,hx,Nat.succ_mul,Nat.add_comm,List.replicate_append_replicate]
theorem mkSl_c{R:Type}{zc:List AV}{c:AV}{bytes:Nat}(hb:bytes<=64)(hzl:zc.length=z)(hc:∀i,i<zc.length->zc.getD i (.sc undef)=c)(h0:0<zc.length){x:α}(hx:enc x=List.replicate z c){n:Nat}(hn:n<=1000000)(id:Id)(m:Mem)(k:AV->Mem->Option R) :
 xyf zc z bytes (I n) (I n) id m k=k (.sref id 0 0 n z true) (m.new id (.row ((List.replicate n x).flatMap enc) 0 false)):=by
 have h1:bytes*n<=64*1000000:=Nat.mul_le_mul hb hn
 simp only[xyf,asI]
 rw[if_pos ⟨by omega,Int.le_refl _,by omega,by omega⟩,zeros_c hc h0,rep_flat n c x hx]
 simp
theorem zb_b7:x4q=[B false]:=by kernel_rfl
theorem mkSl_b{R:Type}{n:Nat}(hn:n<=1000000)(id:Id)(m:Mem)(k:AV->Mem->Option R):xyf x4q 1 1 (I n) (I n) id m k=k (.sref id 0 0 n 1 true) (m.new id (.row ((List.replicate n false).flatMap bE) 0 false)):=
 mkSl_c (enc:=bE) (c:=B false) (by omega) (by rw[zb_b7];rfl) (by rw[zb_b7];intro i hi;simp at hi;subst hi;rfl) (by rw[zb_b7];simp) rfl hn id m k
theorem x141:x5=[I 0,I 0]:=by kernel_rfl
theorem mkSl_s{R:Type}{n:Nat}(hn:n<=1000000)(id:Id)(m:Mem)(k:AV->Mem->Option R):xyf x5 2 16 (I n) (I n) id m k=k (.sref id 0 0 n 2 true) (m.new id (.row ((List.replicate n (⟨0,0⟩:Sp)).flatMap Sp.c) 0 false)):=
 mkSl_c (enc:=Sp.c) (c:=I 0) (by omega) (by rw[x141];rfl) (by
  rw[x141];intro i hi
  match i,hi with
  |0,_=>rfl
  |1,_=>rfl
  |i+2,h=>simp at h;omega) (by rw[x141];simp) rfl hn id m k
theorem Ow.ldB{m:Mem}{id:Id}{l:List Bool}(h:Ow bE m id l){k:Int}(h0:0<=k)(hk:k<l.length):sLd false 1 (.ptr id 0 k.toNat) m=some (B (l.getD k.toNat false)):=by
 have h1:k.toNat<l.length:=by omega
 have:=h.ld bE_len h1 (g:=false)
 rw[Nat.mul_one]at this
 rw[this,List.getD_eq_getElem?_getD,List.getElem?_eq_getElem h1]
 rfl
theorem ow_ix1{id:Id}{n:Nat}{k:Int}(h0:0<=k)(h1:k<n):sIx 1 (.sref id 0 0 n 1 true) (I k)=some (.ptr id 0 k.toNat):=by
 simpa using ow_ix (z:=1) (id:=id) h0 h1
theorem Ow.st1{g:α->AV}(he:∀x,enc x=[g x]){m:Mem}{id:Id}{l:List α}(h:Ow enc m id l){k:Int}(h0:0<=k)(hk:k<l.length){x:α}(hc:(g x).cells=[g x])(h1:(g x).one=true) :
 (∀{R:Type} (K:Mem->Option R),sSt 1 (.ptr id 0 k.toNat) (g x) m K=K (m.set id (.row ((l.set k.toNat x).flatMap enc) 0 false)))/\Ow enc (m.set id (.row ((l.set k.toNat x).flatMap enc) 0 false)) id (l.set k.toNat x):=by
 have:=h.st (z:=1) (fun x=>by rw[he];rfl) (k:=k.toNat) (by omega) (x:=x) (v:=g x) (by rw[hc,he]) (by rw[he];simp[h1])
 simpa using this
end Go.Ix
