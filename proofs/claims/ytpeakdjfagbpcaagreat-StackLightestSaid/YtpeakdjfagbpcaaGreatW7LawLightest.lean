import Derived.Test.YtpeakdjfagbpcaaGreatWg7
import Derived.Test.YtpeakdjfagbpcaaGreatWg18
import Derived.Test.YtpeakdjfagbpcaaGreatWg8
set_option linter.unusedSimpArgs false
set_option linter.unusedVariables false
namespace Go.Ix
open Go.Proofs
theorem x19c{α:Type}(q:α->Bool):∀l:List α,(l.filter q).length+(l.filter fun x=>!(q x)).length=l.length
 |[]=>rfl
 |x::l=>by
  have ih:=x19c q l
  rw[List.filter_cons,List.filter_cons]
  cases q x<;>simp<;>omega
theorem x1bp{n:Nat}{P:List Pq}{F:List Int}(hF:For n P F):(xyd P F).length+F.length=P.length:=by
 have h1:((freshM P.length).filter fun i=>F.any fun y=>decide (y=i)).length=F.length:=by
  refine x166 ((x14c P.length).filter _).nodup hF.nod fun x=>?_
  rw[List.mem_filter,fresh_mem]
  constructor
  .rintro⟨h,h2⟩
   obtain⟨y,hy,e⟩:=List.any_eq_true.mp h2
   rw[<-of_decide_eq_true e]
   exact hy
  .intro h
   exact⟨hF.rng x h,List.any_eq_true.mpr ⟨x,h,by simp⟩⟩
 have h2:(freshM P.length).length=P.length:=by simp[freshM]
 have h3:=x19c (fun i=>F.any fun y=>decide (y=i)) (freshM P.length)
 unfold xyd xyw
 omega
theorem x19d{P:List Pq}:∀{w:List Sp} {k:Nat} {b e:Int},1<=k->(∀x∈w,(0<=x.p/\x.p<P.length)/\(x.s=1\/x.s=-1))->Wk P w e b->cyE P k b e w=0
 |[],k,b,e,_,_,h=>by
  have:e=b:=h
  simp[cyE,this]
 |x::r,k,b,e,hk,hx,h=>by
  obtain⟨h1,h2⟩:=hx x (List.mem_cons_self ..)
  have ih:=x19d (w:=r) (k:=k+1) (b:=b) (e:=toS P x) (by omega) (fun y hy=>hx y (List.mem_cons_of_mem _ hy)) h.2
  have c1:wi x.p 0 ((P.length:Int)-1)=true:=wi_iff.mpr ⟨h1.1,by omega⟩
  have c2:(!decide (x.s=1)&&!decide (x.s=-1))=false:=by rcases h2 with e|e<;>simp[e]
  have c3:¬k=0:=by omega
  simp[cyE,c1,c2,c3,h.1,ih]
theorem cycC_ok{n:Nat}{P:List Pq}{F:List Int}(hn:n<=60)(hP:∀p∈P,PqIn n p)(hT:Tree n P F){i:Int}(h0:0<=i)(h1:i<P.length):cycE P (cycC P F i)=0:=by
 obtain⟨w1,w2,w3,w4⟩:=x14f hP hT h0 h1
 have hall:∀x∈wayC P F (prAt P i).b (prAt P i).a,(0<=x.p/\x.p<P.length)/\(x.s=1\/x.s=-1):=fun x hx=>⟨hT.fo.rng _ (w2 x hx).1,(w2 x hx).2⟩
 have c1:wi i 0 ((P.length:Int)-1)=true:=wi_iff.mpr ⟨h0,by omega⟩
 have e1:frS P ⟨i,1⟩=(prAt P i).a:=rfl
 have e2:toS P ⟨i,1⟩=(prAt P i).b:=rfl
 have hl:¬400<(wayC P F (prAt P i).b (prAt P i).a).length+1:=by omega
 simp only[cycE,cycC,List.length_cons]
 simp[hl,cyE,c1,e1,e2]
 exact x19d (by omega) hall w1
theorem law_StackLightest{s p:AV}{l:List Scene}{P:List Pq}(hs:Sl Scene.c s l)(hp:Sl Pq.c p P):∃m',xwy 31 [] x4e [.agg [s,p]] mem0=some (B true,m'):=by
 rw[xhu]
 unfold x7e x91
 generalize hm1:(⟨[],1⟩:Mem).new (0,0,1) (.row [s,p] 0 false)=m1
 have g1:m1.get (0,0,1)=some (.row [s,p] 0 false):=by rw[<-hm1];simp
 have hn1:m1.next=1:=by rw[<-hm1];rfl
 simp[mem0,hs.one,hp.one,hm1,g1,w_awake7,w_Few7 29 hs hp]
 cases hfw:few7 l P with
 |false=>simp
 |true=>
  obtain⟨l1,l2⟩:=few7_len hfw
  obtain⟨s',p',hs',hp',hcp⟩:=x1b4 29 hs hp (by omega) (by omega) m1
  obtain⟨t,ht,htc⟩:=x1bo 22 hs' hp' (fun h=>len_few hfw (x13a h)) m1
  simp[g1,hcp,htc,w_Err7 26 hs hp]
  by_cases he:(net7 l P).2=0
  rotate_left
  .rw[if_neg he]at ht
   simp[he,ht.len xxy]
  have hR:=x13a he
  obtain⟨l8,p14⟩:=len_few hfw hR
  have hT:=x1b6 hR.pr (fW l P)
  have hlen:=x19b (fW l P) l.length P
  rw[if_pos he]at ht
  obtain⟨t2,ht2,htc2⟩:=x1bi 26 hs hp hR m1
  obtain⟨t',ht',htc'⟩:=x1b3 29 ht (by omega) m1
  have hsum:((xxi (fW l P) l.length P).map (fW l P)).sum=((xxl (fW l P) l.length P).map (fW l P)).sum:=
   sum_mem (x14d _).nodup (x167 _) fun x=>light_mem
  have hE:cfE l P (xxi (fW l P) l.length P)=0:=by simp[cfE,he,(x193 hR).mpr hT]
  obtain⟨v,L,hv,hL,hvc⟩:=w_Cycles 13 hs' hp' ht' (by omega) (fun h=>l8) m1
  rw[if_pos hE]at hL
  have hrl:=x1bp hT.fo
  have hLl:L.length=(xyd P (xxi (fW l P) l.length P)).length:=by simpa using congrArg List.length hL
  have hLl2:(L.length:Int)=(P.length:Int)-((xxi (fW l P) l.length P).length:Int):=by omega
  simp[he,g1,htc2,w_Ints 29 ht ht2 (by omega),hsum,hcp,htc',hvc,hE,hv.len x16d,hp.len xy8,ht.len xxy]
  rw[xx4 (by omega) (by omega)]
  simp[hLl2]
  unfold x59
  refine xxu (N:=L.length) (σ:=Unit) (fun n k _ m fc=>x16 (xwy 30) [] 0 n (.ptr (0,0,1) 0 0) v (I k) m fc) (fun k _ m=>m=m1) (fun r=>∃m',r=some (B true,m')) ?_ ?_ NN 0 () m1 _ (by omega) (by rw[xxb];omega) rfl
  .rintro n k-m fc hk hm next
   rw[hm]
   have hk':(k:Int)<(L.length:Int):=by omega
   obtain⟨i,i0,i1,i2,i3,i4⟩:=(cyc_len hR.pr hT hL).2 L[k] (List.getElem_mem hk)
   have ix:=hv.ix Wv.len hk
   have ld:=fun m=>ld_walk (m:=m) hk
   have hcy:=x1ba 28 (c:=L[k].v) (w:=L[k].w) hs hp L[k].h (by omega) hR m1
   rw[i3,cycC_ok hR.ll hR.pr hT i0 i1]at hcy
   obtain⟨w1,w2,w3,w4⟩:=x14f hR.pr hT i0 i1
   have hlc:=x1b7 hR.pr ⟨i0,i1⟩ i2 w1 w2 w3
   have hwl:Sl Sp.c L[k].v (cycC P (xxi (fW l P) l.length P) i):=by rw[<-i3];exact L[k].h
   have hwlen:(cycC P (xxi (fW l P) l.length P) i).length<=61:=by rw[<-i3];omega
   generalize hL2:L[k].v=lv at *
   simp only[x16]
   unfold x58 x4g
   simp[hv.len x16d,hk',g1,ix,ld,hcy]
   generalize hw:cycC P (xxi (fW l P) l.length P) i=w at hwl hwlen
   have hw0:0<w.length:=by rw[<-hw];simp[cycC]
   have hwe:∀j (h:j<w.length),(0<=(w[j]).p/\(w[j]).p<P.length)/\lenP l (prAt P (w[j]).p)<=lenP l (prAt P (w[0]'hw0).p):=fun j h=>by
    subst hw
    cases j with
    |zero=>exact⟨⟨i0,i1⟩,Int.le_refl _⟩
    |succ j=>
     simp only[cycC,List.getElem_cons_succ,List.getElem_cons_zero]
     have hm:(wayC P (xxi (fW l P) l.length P) (prAt P i).b (prAt P i).a)[j]'(by simpa[cycC]using h)∈wayC P (xxi (fW l P) l.length P) (prAt P i).b (prAt P i).a:=List.getElem_mem _
     exact⟨hT.fo.rng _ (w2 _ hm).1,hlc _ hm⟩
   refine xxu (N:=w.length) (σ:=Unit) (fun n2 j _ m fc=>x1v (xwy 30) [] 0 (x16 (xwy 30) [] 0 n) n2 (.ptr (0,0,1) 0 0) v (I k) (I j) m fc) (fun j _ m=>m=m1) (fun r=>∃m',r=some (B true,m')) ?_ ?_ NN 1 () m1 _ (by omega) (by rw[xxb];omega) rfl
   .rintro n2 j-m fc hj hm next2
    rw[hm]
    have hj':(j:Int)<(w.length:Int):=by omega
    have ixj:=hwl.ix Sp.len hj
    have ix0:sIx 2 lv (I 0)=some (.plit (w.flatMap Sp.c)):=hwl.ix Sp.len hw0
    have fj:=fun m=>x11c (enc:=Sp.c) (m:=m) (l:=w) hj 0 (v:=I (w[j]).p) rfl
    have f0:∀m,sLd false 1 (.plit (w.flatMap Sp.c)) m=some (I (w[0]).p):=fun m=>x11c (enc:=Sp.c) (m:=m) (l:=w) hw0 0 (v:=I (w[0]).p) rfl
    rw[List.drop_zero]at fj
    obtain⟨q1,q2⟩:=hwe j hj
    obtain⟨q3,-⟩:=hwe 0 hw0
    have lj:=fun m=>x138 28 hs hp hR.ib q1 (hR.at q1) m
    have l0:=fun m=>x138 28 hs hp hR.ib q3 (hR.at q3) m
    have hq:¬lenP l (prAt P (w[0]).p)<lenP l (prAt P (w[j]).p):=by omega
    simp only[x1v]
    unfold x57
    simp(disch:=omega) [ix,ld,hwl.len x11i,hj',g1,ixj,fj,lj]
    simp(disch:=omega) [ix,ld,hwl.len x11i,hj',g1,ixj,ix0,fj,f0,lj,l0,hq,cAp,tR,hn1,hs.clean1,hp.clean1]
    exact next2 () _ _ rfl
   .rintro n2-m fc hm
    rw[hm]
    simp only[x1v]
    unfold x57 xm
    simp(disch:=omega) [ix,ld,hwl.len x11i]
    exact next () _ _ rfl
  .rintro n-m fc hm
   rw[hm]
   simp only[x16]
   unfold x58 xg
   simp[hv.len x16d]
end Go.Ix
