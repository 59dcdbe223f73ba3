import Derived.Test.YtpeakdjfagbpcaaGreatWg17
import Derived.Test.YtpeakdjfagbpcaaGreatWg15
import Derived.Test.YtpeakdjfagbpcaaGreatWg7
import Derived.Test.YtpeakdjfagbpcaaGreatWg5
import Derived.Test.YtpeakdjfagbpcaaGreatWg16
import Derived.Test.YtpeakdjfagbpcaaGreatWg3
set_option linter.unusedSimpArgs false
set_option linter.unusedVariables false
namespace Go.Ix
open Go.Proofs
def nmF(ls:List Int)(k:Nat):List Int×Int:=(List.range k).foldl (nmS ls) (List.replicate ls.length 0,0)
structure PtI (ls:List Int) (k:Nat) (E:List (Int×Int)):Prop where
 len:(nmF ls k).1.length=ls.length
 cnt:(nmF ls k).2=(E.length:Int)
 le:E.length<=k
 get:∀v:Nat,v<ls.length->lkp E v=if v<k/\at0 ls v=v then some (at0 (nmF ls k).1 v)else none
theorem PtI.nil(ls:List Int):PtI ls 0 []:=⟨by simp[nmF],by simp[nmF],by simp,fun v _=>by simp[lkp]⟩
theorem gr_build{s p:AV}:xxp x3b [(0,2,AV.agg [s,p])]=some (.agg [s,p]):=by rw[x16c];simp[xxp,xyc]
theorem x199(l:List Scene)(P:List Pq):∀(F:List Int) (s:Int),sumL l P s F=s+(F.map (fW l P)).sum
 |[],s=>by simp[sumL]
 |i::F,s=>by
  rw[sumL,x199 l P F,List.map_cons,List.sum_cons]
  unfold fW
  omega
theorem x19a{n:Nat}{P:List Pq}{f:Int->Int}:∀i∈xxi f n P,0<=i/\i<P.length:=fun i hi=>fresh_mem.mp (List.mem_filter.mp hi).1
theorem light_Rng{l:List Scene}{P:List Pq}(hR:Right7 l P)(f:Int->Int):Rng l.length P (xxi f l.length P):=fun i hi=>⟨x19a i hi,hR.at (x19a i hi)⟩
theorem x19b(f:Int->Int)(n:Nat)(P:List Pq):(xxi f n P).length<=P.length:=by
 have h1:=List.length_filter_le (fun i=>(xxl f n P).contains i) (freshM P.length)
 have h2:(freshM P.length).length=P.length:=by simp[freshM]
 unfold xxi
 omega
theorem x1bo(d:Nat){s p:AV}{l:List Scene}{P:List Pq}(hs:Sl Scene.c s l)(hp:Sl Pq.c p P)(hle:(net7 l P).2=0->l.length<=8/\P.length<=14)(m:Mem) :
 ∃a,Ints a (if(net7 l P).2=0 then xxi (fW l P) l.length P else[]) /\
  xwz (xwy (d+8)) x2v [.agg [s,p]] m=some (.tup [a,I (if(net7 l P).2=0 then((xxi (fW l P) l.length P).map (fW l P)).sum else 0),I (net7 l P).2],m):=by
 have key:∃v,(∃a,Ints a (if(net7 l P).2=0 then xxi (fW l P) l.length P else[])/\v=.tup [a,I (if(net7 l P).2=0 then((xxi (fW l P) l.length P).map (fW l P)).sum else 0),I (net7 l P).2])/\xwz (xwy (d+8)) x2v [.agg [s,p]] m=some (v,m):=by
  refine xzj (by simp[hs.still1,hp.still1]) ?_ m
  rw[xi4]
  unfold x7n x9d
  generalize hm1:(⟨[],1⟩:Mem).new (0,0,1) (.row [s,p] 0 false)=m1
  have g1:m1.get (0,0,1)=some (.row [s,p] 0 false):=by rw[<-hm1];simp
  simp[mem0,hs.one,hp.one,hm1,g1,x18j (d+1) hs hp]
  by_cases he:(net7 l P).2=0
  .have hR:=x13a he
   obtain⟨hl,hP⟩:=hle he
   have hlen:=x19b (fW l P) l.length P
   obtain⟨v,hv,hvc⟩:=x1bg d hs hp hR hl hP m1
   have hw:=w_total (d+4) hs hp hv hR.ib (light_Rng hR _) (by omega) m1
   rw[x199]at hw
   simp[he,g1,gr_build,hvc,hw]
   exact RetF.tup (l:=[v,I _,I 0]) (by simp[hv.still]) ⟨v,hv,rfl⟩
  .simp[he]
   exact RetF.tup (l:=[nilS,I 0,I (net7 l P).2]) (by simp) ⟨nilS,Or.inl ⟨rfl,rfl⟩,rfl⟩
 obtain⟨v,⟨a,ha,rfl⟩,hc⟩:=key
 exact⟨a,ha,hc⟩
end Go.Ix
