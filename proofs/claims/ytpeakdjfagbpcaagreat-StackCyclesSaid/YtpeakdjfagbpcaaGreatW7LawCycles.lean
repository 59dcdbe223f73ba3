import Derived.Test.YtpeakdjfagbpcaaGreatWg7
import Derived.Test.YtpeakdjfagbpcaaGreatWg19
set_option linter.unusedSimpArgs false
set_option linter.unusedVariables false
namespace Go.Ix
open Go.Proofs
theorem triN_w{P:List Pq}{n:Nat}:∀w∈triN P n 0,w.length<=3:=by
 intro w hw
 unfold triN triA triB triC at hw
 simp only[List.mem_flatMap]at hw
 obtain⟨a,-,b,-,c,-,h⟩:=hw
 split at h
 .simp at h;subst h;simp
 .cases h
theorem law_StackCycles{s p f:AV}{l:List Scene}{P:List Pq}{F:List Int}(hs:Sl Scene.c s l)(hp:Sl Pq.c p P)(hf:Ints f F)(i:Int):∃m',xuu 31 [] x4c [.agg [s,p],f,I i] mem0=some (B true,m'):=by
 rw[xgy]
 unfold x7c x8r
 generalize hm1:(⟨[],1⟩:Mem).new (0,0,3) (.row [s,p] 0 false)=m1
 have g1:m1.get (0,0,3)=some (.row [s,p] 0 false):=by rw[<-hm1];simp
 simp[mem0,hs.one,hp.one,hm1,g1,w_awake7,w_Few7 29 hs hp]
 cases hfw:few7 l P with
 |false=>simp
 |true=>
  obtain⟨l1,l2⟩:=few7_len hfw
  simp[hf.len xw9]
  by_cases h20:(20:Int)<(F.length:Int)
  .simp[h20]
  have hl8:(net7 l P).2=0->l.length<=8:=fun h=>(len_few hfw (x117 h)).1
  obtain⟨s',p',hs',hp',hcp⟩:=x196 29 hs hp (by omega) (by omega) m1
  obtain⟨f',hf',hcf⟩:=x195 29 hf (by omega) m1
  obtain⟨v1,hv1,hc1⟩:=w_CycleOf 16 (i:=i) hs' hp' hf' (by omega) hl8 m1
  obtain⟨v2,L2,hv2,hL2,hc2⟩:=w_Cycles 13 hs' hp' hf' (by omega) hl8 m1
  obtain⟨v3,L3,hv3,hL3,hc3⟩:=x19i 22 hs' hp' hl8 m1
  simp[h20,g1,hcp,hcf,hc1,hc2,hc3,w_Err7 26 hs hp]
  by_cases he:(net7 l P).2=0
  rotate_left
  .have e1:cfE l P F=(net7 l P).2:=by simp[cfE,he]
   have e2:cyOE l P F i=(net7 l P).2:=by simp[cyOE,e1,he]
   rw[if_neg (by rw[e2];exact he)]at hv1
   rw[if_neg (by rw[e1];exact he)]at hL2
   rw[if_neg he]at hL3
   have z2:L2.length=0:=by simpa using congrArg List.length hL2
   have z3:L3.length=0:=by simpa using congrArg List.length hL3
   simp[he,e1,e2,hv1.len xyq,hv2.len xyr,hv3.len xyr,z2,z3]
  have hR:=x117 he
  have hPl:=hR.pl
  rw[if_pos he]at hL3
  obtain⟨v4,L4,hv4,hL4,hc4⟩:=x19f 28 hs hp (hl8 he) (by omega) m1
  have hsw:=fun m=>x176 28 hv3 hv4 (by rw[hL3,hL4]) (by
   have h1:=x147 P (hl8 he)
   have h2:L3.length=(triN P l.length 0).length:=by simpa using congrArg List.length hL3
   omega) (fun x hx=>by
   have:x.w∈triN P l.length 0:=by rw[<-hL3];exact List.mem_map_of_mem hx
   have:=triN_w _ this
   omega) m
  have hE:cfE l P F=xvy l.length P F:=by simp[cfE,he]
  simp[he,g1,hc4,hsw,x19b 27 hs hp hf (by omega) hR,hE]
  by_cases hF:xvy l.length P F=0
  rotate_left
  .have e2:cyOE l P F i=xvy l.length P F:=by simp[cyOE,hE,hF]
   rw[if_neg (by rw[e2];exact hF)]at hv1
   rw[if_neg (by rw[hE];exact hF)]at hL2
   have z2:L2.length=0:=by simpa using congrArg List.length hL2
   simp[hF,e2,hv1.len xyq,hv2.len xyr,z2]
  have hT:=(x16x hR).mp hF
  rw[if_pos (by rw[hE];exact hF)]at hL2
  obtain⟨v5,L5,hv5,hL5,hc5⟩:=w_rCycles 26 hs hp hf hR hT m1
  obtain⟨cl1,cl2⟩:=cyc_len hR.pr hT hL2
  have hl60:=hR.ll
  have hsw2:=fun m=>x176 28 hv2 hv5 (by rw[hL2,hL5]) (by omega) (fun x hx=>by
   obtain⟨_,_,_,_,_,h⟩:=cl2 x hx
   omega) m
  simp[hF,g1,hc5,hsw2,hp.len xw3]
  rw[xv1 (by omega) (by omega)]
  simp[x106]
  cases c2:wi i 0 ((P.length:Int)-1)with
  |false=>
   have e:cyOE l P F i=6:=by simp[cyOE,hE,hF,c2]
   rw[if_neg (by rw[e];omega)]at hv1
   simp[e,hv1.len xyq]
  |true=>
   have hi:=wi_t c2
   simp[w_Has 29 (x:=i) hf (by omega)]
   cases c3:F.any fun y=>decide (y=i)with
   |true=>
    have e:cyOE l P F i=28:=by simp only[cyOE,hE,hF,c2,c3];rfl
    rw[if_neg (by rw[e];omega)]at hv1
    simp[e,hv1.len xyq]
   |false=>
    have e:cyOE l P F i=0:=by simp only[cyOE,hE,hF,c2,c3];rfl
    rw[if_pos e]at hv1
    obtain⟨v6,hv6,hc6⟩:=x174 27 hs hp hf hR hT (i:=i) (by omega) (by omega) m1
    have hlen:=(x125 hR.pr hT (i:=i) (by omega) (by omega)).2.2.2
    have hss:=fun m=>x175 29 hv1 hv6 (by simp[cycC];omega) m
    simp[e,g1,hc6,hss]
end Go.Ix
