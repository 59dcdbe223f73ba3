import Derived.Test.YtpeakdjfagbpcaaGreatWg18
set_option linter.unusedSimpArgs false
set_option linter.unusedVariables false
namespace Go.Ix
open Go.Proofs
theorem law_StackClosures{s p f g c:AV}{l:List Scene}{P:List Pq}{ph wt:List Int}{w:List Sp}(hs:Sl Scene.c s l)(hp:Sl Pq.c p P)(hf:Ints f ph)(hg:Ints g wt)(hc:Sl Sp.c c w):∃m',x13e 31 [] x58 [.agg [s,p,f,g],c] mem0=some (B true,m'):=by
 rw[xlb]
 unfold x8w xar
 generalize hm1:(⟨[],1⟩:Mem).new (0,0,2) (.row [s,p,f,g] 0 false)=m1
 have g3:m1.get (0,0,2)=some (.row [s,p,f,g] 0 false):=by rw[<-hm1];simp
 obtain⟨bl,hbl,hlc⟩:=w_light7 24 hs hp hf hg m1
 simp[mem0,hs.one,hp.one,hf.one,hg.one,hm1,w_awake7,g3,hlc]
 cases bl with
 |false=>simp
 |true=>
  have hL:=hbl rfl
  have ha:=hL.a
  have hb:=hL.b
  obtain⟨l1,l2⟩:=few7_len hL.few
  simp[hc.len x155]
  by_cases h30:(30:Int)<(w.length:Int)
  .simp[h30]
  obtain⟨s',p',f',g',hs',hp',hf',hg',hcp⟩:=w_Copy7 28 hs hp hf hg (by omega) (by omega) (by omega) (by omega) m1
  obtain⟨c',hc',hcc⟩:=w_steps7 29 hc (by omega) m1
  have hcl:=w_Closure 21 hs' hp' hf' hg' hc' (by omega) (by omega) (by omega) m1
  obtain⟨o,ho,hoc⟩:=x1iy 15 hs' hp' hf' hg' (by omega) (by omega) hL.few m1
  simp[h30,g3,hcp,hcc,hcl,hoc,x1gh 25 hs hp hf hg (by omega) (by omega),x1bd 22 hs' hp' hf' hg' (by omega) (by omega)]
  by_cases hE:taskE l P ph wt=0
  rotate_left
  .have e1:clE l P ph wt w=taskE l P ph wt:=by unfold clE;simp[hE]
   have e2:clN l P ph wt w=0:=by unfold clN;rw[e1];simp[hE]
   rw[if_neg hE]at ho
   simp[hE,e1,e2,ho.len x155]
  have hT:=x1ac hE
  have hR:=hT.r
  rw[if_pos hE]at ho
  obtain⟨o2,ho2,hoc2⟩:=x1iz 25 hs hp hf ⟨hg.one,hg.still1,hg.clean1⟩ hT m1
  have e1:clE l P ph wt w=cycE P w:=by unfold clE;simp[hE]
  have hfl:(foW l P ph).length<=1000:=by
   unfold foW
   cases hfo:foI l P ph with
   |none=>simp
   |some i=>
    have hi:=List.mem_of_find?_eq_some hfo
    unfold x14u x14l at hi
    have hi2:=fresh_mem.mp (List.mem_filter.mp hi).1
    have:=(x19c hR.pr (x1d6 hR.pr (fW l P)) hi2.1 hi2.2).2.2.2
    simp only[cycC,List.length_cons]
    omega
  have hss:=fun m=>x1il 29 ho ho2 (by omega) m
  have hcyc:=fun m=>x1if 28 hs hp hc (show w.length<=1000 by omega) hR m
  simp[hE,g3,hoc2]
  have fin:∀X:O2->Prop,X=X:=fun _=>rfl
  cases hfo:foI l P ph with
  |none=>
   have q1:foW l P ph=[]:=by unfold foW;rw[hfo]
   have q2:foN l P ph=0:=by unfold foN;rw[hfo]
   rw[q1]at ho
   simp[q2,ho.len x155,g3,hcyc,e1]
   by_cases c1:cycE P w=0
   .obtain⟨k1,k2,-⟩:=x1df c1
    have hsm:=fun m=>w_rSum 29 hf hc (by rw[hT.lp];exact k2) (by omega) (phM hT.hp) (by omega) m
    have e2:clN l P ph wt w=sumW (phI ph) w:=by unfold clN;rw[e1,c1];rfl
    simp[c1,g3,hsm,e2]
   .have e2:clN l P ph wt w=0:=by unfold clN;rw[e1];simp[c1]
    simp[c1,e2]
  |some i=>
   simp[hss,g3,hcyc,e1]
   by_cases c1:cycE P w=0
   .obtain⟨k1,k2,-⟩:=x1df c1
    have hsm:=fun m=>w_rSum 29 hf hc (by rw[hT.lp];exact k2) (by omega) (phM hT.hp) (by omega) m
    have e2:clN l P ph wt w=sumW (phI ph) w:=by unfold clN;rw[e1,c1];rfl
    simp[c1,g3,hsm,e2]
   .have e2:clN l P ph wt w=0:=by unfold clN;rw[e1];simp[c1]
    simp[c1,e2]
end Go.Ix
