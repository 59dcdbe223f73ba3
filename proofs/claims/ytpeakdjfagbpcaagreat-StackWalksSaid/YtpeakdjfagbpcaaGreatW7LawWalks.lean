import Derived.Test.YtpeakdjfagbpcaaGreatW7Walks
set_option linter.unusedSimpArgs false
set_option linter.unusedVariables false
namespace Go.Ix
open Go.Proofs
theorem copy_sl{α:Type}{enc:α->List AV}{z bytes:Nat}(hz:∀x,(enc x).length=z)(hst:∀x,(enc x).all still1=true){a:AV}{l:List α}(h:Sl enc a l)(hr:x1xf l.length bytes)(s t:Nat)(m:Mem):∃b m2 b',Sl enc b' l/\Go.Ix.frz m2.get deep b=some b' /\
 ∀{R:Type} (k:AV->Mem->Option R),sApp z bytes (0,s,t) (elems m.get z a) (.slit [] 0 true) m k=k b m2:=by
 rcases x251 hz h hr (0,s,t) m with ⟨rfl,h1⟩|⟨h0,h1⟩
 .exact⟨.slit [] 0 true,m,.slit [] 0 true,Sl.lit [] true,rfl,h1⟩
 .exact⟨_,_,.slit (l.flatMap enc) l.length false,Sl.lit l false,x22x (k:=4) hz hst (by simp),h1⟩
theorem w_steps7(d:Nat){a:AV}{l:List Sp}(h:Sl Sp.c a l)(hl:l.length<=1000000)(m:Mem):∃b,Sl Sp.c b l/\x1x1 (x1x3 (d+1)) x2w [a] m=some (b,m):=by
 refine callF (by simp[h.still]) ?_ m
 rw[x12m]
 unfold xbn xcr
 obtain⟨b,m2,b',h1,h2,h3⟩:=copy_sl (bytes:=16) Sp.len Sp.still h (by unfold x1xf;omega) 3 5 (⟨[],1⟩:Mem)
 simp[mem0,z_step,x1x9,x1ym,x1xu,h3]
 exact RetF.mk h2 h1
theorem law_StackWalks{s p c:AV}{l:List Scene}{P:List Pq}{w:List Sp}(hs:Sl Scene.c s l)(hp:Sl Pq.c p P)(hc:Sl Sp.c c w):∃m',x1x3 31 [] x50 [.agg [s,p],c] mem0=some (B true,m'):=by
 rw[x12f]
 unfold xbd xc4
 simp[mem0,hs.one,hp.one,w_awake7,w_Few7 29 hs hp]
 cases hfw:few7 l P with
 |false=>simp
 |true=>
  simp[hc.len x1yv]
  obtain⟨l1,l2⟩:=few7_len hfw
  generalize hm1:Mem.new _ _ _=m1
  have g2:m1.get (0,0,2)=some (.row [s,p] 0 false):=by rw[<-hm1];simp
  obtain⟨s',p',hs',hp',hcp⟩:=x296 29 hs hp (by omega) (by omega) m1
  have key:w.length<=1000->∃m',((sLd true 2 (.ptr (0,0,2) 0 0) m1).bind fun t27=>
   (x1x1 (x1x3 30) x29 [t27] m1).bind fun p28=>
   (x1x1 (x1x3 30) x2w [c] p28.2).bind fun p30=>
   (x1x1 (x1x3 30) x2v [p28.1,p30.1] p30.2).bind fun p31=>
   (sLd true 2 (.ptr (0,0,2) 0 0) p31.2).bind fun t32=>
   (x1x1 (x1x3 30) x2u [t32] p31.2).bind fun p33=>
   x5k (x1x3 30) [] 0 c (.ptr (0,0,2) 0 0) p31.1 p33.1 p33.2 (0+31))=some (B true,m'):=fun hw=>by
   obtain⟨c',hc',hst⟩:=w_steps7 29 hc (by omega) m1
   simp[g2,hcp,hst,x297 22 hs' hp' hc' hw,w_Err7 26 hs hp]
   unfold x5k
   by_cases he:(net7 l P).2=0
   .simp[he,g2,x298 28 hs hp hc hw (x279 he)]
    unfold x4c
    simp
   .simp[he]
    unfold x4c
    simp
  by_cases h30:(30:Int)<(w.length:Int)
  .by_cases h400:(w.length:Int)<=400
   .simp[hc.len x1yv,h30,h400]
   .by_cases h402:(402:Int)<(w.length:Int)
    .simp[hc.len x1yv,h30,h400,h402]
    .have:=key (by omega)
     simp[hc.len x1yv,h30,h400,h402]
     simpa[g2,hcp,hc.len x1yv]using this
  .have h402:¬(402:Int)<(w.length:Int):=by omega
   have:=key (by omega)
   simp[hc.len x1yv,h30,h402]
   simpa[g2,hcp,hc.len x1yv]using this
end Go.Ix
