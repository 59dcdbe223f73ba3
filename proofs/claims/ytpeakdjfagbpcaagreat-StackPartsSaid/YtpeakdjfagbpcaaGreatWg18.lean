import Derived.Test.YtpeakdjfagbpcaaGreatWg17
import Derived.Test.YtpeakdjfagbpcaaGreatWg16
set_option linter.unusedSimpArgs false
set_option linter.unusedVariables false
namespace Go.Ix
open Go.Proofs
theorem PtI_len(ls:List Int):∀k,(nmF ls k).1.length=ls.length
 |0=>by simp[nmF]
 |k+1=>by
  rw[x2nm]
  have:=PtI_len ls k
  unfold nmS
  split<;>simpa using this
theorem nm_len{l:List Scene}{P:List Pq}(hR:Right7 l P):(nmM (labA l P)).1.length=l.length:=by
 have hL:Lab l.length (labA l P):=(Lab.fresh l.length).joins hR.pr
 have:=fun n=>(PtI_len (labA l P) n)
 have h:=this l.length
 rw[<-hL.len]at h
 rw[nmF_all]at h
 have:=hL.len
 omega
theorem law_StackParts{s p:AV}{l:List Scene}{P:List Pq}(hs:Sl Scene.c s l)(hp:Sl Pq.c p P):∃m',x2ej 31 [] x6e [.agg [s,p]] mem0=some (B true,m'):=by
 rw[x1c0]
 unfold xeg xfl
 simp[mem0,hs.one,hp.one,w_awake7,w_Few7 29 hs hp]
 cases hfw:few7 l P with
 |false=>simp
 |true=>
  obtain⟨l1,l2⟩:=few7_len hfw
  generalize hm1:(⟨[],1⟩:Mem).new (0,0,1) (.row [s,p] 0 false)=m1
  have g1:m1.get (0,0,1)=some (.row [s,p] 0 false):=by rw[<-hm1];simp
  obtain⟨s',p',hs',hp',hcp⟩:=x2ry 29 hs hp (by omega) (by omega) m1
  obtain⟨a,ha,hac⟩:=w_Parts7 23 hs' hp' m1
  obtain⟨b,hb,hbc⟩:=w_Bridges 23 hs' hp' m1
  simp[g1,hcp,hac,hbc,w_Err7 26 hs hp]
  by_cases he:(net7 l P).2=0
  .have hR:=x2nj he
   rw[if_pos he]at ha hb
   obtain⟨a',ha',hac'⟩:=w_rParts7 27 hs hp hR m1
   obtain⟨b',hb',hbc'⟩:=x2s6 27 hs hp hR m1
   have hl1:(nmM (labA l P)).1.length<=1000000:=by rw[nm_len hR];omega
   have hl2:(brM l.length P).length<=1000000:=by
    have:=br_len (n:=l.length) (P:=P) (k:=P.length)
    rw[List.take_of_length_le (by simp[freshM])]at this
    have:=hR.pl
    unfold brM
    omega
   simp[he,g1,hac',hbc',w_Ints 29 ha ha' hl1,w_Ints 29 hb hb' hl2]
  .rw[if_neg he]at ha hb
   simp[he,g1,ha.len x2g9,hb.len x2g9]
end Go.Ix
