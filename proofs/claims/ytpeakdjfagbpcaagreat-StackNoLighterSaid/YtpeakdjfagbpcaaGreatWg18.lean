import Derived.Test.YtpeakdjfagbpcaaGreatWg17
import Derived.Test.YtpeakdjfagbpcaaGreatWg16
import Derived.Test.YtpeakdjfagbpcaaGreatWg6
import Derived.Test.YtpeakdjfagbpcaaGreatWg3
set_option linter.unusedSimpArgs false
set_option linter.unusedVariables false
namespace Go.Ix
open Go.Proofs
theorem nm_iff{l:List Scene}{P:List Pq}(hR:Right7 l P){i j:Nat}(hi:i<l.length)(hj:j<l.length):(nmM (labA l P)).1.length=l.length/\(at0 (nmM (labA l P)).1 i=at0 (nmM (labA l P)).1 j↔at0 (labA l P) i=at0 (labA l P) j):=by
 obtain⟨mu,h1,h2,h3⟩:=lab_mu hR
 have hL:=((Lab.fresh l.length).joins hR.pr).len
 obtain⟨a,-,c⟩:=nb_can h1 h2 (ls:=labA l P) (n:=l.length) hL h3
 refine⟨a,(c i j hi hj).trans ?_⟩
 rw[h3 i hi,h3 j hj]
 omega
theorem PtI_len(ls:List Int):∀k,(nmF ls k).1.length=ls.length
 |0=>by simp[nmF]
 |k+1=>by
  rw[x2q8]
  have:=PtI_len ls k
  unfold nmS
  split<;>simpa using this
theorem nm_len{l:List Scene}{P:List Pq}(hR:Right7 l P):(nmM (labA l P)).1.length=l.length:=by
 have hL:Lab l.length (labA l P):=(Lab.fresh l.length).joins hR.pr
 have:=fun n=>(PtI_len (labA l P) n)
 have h:=this l.length
 rw[<-hL.len]at h
 rw[nmF_all]at h
 have:=hL.len
 omega
def rtN(u:List Int)(k:Nat):Nat:=((List.range k).filter fun(v:Nat)=>decide (at0 u v=(v:Int))).length
theorem x2t1(u:List Int)(k:Nat):rtN u (k+1)=rtN u k+(if at0 u k=k then 1 else 0):=by
 unfold rtN
 rw[List.range_succ,List.filter_append,List.length_append]
 congr 1
 by_cases c:at0 u k=k<;>simp[List.filter_cons,c]
theorem rtN_le(u:List Int):∀k,rtN u k<=k
 |0=>by simp[rtN]
 |k+1=>by
  rw[x2t1]
  have:=rtN_le u k
  split<;>omega
theorem new_part{l:List Scene}{P:List Pq}(hR:Right7 l P){k:Nat}(hk:k<l.length) :
 (((nmM (labA l P)).1.take k).any fun y=>decide (y=at0 (nmM (labA l P)).1 k))=!decide (at0 (labA l P) k=k):=by
 have hL:Lab l.length (labA l P):=(Lab.fresh l.length).joins hR.pr
 have hl:=nm_len hR
 have hok:=hL.ok k hk
 by_cases c:at0 (labA l P) k=k
 .rw[decide_eq_true c,Bool.not_true,List.any_eq_false]
  intro y hy
  obtain⟨j,hj,rfl⟩:=List.getElem_of_mem hy
  have hj2:j<k:=by simp at hj;omega
  rw[List.getElem_take,<-x2gm (by omega)]
  have:=(nm_iff hR (i:=j) (j:=k) (by omega) hk).2
  simp only[decide_eq_true_eq]
  rw[this,c]
  have:=hL.ok j (by omega)
  omega
 .rw[decide_eq_false c,Bool.not_false,List.any_eq_true]
  obtain⟨j,hj⟩:∃j:Nat,at0 (labA l P) k=j:=⟨(at0 (labA l P) k).toNat,by omega⟩
  refine⟨at0 (nmM (labA l P)).1 j,?_,?_⟩
  .rw[x2gm (by omega)]
   have hjl:j<((nmM (labA l P)).1.take k).length:=by simp;omega
   have:=List.getElem_mem hjl
   rwa[List.getElem_take]at this
  .have:=(nm_iff hR (i:=j) (j:=k) (by omega) hk).2
   rw[decide_eq_true_eq,this]
   have h2:=hok.2.2
   rw[hj]at h2 ⊢
   rwa[Int.toNat_natCast]at h2
theorem law_StackNoLighter{s p f:AV}{l:List Scene}{P:List Pq}{F:List Int}(hs:Sl Scene.c s l)(hp:Sl Pq.c p P)(hf:Ints f F):∃m',x2g5 31 [] x6y [.agg [s,p],f] mem0=some (B true,m'):=by
 rw[x1cr]
 unfold xet xga
 generalize hm1:(⟨[],1⟩:Mem).new (0,0,2) (.row [s,p] 0 false)=m1
 have g1:m1.get (0,0,2)=some (.row [s,p] 0 false):=by rw[<-hm1];simp
 simp[mem0,hs.one,hp.one,hm1,g1,w_awake7,w_Few7 29 hs hp]
 cases hfw:few7 l P with
 |false=>simp
 |true=>
  obtain⟨l1,l2⟩:=few7_len hfw
  simp[g1,w_Err7 26 hs hp]
  by_cases he:(net7 l P).2=0
  .have hR:=x2oc he
   have hL:Lab l.length (labA l P):=(Lab.fresh l.length).joins hR.pr
   simp[he,hf.len x2hl]
   by_cases h20:(20:Int)<(F.length:Int)
   .simp[h20]
   have hT:=x2sl hR.pr (fW l P)
   have hlen:=x2t0 (fW l P) l.length P
   have hsp:=x2q9 l P
   obtain⟨s',p',hs',hp',hcp⟩:=x2ur 29 hs hp (by omega) (by omega) m1
   obtain⟨t,ht,htc⟩:=x2v3 22 hs' hp' (fun _=>len_few hfw hR) m1
   rw[if_pos he]at ht
   obtain⟨t',ht',htc'⟩:=x2s9 29 ht (by omega) m1
   obtain⟨f',hf',hcf⟩:=x2s9 29 hf (by omega) m1
   obtain⟨a,ha,hac⟩:=w_Parts7 23 hs' hp' m1
   rw[if_pos he]at ha
   have hE:∀F,cfE l P F=x2hx l.length P F:=fun F=>by simp[cfE,he]
   have hEl:x2hx l.length P (x2h3 (fW l P) l.length P)=0:=(x2ss hR).mpr hT
   have hnl:=nm_len hR
   simp[h20,g1,hcp,htc,htc',hcf,hac,he,x2st 22 hs' hp' ht' (by omega),x2st 22 hs' hp' hf' (by omega),hE,cfN,hEl,hsp,ha.len x2hl,hs.len x2h9,hnl]
   unfold xbx
   have hlr:l.length=rtN (labA l P) l.length+(x2h3 (fW l P) l.length P).length:=hT.len hR.pr
   have hll:=hR.ll
   refine x2hu (N:=l.length) (σ:=Int) (fun n k c m fc=>x3c (x2g5 30) [] 0 n f (.ptr (0,0,2) 0 0) t (I (List.map (fW l P) (x2h3 (fW l P) l.length P)).sum)
    (I (bif decide (x2hx l.length P F=0)then(List.map (fW l P) F).sum else 0)) (I (x2hx l.length P F)) a (I c) (I k) m fc)
    (fun k c m=>m=m1/\c=rtN (labA l P) k) (fun r=>∃m',r=some (B true,m')) ?_ ?_ NN 0 0 m1 _ (by omega) (by rw[x2gs];omega) ⟨rfl,by simp[rtN]⟩
   .rintro n k c m fc hk ⟨rfl,hc⟩ next
    have hk':(k:Int)<(l.length:Int):=by omega
    have hrl:=rtN_le (labA l P) k
    obtain⟨a2,ha2,hsl⟩:=ints_pre ha (k:=k) (by omega) (by omega)
    have ix:=ha.ix x2hc (show k<(nmM (labA l P)).1.length by omega)
    have ld:=fun m=>x2k6 (m:=m) (show k<(nmM (labA l P)).1.length by omega)
    have hhas:=fun m=>w_Has 29 (x:=at0 (nmM (labA l P)).1 k) ha2 (by simp;omega) m
    have hst:=x2t1 (labA l P) k
    simp only[new_part hR hk]at hhas
    simp only[x3c]
    unfold xbw xbv
    simp[ha.len x2hl,hnl,hk,hsl,ix,ld,hhas]
    by_cases e:at0 (labA l P) k=k
    .rw[if_pos e]at hst
     simp[e]
     unfold x67
     simp(disch:=omega) [x2gh]
     exact next _ _ _ ⟨rfl,by omega⟩
    .rw[if_neg e]at hst
     simp[e]
     unfold x67
     simp(disch:=omega) [x2gh]
     exact next _ _ _ ⟨rfl,by omega⟩
   .rintro n c m fc ⟨rfl,hc⟩
    simp only[x3c]
    unfold xbw x1i
    simp[ha.len x2hl,hnl,g1,ht.len x2hl,hs.len x2h9,hf.len x2hl]
    rw[x2gh (by omega) (by omega)]
    have e1:((x2h3 (fW l P) l.length P).length:Int)=(l.length:Int)-c:=by omega
    by_cases hF:x2hx l.length P F=0
    .have hTF:=(x2ss hR).mp hF
     obtain⟨n1,n2⟩:=x2us (M:=300000) hR.pr (f:=fW l P) (fun i h0 h1=>by
      have:=x2o4 hR.ib (hR.at (i:=i) ⟨h0,h1⟩)
      unfold fW
      omega) hTF
     have e2:(F.length:Int)=(l.length:Int)-c:=by omega
     simp[e1,e2,hF,n1,hf.len x2hl,ht.len x2hl]
    .simp[e1,hF]
  .simp[he]
end Go.Ix
