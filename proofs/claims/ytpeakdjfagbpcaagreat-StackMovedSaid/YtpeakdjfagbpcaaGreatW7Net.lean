import Derived.Test.YtpeakdjfagbpcaaGreatW7LawSmall
import Derived.Test.YtpeakdjfagbpcaaGreatW7Map
set_option linter.unusedSimpArgs false
set_option linter.unusedVariables false
namespace Go.Ix
open Go.Proofs
def x20m(n:Int)(P:List Pq):Nat->List Pq->Int×Int
 |_,[]=>(0,0)
 |k,p::r=>
  bif !(wi p.a 0 (n-1))||!(wi p.b 0 (n-1))then((k:Int),6)
  else bif decide (p.b<=p.a)then((k:Int),9)
  else bif(P.take k).any (fun q=>q.same p)then((k:Int),28)
  else x20m n P (k+1) r
def net7(l:List Scene)(P:List Pq):Int×Int:=bif !decide ((x1z5 l).2=0)then x1z5 l else bif decide (200<P.length)then(0,8)else x20m l.length P 0 P
theorem zv_bool:x237 Tryz.prog xbl=some (B false):=by kernel_rfl
theorem um_pb:Tryz.prog.underlying xdy=some (.map xb xbl):=by kernel_rfl
theorem x285{P:List Pq}{k:Nat}(hk:k<P.length)(q:Pq):(P.take (k+1)).any (fun x=>x.same q)=((P.take k).any (fun x=>x.same q)||P[k].same q):=by
 rw[List.take_succ_eq_append_getElem hk,List.any_append]
 simp
theorem same_symm{p q:Pq}:p.same q=q.same p:=by
 rw[Bool.eq_iff_iff,Pq.same_iff,Pq.same_iff]
 exact eq_comm
def Seen(P:List Pq)(k:Nat)(E:List (Pq×AV)):Prop:=∀q,lkP E q=bif(P.take k).any (fun x=>x.same q)then some (B true)else none
theorem x2aa(d s24:Nat){s p:AV}{l:List Scene}{P:List Pq}(hs:Sl Scene.c s l)(hp:Sl Pq.c p P)(hl:l.length<=60)(hP:P.length<=200){T:Int×Int} :
 ∀(n k:Nat) (x:Unit) (m:Mem) (fc:Nat),k<=P.length->P.length<n+k->(m.get (0,0,1)=some (.row [s,p] 0 false)/\(∃E,m.get (0,s24,24)=some (.map (mpP E))/\Seen P k E)/\x20m l.length P k (P.drop k)=T) ->
 RetF (fun v=>v=.tup [I T.1,I T.2]) (x29 (x1xv (d+2)) [] 0 n (.ptr (0,0,1) 0 0) (.mp (0,s24,24)) p (I P.length) (I k) m fc):=by
 refine x222 (fun n k _ m fc=>x29 (x1xv (d+2)) [] 0 n (.ptr (0,0,1) 0 0) (.mp (0,s24,24)) p (I P.length) (I k) m fc)
  (fun k _ m=>m.get (0,0,1)=some (.row [s,p] 0 false)/\(∃E,m.get (0,s24,24)=some (.map (mpP E))/\Seen P k E)/\x20m l.length P k (P.drop k)=T) _ ?_ ?_
 .rintro n k-m fc hk ⟨hg,⟨E,hE,hS⟩,hT⟩ next
  have hk':(k:Int)<(P.length:Int):=by omega
  have ix:=hp.ix Pq.len hk
  have ld:=x230 (m:=m) Pq.len (by omega) hk
  rw[x1zt hk]at hT
  have hta:=x285 hk
  generalize P[k]=e at ld hT hta
  simp only[x29]
  unfold xaq
  simp only[x214,hk',decide_true,x20k,x1yu,ix,ld,x25u,z_pair,sSt_ptr,Mem.get_new,if_true,x24g]
  simp(disch:=omega) [Pq.c]
  generalize hm1:Mem.set _ _ _=m1
  have h1:m1.get (0,0,1)=some (.row [s,p] 0 false):=by rw[<-hm1];simp[hg]
  have h8:m1.get (0,fc+4,8)=some (.row [I e.a,I e.b] 0 false):=by rw[<-hm1];simp
  have h24:m1.get (0,s24,24)=some (.map (mpP E)):=by rw[<-hm1];simp[hE]
  have hlk:=look_pq um_pb zv_bool (0,s24,24) E e false m1 h24
  have hse:=hS e
  simp[hg,hs.len x1yv]
  rw[x1yo (by omega) (by omega)]
  simp[x23t]
  simp only[x20m]at hT
  cases c1:wi e.a 0 ((l.length:Int)-1)with
  |false=>
   simp[c1]at hT ⊢
   exact RetF.tup rfl (by rw[<-hT])
  |true=>
   simp[h8,x23t]
   cases c2:wi e.b 0 ((l.length:Int)-1)with
   |false=>
    simp[c1,c2]at hT ⊢
    exact RetF.tup rfl (by rw[<-hT])
   |true=>
    simp[c1,c2]at hT
    simp[h8]
    by_cases c3:e.b<=e.a
    .simp[c3]at hT ⊢
     exact RetF.tup rfl (by rw[<-hT])
    .simp[c3]at hT
     simp[c3,h8]
     rw[show AV.agg [I e.a,I e.b]=.agg e.c from rfl,hlk,hse]
     cases c4:(P.take k).any fun x=>x.same e with
     |true=>
      simp[c4]at hT ⊢
      exact RetF.tup rfl (by rw[<-hT])
     |false=>
      rw[c4]at hT hse
      simp[h8]
      rw[up_pq um_pb (0,s24,24) E e (B true) m1 _ h24 hse]
      refine next () _ _ ⟨by simp[h1],⟨E++[(e,B true)],by simp,fun q=>?_⟩,hT⟩
      rw[lkP_app E e q _ hse,hta q,hS q,same_symm (p:=e)]
      cases q.same e<;>cases(P.take k).any fun x=>x.same q<;>rfl
 .rintro n-m fc ⟨hg,-,hT⟩
  have hk:¬((P.length:Int)<(P.length:Int)):=by omega
  simp only[x29]
  unfold xaq x2s
  rw[List.drop_of_length_le (Nat.le_refl _)]at hT
  simp[hk]
  exact RetF.tup rfl (by rw[<-hT];rfl)
theorem x2ab(d:Nat){s p:AV}{l:List Scene}{P:List Pq}(hs:Sl Scene.c s l)(hp:Sl Pq.c p P)(m:Mem):x1xt (x1xv (d+5)) x49 [.agg [s,p]] m=some (.tup [I (net7 l P).1,I (net7 l P).2],m):=by
 refine callV (by simp[hs.still1,hp.still1]) ?_ m
 rw[x13e]
 unfold xcd xdz net7
 simp[hs.one,hp.one,mem0,x2a2 d hs]
 by_cases he:(x1z5 l).2=0
 .obtain⟨hl,-⟩:=x25z he
  simp[he,hp.len x21j]
  by_cases h200:200<P.length
  .have h2:(200:Int)<(P.length:Int):=by omega
   simp[h200,h2]
   exact RetF.tup rfl rfl
  .have h2:¬(200:Int)<(P.length:Int):=by omega
   simp[h200,h2,x247]
   unfold xar
   simp[hp.len x21j]
   exact x2aa (d+2) 17 hs hp hl (by omega) NN 0 () _ _ (by omega) (by rw[x1zi];omega) ⟨by simp,⟨[],by simp;rfl,fun q=>by simp[lkP]⟩,by simp⟩
 .simp[he]
  exact RetF.tup rfl rfl
theorem w_netErr(d:Nat){s p:AV}{l:List Scene}{P:List Pq}(hs:Sl Scene.c s l)(hp:Sl Pq.c p P)(m:Mem):x1xt (x1xv (d+6)) x21 [.agg [s,p]] m=some (I (net7 l P).2,m):=by
 refine callV (by simp[hs.still1,hp.still1]) ?_ m
 rw[x137]
 unfold xc5 xde
 simp[hs.one,hp.one,mem0,x2ab d hs hp]
 exact RetF.st rfl rfl
theorem x2ac(d:Nat){s p:AV}{P:List Pq}(hp:Sl Pq.c p P)(hP:P.length<=200){i:Nat}(hi:i<P.length){e:Pq}(s7:Nat)(rec0:AV->AV->Mem->Nat->O2)(Q:O2->Prop){m:Mem}(hg:m.get (0,0,1)=some (.row [s,p] 0 false))(h7:m.get (0,s7,7)=some (.row [I e.a,I e.b] 0 false))(ht:(P.take i).any (fun x=>x.same e)=true->Q (some (.tup [I i,I 28],m)))(hf:(P.take i).any (fun x=>x.same e)=false->∀fc,Q (rec0 (.ptr (0,0,1) 0 0) (I ((i:Int)+1)) m fc)) :
 ∀(n k:Nat) (x:Unit) (m':Mem) (fc:Nat),k<=i->i<n+k->(m'=m/\(P.take k).any (fun x=>x.same e)=false) ->
 Q (x27 (x1xv (d+1)) [] 0 rec0 n (.ptr (0,0,1) 0 0) (I i) (.ptr (0,s7,7) 0 0) (I k) m' fc):=by
 refine x222 (fun n k _ m fc=>x27 (x1xv (d+1)) [] 0 rec0 n (.ptr (0,0,1) 0 0) (I i) (.ptr (0,s7,7) 0 0) (I k) m fc) (fun k _ m'=>m'=m/\(P.take k).any (fun x=>x.same e)=false) Q ?_ ?_
 .rintro n k-m' fc hk ⟨rfl,hA⟩ next
  have hk':(k:Int)<(i:Int):=by omega
  have hk2:k<P.length:=by omega
  have ix:=hp.ix Pq.len hk2
  have ld:=x230 (m:=m') Pq.len (by omega) hk2
  have hta:=x285 hk2 e
  have hts:P[k].same e=true->(P.take i).any (fun x=>x.same e)=true:=fun h=>by
   rw[List.any_eq_true]
   exact⟨P[k],by rw[List.mem_take_iff_getElem];exact⟨k,by omega,rfl⟩,h⟩
  generalize P[k]=y at ld hta hts
  have heq:=eq_pair (.tmp 69) (.tmp 70) y e
  simp only[x27]
  unfold xag
  simp[hk',hg,ix,ld,h7]
  rw[show AV.agg [I e.a,I e.b]=.agg e.c from rfl,heq]
  cases c:y.same e with
  |true=>
   simp
   exact ht (hts c)
  |false=>
   simp(disch:=omega) [x1yo]
   exact next () _ _ ⟨rfl,by rw[hta,hA,c];rfl⟩
 .rintro n-m' fc ⟨rfl,hA⟩
  simp only[x27]
  unfold xag x13
  simp(disch:=omega) [x1yo]
  exact hf hA _
theorem x2ad(d:Nat){s p:AV}{l:List Scene}{P:List Pq}(hs:Sl Scene.c s l)(hp:Sl Pq.c p P)(hl:l.length<=60)(hP:P.length<=200){T:Int×Int} :
 ∀(n k:Nat) (x:Unit) (m:Mem) (fc:Nat),k<=P.length->P.length<n+k->(m.get (0,0,1)=some (.row [s,p] 0 false)/\x20m l.length P k (P.drop k)=T) ->
 RetF (fun v=>v=.tup [I T.1,I T.2]) (x1l (x1xv (d+1)) [] 0 n (.ptr (0,0,1) 0 0) (I k) m fc):=by
 refine x222 (fun n k _ m fc=>x1l (x1xv (d+1)) [] 0 n (.ptr (0,0,1) 0 0) (I k) m fc)
  (fun k _ m=>m.get (0,0,1)=some (.row [s,p] 0 false)/\x20m l.length P k (P.drop k)=T) _ ?_ ?_
 .rintro n k-m fc hk ⟨hg,hT⟩ next
  have hk':(k:Int)<(P.length:Int):=by omega
  have ix:=hp.ix Pq.len hk
  have ld:=x230 (m:=m) Pq.len (by omega) hk
  rw[x1zt hk]at hT
  generalize P[k]=e at ld hT
  simp only[x1l]
  unfold xah x6d
  simp[hg,hp.len x21j,hs.len x1yv,hk',ix,ld,z_pair,Pq.c]
  rw[x1yo (by omega) (by omega)]
  simp[x232]
  generalize hm1:Mem.set _ _ _=m1
  have h1:m1.get (0,0,1)=some (.row [s,p] 0 false):=by rw[<-hm1];simp[hg]
  have h7:m1.get (0,fc+5+5,7)=some (.row [I e.a,I e.b] 0 false):=by rw[<-hm1];simp
  simp only[x20m]at hT
  cases c1:wi e.a 0 ((l.length:Int)-1)with
  |false=>
   simp[c1]at hT ⊢
   exact RetF.tup rfl (by rw[<-hT])
  |true=>
   simp[h7,h1,hs.len x1yv]
   rw[x1yo (by omega) (by omega)]
   simp[x232]
   cases c2:wi e.b 0 ((l.length:Int)-1)with
   |false=>
    simp[c1,c2]at hT ⊢
    exact RetF.tup rfl (by rw[<-hT])
   |true=>
    simp[c1,c2]at hT
    simp[h7]
    by_cases c3:e.b<=e.a
    .simp[c3]at hT ⊢
     exact RetF.tup rfl (by rw[<-hT])
    .simp[c3]at hT
     simp[c3]
     refine x2ac d (s:=s) hp hP hk (fc+5+5) (x1l (x1xv (d+1)) [] 0 n) _ h1 h7 (fun ha=>?_) (fun ha fc=>?_) NN 0 () m1 _ (by omega) (by rw[x1zi];omega) ⟨rfl,by simp⟩
     .simp[ha]at hT
      exact RetF.tup rfl (by rw[<-hT])
     .rw[ha]at hT
      exact next () m1 fc ⟨h1,hT⟩
 .rintro n-m fc ⟨hg,hT⟩
  have hk:¬((P.length:Int)<(P.length:Int)):=by omega
  simp only[x1l]
  unfold xah xv
  rw[List.drop_of_length_le (Nat.le_refl _)]at hT
  simp[hk,hg,hp.len x21j]
  exact RetF.tup rfl (by rw[<-hT];rfl)
theorem x2ae(d:Nat){s p:AV}{l:List Scene}{P:List Pq}(hs:Sl Scene.c s l)(hp:Sl Pq.c p P)(m:Mem):x1xt (x1xv (d+3)) x45 [.agg [s,p]] m=some (.tup [I (net7 l P).1,I (net7 l P).2],m):=by
 refine callV (by simp[hs.still1,hp.still1]) ?_ m
 rw[x138]
 unfold xc6 xdj net7
 simp[hs.one,hp.one,mem0,x2a5 d hs]
 by_cases he:(x1z5 l).2=0
 .obtain⟨hl,-⟩:=x25z he
  simp[he,hp.len x21j]
  by_cases h200:200<P.length
  .have h2:(200:Int)<(P.length:Int):=by omega
   simp[h200,h2]
   exact RetF.tup rfl rfl
  .have h2:¬(200:Int)<(P.length:Int):=by omega
   simp[h200,h2]
   unfold xai
   exact x2ad (d+1) hs hp hl (by omega) NN 0 () _ _ (by omega) (by rw[x1zi];omega) ⟨by simp,by simp⟩
 .simp[he]
  exact RetF.tup rfl rfl
theorem w_Err7(d:Nat){s p:AV}{l:List Scene}{P:List Pq}(hs:Sl Scene.c s l)(hp:Sl Pq.c p P)(m:Mem):x1xt (x1xv (d+4)) x40 [.agg [s,p]] m=some (I (net7 l P).2,m):=by
 refine callV (by simp[hs.still1,hp.still1]) ?_ m
 rw[x130]
 unfold xbx xcx
 simp[hs.one,hp.one,mem0,x2ae d hs hp]
 exact RetF.st rfl rfl
def few7(l:List Scene)(P:List Pq):Bool:=
 bif(decide (8<l.length)&&decide (l.length<=60))||decide (62<l.length)||(decide (14<P.length)&&decide (P.length<=200))||decide (202<P.length)then false else x224 l
theorem few7_len{l:List Scene}{P:List Pq}(h:few7 l P=true):l.length<=62/\P.length<=202:=by
 unfold few7 at h
 by_cases h1:62<l.length
 .simp[h1]at h
 .by_cases h2:202<P.length
  .simp[h2]at h
  .omega
theorem w_Few7(d:Nat){s p:AV}{l:List Scene}{P:List Pq}(hs:Sl Scene.c s l)(hp:Sl Pq.c p P)(m:Mem):x1xt (x1xv (d+1)) x3z [.agg [s,p]] m=some (B (few7 l P),m):=by
 refine callV (by simp[hs.still1,hp.still1]) ?_ m
 rw[x12y]
 unfold xbu xcu
 have hb:∀fc,few7 l P=x224 l->l.length<=62->RetF (fun v=>v=B (few7 l P)) (x5y (x1xv d) [] 0 (.ptr (0,0,1) 0 0) (((⟨[],1⟩:Mem).new (0,0,1) (.row [s,p] 0 false))) fc):=fun fc he hl=>by
  rw[he]
  unfold x5y
  obtain⟨m0,hm0⟩:∃m0,m0=(⟨[],1⟩:Mem).new (0,0,1) (.row [s,p] 0 false):=⟨_,rfl⟩
  have hg:m0.get (0,0,1)=some (.row [s,p] 0 false):=by rw[hm0];simp
  rw[<-hm0]
  refine x222 (N:=l.length) (σ:=Unit) (fun n k _ m fc=>x2j (x1xv d) [] 0 n (.ptr (0,0,1) 0 0) (I k) m fc) (fun k _ m=>m=m0/\x224 l=x224 (l.drop k)) _ ?_ ?_ NN 0 () m0 _ (by omega) (by rw[x1zi];omega) ⟨rfl,by simp⟩
  .rintro n k-m fc hk ⟨rfl,hS⟩ next
   have hk':(k:Int)<(l.length:Int):=by omega
   have ix:=hs.ix Scene.len hk
   have f1:=ld_fld (enc:=Scene.c) (m:=m) hk 0 rfl
   simp only[List.drop_zero]at f1
   have hS':x224 l=(decide (l[k].nm.size<=20)&&x224 (l.drop (k+1))):=by rw[hS,x1zt hk];rfl
   simp only[x2j]
   unfold x9y
   simp only[hg,hs.len x1yv,sFA_ptr,x25v,x25w,x1yu,x214]
   simp[hs.len x1yv,hk',ix,f1]
   by_cases c:(20:Int)<(l[k].nm.size:Int)
   .simp[c]
    exact RetF.st rfl (by rw[hS',decide_eq_false (show ¬l[k].nm.size<=20 by omega)];rfl)
   .simp(disch:=omega) [c,x1yo]
    refine next () m _ ⟨rfl,?_⟩
    rw[hS',decide_eq_true (show l[k].nm.size<=20 by omega)];rfl
  .rintro n-m fc ⟨rfl,hS⟩
   have hk:¬((l.length:Int)<(l.length:Int)):=by omega
   simp only[x2j]
   unfold x9y x2i
   rw[List.drop_of_length_le (Nat.le_refl _)]at hS
   simp[hg,hs.len x1yv,hk]
   exact RetF.st rfl (by rw[hS];rfl)
 have e1:decide ((8:Int)<(l.length:Int))=decide (8<l.length):=decide_eq_decide.mpr (by omega)
 have e2:decide ((l.length:Int)<=60)=decide (l.length<=60):=decide_eq_decide.mpr (by omega)
 have e3:decide ((62:Int)<(l.length:Int))=decide (62<l.length):=decide_eq_decide.mpr (by omega)
 have e4:decide ((14:Int)<(P.length:Int))=decide (14<P.length):=decide_eq_decide.mpr (by omega)
 have e5:decide ((P.length:Int)<=200)=decide (P.length<=200):=decide_eq_decide.mpr (by omega)
 have e6:decide ((202:Int)<(P.length:Int))=decide (202<P.length):=decide_eq_decide.mpr (by omega)
 simp only[mem0,sBox_eq,cells_agg,List.all_cons,List.all_nil,hs.one,hp.one,Bool.and_self,x23s,sFA_ptr,x25v,x25w,x1yu,Mem.get_new,if_true,sLe_I,x214,sGt_I]
 simp only[Nat.zero_add,List.drop_zero,List.drop_succ_cons,show Nat.beq 0 0=true from rfl,x23s,rd_f,x1yu,hs.len x1yv,hp.len x21j,sGt_I,sLe_I,e1,e2,e3,e4,e5,e6]
 have hfe:few7 l P=bif(decide (8<l.length)&&decide (l.length<=60))||decide (62<l.length)||(decide (14<P.length)&&decide (P.length<=200))||decide (202<P.length)then false else x224 l:=rfl
 by_cases h62:62<l.length
 .have:¬l.length<=60:=by omega
  have h8:8<l.length:=by omega
  rw[hfe]
  simp[h62,this,h8,e1,e2,e3,hs.len x1yv,hp.len x21j,Mem.get_new]
  exact RetF.st rfl rfl
 cases a1:decide (8<l.length)<;>cases a2:decide (l.length<=60)<;>cases a4:decide (14<P.length)<;>cases a5:decide (P.length<=200)<;>cases a6:decide (202<P.length) <;>
  simp only[a1,a2,a4,a5,a6,h62,decide_false,Bool.and_true,Bool.and_false,Bool.true_and,Bool.false_and,Bool.or_true,Bool.or_false,Bool.true_or,Bool.false_or,x23s,cond_f]at hfe <;>
  simp[a1,a2,a4,a5,a6,h62,e1,e2,e3,e4,e5,e6,hs.len x1yv,hp.len x21j,Mem.get_new] <;>
  first
  |exact RetF.st rfl (by rw[hfe])
  |exact hb _ hfe (by omega)
end Go.Ix
