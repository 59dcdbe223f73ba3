import Derived.Test.YtpeakdjfagbpcaaGreatW7Forest3
import Derived.Test.YtpeakdjfagbpcaaGreatW7Copy
set_option linter.unusedSimpArgs false
set_option linter.unusedVariables false
namespace Go.Ix
open Go.Proofs
theorem x1yv:Tryz.prog.underlying x10=some (.slice x7y):=by kernel_rfl
theorem z_step:x37=[I 0,I 0]:=by kernel_rfl
theorem w_ends(d:Nat){s p:AV}{P:List Pq}(hs:s.one=true/\still1 s=true)(hp:Sl Pq.c p P){x:Sp}(hx:0<=x.p/\x.p<P.length)(m:Mem) :
 x1x1 (x1x3 (d+1)) x2y [.agg [s,p],.agg [I x.p,I x.s]] m=some (.tup [I (frS P x),I (toS P x)],m):=by
 refine x20b (by simp[hs.2,hp.still1]) ?_ m
 have ip:=hp.ixz Pq.len hx.1 hx.2
 have lp:=fun m=>x1zo (m:=m) (enc:=Pq.c) Pq.len (by omega) (show x.p.toNat<P.length by omega)
 rw[<-prAt_lt (by omega)]at lp
 unfold frS toS
 generalize prAt P x.p=q at *
 simp only[Pq.c]at lp
 rw[x12u]
 unfold xbv xda
 by_cases c:x.s<0
 .simp[mem0,hs.1,hp.one,ip,lp,x223,c]
  exact RetF.tup rfl rfl
 .simp[mem0,hs.1,hp.one,ip,lp,x223,c]
  exact RetF.tup rfl rfl
theorem w_rends(d:Nat){s p:AV}{P:List Pq}(hs:s.one=true/\still1 s=true)(hp:Sl Pq.c p P){x:Sp}(hx:0<=x.p/\x.p<P.length)(h1:x.s=1\/x.s=-1)(m:Mem) :
 x1x1 (x1x3 (d+1)) x41 [.agg [s,p],.agg [I x.p,I x.s]] m=some (.tup [I (frS P x),I (toS P x)],m):=by
 refine x20b (by simp[hs.2,hp.still1]) ?_ m
 have ip:=hp.ixz Pq.len hx.1 hx.2
 have lp:=fun m=>x1zo (m:=m) (enc:=Pq.c) Pq.len (by omega) (show x.p.toNat<P.length by omega)
 rw[<-prAt_lt (by omega)]at lp
 unfold frS toS
 generalize prAt P x.p=q at *
 simp only[Pq.c]at lp
 rw[x12v]
 unfold xbw xdb
 rcases h1 with c|c
 .simp[mem0,hs.1,hp.one,ip,lp,x223,c]
  exact RetF.tup rfl rfl
 .simp[mem0,hs.1,hp.one,ip,lp,x223,c]
  exact RetF.tup rfl rfl
def cyE(P:List Pq):Nat->Int->Int->List Sp->Int
 |_,b,e,[]=>bif !decide (b=e)then 25 else 0
 |k,b,e,x::r=>
  bif !(wi x.p 0 ((P.length:Int)-1))then 6
  else bif !decide (x.s=1)&&!decide (x.s=-1)then 2
  else bif decide (k=0)then cyE P (k+1) (frS P x) (toS P x) r
  else bif !decide (frS P x=e)then 14
  else cyE P (k+1) b (toS P x) r
def cycE(P:List Pq)(w:List Sp):Int:=bif decide (w.length=0)then 10 else bif decide (400<w.length)then 8 else cyE P 0 0 0 w
theorem x297(d:Nat){s p c:AV}{l:List Scene}{P:List Pq}{w:List Sp}(hs:Sl Scene.c s l)(hp:Sl Pq.c p P)(hc:Sl Sp.c c w)(hw:w.length<=1000)(m:Mem) :
 x1x1 (x1x3 (d+8)) x2v [.agg [s,p],c] m=some (I (bif !decide ((net7 l P).2=0)then(net7 l P).2 else cycE P w),m):=by
 refine x20b (by simp[hs.still1,hp.still1,hc.still]) ?_ m
 rw[x12l]
 unfold xbm xcq
 simp[hs.one,hp.one,mem0,w_netErr (d+1) hs hp]
 by_cases he:(net7 l P).2=0
 rotate_left
 .simp[he]
  exact RetF.st rfl rfl
 have hR:=x279 he
 have hpl:=hR.pl
 simp[he,hc.len x1yv]
 by_cases c1:w.length=0
 .have:w=[]:=List.length_eq_zero_iff.mp c1
  simp[this]
  exact RetF.st rfl (by simp[cycE,c1])
 have c1':¬(w.length:Int)=0:=by omega
 have c1'':¬w=[]:=fun e=>c1 (by rw[e];rfl)
 simp[c1'']
 by_cases c2:400<w.length
 .have c2':(400:Int)<(w.length:Int):=by omega
  simp[c2']
  exact RetF.st rfl (by simp[cycE,c1,c2])
 have c2':¬(400:Int)<(w.length:Int):=by omega
 have hE:cycE P w=cyE P 0 0 0 w:=by simp[cycE,c1,c2]
 simp[c2',hE]
 unfold x9x
 simp[hc.len x1yv]
 refine x222 (N:=w.length) (fun n k (b:Int×Int) m fc=>x1z (x1x3 (d+7)) [] 0 n (.ptr (0,0,2) 0 0) (I b.1) (I b.2) c (I w.length) (I k) m fc)
  (fun k b m=>m.get (0,0,2)=some (.row [s,p] 0 false)/\cyE P k b.1 b.2 (w.drop k)=cyE P 0 0 0 w) _ ?_ ?_ NN 0 (0,0) _ _ (by omega) (by rw[x1z3];omega) ⟨by simp,by simp⟩
 .rintro n k ⟨b,e⟩ m fc hk ⟨g2,hT⟩ next
  have hk':(k:Int)<(w.length:Int):=by omega
  have ix:=hc.ix Sp.len hk
  have ld:=fun m=>x1zo (m:=m) (enc:=Sp.c) Sp.len (by omega) hk
  rw[x1z2 hk]at hT
  generalize w[k]=x at *
  simp only[cyE]at hT
  simp only[x1z]
  unfold x9w x63
  simp only[Sp.c]at ld
  simp[hk',ix,ld,z_step]
  generalize hm1:Mem.set _ _ _=m1
  have q2:m1.get (0,0,2)=some (.row [s,p] 0 false):=by rw[<-hm1];simp[g2]
  have q9:m1.get (0,fc+1+3,9)=some (.row [I x.p,I x.s] 0 false):=by rw[<-hm1];simp
  simp[q2,g2,hp.len x1zq]
  rw[x1y5 (by omega) (by omega)]
  simp[x22w]
  cases c3:wi x.p 0 ((P.length:Int)-1)with
  |false=>
   simp[c3]at hT ⊢
   exact RetF.st rfl (by rw[<-hT])
  |true=>
   have hx:=wi_t c3
   have he2:=fun m=>w_ends (d+6) ⟨hs.one,hs.still1⟩ hp (x:=x) ⟨hx.1,by omega⟩ m
   have tl:(x.s=1\/x.s=-1)->∀fc2,RetF (fun v=>v=I (cyE P 0 0 0 w)) (x62 (x1x3 (d+7)) [] 0 (x1z (x1x3 (d+7)) [] 0 n) (.ptr (0,0,2) 0 0) (I b) (I e) (I k) (I (frS P x)) (I (toS P x)) c (I w.length) (I k) m1 fc2):=fun hs1 fc2=>by
    have hs2:(!decide (x.s=1)&&!decide (x.s=-1))=false:=by rcases hs1 with q|q<;>simp[q]
    rw[c3,hs2]at hT
    unfold x62 x61 x17
    by_cases c4:k=0
    .simp[c4]at hT
     simp(disch:=omega) [c4,x1y5]
     have:=next (frS P x,toS P x) m1 (fc2+5+2+2) ⟨q2,by simpa[c4]using hT⟩
     simpa[c4]using this
    .have c4':¬(k:Int)=0:=by omega
     by_cases c5:frS P x=e
     .simp[c4,c5]at hT
      simp(disch:=omega) [c4,c5,x1y5]
      exact next (b,toS P x) m1 _ ⟨q2,hT⟩
     .simp[c4,c5]at hT
      simp[c4,c5]
      exact RetF.st rfl (by rw[<-hT])
   simp[q9]
   by_cases s1:x.s=1
   .have:=tl (.inl s1)
    simp[s1,q2,q9,z_graph,x1xd,x1ym]
    rw[<-s1]
    simp[he2]
    exact this _
   .simp[s1,q9]
    by_cases s2:x.s=-1
    .have:=tl (.inr s2)
     simp[s2,q2,q9,z_graph,x1xd,x1ym]
     rw[<-s2]
     simp[he2]
     exact this _
    .simp[c3,s1,s2]at hT
     simp[s2]
     exact RetF.st rfl (by rw[<-hT])
 .rintro n ⟨b,e⟩ m fc ⟨g2,hT⟩
  rw[List.drop_of_length_le (Nat.le_refl _)]at hT
  simp only[cyE]at hT
  simp only[x1z]
  unfold x9w xp
  rw[<-hT]
  by_cases c:b=e
  .simp[c]
   exact RetF.st rfl rfl
  .simp[c]
   exact RetF.st rfl rfl
theorem x298(d:Nat){s p c:AV}{l:List Scene}{P:List Pq}{w:List Sp}(hs:Sl Scene.c s l)(hp:Sl Pq.c p P)(hc:Sl Sp.c c w)(hw:w.length<=1000)(hR:Right7 l P)(m:Mem) :
 x1x1 (x1x3 (d+2)) x3u [.agg [s,p],c] m=some (I (cycE P w),m):=by
 refine x20b (by simp[hs.still1,hp.still1,hc.still]) ?_ m
 rw[x12n]
 unfold xbo xcs
 have hpl:=hR.pl
 simp[hs.one,hp.one,mem0,hc.len x1yv]
 by_cases c1:w.length=0
 .have:w=[]:=List.length_eq_zero_iff.mp c1
  simp[this]
  exact RetF.st rfl (by simp[cycE,c1])
 have c1'':¬w=[]:=fun e=>c1 (by rw[e];rfl)
 simp[c1'']
 by_cases c2:400<w.length
 .have c2':(400:Int)<(w.length:Int):=by omega
  simp[c2']
  exact RetF.st rfl (by simp[cycE,c1,c2])
 have c2':¬(400:Int)<(w.length:Int):=by omega
 have hE:cycE P w=cyE P 0 0 0 w:=by simp[cycE,c1,c2]
 simp[c2',hE]
 unfold x9z
 refine x222 (N:=w.length) (fun n k (b:Int×Int) m fc=>x20 (x1x3 (d+1)) [] 0 n c (.ptr (0,0,2) 0 0) (I b.1) (I b.2) (I k) m fc)
  (fun k b m=>m.get (0,0,2)=some (.row [s,p] 0 false)/\cyE P k b.1 b.2 (w.drop k)=cyE P 0 0 0 w) _ ?_ ?_ NN 0 (0,0) _ _ (by omega) (by rw[x1z3];omega) ⟨by simp,by simp⟩
 .rintro n k ⟨b,e⟩ m fc hk ⟨g2,hT⟩ next
  have hk':(k:Int)<(w.length:Int):=by omega
  have ix:=hc.ix Sp.len hk
  have ld:=fun m=>x1zo (m:=m) (enc:=Sp.c) Sp.len (by omega) hk
  rw[x1z2 hk]at hT
  generalize w[k]=x at *
  simp only[cyE]at hT
  simp only[x20]
  unfold x9y x66
  simp only[Sp.c]at ld
  simp[hc.len x1yv,hk',ix,ld,z_step]
  generalize hm1:Mem.set _ _ _=m1
  have q2:m1.get (0,0,2)=some (.row [s,p] 0 false):=by rw[<-hm1];simp[g2]
  have q9:m1.get (0,fc+4+4,8)=some (.row [I x.p,I x.s] 0 false):=by rw[<-hm1];simp
  simp[q2,g2,hp.len x1zq]
  rw[x1y5 (by omega) (by omega)]
  simp[x22v]
  cases c3:wi x.p 0 ((P.length:Int)-1)with
  |false=>
   simp[c3]at hT ⊢
   exact RetF.st rfl (by rw[<-hT])
  |true=>
   have hx:=wi_t c3
   have tl:(x.s=1\/x.s=-1)->∀fc2,RetF (fun v=>v=I (cyE P 0 0 0 w)) (x65 (x1x3 (d+1)) [] 0 (x20 (x1x3 (d+1)) [] 0 n) c (.ptr (0,0,2) 0 0) (I b) (I e) (I k) (I (frS P x)) (I (toS P x)) m1 fc2):=fun hs1 fc2=>by
    have hs2:(!decide (x.s=1)&&!decide (x.s=-1))=false:=by rcases hs1 with q|q<;>simp[q]
    rw[c3,hs2]at hT
    unfold x65 x64 x18
    by_cases c4:k=0
    .simp[c4]at hT
     simp(disch:=omega) [c4,x1y5]
     have:=next (frS P x,toS P x) m1 (fc2+4+2+3) ⟨q2,by simpa[c4]using hT⟩
     simpa[c4]using this
    .have c4':¬(k:Int)=0:=by omega
     by_cases c5:frS P x=e
     .simp[c4,c5]at hT
      simp(disch:=omega) [c4,c5,x1y5]
      exact next (b,toS P x) m1 _ ⟨q2,hT⟩
     .simp[c4,c5]at hT
      simp[c4,c5]
      exact RetF.st rfl (by rw[<-hT])
   simp[q9]
   by_cases s1:x.s=1
   .have:=tl (.inl s1)
    have he2:=fun m=>w_rends d ⟨hs.one,hs.still1⟩ hp (x:=x) ⟨hx.1,by omega⟩ (.inl s1) m
    simp[s1,q2,q9]
    rw[<-s1]
    simp[he2]
    exact this _
   .simp[s1,q9]
    by_cases s2:x.s=-1
    .have:=tl (.inr s2)
     have he2:=fun m=>w_rends d ⟨hs.one,hs.still1⟩ hp (x:=x) ⟨hx.1,by omega⟩ (.inr s2) m
     simp[s2,q2,q9]
     rw[<-s2]
     simp[he2]
     exact this _
    .simp[c3,s1,s2]at hT
     simp[s2]
     exact RetF.st rfl (by rw[<-hT])
 .rintro n ⟨b,e⟩ m fc ⟨g2,hT⟩
  rw[List.drop_of_length_le (Nat.le_refl _)]at hT
  simp only[cyE]at hT
  simp only[x20]
  unfold x9y xq
  rw[<-hT]
  by_cases c:b=e
  .simp[hc.len x1yv,c]
   exact RetF.st rfl rfl
  .simp[hc.len x1yv,c,Ne.symm c]
   exact RetF.st rfl rfl
end Go.Ix
