import Derived.Test.YtpeakdjfagbpcaaGreatW7Moved
import Derived.Test.YtpeakdjfagbpcaaGreatWAlong
set_option linter.unusedSimpArgs false
set_option linter.unusedVariables false
namespace Go.Ix
open Go.Proofs
def mvE(l:List Scene)(P:List Pq)(F:List Int)(D:Int):Int:=bif !decide ((net7 l P).2=0)then(net7 l P).2 else movE l.length F D
def mvL(l:List Scene)(P:List Pq)(F:List Int)(D:Int):List Int:=bif !decide ((net7 l P).2=0)then[]else movL l.length F D
theorem x265(d:Nat){s p f:AV}{l:List Scene}{P:List Pq}{F:List Int}(hs:Sl Scene.c s l)(hp:Sl Pq.c p P)(hf:Ints f F)(hF:F.length<=1000)(D:Int)(m:Mem) :
 ∃a,Ints a (mvL l P F D)/\x1xt (x1xv (d+8)) x20 [.agg [s,p],f,I D] m=some (.tup [a,I (mvE l P F D)],m):=by
 obtain⟨v,⟨a,rfl,h1⟩,hc⟩:=callF (by simp[hs.still1,hp.still1,hf.still]) (a_Moved d hs hp hf hF D) m
 exact⟨a,h1,hc⟩
theorem w_rMoved(d:Nat){s p f:AV}{l:List Scene}{P:List Pq}{F:List Int}(hs:Sl Scene.c s l)(hp:Sl Pq.c p P)(hf:Ints f F)(hF:F.length<=1000)(D:Int)(hR:Right7 l P)(m:Mem) :
 ∃a,Ints a (movL l.length F D)/\x1xt (x1xv (d+3)) x35 [.agg [s,p],f,I D] m=some (.tup [a,I (movE l.length F D)],m):=by
 obtain⟨v,⟨a,rfl,h1⟩,hc⟩:=callF (by simp[hs.still1,hp.still1,hf.still]) (a_rMoved d hs hp hf hF D hR) m
 exact⟨a,h1,hc⟩
theorem mov_mov{n:Nat}{F:List Int}{D E:Int}(h0:movE n F D=0)(h1:movE n (movL n F D) E=0):movE n F E=0/\movL n (movL n F D) E=movL n F E:=by
 have hL:movL n F D=F.map (x1yc (at0 F D.toNat)):=by simp[movL,h0]
 have hlen:(movL n F D).length=F.length:=by rw[hL];simp
 have a1:F.length=n/\F.any x1yy=false/\(0<=D/\D<F.length)/\at0 F D.toNat≠1000000000000:=by
  unfold movE at h0
  by_cases c1:F.length=n
  .cases c2:F.any x1yy with
   |true=>simp[c1,c2]at h0
   |false=>
    cases c3:wi D 0 ((F.length:Int)-1)with
    |false=>simp[c1,c2,c3]at h0;rw[c1]at c3;simp[c3]at h0
    |true=>
     by_cases c4:at0 F D.toNat=1000000000000
     .rw[c1]at c3;simp[c1,c2,c3,c4]at h0
     .have:=wi_t c3;exact⟨c1,rfl,by omega,c4⟩
  .simp[c1]at h0
 obtain⟨c1,c2,⟨d0,d1⟩,c4⟩:=a1
 have hin:=x264 c2
 have hget:∀k,k<F.length->at0 (movL n F D) k=x1yc (at0 F D.toNat) (at0 F k):=fun k hk=>by
  rw[hL,x1yt (by simpa using hk),List.getElem_map,x1yt hk]
 have hv:∀k,k<F.length->(x1yc (at0 F D.toNat) (at0 F k)=1000000000000↔at0 F k=1000000000000):=fun k hk=>by
  have i1:=hin k hk
  have i2:=(hin D.toNat (by omega)).resolve_left c4
  unfold x1yc
  by_cases c:at0 F k=1000000000000
  .simp[c]
  .simp[c]
   have:=i1.resolve_left c
   omega
 have b1:(0<=E/\E<F.length)/\at0 (movL n F D) E.toNat≠1000000000000:=by
  unfold movE at h1
  rw[hlen]at h1
  cases c3:wi E 0 ((F.length:Int)-1)with
  |false=>
   rw[c1]at c3
   cases h2:(movL n F D).any x1yy with
   |true=>rw[h2]at h1;simp[c1]at h1
   |false=>rw[h2]at h1;simp[c1,c3]at h1
  |true=>
   have:=wi_t c3
   refine⟨by omega,fun e=>?_⟩
   rw[c1]at c3
   cases h2:(movL n F D).any x1yy with
   |true=>rw[h2]at h1;simp[c1]at h1
   |false=>rw[h2]at h1;simp[c1,c3,e]at h1
 obtain⟨⟨e0,e1⟩,e2⟩:=b1
 rw[hget E.toNat (by omega)]at e2
 have e3:at0 F E.toNat≠1000000000000:=fun e=>e2 ((hv E.toNat (by omega)).mpr e)
 have h2:movE n F E=0:=by
  unfold movE
  have:wi E 0 ((F.length:Int)-1)=true:=by unfold wi;rw[decide_eq_true_iff];omega
  rw[c2,this]
  simp[c1,e3]
 refine⟨h2,?_⟩
 have hM:movL n (movL n F D) E=(movL n F D).map (x1yc (at0 (movL n F D) E.toNat)):=by
  conv=>lhs;unfold movL
  rw[show movL n F D=movL n F D from rfl]
  have:=h1
  simp only[movL]at this ⊢
  simp[this]
 have hM2:movL n F E=F.map (x1yc (at0 F E.toNat)):=by simp[movL,h2]
 rw[hM,hM2]
 apply List.ext_getElem
 .simp[hlen]
 .intro k k1 k2
  simp at k2
  rw[List.getElem_map,List.getElem_map,<-x1yt,<-x1yt,hget k k2,hget E.toNat (by omega)]
  have i1:=hin k k2
  have i2:=(hin D.toNat (by omega)).resolve_left c4
  have i3:=(hin E.toNat (by omega)).resolve_left e3
  by_cases c:at0 F k=1000000000000
  .simp[x1yc,c]
  .have:=i1.resolve_left c
   have x1:x1yc (at0 F D.toNat) (at0 F k)=at0 F k-at0 F D.toNat:=by simp[x1yc,c]
   have x2:x1yc (at0 F D.toNat) (at0 F E.toNat)=at0 F E.toNat-at0 F D.toNat:=by simp[x1yc,e3]
   have x3:¬at0 F k-at0 F D.toNat=1000000000000:=by omega
   rw[x1,x2]
   simp only[x1yc,x3,c,decide_false,Bool.not_false,cond_true]
   omega
theorem law_StackMoved{s p f:AV}{l:List Scene}{P:List Pq}{F:List Int}(hs:Sl Scene.c s l)(hp:Sl Pq.c p P)(hf:Ints f F)(D E:Int):∃m',x1xv 31 [] x56 [.agg [s,p],f,.agg [I D,I E]] mem0=some (B true,m'):=by
 have ia0:∀id,sIxA 2 1 (.ptr id 0 0) (I 0)=some (.ptr id 0 0):=fun _=>by simp[sIxA,asI]
 have ia1:∀id,sIxA 2 1 (.ptr id 0 0) (I 1)=some (.ptr id 0 1):=fun _=>by simp[sIxA,asI]
 rw[x12u]
 unfold xbq xch
 simp[mem0,hs.one,hp.one,w_awake7,w_Few7 29 hs hp]
 cases hfw:few7 l P with
 |false=>simp
 |true=>
  simp[hf.len x1z4]
  by_cases h20:(62:Int)<(F.length:Int)
  .simp[h20]
  obtain⟨l1,l2⟩:=few7_len hfw
  generalize hm1:Mem.new _ _ _=m1
  have g3:m1.get (0,0,3)=some (.row [s,p] 0 false):=by rw[<-hm1];simp
  have g5:m1.get (0,1,5)=some (.row [I D,I E] 0 false):=by rw[<-hm1];simp
  have hn:m1.next=1:=by rw[<-hm1];rfl
  obtain⟨s',p',hs',hp',hcp⟩:=x2af 29 hs hp (by omega) (by omega) m1
  obtain⟨f',hf',hcf⟩:=x286 29 hf (by omega) m1
  obtain⟨a,ha,hmv⟩:=x265 22 hs' hp' hf' (by omega) D m1
  simp[h20,g3,g5,hcp,hcf,ia0,hmv,hs.clean1,hp.clean1,hf.clean,cAp,tR,hn,show Nat.blt 0 1=true from rfl,w_Err7 26 hs hp]
  unfold x9l
  by_cases he:(net7 l P).2=0
  .have hR:=x28e he
   obtain⟨b,hb,hrm⟩:=w_rMoved 27 hs hp hf (by omega) D hR m1
   have hE:mvE l P F D=movE l.length F D:=by simp[mvE,he]
   have hL:mvL l P F D=movL l.length F D:=by simp[mvL,he]
   rw[hE]at hmv
   rw[hL]at ha
   have hlen:(movL l.length F D).length<=1000:=by
    unfold movL
    cases decide (movE l.length F D=0)<;>simp;omega
   simp[he,g3,g5,ia0,hrm]
   unfold x4g
   simp[hE,w_Ints 29 ha hb (by omega)]
   by_cases h0:movE l.length F D=0
   .obtain⟨a2,ha2,hca⟩:=x286 29 ha (by omega) m1
    obtain⟨r1,hr1,hm2⟩:=x265 22 hs' hp' ha2 hlen E m1
    obtain⟨r2,hr2,hm3⟩:=x265 22 hs' hp' hf' (by omega) E m1
    have hE1:mvE l P (movL l.length F D) E=movE l.length (movL l.length F D) E:=by simp[mvE,he]
    have hL1:mvL l P (movL l.length F D) E=movL l.length (movL l.length F D) E:=by simp[mvL,he]
    have hE2:mvE l P F E=movE l.length F E:=by simp[mvE,he]
    have hL2:mvL l P F E=movL l.length F E:=by simp[mvL,he]
    rw[hE1]at hm2
    rw[hL1]at hr1
    rw[hE2]at hm3
    rw[hL2]at hr2
    simp[h0,g3,g5,hcp,hcf,hca,ia1,hm2,hm3,hs.clean1,hp.clean1,hf.clean,ha.clean,cAp,tR,hn,show Nat.blt 0 1=true from rfl]
    by_cases h1:movE l.length (movL l.length F D) E=0
    .obtain⟨q1,q2⟩:=mov_mov h0 h1
     have hlen2:(movL l.length (movL l.length F D) E).length<=1000000:=by
      rw[q2]
      unfold movL
      cases decide (movE l.length F E=0)<;>simp;omega
     simp[h1,q1,w_Ints 29 hr1 hr2 hlen2,q2]
    .simp[h1]
   .simp[h0]
  .have hE:mvE l P F D=(net7 l P).2:=by simp[mvE,he]
   have hL:mvL l P F D=[]:=by simp[mvL,he]
   rw[hL]at ha
   simp[he]
   unfold x4g
   have hnil:Ints nilS []:=Or.inl ⟨rfl,rfl⟩
   simp[hE,he,w_Ints 29 ha hnil (by simp)]
end Go.Ix
