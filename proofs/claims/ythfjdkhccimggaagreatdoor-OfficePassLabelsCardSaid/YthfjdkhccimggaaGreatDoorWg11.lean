import Derived.Test.YthfjdkhccimggaaGreatDoorWg0
import Derived.ProofKit
import Derived.Test.YthfjdkhccimggaaGreatDoorW10Ref3
namespace Go.Ix
theorem e_awake10:((x14k 30 [] x1x [] mem0).map (λp=>p.1))=some (B true):=by kernel_rfl
theorem w_awake10(m:Mem):x14e (x14k 30) x1x [] m=some (B true,m):=by
 have h:=e_awake10
 rw[x1m8]at h
 obtain⟨⟨r,m'⟩,h1,rfl⟩:=h
 exact call0 rfl h1 rfl
end Go.Ix
set_option linter.unusedSimpArgs false
set_option linter.unusedVariables false
namespace Go.Ix
open Go.Proofs
theorem lbGo_ok{l:List Ps}{gap:Int}{lab:List Int}:∀(suf:List Int) (k:Nat),lab.drop k=suf->(lbGo l gap lab k suf).2=0 ->
 (lbGo l gap lab k suf).1=at0 lab (lab.length-1)-at0 lab 0/\∀i,i<lab.length->k<=i->0<=at0 lab i/\x16a l gap lab (at0 lab i) i=false
 |[],k,hd,h=>⟨rfl,λi hi hk=>by have:=x1mu.mp hd;omega⟩
 |e::r,k,hd,h=>by
  obtain⟨hk,he,hd1⟩:=x160 hd
  have ea:at0 lab k=e:=by rw[at0_lt hk,he]
  unfold lbGo at h ⊢
  cases hw:wi e 0 1000000000 with
  |false=>rw[hw]at h;exact absurd (show(2:Int)=0 from h) (by decide)
  |true=>
   rw[hw]at h
   simp only[x1oe,x16e]at h ⊢
   cases hl:x16a l gap lab e k with
   |true=>rw[hl]at h;exact absurd (show(22:Int)=0 from h) (by decide)
   |false=>
    rw[hl]at h
    simp only[x16e]at h ⊢
    obtain⟨h1,h2⟩:=lbGo_ok r (k+1) hd1 h
    refine⟨h1,λi hi hki=>?_⟩
    rcases Nat.lt_or_eq_of_le hki with h3|rfl
    .exact h2 i hi h3
    .rw[ea]
     refine⟨?_,hl⟩
     simp only[wi,x1m7,x1n4]at hw
     omega
theorem x1a1{l:List Ps}{gap:Int}{lab:List Int}(h:∀i,i<lab.length->x16a l gap lab (at0 lab i) i=false){i:Nat}:∀{j:Nat},j<lab.length->i<=j->at0 lab i<=at0 lab j
 |0,_,hij=>by
  have:i=0:=by omega
  subst this
  exact x1nx _
 |j+1,hj,hij=>by
  rcases Nat.lt_or_eq_of_le hij with h1|rfl
  .refine Int.le_trans (x1a1 h (j:=j) (by omega) (by omega)) ?_
   have:=h (j+1) hj
   simp only[x16a,Bool.or_eq_false_iff,decide_eq_false_iff_not]at this
   omega
  .exact x1nx _
theorem x1cg{l:List Ps}{kl:List Lk}{gap sto:Int}(R:RPlan l kl gap sto){lab:List Int}(hlen:lab.length=l.length+1)(h:∀i,i<lab.length->x16a l gap lab (at0 lab i) i=false) :
 ∀(suf:List Int) (p:Option Int) (v:Int),(match p with|some q=>0<=q/\q<l.length/\v+at0 lab 0<=at0 lab (q.toNat+1)|none=>v<=0)->(ckM l gap p v suf).2=0->(ckM l gap p v suf).1<=at0 lab (lab.length-1)-at0 lab 0
 |[],p,v,hp,h0=>by
  show v<=_
  cases p with
  |none=>
   have:=x1a1 h (i:=0) (j:=lab.length-1) (by omega) (by omega)
   have hp:v<=0:=hp
   omega
  |some q=>
   obtain⟨h1,h2,h3⟩:0<=q/\q<l.length/\v+at0 lab 0<=at0 lab (q.toNat+1):=hp
   have:=x1a1 h (i:=q.toNat+1) (j:=lab.length-1) (by omega) (by omega)
   omega
 |i::r,p,v,hp,h0=>by
  unfold ckM at h0 ⊢
  cases hw:wi i 0 ((l.length:Int)-1)with
  |false=>rw[hw]at h0;exact absurd (show(6:Int)=0 from h0) (by decide)
  |true=>
  rw[hw]at h0
  simp only[x1oe,x16e]at h0 ⊢
  have hin:0<=i/\i<l.length:=by
   simp only[wi,x1m7,x1n4]at hw;omega
  obtain⟨k,rfl⟩:∃k:Nat,i=k:=⟨i.toNat,by omega⟩
  have hk:k<l.length:=by omega
  rw[x17v hk]at h0 ⊢
  have hlow:=h (k+1) (by omega)
  simp only[x16a,Bool.or_eq_false_iff,decide_eq_false_iff_not,x17v hk]at hlow
  have hale:ahM gap l[k].fr l<=l.length:=ahM_le _ _ _
  cases p with
  |none=>
   simp only[x16e]at h0 ⊢
   have hp:v<=0:=hp
   refine x1cg R hlen h r (some (k:Int)) (v+l[k].va) ⟨by omega,by omega,?_⟩ h0
   have:=x1a1 h (i:=0) (j:=ahM gap l[k].fr l) (by omega) (by omega)
   simp only[x1pi]
   omega
  |some q=>
   obtain⟨h1,h2,h3⟩:0<=q/\q<l.length/\v+at0 lab 0<=at0 lab (q.toNat+1):=hp
   by_cases ho:(k:Int)<=q
   .simp only[ho,x1nh,x15s]at h0;exact absurd (show(9:Int)=0 from h0) (by decide)
   .simp only[ho,x1n7,x16e]at h0 ⊢
    by_cases hc:(ahM gap l[k].fr l:Int)<=q
    .simp only[hc,x1nh,x15s]at h0;exact absurd (show(13:Int)=0 from h0) (by decide)
    .simp only[hc,x1n7,x16e]at h0 ⊢
     refine x1cg R hlen h r (some (k:Int)) (v+l[k].va) ⟨by omega,by omega,?_⟩ h0
     have:=x1a1 h (i:=q.toNat+1) (j:=ahM gap l[k].fr l) (by omega) (by omega)
     simp only[x1pi]
     omega
theorem x1gm{l:List Ps}{kl:List Lk}{gap sto:Int}(R:RPlan l kl gap sto){lab s:List Int}(h:(x16l l gap lab).2=0)(hs:(ckM l gap none 0 s).2=0):(ckM l gap none 0 s).1<=(x16l l gap lab).1:=by
 unfold x16l at h ⊢
 by_cases hq:lab.length=l.length+1
 .simp only[hq,x1nh,x15s]at h ⊢
  obtain⟨h1,h2⟩:=lbGo_ok lab 0 rfl h
  rw[h1]
  exact x1cg R hq (λi hi=>(h2 i hi (by omega)).2) s none 0 (x1nx _) hs
 .simp only[hq,x1n7,x16e]at h
  exact absurd (show(10:Int)=0 from h) (by decide)
def shM(l:List Ps)(kl:List Lk):Bool:=l.all (λx=>decide (x.nm.size<=20))&&((decide (l.length<=12)||(decide (40<l.length)&&decide (l.length<=42)))&&decide (kl.length<=22))
theorem l_short(call:x14d)(hs:FHs)(u:Nat){pa li:AV}{gap sto:Int}{l:List Ps}{kl:List Lk}(h:Sl Ps.c pa l)(h2:Sl Lk.c li kl)(hl:l.length<=9223372036854775807){id:Id} :
 ∀(suf:List Ps) (k j:Nat) (m:Mem) (fc:Nat),l.drop k=suf->suf.length<j->m.get id=some (.row [pa,li,I gap,I sto] 0 false) ->
 x29 call hs u j (.ptr id 0 0) (I k) m fc=some (B (suf.all (λx=>decide (x.nm.size<=20))&&((decide (l.length<=12)||(decide (40<l.length)&&decide (l.length<=42)))&&decide (kl.length<=22))),m):=by
 intro suf
 induction suf with
 |nil=>
  intro k j m fc hd hj hm
  obtain⟨j,rfl⟩:∃i,j=i+1:=⟨j-1,by simp at hj;omega⟩
  have hk:¬((k:Int)<(l.length:Int)):=by have:=x1mu.mp hd;omega
  simp only[x29]
  unfold x75 x9k
  have e12:decide ((l.length:Int)<=12)=decide (l.length<=12):=decide_eq_decide.2 (by omega)
  have e40:decide ((40:Int)<(l.length:Int))=decide (40<l.length):=decide_eq_decide.2 (by omega)
  have e42:decide ((l.length:Int)<=42)=decide (l.length<=42):=decide_eq_decide.2 (by omega)
  have e22:decide ((kl.length:Int)<=22)=decide (kl.length<=22):=decide_eq_decide.2 (by omega)
  simp[hm,h.len x15r,hk]
  by_cases a1:l.length<=12
  .have a2:(l.length:Int)<=12:=by omega
   simp[a1,a2,hm,h2.len x17u]
   omega
  .have a2:¬((l.length:Int)<=12):=by omega
   simp[a1,a2,hm,h.len x15r]
   by_cases b1:40<l.length
   .have b2:(40:Int)<(l.length:Int):=by omega
    simp[b1,b2,hm,h.len x15r]
    by_cases c1:l.length<=42
    .have c2:(l.length:Int)<=42:=by omega
     simp[c1,c2,hm,h2.len x17u]
     omega
    .have c2:¬((l.length:Int)<=42):=by omega
     simp[c1,c2]
   .have b2:¬((40:Int)<(l.length:Int)):=by omega
    simp[b1,b2]
 |cons e r ih=>
  intro k j m fc hd hj hm
  obtain⟨j,rfl⟩:∃i,j=i+1:=⟨j-1,by simp at hj;omega⟩
  obtain⟨hk,he,hd1⟩:=x160 hd
  have hk':(k:Int)<(l.length:Int):=by omega
  have ix:=h.ix Ps.len hk
  have fa0:sFA 0 (.plit ((l.drop k).flatMap Ps.c))=some (.plit ((l.drop k).flatMap Ps.c)):=rfl
  have ld0:∀m,sLd false 1 (.plit ((l.drop k).flatMap Ps.c)) m=some (T e.nm):=λm=>by
   rw[x15l hk,x1mc,he];rfl
  have hw1:w64 ((k:Int)+1)=(k:Int)+1:=x153 (by omega) (by omega)
  have:=ih (k+1) j m (fc+16) hd1 (by simp at hj;omega) hm
  simp only[x29]
  unfold x75
  by_cases c:e.nm.size<=20
  .have c2:¬((20:Int)<(e.nm.size:Int)):=by omega
   simp[hm,h.len x15r,hk,ix,fa0,ld0,c,c2,hw1]
   simpa using this
  .have c2:(20:Int)<(e.nm.size:Int):=by omega
   simp[hm,h.len x15r,hk,ix,fa0,ld0,c,c2]
theorem w_short(d:Nat){pa li:AV}{gap sto:Int}{l:List Ps}{kl:List Lk}(h:Sl Ps.c pa l)(h2:Sl Lk.c li kl)(hl:l.length<=9223372036854775807)(m:Mem) :
 x14e (x14k (d+1)) x13 [.agg [pa,li,I gap,I sto]] m=some (B (shM l kl),m):=by
 obtain⟨m',h'⟩:∃m',x14k (d+1) [] x13 [.agg [pa,li,I gap,I sto]] mem0=some (B (shM l kl),m'):=by
  rw[xx2]
  unfold x8n x76 x9l
  simp only[mem0,x16t,x170,x1mt,x1na,h.one,h2.one,x171,x1n1,x1mz,x15s]
  generalize hm0:Mem.new _ _ _=m0
  have hg:m0.get (0,0,1)=some (.row [pa,li,I gap,I sto] 0 false):=by rw[<-hm0,Mem.get_new_same]
  exact⟨_,l_short (x14k d) [] 0 h h2 hl l 0 NN m0 3 rfl (by rw[x16g];omega) hg⟩
 exact call0 (by simp[h.still1,h2.still1]) h' rfl
theorem law_OfficePassLabels{pa li la sa:AV}{l:List Ps}{kl:List Lk}{lab s:List Int}(hl:l.length<=9223372036854775807)(h:Sl Ps.c pa l)(h2:Sl Lk.c li kl)(gap sto:Int)(h3:Ints la lab)(h4:Ints sa s) :
 ∃m',x14k 31 [] x2i [.agg [pa,li,I gap,I sto],la,sa] mem0=some (B true,m'):=by
 rw[xx1]
 unfold x8m x70
 simp only[mem0,x16t,x170,x1mt,x1na,h.one,h2.one,x171,x1n1,x1mz,x15s]
 generalize hm0:Mem.new _ _ _=m0
 have hg:m0.get (0,0,3)=some (.row [pa,li,I gap,I sto] 0 false):=by rw[<-hm0,Mem.get_new_same]
 have hsh:=w_short 29 (gap:=gap) (sto:=sto) h h2 hl m0
 simp[w_awake10,hg,hsh]
 cases hs:shM l kl with
 |false=>simp
 |true=>
 have hb:(∀x∈l,x.nm.size<=1000)/\l.length<=42/\kl.length<=22:=by
  simp only[shM,x1m7,x1mm,x1m9,x1n4]at hs
  refine⟨λx hx=>?_,by omega,by omega⟩
  have:=hs.1 x hx
  omega
 obtain⟨hn,hl42,hk22⟩:=hb
 simp[h3.len x17i]
 by_cases h50:50<lab.length
 .simp[h50,show(50:Int)<lab.length by omega]
 simp[h50,show ¬((50:Int)<lab.length) by omega,h4.len x17i]
 by_cases h20:20<s.length
 .simp[h20,show(20:Int)<s.length by omega]
 simp[h20,show ¬((20:Int)<s.length) by omega,hg]
 obtain⟨p1,q1,c1,c2,hc⟩:=x1gi 29 (gap:=gap) (sto:=sto) h h2 (by omega) (by omega) m0
 obtain⟨la1,d1,hd⟩:=x1f0 29 h3 (by omega) m0
 have he:=x1gh 24 (gap:=gap) (sto:=sto) c1 c2 d1 hn (by omega) m0
 have hr:=x1gk 28 (gap:=gap) (sto:=sto) h h2 m0
 simp[hc,hd,he,hg,hr]
 unfold x99
 obtain⟨sa1,f1,hf⟩:=x1f0 29 h4 (by omega) m0
 have hp:=x1gg 24 (gap:=gap) (sto:=sto) c1 c2 f1 hn (by omega) m0
 by_cases hz:(planM l kl gap sto).2=0
 .have R:=x1ce hz
  have hrl:=x1gl 28 (gap:=gap) (sto:=sto) h h2 h3 R m0
  have e1:labM l kl gap sto lab=x16l l gap lab:=by unfold labM;rw[hz];rfl
  have e2:x18z l kl gap sto s=ckM l gap none 0 s:=by unfold x18z;rw[hz];rfl
  rw[e2]at hp
  simp only[hz,e1,sEq_I,x1nh,x17f,x15d,x1ca,hg]
  simp[hrl]
  unfold x3h
  simp[hg,hc,hf,hp]
  by_cases y1:(x16l l gap lab).2=0
  .simp[y1]
   by_cases y2:(ckM l gap none 0 s).2=0
   .have:=x1gm R y1 y2
    simp[y2,this]
   .simp[y2]
  .simp[y1]
 .have e1:labM l kl gap sto lab=(0,(planM l kl gap sto).2):=by unfold labM;rw[x1n9 hz];rfl
  simp only[e1]
  simp[hz]
  unfold x3h
  simp[hg,hc,hf,hp,hz]
end Go.Ix
