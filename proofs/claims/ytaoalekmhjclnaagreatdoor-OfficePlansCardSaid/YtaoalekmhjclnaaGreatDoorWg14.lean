import Derived.Test.YtaoalekmhjclnaaGreatDoorWg4
import Derived.Test.YtaoalekmhjclnaaGreatDoorWg9
import Derived.Test.YtaoalekmhjclnaaGreatDoorWg0
import Derived.ProofKit
import Derived.Test.YtaoalekmhjclnaaGreatDoorWg13
set_option linter.unusedSimpArgs false
namespace Go.Ix
open Go.Proofs
theorem at0_app{l:List Int}{x:Int}{k:Nat}:at0 (l++[x]) k=if k<l.length then at0 l k else if k=l.length then x else 0:=by
 unfold at0
 simp only[x1rs]
 by_cases h:k<l.length
 .rw[x1qb h,x1si h]
 .rw[x1qc h,x1sj (by omega)]
  by_cases h2:k=l.length
  .rw[x1qb h2,h2];simp
  .rw[x1qc h2,x1ts (by simp;omega)];rfl
def OutIn(k:Int)(out:List Int):Prop:=∀i,-(2048*k)<=at0 out i/\at0 out i<=2048*k
theorem OutIn.app{k:Nat}{out:List Int}(h:OutIn k out){x:Int}(h1:-(2048*((k+1:Nat):Int))<=x)(h2:x<=2048*((k+1:Nat):Int)):OutIn ((k+1:Nat):Int) (out++[x]):=by
 intro i
 rw[at0_app]
 have:=h i
 split
 .omega
 .split<;>omega
theorem l_Ints(d:Nat)(hs:FHs){a b:AV}{l k:List Int}(ha:Ints a l)(hb:Ints b k)(he:l.length=k.length)(hl:l.length<=1000000):∀(suf suk:List Int) (i j:Nat) (m:Mem) (fc:Nat),l.drop i=suf->k.drop i=suk->suf.length<j ->
 ∃m',x2s (x17h d) hs 0 j a b (I i) m fc=some (B (decide (suf=suk)),m'):=by
 intro suf
 induction suf with
 |nil=>
  intro suk i j m fc hd hk hj
  obtain⟨j,rfl⟩:∃i,j=i+1:=⟨j-1,by simp at hj;omega⟩
  have hd0:=x1qx.mp hd
  have hsk:suk=[]:=by rw[<-hk];exact x1qx.mpr (by omega)
  have hi:¬((i:Int)<(l.length:Int)):=by omega
  simp only[x2s]
  unfold x8s
  simp[ha.len x19h,hi,xbx,hsk]
 |cons x r ih=>
  intro suk i j m fc hd hk hj
  obtain⟨j,rfl⟩:∃i,j=i+1:=⟨j-1,by simp at hj;omega⟩
  obtain⟨hi,hie,hd⟩:=x18t hd
  have hi2:i<k.length:=by omega
  have hk2:suk=at0 k i::k.drop (i+1):=by rw[<-hk,x18b hi2,x1cb hi2]
  have hi':(i:Int)<(l.length:Int):=by omega
  have ix:=ha.ix x19q hi
  have ix2:=hb.ix x19q hi2
  have e1:at0 l i=x:=by rw[x1cb hi,hie]
  simp only[x2s]
  unfold x8s
  simp(disch:=omega) [ha.len x19h,hi',ix,ix2,ld_int,e1,hk2]
  by_cases c:x=at0 k i
  .obtain⟨m',h'⟩:=ih _ (i+1) j m (fc+16) hd rfl (by simp at hj;omega)
   simp(disch:=omega) [c]
   exact⟨m',h'⟩
  .simp[c]
theorem w_Ints(d:Nat){a b:AV}{l k:List Int}(ha:Ints a l)(hb:Ints b k)(hl:l.length<=1000000)(m:Mem):x17e (x17h (d+1)) x27 [a,b] m=some (B (decide (l=k)),m):=by
 refine Ans.call0 ?_ (by simp[ha.still,hb.still]) rfl
 unfold Ans
 rw[xzu]
 unfold xam x8t xby
 by_cases he:l.length=k.length
 .obtain⟨m',h'⟩:=l_Ints d [] ha hb he hl l k 0 NN ⟨[],1⟩ 7 rfl rfl (by rw[x18k];omega)
  simp[mem0,ha.len x19h,hb.len x19h,he]
  exact⟨m',h'⟩
 .have:¬(l=k):=λe=>he (by rw[e])
  have he2:¬((l.length:Int)=(k.length:Int)):=by omega
  simp[mem0,ha.len x19h,hb.len x19h,he2,this]
end Go.Ix
set_option linter.unusedVariables false
namespace Go.Ix
open Go.Proofs
variable{l:List Ps}{kl:List Lk}{gap sto:Int}
theorem asc_len:∀(s:List Int) (lo:Int) (n:Nat),s.Pairwise (· < ·)->(∀i∈s,lo<=i/\i<lo+n)->s.length<=n
 |[],_,_,_,_=>x1sd _
 |i::r,lo,n,hp,hb=>by
  have b:=hb i (by simp)
  obtain⟨n,rfl⟩:∃k,n=k+1:=⟨n-1,by omega⟩
  have:=asc_len r (lo+1) n (x1qo.mp hp).2 λj hj=>by
   have h1:=(x1qo.mp hp).1 j hj
   have h2:=hb j (by simp[hj])
   omega
  simp
  omega
theorem x1kl(d:Nat){pa li sa:AV}{s:List Int}(h:Sl Ps.c pa l)(h2:Sl Lk.c li kl)(h3:Ints sa s)(hn:∀x∈l,x.nm.size<=1000)(hz:(planM l kl gap sto).2≠0)(m:Mem) :
 x17e (x17h (d+6)) xv [.agg [pa,li,I gap,I sto],sa] m=some (.tup [nilS,I (planM l kl gap sto).2],m):=by
 refine callV (by simp[h.still1,h2.still1,h3.still]) ?_ m
 rw[xb8]
 unfold x39 x2q
 simp only[mem0,x19p,x19v,x1r1,x1rk,h.one,h2.one,x19w,x1re,x1rf,x18l,x1b7,x1dp]
 have hp:=x1dq d (gap:=gap) (sto:=sto) h h2 hn
 simp[hp,hz,h.one,h2.one]
 exact RetF.tup rfl rfl
theorem x1km(d:Nat){pa li sa:AV}{s:List Int}(h:Sl Ps.c pa l)(h2:Sl Lk.c li kl)(h3:Ints sa s)(hn:∀x∈l,x.nm.size<=1000)(hsl:s.length<=1000)(hz:(planM l kl gap sto).2=0)(hs:(ckM l gap none 0 s).2≠0)(m:Mem) :
 x17e (x17h (d+6)) xv [.agg [pa,li,I gap,I sto],sa] m=some (.tup [nilS,I (ckM l gap none 0 s).2],m):=by
 have R:=x1en hz
 have hl40:=R.len
 refine callV (by simp[h.still1,h2.still1,h3.still]) ?_ m
 rw[xb8]
 unfold x39 x2q
 simp only[mem0,x19p,x19v,x1r1,x1rk,h.one,h2.one,x19w,x1re,x1rf,x18l,x1b7,x1dp]
 have hp:=x1dq d (gap:=gap) (sto:=sto) h h2 hn
 have hck:=x1g9 (d+3) (gap:=gap) (sto:=sto) h h2 h3 (by omega) (by omega) R.gap0 (λx hx=>(R.at hx).2.1) (λx hx=>(R.at hx).2.2.1)
 simp[hp,hz,h.one,h2.one,hck,hs]
 exact RetF.tup rfl rfl
theorem law_OfficePlans{pa li sa:AV}{s:List Int}(hl:l.length<=9223372036854775807)(h:Sl Ps.c pa l)(h2:Sl Lk.c li kl)(gap sto:Int)(h4:Ints sa s) :
 ∃m',x17h 31 [] x38 [.agg [pa,li,I gap,I sto],sa] mem0=some (B true,m'):=by
 rw[xzm]
 unfold xae x7z
 simp only[mem0,x19p,x19v,x1r1,x1rk,h.one,h2.one,x19w,x1re,x1rf,x18l]
 generalize hm0:Mem.new _ _ _=m0
 have hg:m0.get (0,0,2)=some (.row [pa,li,I gap,I sto] 0 false):=by rw[<-hm0,Mem.get_new_same]
 have hsh:=w_short 29 (gap:=gap) (sto:=sto) h h2 hl m0
 simp[w_awake10,hg,hsh]
 cases hs:shM l kl with
 |false=>simp
 |true=>
 have hb:(∀x∈l,x.nm.size<=1000)/\(l.length<=12\/40<l.length)/\l.length<=42/\kl.length<=22:=by
  simp only[shM,x1qg,x1r4,x1qh,x1ru]at hs
  refine⟨λx hx=>?_,by omega,by omega,by omega⟩
  have:=hs.1 x hx
  omega
 obtain⟨hn,hl12,hl42,hk22⟩:=hb
 simp[h4.len x19h]
 by_cases h20:20<s.length
 .simp[h20,show(20:Int)<s.length by omega]
 simp[h20,show ¬((20:Int)<s.length) by omega,hg]
 obtain⟨p1,q1,c1,c2,hc⟩:=x1kg 29 (gap:=gap) (sto:=sto) h h2 (by omega) (by omega) m0
 obtain⟨sa1,d1,hd⟩:=x1kf 29 h4 (by omega) m0
 have k1:=x1it 26 (gap:=gap) (sto:=sto) c1 c2 hn m0
 have k2:=x1ke 24 (gap:=gap) (sto:=sto) c1 c2 d1 hn (by omega) m0
 have hr:=x1ki 28 (gap:=gap) (sto:=sto) h h2 m0
 have hl0:sLen Tryz.prog x6 nilS=some (I 0):=x1di x19h
 by_cases hz:(planM l kl gap sto).2=0
 .have R:=x1en hz
  have hl40:=R.len
  have k3:=x1kj 28 (sto:=sto) h h2 h4 (by omega) R m0
  have e2:x1bb l kl gap sto s=ckM l gap none 0 s:=by unfold x1bb;rw[hz];rfl
  rw[e2]at k2
  by_cases hy:(ckM l gap none 0 s).2=0
  .have hck:=ck_ok hy
   have hs12:=asc_len s 0 l.length hck.2 λi hi=>by
    have:=hck.1 i hi
    exact⟨this.1,by omega⟩
   obtain⟨v,z,k4,hv⟩:=w_Backlog 19 (gap:=gap) (sto:=sto) c1 c2 d1 hn (by omega) hz hy m0
   obtain⟨v',z',k5,hv'⟩:=x1kk 29 (gap:=gap) (sto:=sto) h h2 h4 (by omega) R (λi hi=>⟨(hck.1 i hi).1,(hck.1 i hi).2.1⟩) m0
   rcases hv with ⟨o,b1,b2,rfl⟩|⟨b1,rfl,rfl⟩
   .rcases hv' with ⟨o',b1',b2',rfl⟩|⟨b1',rfl,rfl⟩
    .rw[b1]at b1'
     cases b1'
     have hlen:o.length<=1000000:=by
      have:∀(L:List Ev) (s:Int) (o:List Int),runE sto s L=some o->o.length<=L.length:=by
       intro L
       induction L with
       |nil=>intro s o ho;simp[runE]at ho;subst ho;simp
       |cons e r ih=>
        intro s o ho
        rw[runE]at ho
        split at ho
        .simp only[x1qf]at ho
         obtain⟨o',ho',rfl⟩:=ho
         have:=ih _ _ ho'
         simp;omega
        .split at ho
         .cases ho
         .have:=ih _ _ ho
          simp;omega
      have h1:=this _ _ _ b1
      obtain⟨-,h3⟩:=mgE_ok _ _ _ (x1qi _) (x1gd R s 0 (λi hi=>⟨(hck.1 i hi).1,(hck.1 i hi).2.1⟩) hck.2) (x1gc R kl s.length 0 rfl) (pl_ix s)
      have h4:=h3.length_eq
      rw[x1qu,x1ep,x1gb]at h4
      omega
     have k6:=w_Ints 29 b2 b2' hlen m0
     simp[hc,hd,k1,k2,hr,hz,hg,k3,hy,k4,k5,k6]
    .rw[b1]at b1';cases b1'
   .rcases hv' with ⟨o',b1',b2',rfl⟩|⟨b1',rfl,rfl⟩
    .rw[b1]at b1';cases b1'
    .simp[hc,hd,k1,k2,hr,hz,hg,k3,hy,k4,k5,hl0]
  .have k4:=x1km 24 (gap:=gap) (sto:=sto) c1 c2 d1 hn (by omega) hz hy m0
   simp[hc,hd,k1,k2,hr,hz,hg,k3,hy,k4,hl0]
 .have k4:=x1kl 24 (gap:=gap) (sto:=sto) c1 c2 d1 hn hz m0
  have e2:x1bb l kl gap sto s=(0,(planM l kl gap sto).2):=by unfold x1bb;simp[hz]
  rw[e2]at k2
  simp[hc,hd,k1,k2,hr,hz,hg,k4,hl0]
end Go.Ix
