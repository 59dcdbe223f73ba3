import Derived.Test.YtaoalekmhjclnaaGreatDoorWg12
import Derived.Test.YtaoalekmhjclnaaGreatDoorWg11
import Derived.Test.YtaoalekmhjclnaaGreatDoorWg0
import Derived.ProofKit
set_option linter.unusedSimpArgs false
set_option linter.unusedVariables false
namespace Go.Ix
open Go.Proofs
variable{l:List Ps}{kl:List Lk}{gap sto:Int}
def okO:Id->Prop:=λid=>id.1=0/\id.2.2=80
theorem l_rb1(call:x17c)(hs:FHs){pa li sa:AV}{s:List Int}(h:Sl Ps.c pa l)(h2:Sl Lk.c li kl)(h3:Ints sa s)(R:RPlan l kl gap sto)(hb:∀i∈s,0<=i/\i<l.length)(hs20:s.length<=1000){id:Id}(rec0:x17n){v:AV}{m:Mem}(hm:m.get id=some (.row [pa,li,I gap,I sto] 0 false))(Q:O2->Prop){n0 i:Nat}(hi:i<=kl.length){ks:List Lk}(hks:kl.drop i=ks){tot:Option (List Int)}{acc:List Int}(hno:tot=none->Q (some (.tup [nilS,B false],m)))(hstop:∀(suf:List Int) (k:Nat) (held:Int) (fc:Nat),s.drop k=suf->0<=held->held<=sto->tot=(runE sto held (mgE (pasE l k suf) (lnkE (n0+i) ks))).map (acc++·)->k<=s.length->(∀x r,ks=x::r->mgE (pasE l k suf) (lnkE (n0+i) ks)=mkE x.at_ true x.da (n0+i)::mgE (pasE l k suf) (lnkE (n0+i+1) r))->(ks=[]->suf=[])->Q (x4e call hs 0 rec0 sa (.ptr id 0 0) v (I held) (I k) (I i) m fc)) :
 ∀(suf:List Int) (k j:Nat) (held:Int) (fc:Nat),s.drop k=suf->suf.length<j->k<=s.length->0<=held->held<=sto->tot=(runE sto held (mgE (pasE l k suf) (lnkE (n0+i) ks))).map (acc++·) ->
 Q (x1w call hs 0 rec0 j sa (.ptr id 0 0) v (I held) (I k) (I i) m fc):=by
 intro suf
 have hk20:=R.klen
 have hst0:=R.sto0
 have fld1:∀(q:AV->Option AV),sFA 1 (.ptr id 0 0)=some (.ptr id 0 1):=λ_=>rfl
 induction suf with
 |nil=>
  intro k j held fc hd hj hkl h0 h1 ht
  obtain⟨j,rfl⟩:∃i,j=i+1:=⟨j-1,by simp at hj;omega⟩
  have hk:¬((k:Int)<(s.length:Int)):=by have:=x1qx.mp hd;omega
  simp only[x1w]
  unfold x8p
  simp only[h3.len x19h,x17x,hk,x1qj,x17m,x19f,x19g,sW_t,sW_f,sW_U,x19o,x19d,x182]
  exact hstop [] k held _ hd h0 h1 ht hkl (λx r e=>by subst e;simp only[pasE,lnkE];rw[mgE]) λ_=>rfl
 |cons e r ih=>
  intro k j held fc hd hj hkl h0 h1 ht
  obtain⟨j,rfl⟩:∃i,j=i+1:=⟨j-1,by simp at hj;omega⟩
  obtain⟨hk,he,hd1⟩:=x18t hd
  have hk':(k:Int)<(s.length:Int):=by omega
  have ix:=h3.ix x19q hk
  have ld:∀m,sLd false 1 (.plit ((s.drop k).flatMap intE)) m=some (I e):=λm=>by
   rw[x18b hk,x1ql,he];rfl
  have hbe:=hb e (he▸x1ra hk)
  have hto:=R.to hbe
  obtain⟨p,hp⟩:∃p:Nat,e=p:=⟨e.toNat,by omega⟩
  have hi':p<l.length:=by omega
  have hpa:psAt l e=l[p]:=by rw[hp,x1a8 hi']
  rw[hpa]at hto
  have ixi:sIx 5 pa (I e)=some (.plit ((l.drop p).flatMap Ps.c)):=by rw[hp];exact h.ix Ps.len hi'
  have fa2:sFA 2 (.plit ((l.drop p).flatMap Ps.c))=some (.plit (((l.drop p).flatMap Ps.c).drop 2)):=rfl
  have fa4:sFA 4 (.plit ((l.drop p).flatMap Ps.c))=some (.plit (((l.drop p).flatMap Ps.c).drop 4)):=rfl
  have ld2:∀m,sLd false 1 (.plit (((l.drop p).flatMap Ps.c).drop 2)) m=some (I l[p].to):=λm=>by
   rw[x18b hi',x1ql];rfl
  have ld4:∀m,sLd false 1 (.plit (((l.drop p).flatMap Ps.c).drop 4)) m=some (I l[p].da):=λm=>by
   rw[x18b hi',x1ql];rfl
  have hw1:w64 (held+l[p].da)=held+l[p].da:=x17t (by omega) (by omega)
  have hw2:w64 ((k:Int)+1)=((k+1:Nat):Int):=by rw[x17t (by omega) (by omega)];omega
  have hpE:pasE l k (e::r)=mkE l[p].to false l[p].da k::pasE l (k+1) r:=by rw[pasE,hpa]
  have take:mgE (pasE l k (e::r)) (lnkE (n0+i) ks)=mkE l[p].to false l[p].da k::mgE (pasE l (k+1) r) (lnkE (n0+i) ks) ->
   tot=(if held+l[p].da > sto then none else runE sto (held+l[p].da) (mgE (pasE l (k+1) r) (lnkE (n0+i) ks))).map (acc++·):=λe1=>by
   rw[ht,e1,runE,(x19z _ _ _ _).1,(x19z _ _ _ _).2.1,x1qc (by simp)]
  have goOn:tot=(if held+l[p].da > sto then none else runE sto (held+l[p].da) (mgE (pasE l (k+1) r) (lnkE (n0+i) ks))).map (acc++·)->¬sto<held+l[p].da->∀fc,Q (x1w call hs 0 rec0 j sa (.ptr id 0 0) v (I (held+l[p].da)) (I (k+1:Nat)) (I i) m fc):=λe1 c fc=>by
   rw[x1qc (by omega)]at e1
   exact ih (k+1) j (held+l[p].da) fc hd1 (by simp at hj;omega) (by omega) (by omega) (by omega) e1
  simp only[x1w]
  unfold x8p
  cases hks':ks with
  |nil=>
   have hil:i=kl.length:=by
    rw[hks']at hks
    have:=x1qx.mp hks
    omega
   have e1:=take (by rw[hks',hpE,lnkE,x1dr,x1dr])
   simp only[h3.len x19h,x17x,hk',x1qk,x17m,x19f,x19g,sW_t,sW_f,sW_U,x18l,x19o,x19x,x19e hm,x1qs,rd_f,x1ri,x1qm,List.head?_cons,h2.len x190,sEq_I,hil,x19d,x1sh,x184,ix,ld,ixi,fa4,ld4,x18r,hw1,hw2,x1ag]
   by_cases c:sto<held+l[p].da
   .simp only[c,x1qk,x184]
    exact hno (by rw[e1,x1qb (by omega)];rfl)
   .simp only[c,x1qj,x182]
    have:=goOn e1 c (fc+48)
    rw[hil]at this
    exact this
  |cons x kr=>
   have hks2:=hks
   rw[hks']at hks2
   obtain⟨hik,hix,-⟩:=x18t hks2
   have hil:¬((i:Int)=(kl.length:Int)):=by omega
   have ixl:=h2.ix Lk.len hik
   have fal:sFA 0 (.plit ((kl.drop i).flatMap Lk.c))=some (.plit ((kl.drop i).flatMap Lk.c)):=rfl
   have ldl:∀m,sLd false 1 (.plit ((kl.drop i).flatMap Lk.c)) m=some (I x.at_):=λm=>by
    rw[x18b hik,x1ql,hix];rfl
   have hat:=R.lat (hix▸x1ra hik:x∈kl)
   by_cases c0:l[p].to<=x.at_
   .have e1:=take (by
     rw[hks',hpE,lnkE,mgE,x1bq hto.1,x1bq hat.1,x1qb c0])
    simp only[h3.len x19h,x17x,hk',x1qk,x17m,x19f,x19g,sW_t,sW_f,sW_U,x18l,x19o,x19x,x19e hm,x1qs,rd_f,x1ri,x1qm,List.head?_cons,h2.len x190,sEq_I,hil,x1qj,x19d,x1rz,x184,ix,ld,ixi,fa2,ld2,ixl,fal,ldl,x1b6,c0,fa4,ld4,x18r,hw1,hw2,x1ag]
    by_cases c:sto<held+l[p].da
    .simp only[c,x1qk,x184]
     exact hno (by rw[e1,x1qb (by omega)];rfl)
    .simp only[c,x1qj,x182]
     exact goOn e1 c (fc+48)
   .simp only[h3.len x19h,x17x,hk',x1qk,x17m,x19f,x19g,sW_t,sW_f,sW_U,x18l,x19o,x19x,x19e hm,x1qs,rd_f,x1ri,x1qm,List.head?_cons,h2.len x190,sEq_I,hil,x1qj,x19d,x1rz,x182,ix,ld,ixi,fa2,ld2,ixl,fal,ldl,x1b6,c0]
    refine hstop (e::r) k held _ hd h0 h1 ht (by omega) (λy r' e2=>?_) (λe2=>by rw[hks']at e2;cases e2)
    rw[hks']at e2
    cases e2
    rw[hks',hpE,lnkE,mgE,x1bq hto.1,x1bq hat.1,x1qc c0]
theorem l_rb0(call:x17c)(hs:FHs){pa li sa:AV}{s:List Int}(h:Sl Ps.c pa l)(h2:Sl Lk.c li kl)(h3:Ints sa s)(R:RPlan l kl gap sto)(hb:∀i∈s,0<=i/\i<l.length)(hs20:s.length<=1000){id:Id}(hid:¬okO id)(Q:O2->Prop){n0:Nat}{tot:Option (List Int)}(hno:∀m,tot=none->Q (some (.tup [nilS,B false],m)))(hok:∀v m o,tot=some o->Gk 1 intE okO m v o->Q (some (.tup [v,B true],m))) :
 ∀(ks:List Lk) (i j k:Nat) (held:Int) (acc:List Int) (v:AV) (m:Mem) (fc:Nat),kl.drop i=ks->ks.length+1<j->i<=kl.length->k<=s.length->acc.length<=i->0<=held->held<=sto->m.get id=some (.row [pa,li,I gap,I sto] 0 false)->Gk 1 intE okO m v acc->tot=(runE sto held (mgE (pasE l k (s.drop k)) (lnkE (n0+i) ks))).map (acc++·) ->
 Q (x2r call hs 0 j sa (.ptr id 0 0) v (I held) (I k) (I i) m fc):=by
 intro ks
 have hk20:=R.klen
 have hst0:=R.sto0
 induction ks with
 |nil=>
  intro i j k held acc v m fc hd hj hil hkl hacc h0 h1 hm hG ht
  obtain⟨j,rfl⟩:∃i,j=i+2:=⟨j-2,by omega⟩
  have hi:i=kl.length:=by have:=x1qx.mp hd;omega
  have hle:(i:Int)<=(kl.length:Int):=by omega
  simp only[x2r]
  unfold x8q
  simp only[x19x,x17m,x19e hm,x1qs,rd_f,x1ri,x1qm,List.head?_cons,h2.len x190,x1b6,hle,x1qk,x184]
  refine l_rb1 call hs h h2 h3 R hb hs20 _ hm Q (n0:=n0) hil hd (hno m) (λsuf k held fc q1 q2 q3 q4 q5 q6 q7=>?_) (s.drop k) k NN held _ rfl (by rw[x18k];simp;omega) hkl h0 h1 ht
  have e:=q7 rfl
  subst e
  have hlt:¬((i:Int)<(kl.length:Int)):=by omega
  have hw:w64 ((i:Int)+1)=(i:Int)+1:=x17t (by omega) (by omega)
  have hle2:¬((i:Int)+1<=(kl.length:Int)):=by omega
  unfold x4e x4d
  simp only[x19x,x17m,x19e hm,x1qs,rd_f,x1ri,x1qm,List.head?_cons,h2.len x190,x17x,hlt,x1qj,x182,x18r,hw]
  unfold xbv
  simp only[x19x,x17m,x19e hm,x1qs,rd_f,x1ri,x1qm,List.head?_cons,h2.len x190,x1b6,hle2,x1qj,x182]
  exact hok v m acc (by rw[q4,pasE,lnkE,x1dr,runE];simp) hG
 |cons x kr ih=>
  intro i j k held acc v m fc hd hj hil hkl hacc h0 h1 hm hG ht
  obtain⟨j,rfl⟩:∃i,j=i+1:=⟨j-1,by omega⟩
  obtain⟨hik,hix,hd1⟩:=x18t hd
  have hle:(i:Int)<=(kl.length:Int):=by omega
  have hat:=R.lat (hix▸x1ra hik:x∈kl)
  simp only[x2r]
  unfold x8q
  simp only[x19x,x17m,x19e hm,x1qs,rd_f,x1ri,x1qm,List.head?_cons,h2.len x190,x1b6,hle,x1qk,x184]
  refine l_rb1 call hs h h2 h3 R hb hs20 _ hm Q (n0:=n0) hil hd (hno m) (λsuf k held fc q1 q2 q3 q4 q5 q6 q7=>?_) (s.drop k) k NN held _ rfl (by rw[x18k];simp;omega) hkl h0 h1 ht
  have hlt:(i:Int)<(kl.length:Int):=by omega
  have hw:w64 ((i:Int)+1)=((i+1:Nat):Int):=by rw[x17t (by omega) (by omega)];omega
  have hw2:w64 (held-x.da)=held-x.da:=x17t (by omega) (by omega)
  have ixl:=h2.ix Lk.len hik
  have fal:sFA 1 (.plit ((kl.drop i).flatMap Lk.c))=some (.plit (((kl.drop i).flatMap Lk.c).drop 1)):=rfl
  have ldl:∀m,sLd false 1 (.plit (((kl.drop i).flatMap Lk.c).drop 1)) m=some (I x.da):=λm=>by
   rw[x18b hik,x1ql,hix];rfl
  have hnx:(if held-x.da > 0 then held-x.da else 0)=nxE held x.da:=rfl
  have hn0:0<=nxE held x.da/\nxE held x.da<=held:=by
   unfold nxE
   split<;>omega
  have hlit:∀{R:Type} (x:Int) (id:Id) (m:Mem) (q:AV->Mem->Option R),x17w x18x [(0,1,I x)] 1 1 id m q=q (.slit [I x] 1 true) m:=λx id m q=>by rw[z_int10];exact x1ek rfl rfl rfl
  have hel:∀(M:Mem) (x:Int),elems M.get 1 (.slit [I x] 1 true)=some (intE x,1):=λ_ _=>rfl
  obtain⟨v',m1,A,G1,-,-,n1,f1⟩:=hG.app x19q (by omega) (bytes:=8) (id0:=(0,fc+18,80)) ⟨rfl,rfl⟩ (by unfold x180;omega) (nxE held x.da)
  unfold x4e
  simp only[x19x,x17m,x19e hm,x1qs,rd_f,x1ri,x1qm,List.head?_cons,h2.len x190,x17x,hlt,x1qk,x184,ixl,fal,ldl,x197,hw2,sMax_I,hnx,hlit,hel,A]
  unfold x4d
  simp only[x18r,hw,x17m]
  refine ih (i+1) j k _ _ v' m1 _ hd1 (by simp at hj;omega) (by omega) q5 (by simp;omega) hn0.1 (by omega) (by rw[f1 id hid];exact hm) G1 ?_
  rw[q4,q6 x kr rfl,runE,(x19z _ _ _ _).1,x1qb rfl,(x19z _ _ _ _).2.1,q1,x1rl]
  cases runE sto (nxE held x.da) (mgE (pasE l k suf) (lnkE (n0+(i+1)) kr))<;>simp
theorem x1kk(d:Nat){pa li sa:AV}{s:List Int}(h:Sl Ps.c pa l)(h2:Sl Lk.c li kl)(h3:Ints sa s)(hsl:s.length<=1000)(R:RPlan l kl gap sto)(hb:∀i∈s,0<=i/\i<l.length)(m:Mem) :
 ∃v z,x17e (x17h (d+1)) x1g [.agg [pa,li,I gap,I sto],sa] m=some (.tup [v,B z],m)/\((∃o,x1a9 l kl sto s=some o/\Ints v o/\z=true)\/x1a9 l kl sto s=none/\v=nilS/\z=false):=by
 have key:RetF (λa=>∃v z,a=.tup [v,B z]/\((∃o,x1a9 l kl sto s=some o/\Ints v o/\z=true)\/x1a9 l kl sto s=none/\v=nilS/\z=false)) (x17h (d+1) [] x1g [.agg [pa,li,I gap,I sto],sa] mem0):=by
  rw[xzt]
  unfold xal x8r xbw
  simp only[mem0,x19p,x19v,x1r1,x1rk,h.one,h2.one,x19w,x1re,x1rf,x18l]
  generalize hm1:Mem.new _ _ _=m1
  have hg1:m1.get (0,0,2)=some (.row [pa,li,I gap,I sto] 0 false):=by rw[<-hm1,Mem.get_new_same]
  refine l_rb0 (x17h d) [] h h2 h3 R hb hsl (id:=(0,0,2)) (by rintro⟨-,h5⟩;simp at h5) _ (n0:=s.length) (tot:=x1a9 l kl sto s) (λm h5=>?_) (λv m o h5 h6=>?_) kl 0 NN 0 0 [] nilS m1 _ rfl (by rw[x18k];have:=R.klen;omega) (x1sd _) (x1sd _) (x1qi _) (x1sm _) R.sto0.1 hg1 Gk.nil (by simp[x1a9])
  .exact RetF.tup rfl ⟨nilS,false,rfl,.inr ⟨h5,rfl,rfl⟩⟩
  .obtain⟨v',k1,k2⟩:=h6.frz (k:=3) x19q x1g3
   exact RetF.mk (x1ix k2 rfl) ⟨v',true,rfl,.inl ⟨o,h5,k1,rfl⟩⟩
 obtain⟨a,⟨v,z,rfl,hv⟩,hc⟩:=callF (by simp[h.still1,h2.still1,h3.still]) key m
 exact⟨v,z,hc,hv⟩
theorem e_awake10:((x17h 30 [] x26 [] mem0).map (λp=>p.1))=some (B true):=by kernel_rfl
theorem w_awake10(m:Mem):x17e (x17h 30) x26 [] m=some (B true,m):=by
 have h:=e_awake10
 rw[x1qf]at h
 obtain⟨⟨r,m'⟩,h1,rfl⟩:=h
 exact call0 rfl h1 rfl
def shM(l:List Ps)(kl:List Lk):Bool:=l.all (λx=>decide (x.nm.size<=20))&&((decide (l.length<=12)||(decide (40<l.length)&&decide (l.length<=42)))&&decide (kl.length<=22))
theorem l_short(call:x17c)(hs:FHs)(u:Nat){pa li:AV}{gap sto:Int}{l:List Ps}{kl:List Lk}(h:Sl Ps.c pa l)(h2:Sl Lk.c li kl)(hl:l.length<=9223372036854775807){id:Id} :
 ∀(suf:List Ps) (k j:Nat) (m:Mem) (fc:Nat),l.drop k=suf->suf.length<j->m.get id=some (.row [pa,li,I gap,I sto] 0 false) ->
 x2m call hs u j (.ptr id 0 0) (I k) m fc=some (B (suf.all (λx=>decide (x.nm.size<=20))&&((decide (l.length<=12)||(decide (40<l.length)&&decide (l.length<=42)))&&decide (kl.length<=22))),m):=by
 intro suf
 induction suf with
 |nil=>
  intro k j m fc hd hj hm
  obtain⟨j,rfl⟩:∃i,j=i+1:=⟨j-1,by simp at hj;omega⟩
  have hk:¬((k:Int)<(l.length:Int)):=by have:=x1qx.mp hd;omega
  simp only[x2m]
  unfold x84 xbi
  have e12:decide ((l.length:Int)<=12)=decide (l.length<=12):=decide_eq_decide.2 (by omega)
  have e40:decide ((40:Int)<(l.length:Int))=decide (40<l.length):=decide_eq_decide.2 (by omega)
  have e42:decide ((l.length:Int)<=42)=decide (l.length<=42):=decide_eq_decide.2 (by omega)
  have e22:decide ((kl.length:Int)<=22)=decide (kl.length<=22):=decide_eq_decide.2 (by omega)
  simp[hm,h.len x198,hk]
  by_cases a1:l.length<=12
  .have a2:(l.length:Int)<=12:=by omega
   simp[a1,a2,hm,h2.len x190]
   omega
  .have a2:¬((l.length:Int)<=12):=by omega
   simp[a1,a2,hm,h.len x198]
   by_cases b1:40<l.length
   .have b2:(40:Int)<(l.length:Int):=by omega
    simp[b1,b2,hm,h.len x198]
    by_cases c1:l.length<=42
    .have c2:(l.length:Int)<=42:=by omega
     simp[c1,c2,hm,h2.len x190]
     omega
    .have c2:¬((l.length:Int)<=42):=by omega
     simp[c1,c2]
   .have b2:¬((40:Int)<(l.length:Int)):=by omega
    simp[b1,b2]
 |cons e r ih=>
  intro k j m fc hd hj hm
  obtain⟨j,rfl⟩:∃i,j=i+1:=⟨j-1,by simp at hj;omega⟩
  obtain⟨hk,he,hd1⟩:=x18t hd
  have hk':(k:Int)<(l.length:Int):=by omega
  have ix:=h.ix Ps.len hk
  have fa0:sFA 0 (.plit ((l.drop k).flatMap Ps.c))=some (.plit ((l.drop k).flatMap Ps.c)):=rfl
  have ld0:∀m,sLd false 1 (.plit ((l.drop k).flatMap Ps.c)) m=some (T e.nm):=λm=>by
   rw[x18b hk,x1ql,he];rfl
  have hw1:w64 ((k:Int)+1)=(k:Int)+1:=x17t (by omega) (by omega)
  have:=ih (k+1) j m (fc+16) hd1 (by simp at hj;omega) hm
  simp only[x2m]
  unfold x84
  by_cases c:e.nm.size<=20
  .have c2:¬((20:Int)<(e.nm.size:Int)):=by omega
   simp[hm,h.len x198,hk,ix,fa0,ld0,c,c2,hw1]
   simpa using this
  .have c2:(20:Int)<(e.nm.size:Int):=by omega
   simp[hm,h.len x198,hk,ix,fa0,ld0,c,c2]
theorem w_short(d:Nat){pa li:AV}{gap sto:Int}{l:List Ps}{kl:List Lk}(h:Sl Ps.c pa l)(h2:Sl Lk.c li kl)(hl:l.length<=9223372036854775807)(m:Mem) :
 x17e (x17h (d+1)) x1c [.agg [pa,li,I gap,I sto]] m=some (B (shM l kl),m):=by
 obtain⟨m',h'⟩:∃m',x17h (d+1) [] x1c [.agg [pa,li,I gap,I sto]] mem0=some (B (shM l kl),m'):=by
  rw[xzn]
  unfold xaf x85 xbj
  simp only[mem0,x19p,x19v,x1r1,x1rk,h.one,h2.one,x19w,x1re,x1rf,x18l]
  generalize hm0:Mem.new _ _ _=m0
  have hg:m0.get (0,0,1)=some (.row [pa,li,I gap,I sto] 0 false):=by rw[<-hm0,Mem.get_new_same]
  exact⟨_,l_short (x17h d) [] 0 h h2 hl l 0 NN m0 3 rfl (by rw[x18k];omega) hg⟩
 exact call0 (by simp[h.still1,h2.still1]) h' rfl
end Go.Ix
