import Derived.Test.YtaoalekmhjclnaaGreatDoorWg7
import Derived.Test.YtaoalekmhjclnaaGreatDoorW10Plan
import Derived.Test.YtaoalekmhjclnaaGreatDoorWg1
set_option linter.unusedSimpArgs false
set_option linter.unusedVariables false
namespace Go.Ix
open Go.Proofs
variable{ok:Id->Prop}{a:AV}{N:Nat}{M:Mem}{m m':Mem}{L:List Ev}
theorem u_event:Tryz.prog.underlying x8e=some (.slice xup):=by kernel_rfl
theorem Hd.len(h:Hd ok a N M m L):sLen Tryz.prog x8e a=some (I L.length):=by
 rcases h.g with ⟨rfl,rfl⟩|⟨id,ver,_,rfl,hg⟩
 .exact x1di u_event
 .rfl
theorem x1g8(call:x17c)(hs:FHs)(u:Nat)(t2:AV){t n:Nat}(h:n<=t)(j:Nat)(m:Mem)(fc:Nat):x19 call hs u (j+1) a (I n) t2 (I t) m fc=some (.tup [],m):=by
 have:¬((t:Int)<(n:Int)):=by omega
 simp only[x19]
 unfold x4j
 simp only[x17x,this,x1qj,x17m,x182]
theorem NN_2:∃k,NN=k+2:=⟨NN-2,by have:=x18k;omega⟩
theorem c_stableE(d:Nat)(hok:∀j,ok j->j.1<N){f:AV}(hf:∀d,CmpE (x17h (d+1)) f)(hs:FHs){A:List Ev}(hl:A.length<40)(hA:A.Pairwise IxE)(h:Hd ok a N M m A) :
 ∃D m',x17h (d+9) hs x2d [a,I A.length,f] m=some (.tup [],m')/\Hd ok a N M m' D/\D.Pairwise RE/\D.Perm A:=by
 rw[x10a]
 unfold xb0 x9j
 obtain⟨k,hk⟩:=NN_2
 have h':=h.call hok
 have S:∀n,x2y (x17h (d+8)) hs m.next (n+1)=x2x (x17h (d+8)) hs m.next (x2y (x17h (d+8)) hs m.next n):=λn=>by simp only[x2y]
 have S0:∀n,x19 (x17h (d+8)) hs m.next (n+1)=x4j (x17h (d+8)) hs m.next (x19 (x17h (d+8)) hs m.next n):=λn=>by simp only[x19]
 by_cases c:20<=A.length
 .obtain⟨A1,A2,rfl,hA1⟩:=x1ce A 20 c
  simp only[x1qu]at hl c
  rw[x1rx]at hA
  obtain⟨pA1,pA2,pA12⟩:=hA
  obtain⟨D1,m1,r1,H1,pD1,qD1⟩:=c_insE (d+6) hok hf hs (X:=[]) (A:=A1) (Y:=A2) (a0:=0) (b0:=20) rfl (by simp;omega) (by omega) pA1 (by simpa using h')
  have lD1:=qD1.length_eq
  obtain⟨D2,m2,r2,H2,pD2,qD2⟩:=c_insE (d+6) hok hf hs (X:=D1) (A:=A2) (Y:=[]) (a0:=20) (b0:=A1.length+A2.length) (by omega) (by omega) (by omega) pA2 (by simpa using H1)
  have lD2:=qD2.length_eq
  have hc:(20:Int)<=((A1.length+A2.length:Nat):Int):=by omega
  have hc2:¬((40:Int)<=((A1.length+A2.length:Nat):Int)):=by omega
  have e0:I ((0:Nat):Int)=I 0:=rfl
  have e20:I ((20:Nat):Int)=I 20:=rfl
  have w40:w64 ((20:Int)+20)=40:=rfl
  rw[x1qu,hk,S]
  unfold x2x
  rw[e0,e20]at r1
  rw[e20]at r2
  simp only[x1b6,hc,x1qk,x17m,x184,r1,x18r,w40]
  rw[S]
  unfold x2x x9i
  simp only[x1b6,hc2,x1qj,x17m,x182,r2]
  by_cases c2:A2=[]
  .subst c2
   have:=x1g8 (a:=a) (x17h (d+8)) hs m.next f (t:=20) (n:=A1.length+([]:List Ev).length) (by simp;omega) (k+1) m2 (4+14+3+5)
   rw[hk]
   exact⟨D1++(D2++[]),m2,this,H2,by
    have:D2=[]:=x1rd.mp (by simpa using lD2)
    subst this
    simpa using pD1,by simpa using qD1.append qD2⟩
  .have hA2:=x1sf.mpr c2
   have e:D1++(D2++[])=[]++(D1++(D2++[])):=rfl
   rw[e]at H2
   obtain⟨C,m3,r3,H3,pC,qC⟩:=c_symE hok hf 6 d hs [] D1 D2 [] m2 0 20 (A1.length+A2.length) (List.ne_nil_of_length_pos (by omega)) (List.ne_nil_of_length_pos (by omega)) (by simp;omega) rfl (by simp;omega) (by simp;omega) (by simp;omega) pD1 pD2 (λx hx y hy=>pA12 x (qD1.mem_iff.mp hx) y (qD2.mem_iff.mp hy)) H2
   refine⟨[]++(C++[]),m3,?_,H3,by simpa using pC,?_⟩
   .have hc3:(20:Int)<((A1.length+A2.length:Nat):Int):=by omega
    rw[hk,S0]
    unfold x4j xdk
    have w41:w64 ((2:Int)*20)=40:=rfl
    have w42:w64 ((0:Int)+20)=20:=rfl
    have w43:w64 ((20:Int)*2)=40:=rfl
    simp only[x17x,hc3,x1qk,x17m,x184,sMul_I,w41]
    rw[show NN=(k+1)+1 from hk]
    simp only[x9h]
    unfold xdj xdi x9g
    rw[e0,e20]at r3
    rw[show 6+d+2=d+8 by omega]at r3
    simp only[x1b6,hc2,x1qj,x17m,x182,x18r,w42,x17x,hc3,x1qk,x184,r3,sMul_I,w43]
    exact x1g8 (a:=a) (x17h (d+8)) hs m.next f (t:=40) (n:=A1.length+A2.length) (by omega) k m3 _
   .simpa using qC.trans (qD1.append qD2)
 .obtain⟨D,m1,r1,H1,pD,qD⟩:=c_insE (d+6) hok hf hs (X:=[]) (A:=A) (Y:=[]) (a0:=0) (b0:=A.length) rfl (by simp) (by omega) hA (by simpa using h')
  refine⟨[]++(D++[]),m1,?_,H1,by simpa using pD,by simpa using qD⟩
  have hc:¬((20:Int)<=(A.length:Int)):=by omega
  rw[hk,S]
  unfold x2x x9i
  have e0:I ((0:Nat):Int)=I 0:=rfl
  rw[e0]at r1
  simp only[x1b6,hc,x1qj,x17m,x182,r1]
  rw[hk]
  exact x1g8 (a:=a) (x17h (d+8)) hs m.next f (t:=20) (n:=A.length) (by omega) (k+1) m1 _
theorem c_sortE(d:Nat)(hok:∀j,ok j->j.1<N){f:AV}(hf:∀d,CmpE (x17h (d+1)) f)(hs:FHs){A:List Ev}(hl:A.length<40)(hA:A.Pairwise IxE)(h:Hd ok a N M m A) :
 ∃D m',x17h (d+10) hs x2a [a,f] m=some (.tup [],m')/\Hd ok a N M m' D/\D.Pairwise RE/\D.Perm A:=by
 obtain⟨D,m1,r1,H1,pD,qD⟩:=c_stableE d hok hf hs hl hA (h.call hok)
 refine⟨D,m1,?_,H1,pD,qD⟩
 rw[x104]
 unfold xav x95
 simp only[h.len,x17m,r1]
theorem x1dp:x4a=[nilS,nilS,I 0,I 0]:=by kernel_rfl
theorem x1dq(d:Nat){pa li:AV}{gap sto:Int}{l:List Ps}{kl:List Lk}(h:Sl Ps.c pa l)(h2:Sl Lk.c li kl)(hn:∀x∈l,x.nm.size<=1000)(m:Mem) :
 x17e (x17h (d+5)) x13 [.agg [pa,li,I gap,I sto]] m=some (.tup [.agg [pa,li,I gap,I sto],I (planM l kl gap sto).2],m):=by
 obtain⟨m',h'⟩:∃m',x17h (d+5) [] x13 [.agg [pa,li,I gap,I sto]] mem0=some (.tup [.agg [pa,li,I gap,I sto],I (planM l kl gap sto).2],m'):=by
  rw[x102]
  unfold xat x92
  simp only[mem0,x19p,x19v,x1r1,x1rk,h.one,h2.one,x19w,x1re,x1rf,x18l,x1b7,x1dp]
  have eb:x17p [nilS,nilS,I 0,I 0] [(0,4,.agg [pa,li,I gap,I sto])]=some (.agg [pa,li,I gap,I sto]):=by simp[x17p,x19u,h.one,h2.one]
  have ep:∀(id:Id) (m:Mem),sLdP true 4 (.ptr id 0 0) m=sLd true 4 (.ptr id 0 0) m:=λ_ _=>rfl
  simp[x1it d (gap:=gap) (sto:=sto) h h2 hn,h.one,h2.one,eb,ep]
 exact call0_tup (by simp[h.still1,h2.still1]) h' (by simp[h.still1,h2.still1])
def ahM(gap fr:Int):List Ps->Nat
 |[]=>0
 |x::r=>bif decide (x.to+gap<=fr)then ahM gap fr r+1 else 0
theorem l_ahead(call:x17c)(hs:FHs)(u:Nat){pa li:AV}{gap sto:Int}{l:List Ps}(h:Sl Ps.c pa l)(hl:l.length<=1000){i:Nat}(hi:i<l.length)(hg1:0<=gap/\gap<=1000000)(hto:∀x∈l,0<=x.to/\x.to<=1000000000){id:Id} :
 ∀(suf:List Ps) (k j:Nat) (m:Mem) (fc:Nat),l.drop k=suf->suf.length<j->m.get id=some (.row [pa,li,I gap,I sto] 0 false) ->
 x2v call hs u j (I i) (.ptr id 0 0) (I k) m fc=some (I ((k+ahM gap l[i].fr suf:Nat)),m):=by
 intro suf
 have ixi:=h.ix Ps.len hi
 have fai:sFA 1 (.plit ((l.drop i).flatMap Ps.c))=some (.plit ((l.drop i).flatMap Ps.c).tail):=by rw[<-List.drop_one];rfl
 have ldi:∀m,sLd false 1 (.plit ((l.drop i).flatMap Ps.c).tail) m=some (I l[i].fr):=λm=>by
  rw[x18b hi,x1ql];rfl
 induction suf with
 |nil=>
  intro k j m fc hd hj hm
  obtain⟨j,rfl⟩:∃i,j=i+1:=⟨j-1,by simp at hj;omega⟩
  have hk:¬((k:Int)<(l.length:Int)):=by have:=x1qx.mp hd;omega
  simp only[x2v]
  unfold x9b x9a
  simp[hm,h.len x198,hk,ahM]
 |cons e r ih=>
  intro k j m fc hd hj hm
  obtain⟨j,rfl⟩:∃i,j=i+1:=⟨j-1,by simp at hj;omega⟩
  obtain⟨hk,he,hd⟩:=x18t hd
  have hk':(k:Int)<(l.length:Int):=by omega
  have ix:=h.ix Ps.len hk
  have fa:sFA 2 (.plit ((l.drop k).flatMap Ps.c))=some (.plit (((l.drop k).flatMap Ps.c).drop 2)):=rfl
  have ld:∀m,sLd false 1 (.plit (((l.drop k).flatMap Ps.c).drop 2)) m=some (I e.to):=λm=>by
   rw[x18b hk,x1ql,he];rfl
  have hb:=hto e (he▸x1ra hk)
  have hw:w64 (e.to+gap)=e.to+gap:=x17t (by omega) (by omega)
  have hw1:w64 ((k:Int)+1)=(k:Int)+1:=x17t (by omega) (by omega)
  simp only[x2v]
  unfold x9b x9a
  by_cases hc:e.to+gap<=l[i].fr
  .have:=ih (k+1) j m (fc+30) hd (by simp at hj;omega) hm
   simp[hm,h.len x198,hk,ix,fa,ld,ixi,fai,ldi,hw,hc,hw1,ahM]
   rw[show((k:Int)+((ahM gap l[i].fr r:Nat)+1))=(((k+1)+ahM gap l[i].fr r:Nat):Int) by omega]
   exact this
  .simp[hm,h.len x198,hk,ix,fa,ld,ixi,fai,ldi,hw,hc,ahM]
theorem w_ahead(d:Nat){pa li:AV}{gap sto:Int}{l:List Ps}{kl:List Lk}(h:Sl Ps.c pa l)(h2:Sl Lk.c li kl)(hl:l.length<=1000){i:Nat}(hi:i<l.length)(hg1:0<=gap/\gap<=1000000)(hto:∀x∈l,0<=x.to/\x.to<=1000000000)(m:Mem) :
 x17e (x17h (d+1)) x1i [.agg [pa,li,I gap,I sto],I i] m=some (I (ahM gap l[i].fr l:Nat),m):=by
 obtain⟨m',h'⟩:∃m',x17h (d+1) [] x1i [.agg [pa,li,I gap,I sto],I i] mem0=some (I (ahM gap l[i].fr l:Nat),m'):=by
  rw[x108]
  unfold xay x9c
  simp only[mem0,x19p,x19v,x1r1,x1rk,h.one,h2.one,x19w,x1re,x1rf,x18l]
  generalize hm0:Mem.new _ _ _=m0
  have hg:m0.get (0,0,2)=some (.row [pa,li,I gap,I sto] 0 false):=by rw[<-hm0,Mem.get_new_same]
  have:=l_ahead (x17h d) [] 0 (li:=li) (sto:=sto) h hl hi hg1 hto l 0 NN m0 3 rfl (by rw[x18k];omega) hg
  rw[x1qs]at this
  exact⟨_,this⟩
 exact call0 (by simp[h.still1,h2.still1]) h' rfl
def psAt(l:List Ps)(i:Int):Ps:=(l[i.toNat]?).getD ⟨⟨#[]⟩,0,0,0,0⟩
theorem x1a8{l:List Ps}{k:Nat}(h:k<l.length):psAt l (k:Int)=l[k]:=by simp[psAt,h]
def ckM(l:List Ps)(gap:Int):Option Int->Int->List Int->Int×Int
 |_,v,[]=>(v,0)
 |p,v,i::r=>
  bif !wi i 0 ((l.length:Int)-1)then(0,6)
  else bif(match p with|some q=>decide (i<=q)|none=>false)then(0,9)
  else bif(match p with|some q=>decide ((ahM gap (psAt l i).fr l:Int)<=q)|none=>false)then(0,13)
  else ckM l gap (some i) (v+(psAt l i).va) r
theorem l_check(d:Nat)(hs:FHs)(u:Nat){pa li sa:AV}{gap sto:Int}{l:List Ps}{kl:List Lk}{s:List Int}(h:Sl Ps.c pa l)(h2:Sl Lk.c li kl)(h3:Ints sa s)(hl:l.length<=1000)(hsl:s.length<=1000)(hg1:0<=gap/\gap<=1000000)(hto:∀x∈l,0<=x.to/\x.to<=1000000000)(hva:∀x∈l,0<=x.va/\x.va<=1000000){id:Id} :
 ∀(suf:List Int) (k j:Nat) (v:Int) (m:Mem) (fc:Nat),s.drop k=suf->suf.length<j->0<=v->v<=1000000*k->m.get id=some (.row [pa,li,I gap,I sto] 0 false) ->
 ∃m',x1x (x17h (d+1)) hs u j sa (.ptr id 0 0) (I v) sa (I s.length) (I k) m fc=some (.tup [I (ckM l gap ((s.take k).getLast?) v suf).1,I (ckM l gap ((s.take k).getLast?) v suf).2],m'):=by
 intro suf
 induction suf with
 |nil=>
  intro k j v m fc hd hj hv0 hv1 hm
  obtain⟨j,rfl⟩:∃i,j=i+1:=⟨j-1,by simp at hj;omega⟩
  have hk:¬((k:Int)<(s.length:Int)):=by have:=x1qx.mp hd;omega
  simp only[x1x]
  unfold x93 xcl
  simp[hk,ckM]
 |cons e r ih=>
  intro k j v m fc hd hj hv0 hv1 hm
  obtain⟨j,rfl⟩:∃i,j=i+1:=⟨j-1,by simp at hj;omega⟩
  obtain⟨hk,he,hd1⟩:=x18t hd
  have hk':(k:Int)<(s.length:Int):=by omega
  have ix:=h3.ix x19q hk
  have ld:∀m,sLd false 1 (.plit ((s.drop k).flatMap intE)) m=some (I e):=λm=>by
   rw[x18b hk,x1ql,he];rfl
  have hwl:w64 ((l.length:Int)-1)=(l.length:Int)-1:=x17t (by omega) (by omega)
  simp only[x1x]
  unfold x93
  simp only[x17x,hk',x1qk,x184,x17m,ix,ld]
  simp[hm,h.len x198,hwl,x1g6,ckM]
  cases hw:wi e 0 ((l.length:Int)-1)with
  |false=>simp
  |true=>
  have hin:0<=e/\e<l.length:=by
   simp only[wi,x1qg,x1ru]at hw;omega
  obtain⟨i,rfl⟩:∃i:Nat,e=i:=⟨e.toNat,by omega⟩
  have hi:i<l.length:=by omega
  have ixi:=h.ix Ps.len hi
  have fai:sFA 3 (.plit ((l.drop i).flatMap Ps.c))=some (.plit (((l.drop i).flatMap Ps.c).drop 3)):=rfl
  have ldi:∀m,sLd false 1 (.plit (((l.drop i).flatMap Ps.c).drop 3)) m=some (I l[i].va):=λm=>by
   rw[x18b hi,x1ql];rfl
  have hvi:=hva l[i] (x1ra hi)
  have hwv:w64 (v+l[i].va)=v+l[i].va:=x17t (by omega) (by omega)
  have hwk:w64 ((k:Int)+1)=(k:Int)+1:=x17t (by omega) (by omega)
  have next:∀m fc,m.get id=some (.row [pa,li,I gap,I sto] 0 false)->∃m',x1x (x17h (d+1)) hs u j sa (.ptr id 0 0) (I (v+l[i].va)) sa (I s.length) (I ((k:Int)+1)) m fc=some (.tup [I (ckM l gap (some (i:Int)) (v+l[i].va) r).1,I (ckM l gap (some (i:Int)) (v+l[i].va) r).2],m'):=λm fc hm=>by
   have:=ih (k+1) j (v+l[i].va) m fc hd1 (by simp at hj;omega) (by omega) (by omega) hm
   rw[x1aw hk,he]at this
   exact this
  have hah:=w_ahead d (sto:=sto) (gap:=gap) h h2 hl hi hg1 hto
  rcases k with _|k
  .simp[hm,ixi,fai,ldi,hwv,x1a8 hi]
   obtain⟨m',h'⟩:=next m (fc+53) hm
   exact⟨m',by simpa using h'⟩
  .have hk1:k<s.length:=by omega
   have ix1:=h3.ix x19q hk1
   have ld1:∀m,sLd false 1 (.plit ((s.drop k).flatMap intE)) m=some (I s[k]):=λm=>by
    rw[x18b hk1,x1ql];rfl
   have hs1:w64 (k:Int)=k:=x17t (by omega) (by omega)
   have hs2:w64 ((k:Int)+1+1)=(k:Int)+1+1:=x17t (by omega) (by omega)
   have hlast:=x1aw hk1
   by_cases ho:(i:Int)<=s[k]
   .simp[hs1,ix1,ld1,hlast,ho]
   .by_cases hc:(ahM gap l[i].fr l:Int)<=s[k]
    .simp[hs1,ix1,ld1,hlast,ho,hm,hah,hc,x1a8 hi,h.one,h2.one,h.clean1,h2.clean1,cAp,tR]
    .simp[hs1,ix1,ld1,hlast,ho,hm,hah,hc,x1a8 hi,h.one,h2.one,ixi,fai,ldi,hwv,h.clean1,h2.clean1,cAp,tR]
     obtain⟨m',h'⟩:=next m (fc+53) hm
     exact⟨m',by rw[hs2];simpa using h'⟩
theorem x1g9(d:Nat){pa li sa:AV}{gap sto:Int}{l:List Ps}{kl:List Lk}{s:List Int}(h:Sl Ps.c pa l)(h2:Sl Lk.c li kl)(h3:Ints sa s)(hl:l.length<=1000)(hsl:s.length<=1000)(hg1:0<=gap/\gap<=1000000)(hto:∀x∈l,0<=x.to/\x.to<=1000000000)(hva:∀x∈l,0<=x.va/\x.va<=1000000)(m:Mem) :
 x17e (x17h (d+2)) x14 [.agg [pa,li,I gap,I sto],sa] m=some (.tup [I (ckM l gap none 0 s).1,I (ckM l gap none 0 s).2],m):=by
 obtain⟨m',h'⟩:∃m',x17h (d+2) [] x14 [.agg [pa,li,I gap,I sto],sa] mem0=some (.tup [I (ckM l gap none 0 s).1,I (ckM l gap none 0 s).2],m'):=by
  rw[x103]
  unfold xau x94 xcm
  simp only[mem0,x19p,x19v,x1r1,x1rk,h.one,h2.one,x19w,x1re,x1rf,x18l,h3.len x19h,x17m]
  generalize hm0:Mem.new _ _ _=m0
  have hg:m0.get (0,0,2)=some (.row [pa,li,I gap,I sto] 0 false):=by rw[<-hm0,Mem.get_new_same]
  obtain⟨m',h'⟩:=l_check d [] 0 (sto:=sto) h h2 h3 hl hsl hg1 hto hva s 0 NN 0 m0 7 rfl (by rw[x18k];omega) (by omega) (by omega) hg
  exact⟨m',h'⟩
 exact call0_tup (by simp[h.still1,h2.still1,h3.still]) h' rfl
structure RPlan (l:List Ps) (kl:List Lk) (gap sto:Int):Prop where
 ok:(planM l kl gap sto).2=0
 len:l.length<=40
 klen:kl.length<=20
 gap0:0<=gap/\gap<=1000000
 sto0:0<=sto/\sto<=1000000
 ps:∀(k:Nat) (h:k<l.length),pwErr (l.take k) l[k]=0
 ls:∀(k:Nat) (h:k<kl.length),lkBad (kl.take k) kl[k]=0
theorem x1iv{l:List Ps}{res:Int×Int}:∀(suf:List Ps) (k:Nat),l.drop k=suf->(x19i res l k suf).2=0->res.2=0/\∀(i:Nat) (h:i<l.length),k<=i->pwErr (l.take i) l[i]=0
 |[],k,hd,h=>⟨h,λi hi hk=>by have:=x1qx.mp hd;omega⟩
 |e::r,k,hd,h=>by
  obtain⟨hk,he,hd1⟩:=x18t hd
  by_cases hz:pwErr (l.take k) e=0
  .rw[x1dk hz]at h
   obtain⟨h1,h2⟩:=x1iv r (k+1) hd1 h
   refine⟨h1,λi hi hki=>?_⟩
   rcases Nat.lt_or_eq_of_le hki with h3|rfl
   .exact h2 i hi h3
   .rw[he];exact hz
  .rw[x19j rfl hz]at h
   exact absurd h hz
theorem x1iw{l:List Lk}{res:Int×Int}:∀(suf:List Lk) (k:Nat),l.drop k=suf->(x191 res l k suf).2=0->res.2=0/\∀(i:Nat) (h:i<l.length),k<=i->lkBad (l.take i) l[i]=0
 |[],k,hd,h=>⟨h,λi hi hk=>by have:=x1qx.mp hd;omega⟩
 |e::r,k,hd,h=>by
  obtain⟨hk,he,hd1⟩:=x18t hd
  by_cases hz:lkBad (l.take k) e=0
  .rw[x1dl hz]at h
   obtain⟨h1,h2⟩:=x1iw r (k+1) hd1 h
   refine⟨h1,λi hi hki=>?_⟩
   rcases Nat.lt_or_eq_of_le hki with h3|rfl
   .exact h2 i hi h3
   .rw[he];exact hz
  .rw[x1cd rfl hz]at h
   exact absurd h hz
theorem x1en{l:List Ps}{kl:List Lk}{gap sto:Int}(h:(planM l kl gap sto).2=0):RPlan l kl gap sto:=by
 have h0:=h
 unfold planM at h
 by_cases hl:40<l.length
 .simp[hl]at h
 .simp only[hl,x1qj,x19o]at h
  obtain⟨h1,h2⟩:=x1iv l 0 rfl h
  by_cases hk:20<kl.length
  .simp[hk]at h1
  .simp only[hk,x1qj,x19o]at h1
   obtain⟨h3,h4⟩:=x1iw kl 0 rfl h1
   have h5:(wi gap 0 1000000&&wi sto 0 1000000)=true:=by
    cases hq:wi gap 0 1000000&&wi sto 0 1000000 with
    |true=>rfl
    |false=>rw[hq]at h3;simp at h3
   simp only[wi,x1qg,x1ru]at h5
   exact⟨h0,by omega,by omega,by omega,by omega,λk hk=>h2 k hk (by omega),λk hk=>h4 k hk (by omega)⟩
theorem pw_ok{l:List Ps}{x:Ps}(h:pwErr l x=0):(0<=x.fr/\x.fr<=1000000000)/\(0<=x.to/\x.to<=1000000000)/\(0<=x.va/\x.va<=1000000)/\(0<=x.da/\x.da<=1000000)/\x.fr<x.to/\∀y,l.getLast?=some y->y.to<=x.to:=by
 unfold pwErr at h
 by_cases hq:x1b9 x.nm (l.map Ps.nm)=0
 .rw[hq]at h
  simp only[ne_eq,not_true,x1qj,x19o,pw2]at h
  cases h1:wi x.fr 0 1000000000<;>cases h2:wi x.to 0 1000000000<;>cases h3:wi x.va 0 1000000<;>cases h4:wi x.da 0 1000000<;>simp[h1,h2,h3,h4]at h
  by_cases hb:x.to<=x.fr
  .simp[hb]at h
  .simp only[hb,x1qj,x19o]at h
   simp only[wi,x1qg,x1ru]at h1 h2 h3 h4
   refine⟨by omega,by omega,by omega,by omega,by omega,λy hy=>?_⟩
   rw[hy]at h
   by_cases hz:x.to<y.to
   .simp[hz]at h
   .omega
 .simp[hq]at h
theorem RPlan.at{l:List Ps}{kl:List Lk}{gap sto:Int}(R:RPlan l kl gap sto){x:Ps}(hx:x∈l):(0<=x.fr/\x.fr<=1000000000)/\(0<=x.to/\x.to<=1000000000)/\(0<=x.va/\x.va<=1000000)/\(0<=x.da/\x.da<=1000000)/\x.fr<x.to:=by
 obtain⟨k,hk,rfl⟩:=x1tk hx
 have:=pw_ok (R.ps k hk)
 exact⟨this.1,this.2.1,this.2.2.1,this.2.2.2.1,this.2.2.2.2.1⟩
theorem RPlan.mono1{l:List Ps}{kl:List Lk}{gap sto:Int}(R:RPlan l kl gap sto){k:Nat}(hk:k+1<l.length):l[k].to<=l[k+1].to:=by
 have:=(pw_ok (R.ps (k+1) hk)).2.2.2.2.2 l[k] (x1aw (by omega))
 exact this
def x1bb(l:List Ps)(kl:List Lk)(gap sto:Int)(s:List Int):Int×Int:=bif decide ((planM l kl gap sto).2≠0)then(0,(planM l kl gap sto).2)else ckM l gap none 0 s
theorem x1ke(d:Nat){pa li sa:AV}{gap sto:Int}{l:List Ps}{kl:List Lk}{s:List Int}(h:Sl Ps.c pa l)(h2:Sl Lk.c li kl)(h3:Ints sa s)(hn:∀x∈l,x.nm.size<=1000)(hsl:s.length<=1000)(m:Mem) :
 x17e (x17h (d+6)) x11 [.agg [pa,li,I gap,I sto],sa] m=some (.tup [I (x1bb l kl gap sto s).1,I (x1bb l kl gap sto s).2],m):=by
 obtain⟨m',h'⟩:∃m',x17h (d+6) [] x11 [.agg [pa,li,I gap,I sto],sa] mem0=some (.tup [I (x1bb l kl gap sto s).1,I (x1bb l kl gap sto s).2],m'):=by
  rw[xzq]
  unfold xai x8c x1bb
  simp only[mem0,x19p,x19v,x1r1,x1rk,h.one,h2.one,x19w,x1re,x1rf,x18l,x1b7,x1dp]
  by_cases hz:(planM l kl gap sto).2=0
  .have R:=x1en hz
   have hc:=x1g9 (d+3) (sto:=sto) h h2 h3 (by have:=R.len;omega) hsl R.gap0 (λx hx=>(R.at hx).2.1) (λx hx=>(R.at hx).2.2.1)
   simp[x1dq d (gap:=gap) (sto:=sto) h h2 hn,h.one,h2.one,hz,hc]
  .simp[x1dq d (gap:=gap) (sto:=sto) h h2 hn,h.one,h2.one,hz]
 exact call0_tup (by simp[h.still1,h2.still1,h3.still]) h' rfl
end Go.Ix
