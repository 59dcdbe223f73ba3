import Derived.Test.YtaoalekmhjclnaaGreatDoorWg2
import Derived.Test.YtaoalekmhjclnaaGreatDoorWg3
set_option maxRecDepth 100000
namespace Go.Proofs.YtaoalekmhjclnaaGreatDoor
open Go.ChangeShapes Go.WideShapes Go.ChangeAt Go.RowKit Go.Ix
theorem sl_shL{α:Type}{enc:α->List AV}{P:Program}{t e:TypeId}{z:AV}(ht:P.underlying t=some (.slice e))(hr:∀r,r.length=P.cellsOf e->Sh P e r->∃x,r=enc x)(f:Sh P t [z]):∃l,Sl enc z l/\l.length<=maxLen:=by
 rcases Sh.slice_inv ht f with h1|⟨rows,x,h1,h2,h3,h4⟩
 .simp at h1;exact⟨[],Or.inl ⟨h1,rfl⟩,x1pz _⟩
 .obtain⟨l,rfl⟩:=x1dw (enc:=enc) λr hm=>hr r (h2 r hm) (h3 r hm)
  simp at h1
  exact⟨l,Or.inr ⟨x,by simpa[List.flatMap]using h1⟩,by simpa using h4⟩
theorem pass_sh{r:List AV}(hl:r.length=Tryz.prog.cellsOf x22)(hr:Sh Tryz.prog x22 r):∃x:Ps,r=x.c:=by
 obtain⟨fs,h1,h2⟩:=fs_of (t:=x22) (l:=[(x0,0),(x15u,1),(x15u,2),(x15u,3),(x15u,4)]) (by kernel_rfl)
 obtain⟨-,hff⟩:=Sh.struct_inv h1 hr
 have hc:Tryz.prog.cellsOf x22=5:=by kernel_rfl
 have hci:Tryz.prog.cellsOf x15u=1:=by kernel_rfl
 have hcs:Tryz.prog.cellsOf x0=1:=by kernel_rfl
 rw[hc]at hl
 match r,hl with
 |[x,y,z,w,v],_=>
  have:∀p∈fs.toList.map (λf=>(f.type,f.offset)),Sh Tryz.prog p.1 (([x,y,z,w,v].drop p.2).take (Tryz.prog.cellsOf p.1)):=λp hp=>by
   obtain⟨f,hf,rfl⟩:=x1p6.mp hp
   exact hff f hf
  rw[h2]at this
  have a0:=this _ (x1ok ..)
  have a1:=this (x15u,1) (by simp)
  have a2:=this (x15u,2) (by simp)
  have a3:=this (x15u,3) (by simp)
  have a4:=this (x15u,4) (by simp)
  simp only[hci,hcs,x1oh,x1rh,x1qd,x1qy]at a0 a1 a2 a3 a4
  obtain⟨s,hs⟩:=sh_str a0
  obtain⟨p1,e1⟩:=x192 a1
  obtain⟨p2,e2⟩:=x192 a2
  obtain⟨p3,e3⟩:=x192 a3
  obtain⟨p4,e4⟩:=x192 a4
  simp at hs e1 e2 e3 e4
  exact⟨⟨s,p1,p2,p3,p4⟩,by rw[hs,e1,e2,e3,e4];rfl⟩
theorem link_sh{r:List AV}(hl:r.length=Tryz.prog.cellsOf x2r)(hr:Sh Tryz.prog x2r r):∃x:Lk,r=x.c:=by
 obtain⟨fs,h1,h2⟩:=fs_of (t:=x2r) (l:=[(x15u,0),(x15u,1)]) (by kernel_rfl)
 obtain⟨a,b,e⟩:=two_sh h1 h2 (by kernel_rfl) hr
 exact⟨⟨a,b⟩,e⟩
theorem plan_in{a:AV}(h:ArgSh Tryz.prog x2q a):∃pa li gap sto l kl,a=.agg [pa,li,I gap,I sto]/\Sl Ps.c pa l/\Sl Lk.c li kl/\l.length<=9223372036854775807:=by
 obtain⟨fs,h1,h2⟩:=fs_of (t:=x2q) (l:=[(x8,0),(xz,1),(x15u,2),(x15u,3)]) (by kernel_rfl)
 obtain⟨q,rfl,hq⟩:=h.struct h1
 obtain⟨hl,hff⟩:=Sh.struct_inv h1 hq
 have hc:Tryz.prog.cellsOf x2q=4:=by kernel_rfl
 have hc1:Tryz.prog.cellsOf x8=1:=by kernel_rfl
 have hc2:Tryz.prog.cellsOf xz=1:=by kernel_rfl
 have hci:Tryz.prog.cellsOf x15u=1:=by kernel_rfl
 rw[hc]at hl
 match q,hl with
 |[x,y,v,w],_=>
  have:∀p∈fs.toList.map (λf=>(f.type,f.offset)),Sh Tryz.prog p.1 (([x,y,v,w].drop p.2).take (Tryz.prog.cellsOf p.1)):=λp hp=>by
   obtain⟨f,hf,rfl⟩:=x1p6.mp hp
   exact hff f hf
  rw[h2]at this
  have a0:=this _ (x1ok ..)
  have a1:=this (xz,1) (by simp)
  have a2:=this (x15u,2) (by simp)
  have a3:=this (x15u,3) (by simp)
  simp only[hc1,hc2,hci,x1oh,x1rh,x1qd,x1qy]at a0 a1 a2 a3
  obtain⟨l,g1,g2⟩:=sl_shL (e:=x22) (by kernel_rfl) (λr hl hr=>pass_sh hl hr) a0
  obtain⟨kl,g3⟩:=sl_sh (e:=x2r) (by kernel_rfl) (λr hl hr=>link_sh hl hr) a1
  obtain⟨gap,e1⟩:=x192 a2
  obtain⟨sto,e2⟩:=x192 a3
  simp at e1 e2
  subst e1 e2
  exact⟨x,y,gap,sto,l,kl,rfl,g1,g3,g2⟩
end Go.Proofs.YtaoalekmhjclnaaGreatDoor
set_option linter.unusedSimpArgs false
namespace Go.Ix
open Go.Proofs
theorem x1bi:x2i=[nilS,nilS,I 0,I 0]:=by kernel_rfl
theorem x1aq(d:Nat){pa li:AV}{gap sto:Int}{l:List Ps}{kl:List Lk}(h:Sl Ps.c pa l)(h2:Sl Lk.c li kl)(hn:∀x∈l,x.nm.size<=1000)(m:Mem) :
 x15e (x15i (d+5)) xw [.agg [pa,li,I gap,I sto]] m=some (.tup [.agg [pa,li,I gap,I sto],I (planM l kl gap sto).2],m):=by
 obtain⟨m',h'⟩:∃m',x15i (d+5) [] xw [.agg [pa,li,I gap,I sto]] mem0=some (.tup [.agg [pa,li,I gap,I sto],I (planM l kl gap sto).2],m'):=by
  rw[xyb]
  unfold x9m x8e
  simp only[mem0,x17f,x17l,x1oc,x1ox,h.one,h2.one,x17m,x1ou,x1oo,x16o,x19j,x1bi]
  have eb:x15o [nilS,nilS,I 0,I 0] [(0,4,.agg [pa,li,I gap,I sto])]=some (.agg [pa,li,I gap,I sto]):=by simp[x15o,x182,h.one,h2.one]
  have ep:∀(id:Id) (m:Mem),sLdP true 4 (.ptr id 0 0) m=sLd true 4 (.ptr id 0 0) m:=λ_ _=>rfl
  simp[x1i2 d (gap:=gap) (sto:=sto) h h2 hn,h.one,h2.one,eb,ep]
 exact call0_tup (by simp[h.still1,h2.still1]) h' (by simp[h.still1,h2.still1])
def ahM(gap fr:Int):List Ps->Nat
 |[]=>0
 |x::r=>bif decide (x.to+gap<=fr)then ahM gap fr r+1 else 0
theorem l_ahead(call:x15d)(hs:FHs)(u:Nat){pa li:AV}{gap sto:Int}{l:List Ps}(h:Sl Ps.c pa l)(hl:l.length<=1000){i:Nat}(hi:i<l.length)(hg1:0<=gap/\gap<=1000000)(hto:∀x∈l,0<=x.to/\x.to<=1000000000){id:Id} :
 ∀(suf:List Ps) (k j:Nat) (m:Mem) (fc:Nat),l.drop k=suf->suf.length<j->m.get id=some (.row [pa,li,I gap,I sto] 0 false) ->
 x2n call hs u j (I i) (.ptr id 0 0) (I k) m fc=some (I ((k+ahM gap l[i].fr suf:Nat)),m):=by
 intro suf
 have ixi:=h.ix Ps.len hi
 have fai:sFA 1 (.plit ((l.drop i).flatMap Ps.c))=some (.plit ((l.drop i).flatMap Ps.c).tail):=by rw[<-x1qz];rfl
 have ldi:∀m,sLd false 1 (.plit ((l.drop i).flatMap Ps.c).tail) m=some (I l[i].fr):=λm=>by
  rw[x16e hi,x1o5];rfl
 induction suf with
 |nil=>
  intro k j m fc hd hj hm
  obtain⟨j,rfl⟩:∃i,j=i+1:=⟨j-1,by simp at hj;omega⟩
  have hk:¬((k:Int)<(l.length:Int)):=by have:=x1oi.mp hd;omega
  simp only[x2n]
  unfold x8l x8k
  simp[hm,h.len x16n,hk,ahM]
 |cons e r ih=>
  intro k j m fc hd hj hm
  obtain⟨j,rfl⟩:∃i,j=i+1:=⟨j-1,by simp at hj;omega⟩
  obtain⟨hk,he,hd⟩:=x16s hd
  have hk':(k:Int)<(l.length:Int):=by omega
  have ix:=h.ix Ps.len hk
  have fa:sFA 2 (.plit ((l.drop k).flatMap Ps.c))=some (.plit (((l.drop k).flatMap Ps.c).drop 2)):=rfl
  have ld:∀m,sLd false 1 (.plit (((l.drop k).flatMap Ps.c).drop 2)) m=some (I e.to):=λm=>by
   rw[x16e hk,x1o5,he];rfl
  have hb:=hto e (he▸x1od hk)
  have hw:w64 (e.to+gap)=e.to+gap:=x15x (by omega) (by omega)
  have hw1:w64 ((k:Int)+1)=(k:Int)+1:=x15x (by omega) (by omega)
  simp only[x2n]
  unfold x8l x8k
  by_cases hc:e.to+gap<=l[i].fr
  .have:=ih (k+1) j m (fc+30) hd (by simp at hj;omega) hm
   simp[hm,h.len x16n,hk,ix,fa,ld,ixi,fai,ldi,hw,hc,hw1,ahM]
   rw[show((k:Int)+((ahM gap l[i].fr r:Nat)+1))=(((k+1)+ahM gap l[i].fr r:Nat):Int) by omega]
   exact this
  .simp[hm,h.len x16n,hk,ix,fa,ld,ixi,fai,ldi,hw,hc,ahM]
theorem x1cg(d:Nat){pa li:AV}{gap sto:Int}{l:List Ps}{kl:List Lk}(h:Sl Ps.c pa l)(h2:Sl Lk.c li kl)(hl:l.length<=1000){i:Nat}(hi:i<l.length)(hg1:0<=gap/\gap<=1000000)(hto:∀x∈l,0<=x.to/\x.to<=1000000000)(m:Mem) :
 x15e (x15i (d+1)) xn [.agg [pa,li,I gap,I sto],I i] m=some (I (ahM gap l[i].fr l:Nat),m):=by
 obtain⟨m',h'⟩:∃m',x15i (d+1) [] xn [.agg [pa,li,I gap,I sto],I i] mem0=some (I (ahM gap l[i].fr l:Nat),m'):=by
  rw[xyf]
  unfold x9p x8m
  simp only[mem0,x17f,x17l,x1oc,x1ox,h.one,h2.one,x17m,x1ou,x1oo,x16o]
  generalize hm0:Mem.new _ _ _=m0
  have hg:m0.get (0,0,2)=some (.row [pa,li,I gap,I sto] 0 false):=by rw[<-hm0,Mem.get_new_same]
  have:=l_ahead (x15i d) [] 0 (li:=li) (sto:=sto) h hl hi hg1 hto l 0 NN m0 3 rfl (by rw[x16v];omega) hg
  rw[x1pd]at this
  exact⟨_,this⟩
 exact call0 (by simp[h.still1,h2.still1]) h' rfl
def psAt(l:List Ps)(i:Int):Ps:=(l[i.toNat]?).getD ⟨⟨#[]⟩,0,0,0,0⟩
theorem x16w{l:List Ps}{k:Nat}(h:k<l.length):psAt l (k:Int)=l[k]:=by simp[psAt,h]
def ckM(l:List Ps)(gap:Int):Option Int->Int->List Int->Int×Int
 |_,v,[]=>(v,0)
 |p,v,i::r=>
  bif !wi i 0 ((l.length:Int)-1)then(0,6)
  else bif(match p with|some q=>decide (i<=q)|none=>false)then(0,9)
  else bif(match p with|some q=>decide ((ahM gap (psAt l i).fr l:Int)<=q)|none=>false)then(0,13)
  else ckM l gap (some i) (v+(psAt l i).va) r
theorem l_check(d:Nat)(hs:FHs)(u:Nat){pa li sa:AV}{gap sto:Int}{l:List Ps}{kl:List Lk}{s:List Int}(h:Sl Ps.c pa l)(h2:Sl Lk.c li kl)(h3:Ints sa s)(hl:l.length<=1000)(hsl:s.length<=1000)(hg1:0<=gap/\gap<=1000000)(hto:∀x∈l,0<=x.to/\x.to<=1000000000)(hva:∀x∈l,0<=x.va/\x.va<=1000000){id:Id} :
 ∀(suf:List Int) (k j:Nat) (v:Int) (m:Mem) (fc:Nat),s.drop k=suf->suf.length<j->0<=v->v<=1000000*k->m.get id=some (.row [pa,li,I gap,I sto] 0 false) ->
 ∃m',x1v (x15i (d+1)) hs u j sa (.ptr id 0 0) (I v) sa (I s.length) (I k) m fc=some (.tup [I (ckM l gap ((s.take k).getLast?) v suf).1,I (ckM l gap ((s.take k).getLast?) v suf).2],m'):=by
 intro suf
 induction suf with
 |nil=>
  intro k j v m fc hd hj hv0 hv1 hm
  obtain⟨j,rfl⟩:∃i,j=i+1:=⟨j-1,by simp at hj;omega⟩
  have hk:¬((k:Int)<(s.length:Int)):=by have:=x1oi.mp hd;omega
  simp only[x1v]
  unfold x8f xb8
  simp[hk,ckM]
 |cons e r ih=>
  intro k j v m fc hd hj hv0 hv1 hm
  obtain⟨j,rfl⟩:∃i,j=i+1:=⟨j-1,by simp at hj;omega⟩
  obtain⟨hk,he,hd1⟩:=x16s hd
  have hk':(k:Int)<(s.length:Int):=by omega
  have ix:=h3.ix x16u hk
  have ld:∀m,sLd false 1 (.plit ((s.drop k).flatMap intE)) m=some (I e):=λm=>by
   rw[x16e hk,x1o5,he];rfl
  have hwl:w64 ((l.length:Int)-1)=(l.length:Int)-1:=x15x (by omega) (by omega)
  simp only[x1v]
  unfold x8f
  simp only[x171,hk',x1p4,x184,x162,ix,ld]
  simp[hm,h.len x16n,hwl,x1cf,ckM]
  cases hw:wi e 0 ((l.length:Int)-1)with
  |false=>simp
  |true=>
  have hin:0<=e/\e<l.length:=by
   simp only[wi,x1o1,x1oy]at hw;omega
  obtain⟨i,rfl⟩:∃i:Nat,e=i:=⟨e.toNat,by omega⟩
  have hi:i<l.length:=by omega
  have ixi:=h.ix Ps.len hi
  have fai:sFA 3 (.plit ((l.drop i).flatMap Ps.c))=some (.plit (((l.drop i).flatMap Ps.c).drop 3)):=rfl
  have ldi:∀m,sLd false 1 (.plit (((l.drop i).flatMap Ps.c).drop 3)) m=some (I l[i].va):=λm=>by
   rw[x16e hi,x1o5];rfl
  have hvi:=hva l[i] (x1od hi)
  have hwv:w64 (v+l[i].va)=v+l[i].va:=x15x (by omega) (by omega)
  have hwk:w64 ((k:Int)+1)=(k:Int)+1:=x15x (by omega) (by omega)
  have next:∀m fc,m.get id=some (.row [pa,li,I gap,I sto] 0 false)->∃m',x1v (x15i (d+1)) hs u j sa (.ptr id 0 0) (I (v+l[i].va)) sa (I s.length) (I ((k:Int)+1)) m fc=some (.tup [I (ckM l gap (some (i:Int)) (v+l[i].va) r).1,I (ckM l gap (some (i:Int)) (v+l[i].va) r).2],m'):=λm fc hm=>by
   have:=ih (k+1) j (v+l[i].va) m fc hd1 (by simp at hj;omega) (by omega) (by omega) hm
   rw[x195 hk,he]at this
   exact this
  have hah:=x1cg d (sto:=sto) (gap:=gap) h h2 hl hi hg1 hto
  rcases k with _|k
  .simp[hm,ixi,fai,ldi,hwv,x16w hi]
   obtain⟨m',h'⟩:=next m (fc+53) hm
   exact⟨m',by simpa using h'⟩
  .have hk1:k<s.length:=by omega
   have ix1:=h3.ix x16u hk1
   have ld1:∀m,sLd false 1 (.plit ((s.drop k).flatMap intE)) m=some (I s[k]):=λm=>by
    rw[x16e hk1,x1o5];rfl
   have hs1:w64 (k:Int)=k:=x15x (by omega) (by omega)
   have hs2:w64 ((k:Int)+1+1)=(k:Int)+1+1:=x15x (by omega) (by omega)
   have hlast:=x195 hk1
   by_cases ho:(i:Int)<=s[k]
   .simp[hs1,ix1,ld1,hlast,ho]
   .by_cases hc:(ahM gap l[i].fr l:Int)<=s[k]
    .simp[hs1,ix1,ld1,hlast,ho,hm,hah,hc,x16w hi,h.one,h2.one,h.clean1,h2.clean1,cAp,tR]
    .simp[hs1,ix1,ld1,hlast,ho,hm,hah,hc,x16w hi,h.one,h2.one,ixi,fai,ldi,hwv,h.clean1,h2.clean1,cAp,tR]
     obtain⟨m',h'⟩:=next m (fc+53) hm
     exact⟨m',by rw[hs2];simpa using h'⟩
theorem w_check(d:Nat){pa li sa:AV}{gap sto:Int}{l:List Ps}{kl:List Lk}{s:List Int}(h:Sl Ps.c pa l)(h2:Sl Lk.c li kl)(h3:Ints sa s)(hl:l.length<=1000)(hsl:s.length<=1000)(hg1:0<=gap/\gap<=1000000)(hto:∀x∈l,0<=x.to/\x.to<=1000000000)(hva:∀x∈l,0<=x.va/\x.va<=1000000)(m:Mem) :
 x15e (x15i (d+2)) x1e [.agg [pa,li,I gap,I sto],sa] m=some (.tup [I (ckM l gap none 0 s).1,I (ckM l gap none 0 s).2],m):=by
 obtain⟨m',h'⟩:∃m',x15i (d+2) [] x1e [.agg [pa,li,I gap,I sto],sa] mem0=some (.tup [I (ckM l gap none 0 s).1,I (ckM l gap none 0 s).2],m'):=by
  rw[xyc]
  unfold x9n x8g xb9
  simp only[mem0,x17f,x17l,x1oc,x1ox,h.one,h2.one,x17m,x1ou,x1oo,x16o,h3.len x17v,x162]
  generalize hm0:Mem.new _ _ _=m0
  have hg:m0.get (0,0,2)=some (.row [pa,li,I gap,I sto] 0 false):=by rw[<-hm0,Mem.get_new_same]
  obtain⟨m',h'⟩:=l_check d [] 0 (sto:=sto) h h2 h3 hl hsl hg1 hto hva s 0 NN 0 m0 7 rfl (by rw[x16v];omega) (by omega) (by omega) hg
  exact⟨m',h'⟩
 exact call0_tup (by simp[h.still1,h2.still1,h3.still]) h' rfl
structure RPlan (l:List Ps) (kl:List Lk) (gap sto:Int):Prop where
 ok:(planM l kl gap sto).2=0
 len:l.length<=40
 klen:kl.length<=20
 gap0:0<=gap/\gap<=1000000
 sto0:0<=sto/\sto<=1000000
 ps:∀(k:Nat) (h:k<l.length),pwErr (l.take k) l[k]=0
 ls:∀(k:Nat) (h:k<kl.length),lkBad (kl.take k) kl[k]=0
theorem x1gh{l:List Ps}{res:Int×Int}:∀(suf:List Ps) (k:Nat),l.drop k=suf->(x17g res l k suf).2=0->res.2=0/\∀(i:Nat) (h:i<l.length),k<=i->pwErr (l.take i) l[i]=0
 |[],k,hd,h=>⟨h,λi hi hk=>by have:=x1oi.mp hd;omega⟩
 |e::r,k,hd,h=>by
  obtain⟨hk,he,hd1⟩:=x16s hd
  by_cases hz:pwErr (l.take k) e=0
  .rw[x1bg hz]at h
   obtain⟨h1,h2⟩:=x1gh r (k+1) hd1 h
   refine⟨h1,λi hi hki=>?_⟩
   rcases Nat.lt_or_eq_of_le hki with h3|rfl
   .exact h2 i hi h3
   .rw[he];exact hz
  .rw[x17h rfl hz]at h
   exact absurd h hz
theorem x1gi{l:List Lk}{res:Int×Int}:∀(suf:List Lk) (k:Nat),l.drop k=suf->(x173 res l k suf).2=0->res.2=0/\∀(i:Nat) (h:i<l.length),k<=i->lkBad (l.take i) l[i]=0
 |[],k,hd,h=>⟨h,λi hi hk=>by have:=x1oi.mp hd;omega⟩
 |e::r,k,hd,h=>by
  obtain⟨hk,he,hd1⟩:=x16s hd
  by_cases hz:lkBad (l.take k) e=0
  .rw[x1bh hz]at h
   obtain⟨h1,h2⟩:=x1gi r (k+1) hd1 h
   refine⟨h1,λi hi hki=>?_⟩
   rcases Nat.lt_or_eq_of_le hki with h3|rfl
   .exact h2 i hi h3
   .rw[he];exact hz
  .rw[x1a9 rfl hz]at h
   exact absurd h hz
theorem x1dy{l:List Ps}{kl:List Lk}{gap sto:Int}(h:(planM l kl gap sto).2=0):RPlan l kl gap sto:=by
 have h0:=h
 unfold planM at h
 by_cases hl:40<l.length
 .simp[hl]at h
 .simp only[hl,x1oz,x17n]at h
  obtain⟨h1,h2⟩:=x1gh l 0 rfl h
  by_cases hk:20<kl.length
  .simp[hk]at h1
  .simp only[hk,x1oz,x17n]at h1
   obtain⟨h3,h4⟩:=x1gi kl 0 rfl h1
   have h5:(wi gap 0 1000000&&wi sto 0 1000000)=true:=by
    cases hq:wi gap 0 1000000&&wi sto 0 1000000 with
    |true=>rfl
    |false=>rw[hq]at h3;simp at h3
   simp only[wi,x1o1,x1oy]at h5
   exact⟨h0,by omega,by omega,by omega,by omega,λk hk=>h2 k hk (by omega),λk hk=>h4 k hk (by omega)⟩
theorem pw_ok{l:List Ps}{x:Ps}(h:pwErr l x=0):(0<=x.fr/\x.fr<=1000000000)/\(0<=x.to/\x.to<=1000000000)/\(0<=x.va/\x.va<=1000000)/\(0<=x.da/\x.da<=1000000)/\x.fr<x.to/\∀y,l.getLast?=some y->y.to<=x.to:=by
 unfold pwErr at h
 by_cases hq:x193 x.nm (l.map Ps.nm)=0
 .rw[hq]at h
  simp only[ne_eq,not_true,x1oz,x17n,pw2]at h
  cases h1:wi x.fr 0 1000000000<;>cases h2:wi x.to 0 1000000000<;>cases h3:wi x.va 0 1000000<;>cases h4:wi x.da 0 1000000<;>simp[h1,h2,h3,h4]at h
  by_cases hb:x.to<=x.fr
  .simp[hb]at h
  .simp only[hb,x1oz,x17n]at h
   simp only[wi,x1o1,x1oy]at h1 h2 h3 h4
   refine⟨by omega,by omega,by omega,by omega,by omega,λy hy=>?_⟩
   rw[hy]at h
   by_cases hz:x.to<y.to
   .simp[hz]at h
   .omega
 .simp[hq]at h
theorem RPlan.at{l:List Ps}{kl:List Lk}{gap sto:Int}(R:RPlan l kl gap sto){x:Ps}(hx:x∈l):(0<=x.fr/\x.fr<=1000000000)/\(0<=x.to/\x.to<=1000000000)/\(0<=x.va/\x.va<=1000000)/\(0<=x.da/\x.da<=1000000)/\x.fr<x.to:=by
 obtain⟨k,hk,rfl⟩:=List.getElem_of_mem hx
 have:=pw_ok (R.ps k hk)
 exact⟨this.1,this.2.1,this.2.2.1,this.2.2.2.1,this.2.2.2.2.1⟩
theorem RPlan.mono1{l:List Ps}{kl:List Lk}{gap sto:Int}(R:RPlan l kl gap sto){k:Nat}(hk:k+1<l.length):l[k].to<=l[k+1].to:=by
 have:=(pw_ok (R.ps (k+1) hk)).2.2.2.2.2 l[k] (x195 (by omega))
 exact this
def x1aa(l:List Ps)(kl:List Lk)(gap sto:Int)(s:List Int):Int×Int:=bif decide ((planM l kl gap sto).2≠0)then(0,(planM l kl gap sto).2)else ckM l gap none 0 s
theorem x1gj(d:Nat){pa li sa:AV}{gap sto:Int}{l:List Ps}{kl:List Lk}{s:List Int}(h:Sl Ps.c pa l)(h2:Sl Lk.c li kl)(h3:Ints sa s)(hn:∀x∈l,x.nm.size<=1000)(hsl:s.length<=1000)(m:Mem) :
 x15e (x15i (d+6)) xt [.agg [pa,li,I gap,I sto],sa] m=some (.tup [I (x1aa l kl gap sto s).1,I (x1aa l kl gap sto s).2],m):=by
 obtain⟨m',h'⟩:∃m',x15i (d+6) [] xt [.agg [pa,li,I gap,I sto],sa] mem0=some (.tup [I (x1aa l kl gap sto s).1,I (x1aa l kl gap sto s).2],m'):=by
  rw[xxy]
  unfold x9a x7q x1aa
  simp only[mem0,x17f,x17l,x1oc,x1ox,h.one,h2.one,x17m,x1ou,x1oo,x16o,x19j,x1bi]
  by_cases hz:(planM l kl gap sto).2=0
  .have R:=x1dy hz
   have hc:=w_check (d+3) (sto:=sto) h h2 h3 (by have:=R.len;omega) hsl R.gap0 (λx hx=>(R.at hx).2.1) (λx hx=>(R.at hx).2.2.1)
   simp[x1aq d (gap:=gap) (sto:=sto) h h2 hn,h.one,h2.one,hz,hc]
  .simp[x1aq d (gap:=gap) (sto:=sto) h h2 hn,h.one,h2.one,hz]
 exact call0_tup (by simp[h.still1,h2.still1,h3.still]) h' rfl
end Go.Ix
