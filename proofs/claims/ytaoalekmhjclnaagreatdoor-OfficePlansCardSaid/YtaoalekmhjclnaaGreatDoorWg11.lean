import Derived.Test.YtaoalekmhjclnaaGreatDoorWg6
import Derived.Test.YtaoalekmhjclnaaGreatDoorWg10
set_option linter.unusedSimpArgs false
set_option linter.unusedVariables false
namespace Go.Ix
theorem RE_as{x y:Ev}(h:RE x y)(k:RE y x):False:=by
 unfold RE at *
 omega
theorem RE_one:∀{A B:List Ev},A.Pairwise RE->B.Pairwise RE->A.Perm B->A=B
 |[],B,_,_,h=>by
  rw[List.nil_perm]at h
  exact h.symm
 |x::A,[],_,_,h=>by
  have:=h.length_eq
  simp at this
 |x::A,y::B,hA,hB,h=>by
  rw[x1qo]at hA hB
  have e:x=y:=by
   have h1:x∈y::B:=h.mem_iff.mp (by simp)
   have h2:y∈x::A:=h.mem_iff.mpr (by simp)
   rcases x1qp.mp h1 with h1|h1
   .exact h1
   rcases x1qp.mp h2 with h2|h2
   .exact h2.symm
   exact absurd (hB.1 x h1) λk=>RE_as k (hA.1 y h2)
  subst e
  rw[RE_one hA.2 hB.2 (List.Perm.cons_inv h)]
def mgE:List Ev->List Ev->List Ev
 |P,[]=>P
 |[],k::K=>k::mgE [] K
 |p::P,k::K=>if p.t<=k.t then p::mgE P (k::K)else k::mgE (p::P) K
termination_by P K=>P.length+K.length
theorem x1dr(P:List Ev):mgE P []=P:=by
 cases P<;>rw[mgE]
theorem mgE_ok:∀(n:Nat) (P K:List Ev),P.length+K.length<=n->P.Pairwise RE->K.Pairwise RE->(∀p∈P,∀k∈K,p.ix<k.ix)->(mgE P K).Pairwise RE/\(mgE P K).Perm (P++K):=by
 intro n
 induction n with
 |zero=>
  intro P K h hP hK hx
  have h1:P=[]:=x1rd.mp (by omega)
  have h2:K=[]:=x1rd.mp (by omega)
  subst h1 h2
  rw[x1dr]
  exact⟨hP,by simp⟩
 |succ n ih=>
  intro P K h hP hK hx
  cases K with
  |nil=>
   rw[x1dr]
   exact⟨hP,by simp⟩
  |cons k K=>
   cases P with
   |nil=>
    obtain⟨h1,h2⟩:=ih [] K (by simp at h ⊢;omega) List.Pairwise.nil (x1qo.mp hK).2 (λp hp=>by cases hp)
    rw[mgE]
    refine⟨x1qo.mpr ⟨λy hy=>(x1qo.mp hK).1 y (by simpa using h2.mem_iff.mp hy),h1⟩,?_⟩
    simpa using h2.cons k
   |cons p P=>
    rw[mgE]
    by_cases c:p.t<=k.t
    .rw[x1qb c]
     obtain⟨h1,h2⟩:=ih P (k::K) (by simp at h ⊢;omega) (x1qo.mp hP).2 hK (λq hq k hk=>hx q (by simp[hq]) k hk)
     have hpk:RE p k:=by
      have:=hx p (by simp) k (by simp)
      unfold RE
      omega
     refine⟨x1qo.mpr ⟨λy hy=>?_,h1⟩,by simpa using h2.cons p⟩
     rcases x1rh.mp (h2.mem_iff.mp hy)with hy|hy
     .exact(x1qo.mp hP).1 y hy
     .rcases x1qp.mp hy with rfl|hy
      .exact hpk
      .exact x1ba hpk ((x1qo.mp hK).1 y hy)
    .rw[x1qc c]
     obtain⟨h1,h2⟩:=ih (p::P) K (by simp at h ⊢;omega) hP (x1qo.mp hK).2 (λq hq k hk=>hx q hq k (by simp[hk]))
     have hkp:RE k p:=.inl (by omega)
     refine⟨x1qo.mpr ⟨λy hy=>?_,h1⟩,?_⟩
     .rcases x1rh.mp (h2.mem_iff.mp hy)with hy|hy
      .rcases x1qp.mp hy with rfl|hy
       .exact hkp
       .exact x1ba hkp ((x1qo.mp hP).1 y hy)
      .exact(x1qo.mp hK).1 y hy
     .refine(h2.cons k).trans ?_
      exact(List.perm_middle (l₁:=p::P) (l₂:=K) (a:=k)).symm
def nxE(s d:Int):Int:=if s-d > 0 then s-d else 0
def runE(sto:Int):Int->List Ev->Option (List Int)
 |_,[]=>some []
 |s,e::r=>if e.link=true then(runE sto (nxE s e.data) r).map (nxE s e.data::·)else if s+e.data > sto then none else runE sto (s+e.data) r
def mkE(t:Int)(link:Bool)(data:Int)(ix:Nat):Ev:=if h:0<=t/\t<=1000000000 then⟨t,link,data,ix,h.1,h.2⟩else⟨0,link,data,ix,by omega,by omega⟩
theorem mkE_c{t data:Int}{link:Bool}{ix:Nat}(h:0<=t/\t<=1000000000):(mkE t link data ix).c=[I t,B link,I data]:=by
 unfold mkE
 rw[dif_pos h]
 rfl
theorem x1bq{t data:Int}{link:Bool}{ix:Nat}(h:0<=t/\t<=1000000000):(mkE t link data ix).t=t:=by
 unfold mkE
 rw[dif_pos h]
theorem x19z(t data:Int)(link:Bool)(ix:Nat):(mkE t link data ix).link=link/\(mkE t link data ix).data=data/\(mkE t link data ix).ix=ix:=by
 unfold mkE
 split<;>exact⟨rfl,rfl,rfl⟩
def pasE(l:List Ps):Nat->List Int->List Ev
 |_,[]=>[]
 |k,i::r=>mkE (psAt l i).to false (psAt l i).da k::pasE l (k+1) r
def lnkE:Nat->List Lk->List Ev
 |_,[]=>[]
 |k,x::r=>mkE x.at_ true x.da k::lnkE (k+1) r
theorem x1ep(l:List Ps):∀(s:List Int) (k:Nat),(pasE l k s).length=s.length
 |[],_=>rfl
 |_::r,k=>by simp[pasE,x1ep l r]
theorem x1gb:∀(s:List Lk) (k:Nat),(lnkE k s).length=s.length
 |[],_=>rfl
 |_::r,k=>by simp[lnkE,x1gb r]
theorem x1ds{l:List Ps}{e:Ev}:∀{s:List Int} {k:Nat},e∈pasE l k s->∃(i:Int) (j:Nat),i∈s/\k<=j/\j<k+s.length/\e=mkE (psAt l i).to false (psAt l i).da j
 |[],_,h=>by cases h
 |i::r,k,h=>by
  rcases x1qp.mp h with rfl|h
  .exact⟨i,k,by simp,x1qi _,by simp,rfl⟩
  .obtain⟨i',j,h1,h2,h3,h4⟩:=x1ds h
   exact⟨i',j,by simp[h1],by omega,by simp;omega,h4⟩
theorem x1dt{e:Ev}:∀{s:List Lk} {k:Nat},e∈lnkE k s->∃(x:Lk) (j:Nat),x∈s/\k<=j/\e=mkE x.at_ true x.da j
 |[],_,h=>by cases h
 |i::r,k,h=>by
  rcases x1qp.mp h with rfl|h
  .exact⟨i,k,by simp,x1qi _,rfl⟩
  .obtain⟨i',j,h1,h2,h4⟩:=x1dt h
   exact⟨i',j,by simp[h1],by omega,h4⟩
theorem lk_ok{l:List Lk}{x:Lk}(h:lkBad l x=0):(0<=x.at_/\x.at_<=1000000000)/\(0<=x.da/\x.da<=1000000)/\∀y,l.getLast?=some y->y.at_<x.at_:=by
 unfold lkBad at h
 cases h1:wi x.at_ 0 1000000000<;>cases h2:wi x.da 0 1000000<;>simp[h1,h2]at h
 simp only[wi,x1qg,x1ru]at h1 h2
 refine⟨h1,h2,λy hy=>?_⟩
 rw[hy]at h
 by_cases c:x.at_<=y.at_
 .simp[c]at h
 .omega
variable{l:List Ps}{kl:List Lk}{gap sto:Int}
theorem RPlan.lat(R:RPlan l kl gap sto){x:Lk}(hx:x∈kl):(0<=x.at_/\x.at_<=1000000000)/\(0<=x.da/\x.da<=1000000):=by
 obtain⟨k,hk,rfl⟩:=x1tk hx
 have:=lk_ok (R.ls k hk)
 exact⟨this.1,this.2.1⟩
theorem RPlan.lmono(R:RPlan l kl gap sto){i:Nat}:∀{j:Nat} (hj:j<kl.length) (hij:i<j),(kl[i]'(by omega)).at_<kl[j].at_
 |0,_,h=>by omega
 |j+1,hj,h=>by
  have h1:=(lk_ok (R.ls (j+1) hj)).2.2 kl[j] (x1aw (by omega))
  by_cases c:i=j
  .subst c;exact h1
  .have:=R.lmono (i:=i) (j:=j) (by omega) (by omega)
   omega
theorem x1gc(R:RPlan l kl gap sto):∀(s:List Lk) (k n:Nat),kl.drop n=s->(lnkE k s).Pairwise RE
 |[],_,_,_=>List.Pairwise.nil
 |x::r,k,n,h=>by
  obtain⟨hk,hx,hd⟩:=x18t h
  refine x1qo.mpr ⟨λe he=>?_,x1gc R r (k+1) (n+1) hd⟩
  obtain⟨y,j,h1,h2,rfl⟩:=x1dt he
  obtain⟨q,hq,rfl⟩:=x1tk h1
  have hq':n+1+q<kl.length:=by
   have:=congrArg List.length hd
   simp at this
   omega
  have e1:r[q]=kl[n+1+q]:=by
   have:r[q]?=kl[n+1+q]?:=by rw[<-hd,x1s1]
   rw[x1qw hq,x1qw hq']at this
   exact x1s0 this
  have hb:=(R.lat (x:=x) (hx▸x1ra hk)).1
  have hb2:=(R.lat (x:=r[q]) (by rw[e1];exact x1ra hq')).1
  left
  rw[x1bq hb,x1bq hb2,<-hx,e1]
  exact R.lmono hq' (by omega)
theorem ck_ok{p:Option Int}:∀{s:List Int} {v:Int},(ckM l gap p v s).2=0->(∀i∈s,0<=i/\i<l.length/\∀q,p=some q->q<i)/\s.Pairwise (· < ·):=by
 intro s
 induction s generalizing p with
 |nil=>intro v _;exact⟨λi hi=>by(cases hi),List.Pairwise.nil⟩
 |cons i r ih=>
  intro v h
  unfold ckM at h
  cases h1:wi i 0 ((l.length:Int)-1)
  .simp[h1]at h
  .simp only[h1,x1sh,cond_false]at h
   have hb:0<=i/\i<l.length:=by
    simp only[wi,x1qg,x1ru]at h1
    omega
   have hp:∀q,p=some q->q<i:=λq hq=>by
    subst hq
    by_cases c:i<=q
    .simp[c]at h
    .omega
   have h2:(ckM l gap (some i) (v+(psAt l i).va) r).2=0:=by
    cases p with
    |none=>simpa using h
    |some q=>
     have:=hp q rfl
     have c:¬i<=q:=by omega
     simp only[c,x1qj,cond_false]at h
     by_cases c2:(ahM gap (psAt l i).fr l:Int)<=q
     .simp[c2]at h
     .simpa[c2]using h
   obtain⟨g1,g2⟩:=ih h2
   refine⟨λj hj=>?_,x1qo.mpr ⟨λj hj=>(g1 j hj).2.2 i rfl,g2⟩⟩
   rcases x1qp.mp hj with rfl|hj
   .exact⟨hb.1,hb.2,hp⟩
   .obtain⟨a,b,c⟩:=g1 j hj
    exact⟨a,b,λq hq=>Int.lt_trans (hp q hq) (c i rfl)⟩
theorem RPlan.to(R:RPlan l kl gap sto){i:Int}(h:0<=i/\i<l.length):(0<=(psAt l i).to/\(psAt l i).to<=1000000000)/\(0<=(psAt l i).da/\(psAt l i).da<=1000000):=by
 obtain⟨k,rfl⟩:∃k:Nat,i=k:=⟨i.toNat,by omega⟩
 rw[x1a8 (by omega)]
 have:=R.at (x1ra (show k<l.length by omega))
 exact⟨this.2.1,this.2.2.2.1⟩
theorem x1gd(R:RPlan l kl gap sto):∀(s:List Int) (k:Nat),(∀i∈s,0<=i/\i<l.length)->s.Pairwise (· < ·)->(pasE l k s).Pairwise RE
 |[],_,_,_=>List.Pairwise.nil
 |i::r,k,hb,hp=>by
  refine x1qo.mpr ⟨λe he=>?_,x1gd R r (k+1) (λj hj=>hb j (by simp[hj])) (x1qo.mp hp).2⟩
  obtain⟨i',j,h1,h2,h3,rfl⟩:=x1ds he
  have b1:=hb i (by simp)
  have b2:=hb i' (by simp[h1])
  have t1:=(R.to b1).1
  have t2:=(R.to b2).1
  have hlt:=(x1qo.mp hp).1 i' h1
  unfold RE
  rw[x1bq t1,x1bq t2,(x19z _ _ _ _).2.2,(x19z _ _ _ _).2.2]
  obtain⟨a,rfl⟩:∃k:Nat,i=k:=⟨i.toNat,by omega⟩
  obtain⟨b,rfl⟩:∃k:Nat,i'=k:=⟨i'.toNat,by omega⟩
  rw[x1a8 (by omega),x1a8 (by omega)]
  have:=R.mono (i:=a) (j:=b) (by omega) (by omega)
  omega
theorem pasE_ix:∀(s:List Int) (k:Nat),(pasE l k s).Pairwise IxE
 |[],_=>List.Pairwise.nil
 |i::r,k=>by
  refine x1qo.mpr ⟨λe he=>?_,pasE_ix r (k+1)⟩
  obtain⟨i',j,h1,h2,h3,rfl⟩:=x1ds he
  unfold IxE
  rw[(x19z _ _ _ _).2.2,(x19z _ _ _ _).2.2]
  omega
theorem lnkE_ix:∀(s:List Lk) (k:Nat),(lnkE k s).Pairwise IxE
 |[],_=>List.Pairwise.nil
 |i::r,k=>by
  refine x1qo.mpr ⟨λe he=>?_,lnkE_ix r (k+1)⟩
  obtain⟨i',j,h1,h2,rfl⟩:=x1dt he
  unfold IxE
  rw[(x19z _ _ _ _).2.2,(x19z _ _ _ _).2.2]
  omega
theorem pl_ix(s:List Int):∀p∈pasE l 0 s,∀k∈lnkE s.length kl,p.ix<k.ix:=λp hp k hk=>by
 obtain⟨i',j,h1,h2,h3,rfl⟩:=x1ds hp
 obtain⟨x,j',h1',h2',rfl⟩:=x1dt hk
 rw[(x19z _ _ _ _).2.2,(x19z _ _ _ _).2.2]
 omega
theorem sorted_mg(R:RPlan l kl gap sto){s:List Int}(hs:(ckM l gap none 0 s).2=0){D:List Ev}(hD:D.Pairwise RE)(hP:D.Perm (pasE l 0 s++lnkE s.length kl)):D=mgE (pasE l 0 s) (lnkE s.length kl):=by
 obtain⟨g1,g2⟩:=ck_ok hs
 obtain⟨h1,h2⟩:=mgE_ok _ _ _ (x1qi _) (x1gd R s 0 (λi hi=>⟨(g1 i hi).1,(g1 i hi).2.1⟩) g2) (x1gc R kl s.length 0 rfl) (pl_ix s)
 exact RE_one hD h1 (hP.trans h2.symm)
theorem ev_da(R:RPlan l kl gap sto){s:List Int}(hs:∀i∈s,0<=i/\i<l.length){e:Ev}(he:e∈pasE l 0 s++lnkE s.length kl):0<=e.data/\e.data<=1000000:=by
 rcases x1rh.mp he with he|he
 .obtain⟨i',j,h1,h2,h3,rfl⟩:=x1ds he
  rw[(x19z _ _ _ _).2.1]
  exact(R.to (hs i' h1)).2
 .obtain⟨x,j',h1',h2',rfl⟩:=x1dt he
  rw[(x19z _ _ _ _).2.1]
  exact(R.lat h1').2
open Go.Proofs
theorem l_rcheck(d:Nat)(hs:FHs)(u:Nat){pa li sa:AV}{gap sto:Int}{l:List Ps}{kl:List Lk}{s:List Int}(h:Sl Ps.c pa l)(h3:Ints sa s)(hsl:s.length<=1000)(R:RPlan l kl gap sto){id:Id} :
 ∀(suf:List Int) (k j:Nat) (v:Int) (m:Mem) (fc:Nat),s.drop k=suf->suf.length<j->0<=v->v<=1000000*k->(∀(i:Nat) (hi:i<k),i<s.length->0<=at0 s i/\at0 s i<l.length)->m.get id=some (.row [pa,li,I gap,I sto] 0 false) ->
 ∃m',x1v (x17h (d+1)) hs u j sa (.ptr id 0 0) (I v) (I k) m fc=some (.tup [I (ckM l gap ((s.take k).getLast?) v suf).1,I (ckM l gap ((s.take k).getLast?) v suf).2],m'):=by
 intro suf
 have hl40:=R.len
 induction suf with
 |nil=>
  intro k j v m fc hd hj hv0 hv1 hin hm
  obtain⟨j,rfl⟩:∃i,j=i+1:=⟨j-1,by simp at hj;omega⟩
  have hk:¬((k:Int)<(s.length:Int)):=by have:=x1qx.mp hd;omega
  simp only[x1v]
  unfold x8n xbt
  simp[h3.len x19h,hk,ckM]
 |cons e r ih=>
  intro k j v m fc hd hj hv0 hv1 hin hm
  obtain⟨j,rfl⟩:∃i,j=i+1:=⟨j-1,by simp at hj;omega⟩
  obtain⟨hk,he,hd1⟩:=x18t hd
  have hk':(k:Int)<(s.length:Int):=by omega
  have ix:=h3.ix x19q hk
  have ld:∀m,sLd false 1 (.plit ((s.drop k).flatMap intE)) m=some (I e):=λm=>by
   rw[x18b hk,x1ql,he];rfl
  have hwl:w64 ((l.length:Int)-1)=(l.length:Int)-1:=x17t (by omega) (by omega)
  simp only[x1v]
  unfold x8n
  simp only[h3.len x19h,x17x,hk',x1qk,x184,x17m,ix,ld]
  simp[hm,h.len x198,hwl,x1ah,ckM]
  cases hw:wi e 0 ((l.length:Int)-1)with
  |false=>simp
  |true=>
  have hine:0<=e/\e<l.length:=by
   simp only[wi,x1qg,x1ru]at hw;omega
  obtain⟨i,rfl⟩:∃i:Nat,e=i:=⟨e.toNat,by omega⟩
  have hi:i<l.length:=by omega
  have ixi:=h.ix Ps.len hi
  have fai:sFA 3 (.plit ((l.drop i).flatMap Ps.c))=some (.plit (((l.drop i).flatMap Ps.c).drop 3)):=rfl
  have ldi:∀m,sLd false 1 (.plit (((l.drop i).flatMap Ps.c).drop 3)) m=some (I l[i].va):=λm=>by
   rw[x18b hi,x1ql];rfl
  have faf:sFA 1 (.plit ((l.drop i).flatMap Ps.c))=some (.plit ((l.drop i).flatMap Ps.c).tail):=by rw[<-List.drop_one];rfl
  have ldf:∀m,sLd false 1 (.plit ((l.drop i).flatMap Ps.c).tail) m=some (I l[i].fr):=λm=>by
   rw[x18b hi,x1ql];rfl
  have hvi:=(R.at (x1ra hi)).2.2.1
  have hwv:w64 (v+l[i].va)=v+l[i].va:=x17t (by omega) (by omega)
  have hwk:w64 ((k:Int)+1)=(k:Int)+1:=x17t (by omega) (by omega)
  have ea:at0 s k=i:=by rw[x1cb hk,he]
  have next:∀m fc,m.get id=some (.row [pa,li,I gap,I sto] 0 false)->∃m',x1v (x17h (d+1)) hs u j sa (.ptr id 0 0) (I (v+l[i].va)) (I ((k:Int)+1)) m fc=some (.tup [I (ckM l gap (some (i:Int)) (v+l[i].va) r).1,I (ckM l gap (some (i:Int)) (v+l[i].va) r).2],m'):=λm fc hm=>by
   have:=ih (k+1) j (v+l[i].va) m fc hd1 (by simp at hj;omega) (by omega) (by omega) (λi' hi' hs'=>by
    rcases Nat.lt_or_eq_of_le (Nat.le_of_lt_succ hi')with h4|rfl
    .exact hin i' h4 hs'
    .rw[ea];omega) hm
   rw[x1aw hk,he]at this
   exact this
  rcases k with _|k
  .simp[hm,ix,ld,ixi,fai,ldi,hwv,x1a8 hi]
   obtain⟨m',h'⟩:=next m (fc+70) hm
   have ix0:sIx 1 sa (I 0)=some (.plit ((s.drop 0).flatMap intE)):=ix
   have ld0:∀m,sLd false 1 (.plit ((s.drop 0).flatMap intE)) m=some (I i):=ld
   rw[x1qm]at ix0 ld0
   exact⟨m',by simpa[ix0,ld0,ixi,fai,ldi,hwv]using h'⟩
  .have hk1:k<s.length:=by omega
   have ix1:=h3.ix x19q hk1
   have ld1:∀m,sLd false 1 (.plit ((s.drop k).flatMap intE)) m=some (I s[k]):=λm=>by
    rw[x18b hk1,x1ql];rfl
   have hs1:w64 (k:Int)=k:=x17t (by omega) (by omega)
   have hs2:w64 ((k:Int)+1+1)=(k:Int)+1+1:=x17t (by omega) (by omega)
   have hlast:=x1aw hk1
   have ix':sIx 1 sa (I ((k:Int)+1))=some (.plit ((s.drop (k+1)).flatMap intE)):=ix
   by_cases ho:(i:Int)<=s[k]
   .simp[hm,ix',ld,hs1,ix1,ld1,hlast,ho]
   .have hpr:=hin k (by omega) hk1
    rw[x1cb hk1]at hpr
    obtain⟨q,hq⟩:∃q:Nat,s[k]=q:=⟨s[k].toNat,by omega⟩
    have hql:q<l.length:=by omega
    have ixq:=h.ix Ps.len hql
    have faq:sFA 2 (.plit ((l.drop q).flatMap Ps.c))=some (.plit (((l.drop q).flatMap Ps.c).drop 2)):=rfl
    have ldq:∀m,sLd false 1 (.plit (((l.drop q).flatMap Ps.c).drop 2)) m=some (I l[q].to):=λm=>by
     rw[x18b hql,x1ql];rfl
    have hbq:=(R.at (x1ra hql)).2.1
    have hg:=R.gap0
    have hwq:w64 (l[q].to+gap)=l[q].to+gap:=x17t (by omega) (by omega)
    have hah:=R.ahead hql l[i].fr
    have hqi:¬(i<=q):=by omega
    rw[hq]at ld1 hlast
    by_cases hc:l[i].fr<l[q].to+gap
    .have hc2:=hah.2 hc
     simp[hm,ix',ld,hs1,ix1,ld1,hlast,hqi,hc,hc2,x1a8 hi,ixi,faf,ldf,ixq,faq,ldq,hwq]
    .have hc2:¬(ahM gap l[i].fr l<=q):=λh=>hc (hah.1 h)
     obtain⟨m',h'⟩:=next m (fc+70) hm
     simp[hm,ix',ld,hs1,ix1,ld1,hlast,hqi,hc,hc2,x1a8 hi,ixi,faf,ldf,ixq,faq,ldq,hwq,fai,ldi,hwv]
     exact⟨m',by rw[hs2];simpa using h'⟩
theorem x1kj(d:Nat){pa li sa:AV}{gap sto:Int}{l:List Ps}{kl:List Lk}{s:List Int}(h:Sl Ps.c pa l)(h2:Sl Lk.c li kl)(h3:Ints sa s)(hsl:s.length<=1000)(R:RPlan l kl gap sto)(m:Mem) :
 x17e (x17h (d+2)) x1f [.agg [pa,li,I gap,I sto],sa] m=some (.tup [I (ckM l gap none 0 s).1,I (ckM l gap none 0 s).2],m):=by
 obtain⟨m',h'⟩:∃m',x17h (d+2) [] x1f [.agg [pa,li,I gap,I sto],sa] mem0=some (.tup [I (ckM l gap none 0 s).1,I (ckM l gap none 0 s).2],m'):=by
  rw[xzs]
  unfold xak x8o xbu
  simp only[mem0,x19p,x19v,x1r1,x1rk,h.one,h2.one,x19w,x1re,x1rf,x18l,x17m]
  generalize hm0:Mem.new _ _ _=m0
  have hg:m0.get (0,0,2)=some (.row [pa,li,I gap,I sto] 0 false):=by rw[<-hm0,Mem.get_new_same]
  obtain⟨m',h'⟩:=l_rcheck d [] 0 (li:=li) (sto:=sto) h h3 hsl R s 0 NN 0 m0 5 rfl (by rw[x18k];omega) (by omega) (by omega) (λi hi=>by omega) hg
  exact⟨m',h'⟩
 exact call0_tup (by simp[h.still1,h2.still1,h3.still]) h' rfl
end Go.Ix
