import Derived.Test.YtaoalekmhjclnaaGreatDoorWg10
import Derived.Test.YtaoalekmhjclnaaGreatDoorWg9
import Derived.Test.YtaoalekmhjclnaaGreatDoorWg0
import Derived.ProofKit
import Derived.Test.YtaoalekmhjclnaaGreatDoorW10Ref3
set_option linter.unusedSimpArgs false
set_option linter.unusedVariables false
namespace Go.Ix
open Go.Proofs
theorem x1i9(l:List Int)(k:Nat)(x:Int)(h:k<l.length):x166 (l.flatMap intE) k [I x]=(l.set k x).flatMap intE:=by
 rw[x19l,x19l]
 unfold x166
 rw[List.map_set,x1rk,x1nx (by simpa using h)]
 rfl
theorem st_int{m:Mem}{id:Id}{ver:Nat}{l:List Int}{k:Nat}{x:Int}(hg:m.get id=some (.row (l.flatMap intE) ver false))(hk:k<l.length){R:Type}(q:Mem->Option R) :
 sSt 1 (.ptr id ver k) (I x) m q=q (m.set id (.row ((l.set k x).flatMap intE) ver false)):=by
 rw[sSt_ptr,hg]
 have e:x1ao 1 ver k (I x) (some (Ob.row (l.flatMap intE) ver false))=some (.row ((l.set k x).flatMap intE) ver false):=by
  have hd:decide (ver=ver/\(I x).cells.length=1/\k+1<=(l.flatMap intE).length/\((I x).cells.all AV.one)=true)=true:=x1ow ⟨rfl,rfl,by rw[x1gm];omega,rfl⟩
  show(bif decide (ver=ver/\(I x).cells.length=1/\k+1<=(l.flatMap intE).length/\((I x).cells.all AV.one)=true)then some (Ob.row (x166 (l.flatMap intE) k (I x).cells) ver false)else none)=_
  rw[hd,<-x1i9 l k x hk]
  rfl
 rw[e]
 rfl
theorem l_rev(call:x15d)(hs:FHs)(u:Nat){id:Id}{ver n:Nat}{l:List Int}(hn:l.length=n)(hn2:n<=1000000) :
 ∀(g i J:Nat) (c:List Int) (m:Mem) (fc:Nat),n<=2*i+g->g<J->2*i<=n+1->c.length=n->(∀t,t<n->at0 c t=if t<i\/n-1-t<i then at0 l (n-1-t)else at0 l t) ->
 m.get id=some (.row (c.flatMap intE) ver false) ->
 ∃m',x15 call hs u J (.sref id ver 0 n 1 true) (I (i:Int)) (I ((n:Int)-1-i)) m fc=some (.tup [],m')/\m'.get id=some (.row (l.reverse.flatMap intE) ver false)/\∀j,j≠id->m'.get j=m.get j:=by
 have fin:∀(i J:Nat) (c:List Int) (m:Mem) (fc:Nat),0<J->¬((i:Int)<(n:Int)-1-i)->c.length=n->(∀t,t<n->at0 c t=if t<i\/n-1-t<i then at0 l (n-1-t)else at0 l t) ->
  m.get id=some (.row (c.flatMap intE) ver false) ->
  ∃m',x15 call hs u J (.sref id ver 0 n 1 true) (I (i:Int)) (I ((n:Int)-1-i)) m fc=some (.tup [],m')/\m'.get id=some (.row (l.reverse.flatMap intE) ver false)/\∀j,j≠id->m'.get j=m.get j:=by
  intro i J c m fc hJ hlt hc hat hm
  obtain⟨J,rfl⟩:∃j,J=j+1:=⟨J-1,by omega⟩
  have e:c=l.reverse:=by
   refine List.ext_getElem (by simp[hc,hn]) λt h1 h2=>?_
   have:=hat t (by omega)
   rw[x17u h1]at this
   rw[this,List.getElem_reverse]
   have e1:at0 l (n-1-t)=l[l.length-1-t]:=by rw[x17u (by omega)];simp[hn]
   rw[<-e1]
   split
   .rfl
   .rw[show n-1-t=t by omega]
  simp only[x15]
  unfold x3z
  simp only[x171,hlt,x1oz,x17t,x162]
  exact⟨m,rfl,by rw[hm,e],λj hj=>rfl⟩
 intro g
 induction g with
 |zero=>
  intro i J c m fc hg hJ hi hc hat hm
  exact fin i J c m fc (by omega) (by omega) hc hat hm
 |succ g ih=>
  intro i J c m fc hg hJ hi hc hat hm
  obtain⟨J,rfl⟩:∃j,J=j+1:=⟨J-1,by omega⟩
  by_cases hlt:(i:Int)<(n:Int)-1-i
  .obtain⟨j,hj⟩:∃j:Nat,(n:Int)-1-i=j:=⟨n-1-i,by omega⟩
   have hjn:j=n-1-i:=by omega
   have ixi:sIx 1 (.sref id ver 0 n 1 true) (I (i:Int))=some (.ptr id ver i):=by simp[sIx,asI];omega
   have ixj:sIx 1 (.sref id ver 0 n 1 true) (I (j:Int))=some (.ptr id ver j):=by simp[sIx,asI];omega
   have ld:∀(c:List Int) (m:Mem) (k:Nat),k<c.length->m.get id=some (.row (c.flatMap intE) ver false)->sLd false 1 (.ptr id ver k) m=some (I (at0 c k)):=λc m k hk hg=>by
    rw[x1be,hg]
    simp only[x18q,Nat.beq_refl,cond_true,rd,x1op,x1oa]
    rw[x19l,<-List.map_drop,x16e (by omega),x17u (by omega)]
    rfl
   have h1:(m.set id (.row ((c.set i (at0 c j)).flatMap intE) ver false)).get id=some (.row ((c.set i (at0 c j)).flatMap intE) ver false):=Mem.get_set_same _ _ _
   obtain⟨m',e1,e2,e3⟩:=ih (i+1) J ((c.set i (at0 c j)).set j (at0 c i)) ((m.set id (.row ((c.set i (at0 c j)).flatMap intE) ver false)).set id (.row (((c.set i (at0 c j)).set j (at0 c i)).flatMap intE) ver false)) (fc+25) (by omega) (by omega) (by omega) (by simp[hc]) (λt ht=>by
    rw[at0_set (by simp;omega)]
    by_cases ht1:t=j
    .rw[x1nx ht1,hat i (by omega),x1ny (by omega),x1nx (by omega)]
     congr 1;omega
    .rw[x1ny ht1,at0_set (by omega)]
     by_cases ht2:t=i
     .rw[x1nx ht2,hat j (by omega),x1ny (by omega),x1nx (by omega)]
      congr 1;omega
     .rw[x1ny ht2,hat t ht]
      by_cases h5:t<i\/n-1-t<i
      .rw[x1nx h5,x1nx (by omega)]
      .rw[x1ny h5,x1ny (by omega)]) (Mem.get_set_same _ _ _)
   refine⟨m',?_,e2,λk hk=>?_⟩
   .rw[hj]at hlt ⊢
    simp only[x15]
    unfold x3z
    have hw1:w64 ((i:Int)+1)=((i+1:Nat):Int):=by rw[x15x (by omega) (by omega)];rfl
    have hw2:w64 ((j:Int)-1)=(n:Int)-1-((i+1:Nat):Int):=by rw[x15x (by omega) (by omega)];omega
    simp only[x171,hlt,x1p4,x184,x162,ixj,ixi,ld c m j (by omega) hm,ld c m i (by omega) hm]
    rw[st_int hm (by omega)]
    rw[st_int h1 (by simp;omega)]
    simp only[sAdd_I,x19i,x162,hw1,hw2]
    exact e1
   .rw[e3 k hk,Mem.get_set_ne hk,Mem.get_set_ne hk]
  .exact fin i (J+1) c m fc (by omega) hlt hc hat hm
theorem e_awake10:((x15i 30 [] x23 [] mem0).map (λp=>p.1))=some (B true):=by kernel_rfl
theorem w_awake10(m:Mem):x15e (x15i 30) x23 [] m=some (B true,m):=by
 have h:=e_awake10
 rw[x1o2]at h
 obtain⟨⟨r,m'⟩,h1,rfl⟩:=h
 exact call0 rfl h1 rfl
theorem lbGo_ok{l:List Ps}{gap:Int}{lab:List Int}:∀(suf:List Int) (k:Nat),lab.drop k=suf->(lbGo l gap lab k suf).2=0 ->
 (lbGo l gap lab k suf).1=at0 lab (lab.length-1)-at0 lab 0/\∀i,i<lab.length->k<=i->0<=at0 lab i/\x17a l gap lab (at0 lab i) i=false
 |[],k,hd,h=>⟨rfl,λi hi hk=>by have:=x1oi.mp hd;omega⟩
 |e::r,k,hd,h=>by
  obtain⟨hk,he,hd1⟩:=x16s hd
  have ea:at0 lab k=e:=by rw[x17u hk,he]
  unfold lbGo at h ⊢
  cases hw:wi e 0 1000000000 with
  |false=>rw[hw]at h;exact absurd (show(2:Int)=0 from h) (by decide)
  |true=>
   rw[hw]at h
   simp only[x1pw,x17n]at h ⊢
   cases hl:x17a l gap lab e k with
   |true=>rw[hl]at h;exact absurd (show(22:Int)=0 from h) (by decide)
   |false=>
    rw[hl]at h
    simp only[x17n]at h ⊢
    obtain⟨h1,h2⟩:=lbGo_ok r (k+1) hd1 h
    refine⟨h1,λi hi hki=>?_⟩
    rcases Nat.lt_or_eq_of_le hki with h3|rfl
    .exact h2 i hi h3
    .rw[ea]
     refine⟨?_,hl⟩
     simp only[wi,x1o1,x1oy]at hw
     omega
theorem x1bk{l:List Ps}{gap:Int}{lab:List Int}(h:∀i,i<lab.length->x17a l gap lab (at0 lab i) i=false){i:Nat}:∀{j:Nat},j<lab.length->i<=j->at0 lab i<=at0 lab j
 |0,_,hij=>by
  have:i=0:=by omega
  subst this
  exact x1pj _
 |j+1,hj,hij=>by
  rcases Nat.lt_or_eq_of_le hij with h1|rfl
  .refine Int.le_trans (x1bk h (j:=j) (by omega) (by omega)) ?_
   have:=h (j+1) hj
   simp only[x17a,x1ri,decide_eq_false_iff_not]at this
   omega
  .exact x1pj _
theorem x1e1{l:List Ps}{kl:List Lk}{gap sto:Int}(R:RPlan l kl gap sto){lab:List Int}(hlen:lab.length=l.length+1)(h:∀i,i<lab.length->x17a l gap lab (at0 lab i) i=false) :
 ∀(suf:List Int) (p:Option Int) (v:Int),(match p with|some q=>0<=q/\q<l.length/\v+at0 lab 0<=at0 lab (q.toNat+1)|none=>v<=0)->(ckM l gap p v suf).2=0->(ckM l gap p v suf).1<=at0 lab (lab.length-1)-at0 lab 0
 |[],p,v,hp,h0=>by
  show v<=_
  cases p with
  |none=>
   have:=x1bk h (i:=0) (j:=lab.length-1) (by omega) (by omega)
   have hp:v<=0:=hp
   omega
  |some q=>
   obtain⟨h1,h2,h3⟩:0<=q/\q<l.length/\v+at0 lab 0<=at0 lab (q.toNat+1):=hp
   have:=x1bk h (i:=q.toNat+1) (j:=lab.length-1) (by omega) (by omega)
   omega
 |i::r,p,v,hp,h0=>by
  unfold ckM at h0 ⊢
  cases hw:wi i 0 ((l.length:Int)-1)with
  |false=>rw[hw]at h0;exact absurd (show(6:Int)=0 from h0) (by decide)
  |true=>
  rw[hw]at h0
  simp only[x1pw,x17n]at h0 ⊢
  have hin:0<=i/\i<l.length:=by
   simp only[wi,x1o1,x1oy]at hw;omega
  obtain⟨k,rfl⟩:∃k:Nat,i=k:=⟨i.toNat,by omega⟩
  have hk:k<l.length:=by omega
  rw[x16w hk]at h0 ⊢
  have hlow:=h (k+1) (by omega)
  simp only[x17a,x1ri,decide_eq_false_iff_not,x16w hk]at hlow
  have hale:ahM gap l[k].fr l<=l.length:=ahM_le _ _ _
  cases p with
  |none=>
   simp only[x17n]at h0 ⊢
   have hp:v<=0:=hp
   refine x1e1 R hlen h r (some (k:Int)) (v+l[k].va) ⟨by omega,by omega,?_⟩ h0
   have:=x1bk h (i:=0) (j:=ahM gap l[k].fr l) (by omega) (by omega)
   simp only[x1rg]
   omega
  |some q=>
   obtain⟨h1,h2,h3⟩:0<=q/\q<l.length/\v+at0 lab 0<=at0 lab (q.toNat+1):=hp
   by_cases ho:(k:Int)<=q
   .simp only[ho,x1p4,x16o]at h0;exact absurd (show(9:Int)=0 from h0) (by decide)
   .simp only[ho,x1oz,x17n]at h0 ⊢
    by_cases hc:(ahM gap l[k].fr l:Int)<=q
    .simp only[hc,x1p4,x16o]at h0;exact absurd (show(13:Int)=0 from h0) (by decide)
    .simp only[hc,x1oz,x17n]at h0 ⊢
     refine x1e1 R hlen h r (some (k:Int)) (v+l[k].va) ⟨by omega,by omega,?_⟩ h0
     have:=x1bk h (i:=q.toNat+1) (j:=ahM gap l[k].fr l) (by omega) (by omega)
     simp only[x1rg]
     omega
theorem x1ia{l:List Ps}{kl:List Lk}{gap sto:Int}(R:RPlan l kl gap sto){lab s:List Int}(h:(x17q l gap lab).2=0)(hs:(ckM l gap none 0 s).2=0):(ckM l gap none 0 s).1<=(x17q l gap lab).1:=by
 unfold x17q at h ⊢
 by_cases hq:lab.length=l.length+1
 .simp only[hq,x1p4,x16o]at h ⊢
  obtain⟨h1,h2⟩:=lbGo_ok lab 0 rfl h
  rw[h1]
  exact x1e1 R hq (λi hi=>(h2 i hi (by omega)).2) s none 0 (x1pj _) hs
 .simp only[hq,x1oz,x17n]at h
  exact absurd (show(10:Int)=0 from h) (by decide)
def shM(l:List Ps)(kl:List Lk):Bool:=l.all (λx=>decide (x.nm.size<=20))&&((decide (l.length<=12)||(decide (40<l.length)&&decide (l.length<=42)))&&decide (kl.length<=22))
theorem l_short(call:x15d)(hs:FHs)(u:Nat){pa li:AV}{gap sto:Int}{l:List Ps}{kl:List Lk}(h:Sl Ps.c pa l)(h2:Sl Lk.c li kl)(hl:l.length<=9223372036854775807){id:Id} :
 ∀(suf:List Ps) (k j:Nat) (m:Mem) (fc:Nat),l.drop k=suf->suf.length<j->m.get id=some (.row [pa,li,I gap,I sto] 0 false) ->
 x2g call hs u j (.ptr id 0 0) (I k) m fc=some (B (suf.all (λx=>decide (x.nm.size<=20))&&((decide (l.length<=12)||(decide (40<l.length)&&decide (l.length<=42)))&&decide (kl.length<=22))),m):=by
 intro suf
 induction suf with
 |nil=>
  intro k j m fc hd hj hm
  obtain⟨j,rfl⟩:∃i,j=i+1:=⟨j-1,by simp at hj;omega⟩
  have hk:¬((k:Int)<(l.length:Int)):=by have:=x1oi.mp hd;omega
  simp only[x2g]
  unfold x7i xa5
  have e12:decide ((l.length:Int)<=12)=decide (l.length<=12):=decide_eq_decide.2 (by omega)
  have e40:decide ((40:Int)<(l.length:Int))=decide (40<l.length):=decide_eq_decide.2 (by omega)
  have e42:decide ((l.length:Int)<=42)=decide (l.length<=42):=decide_eq_decide.2 (by omega)
  have e22:decide ((kl.length:Int)<=22)=decide (kl.length<=22):=decide_eq_decide.2 (by omega)
  simp[hm,h.len x16n,hk]
  by_cases a1:l.length<=12
  .have a2:(l.length:Int)<=12:=by omega
   simp[a1,a2,hm,h2.len x194]
   omega
  .have a2:¬((l.length:Int)<=12):=by omega
   simp[a1,a2,hm,h.len x16n]
   by_cases b1:40<l.length
   .have b2:(40:Int)<(l.length:Int):=by omega
    simp[b1,b2,hm,h.len x16n]
    by_cases c1:l.length<=42
    .have c2:(l.length:Int)<=42:=by omega
     simp[c1,c2,hm,h2.len x194]
     omega
    .have c2:¬((l.length:Int)<=42):=by omega
     simp[c1,c2]
   .have b2:¬((40:Int)<(l.length:Int)):=by omega
    simp[b1,b2]
 |cons e r ih=>
  intro k j m fc hd hj hm
  obtain⟨j,rfl⟩:∃i,j=i+1:=⟨j-1,by simp at hj;omega⟩
  obtain⟨hk,he,hd1⟩:=x16s hd
  have hk':(k:Int)<(l.length:Int):=by omega
  have ix:=h.ix Ps.len hk
  have fa0:sFA 0 (.plit ((l.drop k).flatMap Ps.c))=some (.plit ((l.drop k).flatMap Ps.c)):=rfl
  have ld0:∀m,sLd false 1 (.plit ((l.drop k).flatMap Ps.c)) m=some (T e.nm):=λm=>by
   rw[x16e hk,x1o5,he];rfl
  have hw1:w64 ((k:Int)+1)=(k:Int)+1:=x15x (by omega) (by omega)
  have:=ih (k+1) j m (fc+16) hd1 (by simp at hj;omega) hm
  simp only[x2g]
  unfold x7i
  by_cases c:e.nm.size<=20
  .have c2:¬((20:Int)<(e.nm.size:Int)):=by omega
   simp[hm,h.len x16n,hk,ix,fa0,ld0,c,c2,hw1]
   simpa using this
  .have c2:(20:Int)<(e.nm.size:Int):=by omega
   simp[hm,h.len x16n,hk,ix,fa0,ld0,c,c2]
theorem w_short(d:Nat){pa li:AV}{gap sto:Int}{l:List Ps}{kl:List Lk}(h:Sl Ps.c pa l)(h2:Sl Lk.c li kl)(hl:l.length<=9223372036854775807)(m:Mem) :
 x15e (x15i (d+1)) x17 [.agg [pa,li,I gap,I sto]] m=some (B (shM l kl),m):=by
 obtain⟨m',h'⟩:∃m',x15i (d+1) [] x17 [.agg [pa,li,I gap,I sto]] mem0=some (B (shM l kl),m'):=by
  rw[xxv]
  unfold x97 x7j xa6
  simp only[mem0,x17f,x17l,x1oc,x1ox,h.one,h2.one,x17m,x1ou,x1oo,x16o]
  generalize hm0:Mem.new _ _ _=m0
  have hg:m0.get (0,0,1)=some (.row [pa,li,I gap,I sto] 0 false):=by rw[<-hm0,Mem.get_new_same]
  exact⟨_,l_short (x15i d) [] 0 h h2 hl l 0 NN m0 3 rfl (by rw[x16v];omega) hg⟩
 exact call0 (by simp[h.still1,h2.still1]) h' rfl
end Go.Ix
