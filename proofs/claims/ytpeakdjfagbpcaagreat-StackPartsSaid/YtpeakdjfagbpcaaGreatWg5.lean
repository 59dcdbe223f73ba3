import Derived.Test.YtpeakdjfagbpcaaGreatWg3
import Derived.Test.YtpeakdjfagbpcaaGreatWg4
set_option linter.unusedSimpArgs false
set_option linter.unusedVariables false
namespace Go.Ix
open Go.Proofs
theorem Gk.sl1{ok:Id->Prop}{m:Mem}{a:AV}{l:List Int}(h:Gk 1 intE ok m a l)(k:Nat):∃a',Ints a' l/\Go.Ix.frz m.get (k+2) a=some a':=h.frz x2fd x2io
theorem joinM_max{l:List Int}{p:Pq}{k:Nat}(hk:k<l.length):at0 (x2f3 l p) k=if at0 l k=(if at0 l p.b.toNat > at0 l p.a.toNat then at0 l p.b.toNat else at0 l p.a.toNat)then mn (at0 l p.a.toNat) (at0 l p.b.toNat)else at0 l k:=by
 rw[x2ib hk]
 unfold mn
 generalize at0 l k=x
 generalize at0 l p.a.toNat=a
 generalize at0 l p.b.toNat=b
 by_cases h1:x=a<;>by_cases h2:x=b<;>by_cases h3:b > a<;>by_cases h4:b<a<;>simp[h1,h2,h3,h4]<;>omega
def Oth(u:Nat)(m m':Mem):Prop:=∀j:Id,¬j.1=u->m'.get j=m.get j
def okU7(u t:Nat):Id->Prop:=fun id=>id.1=u/\id.2.2=t
theorem l_rjoin1(d u:Nat)(hs:FHs){f s p a:AV}{l:List Int}{q:Pq}(t7:AV)(rec0:AV->AV->AV->AV->Mem->Nat->O2)(Q:O2->Prop)(hl:l.length<=1000){m0:Mem}(hQ:∀m fc,Gk 1 intE (okU7 u 22) m a (x2f3 l q)->m.get (u,0,2)=some (.row [s,p] 0 false)->(m.next=m0.next/\Oth u m0 m)->Q (rec0 f (.ptr (u,0,2) 0 0) a t7 m fc))(t7':AV)(ht:sAdd t7' (I 1)=some t7) :
 ∀(n k:Nat) (x:Unit) (m:Mem) (fc:Nat),k<=l.length->l.length<n+k->(Gk 1 intE (okU7 u 22) m a ((x2f3 l q).take k++l.drop k)/\m.get (u,0,2)=some (.row [s,p] 0 false)/\(m.next=m0.next/\Oth u m0 m)) ->
 Q (x2p (x2ej d) hs u rec0 n f (.ptr (u,0,2) 0 0) a t7' (I (at0 l q.a.toNat)) (I (at0 l q.b.toNat)) (I k) m fc):=by
 have hX:(x2f3 l q).length=l.length:=x2lv l q
 refine x2gf (fun n k _ m fc=>x2p (x2ej d) hs u rec0 n f (.ptr (u,0,2) 0 0) a t7' (I (at0 l q.a.toNat)) (I (at0 l q.b.toNat)) (I k) m fc)
  (fun k _ m=>Gk 1 intE (okU7 u 22) m a ((x2f3 l q).take k++l.drop k)/\m.get (u,0,2)=some (.row [s,p] 0 false)/\(m.next=m0.next/\Oth u m0 m)) Q ?_ ?_
 .rintro n k-m1 fc hk ⟨h1,h2,h3⟩ next
  have hk':(k:Int)<(l.length:Int):=by omega
  have hml:=x2ng (l:=l) (X:=x2f3 l q) hX (k:=k) (by omega)
  have hlen:=h1.len (y:=x0) x2g9
  rw[hml]at hlen
  obtain⟨c,i3,l3,st⟩:=h1.at (k:=(k:Int)) (by omega) (by omega)
  rw[Int.toNat_natCast,mix_at hX hk]at l3
  have hj:=joinM_max (p:=q) hk
  simp only[x2p]
  unfold xd2 xd1 x84
  by_cases c1:at0 l k=(if at0 l q.b.toNat > at0 l q.a.toNat then at0 l q.b.toNat else at0 l q.a.toNat)
  .rw[if_pos c1]at hj
   obtain⟨m2,e1,e2,e3,e4⟩:=st (mn (at0 l q.a.toNat) (at0 l q.b.toNat))
   rw[Int.toNat_natCast,<-hj,mix_set hX hk]at e2
   unfold mn at e1
   simp only[hlen,x2fj,x2h5,hk',decide_true,x2hi,i3,l3,sMax_I,sEq_I,c1,sMin_I,e1]
   simp(disch:=omega) [x2f2]
   exact next () m2 _ ⟨e2,by rw[e4 _ (by unfold okU7;simp)];exact h2,by rw[e3];exact h3.1,fun j hj=>by rw[e4 j (by unfold okU7;exact fun h=>hj h.1)];exact h3.2 j hj⟩
  .rw[if_neg c1]at hj
   simp only[hlen,x2fj,x2h5,hk',decide_true,x2hi,i3,l3,sMax_I,sEq_I,decide_eq_false c1,sCond_f]
   simp(disch:=omega) [x2f2]
   exact next () m1 _ ⟨by rw[<-mix_id hX hk hj];exact h1,h2,h3⟩
 .rintro n-m1 fc ⟨h1,h2,h3⟩
  have hml:=x2ng (l:=l) (X:=x2f3 l q) hX (k:=l.length) (by omega)
  have hlen:=h1.len (y:=x0) x2g9
  rw[hml]at hlen
  rw[List.drop_of_length_le (Nat.le_refl _),List.take_of_length_le (by omega),List.append_nil]at h1
  simp only[x2p]
  unfold xd2 xd
  simp[hlen,ht]
  exact hQ _ _ h1 h2 h3
def uniM(n:Nat)(P:List Pq)(F:List Int):List Int:=joinsM (freshM n) (prs P F)
theorem x2ni{n:Nat}{P:List Pq}{F:List Int}(h:Rng n P F):Lab n (uniM n P F):=(Lab.fresh n).joins fun p hp=>by
 obtain⟨i,hi,rfl⟩:=List.mem_map.mp hp
 exact(h i hi).2
theorem Rng.take{n:Nat}{P:List Pq}{F:List Int}(h:Rng n P F)(k:Nat):Rng n P (F.take k):=fun i hi=>h i (List.mem_of_mem_take hi)
theorem uni_succ{n:Nat}{P:List Pq}{F:List Int}{k:Nat}(hk:k<F.length):uniM n P (F.take (k+1))=x2f3 (uniM n P (F.take k)) (prAt P (at0 F k)):=by
 unfold uniM prs
 rw[List.take_succ_eq_append_getElem hk,List.map_append,x2pn,x2fa hk]
 rfl
theorem g_joined(d:Nat)(hh:FHs){s p f:AV}{l:List Scene}{P:List Pq}{F:List Int}{m0:Mem}(hs:Sl Scene.c s l)(hp:Sl Pq.c p P)(hfl:sLen Tryz.prog x0 f=some (I F.length))(hfr:∀m:Mem,(Oth m0.next m0 m)->∀k,k<F.length->∃q,sIx 1 f (I (k:Int))=some q/\sLd false 1 q m=some (I (at0 F k))/\∀a b:Nat,x2eh (tR q) (some [],some [(m0.next,a,b)])=true)(hR:Rng l.length P F)(hl:l.length<=60)(hF:F.length<=1000) :
 ∃a m',x2ej (d+1) hh x17 [.agg [s,p],f] m0=some (a,m')/\Gk 1 intE (okU7 m0.next 22) m' a (uniM l.length P F)/\(m'.next=m0.next+1/\Oth m0.next m0 m'):=by
 rw[x1ck]
 unfold xf5 xh8 xd5
 obtain⟨u,hu⟩:∃u,m0.next=u:=⟨_,rfl⟩
 simp only[hu]at *
 simp[hs.one,hp.one]
 refine x2gf (N:=l.length) (fun n k a m fc=>x3i (x2ej d) hh u n f (.ptr (u,0,2) 0 0) a (I k) m fc)
  (fun k a m=>m.get (u,0,2)=some (.row [s,p] 0 false)/\Gk 1 intE (okU7 u 22) m a ((freshM l.length).take k)/\(m.next=u+1/\Oth u m0 m))
  (fun r=>∃a m',r=some (a,m')/\Gk 1 intE (okU7 u 22) m' a (uniM l.length P F)/\(m'.next=u+1/\Oth u m0 m')) ?_ ?_ NN 0 nilS _ _ (by omega) (by rw[x2fk];omega)
  ⟨by simp,by simpa using Gk.nil,rfl,fun j hj=>by rw[Mem.get_new,if_neg (by rintro rfl;exact hj rfl)];rfl⟩
 .rintro n k a m fc hk ⟨hg,hG,hn,hj⟩ next
  have hk':(k:Int)<(l.length:Int):=by omega
  have hlt:((freshM l.length).take k).length=k:=by simp[freshM];omega
  obtain⟨a2,m2,e1,e2,-,-,e3,e4⟩:=hG.app (bytes:=8) (id0:=(u,fc+8,22)) x2fd (by omega) ⟨rfl,rfl⟩ (by unfold x2er;omega) (k:Int)
  simp only[x3i]
  unfold xd4
  simp(disch:=omega) [hg,hs.len x2fo,hk',x2ip,x2f2]
  rw[show elems m.get 1 (.slit [I (k:Int)] 1 true)=some (intE (k:Int),1)from rfl,e1]
  exact next a2 m2 _ ⟨by rw[e4 _ (by unfold okU7;simp)];exact hg,by rw[<-x2l3 hk];exact e2,by omega,fun j hj2=>by rw[e4 j (by unfold okU7;exact fun h=>hj2 h.1)];exact hj j hj2⟩
 .rintro n a m fc ⟨hg,hG,hn,hj⟩
  have hk:¬((l.length:Int)<(l.length:Int)):=by omega
  rw[List.take_of_length_le (by simp[freshM])]at hG
  simp only[x3i]
  unfold xd4 x2r
  simp[hg,hs.len x2fo]
  refine x2gf (N:=F.length) (σ:=Unit) (fun n k _ m fc=>x2q (x2ej d) hh u n f (.ptr (u,0,2) 0 0) a (I k) m fc)
   (fun k _ m=>m.get (u,0,2)=some (.row [s,p] 0 false)/\Gk 1 intE (okU7 u 22) m a (uniM l.length P (F.take k))/\(m.next=u+1/\Oth u m0 m))
   (fun r=>∃a m',r=some (a,m')/\Gk 1 intE (okU7 u 22) m' a (uniM l.length P F)/\(m'.next=u+1/\Oth u m0 m')) ?_ ?_ NN 0 () m _ (by omega) (by rw[x2fk];omega) ⟨hg,by simpa[uniM,prs,joinsM]using hG,hn,hj⟩
  .rintro n k-m fc hk ⟨hg,hG,hn,hj⟩ next
   have hk':(k:Int)<(F.length:Int):=by omega
   obtain⟨⟨r0,r1⟩,hq⟩:=hR.get hk
   have hq':=hq
   obtain⟨q0,q1,q2⟩:=hq
   have hL:=(x2ni (hR.take k)).len
   obtain⟨qa,ix,ld,hap⟩:=hfr m hj k hk
   have ip:=hp.ixz Pq.len r0 r1
   have lp:=fun m=>x2i8 (m:=m) (enc:=Pq.c) Pq.len (by omega) (show(at0 F k).toNat<P.length by omega)
   rw[<-prAt_lt (by omega)]at lp
   have hus:=uni_succ (n:=l.length) (P:=P) hk
   generalize uniM l.length P (F.take k)=cur at *
   generalize prAt P (at0 F k)=q at *
   simp only[Pq.c]at lp
   simp only[x2q]
   unfold xd3 x85
   simp[hfl,hk',hg,ix,ld,ip,lp,x2l1,hap]
   simp[tR,x2eh,disj]
   generalize hm1:Mem.set _ _ _=m1
   have g1:m1.get (u,0,2)=some (.row [s,p] 0 false):=by rw[<-hm1];simp[hg]
   have g8:m1.get (u,fc+4+8,8)=some (.row [I q.a,I q.b] 0 false):=by rw[<-hm1];simp
   have hj1:m1.next=u+1/\Oth u m0 m1:=by
    refine⟨by rw[<-hm1];exact hn,fun j hj2=>?_⟩
    rw[<-hm1,Mem.get_set,if_neg (by rintro rfl;exact hj2 rfl),Mem.get_new,if_neg (by rintro rfl;exact hj2 rfl)]
    exact hj j hj2
   have hG1:Gk 1 intE (okU7 u 22) m1 a cur:=hG.frame fun j hj=>by
    obtain⟨h1,h2⟩:=hj
    rw[<-hm1,Mem.get_set,if_neg,Mem.get_new,if_neg]<;>(rintro rfl;simp at h2)
   obtain⟨c1,i1,l1,-⟩:=hG1.at (k:=q.a) (by omega) (by omega)
   obtain⟨c2,i2,l2,-⟩:=hG1.at (k:=q.b) (by omega) (by omega)
   simp[g8,i1,l1,i2,l2]
   refine l_rjoin1 d u hh (f:=f) (s:=s) (p:=p) (a:=a) (l:=cur) (q:=q) (I ((k:Int)+1)) (x2q (x2ej d) hh u n) (fun r=>∃a m',r=some (a,m')/\Gk 1 intE (okU7 u 22) m' a (uniM l.length P F)/\(m'.next=u+1/\Oth u m0 m')) (by omega) (m0:=m1) (fun m fc h1 h2 h3=>?_) (I k) (by simp(disch:=omega) [x2f2]) NN 0 () m1 _ (by omega) (by rw[x2fk];omega) ⟨by simpa using hG1,g1,rfl,fun _ _=>rfl⟩
   exact next () m fc ⟨h2,by rw[hus];exact h1,by rw[h3.1];exact hj1.1,fun j hj2=>by rw[h3.2 j hj2];exact hj1.2 j hj2⟩
  .rintro n-m fc ⟨hg,hG,hn,hj⟩
   have hk:¬((F.length:Int)<(F.length:Int)):=by omega
   rw[List.take_of_length_le (Nat.le_refl _)]at hG
   simp only[x2q]
   unfold xd3 xi
   simp[hfl]
   exact⟨a,m,⟨rfl,rfl⟩,hG,hn,hj⟩
theorem a_joined(d:Nat){s p f:AV}{l:List Scene}{P:List Pq}{F:List Int}(hs:Sl Scene.c s l)(hp:Sl Pq.c p P)(hf:Ints f F)(hR:Rng l.length P F)(hl:l.length<=60)(hF:F.length<=1000) :
 RetF (fun v=>Ints v (uniM l.length P F)) (x2ej (d+1) [] x17 [.agg [s,p],f] mem0):=by
 obtain⟨a,m',h1,h2,-⟩:=g_joined d [] (m0:=mem0) hs hp (hf.len x2g9) (fun m _ k hk=>⟨_,hf.ix x2fd hk,x2i9 hk,fun _ _=>rfl⟩) hR hl hF
 obtain⟨a',h3,h4⟩:=h2.sl1 4
 rw[h1]
 exact RetF.mk h4 h3
theorem x2pz(d:Nat){s p f:AV}{l:List Scene}{P:List Pq}{F:List Int}(hs:Sl Scene.c s l)(hp:Sl Pq.c p P)(hf:Ints f F)(hR:Rng l.length P F)(hl:l.length<=60)(hF:F.length<=1000)(m:Mem) :
 ∃a,Ints a (uniM l.length P F)/\x2eg (x2ej (d+1)) x17 [.agg [s,p],f] m=some (a,m):=
 x2h6 (by simp[hs.still1,hp.still1,hf.still]) (a_joined d hs hp hf hR hl hF) m
structure Right7 (l:List Scene) (P:List Pq):Prop where
 ll:l.length<=60
 ib:InB l
 pl:P.length<=200
 pr:∀p∈P,PqIn l.length p
 nd:P.Nodup
theorem x2q0{n:Int}{P:List Pq}:∀(suf:List Pq) (k:Nat),P.drop k=suf->(x2hk n P k suf).2=0->(∀p∈suf,(0<=p.a/\p.a<p.b)/\p.b<n)/\((P.take k).Nodup->P.Nodup)
 |[],k,hd,_=>⟨fun p hp=>(by cases hp),fun h=>by
  have:P.length<=k:=List.drop_eq_nil_iff.mp hd
  rwa[List.take_of_length_le this]at h⟩
 |x::r,k,hd,h=>by
  obtain⟨hk,he,hd⟩:=x2in hd
  simp only[x2hk]at h
  cases c1:wi x.a 0 (n-1)with
  |false=>simp[c1]at h
  |true=>
   cases c2:wi x.b 0 (n-1)with
   |false=>simp[c1,c2]at h
   |true=>
    by_cases c3:x.b<=x.a
    .simp[c1,c2,c3]at h
    .cases c4:(P.take k).any fun q=>q.same x with
     |true=>simp[c1,c2,c3,c4]at h
     |false=>
      simp[c1,c2,c3,c4]at h
      obtain⟨i1,i2⟩:=x2q0 r (k+1) hd h
      refine⟨fun p hp=>?_,fun hn=>i2 ?_⟩
      .have:=wi_t c1
       have:=wi_t c2
       rcases List.mem_cons.mp hp with rfl|hp
       .omega
       .exact i1 p hp
      .rw[List.take_succ_eq_append_getElem hk,List.nodup_append]
       refine⟨hn,by simp,fun a ha b hb e=>?_⟩
       simp at hb
       rw[List.any_eq_false]at c4
       have:=c4 a ha
       rw[e,hb,he,Pq.same_self]at this
       exact this rfl
theorem x2nj{l:List Scene}{P:List Pq}(h:(net7 l P).2=0):Right7 l P:=by
 unfold net7 at h
 by_cases he:(x2fx l).2=0
 .obtain⟨hl,hb⟩:=x2nc he
  simp[he]at h
  by_cases h2:200<P.length
  .simp[h2]at h
  .simp[h2]at h
   obtain⟨i1,i2⟩:=x2q0 P 0 rfl h
   exact⟨hl,hb,by omega,fun p hp=>by have:=i1 p hp;exact⟨by omega,by omega,by omega⟩,i2 (by simp)⟩
 .simp[he]at h
theorem Right7.at{l:List Scene}{P:List Pq}(h:Right7 l P){i:Int}(hi:0<=i/\i<P.length):PqIn l.length (prAt P i):=x2lx h.pr hi
end Go.Ix
namespace Go.Ix
variable{P:List Pq}{n:Nat}
def PotS(P:List Pq)(F:List Int)(ph φ:Int->Int):Prop:=∀i∈F,φ (prAt P i).b-φ (prAt P i).a=ph i
theorem PotS.step{F:List Int}{ph φ:Int->Int}(h:PotS P F ph φ){x:Sp}(hx:InF F x):x.s*ph x.p=φ (toS P x)-φ (frS P x):=by
 have:=h x.p hx.1
 unfold toS frS
 rcases hx.2 with e|e<;>rw[e]<;>simp<;>omega
open Classical in
structure RSt where
 y:List Sp
 k:List Bool
def byA(l:List Sp)(i:Int):Sp:=l.getD i.toNat ⟨0,0⟩
def boA(l:List Bool)(i:Int):Bool:=l.getD i.toNat false
def rstep(P:List Pq)(st:RSt)(x:Sp):RSt:=if boA st.k (frS P x)&&!(boA st.k (toS P x))then⟨st.y.set (toS P x).toNat x,st.k.set (toS P x).toNat true⟩else st
def Bw(P:List Pq)(F:List Int)(st:RSt)(fr:Int):List Sp->Int->Prop
 |[],v=>boA st.k v=true/\v=fr
 |x::r,v=>boA st.k v=true/\v≠fr/\byA st.y v=x/\toS P x=v/\InF F x/\Bw P F st fr r (frS P x)
theorem Bw.one{F:List Int}{st:RSt}{fr:Int}:∀{r s:List Sp} {v:Int},Bw P F st fr r v->Bw P F st fr s v->r=s
 |[],[],_,_,_=>rfl
 |[],x::s,_,h,k=>absurd h.2 k.2.1
 |x::r,[],_,h,k=>absurd k.2 h.2.1
 |x::r,y::s,v,h,k=>by
  have e:x=y:=h.2.2.1.symm.trans k.2.2.1
  subst e
  rw[Bw.one h.2.2.2.2.2 k.2.2.2.2.2]
theorem Bw.drop{F:List Int}{st:RSt}{fr:Int}:∀{a b:List Sp} {v:Int},Bw P F st fr (a++b) v->∃w,Bw P F st fr b w
 |[],b,v,h=>⟨v,h⟩
 |x::a,b,v,h=>Bw.drop (a:=a) h.2.2.2.2.2
theorem x2q1:∀{w:List Sp} {x:Sp},NB P w->(∀y,w.getLast?=some y->toS P x≠frS P y)->NB P (w++[x])
 |[],_,_,_=>trivial
 |[y],x,_,h=>⟨h y rfl,trivial⟩
 |y::z::r,x,h,hx=>⟨h.1,x2q1 (w:=z::r) h.2 fun q hq=>hx q (by simpa using hq)⟩
theorem Bw.nb{F:List Int}{st:RSt}{fr:Int}:∀{r:List Sp} {v:Int},Bw P F st fr r v->NB P r.reverse
 |[],_,_=>trivial
 |[x],_,_=>trivial
 |x::y::r,v,h=>by
  have h1:=h.2.2.2.2.2
  have ih:=h1.nb
  rw[List.reverse_cons]
  refine x2q1 ih fun z hz e=>?_
  rw[List.reverse_cons]at hz
  simp at hz
  subst hz
  have h2:=h1.2.2.2.2.2
  rw[<-e,h.2.2.2.1]at h2
  have:=congrArg List.length (h2.one h)
  simp only[List.length_cons]at this
  omega
structure RInv7 (n:Nat) (P:List Pq) (F:List Int) (f0:Int) (st:RSt):Prop where
 y:st.y.length=n
 k:st.k.length=n
 fr:boA st.k f0=true
 bw:∀v:Int,0<=v->v<n->boA st.k v=true->∃r,Bw P F st f0 r v
theorem x2l4{l:List Bool}{b v:Int}(h0:0<=b)(hb:b<l.length)(hv:0<=v):boA (l.set b.toNat true) v=if v=b then true else boA l v:=by
 unfold boA
 rw[List.getD_eq_getElem?_getD,List.getD_eq_getElem?_getD,List.getElem?_set]
 by_cases c:v=b
 .rw[if_pos c,c,if_pos rfl,if_pos (by omega)];rfl
 .rw[if_neg c,if_neg (by omega)]
theorem byA_set{l:List Sp}{b v:Int}{x:Sp}(h0:0<=b)(hb:b<l.length)(hv:0<=v):byA (l.set b.toNat x) v=if v=b then x else byA l v:=by
 unfold byA
 rw[List.getD_eq_getElem?_getD,List.getD_eq_getElem?_getD,List.getElem?_set]
 by_cases c:v=b
 .rw[if_pos c,c,if_pos rfl,if_pos (by omega)];rfl
 .rw[if_neg c,if_neg (by omega)]
theorem x2lz(hP:∀p∈P,PqIn n p){F:List Int}(hr:∀i∈F,0<=i/\i<P.length){x:Sp}(hx:InF F x):(0<=frS P x/\frS P x<n)/\0<=toS P x/\toS P x<n:=by
 obtain⟨h0,h1,h2⟩:=x2lx hP (hr x.p hx.1)
 unfold frS toS
 split<;>omega
theorem Bw.set(hP:∀p∈P,PqIn n p){F:List Int}(hr:∀i∈F,0<=i/\i<P.length){st:RSt}{fr b:Int}{x:Sp}(hy:st.y.length=n)(hk:st.k.length=n)(h0:0<=b)(hb:b<n)(hu:boA st.k b=false):∀{r:List Sp} {v:Int},0<=v->Bw P F st fr r v ->
 Bw P F ⟨st.y.set b.toNat x,st.k.set b.toNat true⟩ fr r v
 |[],v,hv,h=>by
  refine⟨?_,h.2⟩
  simp only
  rw[x2l4 h0 (by omega) hv]
  split
  .rfl
  .exact h.1
 |y::r,v,hv,h=>by
  have hne:v≠b:=by rintro rfl;have:=h.1;rw[hu]at this;cases this
  refine⟨?_,h.2.1,?_,h.2.2.2.1,h.2.2.2.2.1,Bw.set hP hr hy hk h0 hb hu (x2lz hP hr h.2.2.2.2.1).1.1 h.2.2.2.2.2⟩
  .simp only
   rw[x2l4 h0 (by omega) hv,if_neg hne];exact h.1
  .simp only
   rw[byA_set h0 (by omega) hv,if_neg hne];exact h.2.2.1
theorem RInv7.step(hP:∀p∈P,PqIn n p){F:List Int}(hr:∀i∈F,0<=i/\i<P.length){fr:Int}(hfr:0<=fr){st:RSt}(h:RInv7 n P F fr st){x:Sp}(hx:InF F x) :
 RInv7 n P F fr (rstep P st x)/\(∀v,0<=v->boA st.k v=true->boA (rstep P st x).k v=true)/\(boA st.k (frS P x)=true->boA (rstep P st x).k (toS P x)=true):=by
 obtain⟨⟨a0,a1⟩,b0,b1⟩:=x2lz hP hr hx
 unfold rstep
 cases ca:boA st.k (frS P x)with
 |false=>simp;exact h
 |true=>
  cases cb:boA st.k (toS P x)with
  |true=>simp;exact⟨h,cb⟩
  |false=>
   simp only[Bool.not_false,Bool.and_self,if_true]
   have hmono:∀v,0<=v->boA st.k v=true->boA (st.k.set (toS P x).toNat true) v=true:=fun v hv hs=>by
    rw[x2l4 b0 (by rw[h.k];exact b1) hv]
    split
    .rfl
    .exact hs
   have hnew:boA (st.k.set (toS P x).toNat true) (toS P x)=true:=by rw[x2l4 b0 (by rw[h.k];exact b1) b0,if_pos rfl]
   refine⟨⟨by simp[h.y],by simp[h.k],hmono fr hfr h.fr,fun v v0 v1 hs=>?_⟩,hmono,fun _=>hnew⟩
   simp only at hs
   rw[x2l4 b0 (by rw[h.k];exact b1) v0]at hs
   by_cases c:v=toS P x
   .obtain⟨r,hb⟩:=h.bw (frS P x) a0 a1 ca
    refine⟨x::r,?_,?_,?_,c.symm,hx,Bw.set hP hr h.y h.k b0 b1 cb a0 hb⟩
    .rw[c];exact hnew
    .intro e;have:=h.fr;rw[<-e,c,cb]at this;cases this
    .simp only
     rw[byA_set b0 (by rw[h.y];exact b1) v0,if_pos c]
   .rw[if_neg c]at hs
    obtain⟨r,hb⟩:=h.bw v v0 v1 hs
    exact⟨r,Bw.set hP hr h.y h.k b0 b1 cb v0 hb⟩
def r0(n:Nat)(fr:Int):RSt:=⟨List.replicate n ⟨0,0⟩,(List.replicate n false).set fr.toNat true⟩
open Go.Proofs
theorem z_graph:x1g=[nilS,nilS]:=by kernel_rfl
end Go.Ix
