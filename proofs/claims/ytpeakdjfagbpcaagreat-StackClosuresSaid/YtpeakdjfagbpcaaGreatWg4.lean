import Derived.Test.YtpeakdjfagbpcaaGreatWg3
set_option linter.unusedSimpArgs false
set_option linter.unusedVariables false
namespace Go.Ix
open Go.Proofs
theorem Gk.sl1{ok:Id->Prop}{m:Mem}{a:AV}{l:List Int}(h:Gk 1 intE ok m a l)(k:Nat):∃a',Ints a' l/\Go.Ix.frz m.get (k+2) a=some a':=h.frz x14m x195
def okZ(t:Nat):Id->Prop:=fun id=>id.1=0/\id.2.2=t
theorem joinM_max{l:List Int}{p:Pq}{k:Nat}(hk:k<l.length):at0 (x140 l p) k=if at0 l k=(if at0 l p.b.toNat > at0 l p.a.toNat then at0 l p.b.toNat else at0 l p.a.toNat)then mn (at0 l p.a.toNat) (at0 l p.b.toNat)else at0 l k:=by
 rw[x173 hk]
 unfold mn
 generalize at0 l k=x
 generalize at0 l p.a.toNat=a
 generalize at0 l p.b.toNat=b
 by_cases h1:x=a<;>by_cases h2:x=b<;>by_cases h3:b > a<;>by_cases h4:b<a<;>simp[h1,h2,h3,h4]<;>omega
def Oth(u:Nat)(m m':Mem):Prop:=∀j:Id,¬j.1=u->m'.get j=m.get j
def okU7(u t:Nat):Id->Prop:=fun id=>id.1=u/\id.2.2=t
theorem l_rjoin1(d u:Nat)(hs:FHs){f s p a:AV}{l:List Int}{q:Pq}(t7:AV)(rec0:AV->AV->AV->AV->Mem->Nat->O2)(Q:O2->Prop)(hl:l.length<=1000){m0:Mem}(hQ:∀m fc,Gk 1 intE (okU7 u 22) m a (x140 l q)->m.get (u,0,2)=some (.row [s,p] 0 false)->(m.next=m0.next/\Oth u m0 m)->Q (rec0 f (.ptr (u,0,2) 0 0) a t7 m fc))(t7':AV)(ht:sAdd t7' (I 1)=some t7) :
 ∀(n k:Nat) (x:Unit) (m:Mem) (fc:Nat),k<=l.length->l.length<n+k->(Gk 1 intE (okU7 u 22) m a ((x140 l q).take k++l.drop k)/\m.get (u,0,2)=some (.row [s,p] 0 false)/\(m.next=m0.next/\Oth u m0 m)) ->
 Q (x1o (x13e d) hs u rec0 n f (.ptr (u,0,2) 0 0) a t7' (I (at0 l q.a.toNat)) (I (at0 l q.b.toNat)) (I k) m fc):=by
 have hX:(x140 l q).length=l.length:=x1b5 l q
 refine x142 (fun n k _ m fc=>x1o (x13e d) hs u rec0 n f (.ptr (u,0,2) 0 0) a t7' (I (at0 l q.a.toNat)) (I (at0 l q.b.toNat)) (I k) m fc)
  (fun k _ m=>Gk 1 intE (okU7 u 22) m a ((x140 l q).take k++l.drop k)/\m.get (u,0,2)=some (.row [s,p] 0 false)/\(m.next=m0.next/\Oth u m0 m)) Q ?_ ?_
 .rintro n k-m1 fc hk ⟨h1,h2,h3⟩ next
  have hk':(k:Int)<(l.length:Int):=by omega
  have hml:=x1cw (l:=l) (X:=x140 l q) hX (k:=k) (by omega)
  have hlen:=h1.len (y:=x2) x13w
  rw[hml]at hlen
  obtain⟨c,i3,l3,st⟩:=h1.at (k:=(k:Int)) (by omega) (by omega)
  rw[Int.toNat_natCast,mix_at hX hk]at l3
  have hj:=joinM_max (p:=q) hk
  simp only[x1o]
  unfold x7m x7l x5o
  by_cases c1:at0 l k=(if at0 l q.b.toNat > at0 l q.a.toNat then at0 l q.b.toNat else at0 l q.a.toNat)
  .rw[if_pos c1]at hj
   obtain⟨m2,e1,e2,e3,e4⟩:=st (mn (at0 l q.a.toNat) (at0 l q.b.toNat))
   rw[Int.toNat_natCast,<-hj,mix_set hX hk]at e2
   unfold mn at e1
   simp only[hlen,x13n,x14b,hk',decide_true,x14c,i3,l3,sMax_I,sEq_I,c1,sMin_I,e1]
   simp(disch:=omega) [x13j]
   exact next () m2 _ ⟨e2,by rw[e4 _ (by unfold okU7;simp)];exact h2,by rw[e3];exact h3.1,fun j hj=>by rw[e4 j (by unfold okU7;exact fun h=>hj h.1)];exact h3.2 j hj⟩
  .rw[if_neg c1]at hj
   simp only[hlen,x13n,x14b,hk',decide_true,x14c,i3,l3,sMax_I,sEq_I,decide_eq_false c1,x17f]
   simp(disch:=omega) [x13j]
   exact next () m1 _ ⟨by rw[<-mix_id hX hk hj];exact h1,h2,h3⟩
 .rintro n-m1 fc ⟨h1,h2,h3⟩
  have hml:=x1cw (l:=l) (X:=x140 l q) hX (k:=l.length) (by omega)
  have hlen:=h1.len (y:=x2) x13w
  rw[hml]at hlen
  rw[List.drop_of_length_le (Nat.le_refl _),List.take_of_length_le (by omega),List.append_nil]at h1
  simp only[x1o]
  unfold x7m xd
  simp[hlen,ht]
  exact hQ _ _ h1 h2 h3
def uniM(n:Nat)(P:List Pq)(F:List Int):List Int:=joinsM (freshM n) (prs P F)
theorem x1cz{n:Nat}{P:List Pq}{F:List Int}(h:Rng n P F):Lab n (uniM n P F):=(Lab.fresh n).joins fun p hp=>by
 obtain⟨i,hi,rfl⟩:=List.mem_map.mp hp
 exact(h i hi).2
theorem Rng.take{n:Nat}{P:List Pq}{F:List Int}(h:Rng n P F)(k:Nat):Rng n P (F.take k):=fun i hi=>h i (List.mem_of_mem_take hi)
theorem x1fu{n:Nat}{P:List Pq}{F:List Int}{k:Nat}(hk:k<F.length):uniM n P (F.take (k+1))=x140 (uniM n P (F.take k)) (prAt P (at0 F k)):=by
 unfold uniM prs
 rw[List.take_succ_eq_append_getElem hk,List.map_append,joins_app,x13s hk]
 rfl
theorem g_joined(d:Nat)(hh:FHs){s p f:AV}{l:List Scene}{P:List Pq}{F:List Int}{m0:Mem}(hs:Sl Scene.c s l)(hp:Sl Pq.c p P)(hfl:sLen Tryz.prog x2 f=some (I F.length))(hfr:∀m:Mem,(Oth m0.next m0 m)->∀k,k<F.length->∃q,sIx 1 f (I (k:Int))=some q/\sLd false 1 q m=some (I (at0 F k))/\∀a b:Nat,x13i (tR q) (some [],some [(m0.next,a,b)])=true)(hR:Rng l.length P F)(hl:l.length<=60)(hF:F.length<=1000) :
 ∃a m',x13e (d+1) hh x4l [.agg [s,p],f] m0=some (a,m')/\Gk 1 intE (okU7 m0.next 22) m' a (uniM l.length P F)/\(m'.next=m0.next+1/\Oth m0.next m0 m'):=by
 rw[xm7]
 unfold x9r xbq x7p
 obtain⟨u,hu⟩:∃u,m0.next=u:=⟨_,rfl⟩
 simp only[hu]at *
 simp[hs.one,hp.one]
 refine x142 (N:=l.length) (fun n k a m fc=>x2u (x13e d) hh u n f (.ptr (u,0,2) 0 0) a (I k) m fc)
  (fun k a m=>m.get (u,0,2)=some (.row [s,p] 0 false)/\Gk 1 intE (okU7 u 22) m a ((freshM l.length).take k)/\(m.next=u+1/\Oth u m0 m))
  (fun r=>∃a m',r=some (a,m')/\Gk 1 intE (okU7 u 22) m' a (uniM l.length P F)/\(m'.next=u+1/\Oth u m0 m')) ?_ ?_ NN 0 nilS _ _ (by omega) (by rw[x13p];omega)
  ⟨by simp,by simpa using Gk.nil,rfl,fun j hj=>by rw[Mem.get_new,if_neg (by rintro rfl;exact hj rfl)];rfl⟩
 .rintro n k a m fc hk ⟨hg,hG,hn,hj⟩ next
  have hk':(k:Int)<(l.length:Int):=by omega
  have hlt:((freshM l.length).take k).length=k:=by simp[freshM];omega
  obtain⟨a2,m2,e1,e2,-,-,e3,e4⟩:=hG.app (bytes:=8) (id0:=(u,fc+8,22)) x14m (by omega) ⟨rfl,rfl⟩ (by unfold x13o;omega) (k:Int)
  simp only[x2u]
  unfold x7o
  simp(disch:=omega) [hg,hs.len x14p,hk',x17h,x13j]
  rw[show elems m.get 1 (.slit [I (k:Int)] 1 true)=some (intE (k:Int),1)from rfl,e1]
  exact next a2 m2 _ ⟨by rw[e4 _ (by unfold okU7;simp)];exact hg,by rw[<-x18c hk];exact e2,by omega,fun j hj2=>by rw[e4 j (by unfold okU7;exact fun h=>hj2 h.1)];exact hj j hj2⟩
 .rintro n a m fc ⟨hg,hG,hn,hj⟩
  have hk:¬((l.length:Int)<(l.length:Int)):=by omega
  rw[List.take_of_length_le (by simp[freshM])]at hG
  simp only[x2u]
  unfold x7o x1q
  simp[hg,hs.len x14p]
  refine x142 (N:=F.length) (σ:=Unit) (fun n k _ m fc=>x1p (x13e d) hh u n f (.ptr (u,0,2) 0 0) a (I k) m fc)
   (fun k _ m=>m.get (u,0,2)=some (.row [s,p] 0 false)/\Gk 1 intE (okU7 u 22) m a (uniM l.length P (F.take k))/\(m.next=u+1/\Oth u m0 m))
   (fun r=>∃a m',r=some (a,m')/\Gk 1 intE (okU7 u 22) m' a (uniM l.length P F)/\(m'.next=u+1/\Oth u m0 m')) ?_ ?_ NN 0 () m _ (by omega) (by rw[x13p];omega) ⟨hg,by simpa[uniM,prs,joinsM]using hG,hn,hj⟩
  .rintro n k-m fc hk ⟨hg,hG,hn,hj⟩ next
   have hk':(k:Int)<(F.length:Int):=by omega
   obtain⟨⟨r0,r1⟩,hq⟩:=hR.get hk
   have hq':=hq
   obtain⟨q0,q1,q2⟩:=hq
   have hL:=(x1cz (hR.take k)).len
   obtain⟨qa,ix,ld,hap⟩:=hfr m hj k hk
   have ip:=hp.ixz Pq.len r0 r1
   have lp:=fun m=>x14s (m:=m) (enc:=Pq.c) Pq.len (by omega) (show(at0 F k).toNat<P.length by omega)
   rw[<-x18d (by omega)]at lp
   have hus:=x1fu (n:=l.length) (P:=P) hk
   generalize uniM l.length P (F.take k)=cur at *
   generalize prAt P (at0 F k)=q at *
   simp only[Pq.c]at lp
   simp only[x1p]
   unfold x7n x5p
   simp[hfl,hk',hg,ix,ld,ip,lp,x16m,hap]
   simp[tR,x13i,disj]
   generalize hm1:Mem.set _ _ _=m1
   have g1:m1.get (u,0,2)=some (.row [s,p] 0 false):=by rw[<-hm1];simp[hg]
   have g8:m1.get (u,fc+4+8,8)=some (.row [I q.a,I q.b] 0 false):=by rw[<-hm1];simp
   have hj1:m1.next=u+1/\Oth u m0 m1:=by
    refine⟨by rw[<-hm1];exact hn,fun j hj2=>?_⟩
    rw[<-hm1,Mem.get_set,if_neg (by rintro rfl;exact hj2 rfl),Mem.get_new,if_neg (by rintro rfl;exact hj2 rfl)]
    exact hj j hj2
   have hG1:Gk 1 intE (okU7 u 22) m1 a cur:=hG.frame fun j hj=>by
    obtain⟨h1,h2⟩:=hj
    rw[<-hm1,Mem.get_set,if_neg,Mem.get_new,if_neg]<;>(rintro rfl;simp at h2)
   obtain⟨c1,i1,l1,-⟩:=hG1.at (k:=q.a) (by omega) (by omega)
   obtain⟨c2,i2,l2,-⟩:=hG1.at (k:=q.b) (by omega) (by omega)
   simp[g8,i1,l1,i2,l2]
   refine l_rjoin1 d u hh (f:=f) (s:=s) (p:=p) (a:=a) (l:=cur) (q:=q) (I ((k:Int)+1)) (x1p (x13e d) hh u n) (fun r=>∃a m',r=some (a,m')/\Gk 1 intE (okU7 u 22) m' a (uniM l.length P F)/\(m'.next=u+1/\Oth u m0 m')) (by omega) (m0:=m1) (fun m fc h1 h2 h3=>?_) (I k) (by simp(disch:=omega) [x13j]) NN 0 () m1 _ (by omega) (by rw[x13p];omega) ⟨by simpa using hG1,g1,rfl,fun _ _=>rfl⟩
   exact next () m fc ⟨h2,by rw[hus];exact h1,by rw[h3.1];exact hj1.1,fun j hj2=>by rw[h3.2 j hj2];exact hj1.2 j hj2⟩
  .rintro n-m fc ⟨hg,hG,hn,hj⟩
   have hk:¬((F.length:Int)<(F.length:Int)):=by omega
   rw[List.take_of_length_le (Nat.le_refl _)]at hG
   simp only[x1p]
   unfold x7n xg
   simp[hfl]
   exact⟨a,m,⟨rfl,rfl⟩,hG,hn,hj⟩
structure Right7 (l:List Scene) (P:List Pq):Prop where
 ll:l.length<=60
 ib:InB l
 pl:P.length<=200
 pr:∀p∈P,PqIn l.length p
 nd:P.Nodup
theorem x1fv{n:Int}{P:List Pq}:∀(suf:List Pq) (k:Nat),P.drop k=suf->(x16n n P k suf).2=0->(∀p∈suf,(0<=p.a/\p.a<p.b)/\p.b<n)/\((P.take k).Nodup->P.Nodup)
 |[],k,hd,_=>⟨fun p hp=>(by cases hp),fun h=>by
  have:P.length<=k:=List.drop_eq_nil_iff.mp hd
  rwa[List.take_of_length_le this]at h⟩
 |x::r,k,hd,h=>by
  obtain⟨hk,he,hd⟩:=x16z hd
  simp only[x16n]at h
  cases c1:wi x.a 0 (n-1)with
  |false=>simp[c1]at h
  |true=>
   cases c2:wi x.b 0 (n-1)with
   |false=>simp[c1,c2]at h
   |true=>
    by_cases c3:x.b<=x.a
    .simp[c1,c2,c3]at h
    .cases c4:(P.take k).any fun q=>q.same x with
     |true=>simp[c1,c2,c3,c4]at h
     |false=>
      simp[c1,c2,c3,c4]at h
      obtain⟨i1,i2⟩:=x1fv r (k+1) hd h
      refine⟨fun p hp=>?_,fun hn=>i2 ?_⟩
      .have:=wi_t c1
       have:=wi_t c2
       rcases List.mem_cons.mp hp with rfl|hp
       .omega
       .exact i1 p hp
      .rw[List.take_succ_eq_append_getElem hk,List.nodup_append]
       refine⟨hn,by simp,fun a ha b hb e=>?_⟩
       simp at hb
       rw[List.any_eq_false]at c4
       have:=c4 a ha
       rw[e,hb,he,Pq.same_self]at this
       exact this rfl
theorem x1fw{l:List Scene}{P:List Pq}(h:(net7 l P).2=0):Right7 l P:=by
 unfold net7 at h
 by_cases he:(x150 l).2=0
 .obtain⟨hl,hb⟩:=x1co he
  simp[he]at h
  by_cases h2:200<P.length
  .simp[h2]at h
  .simp[h2]at h
   obtain⟨i1,i2⟩:=x1fv P 0 rfl h
   exact⟨hl,hb,by omega,fun p hp=>by have:=i1 p hp;exact⟨by omega,by omega,by omega⟩,i2 (by simp)⟩
 .simp[he]at h
theorem Right7.at{l:List Scene}{P:List Pq}(h:Right7 l P){i:Int}(hi:0<=i/\i<P.length):PqIn l.length (prAt P i):=x18b h.pr hi
end Go.Ix
namespace Go.Ix
variable{P:List Pq}
theorem x1b8{u:List Int}{p:Pq}(h:at0 u p.a.toNat=at0 u p.b.toNat):x140 u p=u:=by
 unfold x140
 conv=>rhs;rw[<-List.map_id u]
 apply List.map_congr_left
 intro x _
 show _=x
 rw[h]
 by_cases c:x=at0 u p.b.toNat
 .rw[if_pos (Or.inl c),c];unfold mn;simp
 .rw[if_neg (by simp[c])]
def takeM(P:List Pq):List Int->List Int->List Int
 |_,[]=>[]
 |u,i::r=>if at0 u (prAt P i).a.toNat=at0 u (prAt P i).b.toNat then takeM P u r else i::takeM P (x140 u (prAt P i)) r
theorem x1b9:∀(l u:List Int),joinsM u (prs P (takeM P u l))=joinsM u (prs P l)
 |[],_=>rfl
 |i::r,u=>by
  rw[takeM]
  by_cases c:at0 u (prAt P i).a.toNat=at0 u (prAt P i).b.toNat
  .rw[if_pos c,x1b9 r u]
   show _=joinsM (x140 u (prAt P i)) (prs P r)
   rw[x1b8 c]
  .rw[if_neg c]
   exact x1b9 r (x140 u (prAt P i))
theorem x1d0:∀(l u:List Int),Indep u (prs P (takeM P u l))
 |[],_=>trivial
 |i::r,u=>by
  rw[takeM]
  by_cases c:at0 u (prAt P i).a.toNat=at0 u (prAt P i).b.toNat
  .rw[if_pos c];exact x1d0 r u
  .rw[if_neg c];exact⟨c,x1d0 r _⟩
theorem x17l:∀(l u:List Int),(takeM P u l).Sublist l
 |[],_=>List.Sublist.slnil
 |i::r,u=>by
  rw[takeM]
  by_cases c:at0 u (prAt P i).a.toNat=at0 u (prAt P i).b.toNat
  .rw[if_pos c];exact(x17l r u).cons i
  .rw[if_neg c];exact(x17l r _).cons_cons i
theorem x1d1:∀(l k u:List Int),takeM P u (l++k)=takeM P u l++takeM P (joinsM u (prs P l)) k
 |[],_,_=>rfl
 |i::r,k,u=>by
  rw[List.cons_append,takeM,takeM]
  by_cases c:at0 u (prAt P i).a.toNat=at0 u (prAt P i).b.toNat
  .rw[if_pos c,if_pos c,x1d1 r k u]
   show _=takeM P u r++takeM P (joinsM (x140 u (prAt P i)) (prs P r)) k
   rw[x1b8 c]
  .rw[if_neg c,if_neg c,x1d1 r k _]
   rfl
theorem x1fx(l u:List Int)(i:Int):takeM P u (l++[i])=takeM P u l++(if at0 (joinsM u (prs P l)) (prAt P i).a.toNat=at0 (joinsM u (prs P l)) (prAt P i).b.toNat then[]else[i]):=by
 rw[x1d1]
 congr 1
theorem x1d2{α:Type}{R:α->α->Prop}(hi:∀a,¬R a a)(ha:∀a b,R a b->R b a->False):∀{l k:List α},l.Pairwise R->k.Pairwise R->(∀x,x∈l↔x∈k)->l=k
 |[],[],_,_,_=>rfl
 |[],y::k,_,_,h=>by have:=(h y).mpr (List.mem_cons_self ..);cases this
 |x::l,[],_,_,h=>by have:=(h x).mp (List.mem_cons_self ..);cases this
 |x::l,y::k,h1,h2,h=>by
  rw[List.pairwise_cons]at h1 h2
  have e:x=y:=by
   rcases List.mem_cons.mp ((h x).mp (List.mem_cons_self ..))with e|e
   .exact e
   .rcases List.mem_cons.mp ((h y).mpr (List.mem_cons_self ..))with e2|e2
    .exact e2.symm
    .exact(ha _ _ (h2.1 x e) (h1.1 y e2)).elim
  subst e
  have:=x1d2 hi ha h1.2 h2.2 fun z=>by
   constructor
   .intro hz
    rcases List.mem_cons.mp ((h z).mp (List.mem_cons_of_mem _ hz))with e|e
    .rw[e]at hz;exact(hi _ (h1.1 _ hz)).elim
    .exact e
   .intro hz
    rcases List.mem_cons.mp ((h z).mpr (List.mem_cons_of_mem _ hz))with e|e
    .rw[e]at hz;exact(hi _ (h2.1 _ hz)).elim
    .exact e
  rw[this]
theorem x1fy{α:Type}{R:α->α->Prop}(hi:∀a,¬R a a){l:List α}(h:l.Pairwise R):l.Nodup:=List.Pairwise.imp (S:=fun a b=>a≠b) (fun{a b} hr (e:a=b)=>hi a (by rw[<-e]at hr;exact hr)) h
def lx(f:Int->Int)(i j:Int):Prop:=f i<f j\/(f i=f j/\i<j)
theorem lx_irr{f:Int->Int}(i:Int):¬lx f i i:=by unfold lx;omega
theorem lx_asym{f:Int->Int}(i j:Int)(h:lx f i j)(h2:lx f j i):False:=by unfold lx at *;omega
theorem x1fz{f:Int->Int}{i j k:Int}(h:lx f i j)(h2:lx f j k):lx f i k:=by unfold lx at *;omega
theorem lx_tot{f:Int->Int}{i j:Int}(h:i≠j):lx f i j\/lx f j i:=by unfold lx;omega
def Ordd(f:Int->Int)(N:Nat)(L:List Int):Prop:=L.Pairwise (lx f)/\∀x,x∈L↔(0<=x/\x<N)
theorem Ordd.one{f:Int->Int}{N:Nat}{L K:List Int}(h:Ordd f N L)(k:Ordd f N K):L=K:=x1d2 lx_irr lx_asym h.1 k.1 fun x=>(h.2 x).trans (k.2 x).symm
theorem Ordd.nodup{f:Int->Int}{N:Nat}{L:List Int}(h:Ordd f N L):L.Nodup:=x1fy lx_irr h.1
def Asc(F:List Int):Prop:=F.Pairwise (· < ·)
theorem Asc.one{F G:List Int}(h:Asc F)(k:Asc G)(e:∀x,x∈F↔x∈G):F=G:=x1d2 (fun a=>by omega) (fun a b=>by omega) h k e
theorem Asc.nodup{F:List Int}(h:Asc F):F.Nodup:=x1fy (fun a=>by omega) h
theorem x1g0{l k:List Int}(hl:l.Nodup)(hk:k.Nodup)(h:∀x,x∈l↔x∈k):l.length=k.length:=by
 have:=x1cr hl fun x hx=>(h x).mp hx
 have:=x1cr hk fun x hx=>(h x).mpr hx
 omega
theorem fresh_mem{N:Nat}{x:Int}:x∈freshM N↔(0<=x/\x<N):=by
 unfold freshM
 rw[List.mem_map]
 constructor
 .rintro⟨i,hi,rfl⟩
  have:=List.mem_range.mp hi
  omega
 .rintro⟨h0,h1⟩
  exact⟨x.toNat,List.mem_range.mpr (by omega),by omega⟩
theorem x1d3(N:Nat):Asc (freshM N):=by
 unfold Asc freshM
 rw[List.pairwise_map]
 exact List.pairwise_lt_range.imp fun h=>by omega
theorem Asc.filter{F:List Int}(h:Asc F)(p:Int->Bool):Asc (F.filter p):=List.Pairwise.filter p h
variable{n:Nat}
theorem x1g1{t:List Int}{l:List Pq}(hl:∀p∈l,PqIn n p)(h:∀p∈l,Sm t p.a.toNat p.b.toNat){v w:Nat}(hv:v<n)(hw:w<n)(hs:Sm (joinsM (freshM n) l) v w):Sm t v w:=by
 refine x1cu (R:=Sm t) (fun h=>h.symm) (fun h1 h2=>h1.trans h2) (Lab.fresh n) hl h (fun a b ha hb e=>?_) v w hv hw hs
 unfold Sm at e
 rw[Lab.get_fresh ha,Lab.get_fresh hb]at e
 have:a=b:=by omega
 rw[this];rfl
theorem x1g2{l k:List Pq}(hl:∀p∈l,PqIn n p)(hk:∀p∈k,PqIn n p)(h1:∀p∈l,Sm (joinsM (freshM n) k) p.a.toNat p.b.toNat)(h2:∀p∈k,Sm (joinsM (freshM n) l) p.a.toNat p.b.toNat):joinsM (freshM n) l=joinsM (freshM n) k:=
 ((Lab.fresh n).joins hl).ext ((Lab.fresh n).joins hk) fun v w hv hw=>⟨x1g1 hl h1 hv hw,x1g1 hk h2 hv hw⟩
theorem x1g3{l k:List Pq}(hl:∀p∈l,PqIn n p)(hk:∀p∈k,PqIn n p)(h:∀p,p∈l↔p∈k):joinsM (freshM n) l=joinsM (freshM n) k:=
 x1g2 hl hk (fun p hp=>x199 (Lab.fresh n) hk p ((h p).mp hp)) (fun p hp=>x199 (Lab.fresh n) hl p ((h p).mpr hp))
theorem x1g4:∀{l:List Pq} {u:List Int},Lab n u->(∀p∈l,PqIn n p)->x15x n u<=x15x n (joinsM u l)+l.length
 |[],_,_,_=>Nat.le_refl _
 |p::l,u,h,hp=>by
  have hq:=hp p (List.mem_cons_self ..)
  have ih:=x1g4 (h.join hq) fun q hq=>hp q (List.mem_cons_of_mem _ hq)
  have e:joinsM u (p::l)=joinsM (x140 u p) l:=rfl
  rw[e,List.length_cons]
  by_cases c:Sm u p.a.toNat p.b.toNat
  .rw[x1b8 c]at ih ⊢;omega
  .have:=x1cv h hq c;omega
theorem x1g5:∀{l:List Pq} {u:List Int},Lab n u->(∀p∈l,PqIn n p)->x15x n (joinsM u l)+l.length<=x15x n u->Indep u l
 |[],_,_,_,_=>trivial
 |p::l,u,h,hp,hr=>by
  have hq:=hp p (List.mem_cons_self ..)
  have hl:∀q∈l,PqIn n q:=fun q hq=>hp q (List.mem_cons_of_mem _ hq)
  have e:joinsM u (p::l)=joinsM (x140 u p) l:=rfl
  rw[e,List.length_cons]at hr
  by_cases c:Sm u p.a.toNat p.b.toNat
  .have:=x1g4 (h.join hq) hl
   rw[x1b8 c]at this hr
   omega
  .have:=x1cv h hq c
   exact⟨c,x1g5 (h.join hq) hl (by omega)⟩
theorem For.perm(hP:∀p∈P,PqIn n p){F G:List Int}(h:For n P F)(hG:G.Nodup)(he:∀x,x∈F↔x∈G):For n P G:=by
 have hr:∀i∈G,0<=i/\i<P.length:=fun i hi=>h.rng i ((he i).mpr hi)
 refine⟨hr,hG,x1g5 (Lab.fresh n) (x15h hP hr) ?_⟩
 have h1:=x1b6 (Lab.fresh n) (x15h hP h.rng) h.ind
 have h2:joinsM (freshM n) (prs P G)=joinsM (freshM n) (prs P F):=x1g3 (x15h hP hr) (x15h hP h.rng) fun p=>by
  unfold prs
  rw[List.mem_map,List.mem_map]
  exact⟨fun⟨i,a,b⟩=>⟨i,(he i).mpr a,b⟩,fun⟨i,a,b⟩=>⟨i,(he i).mp a,b⟩⟩
 have h3:=x1g0 h.nod hG he
 rw[h2]
 have e1:(prs P F).length=F.length:=by unfold prs;simp
 have e2:(prs P G).length=G.length:=by unfold prs;simp
 omega
theorem For.sub(hP:∀p∈P,PqIn n p){F G:List Int}(h:For n P F)(hG:G.Nodup)(hs:∀x∈G,x∈F):For n P G:=by
 refine(h.perm (G:=G++F.filter fun x=>!(G.contains x)) hP ?_ fun x=>?_).take
 .rw[List.nodup_append]
  refine⟨hG,h.nod.filter _,fun a ha b hb e=>?_⟩
  subst e
  have:=(List.mem_filter.mp hb).2
  simp at this
  exact this ha
 .rw[List.mem_append,List.mem_filter]
  by_cases c:x∈G
  .simp[c,hs x c]
  .simp[c]
structure Tree (n:Nat) (P:List Pq) (F:List Int):Prop where
 fo:For n P F
 asc:Asc F
 all:∀p∈P,Sm (joinsM (freshM n) (prs P F)) p.a.toNat p.b.toNat
theorem mem_prs{F':List Int}(hr:∀i∈F',0<=i/\i<P.length):∀p∈prs P F',p∈P:=by
 intro p hp
 obtain⟨i,hi,rfl⟩:=List.mem_map.mp hp
 have:=hr i hi
 have h2:i.toNat<P.length:=by omega
 unfold prAt
 rw[List.getD_eq_getElem?_getD,List.getElem?_eq_getElem h2]
 exact List.getElem_mem h2
theorem Tree.uni(hP:∀p∈P,PqIn n p){F:List Int}(h:Tree n P F):joinsM (freshM n) (prs P F)=joinsM (freshM n) P:=
 x1g2 (x15h hP h.fo.rng) hP (fun p hp=>x199 (Lab.fresh n) hP p (mem_prs h.fo.rng p hp)) h.all
theorem Tree.len(hP:∀p∈P,PqIn n p){F:List Int}(h:Tree n P F):n=x15x n (joinsM (freshM n) P)+F.length:=by
 have:=x1b6 (Lab.fresh n) (x15h hP h.fo.rng) h.fo.ind
 rw[x1fq,h.uni hP]at this
 have e:(prs P F).length=F.length:=by unfold prs;simp
 omega
def insM(f:Int->Int)(x:Int):List Int->List Int
 |[]=>[x]
 |y::r=>if f x<f y\/(f x=f y/\x<y)then x::y::r else y::insM f x r
theorem ins_mem{f:Int->Int}{x z:Int}:∀{l:List Int},z∈insM f x l↔z=x\/z∈l
 |[]=>by simp[insM]
 |y::r=>by
  rw[insM]
  split
  .simp
  .rw[List.mem_cons,ins_mem,List.mem_cons]
   constructor
   .rintro(h|h|h)<;>simp[h]
   .rintro(h|h|h)<;>simp[h]
theorem ins_srt{f:Int->Int}{x:Int}:∀{l:List Int},l.Pairwise (lx f)->x∉l->(insM f x l).Pairwise (lx f)
 |[],_,_=>by simp[insM]
 |y::r,h,hx=>by
  rw[insM]
  rw[List.pairwise_cons]at h
  split
  .rename_i c
   rw[List.pairwise_cons]
   refine⟨fun z hz=>?_,List.pairwise_cons.mpr h⟩
   rcases List.mem_cons.mp hz with rfl|hz
   .exact c
   .exact x1fz c (h.1 z hz)
  .rename_i c
   rw[List.pairwise_cons]
   refine⟨fun z hz=>?_,ins_srt h.2 fun hm=>hx (List.mem_cons_of_mem _ hm)⟩
   rcases ins_mem.mp hz with rfl|hz
   .rcases lx_tot (f:=f) (i:=z) (j:=y) (fun e=>hx (by rw[e];exact List.mem_cons_self ..))with e|e
    .exact absurd e c
    .exact e
   .exact h.1 z hz
def ordM(f:Int->Int)(N:Nat):List Int:=(freshM N).foldr (insM f) []
theorem x174(f:Int->Int)(N:Nat):Ordd f N (ordM f N):=by
 have main:∀l:List Int,l.Nodup->(l.foldr (insM f) []).Pairwise (lx f)/\∀x,x∈l.foldr (insM f) []↔x∈l:=by
  intro l
  induction l with
  |nil=>intro _;simp
  |cons y r ih=>
   intro h
   rw[List.nodup_cons]at h
   obtain⟨h1,h2⟩:=ih h.2
   rw[List.foldr_cons]
   exact⟨ins_srt h1 fun hm=>h.1 ((h2 y).mp hm),fun x=>by rw[ins_mem,h2,List.mem_cons]⟩
 obtain⟨h1,h2⟩:=main (freshM N) (x1d3 N).nodup
 exact⟨h1,fun x=>(h2 x).trans fresh_mem⟩
def x14h(f:Int->Int)(n:Nat)(P:List Pq):List Int:=takeM P (freshM n) (ordM f P.length)
def x143(f:Int->Int)(n:Nat)(P:List Pq):List Int:=(freshM P.length).filter fun i=>(x14h f n P).contains i
theorem x1g6{f:Int->Int}{x:Int}(h:x∈x14h f n P):0<=x/\x<P.length:=((x174 f P.length).2 x).mp ((x17l _ _).subset h)
theorem x1g7(f:Int->Int):(x14h f n P).Nodup:=(x17l _ _).nodup (x174 f P.length).nodup
theorem light_mem{f:Int->Int}{x:Int}:x∈x143 f n P↔x∈x14h f n P:=by
 unfold x143
 rw[List.mem_filter,fresh_mem]
 constructor
 .rintro⟨_,h⟩;simpa using h
 .intro h;exact⟨x1g6 h,by simpa using h⟩
theorem x1d4(f:Int->Int):Asc (x143 f n P):=(x1d3 _).filter _
theorem x1d5(hP:∀p∈P,PqIn n p)(f:Int->Int):For n P (x14h f n P):=⟨fun i hi=>x1g6 hi,x1g7 f,x1d0 _ _⟩
theorem x1g8(hP:∀p∈P,PqIn n p)(f:Int->Int):For n P (x143 f n P):=(x1d5 hP f).perm hP (x1d4 f).nodup fun x=>light_mem.symm
theorem x1d6(hP:∀p∈P,PqIn n p)(f:Int->Int):Tree n P (x143 f n P):=by
 refine⟨x1g8 hP f,x1d4 f,fun p hp=>?_⟩
 have hO:∀i∈ordM f P.length,0<=i/\i<P.length:=fun i hi=>((x174 f P.length).2 i).mp hi
 have e:joinsM (freshM n) (prs P (x143 f n P))=joinsM (freshM n) (prs P (ordM f P.length)):=by
  rw[<-x1b9 (P:=P) (ordM f P.length)]
  refine x1g3 (x15h hP (x1g8 hP f).rng) (x15h hP (x1d5 hP f).rng) fun q=>?_
  unfold prs
  rw[List.mem_map,List.mem_map]
  exact⟨fun⟨i,a,b⟩=>⟨i,light_mem.mp a,b⟩,fun⟨i,a,b⟩=>⟨i,light_mem.mpr a,b⟩⟩
 rw[e]
 refine x199 (Lab.fresh n) (x15h hP hO) p ?_
 unfold prs
 rw[List.mem_map]
 obtain⟨k,hk,rfl⟩:=List.mem_iff_getElem.mp hp
 refine⟨(k:Int),((x174 f P.length).2 _).mpr (by omega),?_⟩
 unfold prAt
 simp[List.getD_eq_getElem?_getD,hk]
theorem Ordd.split{f:Int->Int}{N:Nat}{L:List Int}(h:Ordd f N L)(c:Int):L=L.filter (fun i=>decide (f i<=c))++L.filter (fun i=>!decide (f i<=c)):=by
 refine h.one ⟨?_,fun x=>?_⟩
 .rw[List.pairwise_append]
  refine⟨h.1.filter _,h.1.filter _,fun a ha b hb=>?_⟩
  have h1:=(List.mem_filter.mp ha).2
  have h2:=(List.mem_filter.mp hb).2
  simp at h1 h2
  unfold lx
  omega
 .rw[<-h.2,List.mem_append,List.mem_filter,List.mem_filter]
  cases decide (f x<=c)<;>simp
end Go.Ix
namespace Go.Ix
variable{P:List Pq}{n:Nat}
def sumW(ph:Int->Int):List Sp->Int
 |[]=>0
 |x::r=>x.s*ph x.p+sumW ph r
theorem x1g9(ph:Int->Int):∀v w:List Sp,sumW ph (v++w)=sumW ph v+sumW ph w
 |[],w=>by simp[sumW]
 |x::r,w=>by rw[List.cons_append,sumW,sumW,x1g9 ph r w];omega
def PotS(P:List Pq)(F:List Int)(ph φ:Int->Int):Prop:=∀i∈F,φ (prAt P i).b-φ (prAt P i).a=ph i
theorem PotS.step{F:List Int}{ph φ:Int->Int}(h:PotS P F ph φ){x:Sp}(hx:InF F x):x.s*ph x.p=φ (toS P x)-φ (frS P x):=by
 have:=h x.p hx.1
 unfold toS frS
 rcases hx.2 with e|e<;>rw[e]<;>simp<;>omega
theorem PotS.walk{F:List Int}{ph φ:Int->Int}(h:PotS P F ph φ):∀{w:List Sp} {a b:Int},Wk P w a b->AllF F w->sumW ph w=φ b-φ a
 |[],a,b,hw,_=>by cases hw;simp[sumW]
 |x::r,a,b,hw,hF=>by
  rw[sumW,h.step hF.head,h.walk hw.2 hF.tail,<-hw.1]
  omega
structure Pot (n:Nat) (P:List Pq) (F:List Int) (ph φ:Int->Int):Prop where
 st:PotS P F ph φ
 z:∀v,v<n->at0 (joinsM (freshM n) (prs P F)) v=v->φ v=0
open Classical in
theorem x1ga{ph:Int->Int}{M:Nat}{F:List Int}(hM:∀i∈F,(ph i).natAbs<=M):∀{w:List Sp},AllF F w->(sumW ph w).natAbs<=w.length*M
 |[],_=>by simp[sumW]
 |x::r,h=>by
  have ih:=x1ga hM h.tail
  have h1:=hM x.p h.head.1
  have h2:(x.s*ph x.p).natAbs=(ph x.p).natAbs:=by
   rcases h.head.2 with e|e<;>rw[e]<;>simp
  rw[sumW,List.length_cons,Nat.succ_mul]
  omega
theorem Pot.abs(hP:∀p∈P,PqIn n p){ph φ:Int->Int}{F:List Int}(hF:For n P F)(h:Pot n P F ph φ){M:Nat}(hM:∀i∈F,(ph i).natAbs<=M){v:Nat}(hv:v<n):(φ v).natAbs<=n*M:=by
 have hL:=(Lab.fresh n).joins (x15h hP hF.rng)
 obtain⟨l0,l1,l2⟩:=hL.ok v hv
 obtain⟨w,hw,hwF⟩:=x1fr hP hF.rng (v:=(at0 (joinsM (freshM n) (prs P F)) v).toNat) (w:=v) (by omega) hv (by unfold Sm;exact l2)
 obtain⟨w2,hw2,hwF2,hN⟩:=nb_of hw hwF
 have hlen:=x1a6 (hF.cut hP) hw2 hwF2 hN
 have hlF:=hF.len hP
 have hs:=h.st.walk hw2 hwF2
 have hz:=h.z (at0 (joinsM (freshM n) (prs P F)) v).toNat (by omega) (by rw[l2];omega)
 rw[hz]at hs
 have ha:=x1ga hM hwF2
 have:w2.length*M<=n*M:=Nat.mul_le_mul_right M (by omega)
 omega
structure RSt where
 y:List Sp
 k:List Bool
def byA(l:List Sp)(i:Int):Sp:=l.getD i.toNat ⟨0,0⟩
def boA(l:List Bool)(i:Int):Bool:=l.getD i.toNat false
def x15d(P:List Pq)(st:RSt)(x:Sp):RSt:=if boA st.k (frS P x)&&!(boA st.k (toS P x))then⟨st.y.set (toS P x).toNat x,st.k.set (toS P x).toNat true⟩else st
def x17m(F:List Int):List Sp:=F.flatMap fun i=>[⟨i,-1⟩,⟨i,1⟩]
theorem mem_rstepsOf{F:List Int}{x:Sp}:x∈x17m F↔InF F x:=by
 unfold x17m InF
 rw[List.mem_flatMap]
 constructor
 .rintro⟨i,hi,hx⟩
  simp only[List.mem_cons,List.not_mem_nil,or_false]at hx
  rcases hx with rfl|rfl
  .exact⟨hi,Or.inr rfl⟩
  .exact⟨hi,Or.inl rfl⟩
 .rintro⟨h1,h2⟩
  refine⟨x.p,h1,?_⟩
  cases x
  rcases h2 with e|e<;>simp at e<;>subst e<;>simp
def x1ba(P:List Pq)(F:List Int)(st:RSt):RSt:=(x17m F).foldl (x15d P) st
def x17n(P:List Pq)(F:List Int):Nat->RSt->RSt
 |0,st=>st
 |k+1,st=>x17n P F k (x1ba P F st)
def Bw(P:List Pq)(F:List Int)(st:RSt)(fr:Int):List Sp->Int->Prop
 |[],v=>boA st.k v=true/\v=fr
 |x::r,v=>boA st.k v=true/\v≠fr/\byA st.y v=x/\toS P x=v/\InF F x/\Bw P F st fr r (frS P x)
theorem Bw.one{F:List Int}{st:RSt}{fr:Int}:∀{r s:List Sp} {v:Int},Bw P F st fr r v->Bw P F st fr s v->r=s
 |[],[],_,_,_=>rfl
 |[],x::s,_,h,k=>absurd h.2 k.2.1
 |x::r,[],_,h,k=>absurd k.2 h.2.1
 |x::r,y::s,v,h,k=>by
  have e:x=y:=h.2.2.1.symm.trans k.2.2.1
  subst e
  rw[Bw.one h.2.2.2.2.2 k.2.2.2.2.2]
theorem Bw.walk{F:List Int}{st:RSt}{fr:Int}:∀{r:List Sp} {v:Int},Bw P F st fr r v->Wk P r.reverse fr v/\AllF F r.reverse
 |[],v,h=>⟨h.2.symm,fun x hx=>by cases hx⟩
 |x::r,v,h=>by
  obtain⟨i1,i2⟩:=h.2.2.2.2.2.walk
  rw[List.reverse_cons]
  refine⟨i1.app ⟨rfl,h.2.2.2.1⟩,i2.app fun y hy=>?_⟩
  simp at hy
  subst hy
  exact h.2.2.2.2.1
theorem Bw.drop{F:List Int}{st:RSt}{fr:Int}:∀{a b:List Sp} {v:Int},Bw P F st fr (a++b) v->∃w,Bw P F st fr b w
 |[],b,v,h=>⟨v,h⟩
 |x::a,b,v,h=>Bw.drop (a:=a) h.2.2.2.2.2
theorem x1gb:∀{w:List Sp} {x:Sp},NB P w->(∀y,w.getLast?=some y->toS P x≠frS P y)->NB P (w++[x])
 |[],_,_,_=>trivial
 |[y],x,_,h=>⟨h y rfl,trivial⟩
 |y::z::r,x,h,hx=>⟨h.1,x1gb (w:=z::r) h.2 fun q hq=>hx q (by simpa using hq)⟩
theorem Bw.nb{F:List Int}{st:RSt}{fr:Int}:∀{r:List Sp} {v:Int},Bw P F st fr r v->NB P r.reverse
 |[],_,_=>trivial
 |[x],_,_=>trivial
 |x::y::r,v,h=>by
  have h1:=h.2.2.2.2.2
  have ih:=h1.nb
  rw[List.reverse_cons]
  refine x1gb ih fun z hz e=>?_
  rw[List.reverse_cons]at hz
  simp at hz
  subst hz
  have h2:=h1.2.2.2.2.2
  rw[<-e,h.2.2.2.1]at h2
  have:=congrArg List.length (h2.one h)
  simp only[List.length_cons]at this
  omega
structure RInv7 (n:Nat) (P:List Pq) (F:List Int) (f0:Int) (st:RSt):Prop where
 y:st.y.length=n
 k:st.k.length=n
 fr:boA st.k f0=true
 bw:∀v:Int,0<=v->v<n->boA st.k v=true->∃r,Bw P F st f0 r v
theorem x19b{l:List Bool}{b v:Int}(h0:0<=b)(hb:b<l.length)(hv:0<=v):boA (l.set b.toNat true) v=if v=b then true else boA l v:=by
 unfold boA
 rw[List.getD_eq_getElem?_getD,List.getD_eq_getElem?_getD,List.getElem?_set]
 by_cases c:v=b
 .rw[if_pos c,c,if_pos rfl,if_pos (by omega)];rfl
 .rw[if_neg c,if_neg (by omega)]
theorem byA_set{l:List Sp}{b v:Int}{x:Sp}(h0:0<=b)(hb:b<l.length)(hv:0<=v):byA (l.set b.toNat x) v=if v=b then x else byA l v:=by
 unfold byA
 rw[List.getD_eq_getElem?_getD,List.getD_eq_getElem?_getD,List.getElem?_set]
 by_cases c:v=b
 .rw[if_pos c,c,if_pos rfl,if_pos (by omega)];rfl
 .rw[if_neg c,if_neg (by omega)]
theorem x16o(hP:∀p∈P,PqIn n p){F:List Int}(hr:∀i∈F,0<=i/\i<P.length){x:Sp}(hx:InF F x):(0<=frS P x/\frS P x<n)/\0<=toS P x/\toS P x<n:=by
 obtain⟨h0,h1,h2⟩:=x18b hP (hr x.p hx.1)
 unfold frS toS
 split<;>omega
theorem Bw.set(hP:∀p∈P,PqIn n p){F:List Int}(hr:∀i∈F,0<=i/\i<P.length){st:RSt}{fr b:Int}{x:Sp}(hy:st.y.length=n)(hk:st.k.length=n)(h0:0<=b)(hb:b<n)(hu:boA st.k b=false):∀{r:List Sp} {v:Int},0<=v->Bw P F st fr r v ->
 Bw P F ⟨st.y.set b.toNat x,st.k.set b.toNat true⟩ fr r v
 |[],v,hv,h=>by
  refine⟨?_,h.2⟩
  simp only
  rw[x19b h0 (by omega) hv]
  split
  .rfl
  .exact h.1
 |y::r,v,hv,h=>by
  have hne:v≠b:=by rintro rfl;have:=h.1;rw[hu]at this;cases this
  refine⟨?_,h.2.1,?_,h.2.2.2.1,h.2.2.2.2.1,Bw.set hP hr hy hk h0 hb hu (x16o hP hr h.2.2.2.2.1).1.1 h.2.2.2.2.2⟩
  .simp only
   rw[x19b h0 (by omega) hv,if_neg hne];exact h.1
  .simp only
   rw[byA_set h0 (by omega) hv,if_neg hne];exact h.2.2.1
theorem RInv7.step(hP:∀p∈P,PqIn n p){F:List Int}(hr:∀i∈F,0<=i/\i<P.length){fr:Int}(hfr:0<=fr){st:RSt}(h:RInv7 n P F fr st){x:Sp}(hx:InF F x) :
 RInv7 n P F fr (x15d P st x)/\(∀v,0<=v->boA st.k v=true->boA (x15d P st x).k v=true)/\(boA st.k (frS P x)=true->boA (x15d P st x).k (toS P x)=true):=by
 obtain⟨⟨a0,a1⟩,b0,b1⟩:=x16o hP hr hx
 unfold x15d
 cases ca:boA st.k (frS P x)with
 |false=>simp;exact h
 |true=>
  cases cb:boA st.k (toS P x)with
  |true=>simp;exact⟨h,cb⟩
  |false=>
   simp only[Bool.not_false,Bool.and_self,if_true]
   have hmono:∀v,0<=v->boA st.k v=true->boA (st.k.set (toS P x).toNat true) v=true:=fun v hv hs=>by
    rw[x19b b0 (by rw[h.k];exact b1) hv]
    split
    .rfl
    .exact hs
   have hnew:boA (st.k.set (toS P x).toNat true) (toS P x)=true:=by rw[x19b b0 (by rw[h.k];exact b1) b0,if_pos rfl]
   refine⟨⟨by simp[h.y],by simp[h.k],hmono fr hfr h.fr,fun v v0 v1 hs=>?_⟩,hmono,fun _=>hnew⟩
   simp only at hs
   rw[x19b b0 (by rw[h.k];exact b1) v0]at hs
   by_cases c:v=toS P x
   .obtain⟨r,hb⟩:=h.bw (frS P x) a0 a1 ca
    refine⟨x::r,?_,?_,?_,c.symm,hx,Bw.set hP hr h.y h.k b0 b1 cb a0 hb⟩
    .rw[c];exact hnew
    .intro e;have:=h.fr;rw[<-e,c,cb]at this;cases this
    .simp only
     rw[byA_set b0 (by rw[h.y];exact b1) v0,if_pos c]
   .rw[if_neg c]at hs
    obtain⟨r,hb⟩:=h.bw v v0 v1 hs
    exact⟨r,Bw.set hP hr h.y h.k b0 b1 cb v0 hb⟩
theorem RInv7.steps(hP:∀p∈P,PqIn n p){F:List Int}(hr:∀i∈F,0<=i/\i<P.length){fr:Int}(hfr:0<=fr):∀{l:List Sp} {st:RSt},RInv7 n P F fr st->(∀x∈l,InF F x) ->
 RInv7 n P F fr (l.foldl (x15d P) st)/\(∀v,0<=v->boA st.k v=true->boA (l.foldl (x15d P) st).k v=true)/\(∀x∈l,boA st.k (frS P x)=true->boA (l.foldl (x15d P) st).k (toS P x)=true)
 |[],st,h,_=>⟨h,fun _ _ h=>h,fun x hx=>by cases hx⟩
 |x::l,st,h,hl=>by
  have hx:=hl x (List.mem_cons_self ..)
  obtain⟨i1,i2,i3⟩:=h.step hP hr hfr hx
  obtain⟨j1,j2,j3⟩:=RInv7.steps hP hr hfr (l:=l) i1 fun y hy=>hl y (List.mem_cons_of_mem _ hy)
  rw[List.foldl_cons]
  refine⟨j1,fun v hv hs=>j2 v hv (i2 v hv hs),fun y hy hs=>?_⟩
  rcases List.mem_cons.mp hy with rfl|hy
  .exact j2 _ (x16o hP hr hx).2.1 (i3 hs)
  .exact j3 y hy (i2 _ (x16o hP hr (hl y (List.mem_cons_of_mem _ hy))).1.1 hs)
theorem RInv7.rounds(hP:∀p∈P,PqIn n p){F:List Int}(hr:∀i∈F,0<=i/\i<P.length){fr:Int}(hfr:0<=fr):∀{k:Nat} {st:RSt},RInv7 n P F fr st ->
 RInv7 n P F fr (x17n P F k st)/\∀(w:List Sp) (a b:Int),0<=a->boA st.k a=true->Wk P w a b->AllF F w->w.length<=k->boA (x17n P F k st).k b=true
 |0,st,h=>⟨h,fun w a b ha hs hw hF hl=>by
  have:=List.length_eq_zero_iff.mp (Nat.le_zero.mp hl)
  subst this
  cases hw
  exact hs⟩
 |k+1,st,h=>by
  obtain⟨i1,i2,i3⟩:=h.steps hP hr hfr (l:=x17m F) fun x hx=>mem_rstepsOf.mp hx
  obtain⟨j1,j2⟩:=RInv7.rounds hP hr hfr (k:=k) i1
  refine⟨j1,fun w a b ha hs hw hF hl=>?_⟩
  cases w with
  |nil=>cases hw;exact j2 [] a a ha (i2 a ha hs) rfl (fun x hx=>by cases hx) (Nat.zero_le _)
  |cons x w=>
   refine j2 w (toS P x) b (x16o hP hr hF.head).2.1 (i3 x (mem_rstepsOf.mpr hF.head) (by rw[hw.1];exact hs)) hw.2 hF.tail (by simp at hl;omega)
def r0(n:Nat)(fr:Int):RSt:=⟨List.replicate n ⟨0,0⟩,(List.replicate n false).set fr.toNat true⟩
theorem r0_ok{F:List Int}{fr:Int}(h0:0<=fr)(h1:fr<n):RInv7 n P F fr (r0 n fr):=by
 have hb:∀v:Int,boA (List.replicate n false) v=false:=fun v=>by
  unfold boA
  rw[List.getD_eq_getElem?_getD,List.getElem?_replicate]
  split<;>rfl
 have hs:∀v:Int,0<=v->boA (r0 n fr).k v=if v=fr then true else false:=fun v hv=>by
  unfold r0
  simp only
  rw[x19b h0 (by simpa using h1) hv,hb]
 refine⟨by simp[r0],by simp[r0],by rw[hs fr h0,if_pos rfl],fun v v0 v1 h=>⟨[],?_,?_⟩⟩
 .exact h
 .rw[hs v v0]at h
  exact Classical.byContradiction fun hc=>by rw[if_neg hc]at h;cases h
theorem rway_ok(hP:∀p∈P,PqIn n p){F:List Int}(hF:For n P F){fr b:Int}(h0:0<=fr)(h1:fr<n)(b0:0<=b)(b1:b<n){w:List Sp}(hw:Wk P w fr b)(hwF:AllF F w)(hN:NB P w):Bw P F (x17n P F n (r0 n fr)) fr w.reverse b:=by
 obtain⟨j1,j2⟩:=(r0_ok (P:=P) (F:=F) h0 h1).rounds hP hF.rng h0 (k:=n)
 have hl:=x1a6 (hF.cut hP) hw hwF hN
 have hl2:=hF.len hP
 have hs:=j2 w fr b h0 (r0_ok (P:=P) (F:=F) h0 h1).fr hw hwF (by omega)
 obtain⟨r,hr⟩:=j1.bw b b0 b1 hs
 obtain⟨e1,e2⟩:=hr.walk
 have:=x1fk (hF.cut hP) hw e1 hwF e2 hN hr.nb
 rw[this,List.reverse_reverse]
 exact hr
end Go.Ix
