import Derived.Test.YtpeakdjfagbpcaaGreatW7Union
set_option linter.unusedSimpArgs false
set_option linter.unusedVariables false
namespace Go.Ix
open Go.Proofs
theorem Gk.sl1{ok:Id->Prop}{m:Mem}{a:AV}{l:List Int}(h:Gk 1 intE ok m a l)(k:Nat):∃a',Ints a' l/\Go.Ix.frz m.get (k+2) a=some a':=h.frz x1w5 x251
def okA(t:Nat):Id->Prop:=fun id=>id.1=0/\id.2.2=t
theorem joinM_max{l:List Int}{p:Pq}{k:Nat}(hk:k<l.length):at0 (x1vg l p) k=if at0 l k=(if at0 l p.b.toNat > at0 l p.a.toNat then at0 l p.b.toNat else at0 l p.a.toNat)then mn (at0 l p.a.toNat) (at0 l p.b.toNat)else at0 l k:=by
 rw[x1y8 hk]
 unfold mn
 generalize at0 l k=x
 generalize at0 l p.a.toNat=a
 generalize at0 l p.b.toNat=b
 by_cases h1:x=a<;>by_cases h2:x=b<;>by_cases h3:b > a<;>by_cases h4:b<a<;>simp[h1,h2,h3,h4]<;>omega
theorem l_rjoin1(d:Nat){f s p a:AV}{l:List Int}{q:Pq}(t7:AV)(rec0:AV->AV->AV->AV->Mem->Nat->O2)(Q:O2->Prop)(hl:l.length<=1000){m0:Mem}(hQ:∀m fc,Gk 1 intE (okA 22) m a (x1vg l q)->m.get (0,0,2)=some (.row [s,p] 0 false)->Q (rec0 f (.ptr (0,0,2) 0 0) a t7 m fc))(t7':AV)(ht:sAdd t7' (I 1)=some t7) :
 ∀(n k:Nat) (x:Unit) (m:Mem) (fc:Nat),k<=l.length->l.length<n+k->(Gk 1 intE (okA 22) m a ((x1vg l q).take k++l.drop k)/\m.get (0,0,2)=some (.row [s,p] 0 false)) ->
 Q (x20 (x1uu d) [] 0 rec0 n f (.ptr (0,0,2) 0 0) a t7' (I (at0 l q.a.toNat)) (I (at0 l q.b.toNat)) (I k) m fc):=by
 have hX:(x1vg l q).length=l.length:=x21p l q
 refine x1wl (fun n k _ m fc=>x20 (x1uu d) [] 0 rec0 n f (.ptr (0,0,2) 0 0) a t7' (I (at0 l q.a.toNat)) (I (at0 l q.b.toNat)) (I k) m fc)
  (fun k _ m=>Gk 1 intE (okA 22) m a ((x1vg l q).take k++l.drop k)/\m.get (0,0,2)=some (.row [s,p] 0 false)) Q ?_ ?_
 .rintro n k-m1 fc hk ⟨h1,h2⟩ next
  have hk':(k:Int)<(l.length:Int):=by omega
  have hml:=x238 (l:=l) (X:=x1vg l q) hX (k:=k) (by omega)
  have hlen:=h1.len (y:=x0) x1xn
  rw[hml]at hlen
  obtain⟨c,i3,l3,st⟩:=h1.at (k:=(k:Int)) (by omega) (by omega)
  rw[Int.toNat_natCast,mix_at hX hk]at l3
  have hj:=joinM_max (p:=q) hk
  simp only[x20]
  unfold xa8 xa7 x66
  by_cases c1:at0 l k=(if at0 l q.b.toNat > at0 l q.a.toNat then at0 l q.b.toNat else at0 l q.a.toNat)
  .rw[if_pos c1]at hj
   obtain⟨m2,e1,e2,e3,e4⟩:=st (mn (at0 l q.a.toNat) (at0 l q.b.toNat))
   rw[Int.toNat_natCast,<-hj,mix_set hX hk]at e2
   unfold mn at e1
   simp only[hlen,x1vm,x1x0,hk',decide_true,x1xc,i3,l3,sMax_I,sEq_I,c1,sMin_I,e1]
   simp(disch:=omega) [x1v8]
   exact next () m2 _ ⟨e2,by rw[e4 _ (by unfold okA;simp)];exact h2⟩
  .rw[if_neg c1]at hj
   simp only[hlen,x1vm,x1x0,hk',decide_true,x1xc,i3,l3,sMax_I,sEq_I,decide_eq_false c1,sCond_f]
   simp(disch:=omega) [x1v8]
   exact next () m1 _ ⟨by rw[<-mix_id hX hk hj];exact h1,h2⟩
 .rintro n-m1 fc ⟨h1,h2⟩
  have hml:=x238 (l:=l) (X:=x1vg l q) hX (k:=l.length) (by omega)
  have hlen:=h1.len (y:=x0) x1xn
  rw[hml]at hlen
  rw[List.drop_of_length_le (Nat.le_refl _),List.take_of_length_le (by omega),List.append_nil]at h1
  simp only[x20]
  unfold xa8 xa
  simp[hlen,ht]
  exact hQ _ _ h1 h2
def uniM(n:Nat)(P:List Pq)(F:List Int):List Int:=joinsM (freshM n) (prs P F)
theorem x20x{n:Nat}{P:List Pq}{F:List Int}(h:Rng n P F):Lab n (uniM n P F):=(Lab.fresh n).joins fun p hp=>by
 obtain⟨i,hi,rfl⟩:=List.mem_map.mp hp
 exact(h i hi).2
theorem Rng.take{n:Nat}{P:List Pq}{F:List Int}(h:Rng n P F)(k:Nat):Rng n P (F.take k):=fun i hi=>h i (List.mem_of_mem_take hi)
theorem x25i{n:Nat}{P:List Pq}{F:List Int}{k:Nat}(hk:k<F.length):uniM n P (F.take (k+1))=x1vg (uniM n P (F.take k)) (prAt P (at0 F k)):=by
 unfold uniM prs
 rw[List.take_succ_eq_append_getElem hk,List.map_append,joins_app,x1vu hk]
 rfl
theorem a_joined(d:Nat){s p f:AV}{l:List Scene}{P:List Pq}{F:List Int}(hs:Sl Scene.c s l)(hp:Sl Pq.c p P)(hf:Ints f F)(hR:Rng l.length P F)(hl:l.length<=60)(hF:F.length<=1000) :
 RetF (fun v=>Ints v (uniM l.length P F)) (x1uu (d+1) [] x2b [.agg [s,p],f] mem0):=by
 rw[x11o]
 unfold xc0 xdf xab
 simp[mem0,hs.one,hp.one]
 refine x1wl (N:=l.length) (fun n k a m fc=>x2t (x1uu d) [] 0 n f (.ptr (0,0,2) 0 0) a (I k) m fc)
  (fun k a m=>m.get (0,0,2)=some (.row [s,p] 0 false)/\Gk 1 intE (okA 22) m a ((freshM l.length).take k)) _ ?_ ?_ NN 0 nilS _ _ (by omega) (by rw[x1vv];omega) ⟨by simp,by simpa using Gk.nil⟩
 .rintro n k a m fc hk ⟨hg,hG⟩ next
  have hk':(k:Int)<(l.length:Int):=by omega
  have hlt:((freshM l.length).take k).length=k:=by simp[freshM];omega
  obtain⟨a2,m2,e1,e2,-,-,e3,e4⟩:=hG.app (bytes:=8) (id0:=(0,fc+8,22)) x1w5 (by omega) ⟨rfl,rfl⟩ (by unfold x1v5;omega) (k:Int)
  simp only[x2t]
  unfold xaa
  simp(disch:=omega) [hg,hs.len x1vw,hk',z_ints,x1v8]
  rw[show elems m.get 1 (.slit [I (k:Int)] 1 true)=some (intE (k:Int),1)from rfl,e1]
  exact next a2 m2 _ ⟨by rw[e4 _ (by unfold okA;simp)];exact hg,by rw[<-x25h hk];exact e2⟩
 .rintro n a m fc ⟨hg,hG⟩
  have hk:¬((l.length:Int)<(l.length:Int)):=by omega
  rw[List.take_of_length_le (by simp[freshM])]at hG
  simp only[x2t]
  unfold xaa x22
  simp[hg,hs.len x1vw]
  refine x1wl (N:=F.length) (σ:=Unit) (fun n k _ m fc=>x21 (x1uu d) [] 0 n f (.ptr (0,0,2) 0 0) a (I k) m fc)
   (fun k _ m=>m.get (0,0,2)=some (.row [s,p] 0 false)/\Gk 1 intE (okA 22) m a (uniM l.length P (F.take k))) _ ?_ ?_ NN 0 () m _ (by omega) (by rw[x1vv];omega) ⟨hg,by simpa[uniM,prs,joinsM]using hG⟩
  .rintro n k-m fc hk ⟨hg,hG⟩ next
   have hk':(k:Int)<(F.length:Int):=by omega
   obtain⟨⟨r0,r1⟩,hq⟩:=hR.get hk
   have hq':=hq
   obtain⟨q0,q1,q2⟩:=hq
   have hL:=(x20x (hR.take k)).len
   have ix:=hf.ix x1w5 hk
   have ld:=fun m=>x1x2 (m:=m) hk
   have ip:=hp.ixz Pq.len r0 r1
   have lp:=fun m=>x1wk (m:=m) (enc:=Pq.c) Pq.len (by omega) (show(at0 F k).toNat<P.length by omega)
   rw[<-x20w (by omega)]at lp
   have hus:=x25i (n:=l.length) (P:=P) hk
   generalize uniM l.length P (F.take k)=cur at *
   generalize prAt P (at0 F k)=q at *
   simp only[Pq.c]at lp
   simp only[x21]
   unfold xa9 x67
   simp[hf.len x1xn,hk',hg,ix,ld,ip,lp,x20t,tR,x1us,disj]
   generalize hm1:Mem.set _ _ _=m1
   have g1:m1.get (0,0,2)=some (.row [s,p] 0 false):=by rw[<-hm1];simp[hg]
   have g8:m1.get (0,fc+4+8,8)=some (.row [I q.a,I q.b] 0 false):=by rw[<-hm1];simp
   have hG1:Gk 1 intE (okA 22) m1 a cur:=hG.frame fun j hj=>by
    obtain⟨h1,h2⟩:=hj
    rw[<-hm1,Mem.get_set,if_neg,Mem.get_new,if_neg]<;>(rintro rfl;simp at h2)
   obtain⟨c1,i1,l1,-⟩:=hG1.at (k:=q.a) (by omega) (by omega)
   obtain⟨c2,i2,l2,-⟩:=hG1.at (k:=q.b) (by omega) (by omega)
   simp[g8,i1,l1,i2,l2]
   refine l_rjoin1 d (f:=f) (s:=s) (p:=p) (a:=a) (l:=cur) (q:=q) (I ((k:Int)+1)) (x21 (x1uu d) [] 0 n) _ (by omega) (m0:=m1) (fun m fc h1 h2=>?_) (I k) (by simp(disch:=omega) [x1v8]) NN 0 () m1 _ (by omega) (by rw[x1vv];omega) ⟨by simpa using hG1,g1⟩
   exact next () m fc ⟨h2,by rw[hus];exact h1⟩
  .rintro n-m fc ⟨hg,hG⟩
   have hk:¬((F.length:Int)<(F.length:Int)):=by omega
   rw[List.take_of_length_le (Nat.le_refl _)]at hG
   simp only[x21]
   unfold xa9 xf
   simp[hf.len x1xn]
   obtain⟨a',h1,h2⟩:=hG.sl1 4
   exact RetF.mk h2 h1
theorem x25j(d:Nat){s p f:AV}{l:List Scene}{P:List Pq}{F:List Int}(hs:Sl Scene.c s l)(hp:Sl Pq.c p P)(hf:Ints f F)(hR:Rng l.length P F)(hl:l.length<=60)(hF:F.length<=1000)(m:Mem) :
 ∃a,Ints a (uniM l.length P F)/\x1ut (x1uu (d+1)) x2b [.agg [s,p],f] m=some (a,m):=
 callF (by simp[hs.still1,hp.still1,hf.still]) (a_joined d hs hp hf hR hl hF) m
structure Right7 (l:List Scene) (P:List Pq):Prop where
 ll:l.length<=60
 ib:InB l
 pl:P.length<=200
 pr:∀p∈P,PqIn l.length p
 nd:P.Nodup
theorem x25k{n:Int}{P:List Pq}:∀(suf:List Pq) (k:Nat),P.drop k=suf->(x1xq n P k suf).2=0->(∀p∈suf,(0<=p.a/\p.a<p.b)/\p.b<n)/\((P.take k).Nodup->P.Nodup)
 |[],k,hd,_=>⟨fun p hp=>(by cases hp),fun h=>by
  have:P.length<=k:=List.drop_eq_nil_iff.mp hd
  rwa[List.take_of_length_le this]at h⟩
 |x::r,k,hd,h=>by
  obtain⟨hk,he,hd⟩:=x1z2 hd
  simp only[x1xq]at h
  cases c1:wi x.a 0 (n-1)with
  |false=>simp[c1]at h
  |true=>
   cases c2:wi x.b 0 (n-1)with
   |false=>simp[c1,c2]at h
   |true=>
    by_cases c3:x.b<=x.a
    .simp[c1,c2,c3]at h
    .cases c4:(P.take k).any fun q=>q.same x with
     |true=>simp[c1,c2,c3,c4]at h
     |false=>
      simp[c1,c2,c3,c4]at h
      obtain⟨i1,i2⟩:=x25k r (k+1) hd h
      refine⟨fun p hp=>?_,fun hn=>i2 ?_⟩
      .have:=wi_t c1
       have:=wi_t c2
       rcases List.mem_cons.mp hp with rfl|hp
       .omega
       .exact i1 p hp
      .rw[List.take_succ_eq_append_getElem hk,List.nodup_append]
       refine⟨hn,by simp,fun a ha b hb e=>?_⟩
       simp at hb
       rw[List.any_eq_false]at c4
       have:=c4 a ha
       rw[e,hb,he,Pq.same_self]at this
       exact this rfl
theorem x25l{l:List Scene}{P:List Pq}(h:(net7 l P).2=0):Right7 l P:=by
 unfold net7 at h
 by_cases he:(x1w6 l).2=0
 .obtain⟨hl,hb⟩:=x233 he
  simp[he]at h
  by_cases h2:200<P.length
  .simp[h2]at h
  .simp[h2]at h
   obtain⟨i1,i2⟩:=x25k P 0 rfl h
   exact⟨hl,hb,by omega,fun p hp=>by have:=i1 p hp;exact⟨by omega,by omega,by omega⟩,i2 (by simp)⟩
 .simp[he]at h
theorem Right7.at{l:List Scene}{P:List Pq}(h:Right7 l P){i:Int}(hi:0<=i/\i<P.length):PqIn l.length (prAt P i):=x21r h.pr hi
def forE(n:Nat)(P:List Pq)(F:List Int):Nat->List Int->Int
 |_,[]=>0
 |k,i::r=>
  bif !(wi i 0 ((P.length:Int)-1))then 6
  else bif decide (0<k)&&decide (i<=at0 F (k-1))then 9
  else bif decide (at0 (uniM n P (F.take k)) (prAt P i).a.toNat=at0 (uniM n P (F.take k)) (prAt P i).b.toNat)then 21
  else forE n P F (k+1) r
def x1z5(n:Nat)(P:List Pq)(F:List Int):Bool:=P.any fun p=>!decide (at0 (uniM n P F) p.a.toNat=at0 (uniM n P F) p.b.toNat)
def x1vy(n:Nat)(P:List Pq)(F:List Int):Int:=bif !decide (forE n P F 0 F=0)then forE n P F 0 F else bif x1z5 n P F then 25 else 0
def fiP(l:List Pq)(q:Pq->Bool):Int:=if l.any q then((l.findIdx q:Nat):Int)else -1
theorem fiP_hit{l:List Pq}{q:Pq->Bool}{k:Nat}(hk:k<l.length)(ht:q l[k]=true)(hI:∀j (hj:j<k) (hjl:j<l.length),q l[j]=false):fiP l q=k:=by
 have h1:l.any q=true:=List.any_eq_true.mpr ⟨_,List.getElem_mem hk,ht⟩
 have h2:l.findIdx q=k:=by
  rw[List.findIdx_eq hk]
  exact⟨ht,fun j hj=>by have:=hI j hj (by omega);simpa using this⟩
 unfold fiP
 rw[if_pos h1,h2]
theorem fiP_none{l:List Pq}{q:Pq->Bool}(hI:∀j (hj:j<l.length),q l[j]=false):fiP l q=-1:=by
 have h1:l.any q=false:=by
  rw[List.any_eq_false]
  intro x hx
  obtain⟨j,hj,rfl⟩:=List.mem_iff_getElem.mp hx
  rw[hI j hj];simp
 unfold fiP
 rw[h1];rfl
theorem fiP_any{l:List Pq}{q:Pq->Bool}:decide (0<=fiP l q)=l.any q:=by
 unfold fiP
 cases h:l.any q<;>simp
theorem x27l(d:Nat){a:AV}{l:List Pq}{f:FuncId}{caps:List AV}{q:Pq->Bool}(h:Sl Pq.c a l)(hl:l.length<1000000)(hq:∀x∈l,∀hs m,∃m',x1uu (d+1) hs f (.agg x.c::caps) m=some (B (q x),m'))(hc:still (.clo f caps)=true) :
 ∃m',x1uu (d+3) [] x3a [a,.clo f caps] mem0=some (B (l.any q),m'):=by
 obtain⟨m',h'⟩:∃m',x1uu (d+2) [] x4d [a,.clo f caps] mem0=some (I (fiP l q),m'):=by
  rw[x11u]
  unfold xc6 xds xaj
  simp only[mem0,h.len x1ws,x1vm]
  refine x1wl (N:=l.length) (σ:=Unit) (fun n k _ m fc=>x2w (x1uu (d+1)) [] 0 n a (.clo f caps) (I l.length) (I k) m fc) (fun k _ m=>∀j (hj:j<k) (hjl:j<l.length),q l[j]=false)
   (fun r=>∃m',r=some (I (fiP l q),m')) ?_ ?_ NN 0 () _ _ (by omega) (by rw[x1vv];omega) (fun j hj=>by omega)
  .rintro n k-m fc hk hI next
   have hk':(k:Int)<(l.length:Int):=by omega
   have ix:=h.ix Pq.len hk
   have ld:=x1wk (m:=m) Pq.len (by omega) hk
   obtain⟨m1,hc⟩:=hq l[k] (List.getElem_mem hk) [] m
   have hinv:x1vt (x1uu (d+1)) [] 2 (.clo f caps) [.agg l[k].c] m=some (B (q l[k]),m1):=hc
   simp only[x2w]
   unfold xai
   simp only[x1x0,hk',decide_true,x1xc,x1vm,ix,ld,hinv]
   cases ht:q l[k]with
   |true=>
    rw[fiP_hit hk ht hI]
    simp
   |false=>
    simp(disch:=omega) [x1v8]
    refine next () m1 _ fun j hj hjl=>?_
    by_cases e:j=k
    .subst e;exact ht
    .exact hI j (by omega) hjl
  .rintro n-m fc hI
   have hk:¬((l.length:Int)<(l.length:Int)):=by omega
   rw[fiP_none fun j hj=>hI j hj hj]
   simp only[x2w]
   unfold xai x2v
   simp
 have hc:=fun m:Mem=>call0 (m:=m) (call:=x1uu (d+2)) (l:=[a,.clo f caps]) (by simp only[List.all_cons,List.all_nil,h.still,hc,Bool.true_and,Bool.and_true]) h' rfl
 rw[x11k]
 unfold xbw xdb
 rw[<-fiP_any]
 simp[hc,mem0]
theorem a_apartPq(d:Nat){a:AV}{U:List Int}(ha:Ints a U){x:Pq}(hx:PqIn U.length x)(hs:FHs)(m:Mem):∃m',x1uu (d+1) hs x2a [.agg x.c,.plit [a]] m=some (B (!decide (at0 U x.a.toNat=at0 U x.b.toNat)),m'):=by
 obtain⟨h0,h1,h2⟩:=hx
 have i1:=ha.ixI x1w5 (k:=x.a) h0 (by omega)
 have i2:=ha.ixI x1w5 (k:=x.b) (by omega) h2
 have l1:=fun m=>x1x2 (m:=m) (show x.a.toNat<U.length by omega)
 have l2:=fun m=>x1x2 (m:=m) (show x.b.toNat<U.length by omega)
 rw[x11l]
 unfold xbx xdc
 simp[Pq.c,i1,i2,l1,l2]
end Go.Ix
