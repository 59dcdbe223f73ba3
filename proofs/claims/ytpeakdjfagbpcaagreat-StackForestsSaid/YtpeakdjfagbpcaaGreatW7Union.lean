import Derived.Test.YtpeakdjfagbpcaaGreatW7Copy
import Derived.Test.YtpeakdjfagbpcaaGreatM7Uni
import Derived.Test.YtpeakdjfagbpcaaGreatWBase3
set_option linter.unusedSimpArgs false
set_option linter.unusedVariables false
namespace Go.Ix
open Go.Proofs
theorem Gk.len{α:Type}{z:Nat}{enc:α->List AV}{l:List α}{a:AV}{ok:Id->Prop}{m:Mem}{y e:TypeId}(ht:Tryz.prog.underlying y=some (.slice e))(h:Gk z enc ok m a l):sLen Tryz.prog y a=some (I l.length):=by
 rcases h with ⟨rfl,rfl⟩|⟨id,ver,_,rfl,hg⟩
 .exact x21i ht
 .rfl
theorem Gk.at{a:AV}{l:List Int}{ok:Id->Prop}{m:Mem}(h:Gk 1 intE ok m a l){k:Int}(h0:0<=k)(hk:k<l.length) :
 ∃q,sIx 1 a (I k)=some q/\sLd false 1 q m=some (I (at0 l k.toNat))/\∀v:Int,∃m',(∀{R:Type} (K:Mem->Option R),sSt 1 q (I v) m K=K m')/\Gk 1 intE ok m' a (l.set k.toNat v)/\m'.next=m.next/\∀j,¬ok j->m'.get j=m.get j:=by
 rcases h with ⟨rfl,rfl⟩|⟨id,ver,hok,rfl,hg⟩
 .simp at hk;omega
 .have hkl:k.toNat<l.length:=by omega
  refine⟨.ptr id ver k.toNat,?_,?_,fun v=>⟨m.set id (.row ((l.set k.toNat v).flatMap intE) ver false),fun K=>?_,Or.inr ⟨id,ver,hok,by simp,by simp⟩,rfl,fun j hj=>?_⟩⟩
  .simp[sIx,asI,h0,hk]
  .rw[ld_ptr hg,rd,if_neg (by simp),x1yl,<-List.map_drop,x1w4 hkl,x1vu hkl]
   rfl
  .rw[st_ptr (z:=1) (x:=I v) (k:=K) hg rfl (by rw[x235];omega) rfl]
   congr 3
   simp only[x1yl,x1ve,cells_I]
   rw[List.map_set,List.set_eq_take_append_cons_drop,if_pos (by simpa using hkl)]
   simp
  .rw[Mem.get_set,if_neg (by rintro rfl;exact hj hok)]
theorem mix_at{l X:List Int}(hX:X.length=l.length){k:Nat}(hk:k<l.length):at0 (X.take k++l.drop k) k=at0 l k:=by
 rw[x1vu (by simp;omega),x1vu hk,List.getElem_append_right (by simp;omega)]
 simp[hX,Nat.min_eq_left (Nat.le_of_lt hk)]
theorem mix_set{l X:List Int}(hX:X.length=l.length){k:Nat}(hk:k<l.length):(X.take k++l.drop k).set k (at0 X k)=X.take (k+1)++l.drop (k+1):=by
 have hl:(X.take k).length=k:=by simp;omega
 rw[List.set_append,if_neg (by omega),hl,Nat.sub_self,x1w4 hk,List.set_cons_zero,List.take_succ_eq_append_getElem (by omega),x1vu (by omega),List.append_assoc]
 rfl
theorem mix_id{l X:List Int}(hX:X.length=l.length){k:Nat}(hk:k<l.length)(h:at0 X k=at0 l k):X.take k++l.drop k=X.take (k+1)++l.drop (k+1):=by
 rw[x1w4 hk,List.take_succ_eq_append_getElem (by omega),<-x1vu (show k<X.length by omega),h,x1vu hk]
 simp
theorem x238{l X:List Int}(hX:X.length=l.length){k:Nat}(hk:k<=l.length):(X.take k++l.drop k).length=l.length:=by
 simp;omega
theorem u_union:Tryz.prog.underlying xd9=some (.slice x1v1):=by kernel_rfl
def Keep(ok:Id->Prop)(m m':Mem):Prop:=∀j:Id,¬ok j->j.1<m.next->m'.get j=m.get j
theorem c_join(d:Nat)(hs:FHs){ok:Id->Prop}{m:Mem}{a:AV}{l:List Int}{p:Pq}(hG:Gk 1 intE ok m a l)(hok:∀j,ok j->j.1<m.next)(hp:PqIn l.length p)(hl:l.length<=1000) :
 ∃m',x1uu (d+1) hs x1s [a,.agg [I p.a,I p.b]] m=some (B (!decide (at0 l p.a.toNat=at0 l p.b.toNat)),m')/\Gk 1 intE ok m' a (x1vg l p)/\m'.next=m.next+1/\Keep ok m m':=by
 obtain⟨p0,p1,p2⟩:=hp
 rw[x11j]
 unfold xbv xda
 obtain⟨m0,hm0⟩:∃m0,m0=(⟨m.hp,m.next+1⟩:Mem).new (m.next,0,3) (.row [I p.a,I p.b] 0 false):=⟨_,rfl⟩
 have hf0:∀j:Id,j.1<m.next->m0.get j=m.get j:=fun j hj=>by
  rw[hm0,Mem.get_new,if_neg (by rintro rfl;exact Nat.lt_irrefl _ hj)];rfl
 have hn0:m0.next=m.next+1:=by rw[hm0];rfl
 have hg:m0.get (m.next,0,3)=some (.row [I p.a,I p.b] 0 false):=by rw[hm0];simp
 have hG0:Gk 1 intE ok m0 a l:=hG.frame fun j hj=>hf0 j (hok j hj)
 obtain⟨q1,i1,l1,-⟩:=hG0.at (k:=p.a) p0 (by omega)
 obtain⟨q2,i2,l2,-⟩:=hG0.at (k:=p.b) (by omega) p2
 simp only[x22z,x24y,List.all_cons,List.all_nil,one_I,Bool.and_self,x1zz,<-hm0]
 simp[hg,i1,l1,i2,l2]
 unfold xa1
 simp[hG0.len u_union]
 have hX:(x1vg l p).length=l.length:=x21p l p
 refine x1wl (N:=l.length) (σ:=Unit) (fun n k _ m' fc=>x2q (x1uu d) hs m.next n a (I (at0 l p.a.toNat)) (I (at0 l p.b.toNat)) a (I l.length) (I k) m' fc)
  (fun k _ m'=>Gk 1 intE ok m' a ((x1vg l p).take k++l.drop k)/\m'.next=m.next+1/\Keep ok m m')
  (fun r=>∃m',r=some (B (!decide (at0 l p.a.toNat=at0 l p.b.toNat)),m')/\Gk 1 intE ok m' a (x1vg l p)/\m'.next=m.next+1/\Keep ok m m') ?_ ?_ NN 0 () m0 _ (by omega) (by rw[x1vv];omega) ⟨by simpa using hG0,hn0,fun j _ hj=>hf0 j hj⟩
 .rintro n k-m1 fc hk ⟨h1,h2,h3⟩ next
  have hk':(k:Int)<(l.length:Int):=by omega
  have hml:=x238 (l:=l) (X:=x1vg l p) hX (k:=k) (by omega)
  obtain⟨q,i3,l3,st⟩:=h1.at (k:=(k:Int)) (by omega) (by omega)
  rw[Int.toNat_natCast,mix_at hX hk]at l3
  have hj:=x1y8 (u:=l) (p:=p) hk
  simp only[x2q]
  unfold xa0 x9z x64
  by_cases c:at0 l k=at0 l p.a.toNat\/at0 l k=at0 l p.b.toNat
  .rw[if_pos c]at hj
   obtain⟨m2,e1,e2,e3,e4⟩:=st (mn (at0 l p.a.toNat) (at0 l p.b.toNat))
   rw[Int.toNat_natCast,<-hj,mix_set hX hk]at e2
   unfold mn at e1
   by_cases c1:at0 l k=at0 l p.a.toNat
   .simp(disch:=omega) [hk',i3,l3,c1,x1v8]
    rw[e1]
    exact next () m2 _ ⟨e2,by omega,fun j hj hj2=>by rw[e4 j hj];exact h3 j hj hj2⟩
   .have c2:at0 l k=at0 l p.b.toNat:=c.resolve_left c1
    rw[c2]at l3 c1
    simp(disch:=omega) [hk',i3,l3,c1,x1v8]
    rw[e1]
    exact next () m2 _ ⟨e2,by omega,fun j hj hj2=>by rw[e4 j hj];exact h3 j hj hj2⟩
  .rw[if_neg c]at hj
   have c1:¬at0 l k=at0 l p.a.toNat:=fun h=>c (Or.inl h)
   have c2:¬at0 l k=at0 l p.b.toNat:=fun h=>c (Or.inr h)
   simp(disch:=omega) [hk',i3,l3,c1,c2,x1v8]
   exact next () m1 _ ⟨by rw[<-mix_id hX hk hj];exact h1,h2,h3⟩
 .rintro n-m1 fc ⟨h1,h2,h3⟩
  have hk:¬((l.length:Int)<(l.length:Int)):=by omega
  simp only[x2q]
  unfold xa0 x14
  simp[hk]
  rw[List.drop_of_length_le (Nat.le_refl _),List.take_of_length_le (by omega),List.append_nil]at h1
  exact⟨h1,h2,h3⟩
theorem x25h{n k:Nat}(h:k<n):(freshM n).take k++[(k:Int)]=(freshM n).take (k+1):=by
 rw[List.take_succ_eq_append_getElem (by simpa[freshM]using h)]
 simp[freshM]
theorem x27k(d:Nat){n:Nat}(hn:n<=1000)(m:Mem):∃a M,x1wr (x1uu (d+1)) x1r [I n] m=some (a,M)/\Gk 1 intE (fun id=>id.1=m.next) M a (freshM n)/\M.next=m.next+1/\∀j:Id,j.1<m.next->M.get j=m.get j:=by
 obtain⟨a,m',h1,h2,h3⟩:∃a m',x1uu (d+1) [] x1r [I n] ⟨[],m.next⟩=some (a,m')/\Gk 1 intE (fun id=>id.1=m.next) m' a (freshM n)/\m'.next=m.next+1:=by
  rw[x11i]
  unfold xbu xd8 x9y
  refine x1wl (N:=n) (fun j k a m' fc=>x2p (x1uu d) [] m.next j a (I n) (I k) m' fc) (fun k a m'=>Gk 1 intE (fun id=>id.1=m.next) m' a ((freshM n).take k)/\m'.next=m.next+1)
   (fun r=>∃a m',r=some (a,m')/\Gk 1 intE (fun id=>id.1=m.next) m' a (freshM n)/\m'.next=m.next+1) ?_ ?_ NN 0 nilS _ _ (by omega) (by rw[x1vv];omega) ⟨by simpa using Gk.nil,rfl⟩
  .rintro j k a m1 fc hk ⟨hG,hN⟩ next
   have hk':(k:Int)<(n:Int):=by omega
   have hlt:((freshM n).take k).length=k:=by simp[freshM];omega
   obtain⟨a2,m2,e1,e2,-,-,e3,-⟩:=Gk.app (ok:=fun id=>id.1=m.next) (bytes:=8) (id0:=(m.next,fc+6,12)) x1w5 (by omega) rfl (by unfold x1v5;omega) hG (k:Int)
   simp only[x2p]
   unfold x9x
   simp(disch:=omega) [hk',z_ints,x1v8]
   rw[show elems m1.get 1 (.slit [I (k:Int)] 1 true)=some ([I (k:Int)],1)from rfl]
   rw[show[I (k:Int)]=intE k from rfl,e1]
   exact next a2 m2 _ ⟨by rw[<-x25h hk];exact e2,by omega⟩
  .rintro j a m1 fc ⟨hG,hN⟩
   have hk:¬((n:Int)<(n:Int)):=by omega
   simp only[x2p]
   unfold x9x x2o
   simp[hk]
   exact⟨a,m1,⟨rfl,rfl⟩,by rw[List.take_of_length_le (by simp[freshM])]at hG;exact hG,hN⟩
 obtain⟨M,hc,hM,hj⟩:=call1 (l:=[I n]) rfl h1
 refine⟨a,M,hc,h2.frame fun j hjj=>?_,by omega,fun j hlt=>?_⟩
 .rw[hj j,if_pos (by omega)]
 .rw[hj j,if_neg (by omega)]
def scAt(l:List Scene)(i:Int):Scene:=l.getD i.toNat ⟨⟨#[]⟩,0,0⟩
def lenP(l:List Scene)(p:Pq):Int:=(((scAt l p.a).day-(scAt l p.b).day).natAbs:Int)+(((scAt l p.a).bl-(scAt l p.b).bl).natAbs:Int)
theorem x239{l:List Scene}{i:Int}(h:i.toNat<l.length):scAt l i=l[i.toNat]:=by
 unfold scAt;rw[List.getD_eq_getElem?_getD,List.getElem?_eq_getElem h];rfl
theorem x20w{P:List Pq}{i:Int}(h:i.toNat<P.length):prAt P i=P[i.toNat]:=by
 unfold prAt;rw[List.getD_eq_getElem?_getD,List.getElem?_eq_getElem h];rfl
theorem x201{l:List Scene}(hb:InB l){i:Int}(h0:0<=i)(h:i<l.length):(0<=(scAt l i).day/\(scAt l i).day<=100000)/\(-100000<=(scAt l i).bl/\(scAt l i).bl<=100000):=by
 rw[x239 (by omega)]
 exact hb.get (by omega)
theorem x23a{l:List Scene}(hb:InB l){p:Pq}(hp:PqIn l.length p):0<=lenP l p/\lenP l p<=300000:=by
 obtain⟨h0,h1,h2⟩:=hp
 have a:=x201 hb (i:=p.a) h0 (by omega)
 have b:=x201 hb (i:=p.b) (by omega) h2
 unfold lenP
 omega
theorem Sl.ixz{α:Type}{enc:α->List AV}{z:Nat}{a:AV}{l:List α}(hz:∀x,(enc x).length=z)(h:Sl enc a l){k:Int}(h0:0<=k)(hk:k<l.length):sIx z a (I k)=some (.plit ((l.drop k.toNat).flatMap enc)):=by
 have:=h.ix hz (k:=k.toNat) (by omega)
 rwa[Int.toNat_of_nonneg h0]at this
theorem w_length(d:Nat){s p:AV}{l:List Scene}{P:List Pq}(hs:Sl Scene.c s l)(hp:Sl Pq.c p P)(hb:InB l){i:Int}(hi:0<=i/\i<P.length)(hP:PqIn l.length (prAt P i))(m:Mem) :
 x1ut (x1uu (d+2)) x2c [.agg [s,p],I i] m=some (I (lenP l (prAt P i)),m):=by
 refine x1xo (by simp[hs.still1,hp.still1]) ?_ m
 obtain⟨h0,h1,h2⟩:=hP
 have ba:=x201 hb (i:=(prAt P i).a) h0 (by omega)
 have bb:=x201 hb (i:=(prAt P i).b) (by omega) h2
 have ip:=hp.ixz Pq.len hi.1 hi.2
 have lp:=fun m=>x1wk (m:=m) (enc:=Pq.c) Pq.len (by omega) (show i.toNat<P.length by omega)
 rw[<-x20w (by omega)]at lp
 have ia:=hs.ixz Scene.len h0 (show(prAt P i).a<l.length by omega)
 have ib:=hs.ixz Scene.len (show 0<=(prAt P i).b by omega) h2
 have la:=fun m=>x1wk (m:=m) (enc:=Scene.c) Scene.len (by omega) (show(prAt P i).a.toNat<l.length by omega)
 have lb:=fun m=>x1wk (m:=m) (enc:=Scene.c) Scene.len (by omega) (show(prAt P i).b.toNat<l.length by omega)
 rw[<-x239 (by omega)]at la lb
 unfold lenP
 rw[x11v]
 unfold xc7 xdt
 generalize scAt l (prAt P i).a=x at *
 generalize scAt l (prAt P i).b=y at *
 generalize prAt P i=e at *
 simp only[Pq.c]at lp
 simp only[Scene.c]at la lb
 simp(disch:=omega) [mem0,hs.one,hp.one,ip,lp,ia,ib,la,lb,x20t,x21l,tR,tS,x1us,disj,x1v8,w_size7,cAp,show Nat.blt 0 1=true from rfl]
 refine RetF.st ?_ ?_<;>rfl
theorem w_rLength(d:Nat){s p:AV}{l:List Scene}{P:List Pq}(hs:Sl Scene.c s l)(hp:Sl Pq.c p P)(hb:InB l){i:Int}(hi:0<=i/\i<P.length)(hP:PqIn l.length (prAt P i))(m:Mem) :
 x1ut (x1uu (d+2)) x44 [.agg [s,p],I i] m=some (I (lenP l (prAt P i)),m):=by
 refine x1xo (by simp[hs.still1,hp.still1]) ?_ m
 obtain⟨h0,h1,h2⟩:=hP
 have ba:=x201 hb (i:=(prAt P i).a) h0 (by omega)
 have bb:=x201 hb (i:=(prAt P i).b) (by omega) h2
 have ip:=hp.ixz Pq.len hi.1 hi.2
 have l0:=fun m=>x1z3 (m:=m) (enc:=Pq.c) (show i.toNat<P.length by omega) 0 rfl
 have l1:=fun m=>x1z3 (m:=m) (enc:=Pq.c) (show i.toNat<P.length by omega) 1 rfl
 rw[<-x20w (by omega)]at l0 l1
 simp only[List.drop_zero]at l0
 simp only[List.drop_one]at l1
 have ia:=hs.ixz Scene.len h0 (show(prAt P i).a<l.length by omega)
 have ib:=hs.ixz Scene.len (show 0<=(prAt P i).b by omega) h2
 have la:=fun m=>x1wk (m:=m) (enc:=Scene.c) Scene.len (by omega) (show(prAt P i).a.toNat<l.length by omega)
 have lb:=fun m=>x1wk (m:=m) (enc:=Scene.c) Scene.len (by omega) (show(prAt P i).b.toNat<l.length by omega)
 rw[<-x239 (by omega)]at la lb
 unfold lenP
 rw[x11b]
 unfold xbn xcw
 generalize scAt l (prAt P i).a=x at *
 generalize scAt l (prAt P i).b=y at *
 generalize prAt P i=e at *
 simp only[Scene.c]at la lb
 simp(disch:=omega) [mem0,hs.one,hp.one,ip,l0,l1,ia,ib,la,lb,x20t,x21l,tR,tS,x1us,disj,x1v8,w_Size,cAp,show Nat.blt 0 1=true from rfl]
 refine RetF.st ?_ ?_<;>rfl
def sumL(l:List Scene)(P:List Pq):Int->List Int->Int
 |s,[]=>s
 |s,i::r=>sumL l P (s+lenP l (prAt P i)) r
def Rng(n:Nat)(P:List Pq)(F:List Int):Prop:=∀i∈F,(0<=i/\i<P.length)/\PqIn n (prAt P i)
theorem Rng.get{n:Nat}{P:List Pq}{F:List Int}(h:Rng n P F){k:Nat}(hk:k<F.length):(0<=at0 F k/\at0 F k<P.length)/\PqIn n (prAt P (at0 F k)):=by
 rw[x1vu hk];exact h _ (List.getElem_mem hk)
theorem w_total(d:Nat){s p f:AV}{l:List Scene}{P:List Pq}{F:List Int}(hs:Sl Scene.c s l)(hp:Sl Pq.c p P)(hf:Ints f F)(hb:InB l)(hR:Rng l.length P F)(hF:F.length<=1000)(m:Mem) :
 x1ut (x1uu (d+3)) x3b [.agg [s,p],f] m=some (I (sumL l P 0 F),m):=by
 refine x1xo (by simp[hs.still1,hp.still1,hf.still]) ?_ m
 rw[x11m]
 unfold xby xdd xa3
 simp[mem0,hs.one,hp.one,hf.len x1xn]
 refine x1wl (N:=F.length) (σ:=Int) (fun n k t m fc=>x2s (x1uu (d+2)) [] 0 n (.ptr (0,0,2) 0 0) (I t) f (I F.length) (I k) m fc)
  (fun k t m=>m.get (0,0,2)=some (.row [s,p] 0 false)/\(0<=t/\t<=k*300000)/\sumL l P t (F.drop k)=sumL l P 0 F) _ ?_ ?_ NN 0 0 _ _ (by omega) (by rw[x1vv];omega) ⟨by simp,by omega,by simp⟩
 .rintro n k t m fc hk ⟨hg,ht,hT⟩ next
  have hk':(k:Int)<(F.length:Int):=by omega
  have ix:=hf.ix x1w5 hk
  have ld:=x1x2 (m:=m) hk
  obtain⟨hr,hq⟩:=hR.get hk
  have hl:=x23a hb hq
  rw[x1w4 hk,sumL,<-x1vu hk]at hT
  have hw:=w_length d hs hp hb hr hq m
  simp only[x2s]
  unfold xa2
  simp[hk',ix,ld,hg,hw]
  rw[x1v8 (by omega) (by omega),x1v8 (by omega) (by omega)]
  exact next _ m _ ⟨hg,by omega,hT⟩
 .rintro n t m fc ⟨hg,ht,hT⟩
  have hk:¬((F.length:Int)<(F.length:Int)):=by omega
  simp only[x2s]
  unfold xa2 x2r
  rw[List.drop_of_length_le (Nat.le_refl _)]at hT
  simp[hk]
  exact RetF.st rfl (by rw[<-hT];rfl)
end Go.Ix
