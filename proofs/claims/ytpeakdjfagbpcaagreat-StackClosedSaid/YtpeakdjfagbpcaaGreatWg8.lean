import Derived.Test.YtpeakdjfagbpcaaGreatWg7
import Derived.Test.YtpeakdjfagbpcaaGreatWg6
import Derived.Test.YtpeakdjfagbpcaaGreatWg3
set_option linter.unusedSimpArgs false
set_option linter.unusedVariables false
namespace Go.Ix
open Go.Proofs
theorem w_sums(d:Nat){s p f:AV}{l:List Scene}{P:List Pq}{ph:List Int}(hs:Sl Scene.c s l)(hp:Sl Pq.c p P)(hf:Ints f ph)(hR:Right7 l P)(hl:l.length<=8)(hPl:P.length<=14)(hph:ph.length=P.length){M:Nat}(hM:∀k,k<ph.length->(at0 ph k).natAbs<=M)(hMb:M<=10000000000)(m:Mem) :
 ∃v,Ints v (phiL l.length (potM l.length P (x2gj (fW l P) l.length P) (phI ph)))/\x2f8 (x2f7 (d+12)) x37 [.agg [s,p],f] m=some (v,m):=
 x2id (by simp[hs.still1,hp.still1,hf.still]) (a_sums d hs hp hf hR hl hPl hph hM hMb) m
noncomputable def potL(l:List Scene)(P:List Pq)(ph:List Int):Int->Int:=potM l.length P (x2gj (fW l P) l.length P) (phI ph)
noncomputable def x2g3(l:List Scene)(P:List Pq)(ph:List Int):List Int:=(List.range P.length).map fun(k:Nat)=>at0 ph k-potL l P ph (prAt P k).b+potL l P ph (prAt P k).a
theorem x2kt(l:List Scene)(P:List Pq)(ph:List Int):(x2g3 l P ph).length=P.length:=by simp[x2g3]
theorem x2sr{l:List Scene}{P:List Pq}{ph:List Int}{k:Nat}(h:k<P.length):at0 (x2g3 l P ph) k=at0 ph k-potL l P ph (prAt P k).b+potL l P ph (prAt P k).a:=by
 rw[x2fr (by rw[x2kt];exact h)]
 simp[x2g3]
theorem miss_snoc{l:List Scene}{P:List Pq}{ph:List Int}{k:Nat}(h:k<P.length):(x2g3 l P ph).take (k+1)=(x2g3 l P ph).take k++[at0 ph k-potL l P ph (prAt P k).b+potL l P ph (prAt P k).a]:=by
 rw[List.take_succ_eq_append_getElem (by rw[x2kt];exact h),<-x2fr,x2sr h]
theorem x2nw{l:List Scene}{P:List Pq}{ph:List Int}(hR:Right7 l P)(hph:ph.length=P.length){M:Nat}(hM:∀k,k<ph.length->(at0 ph k).natAbs<=M){v:Int}(h0:0<=v)(h1:v<l.length):(potL l P ph v).natAbs<=l.length*M:=by
 have hF:=x2si (P:=P) (n:=l.length) hR.pr (fW l P)
 have:=Pot.abs hR.pr hF (potM_ok hR.pr (phI ph) hF) (M:=M) (fun i hi=>hM _ (by have:=hF.rng i hi;omega)) (v:=v.toNat) (by omega)
 rw[Int.toNat_of_nonneg h0]at this
 exact this
theorem x2ss{P:List Pq}{k:Nat}(h:k<P.length):prAt P (k:Int)=P[k]:=x2nr (by simpa using h)
theorem x2st(d:Nat){s p f:AV}{l:List Scene}{P:List Pq}{ph:List Int}(hs:Sl Scene.c s l)(hp:Sl Pq.c p P)(hf:Ints f ph)(hR:Right7 l P)(hl:l.length<=8)(hPl:P.length<=14)(hph:ph.length=P.length){M:Nat}(hM:∀k,k<ph.length->(at0 ph k).natAbs<=M)(hMb:M<=10000000000) :
 RetF (fun v=>Ints v (x2g3 l P ph)) (x2f7 (d+13) [] x1u [.agg [s,p],f] mem0):=by
 rw[x1co]
 unfold xfv xie
 have hw:=w_sums d hs hp hf hR hl hPl hph hM hMb ((⟨[],1⟩:Mem).new (0,0,2) (.row [s,p] 0 false))
 obtain⟨v,hv,hw⟩:=hw
 have hnM:l.length*M<=8*10000000000:=Nat.mul_le_mul hl hMb
 simp[mem0,hs.one,hp.one,hw]
 unfold xd5
 simp[hp.len x2h6]
 refine x2gh (N:=P.length) (fun n k a m fc=>x3w (x2f7 (d+12)) [] 0 n f v a p (I P.length) (I k) m fc)
  (fun k a m=>Gr 1 intE 0 39 m a ((x2g3 l P ph).take k)) _ ?_ ?_ NN 0 nilS _ _ (by omega) (by rw[x2fs];omega) (by simpa using Gr.nil)
 .rintro n k a m fc hk hG next
  have hk':(k:Int)<(P.length:Int):=by omega
  have ip:=hp.ix Pq.len hk
  have lp:=fun m=>x2he (m:=m) (enc:=Pq.c) Pq.len (by omega) hk
  have ixf:=hf.ix x2fq (show k<ph.length by omega)
  have ldf:=fun m=>x2gr (m:=m) (show k<ph.length by omega)
  have hsn:=miss_snoc (l:=l) (P:=P) (ph:=ph) hk
  obtain⟨q0,q1,q2⟩:=hR.pr P[k] (List.getElem_mem hk)
  rw[x2ss hk]at hsn
  generalize P[k]=q at *
  have ia:=hv.ixI x2fq (k:=q.a) q0 (by rw[x2i3];omega)
  have ib:=hv.ixI x2fq (k:=q.b) (by omega) (by rw[x2i3];omega)
  have la:=fun m=>x2gr (m:=m) (l:=phiL l.length (potL l P ph)) (k:=q.a.toNat) (by rw[x2i3];omega)
  have lb:=fun m=>x2gr (m:=m) (l:=phiL l.length (potL l P ph)) (k:=q.b.toNat) (by rw[x2i3];omega)
  rw[x2nv q0 (by omega)]at la
  rw[x2nv (by omega) q2]at lb
  have ba:=x2nw hR hph hM (v:=q.a) q0 (by omega)
  have bb:=x2nw hR hph hM (v:=q.b) (by omega) q2
  have bp:=hM k (by omega)
  unfold potL at *
  simp only[Pq.c]at lp
  simp only[x3w]
  unfold xd4
  simp[hk',ip,lp,x2km]
  generalize hm1:Mem.set _ _ _=m1
  have g8:m1.get (0,fc+4,8)=some (.row [I q.a,I q.b] 0 false):=by rw[<-hm1];simp
  have hG1:Gr 1 intE 0 39 m1 a ((x2g3 l P ph).take k):=hG.frame fun s=>by rw[<-hm1];simp
  obtain⟨a2,m2,e1,e2,e3,-⟩:=hG1.app (s0:=fc+25) (bytes:=8) x2fq (by omega) (by unfold x2fh;simp[x2kt];omega) (at0 ph k-potM l.length P (x2gj (fW l P) l.length P) (phI ph) q.b+potM l.length P (x2gj (fW l P) l.length P) (phI ph) q.a)
  simp[g8,ixf,ldf,ia,ib,la,lb,x2hj]
  have hw1:w64 (at0 ph k-potM l.length P (x2gj (fW l P) l.length P) (phI ph) q.b)=at0 ph k-potM l.length P (x2gj (fW l P) l.length P) (phI ph) q.b:=x2fe (by omega) (by omega)
  rw[hw1,x2fe (by omega) (by omega),x2fe (by omega) (by omega)]
  rw[show ∀x:Int,elems m1.get 1 (.slit [I x] 1 true)=some (intE x,1)from fun _=>rfl,e1]
  exact next a2 m2 _ (by rw[hsn];exact e2)
 .rintro n a m fc hG
  rw[List.take_of_length_le (by rw[x2kt];exact Nat.le_refl _)]at hG
  simp only[x3w]
  unfold xd4 x3v
  simp
  obtain⟨a',h1,h2⟩:=hG.frzk (k:=4) x2fq x2ji
  exact RetF.mk h2 h1
theorem w_misses(d:Nat){s p f:AV}{l:List Scene}{P:List Pq}{ph:List Int}(hs:Sl Scene.c s l)(hp:Sl Pq.c p P)(hf:Ints f ph)(hR:Right7 l P)(hl:l.length<=8)(hPl:P.length<=14)(hph:ph.length=P.length){M:Nat}(hM:∀k,k<ph.length->(at0 ph k).natAbs<=M)(hMb:M<=10000000000)(m:Mem) :
 ∃v,Ints v (x2g3 l P ph)/\x2f8 (x2f7 (d+13)) x1u [.agg [s,p],f] m=some (v,m):=
 x2id (by simp[hs.still1,hp.still1,hf.still]) (x2st d hs hp hf hR hl hPl hph hM hMb) m
theorem sumW_snoc(ph:Int->Int){w:List Sp}{k:Nat}(hk:k<w.length):sumW ph (w.take (k+1))=sumW ph (w.take k)+w[k].s*ph w[k].p:=by
 rw[List.take_succ_eq_append_getElem hk,x2sm]
 simp[sumW]
def StOK7(N:Nat)(w:List Sp):Prop:=∀x∈w,(0<=x.p/\x.p<N)/\(x.s=1\/x.s=-1)
theorem StOK7.abs{ph:List Int}{M:Nat}(hM:∀k,k<ph.length->(at0 ph k).natAbs<=M):∀{w:List Sp},StOK7 ph.length w->(sumW (phI ph) w).natAbs<=w.length*M
 |[],_=>by simp[sumW]
 |x::r,h=>by
  have ih:=StOK7.abs hM (w:=r) fun y hy=>h y (List.mem_cons_of_mem _ hy)
  obtain⟨h1,h2⟩:=h x (List.mem_cons_self ..)
  have h3:=hM x.p.toNat (by omega)
  have h4:(x.s*phI ph x.p).natAbs=(at0 ph x.p.toNat).natAbs:=by
   unfold phI
   rcases h2 with e|e<;>rw[e]<;>simp
  rw[sumW,List.length_cons,Nat.succ_mul]
  omega
def allM(N:Nat)(but:Int):List Int:=(freshM N).filter fun i=>!decide (i=but)
theorem all_1(N:Nat):allM N (-1)=freshM N:=by
 unfold allM
 rw[List.filter_eq_self]
 intro x hx
 have:=fresh_mem.mp hx
 simp;omega
theorem uni_all{n:Nat}{P:List Pq}:uniM n P (allM P.length (-1))=joinsM (freshM n) P:=by
 unfold uniM
 rw[all_1,prs_fresh]
def x2hs(x:Int):Bool:=!(wi x (-100000000) 100000000)
def x2ht(x:Int):Bool:=!(wi x 0 1000)
def taskE(l:List Scene)(P:List Pq)(ph wt:List Int):Int:=
 bif !decide ((net7 l P).2=0)then(net7 l P).2 else bif !decide (ph.length=P.length)||!decide (wt.length=P.length)then 10 else bif ph.any x2hs then 2 else bif wt.any x2ht then 2 else 0
structure TaskOK (l:List Scene) (P:List Pq) (ph wt:List Int):Prop where
 r:Right7 l P
 lp:ph.length=P.length
 lw:wt.length=P.length
 hp:∀k,k<ph.length->-100000000<=at0 ph k/\at0 ph k<=100000000
 hw:∀k,k<wt.length->0<=at0 wt k/\at0 wt k<=1000
theorem x2nx{q:Int->Bool}{a b:Int}(hq:∀x,q x=!(wi x a b)){l:List Int}(h:l.any q=false):∀k,k<l.length->a<=at0 l k/\at0 l k<=b:=fun k hk=>by
 rw[List.any_eq_false]at h
 have:=h l[k] (List.getElem_mem hk)
 rw[hq]at this
 rw[x2fr hk]
 exact wi_t (by simpa using this)
theorem x2m3{l:List Scene}{P:List Pq}{ph wt:List Int}(h:taskE l P ph wt=0):TaskOK l P ph wt:=by
 unfold taskE at h
 by_cases he:(net7 l P).2=0
 .by_cases c1:ph.length=P.length
  .by_cases c2:wt.length=P.length
   .cases c3:ph.any x2hs with
    |true=>rw[c3]at h;simp[he,c1,c2]at h
    |false=>
     cases c4:wt.any x2ht with
     |true=>rw[c3,c4]at h;simp[he,c1,c2]at h
     |false=>exact⟨x2sl he,c1,c2,x2nx (fun _=>rfl) c3,x2nx (fun _=>rfl) c4⟩
   .simp[he,c2]at h
  .simp[he,c1]at h
 .simp[he]at h
theorem tells_ph(d:Nat):x2jy (x2f7 (d+3)) (.clo x51 []) x2hs:=by
 intro hs x m
 refine⟨m.next+1,?_⟩
 show x2f7 (d+3) hs x51 [I x] m=_
 rw[x1d6]
 unfold xgf xj8 x2hs
 simp[x2pb]
theorem tells_wt(d:Nat):x2jy (x2f7 (d+2)) (.clo x52 []) x2ht:=by
 intro hs x m
 refine⟨m.next+1,?_⟩
 show x2f7 (d+2) hs x52 [I x] m=_
 rw[x1d7]
 unfold xgg xj9 x2ht
 simp[x2kl]
theorem x2pu(d:Nat){s p f g:AV}{l:List Scene}{P:List Pq}{ph wt:List Int}(hs:Sl Scene.c s l)(hp:Sl Pq.c p P)(hf:Ints f ph)(hg:Ints g wt)(h1:ph.length<1000000)(h2:wt.length<1000000)(m:Mem) :
 x2f8 (x2f7 (d+8)) x2p [.agg [s,p,f,g]] m=some (I (taskE l P ph wt),m):=by
 refine x2gy (by simp[hs.still1,hp.still1,hf.still1,hg.still1]) ?_ m
 rw[x1cl]
 unfold xfs xia
 have c3:=fun m=>x2nm (d+5) hf h1 (tells_ph (d+2)) rfl m
 have c4:=fun m=>x2nm (d+5) hg h2 (tells_wt (d+3)) rfl m
 simp[mem0,hs.one,hp.one,hf.one,hg.one,x2ry (d+1) hs hp]
 unfold taskE
 by_cases he:(net7 l P).2=0
 .simp[he,hp.len x2h6,hf.len x2fu]
  by_cases e1:ph.length=P.length
  .simp[e1,hg.len x2fu]
   by_cases e2:wt.length=P.length
   .simp[e2,c3]
    cases a3:ph.any x2hs with
    |true=>simp;exact RetF.st rfl rfl
    |false=>
     simp[c4]
     cases a4:wt.any x2ht with
     |true=>simp;exact RetF.st rfl rfl
     |false=>simp;exact RetF.st rfl rfl
   .have e2':¬(wt.length:Int)=(P.length:Int):=by omega
    simp[e2,e2']
    exact RetF.st rfl rfl
  .have e1':¬(ph.length:Int)=(P.length:Int):=by omega
   simp[e1,e1']
   exact RetF.st rfl rfl
 .simp[he]
  exact RetF.st rfl rfl
theorem x2su(d:Nat){s p f g:AV}{l:List Scene}{P:List Pq}{ph wt:List Int}(hs:Sl Scene.c s l)(hp:Sl Pq.c p P)(hf:Ints f ph)(hg:Ints g wt)(h1:ph.length<1000000)(h2:wt.length<1000000)(m:Mem) :
 x2f8 (x2f7 (d+5)) x2n [.agg [s,p,f,g]] m=some (I (taskE l P ph wt),m):=by
 refine x2gy (by simp[hs.still1,hp.still1,hf.still1,hg.still1]) ?_ m
 rw[x1ca]
 unfold xfe xha
 simp[mem0,hs.one,hp.one,hf.one,hg.one,w_Err7 d hs hp]
 by_cases he:(net7 l P).2=0
 rotate_left
 .simp[he]
  exact RetF.st rfl (by unfold taskE;simp[he])
 simp[he,hp.len x2h6,hf.len x2fu]
 by_cases e1:ph.length=P.length
 rotate_left
 .have e1':¬(ph.length:Int)=(P.length:Int):=by omega
  simp[e1']
  exact RetF.st rfl (by unfold taskE;simp[he,e1])
 simp[e1,hg.len x2fu,hp.len x2h6]
 by_cases e2:wt.length=P.length
 rotate_left
 .have e2':¬(wt.length:Int)=(P.length:Int):=by omega
  simp[e2']
  exact RetF.st rfl (by unfold taskE;simp[he,e2])
 simp[e2]
 have hE:taskE l P ph wt=bif ph.any x2hs then 2 else bif wt.any x2ht then 2 else 0:=by unfold taskE;simp[he,e1,e2]
 rw[hE]
 unfold xcg
 refine x2gh (N:=ph.length) (σ:=Unit) (fun n k _ m fc=>x3m (x2f7 (d+4)) [] 0 n (.ptr (0,0,1) 0 0) (I k) m fc) (fun k _ m=>m.get (0,0,1)=some (.row [s,p,f,g] 0 false)/\ph.any x2hs=(ph.drop k).any x2hs) _ ?_ ?_ NN 0 () _ _ (by omega) (by rw[x2fs];omega) ⟨by simp,by simp⟩
 .rintro n k-m fc hk ⟨hb,hA⟩ next
  have hk':(k:Int)<(ph.length:Int):=by omega
  have ix:=hf.ix x2fq hk
  have ld:=fun m=>x2gr (m:=m) hk
  rw[x2go hk,List.any_cons,<-x2fr hk]at hA
  simp only[x3m]
  unfold xcf
  simp[hb,hf.len x2fu,hk,ix,ld,x2lz]
  cases c:wi (at0 ph k) (-100000000) 100000000 with
  |false=>
   simp
   rw[show x2hs (at0 ph k)=true by unfold x2hs;rw[c];rfl,Bool.true_or]at hA
   exact RetF.st rfl (by rw[hA];rfl)
  |true=>
   rw[show x2hs (at0 ph k)=false by unfold x2hs;rw[c];rfl,Bool.false_or]at hA
   simp(disch:=omega) [x2fe]
   exact next () m _ ⟨hb,hA⟩
 .rintro n-m fc ⟨hb,hA⟩
  rw[List.drop_of_length_le (Nat.le_refl _)]at hA
  rw[show ph.any x2hs=false from hA]
  simp only[x3m]
  unfold xcf x2t
  simp[hb,hf.len x2fu]
  refine x2gh (N:=wt.length) (σ:=Unit) (fun n k _ m fc=>x3l (x2f7 (d+4)) [] 0 n (.ptr (0,0,1) 0 0) (I k) m fc) (fun k _ m=>m.get (0,0,1)=some (.row [s,p,f,g] 0 false)/\wt.any x2ht=(wt.drop k).any x2ht) _ ?_ ?_ NN 0 () m _ (by omega) (by rw[x2fs];omega) ⟨hb,by simp⟩
  .rintro n k-m fc hk ⟨hb,hA⟩ next
   have hk':(k:Int)<(wt.length:Int):=by omega
   have ix:=hg.ix x2fq hk
   have ld:=fun m=>x2gr (m:=m) hk
   rw[x2go hk,List.any_cons,<-x2fr hk]at hA
   simp only[x3l]
   unfold xce
   simp[hb,hg.len x2fu,hk,ix,ld,x2lz]
   cases c:wi (at0 wt k) 0 1000 with
   |false=>
    simp
    rw[show x2ht (at0 wt k)=true by unfold x2ht;rw[c];rfl,Bool.true_or]at hA
    exact RetF.st rfl (by rw[hA];rfl)
   |true=>
    rw[show x2ht (at0 wt k)=false by unfold x2ht;rw[c];rfl,Bool.false_or]at hA
    simp(disch:=omega) [x2fe]
    exact next () m _ ⟨hb,hA⟩
  .rintro n-m fc ⟨hb,hA⟩
   rw[List.drop_of_length_le (Nat.le_refl _)]at hA
   rw[show wt.any x2ht=false from hA]
   simp only[x3l]
   unfold xce x3k
   simp[hb,hg.len x2fu]
   exact RetF.st rfl rfl
def CI(m:Mem)(u:Nat)(a:AV)(l:List Int):Prop:=(l=[]/\a=.slit [] 0 true)\/(l≠[]/\a=.sref (u,3,5) 0 0 l.length 1 true/\Ow intE m (u,3,5) l)
theorem CI.one{m:Mem}{u:Nat}{a:AV}{l:List Int}(h:CI m u a l):a.cells=[a]/\a.one=true/\still1 a=still1 a:=by
 rcases h with ⟨-,rfl⟩|⟨-,rfl,-⟩<;>exact⟨rfl,rfl,rfl⟩
theorem CI.fr{m m':Mem}{u:Nat}{a:AV}{l:List Int}(h:CI m u a l)(e:m'.get (u,3,5)=m.get (u,3,5)):CI m' u a l:=by
 rcases h with h|⟨h0,h1,h2⟩
 .exact .inl h
 .exact .inr ⟨h0,h1,h2.fr e⟩
theorem CI.frz{m:Mem}{u:Nat}{a:AV}{l:List Int}(h:CI m u a l)(k:Nat):∃a',Ints a' l/\Go.Ix.frz m.get (k+2) a=some a':=by
 rcases h with ⟨rfl,rfl⟩|⟨-,rfl,h⟩
 .exact⟨.slit [] 0 true,Sl.lit [] true,rfl⟩
 .exact⟨_,Sl.lit l false,x2jk (k:=k) x2fq x2ji h⟩
theorem x2ny(d:Nat){x:AV}{l:List Int}(h:Ints x l)(hl:l.length<=1000000)(m:Mem):∃a M,x2gq (x2f7 (d+1)) x1s [x] m=some (a,M)/\CI M m.next a l/\M.next=m.next+1/\∀j:Id,j.1<m.next->M.get j=m.get j:=by
 obtain⟨a,m',h1,h2,h3⟩:∃a m',x2f7 (d+1) [] x1s [x] ⟨[],m.next⟩=some (a,m')/\CI m' m.next a l/\m'.next=m.next+1:=by
  rw[xh1]
  unfold x7j x8c
  have hr:x2fh l.length 8:=by unfold x2fh;omega
  rcases x2mv x2fq h hr (m.next,3,5) (⟨[],m.next+1⟩:Mem)with ⟨rfl,h1⟩|⟨h0,h1⟩
  .refine⟨.slit [] 0 true,⟨[],m.next+1⟩,?_,.inl ⟨rfl,rfl⟩,rfl⟩
   simp[x2hj,x2fg,x2gc,x2g2,h1]
  .refine⟨.sref (m.next,3,5) 0 0 l.length 1 true,(⟨[],m.next+1⟩:Mem).new (m.next,3,5) (.row (l.flatMap intE) 0 false),?_,.inr ⟨h0,rfl,by unfold Ow;simp⟩,rfl⟩
   simp[x2hj,x2fg,x2gc,x2g2,h1]
 obtain⟨M,hc,hM,hj⟩:=call1 (l:=[x]) (by simp[h.clean]) h1
 refine⟨a,M,hc,h2.fr ?_,by omega,fun j hlt=>?_⟩
 .rw[hj,if_pos (Nat.le_refl _)]
 .rw[hj,if_neg (by omega)]
theorem x2nz:x3f=[nilS,nilS,nilS,nilS]:=by kernel_rfl
theorem x2sv{objs:Id->Option Ob}{a b c e a' b' c' e':AV}{k:Nat}(ha:Go.Ix.frz objs (k+1) a=some a')(hb:Go.Ix.frz objs (k+1) b=some b')(hc:Go.Ix.frz objs (k+1) c=some c')(he:Go.Ix.frz objs (k+1) e=some e'):Go.Ix.frz objs (k+2) (.agg [a,b,c,e])=some (.agg [a',b',c',e']):=by
 show([a,b,c,e].mapM (Go.Ix.frz objs (k+1))).map AV.agg=_
 simp only[List.mapM_cons,List.mapM_nil,ha,hb,hc,he]
 rfl
theorem w_Copy7(d:Nat){s p f g:AV}{l:List Scene}{P:List Pq}{ph wt:List Int}(hs:Sl Scene.c s l)(hp:Sl Pq.c p P)(hf:Ints f ph)(hg:Ints g wt)(h1:l.length<=1000000)(h2:P.length<=1000000)(h3:ph.length<=1000000)(h4:wt.length<=1000000)(m:Mem) :
 ∃s' p' f' g',Sl Scene.c s' l/\Sl Pq.c p' P/\Ints f' ph/\Ints g' wt/\x2f8 (x2f7 (d+2)) x1a [.agg [s,p,f,g]] m=some (.agg [s',p',f',g'],m):=by
 have key:RetF (fun v=>∃s' p' f' g',v=.agg [s',p',f',g']/\Sl Scene.c s' l/\Sl Pq.c p' P/\Ints f' ph/\Ints g' wt) (x2f7 (d+2) [] x1a [.agg [s,p,f,g]] mem0):=by
  rw[xq3]
  unfold xau xcd
  simp[mem0,hs.one,hp.one,hf.one,hg.one,x2nz]
  generalize hm1:Mem.new _ _ _=m1
  have g1:m1.get (0,0,1)=some (.row [s,p,f,g] 0 false):=by rw[<-hm1];simp
  have n1:m1.next=1:=by rw[<-hm1];rfl
  obtain⟨s',p',hs',hp',hcp⟩:=x2rz d hs hp h1 h2 m1
  obtain⟨a,M,c1,c2,c3,c4⟩:=x2ny d hf h3 m1
  obtain⟨b,M2,e1,e2,e3,e4⟩:=x2ny d hg h4 M
  have gM:M.get (0,0,1)=some (.row [s,p,f,g] 0 false):=by rw[c4 _ (by show 0<m1.next;omega)];exact g1
  have hb:∀i,m1.get i=(if i=(0,1,2)then some (.row [nilS,nilS,nilS,nilS] 0 false)else(⟨[],1⟩:Mem).new (0,0,1) (.row [s,p,f,g] 0 false) |>.get i):=fun i=>by rw[<-hm1,Mem.get_new]
  have g2:m1.get (0,1,2)=some (.row [nilS,nilS,nilS,nilS] 0 false):=by rw[<-hm1];simp
  have gM2:M2.get (0,1,2)=some (.row [nilS,nilS,nilS,nilS] 0 false):=by rw[e4 _ (by show 0<M.next;omega),c4 _ (by show 0<m1.next;omega)];exact g2
  have ca:=c2.one
  have cb:=e2.one
  simp[hcp,g1,c1,gM,e1]
  rw[show x2fi [nilS,nilS,nilS,nilS] [(0,2,.agg [s',p']),(2,1,a),(3,1,b)]=some (.agg [s',p',a,b]) by simp[x2fi,x2gc,ca.1,cb.1]]
  simp[gM2,hs'.one,hp'.one,ca.2.1,cb.2.1,hs.clean1,hp.clean1,hf.clean,hg.clean,cAp,tR,n1,Nat.blt,sLdP]
  generalize hm3:Mem.set _ _ _=m3
  obtain⟨a',ha',fa⟩:=(c2.fr (m':=m3) (by rw[<-hm3,Mem.get_set,if_neg (by rw[n1];simp),e4 _ (by show m1.next<M.next;omega)])).frz 3
  obtain⟨b',hb',fb⟩:=(e2.fr (m':=m3) (by rw[<-hm3,Mem.get_set,if_neg (by rw[c3,n1];simp)])).frz 3
  refine RetF.mk (x2sv (k:=4) ?_ ?_ fa fb) ⟨s',p',a',b',rfl,hs',hp',ha',hb'⟩
  .exact x2hc _ 3 hs'.still
  .exact x2hc _ 3 hp'.still
 obtain⟨v,⟨s',p',f',g',rfl,a1,a2,a3,a4⟩,hc⟩:=x2id (by simp[hs.still1,hp.still1,hf.still1,hg.still1]) key m
 exact⟨s',p',f',g',a1,a2,a3,a4,hc⟩
structure Lt7 (l:List Scene) (P:List Pq) (ph wt:List Int):Prop where
 few:few7 l P=true
 a:ph.length<=204
 b:wt.length<=204
 c:taskE l P ph wt=0->∀k,k<ph.length->at0 wt k<=20/\((at0 ph k).natAbs<=30000\/ph.length<=5)
def IsLt(l:List Scene)(P:List Pq)(ph wt:List Int)(v:AV):Prop:=∃b,v=B b/\(b=true->Lt7 l P ph wt)
theorem w_light7(d:Nat){s p f g:AV}{l:List Scene}{P:List Pq}{ph wt:List Int}(hs:Sl Scene.c s l)(hp:Sl Pq.c p P)(hf:Ints f ph)(hg:Ints g wt)(m:Mem) :
 ∃b,(b=true->Lt7 l P ph wt)/\x2f8 (x2f7 (d+6)) x34 [.agg [s,p,f,g]] m=some (B b,m):=by
 suffices key:RetF (IsLt l P ph wt) (x2f7 (d+6) [] x34 [.agg [s,p,f,g]] mem0) by
  obtain⟨v,⟨b,rfl,h⟩,hc⟩:=x2id (by simp[hs.still1,hp.still1,hf.still1,hg.still1]) key m
  exact⟨b,h,hc⟩
 have no:∀m,RetF (IsLt l P ph wt) (some (B false,m)):=fun m=>RetF.st rfl ⟨false,rfl,fun h=>by cases h⟩
 rw[x1c8]
 unfold xfc xh8
 simp[mem0,hs.one,hp.one,hf.one,hg.one,w_Few7 (d+4) hs hp]
 cases hfw:few7 l P with
 |false=>simp;exact no _
 |true=>
  have key2:ph.length<=204->wt.length<=204->∀fc,RetF (IsLt l P ph wt) ((x2f8 (x2f7 (d+5)) x2n [.agg [s,p,f,g]] ((⟨[],1⟩:Mem).new (0,0,1) (.row [s,p,f,g] 0 false))).bind fun p33=>(sNe p33.1 (I 0)).bind fun t34=>x2f6 t34 (some (B true,p33.2)) (x7z (x2f7 (d+5)) [] 0 (.ptr (0,0,1) 0 0) p33.2 fc)):=fun a1 a2 fc=>by
   rw[x2su d hs hp hf hg (by omega) (by omega)]
   by_cases hE:taskE l P ph wt=0
   rotate_left
   .simp[hE]
    exact RetF.st rfl ⟨true,rfl,fun _=>⟨hfw,a1,a2,fun h=>absurd h hE⟩⟩
   have hT:=x2m3 hE
   have hlw:wt.length=ph.length:=by rw[hT.lw,hT.lp]
   simp[hE]
   unfold x7z
   refine x2gh (N:=ph.length) (σ:=Unit) (fun n k _ m fc=>x3h (x2f7 (d+5)) [] 0 n (.ptr (0,0,1) 0 0) (I k) m fc) (fun k _ m=>m.get (0,0,1)=some (.row [s,p,f,g] 0 false)/\∀j,j<k->at0 wt j<=20/\((at0 ph j).natAbs<=30000\/ph.length<=5)) _ ?_ ?_ NN 0 () _ _ (by omega) (by rw[x2fs];omega) ⟨by simp,fun j hj=>by omega⟩
   .rintro n k-m fc hk ⟨hb,hA⟩ next
    have hk':(k:Int)<(ph.length:Int):=by omega
    have ix:=hf.ix x2fq hk
    have ld:=fun m=>x2gr (m:=m) hk
    have ix2:=hg.ix x2fq (show k<wt.length by omega)
    have ld2:=fun m=>x2gr (m:=m) (show k<wt.length by omega)
    have hph:=hT.hp k hk
    have hsz:=fun m=>w_Size (d+4) (at0 ph k) m (by omega) (by omega)
    simp only[x3h]
    unfold xc6
    simp[hb,hf.len x2fu,hk,ix,ld,hsz]
    by_cases c1:(30000:Int)<((at0 ph k).natAbs:Int)
    .simp[c1,hb,hf.len x2fu]
     by_cases c2:(5:Int)<(ph.length:Int)
     .simp[c2]
      exact no _
     .simp[c2,hb,ix2,ld2]
      by_cases c3:(20:Int)<at0 wt k
      .simp[c3];exact no _
      .simp(disch:=omega) [c3,x2fe]
       exact next () m _ ⟨hb,fun j hj=>by
        by_cases e:j=k
        .rw[e];omega
        .exact hA j (by omega)⟩
    .simp[c1,hb,ix2,ld2]
     by_cases c3:(20:Int)<at0 wt k
     .simp[c3];exact no _
     .simp(disch:=omega) [c3,x2fe]
      exact next () m _ ⟨hb,fun j hj=>by
       by_cases e:j=k
       .rw[e];omega
       .exact hA j (by omega)⟩
   .rintro n-m fc ⟨hb,hA⟩
    simp only[x3h]
    unfold xc6 x3g
    simp[hb,hf.len x2fu]
    exact RetF.st rfl ⟨true,rfl,fun _=>⟨hfw,a1,a2,fun _=>hA⟩⟩
  simp[hf.len x2fu]
  by_cases c1:(20:Int)<(ph.length:Int)
  .simp[c1,hf.len x2fu]
   by_cases c2:(ph.length:Int)<200
   .simp[c2];exact no _
   .simp[c2,hf.len x2fu]
    by_cases c3:(204:Int)<(ph.length:Int)
    .simp[c3];exact no _
    .simp[c3,hg.len x2fu]
     by_cases c4:(204:Int)<(wt.length:Int)
     .simp[c4];exact no _
     .simp[c4]
      exact key2 (by omega) (by omega) _
  .have c3:¬(204:Int)<(ph.length:Int):=by omega
   simp[c1,hf.len x2fu,c3,hg.len x2fu]
   by_cases c4:(204:Int)<(wt.length:Int)
   .simp[c4];exact no _
   .simp[c4]
    exact key2 (by omega) (by omega) _
structure Ar where
 edge:Int
 to:Int
 sign:Int
 room:Int
 cost:Int
def Ar.c(a:Ar):List AV:=[I a.edge,I a.to,I a.sign,I a.room,I a.cost]
theorem Ar.len(a:Ar):a.c.length=5:=rfl
def e00:Edge:=⟨0,0,0,0⟩
def edgeAt(l:List Edge)(i:Nat):Edge:=l.getD i e00
theorem x2o0{l:List Edge}{i:Nat}(h:i<l.length):edgeAt l i=l[i]:=by
 unfold edgeAt;rw[List.getD_eq_getElem?_getD,List.getElem?_eq_getElem h];rfl
def adjI(l:List Edge)(v:Int):List Int:=((List.range l.length).filter fun i=>decide ((edgeAt l i).fr=v)||decide ((edgeAt l i).to=v)).map Int.ofNat
structure FrzS (S:AV) (n:Nat) (l:List Edge) (fl tu ex:List Int):Prop where
 sh:∃ev F TU X cells b,S=.plit [I n,ev,F,TU,X,.slit cells n b]/\Sl Edge.c ev l/\Ints F fl/\Ints TU tu/\Ints X ex/\cells.length=n/\∀(v:Nat) (hv:v<cells.length),Ints cells[v] (adjI l v)
 fll:fl.length=l.length
 tul:tu.length=n
 exl:ex.length=n
 n0:n<=200
 ll:l.length<=600
 ed:∀e∈l,EdgeIn n e/\e.fr≠e.to
 flb:∀k,-1000<=at0 fl k/\at0 fl k<=1000
 tub:∀k,-1000000<=at0 tu k/\at0 tu k<=1000000
end Go.Ix
