import Derived.Test.YtpeakdjfagbpcaaGreatWg8
import Derived.Test.YtpeakdjfagbpcaaGreatWg6
import Derived.Test.YtpeakdjfagbpcaaGreatWg3
set_option linter.unusedSimpArgs false
set_option linter.unusedVariables false
namespace Go.Ix
open Go.Proofs
theorem x1gg(ph:Int->Int){w:List Sp}{k:Nat}(hk:k<w.length):sumW ph (w.take (k+1))=sumW ph (w.take k)+w[k].s*ph w[k].p:=by
 rw[List.take_succ_eq_append_getElem hk,x1g9]
 simp[sumW]
def StOK7(N:Nat)(w:List Sp):Prop:=∀x∈w,(0<=x.p/\x.p<N)/\(x.s=1\/x.s=-1)
theorem StOK7.abs{ph:List Int}{M:Nat}(hM:∀k,k<ph.length->(at0 ph k).natAbs<=M):∀{w:List Sp},StOK7 ph.length w->(sumW (phI ph) w).natAbs<=w.length*M
 |[],_=>by simp[sumW]
 |x::r,h=>by
  have ih:=StOK7.abs hM (w:=r) fun y hy=>h y (List.mem_cons_of_mem _ hy)
  obtain⟨h1,h2⟩:=h x (List.mem_cons_self ..)
  have h3:=hM x.p.toNat (by omega)
  have h4:(x.s*phI ph x.p).natAbs=(at0 ph x.p.toNat).natAbs:=by
   unfold phI
   rcases h2 with e|e<;>rw[e]<;>simp
  rw[sumW,List.length_cons,Nat.succ_mul]
  omega
theorem w_rSum(d:Nat){f c:AV}{ph:List Int}{w:List Sp}(hf:Ints f ph)(hc:Sl Sp.c c w)(hw:StOK7 ph.length w)(hwl:w.length<=1000){M:Nat}(hM:∀k,k<ph.length->(at0 ph k).natAbs<=M)(hMb:M<=10000000000)(m:Mem) :
 x13f (x13e (d+1)) x3j [f,c] m=some (I (sumW (phI ph) w),m):=by
 refine x14g (by simp[hf.still,hc.still]) ?_ m
 rw[xlv]
 unfold x9f xbe x75
 refine x142 (N:=w.length) (σ:=Unit) (fun n k _ m fc=>x2n (x13e d) [] 0 n f c (I (sumW (phI ph) (w.take k))) (I k) m fc) (fun _ _ _=>True) _ ?_ ?_ NN 0 () _ _ (by omega) (by rw[x13p];omega) trivial
 .rintro n k-m fc hk-next
  have hk':(k:Int)<(w.length:Int):=by omega
  have ix:=hc.ix Sp.len hk
  have l0:=fun m=>x171 (m:=m) (enc:=Sp.c) hk 0 rfl
  have l1:=fun m=>x171 (m:=m) (enc:=Sp.c) hk 1 rfl
  simp only[List.drop_zero]at l0
  simp only[List.drop_one]at l1
  have hsn:=x1gg (phI ph) hk
  obtain⟨h1,h2⟩:=hw w[k] (List.getElem_mem hk)
  have ha:(sumW (phI ph) (w.take k)).natAbs<=(w.take k).length*M:=StOK7.abs hM fun y hy=>hw y (List.mem_of_mem_take hy)
  have hb:(w.take k).length*M<=1000*10000000000:=Nat.mul_le_mul (by simp;omega) hMb
  generalize w[k]=x at *
  have ip:=hf.ixI x14m h1.1 h1.2
  have lp:=fun m=>x15w (m:=m) (show x.p.toNat<ph.length by omega)
  have h3:=hM x.p.toNat (by omega)
  have h4:(x.s*at0 ph x.p.toNat).natAbs=(at0 ph x.p.toNat).natAbs:=by rcases h2 with e|e<;>rw[e]<;>simp
  simp only[x2n]
  unfold x74
  simp[hc.len x155,hk',ix,l0,l1,ip,lp]
  have hw1:w64 (x.s*at0 ph x.p.toNat)=x.s*at0 ph x.p.toNat:=x13j (by omega) (by omega)
  rw[hw1,x13j (by omega) (by omega),x13j (by omega) (by omega)]
  have:=next () m (fc+24) trivial
  rw[hsn]at this
  exact this
 .rintro n-m fc -
  simp only[x2n]
  unfold x74 x2m
  simp[hc.len x155]
  exact RetF.st rfl rfl
def x15n(x:Int):Bool:=!(wi x (-100000000) 100000000)
def x15o(x:Int):Bool:=!(wi x 0 1000)
def taskE(l:List Scene)(P:List Pq)(ph wt:List Int):Int:=
 bif !decide ((net7 l P).2=0)then(net7 l P).2 else bif !decide (ph.length=P.length)||!decide (wt.length=P.length)then 10 else bif ph.any x15n then 2 else bif wt.any x15o then 2 else 0
structure TaskOK (l:List Scene) (P:List Pq) (ph wt:List Int):Prop where
 r:Right7 l P
 lp:ph.length=P.length
 lw:wt.length=P.length
 hp:∀k,k<ph.length->-100000000<=at0 ph k/\at0 ph k<=100000000
 hw:∀k,k<wt.length->0<=at0 wt k/\at0 wt k<=1000
theorem any_wi{q:Int->Bool}{a b:Int}(hq:∀x,q x=!(wi x a b)){l:List Int}(h:l.any q=false):∀k,k<l.length->a<=at0 l k/\at0 l k<=b:=fun k hk=>by
 rw[List.any_eq_false]at h
 have:=h l[k] (List.getElem_mem hk)
 rw[hq]at this
 rw[x13s hk]
 exact wi_t (by simpa using this)
theorem x1ac{l:List Scene}{P:List Pq}{ph wt:List Int}(h:taskE l P ph wt=0):TaskOK l P ph wt:=by
 unfold taskE at h
 by_cases he:(net7 l P).2=0
 .by_cases c1:ph.length=P.length
  .by_cases c2:wt.length=P.length
   .cases c3:ph.any x15n with
    |true=>rw[c3]at h;simp[he,c1,c2]at h
    |false=>
     cases c4:wt.any x15o with
     |true=>rw[c3,c4]at h;simp[he,c1,c2]at h
     |false=>exact⟨x1fw he,c1,c2,any_wi (fun _=>rfl) c3,any_wi (fun _=>rfl) c4⟩
   .simp[he,c2]at h
  .simp[he,c1]at h
 .simp[he]at h
theorem tells_ph(d:Nat):x196 (x13e (d+3)) (.clo x3s []) x15n:=by
 intro hs x m
 refine⟨m.next+1,?_⟩
 show x13e (d+3) hs x3s [I x] m=_
 rw[xmg]
 unfold xa0 xbz x15n
 simp[x1fb]
theorem tells_wt(d:Nat):x196 (x13e (d+2)) (.clo x3t []) x15o:=by
 intro hs x m
 refine⟨m.next+1,?_⟩
 show x13e (d+2) hs x3t [I x] m=_
 rw[xmh]
 unfold xa1 xc0 x15o
 simp[x197]
theorem x1bd(d:Nat){s p f g:AV}{l:List Scene}{P:List Pq}{ph wt:List Int}(hs:Sl Scene.c s l)(hp:Sl Pq.c p P)(hf:Ints f ph)(hg:Ints g wt)(h1:ph.length<1000000)(h2:wt.length<1000000)(m:Mem) :
 x13f (x13e (d+8)) x1y [.agg [s,p,f,g]] m=some (I (taskE l P ph wt),m):=by
 refine x14g (by simp[hs.still1,hp.still1,hf.still1,hg.still1]) ?_ m
 rw[xls]
 unfold x9c xbb
 have c3:=fun m=>x1fa (d+5) hf h1 (tells_ph (d+2)) rfl m
 have c4:=fun m=>x1fa (d+5) hg h2 (tells_wt (d+3)) rfl m
 simp[mem0,hs.one,hp.one,hf.one,hg.one,x1fo (d+1) hs hp]
 unfold taskE
 by_cases he:(net7 l P).2=0
 .simp[he,hp.len x14n,hf.len x13w]
  by_cases e1:ph.length=P.length
  .simp[e1,hg.len x13w]
   by_cases e2:wt.length=P.length
   .simp[e2,c3]
    cases a3:ph.any x15n with
    |true=>simp;exact RetF.st rfl rfl
    |false=>
     simp[c4]
     cases a4:wt.any x15o with
     |true=>simp;exact RetF.st rfl rfl
     |false=>simp;exact RetF.st rfl rfl
   .have e2':¬(wt.length:Int)=(P.length:Int):=by omega
    simp[e2,e2']
    exact RetF.st rfl rfl
  .have e1':¬(ph.length:Int)=(P.length:Int):=by omega
   simp[e1,e1']
   exact RetF.st rfl rfl
 .simp[he]
  exact RetF.st rfl rfl
theorem x1gh(d:Nat){s p f g:AV}{l:List Scene}{P:List Pq}{ph wt:List Int}(hs:Sl Scene.c s l)(hp:Sl Pq.c p P)(hf:Ints f ph)(hg:Ints g wt)(h1:ph.length<1000000)(h2:wt.length<1000000)(m:Mem) :
 x13f (x13e (d+5)) x1v [.agg [s,p,f,g]] m=some (I (taskE l P ph wt),m):=by
 refine x14g (by simp[hs.still1,hp.still1,hf.still1,hg.still1]) ?_ m
 rw[xle]
 unfold x8z xaw
 simp[mem0,hs.one,hp.one,hf.one,hg.one,w_Err7 d hs hp]
 by_cases he:(net7 l P).2=0
 rotate_left
 .simp[he]
  exact RetF.st rfl (by unfold taskE;simp[he])
 simp[he,hp.len x14n,hf.len x13w]
 by_cases e1:ph.length=P.length
 rotate_left
 .have e1':¬(ph.length:Int)=(P.length:Int):=by omega
  simp[e1']
  exact RetF.st rfl (by unfold taskE;simp[he,e1])
 simp[e1,hg.len x13w,hp.len x14n]
 by_cases e2:wt.length=P.length
 rotate_left
 .have e2':¬(wt.length:Int)=(P.length:Int):=by omega
  simp[e2']
  exact RetF.st rfl (by unfold taskE;simp[he,e2])
 simp[e2]
 have hE:taskE l P ph wt=bif ph.any x15n then 2 else bif wt.any x15o then 2 else 0:=by unfold taskE;simp[he,e1,e2]
 rw[hE]
 unfold x6b
 refine x142 (N:=ph.length) (σ:=Unit) (fun n k _ m fc=>x28 (x13e (d+4)) [] 0 n (.ptr (0,0,1) 0 0) (I k) m fc) (fun k _ m=>m.get (0,0,1)=some (.row [s,p,f,g] 0 false)/\ph.any x15n=(ph.drop k).any x15n) _ ?_ ?_ NN 0 () _ _ (by omega) (by rw[x13p];omega) ⟨by simp,by simp⟩
 .rintro n k-m fc hk ⟨hb,hA⟩ next
  have hk':(k:Int)<(ph.length:Int):=by omega
  have ix:=hf.ix x14m hk
  have ld:=fun m=>x15w (m:=m) hk
  rw[x14f hk,List.any_cons,<-x13s hk]at hA
  simp only[x28]
  unfold x6a
  simp[hb,hf.len x13w,hk,ix,ld,x186]
  cases c:wi (at0 ph k) (-100000000) 100000000 with
  |false=>
   simp
   rw[show x15n (at0 ph k)=true by unfold x15n;rw[c];rfl,Bool.true_or]at hA
   exact RetF.st rfl (by rw[hA];rfl)
  |true=>
   rw[show x15n (at0 ph k)=false by unfold x15n;rw[c];rfl,Bool.false_or]at hA
   simp(disch:=omega) [x13j]
   exact next () m _ ⟨hb,hA⟩
 .rintro n-m fc ⟨hb,hA⟩
  rw[List.drop_of_length_le (Nat.le_refl _)]at hA
  rw[show ph.any x15n=false from hA]
  simp only[x28]
  unfold x6a x1e
  simp[hb,hf.len x13w]
  refine x142 (N:=wt.length) (σ:=Unit) (fun n k _ m fc=>x27 (x13e (d+4)) [] 0 n (.ptr (0,0,1) 0 0) (I k) m fc) (fun k _ m=>m.get (0,0,1)=some (.row [s,p,f,g] 0 false)/\wt.any x15o=(wt.drop k).any x15o) _ ?_ ?_ NN 0 () m _ (by omega) (by rw[x13p];omega) ⟨hb,by simp⟩
  .rintro n k-m fc hk ⟨hb,hA⟩ next
   have hk':(k:Int)<(wt.length:Int):=by omega
   have ix:=hg.ix x14m hk
   have ld:=fun m=>x15w (m:=m) hk
   rw[x14f hk,List.any_cons,<-x13s hk]at hA
   simp only[x27]
   unfold x69
   simp[hb,hg.len x13w,hk,ix,ld,x186]
   cases c:wi (at0 wt k) 0 1000 with
   |false=>
    simp
    rw[show x15o (at0 wt k)=true by unfold x15o;rw[c];rfl,Bool.true_or]at hA
    exact RetF.st rfl (by rw[hA];rfl)
   |true=>
    rw[show x15o (at0 wt k)=false by unfold x15o;rw[c];rfl,Bool.false_or]at hA
    simp(disch:=omega) [x13j]
    exact next () m _ ⟨hb,hA⟩
  .rintro n-m fc ⟨hb,hA⟩
   rw[List.drop_of_length_le (Nat.le_refl _)]at hA
   rw[show wt.any x15o=false from hA]
   simp only[x27]
   unfold x69 x26
   simp[hb,hg.len x13w]
   exact RetF.st rfl rfl
def CI(m:Mem)(u:Nat)(a:AV)(l:List Int):Prop:=(l=[]/\a=.slit [] 0 true)\/(l≠[]/\a=.sref (u,3,5) 0 0 l.length 1 true/\Ow intE m (u,3,5) l)
theorem CI.one{m:Mem}{u:Nat}{a:AV}{l:List Int}(h:CI m u a l):a.cells=[a]/\a.one=true/\still1 a=still1 a:=by
 rcases h with ⟨-,rfl⟩|⟨-,rfl,-⟩<;>exact⟨rfl,rfl,rfl⟩
theorem CI.fr{m m':Mem}{u:Nat}{a:AV}{l:List Int}(h:CI m u a l)(e:m'.get (u,3,5)=m.get (u,3,5)):CI m' u a l:=by
 rcases h with h|⟨h0,h1,h2⟩
 .exact .inl h
 .exact .inr ⟨h0,h1,h2.fr e⟩
theorem CI.frz{m:Mem}{u:Nat}{a:AV}{l:List Int}(h:CI m u a l)(k:Nat):∃a',Ints a' l/\Go.Ix.frz m.get (k+2) a=some a':=by
 rcases h with ⟨rfl,rfl⟩|⟨-,rfl,h⟩
 .exact⟨.slit [] 0 true,Sl.lit [] true,rfl⟩
 .exact⟨_,Sl.lit l false,x172 (k:=k) x14m x195 h⟩
theorem x1gi(d:Nat){x:AV}{l:List Int}(h:Ints x l)(hl:l.length<=1000000)(m:Mem):∃a M,x16w (x13e (d+1)) x1w [x] m=some (a,M)/\CI M m.next a l/\M.next=m.next+1/\∀j:Id,j.1<m.next->M.get j=m.get j:=by
 obtain⟨a,m',h1,h2,h3⟩:∃a m',x13e (d+1) [] x1w [x] ⟨[],m.next⟩=some (a,m')/\CI m' m.next a l/\m'.next=m.next+1:=by
  rw[xlj]
  unfold x94 xb2
  have hr:x13o l.length 8:=by unfold x13o;omega
  rcases x1b4 x14m h hr (m.next,3,5) (⟨[],m.next+1⟩:Mem)with ⟨rfl,h1⟩|⟨h0,h1⟩
  .refine⟨.slit [] 0 true,⟨[],m.next+1⟩,?_,.inl ⟨rfl,rfl⟩,rfl⟩
   simp[x17h,x14a,x14k,x149,h1]
  .refine⟨.sref (m.next,3,5) 0 0 l.length 1 true,(⟨[],m.next+1⟩:Mem).new (m.next,3,5) (.row (l.flatMap intE) 0 false),?_,.inr ⟨h0,rfl,by unfold Ow;simp⟩,rfl⟩
   simp[x17h,x14a,x14k,x149,h1]
 obtain⟨M,hc,hM,hj⟩:=call1 (l:=[x]) (by simp[h.clean]) h1
 refine⟨a,M,hc,h2.fr ?_,by omega,fun j hlt=>?_⟩
 .rw[hj,if_pos (Nat.le_refl _)]
 .rw[hj,if_neg (by omega)]
theorem z_task7:xav=[nilS,nilS,nilS,nilS]:=by kernel_rfl
theorem frz_agg4{objs:Id->Option Ob}{a b c e a' b' c' e':AV}{k:Nat}(ha:Go.Ix.frz objs (k+1) a=some a')(hb:Go.Ix.frz objs (k+1) b=some b')(hc:Go.Ix.frz objs (k+1) c=some c')(he:Go.Ix.frz objs (k+1) e=some e'):Go.Ix.frz objs (k+2) (.agg [a,b,c,e])=some (.agg [a',b',c',e']):=by
 show([a,b,c,e].mapM (Go.Ix.frz objs (k+1))).map AV.agg=_
 simp only[List.mapM_cons,List.mapM_nil,ha,hb,hc,he]
 rfl
theorem w_Copy7(d:Nat){s p f g:AV}{l:List Scene}{P:List Pq}{ph wt:List Int}(hs:Sl Scene.c s l)(hp:Sl Pq.c p P)(hf:Ints f ph)(hg:Ints g wt)(h1:l.length<=1000000)(h2:P.length<=1000000)(h3:ph.length<=1000000)(h4:wt.length<=1000000)(m:Mem) :
 ∃s' p' f' g',Sl Scene.c s' l/\Sl Pq.c p' P/\Ints f' ph/\Ints g' wt/\x13f (x13e (d+2)) x1c [.agg [s,p,f,g]] m=some (.agg [s',p',f',g'],m):=by
 have key:RetF (fun v=>∃s' p' f' g',v=.agg [s',p',f',g']/\Sl Scene.c s' l/\Sl Pq.c p' P/\Ints f' ph/\Ints g' wt) (x13e (d+2) [] x1c [.agg [s,p,f,g]] mem0):=by
  rw[xld]
  unfold x8y xau
  simp[mem0,hs.one,hp.one,hf.one,hg.one,z_task7]
  generalize hm1:Mem.new _ _ _=m1
  have g1:m1.get (0,0,1)=some (.row [s,p,f,g] 0 false):=by rw[<-hm1];simp
  have n1:m1.next=1:=by rw[<-hm1];rfl
  obtain⟨s',p',hs',hp',hcp⟩:=x1ic d hs hp h1 h2 m1
  obtain⟨a,M,c1,c2,c3,c4⟩:=x1gi d hf h3 m1
  obtain⟨b,M2,e1,e2,e3,e4⟩:=x1gi d hg h4 M
  have gM:M.get (0,0,1)=some (.row [s,p,f,g] 0 false):=by rw[c4 _ (by show 0<m1.next;omega)];exact g1
  have hb:∀i,m1.get i=(if i=(0,1,2)then some (.row [nilS,nilS,nilS,nilS] 0 false)else(⟨[],1⟩:Mem).new (0,0,1) (.row [s,p,f,g] 0 false) |>.get i):=fun i=>by rw[<-hm1,Mem.get_new]
  have g2:m1.get (0,1,2)=some (.row [nilS,nilS,nilS,nilS] 0 false):=by rw[<-hm1];simp
  have gM2:M2.get (0,1,2)=some (.row [nilS,nilS,nilS,nilS] 0 false):=by rw[e4 _ (by show 0<M.next;omega),c4 _ (by show 0<m1.next;omega)];exact g2
  have ca:=c2.one
  have cb:=e2.one
  simp[hcp,g1,c1,gM,e1]
  rw[show x13z [nilS,nilS,nilS,nilS] [(0,2,.agg [s',p']),(2,1,a),(3,1,b)]=some (.agg [s',p',a,b]) by simp[x13z,x14k,ca.1,cb.1]]
  simp[gM2,hs'.one,hp'.one,ca.2.1,cb.2.1,hs.clean1,hp.clean1,hf.clean,hg.clean,cAp,tR,n1,Nat.blt,sLdP]
  generalize hm3:Mem.set _ _ _=m3
  obtain⟨a',ha',fa⟩:=(c2.fr (m':=m3) (by rw[<-hm3,Mem.get_set,if_neg (by rw[n1];simp),e4 _ (by show m1.next<M.next;omega)])).frz 3
  obtain⟨b',hb',fb⟩:=(e2.fr (m':=m3) (by rw[<-hm3,Mem.get_set,if_neg (by rw[c3,n1];simp)])).frz 3
  refine RetF.mk (frz_agg4 (k:=4) ?_ ?_ fa fb) ⟨s',p',a',b',rfl,hs',hp',ha',hb'⟩
  .exact x14x _ 3 hs'.still
  .exact x14x _ 3 hp'.still
 obtain⟨v,⟨s',p',f',g',rfl,a1,a2,a3,a4⟩,hc⟩:=x15c (by simp[hs.still1,hp.still1,hf.still1,hg.still1]) key m
 exact⟨s',p',f',g',a1,a2,a3,a4,hc⟩
structure Lt7 (l:List Scene) (P:List Pq) (ph wt:List Int):Prop where
 few:few7 l P=true
 a:ph.length<=204
 b:wt.length<=204
 c:taskE l P ph wt=0->∀k,k<ph.length->at0 wt k<=20/\((at0 ph k).natAbs<=30000\/ph.length<=5)
def IsLt(l:List Scene)(P:List Pq)(ph wt:List Int)(v:AV):Prop:=∃b,v=B b/\(b=true->Lt7 l P ph wt)
theorem w_light7(d:Nat){s p f g:AV}{l:List Scene}{P:List Pq}{ph wt:List Int}(hs:Sl Scene.c s l)(hp:Sl Pq.c p P)(hf:Ints f ph)(hg:Ints g wt)(m:Mem) :
 ∃b,(b=true->Lt7 l P ph wt)/\x13f (x13e (d+6)) x3e [.agg [s,p,f,g]] m=some (B b,m):=by
 suffices key:RetF (IsLt l P ph wt) (x13e (d+6) [] x3e [.agg [s,p,f,g]] mem0) by
  obtain⟨v,⟨b,rfl,h⟩,hc⟩:=x15c (by simp[hs.still1,hp.still1,hf.still1,hg.still1]) key m
  exact⟨b,h,hc⟩
 have no:∀m,RetF (IsLt l P ph wt) (some (B false,m)):=fun m=>RetF.st rfl ⟨false,rfl,fun h=>by cases h⟩
 rw[xlc]
 unfold x8x xat
 simp[mem0,hs.one,hp.one,hf.one,hg.one,w_Few7 (d+4) hs hp]
 cases hfw:few7 l P with
 |false=>simp;exact no _
 |true=>
  have key2:ph.length<=204->wt.length<=204->∀fc,RetF (IsLt l P ph wt) ((x13f (x13e (d+5)) x1v [.agg [s,p,f,g]] ((⟨[],1⟩:Mem).new (0,0,1) (.row [s,p,f,g] 0 false))).bind fun p33=>(sNe p33.1 (I 0)).bind fun t34=>x13g t34 (some (B true,p33.2)) (x5a (x13e (d+5)) [] 0 (.ptr (0,0,1) 0 0) p33.2 fc)):=fun a1 a2 fc=>by
   rw[x1gh d hs hp hf hg (by omega) (by omega)]
   by_cases hE:taskE l P ph wt=0
   rotate_left
   .simp[hE]
    exact RetF.st rfl ⟨true,rfl,fun _=>⟨hfw,a1,a2,fun h=>absurd h hE⟩⟩
   have hT:=x1ac hE
   have hlw:wt.length=ph.length:=by rw[hT.lw,hT.lp]
   simp[hE]
   unfold x5a
   refine x142 (N:=ph.length) (σ:=Unit) (fun n k _ m fc=>x25 (x13e (d+5)) [] 0 n (.ptr (0,0,1) 0 0) (I k) m fc) (fun k _ m=>m.get (0,0,1)=some (.row [s,p,f,g] 0 false)/\∀j,j<k->at0 wt j<=20/\((at0 ph j).natAbs<=30000\/ph.length<=5)) _ ?_ ?_ NN 0 () _ _ (by omega) (by rw[x13p];omega) ⟨by simp,fun j hj=>by omega⟩
   .rintro n k-m fc hk ⟨hb,hA⟩ next
    have hk':(k:Int)<(ph.length:Int):=by omega
    have ix:=hf.ix x14m hk
    have ld:=fun m=>x15w (m:=m) hk
    have ix2:=hg.ix x14m (show k<wt.length by omega)
    have ld2:=fun m=>x15w (m:=m) (show k<wt.length by omega)
    have hph:=hT.hp k hk
    have hsz:=fun m=>w_Size (d+4) (at0 ph k) m (by omega) (by omega)
    simp only[x25]
    unfold x68
    simp[hb,hf.len x13w,hk,ix,ld,hsz]
    by_cases c1:(30000:Int)<((at0 ph k).natAbs:Int)
    .simp[c1,hb,hf.len x13w]
     by_cases c2:(5:Int)<(ph.length:Int)
     .simp[c2]
      exact no _
     .simp[c2,hb,ix2,ld2]
      by_cases c3:(20:Int)<at0 wt k
      .simp[c3];exact no _
      .simp(disch:=omega) [c3,x13j]
       exact next () m _ ⟨hb,fun j hj=>by
        by_cases e:j=k
        .rw[e];omega
        .exact hA j (by omega)⟩
    .simp[c1,hb,ix2,ld2]
     by_cases c3:(20:Int)<at0 wt k
     .simp[c3];exact no _
     .simp(disch:=omega) [c3,x13j]
      exact next () m _ ⟨hb,fun j hj=>by
       by_cases e:j=k
       .rw[e];omega
       .exact hA j (by omega)⟩
   .rintro n-m fc ⟨hb,hA⟩
    simp only[x25]
    unfold x68 x24
    simp[hb,hf.len x13w]
    exact RetF.st rfl ⟨true,rfl,fun _=>⟨hfw,a1,a2,fun _=>hA⟩⟩
  simp[hf.len x13w]
  by_cases c1:(20:Int)<(ph.length:Int)
  .simp[c1,hf.len x13w]
   by_cases c2:(ph.length:Int)<200
   .simp[c2];exact no _
   .simp[c2,hf.len x13w]
    by_cases c3:(204:Int)<(ph.length:Int)
    .simp[c3];exact no _
    .simp[c3,hg.len x13w]
     by_cases c4:(204:Int)<(wt.length:Int)
     .simp[c4];exact no _
     .simp[c4]
      exact key2 (by omega) (by omega) _
  .have c3:¬(204:Int)<(ph.length:Int):=by omega
   simp[c1,hf.len x13w,c3,hg.len x13w]
   by_cases c4:(204:Int)<(wt.length:Int)
   .simp[c4];exact no _
   .simp[c4]
    exact key2 (by omega) (by omega) _
structure Ar where
 edge:Int
 to:Int
 sign:Int
 room:Int
 cost:Int
def Ar.c(a:Ar):List AV:=[I a.edge,I a.to,I a.sign,I a.room,I a.cost]
theorem Ar.len(a:Ar):a.c.length=5:=rfl
def e00:Edge:=⟨0,0,0,0⟩
def edgeAt(l:List Edge)(i:Nat):Edge:=l.getD i e00
theorem x1be{l:List Edge}{i:Nat}(h:i<l.length):edgeAt l i=l[i]:=by
 unfold edgeAt;rw[List.getD_eq_getElem?_getD,List.getElem?_eq_getElem h];rfl
def adjI(l:List Edge)(v:Int):List Int:=((List.range l.length).filter fun i=>decide ((edgeAt l i).fr=v)||decide ((edgeAt l i).to=v)).map Int.ofNat
structure FrzS (S:AV) (n:Nat) (l:List Edge) (fl tu ex:List Int):Prop where
 sh:∃ev F TU X cells b,S=.plit [I n,ev,F,TU,X,.slit cells n b]/\Sl Edge.c ev l/\Ints F fl/\Ints TU tu/\Ints X ex/\cells.length=n/\∀(v:Nat) (hv:v<cells.length),Ints cells[v] (adjI l v)
 fll:fl.length=l.length
 tul:tu.length=n
 exl:ex.length=n
 n0:n<=200
 ll:l.length<=600
 ed:∀e∈l,EdgeIn n e/\e.fr≠e.to
 flb:∀k,-1000<=at0 fl k/\at0 fl k<=1000
 tub:∀k,-1000000<=at0 tu k/\at0 tu k<=1000000
end Go.Ix
