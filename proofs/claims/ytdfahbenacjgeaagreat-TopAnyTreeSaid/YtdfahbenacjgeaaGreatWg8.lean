import Derived.Test.YtdfahbenacjgeaaGreatWg7
import Derived.Test.YtdfahbenacjgeaaGreatWg3
set_option linter.unusedSimpArgs false
set_option linter.unusedVariables false
namespace Go.Ix
open Go.Proofs
def CI(m:Mem)(u:Nat)(a:AV)(l:List Int):Prop:=(l=[]/\a=.slit [] 0 true)\/(l≠[]/\a=.sref (u,3,5) 0 0 l.length 1 true/\Ow intE m (u,3,5) l)
theorem CI.one{m:Mem}{u:Nat}{a:AV}{l:List Int}(h:CI m u a l):a.cells=[a]/\a.one=true/\still1 a=still1 a:=by
 rcases h with ⟨-,rfl⟩|⟨-,rfl,-⟩<;>exact⟨rfl,rfl,rfl⟩
theorem CI.fr{m m':Mem}{u:Nat}{a:AV}{l:List Int}(h:CI m u a l)(e:m'.get (u,3,5)=m.get (u,3,5)):CI m' u a l:=by
 rcases h with h|⟨h0,h1,h2⟩
 .exact .inl h
 .exact .inr ⟨h0,h1,h2.fr e⟩
theorem CI.frz{m:Mem}{u:Nat}{a:AV}{l:List Int}(h:CI m u a l)(k:Nat):∃a',Ints a' l/\Go.Ix.frz m.get (k+2) a=some a':=by
 rcases h with ⟨rfl,rfl⟩|⟨-,rfl,h⟩
 .exact⟨.slit [] 0 true,Sl.lit [] true,rfl⟩
 .exact⟨_,Sl.lit l false,xoq (k:=k) xk7 xm5 h⟩
theorem xxl(d:Nat){x:AV}{l:List Int}(h:Ints x l)(hl:l.length<=1000000)(m:Mem):∃a M,xna (xk2 (d+1)) xc [x] m=some (a,M)/\CI M m.next a l/\M.next=m.next+1/\∀j:Id,j.1<m.next->M.get j=m.get j:=by
 obtain⟨a,m',h1,h2,h3⟩:∃a m',xk2 (d+1) [] xc [x] ⟨[],m.next⟩=some (a,m')/\CI m' m.next a l/\m'.next=m.next+1:=by
  rw[xb4]
  unfold x4d x39
  have hr:xkg l.length 8:=by unfold xkg;omega
  rcases xtw xk7 h hr (m.next,3,5) (⟨[],m.next+1⟩:Mem)with ⟨rfl,h1⟩|⟨h0,h1⟩
  .refine⟨.slit [] 0 true,⟨[],m.next+1⟩,?_,.inl ⟨rfl,rfl⟩,rfl⟩
   simp[xlo,xl3,xle,xld,h1]
  .refine⟨.sref (m.next,3,5) 0 0 l.length 1 true,(⟨[],m.next+1⟩:Mem).new (m.next,3,5) (.row (l.flatMap intE) 0 false),?_,.inr ⟨h0,rfl,by unfold Ow;simp⟩,rfl⟩
   simp[xlo,xl3,xle,xld,h1]
 obtain⟨M,hc,hM,hj⟩:=call1 (l:=[x]) (by simp[h.clean]) h1
 refine⟨a,M,hc,h2.fr ?_,by omega,λj hlt=>?_⟩
 .rw[hj,x12c (x12f _)]
 .rw[hj,x12b (by omega)]
theorem z_task7:xbh=[nilS,nilS,nilS,nilS]:=by kernel_rfl
theorem frz_agg4{objs:Id->Option Ob}{a b c e a' b' c' e':AV}{k:Nat}(ha:Go.Ix.frz objs (k+1) a=some a')(hb:Go.Ix.frz objs (k+1) b=some b')(hc:Go.Ix.frz objs (k+1) c=some c')(he:Go.Ix.frz objs (k+1) e=some e'):Go.Ix.frz objs (k+2) (.agg [a,b,c,e])=some (.agg [a',b',c',e']):=by
 show([a,b,c,e].mapM (Go.Ix.frz objs (k+1))).map AV.agg=_
 simp only[x135,x13p,ha,hb,hc,he]
 rfl
theorem w_Copy7(d:Nat){s p f g:AV}{l:List Scene}{P:List Pq}{ph wt:List Int}(hs:Sl Scene.c s l)(hp:Sl Pq.c p P)(hf:Ints f ph)(hg:Ints g wt)(h1:l.length<=1000000)(h2:P.length<=1000000)(h3:ph.length<=1000000)(h4:wt.length<=1000000)(m:Mem) :
 ∃s' p' f' g',Sl Scene.c s' l/\Sl Pq.c p' P/\Ints f' ph/\Ints g' wt/\xk4 (xk2 (d+2)) xu [.agg [s,p,f,g]] m=some (.agg [s',p',f',g'],m):=by
 have key:RetF (λv=>∃s' p' f' g',v=.agg [s',p',f',g']/\Sl Scene.c s' l/\Sl Pq.c p' P/\Ints f' ph/\Ints g' wt) (xk2 (d+2) [] xu [.agg [s,p,f,g]] mem0):=by
  rw[xfm]
  unfold x97 x57
  simp[mem0,hs.one,hp.one,hf.one,hg.one,z_task7]
  generalize hm1:Mem.new _ _ _=m1
  have g1:m1.get (0,0,1)=some (.row [s,p,f,g] 0 false):=by rw[<-hm1];simp
  have n1:m1.next=1:=by rw[<-hm1];rfl
  obtain⟨s',p',hs',hp',hcp⟩:=xry d hs hp h1 h2 m1
  obtain⟨a,M,c1,c2,c3,c4⟩:=xxl d hf h3 m1
  obtain⟨b,M2,e1,e2,e3,e4⟩:=xxl d hg h4 M
  have gM:M.get (0,0,1)=some (.row [s,p,f,g] 0 false):=by rw[c4 _ (by show 0<m1.next;omega)];exact g1
  have hb:∀i,m1.get i=(if i=(0,1,2)then some (.row [nilS,nilS,nilS,nilS] 0 false)else(⟨[],1⟩:Mem).new (0,0,1) (.row [s,p,f,g] 0 false) |>.get i):=λi=>by rw[<-hm1,Mem.get_new]
  have g2:m1.get (0,1,2)=some (.row [nilS,nilS,nilS,nilS] 0 false):=by rw[<-hm1];simp
  have gM2:M2.get (0,1,2)=some (.row [nilS,nilS,nilS,nilS] 0 false):=by rw[e4 _ (by show 0<M.next;omega),c4 _ (by show 0<m1.next;omega)];exact g2
  have ca:=c2.one
  have cb:=e2.one
  simp[hcp,g1,c1,gM,e1]
  rw[show xkr [nilS,nilS,nilS,nilS] [(0,2,.agg [s',p']),(2,1,a),(3,1,b)]=some (.agg [s',p',a,b]) by simp[xkr,xle,ca.1,cb.1]]
  simp[gM2,hs'.one,hp'.one,ca.2.1,cb.2.1,hs.clean1,hp.clean1,hf.clean,hg.clean,cAp,tR,n1,Nat.blt,sLdP]
  generalize hm3:Mem.set _ _ _=m3
  obtain⟨a',ha',fa⟩:=(c2.fr (m':=m3) (by rw[<-hm3,Mem.get_set,x12b (by rw[n1];simp),e4 _ (by show m1.next<M.next;omega)])).frz 3
  obtain⟨b',hb',fb⟩:=(e2.fr (m':=m3) (by rw[<-hm3,Mem.get_set,x12b (by rw[c3,n1];simp)])).frz 3
  refine RetF.mk (frz_agg4 (k:=4) ?_ ?_ fa fb) ⟨s',p',a',b',rfl,hs',hp',ha',hb'⟩
  .exact xmm _ 3 hs'.still
  .exact xmm _ 3 hp'.still
 obtain⟨v,⟨s',p',f',g',rfl,a1,a2,a3,a4⟩,hc⟩:=xlq (by simp[hs.still1,hp.still1,hf.still1,hg.still1]) key m
 exact⟨s',p',f',g',a1,a2,a3,a4,hc⟩
structure Lt7 (l:List Scene) (P:List Pq) (ph wt:List Int):Prop where
 few:few7 l P=true
 a:ph.length<=204
 b:wt.length<=204
 c:taskE l P ph wt=0->∀k,k<ph.length->at0 wt k<=20/\((at0 ph k).natAbs<=30000\/ph.length<=5)
def IsLt(l:List Scene)(P:List Pq)(ph wt:List Int)(v:AV):Prop:=∃b,v=B b/\(b=true->Lt7 l P ph wt)
theorem w_light7(d:Nat){s p f g:AV}{l:List Scene}{P:List Pq}{ph wt:List Int}(hs:Sl Scene.c s l)(hp:Sl Pq.c p P)(hf:Ints f ph)(hg:Ints g wt)(m:Mem) :
 ∃b,(b=true->Lt7 l P ph wt)/\xk4 (xk2 (d+6)) x1l [.agg [s,p,f,g]] m=some (B b,m):=by
 suffices key:RetF (IsLt l P ph wt) (xk2 (d+6) [] x1l [.agg [s,p,f,g]] mem0) by
  obtain⟨v,⟨b,rfl,h⟩,hc⟩:=xlq (by simp[hs.still1,hp.still1,hf.still1,hg.still1]) key m
  exact⟨b,h,hc⟩
 have no:∀m,RetF (IsLt l P ph wt) (some (B false,m)):=λm=>RetF.st rfl ⟨false,rfl,λh=>by cases h⟩
 rw[xgh]
 unfold xa2 x70
 simp[mem0,hs.one,hp.one,hf.one,hg.one,w_Few7 (d+4) hs hp]
 cases hfw:few7 l P with
 |false=>simp;exact no _
 |true=>
  have key2:ph.length<=204->wt.length<=204->∀fc,RetF (IsLt l P ph wt) ((xk4 (xk2 (d+5)) xj [.agg [s,p,f,g]] ((⟨[],1⟩:Mem).new (0,0,1) (.row [s,p,f,g] 0 false))).bind λp33=>(sNe p33.1 (I 0)).bind λt34=>xk5 t34 (some (B true,p33.2)) (x6z (xk2 (d+5)) [] 0 (.ptr (0,0,1) 0 0) p33.2 fc)):=λa1 a2 fc=>by
   rw[xuj d hs hp hf hg (by omega) (by omega)]
   by_cases hE:taskE l P ph wt=0
   rotate_left
   .simp[hE]
    exact RetF.st rfl ⟨true,rfl,λ_=>⟨hfw,a1,a2,λh=>absurd h hE⟩⟩
   have hT:=xqy hE
   have hlw:wt.length=ph.length:=by rw[hT.lw,hT.lp]
   simp[hE]
   unfold x6z
   refine xkq (N:=ph.length) (σ:=Unit) (λn k _ m fc=>x3w (xk2 (d+5)) [] 0 n (.ptr (0,0,1) 0 0) (I k) m fc) (λk _ m=>m.get (0,0,1)=some (.row [s,p,f,g] 0 false)/\∀j,j<k->at0 wt j<=20/\((at0 ph j).natAbs<=30000\/ph.length<=5)) _ ?_ ?_ NN 0 () _ _ (by omega) (by rw[xkj];omega) ⟨by simp,λj hj=>by omega⟩
   .rintro n k-m fc hk ⟨hb,hA⟩ next
    have hk':(k:Int)<(ph.length:Int):=by omega
    have ix:=hf.ix xk7 hk
    have ld:=λm=>xkn (m:=m) hk
    have ix2:=hg.ix xk7 (show k<wt.length by omega)
    have ld2:=λm=>xkn (m:=m) (show k<wt.length by omega)
    have hph:=hT.hp k hk
    have hsz:=λm=>w_Size (d+4) (at0 ph k) m (by omega) (by omega)
    simp only[x3w]
    unfold x6y
    simp[hb,hf.len xke,hk,ix,ld,hsz]
    by_cases c1:(30000:Int)<((at0 ph k).natAbs:Int)
    .simp[c1,hb,hf.len xke]
     by_cases c2:(5:Int)<(ph.length:Int)
     .simp[c2]
      exact no _
     .simp[c2,hb,ix2,ld2]
      by_cases c3:(20:Int)<at0 wt k
      .simp[c3];exact no _
      .simp(disch:=omega) [c3,xk6]
       exact next () m _ ⟨hb,λj hj=>by
        by_cases e:j=k
        .rw[e];omega
        .exact hA j (by omega)⟩
    .simp[c1,hb,ix2,ld2]
     by_cases c3:(20:Int)<at0 wt k
     .simp[c3];exact no _
     .simp(disch:=omega) [c3,xk6]
      exact next () m _ ⟨hb,λj hj=>by
       by_cases e:j=k
       .rw[e];omega
       .exact hA j (by omega)⟩
   .rintro n-m fc ⟨hb,hA⟩
    simp only[x3w]
    unfold x6y xd4
    simp[hb,hf.len xke]
    exact RetF.st rfl ⟨true,rfl,λ_=>⟨hfw,a1,a2,λ_=>hA⟩⟩
  simp[hf.len xke]
  by_cases c1:(20:Int)<(ph.length:Int)
  .simp[c1,hf.len xke]
   by_cases c2:(ph.length:Int)<200
   .simp[c2];exact no _
   .simp[c2,hf.len xke]
    by_cases c3:(204:Int)<(ph.length:Int)
    .simp[c3];exact no _
    .simp[c3,hg.len xke]
     by_cases c4:(204:Int)<(wt.length:Int)
     .simp[c4];exact no _
     .simp[c4]
      exact key2 (by omega) (by omega) _
  .have c3:¬(204:Int)<(ph.length:Int):=by omega
   simp[c1,hf.len xke,c3,hg.len xke]
   by_cases c4:(204:Int)<(wt.length:Int)
   .simp[c4];exact no _
   .simp[c4]
    exact key2 (by omega) (by omega) _
structure Ar where
 edge:Int
 to:Int
 sign:Int
 room:Int
 cost:Int
def Ar.c(a:Ar):List AV:=[I a.edge,I a.to,I a.sign,I a.room,I a.cost]
theorem Ar.len(a:Ar):a.c.length=5:=rfl
def e00:Edge:=⟨0,0,0,0⟩
def edgeAt(l:List Edge)(i:Nat):Edge:=l.getD i e00
theorem xsb{l:List Edge}{i:Nat}(h:i<l.length):edgeAt l i=l[i]:=by
 unfold edgeAt;rw[x12n,x12z h];rfl
def adjI(l:List Edge)(v:Int):List Int:=((List.range l.length).filter λi=>decide ((edgeAt l i).fr=v)||decide ((edgeAt l i).to=v)).map Int.ofNat
structure FrzS (S:AV) (n:Nat) (l:List Edge) (fl tu ex:List Int):Prop where
 sh:∃ev F TU X cells b,S=.plit [I n,ev,F,TU,X,.slit cells n b]/\Sl Edge.c ev l/\Ints F fl/\Ints TU tu/\Ints X ex/\cells.length=n/\∀(v:Nat) (hv:v<cells.length),Ints cells[v] (adjI l v)
 fll:fl.length=l.length
 tul:tu.length=n
 exl:ex.length=n
 n0:n<=200
 ll:l.length<=600
 ed:∀e∈l,EdgeIn n e/\e.fr≠e.to
 flb:∀k,-1000<=at0 fl k/\at0 fl k<=1000
 tub:∀k,-1000000<=at0 tu k/\at0 tu k<=1000000
end Go.Ix
set_option maxRecDepth 100000
namespace Go.Ix
open Go.Proofs
structure Tour where
 len:List Int
 last:List Ar
 bef:List Int
theorem Ar.one(a:Ar):a.c.all AV.one=true:=rfl
theorem Ar.sc(a:Ar):a.c.all isSc=true:=rfl
structure WInv (u sL:Nat) (S:AV) (n:Nat) (t:Tour) (m:Mem):Prop where
 s:m.get (u,0,2)=some (.row [S] 0 false)
 t4:m.get (u,1,4)=some (.row [nilS,nilS,nilS] 0 false)
 t5:m.get (u,25,5)=some (.row [.sref (u+1,sL,30) 0 0 n 1 true,.sref (u,16,26) 0 0 n 5 true,.sref (u,23,33) 0 0 n 1 true] 0 false)
 len:m.get (u+1,sL,30)=some (.row (t.len.flatMap intE) 0 false)
 last:m.get (u,16,26)=some (.row (t.last.flatMap Ar.c) 0 false)
 bef:m.get (u,23,33)=some (.row (t.bef.flatMap intE) 0 false)
 ll:t.len.length=n
 al:t.last.length=n
 bl:t.bef.length=n
 nx:u+1<m.next
theorem WInv.frame{u sL:Nat}{S:AV}{n:Nat}{t:Tour}{m m':Mem}(h:WInv u sL S n t m)(hm:∀id:Id,id.1<=u+1->id.2.2≠7->id.2.2≠41->m'.get id=m.get id)(hn:m.next<=m'.next):WInv u sL S n t m':=by
 obtain⟨a,b,c,d,e,f,g,i,j,k⟩:=h
 refine⟨?_,?_,?_,?_,?_,?_,g,i,j,by omega⟩<;>rw[hm _ (by simp) (by simp) (by simp)]<;>assumption
end Go.Ix
