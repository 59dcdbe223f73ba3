import Derived.Test.YtdfahbenacjgeaaWg8
import Derived.Test.YtdfahbenacjgeaaWg9
import Derived.Test.YtdfahbenacjgeaaWg4
import Derived.Test.YtdfahbenacjgeaaWg6
import Derived.Test.YtdfahbenacjgeaaWg5
set_option linter.unusedSimpArgs false
set_option linter.unusedVariables false
namespace Go.Ix
open Go.Proofs
def StOK7(N:Nat)(w:List Sp):Prop:=∀x∈w,(0<=x.p/\x.p<N)/\(x.s=1\/x.s=-1)
theorem StOK7.abs{ph:List Int}{M:Nat}(hM:∀k,k<ph.length->(at0 ph k).natAbs<=M):∀{w:List Sp},StOK7 ph.length w->(xE (phI ph) w).natAbs<=w.length*M
 |[],_=>by simp[xE]
 |x::r,h=>by
  have ih:=StOK7.abs hM (w:=r) λy hy=>h y (xc9 _ hy)
  obtain⟨h1,h2⟩:=h x (xcf ..);have h3:=hM x.p.toNat (by omega);have h4:(x.s*phI ph x.p).natAbs=(at0 ph x.p.toNat).natAbs:=(by unfold phI;rcases h2 with e|e<;>rw[e]<;>simp);rw[xE,xco,xd6];omega
def allM(N:Nat)(but:Int):List Int:=(freshM N).filter λi=>!decide (i=but)
theorem all_1(N:Nat):allM N (-1)=freshM N:=by unfold allM;rw[xew];intro x hx;have:=fresh_mem.mp hx;simp;omega
theorem uni_all{n:Nat}{P:List Pq}:tU n P (allM P.length (-1))=joinsM (freshM n) P:=by unfold tU;rw[all_1,prs_fresh]
theorem root_way{l:List Scene}{P:List Pq}(hR:Right7 l P){ph:List Int}{k:Nat}(hk:k<l.length):∃w,Wk P w (at0 (joinsM (freshM l.length) P) k) k/\AllF (sS (fW l P) l.length P) w/\NB P w/\xE (phI ph) w=uG l P ph k:=by have hF:=F9 (P:=P) (n:=l.length) hR.pr (fW l P);have hT:=x7s (P:=P) (n:=l.length) hR.pr (fW l P);have hL:=(Lab.fresh l.length).joins hR.pr;obtain⟨l0,l1,l2⟩:=hL.ok k hk;have hu:=hT.uni hR.pr;obtain⟨w,hw,hwF⟩:=V1 hR.pr hF.rng (v:=(at0 (joinsM (freshM l.length) P) k).toNat) (w:=k) (by omega) hk (by rw[hu];unfold Sm;exact l2);obtain⟨w2,hw2,hwF2,hN⟩:=nb_of hw hwF;rw[xd7 l0]at hw2;have hpot:=V9 hR.pr (phI ph) hF;refine⟨w2,hw2,hwF2,hN,?_⟩;have:=hpot.st.walk hw2 hwF2;rw[this];have hz:=hpot.z (at0 (joinsM (freshM l.length) P) k).toNat (by omega) (by rw[hu,l2];omega);rw[xd7 l0]at hz;unfold uG;omega
def G2(x:Int):Bool:=!(wi x (-100000000) 100000000)
def G3(x:Int):Bool:=!(wi x 0 1000)
def yF(l:List Scene)(P:List Pq)(ph wt:List Int):Int:=
 bif !decide ((yB l P).2=0)then(yB l P).2 else bif !decide (ph.length=P.length)||!decide (wt.length=P.length)then 10 else bif ph.any G2 then 2 else bif wt.any G3 then 2 else 0
structure TaskOK (l:List Scene) (P:List Pq) (ph wt:List Int):Prop where
 r:Right7 l P
 lp:ph.length=P.length
 lw:wt.length=P.length
 hp:∀k,k<ph.length->-100000000<=at0 ph k/\at0 ph k<=100000000
 hw:∀k,k<wt.length->0<=at0 wt k/\at0 wt k<=1000
theorem any_wi{q:Int->Bool}{a b:Int}(hq:∀x,q x=!(wi x a b)){l:List Int}(h:l.any q=false):∀k,k<l.length->a<=at0 l k/\at0 l k<=b:=λk hk=>by rw[xg8]at h;have:=h l[k] (xcp hk);rw[hq]at this;rw[rJ hk];exact xC (by simpa using this)
theorem x80{l:List Scene}{P:List Pq}{ph wt:List Int}(h:yF l P ph wt=0):TaskOK l P ph wt:=by
 unfold yF at h;by_cases he:(yB l P).2=0
 .by_cases c1:ph.length=P.length
  .by_cases c2:wt.length=P.length
   .cases c3:ph.any G2 with
    |true=>rw[c3]at h;simp[he,c1,c2]at h
    |false=>
     cases c4:wt.any G3 with
     |true=>rw[c3,c4]at h;simp[he,c1,c2]at h
     |false=>exact⟨xa6 he,c1,c2,any_wi (λ_=>rfl) c3,any_wi (λ_=>rfl) c4⟩
   .simp[he,c2]at h
  .simp[he,c1]at h
 .simp[he]at h
theorem tells_ph(d:Nat):A5 (qG (d+3)) (.clo bN []) G2:=by intro hs x m;refine⟨m.next+1,?_⟩;show qG (d+3) hs bN [I x] m=_;rw[x16];unfold lC gR G2;simp[x6q]
theorem tells_wt(d:Nat):A5 (qG (d+2)) (.clo bP []) G3:=by intro hs x m;refine⟨m.next+1,?_⟩;show qG (d+2) hs bP [I x] m=_;rw[x18];unfold lF gT G3;simp[A6]
theorem x81(d:Nat){s p f g:AV}{l:List Scene}{P:List Pq}{ph wt:List Int}(hs:Sl Scene.c s l)(hp:Sl Pq.c p P)(hf:Ints f ph)(hg:Ints g wt)(h1:ph.length<1000000)(h2:wt.length<1000000)(m:Mem) :
 qK (qG (d+8)) bL [.agg [s,p,f,g]] m=some (I (yF l P ph wt),m):=by
 refine tM (by simp[hs.still1,hp.still1,hf.still1,hg.still1]) ?_ m;rw[xv];unfold kR gA;have c3:=λm=>x6o (d+5) hf h1 (tells_ph (d+2)) rfl m
 have c4:=λm=>x6o (d+5) hg h2 (tells_wt (d+3)) rfl m
 simp[mem0,hs.one,hp.one,hf.one,hg.one,w_netErr (d+1) hs hp];unfold yF;by_cases he:(yB l P).2=0
 .simp[he,hp.len A8,hf.len tH];by_cases e1:ph.length=P.length
  .simp[e1,hg.len tH];by_cases e2:wt.length=P.length
   .simp[e2,c3];cases a3:ph.any G2 with
    |true=>simp;exact RetF.st rfl rfl
    |false=>
     simp[c4];cases a4:wt.any G3 with
     |true=>simp;exact RetF.st rfl rfl
     |false=>simp;exact RetF.st rfl rfl
   .have e2':¬(wt.length:Int)=(P.length:Int):=(by omega);simp[e2,e2'];exact RetF.st rfl rfl
  .have e1':¬(ph.length:Int)=(P.length:Int):=(by omega);simp[e1,e1'];exact RetF.st rfl rfl
 .simp[he];exact RetF.st rfl rfl
def CI(m:Mem)(u:Nat)(a:AV)(l:List Int):Prop:=(l=[]/\a=.slit [] 0 true)\/(l≠[]/\a=.sref (u,3,5) 0 0 l.length 1 true/\Ow intE m (u,3,5) l)
theorem CI.one{m:Mem}{u:Nat}{a:AV}{l:List Int}(h:CI m u a l):a.cells=[a]/\a.one=true/\still1 a=still1 a:=by rcases h with ⟨-,rfl⟩|⟨-,rfl,-⟩<;>exact⟨rfl,rfl,rfl⟩
theorem CI.fr{m m':Mem}{u:Nat}{a:AV}{l:List Int}(h:CI m u a l)(e:m'.get (u,3,5)=m.get (u,3,5)):CI m' u a l:=by
 rcases h with h|⟨h0,h1,h2⟩
 .exact .inl h
 .exact .inr ⟨h0,h1,h2.fr e⟩
theorem CI.frz{m:Mem}{u:Nat}{a:AV}{l:List Int}(h:CI m u a l)(k:Nat):∃a',Ints a' l/\Go.Ix.frz m.get (k+2) a=some a':=by
 rcases h with ⟨rfl,rfl⟩|⟨-,rfl,h⟩
 .exact⟨.slit [] 0 true,Sl.lit [] true,rfl⟩
 .exact⟨_,Sl.lit l false,F4 (k:=k) rX yY h⟩
theorem frz_agg4{objs:Id->Option Ob}{a b c e a' b' c' e':AV}{k:Nat}(ha:Go.Ix.frz objs (k+1) a=some a')(hb:Go.Ix.frz objs (k+1) b=some b')(hc:Go.Ix.frz objs (k+1) c=some c')(he:Go.Ix.frz objs (k+1) e=some e'):Go.Ix.frz objs (k+2) (.agg [a,b,c,e])=some (.agg [a',b',c',e']):=by show([a,b,c,e].mapM (Go.Ix.frz objs (k+1))).map AV.agg=_;simp only[xcx,xdm,ha,hb,hc,he];rfl
def uB(k:Nat):ByteArray:=⟨#[UInt8.ofNat (48+k)]⟩
def nm8(k:Nat):ByteArray:=⟨#[115,UInt8.ofNat (48+k)]⟩
theorem e_dec8_0(d:Nat):((qG (d+3) [] aJ [I 0] mem0).bind λp=>Go.Ix.frz p.2.get qN p.1)=some (T (uB 0)):=by kernel_rfl
theorem t_add8_0:qT Try.prog .add aB (.const (.string ⟨#[115]⟩)) (.tmp 21) (T ⟨#[115]⟩) (T (uB 0))=some (T (nm8 0)):=by kernel_rfl
theorem e_dec8_1(d:Nat):((qG (d+3) [] aJ [I 1] mem0).bind λp=>Go.Ix.frz p.2.get qN p.1)=some (T (uB 1)):=by kernel_rfl
theorem t_add8_1:qT Try.prog .add aB (.const (.string ⟨#[115]⟩)) (.tmp 21) (T ⟨#[115]⟩) (T (uB 1))=some (T (nm8 1)):=by kernel_rfl
theorem e_dec8_2(d:Nat):((qG (d+3) [] aJ [I 2] mem0).bind λp=>Go.Ix.frz p.2.get qN p.1)=some (T (uB 2)):=by kernel_rfl
theorem t_add8_2:qT Try.prog .add aB (.const (.string ⟨#[115]⟩)) (.tmp 21) (T ⟨#[115]⟩) (T (uB 2))=some (T (nm8 2)):=by kernel_rfl
theorem e_dec8_3(d:Nat):((qG (d+3) [] aJ [I 3] mem0).bind λp=>Go.Ix.frz p.2.get qN p.1)=some (T (uB 3)):=by kernel_rfl
theorem t_add8_3:qT Try.prog .add aB (.const (.string ⟨#[115]⟩)) (.tmp 21) (T ⟨#[115]⟩) (T (uB 3))=some (T (nm8 3)):=by kernel_rfl
theorem e_dec8_4(d:Nat):((qG (d+3) [] aJ [I 4] mem0).bind λp=>Go.Ix.frz p.2.get qN p.1)=some (T (uB 4)):=by kernel_rfl
theorem t_add8_4:qT Try.prog .add aB (.const (.string ⟨#[115]⟩)) (.tmp 21) (T ⟨#[115]⟩) (T (uB 4))=some (T (nm8 4)):=by kernel_rfl
theorem e_dec8_5(d:Nat):((qG (d+3) [] aJ [I 5] mem0).bind λp=>Go.Ix.frz p.2.get qN p.1)=some (T (uB 5)):=by kernel_rfl
theorem t_add8_5:qT Try.prog .add aB (.const (.string ⟨#[115]⟩)) (.tmp 21) (T ⟨#[115]⟩) (T (uB 5))=some (T (nm8 5)):=by kernel_rfl
theorem e_dec8_6(d:Nat):((qG (d+3) [] aJ [I 6] mem0).bind λp=>Go.Ix.frz p.2.get qN p.1)=some (T (uB 6)):=by kernel_rfl
theorem t_add8_6:qT Try.prog .add aB (.const (.string ⟨#[115]⟩)) (.tmp 21) (T ⟨#[115]⟩) (T (uB 6))=some (T (nm8 6)):=by kernel_rfl
theorem e_dec8_7(d:Nat):((qG (d+3) [] aJ [I 7] mem0).bind λp=>Go.Ix.frz p.2.get qN p.1)=some (T (uB 7)):=by kernel_rfl
theorem t_add8_7:qT Try.prog .add aB (.const (.string ⟨#[115]⟩)) (.tmp 21) (T ⟨#[115]⟩) (T (uB 7))=some (T (nm8 7)):=by kernel_rfl
theorem e_dec8(d:Nat){k:Nat}(hk:k<8):((qG (d+3) [] aJ [I (k:Int)] mem0).bind λp=>Go.Ix.frz p.2.get qN p.1)=some (T (uB k)):=by
 have:k=0\/k=1\/k=2\/k=3\/k=4\/k=5\/k=6\/k=7:=(by omega);rcases this with rfl|rfl|rfl|rfl|rfl|rfl|rfl|rfl
 .exact e_dec8_0 d
 .exact e_dec8_1 d
 .exact e_dec8_2 d
 .exact e_dec8_3 d
 .exact e_dec8_4 d
 .exact e_dec8_5 d
 .exact e_dec8_6 d
 .exact e_dec8_7 d
theorem w_Dec8(d:Nat){k:Nat}(hk:k<8)(m:Mem):qK (qG (d+3)) aJ [I (k:Int)] m=some (T (uB k),m):=tM rfl (F2 (e_dec8 d hk)) m
theorem t_add8{k:Nat}(hk:k<8):qT Try.prog .add aB (.const (.string ⟨#[115]⟩)) (.tmp 21) (T ⟨#[115]⟩) (T (uB k))=some (T (nm8 k)):=by
 have:k=0\/k=1\/k=2\/k=3\/k=4\/k=5\/k=6\/k=7:=(by omega);rcases this with rfl|rfl|rfl|rfl|rfl|rfl|rfl|rfl
 .exact t_add8_0
 .exact t_add8_1
 .exact t_add8_2
 .exact t_add8_3
 .exact t_add8_4
 .exact t_add8_5
 .exact t_add8_6
 .exact t_add8_7
def atE(l:List Ep)(k:Nat):Ep:=(l[k]?).getD ⟨0,0,0,0⟩
theorem xF{l:List Ep}{k:Nat}(h:k<l.length):atE l k=l[k]:=by unfold atE;rw[xci h];rfl
def scn8(l:List Ep):List Scene:=(List.range l.length).map λk=>⟨nm8 k,(atE l k).day,(atE l k).bl⟩
theorem yG(l:List Ep):(scn8 l).length=l.length:=by simp[scn8]
theorem scn8_snoc{l:List Ep}{k:Nat}(hk:k<l.length):(scn8 l).take (k+1)=(scn8 l).take k++[⟨nm8 k,l[k].day,l[k].bl⟩]:=by rw[xd9 (by rw[yG];exact hk)];simp[scn8,xF hk]
def inP(n:Nat)(p:Pq):Bool:=wi p.a 0 ((n:Int)-1)&&wi p.b 0 ((n:Int)-1)
def phD(l:List Ep)(p:Pq):Int:=(atE l p.b.toNat).ph-(atE l p.a.toNat).ph
def ph8(l:List Ep)(P:List Pq):List Int:=(P.filter (inP l.length)).map (phD l)
def on8(n:Nat):List Int:=List.replicate n 1
theorem on8_snoc(k:Nat):on8 (k+1)=on8 k++[1]:=List.replicate_succ'
theorem ph8_snoc{l:List Ep}{P:List Pq}{k:Nat}(hk:k<P.length):ph8 l (P.take (k+1))=ph8 l (P.take k)++(if inP l.length P[k]=true then[phD l P[k]]else[]):=by unfold ph8;rw[xd9 hk,xex,xds];congr 1;by_cases c:inP l.length P[k]=true<;>simp[xek,c]
theorem mkLit_Sc{x:ByteArray}{p q:Int}{id:Id}{m:Mem}{R:Type}{k:AV->Mem->Option R}:sY [T ⟨#[]⟩,I 0,I 0] [(0,3,.agg [T x,I p,I q])] 1 3 id m k=k (.slit [T x,I p,I q] 1 true) m:=by simp[sY,tP,sF,xfe,clean1,AV.one,Value.oneCell',T]
theorem build_Sc{x:ByteArray}{p q:Int}:rI [T ⟨#[]⟩,I 0,I 0] [(0,1,T x),(1,1,I p),(2,1,I q)]=some (.agg [T x,I p,I q]):=by simp[rI,tP]
theorem elems_Sc{x:ByteArray}{p q:Int}(objs:Id->Option Ob):elems objs 3 (.slit [T x,I p,I q] 1 true)=some (Scene.c ⟨x,p,q⟩,1):=rfl
theorem x82{x:Int}(objs:Id->Option Ob):elems objs 1 (.slit [I x] 1 true)=some (intE x,1):=rfl
theorem M3:Try.prog.underlying aN=some (.slice aO):=by kernel_rfl
theorem z_task8:fK=[nilS,nilS,nilS,nilS]:=by kernel_rfl
abbrev okT8(t:Nat)(id:Id):Prop:=id.1=0/\id.2.2=t
structure SkI (s:ByteArray) (a:AV) (l:List Ep) (P:List Pq) (i k:Nat) (m:Mem):Prop where
 nx:m.next=1
 g2:m.get (0,0,2)=some (.row [T s,a] 0 false)
 g4:m.get (0,1,4)=some (.row [nilS,nilS,nilS,nilS] 0 false)
 g5:∃sc pr ph on,m.get (0,2,5)=some (.row [sc,pr,ph,on] 0 false)/\Gk 3 Scene.c (okT8 37) m sc ((scn8 l).take i)/\Gk 2 Pq.c (okT8 63) m pr (P.take k)/\Gk 1 intE (okT8 101) m ph (ph8 l (P.take k))/\Gk 1 intE (okT8 69) m on (on8 k)
theorem SkI.fr{s:ByteArray}{a:AV}{l:List Ep}{P:List Pq}{i k:Nat}{m m':Mem}(h:SkI s a l P i k m)(hn:m'.next=m.next)(hg:∀j:Id,j.1=0->(j.2.2=2\/j.2.2=4\/j.2.2=5\/j.2.2=37\/j.2.2=63\/j.2.2=101\/j.2.2=69)->m'.get j=m.get j):SkI s a l P i k m':=by obtain⟨h1,h2,h3,sc,pr,ph,on,h5,e1,e2,e3,e4⟩:=h;refine⟨by rw[hn,h1],by rw[hg _ rfl (by simp)];exact h2,by rw[hg _ rfl (by simp)];exact h3,sc,pr,ph,on,by rw[hg _ rfl (by simp)];exact h5,e1.frame λj hj=>hg _ hj.1 (by have:=hj.2;omega),e2.frame λj hj=>hg _ hj.1 (by have:=hj.2;omega),e3.frame λj hj=>hg _ hj.1 (by have:=hj.2;omega),e4.frame λj hj=>hg _ hj.1 (by have:=hj.2;omega)⟩
def StK(l:List Ep)(P:List Pq)(v:AV):Prop:=∃s p f g,v=.agg [s,p,f,g]/\Sl Scene.c s (scn8 l)/\Sl Pq.c p P/\Ints f (ph8 l P)/\Ints g (on8 P.length)
theorem ph8_le(l:List Ep)(P:List Pq):(ph8 l P).length<=P.length:=by unfold ph8;rw[xep];exact xgm _ _
theorem l_stk(d:Nat){s:ByteArray}{a b:AV}{l:List Ep}{P:List Pq}(h:Sl Ep.c a l)(hb:Sl Pq.c b P)(h0:l≠[])(h8:l.length<=8)(h12:P.length<=12)(hph:∀e∈l,-16000<=e.ph/\e.ph<=16000)(m:Mem)(fc:Nat)(hI:SkI s a l P l.length 0 m) :
 RetF (StK l P) (fV (qG (d+5)) [] 0 b (.ptr (0,0,2) 0 0) (.ptr (0,1,4) 0 0) (.ptr (0,2,5) 0 0) m fc):=by
 have hl0:0<l.length:=xga.mpr h0;unfold fV;refine tW (N:=P.length) (σ:=Unit) (λn k _ m fc=>cF (qG (d+5)) [] 0 n b (.ptr (0,0,2) 0 0) (.ptr (0,1,4) 0 0) (.ptr (0,2,5) 0 0) (I k) m fc) (λk _ m=>SkI s a l P l.length k m) _ ?_ ?_ NN 0 () m _ (by omega) (by rw[rQ];omega) hI
 .rintro n k-m fc hk ⟨nx,g2,g4,sc,pr,ph,on,g5,e1,e2,e3,e4⟩ next;have hk':(k:Int)<(P.length:Int):=(by omega);have ixp:=hb.ix Pq.len hk;have ld:=λm=>vW (m:=m) (enc:=Pq.c) Pq.len (by omega) hk
  have la:∀m,sLd false 1 (.plit ((P.drop k).flatMap Pq.c)) m=some (I P[k].a):=λm=>by have:=wK (enc:=Pq.c) (m:=m) hk 0 (v:=I P[k].a) rfl;simpa using this
  have lb:∀m,sLd false 1 (.plit (((P.drop k).flatMap Pq.c).drop 1)) m=some (I P[k].b):=λm=>wK (enc:=Pq.c) (m:=m) hk 1 (v:=I P[k].b) rfl
  have ia:tE 2 1 (.plit ((P.drop k).flatMap Pq.c)) (I 0)=some (.plit ((P.drop k).flatMap Pq.c)):=(by simp[tE,asI]);have ib:tE 2 1 (.plit ((P.drop k).flatMap Pq.c)) (I 1)=some (.plit (((P.drop k).flatMap Pq.c).drop 1)):=(by simp[tE,asI]);have hsn:=ph8_snoc (l:=l) hk;have hpt:P.take (k+1)=P.take k++[P[k]]:=xd9 hk;have hpl:=ph8_le l (P.take k);have hptl:(P.take k).length<=P.length:=(by rw[xey];omega);generalize P[k]=q at *
  obtain⟨x2,m2,a1,a2,a3,a4,a5,a6⟩:=e2.app (bytes:=16) (id0:=(0,fc+4+19,63)) Pq.len (by omega) ⟨rfl,rfl⟩ (by unfold qW;omega) q;have s5:m2.get (0,2,5)=some (.row [sc,pr,ph,on] 0 false):=(by rw[a6 _ (by simp[okT8])];exact g5);generalize hm3:m2.set (0,2,5) (.row [sc,x2,ph,on] 0 false)=m3;have e4':Gk 1 intE (okT8 69) m3 on (on8 k):=e4.frame λj hj=>by rw[<-hm3,Mem.get_set,xc1 (by rintro rfl;simp[okT8]at hj),a6 _ (by intro h;have h1:=h.2;have h2:=hj.2;omega)]
  obtain⟨x4,m4,b1,b2,b3,b4,b5,b6⟩:=e4'.app (bytes:=8) (id0:=(0,fc+4+26,69)) rX (by omega) ⟨rfl,rfl⟩ (by unfold qW on8;simp;omega) 1;have s5':m4.get (0,2,5)=some (.row [sc,x2,ph,on] 0 false):=(by rw[b6 _ (by simp[okT8]),<-hm3];simp);generalize hm5:m4.set (0,2,5) (.row [sc,x2,ph,x4] 0 false)=m5;have hfr:∀j:Id,j≠(0,2,5)->¬okT8 63 j->¬okT8 69 j->m5.get j=m.get j:=λj hj h1 h2=>by rw[<-hm5,Mem.get_set,xc1 hj,b6 _ h2,<-hm3,Mem.get_set,xc1 hj,a6 _ h1]
  have n5:m5.next=1:=(by rw[<-hm5];show m4.next=1;rw[b5,<-hm3];show m2.next=1;rw[a5,nx]);have k2:m5.get (0,0,2)=some (.row [T s,a] 0 false):=(by rw[hfr _ (by simp) (by simp[okT8]) (by simp[okT8])];exact g2);have k4:m5.get (0,1,4)=some (.row [nilS,nilS,nilS,nilS] 0 false):=(by rw[hfr _ (by simp) (by simp[okT8]) (by simp[okT8])];exact g4);have k5:m5.get (0,2,5)=some (.row [sc,x2,ph,x4] 0 false):=(by rw[<-hm5];simp);have i1:Gk 3 Scene.c (okT8 37) m5 sc ((scn8 l).take l.length):=e1.frame λj hj=>hfr _ (by rintro rfl;simp[okT8]at hj) (by intro h;have h1:=h.2;have h2:=hj.2;omega) (by intro h;have h1:=h.2;have h2:=hj.2;omega)
  have i2:Gk 2 Pq.c (okT8 63) m5 x2 (P.take (k+1)):=(by rw[hpt];exact a2.frame λj hj=>by rw[<-hm5,Mem.get_set,xc1 (by rintro rfl;simp[okT8]at hj),b6 _ (by intro h;have h1:=h.2;have h2:=hj.2;omega),<-hm3,Mem.get_set,xc1 (by rintro rfl;simp[okT8]at hj)]);have i3:Gk 1 intE (okT8 101) m5 ph (ph8 l (P.take k)):=e3.frame λj hj=>hfr _ (by rintro rfl;simp[okT8]at hj) (by intro h;have h1:=h.2;have h2:=hj.2;omega) (by intro h;have h1:=h.2;have h2:=hj.2;omega)
  have i4:Gk 1 intE (okT8 69) m5 x4 (on8 (k+1)):=(by rw[on8_snoc];exact b2.frame λj hj=>by rw[<-hm5,Mem.get_set,xc1 (by rintro rfl;simp[okT8]at hj)]);have hw1:w64 ((l.length:Int)-1)=(l.length:Int)-1:=qQ (by omega) (by omega);have hw2:w64 ((k:Int)+1)=(k:Int)+1:=qQ (by omega) (by omega);have one5:sc.one=true/\x2.one=true/\ph.one=true/\x4.one=true/\pr.one=true/\on.one=true:=⟨e1.one.2,a4,e3.one.2,b4,e2.one.2,e4.one.2⟩;have st1:xX 1 0 1 x2 (some (.row [sc,pr,ph,on] 0 false))=some (.row [sc,x2,ph,on] 0 false):=(by simp[a3,a4]);have s3:m3.get (0,2,5)=some (.row [sc,x2,ph,on] 0 false):=(by rw[<-hm3];simp);have st2:xX 1 0 3 x4 (some (.row [sc,x2,ph,on] 0 false))=some (.row [sc,x2,ph,x4] 0 false):=(by simp[b3,b4]);have nxt:∀m6 fc',SkI s a l P l.length (k+1) m6->RetF (StK l P) (eS (qG (d+5)) [] 0 (cF (qG (d+5)) [] 0 n) b (.ptr (0,0,2) 0 0) (.ptr (0,1,4) 0 0) (.ptr (0,2,5) 0 0) (I (k:Int)) m6 fc'):=λm6 fc' h6=>by unfold eS;simp only[u5,qV,hw2];exact next () m6 _ h6
  simp only[cF];unfold fU nC;simp only[hb.len M3,sK,hk',xcc,sM,qV,ixp,ia,la,ib,lb,A2,vJ,g5,xY,xdi,sN,xd5,xe0,xcd,xZ,List.head?_cons,v3,build_P,mkLit_P,elems_P,a1,A3,s5,st1,hm3,s3,wI,T0,x82,b1,s5',st2,hm5,k2,h.len uA,xV,hw1,u7,yW,yX,F0];by_cases c:inP l.length q=true;rotate_left
  .rw[xc1 c,xe6]at hsn;have hfin:SkI s a l P l.length (k+1) m5:=⟨n5,k2,k4,sc,x2,ph,x4,k5,i1,i2,by rw[hsn];exact i3,i4⟩;unfold inP at c;cases c1:wi q.a 0 ((l.length:Int)-1)with
   |false=>simp;exact nxt _ _ hfin
   |true=>rw[c1,xda]at c;have c2:wi q.b 0 ((l.length:Int)-1)=false:=(by simpa using c);simp[k2,h.len uA,hw1,u7,c2];exact nxt _ _ hfin
  .rw[xc2 c]at hsn;have hc:=c;unfold inP at c;rw[xc6]at c;obtain⟨c1,c2⟩:=c;obtain⟨p1,p2⟩:=xC c1;obtain⟨p3,p4⟩:=xC c2;have ja:q.a.toNat<l.length:=(by omega);have jb:q.b.toNat<l.length:=(by omega);have xa:sIx 4 a (I q.a)=some (.plit ((l.drop q.a.toNat).flatMap Ep.c)):=(by have:=h.ix Ep.len ja;rwa[xd7 p1]at this);have xb:sIx 4 a (I q.b)=some (.plit ((l.drop q.b.toNat).flatMap Ep.c)):=(by have:=h.ix Ep.len jb;rwa[xd7 p3]at this);have va:∀m,sLd false 1 (.plit (((l.drop q.a.toNat).flatMap Ep.c).drop 2)) m=some (I (atE l q.a.toNat).ph):=λm=>wK (enc:=Ep.c) (m:=m) ja 2 (v:=I (atE l q.a.toNat).ph) (by rw[xF ja];rfl)
   have vb:∀m,sLd false 1 (.plit (((l.drop q.b.toNat).flatMap Ep.c).drop 2)) m=some (I (atE l q.b.toNat).ph):=λm=>wK (enc:=Ep.c) (m:=m) jb 2 (v:=I (atE l q.b.toNat).ph) (by rw[xF jb];rfl)
   have ba:=hph _ (xcp ja);have bb:=hph _ (xcp jb);rw[<-xF ja]at ba;rw[<-xF jb]at bb;have hw3:w64 ((atE l q.b.toNat).ph-(atE l q.a.toNat).ph)=phD l q:=qQ (by omega) (by omega);obtain⟨x7,m7,f1,f2,f3,f4,f5,f6⟩:=i3.app (bytes:=8) (id0:=(0,fc+4+59,101)) rX (by omega) ⟨rfl,rfl⟩ (by unfold qW;omega) (phD l q);have s7:m7.get (0,2,5)=some (.row [sc,x2,ph,x4] 0 false):=(by rw[f6 _ (by simp[okT8])];exact k5);have st3:xX 1 0 2 x7 (some (.row [sc,x2,ph,x4] 0 false))=some (.row [sc,x2,x7,x4] 0 false):=(by simp[f3,f4]);simp[c1,c2,k2,h.len uA,hw1,u7,k5,xa,xb,va,vb,hw3,wI,x82,f1,s7,st3,rB,vU,tR];generalize hm8:Mem.set m7 _ _=m8;have hf8:∀j:Id,j≠(0,2,5)->¬okT8 101 j->m8.get j=m5.get j:=λj hj h1=>by rw[<-hm8,Mem.get_set,xc1 hj,f6 _ h1]
   refine nxt _ _ ⟨by rw[<-hm8];show m7.next=1;rw[f5,n5],by rw[hf8 _ (by simp) (by simp[okT8])];exact k2,by rw[hf8 _ (by simp) (by simp[okT8])];exact k4,sc,x2,x7,x4,by rw[<-hm8];simp,?_,?_,?_,?_⟩
   .exact i1.frame λj hj=>hf8 _ (by rintro rfl;simp[okT8]at hj) (by intro h;have h1:=h.2;have h2:=hj.2;omega)
   .exact i2.frame λj hj=>hf8 _ (by rintro rfl;simp[okT8]at hj) (by intro h;have h1:=h.2;have h2:=hj.2;omega)
   .rw[hsn];exact f2.frame λj hj=>by rw[<-hm8,Mem.get_set,xc1 (by rintro rfl;simp[okT8]at hj)]
   .exact i4.frame λj hj=>hf8 _ (by rintro rfl;simp[okT8]at hj) (by intro h;have h1:=h.2;have h2:=hj.2;omega)
 .rintro n-m fc ⟨nx,g2,g4,sc,pr,ph,on,g5,e1,e2,e3,e4⟩;rw[xca (by rw[yG];exact xc7 _)]at e1;rw[xca (xc7 _)]at e2 e3;have ho:sc.one=true/\pr.one=true/\ph.one=true/\on.one=true:=⟨e1.one.2,e2.one.2,e3.one.2,e4.one.2⟩;have hkk:¬((P.length:Int)<(P.length:Int)):=(by omega);simp only[cF];unfold fU nB;simp[hb.len M3,g5,g4,ho.1,ho.2.1,ho.2.2.1,ho.2.2.2,sG];generalize hm2:Mem.set m _ _=m2;have hf:∀j:Id,j≠(0,1,4)->m2.get j=m.get j:=λj hj=>by rw[<-hm2,Mem.get_set,xc1 hj]
  obtain⟨s',hs,fs⟩:=(e1.frame (m':=m2) λj hj=>hf _ (by rintro rfl;simp[okT8]at hj)).frz (k:=3) Scene.len Scene.stillA;obtain⟨p',hp,fp⟩:=(e2.frame (m':=m2) λj hj=>hf _ (by rintro rfl;simp[okT8]at hj)).frz (k:=3) Pq.len Pq.still;obtain⟨f',hf',ff⟩:=(e3.frame (m':=m2) λj hj=>hf _ (by rintro rfl;simp[okT8]at hj)).frz (k:=3) rX yY;obtain⟨o',ho',fo⟩:=(e4.frame (m':=m2) λj hj=>hf _ (by rintro rfl;simp[okT8]at hj)).frz (k:=3) rX yY;exact RetF.mk (frz_agg4 (k:=4) fs fp ff fo) ⟨s',p',f',o',rfl,hs,hp,hf',ho'⟩
theorem w_stackOf(d:Nat){s:ByteArray}{a b:AV}{l:List Ep}{P:List Pq}(h:Sl Ep.c a l)(hb:Sl Pq.c b P)(h0:l≠[])(h8:l.length<=8)(h12:P.length<=12)(hph:∀e∈l,-16000<=e.ph/\e.ph<=16000)(m:Mem) :
 ∃v,StK l P v/\qK (qG (d+6)) cR [.agg [T s,a],b] m=some (v,m):=by
 refine d8 (by simp[h.still1,hb.still]) ?_ m;rw[xu];unfold kQ fZ;simp[mem0,h.one,z_task8];generalize hm1:Mem.new _ _ _=m1;have n1:m1.next=1:=(by rw[<-hm1];rfl);have g2:m1.get (0,0,2)=some (.row [T s,a] 0 false):=(by rw[<-hm1];simp);have g4:m1.get (0,1,4)=some (.row [nilS,nilS,nilS,nilS] 0 false):=(by rw[<-hm1];simp);have g5:m1.get (0,2,5)=some (.row [nilS,nilS,nilS,nilS] 0 false):=(by rw[<-hm1];simp);unfold nD;refine tW (N:=l.length) (σ:=Unit) (λn k _ m fc=>dQ (qG (d+5)) [] 0 n b (.ptr (0,0,2) 0 0) (.ptr (0,1,4) 0 0) (.ptr (0,2,5) 0 0) (I k) m fc) (λk _ m=>SkI s a l P k 0 m) _ ?_ ?_ NN 0 () m1 _ (by omega) (by rw[rQ];omega) ⟨n1,g2,g4,nilS,nilS,nilS,nilS,g5,Gk.nil,Gk.nil,Gk.nil,Gk.nil⟩
 .rintro n k-m fc hk ⟨nx,g2,g4,sc,pr,ph,on,g5,e1,e2,e3,e4⟩ next;have hk':(k:Int)<(l.length:Int):=(by omega);have ix:=h.ix Ep.len hk;have l0:∀m,sLd false 1 (.plit ((l.drop k).flatMap Ep.c)) m=some (I l[k].day):=λm=>by have:=wK (enc:=Ep.c) (m:=m) hk 0 (v:=I l[k].day) rfl;simpa using this
  have l1:∀m,sLd false 1 (.plit (((l.drop k).flatMap Ep.c).drop 1)) m=some (I l[k].bl):=λm=>wK (enc:=Ep.c) (m:=m) hk 1 (v:=I l[k].bl) rfl
  have hsn:=scn8_snoc hk;have htl:((scn8 l).take k).length<=8:=(by rw[xey,yG];omega);have hdc:=λm=>w_Dec8 (d+2) (show k<8 by omega) m
  have hta:=t_add8 (show k<8 by omega);obtain⟨x,m2,a1,a2,a3,a4,a5,a6⟩:=e1.app (bytes:=32) (id0:=(0,fc+25,37)) Scene.len (by omega) ⟨rfl,rfl⟩ (by unfold qW;omega) ⟨nm8 k,l[k].day,l[k].bl⟩;have s5:m2.get (0,2,5)=some (.row [sc,pr,ph,on] 0 false):=(by rw[a6 _ (by simp[okT8])];exact g5);have o2:pr.one=true/\ph.one=true/\on.one=true:=⟨e2.one.2,e3.one.2,e4.one.2⟩;have st1:xX 1 0 0 x (some (.row [sc,pr,ph,on] 0 false))=some (.row [x,pr,ph,on] 0 false):=(by simp[a3,a4]);generalize l[k]=e at *
  have hw2:w64 ((k:Int)+1)=(k:Int)+1:=qQ (by omega) (by omega);simp only[dQ];unfold fY;simp only[A2,qV,vJ,g2,xY,xdi,sN,xd5,xe0,xcd,xZ,List.head?_cons,h.len uA,sK,hk',xcc,sM,g5,hdc,hta,ix,S7,l0,l1,T1,build_Sc,mkLit_Sc,elems_Sc,a1,A3,s5,st1];simp[mkM,cAp,tR,nx,rB,vU,hw2];generalize hm3:Mem.set m2 _ _=m3;have hf:∀j:Id,j≠(0,2,5)->¬okT8 37 j->m3.get j=m.get j:=λj hj h1=>by rw[<-hm3,Mem.get_set,xc1 hj,a6 _ h1]
  refine next () m3 _ ⟨by rw[<-hm3];show m2.next=1;rw[a5,nx],by rw[hf _ (by simp) (by simp[okT8])];exact g2,by rw[hf _ (by simp) (by simp[okT8])];exact g4,x,pr,ph,on,by rw[<-hm3];simp,?_,?_,?_,?_⟩
  .rw[hsn];exact a2.frame λj hj=>by rw[<-hm3,Mem.get_set,xc1 (by rintro rfl;simp[okT8]at hj)]
  .exact e2.frame λj hj=>hf _ (by rintro rfl;simp[okT8]at hj) (by intro h;have h1:=h.2;have h2:=hj.2;omega)
  .exact e3.frame λj hj=>hf _ (by rintro rfl;simp[okT8]at hj) (by intro h;have h1:=h.2;have h2:=hj.2;omega)
  .exact e4.frame λj hj=>hf _ (by rintro rfl;simp[okT8]at hj) (by intro h;have h1:=h.2;have h2:=hj.2;omega)
 .rintro n-m fc hI;have hI2:=hI;obtain⟨nx,g2,g4,sc,pr,ph,on,g5,e1,e2,e3,e4⟩:=hI;simp only[dQ];unfold fY;simp[g2,h.len uA];exact l_stk d h hb h0 h8 h12 hph m _ hI2
structure Ar where
 edge:Int
 to:Int
 sign:Int
 room:Int
 cost:Int
def Ar.c(a:Ar):List AV:=[I a.edge,I a.to,I a.sign,I a.room,I a.cost]
theorem Ar.len(a:Ar):a.c.length=5:=rfl
def e00:Edge:=⟨0,0,0,0⟩
def edgeAt(l:List Edge)(i:Nat):Edge:=l.getD i e00
theorem M4{l:List Edge}{i:Nat}(h:i<l.length):edgeAt l i=l[i]:=by unfold edgeAt;rw[xcg,xci h];rfl
def adjI(l:List Edge)(v:Int):List Int:=((List.range l.length).filter λi=>decide ((edgeAt l i).fr=v)||decide ((edgeAt l i).to=v)).map Int.ofNat
structure FrzS (S:AV) (n:Nat) (l:List Edge) (fl tu ex:List Int):Prop where
 sh:∃ev F TU X cells b,S=.plit [I n,ev,F,TU,X,.slit cells n b]/\Sl Edge.c ev l/\Ints F fl/\Ints TU tu/\Ints X ex/\cells.length=n/\∀(v:Nat) (hv:v<cells.length),Ints cells[v] (adjI l v)
 fll:fl.length=l.length
 tul:tu.length=n
 exl:ex.length=n
 n0:n<=200
 ll:l.length<=600
 ed:∀e∈l,EdgeIn n e/\e.fr≠e.to
 flb:∀k,-1000<=at0 fl k/\at0 fl k<=1000
 tub:∀k,-1000000<=at0 tu k/\at0 tu k<=1000000
end Go.Ix
