import Derived.Test.YtdfahbenacjgeaaWg4
import Derived.Test.YtdfahbenacjgeaaFxSound
import Derived.Test.YtdfahbenacjgeaaWg2
set_option linter.unusedSimpArgs false
set_option linter.unusedVariables false
namespace Go.Ix
open Go.Proofs
variable{α:Type}{z:Nat}{enc:α->List AV}{l:List α}{a:AV}
def Gk{α:Type}(z:Nat)(enc:α->List AV)(ok:Id->Prop)(m:Mem)(a:AV)(l:List α):Prop:=
 (a=nilS/\l=[])\/∃id ver,ok id/\a=.sref id ver 0 l.length z true/\m.get id=some (.row (l.flatMap enc) ver false)
theorem Gk.nil{ok:Id->Prop}{m:Mem}:Gk z enc ok m nilS []:=Or.inl ⟨rfl,rfl⟩
theorem Gk.frame{ok:Id->Prop}{m m':Mem}(h:Gk z enc ok m a l)(hm:∀id,ok id->m'.get id=m.get id):Gk z enc ok m' a l:=by
 rcases h with h|⟨id,ver,h0,h1,h2⟩
 .exact Or.inl h
 .exact Or.inr ⟨id,ver,h0,h1,by rw[hm _ h0];exact h2⟩
theorem Gk.app(hz:∀x,(enc x).length=z)(h0:0<z){bytes:Nat}{ok:Id->Prop}{id0:Id}{m:Mem}(ht:ok id0)(hr:qW (l.length+1) bytes)(h:Gk z enc ok m a l)(x:α) :
 ∃a' m',(∀{R:Type} (k:AV->Mem->Option R),rL z bytes id0 (some (enc x,1)) a m k=k a' m')/\Gk z enc ok m' a' (l++[x])/\a'.cells=[a']/\a'.one=true/\m'.next=m.next/\∀j:Id,¬ok j->m'.get j=m.get j:=by
 rcases h with ⟨rfl,rfl⟩|⟨id,ver,h1,rfl,hg⟩
 .refine⟨.sref id0 0 0 1 z true,m.new id0 (.row (enc x) 0 false),λk=>?_,Or.inr ⟨id0,0,ht,rfl,by simp⟩,rfl,rfl,rfl,λj hj=>?_⟩
  .simp only[rL];rw[xc1 (by omega),xc2 (by simpa using hr)]
  .rw[Mem.get_new,xc1 (by rintro rfl;exact hj ht)]
 .have hl:=vI hz l;refine⟨.sref id (ver+1) 0 (l.length+1) z true,m.set id (.row (l.flatMap enc++enc x) (ver+1) false),λk=>?_,Or.inr ⟨id,ver+1,h1,by simp,by simp⟩,rfl,rfl,rfl,λj hj=>?_⟩
  .simp only[rL,hg];rw[xc2 ⟨trivial,trivial,by omega,hr⟩,xc1 (by omega),xc1 (by rw[hl,xd6];omega),xcd,xca (by omega)]
  .rw[Mem.get_set,xc1 (by rintro rfl;exact hj h1)]
theorem Gk.one{ok:Id->Prop}{m:Mem}(h:Gk z enc ok m a l):a.cells=[a]/\a.one=true:=by rcases h with ⟨rfl,rfl⟩|⟨id,ver,h1,rfl,hg⟩<;>exact⟨rfl,rfl⟩
theorem Gk.frz(hz:∀x,(enc x).length=z)(hs:∀x,(enc x).all still1=true){ok:Id->Prop}{k:Nat}{m:Mem}(h:Gk z enc ok m a l):∃a',Sl enc a' l/\Go.Ix.frz m.get (k+2) a=some a':=by
 rcases h with ⟨rfl,rfl⟩|⟨id,ver,_,rfl,hg⟩
 .exact⟨nilS,Or.inl ⟨rfl,rfl⟩,rfl⟩
 .have hl:=vI hz l;refine⟨.slit (l.flatMap enc) l.length false,Sl.lit l false,?_⟩
  have:=u6 (objs:=m.get) (id:=id) (cs:=l.flatMap enc) (ver:=ver) (off:=0) (n:=l.length) (z:=z) (k:=k) (f:=false) (x:=true) hg (by omega) (by
   rw[xcd,xca (by omega)];exact d7 hs l)
  rw[xcd,xca (by omega)]at this;exact this
theorem call1{call:qI}{f:FuncId}{l:List AV}{m m':Mem}{r:AV}(hl:l.all clean=true)(h:call [] f l ⟨[],m.next⟩=some (r,m')) :
 ∃M:Mem,c0 call f l m=some (r,M)/\M.next=m'.next/\∀i:Id,M.get i=if m.next<=i.1 then m'.get i else m.get i:=by
 refine⟨⟨(m'.hp.filter λe=>Nat.ble m.next e.1)++(m.hp.filter λe=>Nat.blt e.1 m.next),m'.next⟩,?_,rfl,λi=>congrFun (x68 m'.hp m.hp m.next) i⟩;unfold c0;rw[xc2 hl,h]
theorem x73:∃i,Try.prog.info? sD=some i/\i.size=1:=by have h:(Try.prog.info? sD).map (λi=>i.size)=some 1:=(by kernel_rfl);obtain⟨i,h1,h2⟩:=xc5.mp h;exact⟨i,h1,h2⟩
theorem slice_lo{id:Id}{ver off n:Nat}{full:Bool}{lo:Int}(h0:0<=lo)(h2:lo<=n):xU Try.prog aC (.sref id ver off n 1 full) (some (I lo)) none=some (.sref id ver (off+lo.toNat) (n-lo.toNat) 1 full):=by obtain⟨i,e1,e2⟩:=x73;simp only[xU,rA,tH,e1,asI,Option.getD_some,Option.getD_none];rw[xc2 ⟨h0,by omega,by omega,e2.symm,.inr trivial⟩,xel,show((n:Int)-lo).toNat=n-lo.toNat by omega]
theorem x74{call:qI}{f:FuncId}{l l':List AV}{m:Mem}{r:AV}(hl:l.mapM (Go.Ix.frz m.get qN)=some l')(hst:l'.all still=true)(h:∀m,qK call f l' m=some (r,m)) :
 qK call f l m=some (r,⟨uN (l.flatMap (reach m.get qN)) m.hp,m.next⟩):=by
 have h1:=h mem0;have hm1:l'.mapM (Go.Ix.frz mem0.get qN)=some l':=E8 _ hst;unfold qK at h1 ⊢;rw[hm1]at h1;rw[hl];dsimp only at h1 ⊢;cases hc:call [] f l' mem0 with
 |none=>rw[hc]at h1;cases h1
 |some p=>
  rw[hc]at h1;dsimp only at h1 ⊢;cases hf:Go.Ix.frz p.2.get qN p.1 with
  |none=>rw[hf]at h1;cases h1
  |some r0=>rw[hf]at h1;have:=congrArg Prod.fst (xdn h1);dsimp only at this;subst this;rfl
theorem x75{ids:List Id}{j:Id}{m:Mem}(hn:j∉ids):(⟨uN ids m.hp,m.next⟩:Mem).get j=m.get j:=by show rT (uN ids m.hp) j=_;rw[congrFun (J5 ids m.hp) j];unfold shut;rw[xc1 hn];rfl
theorem x76{m:Mem}{id:Id}{ver off n z v k:Nat}{x b:Bool}{cs:List AV}(hg:m.get id=some (.row cs v b))(hs:cs.all still1=true):Go.Ix.reach m.get (k+2) (.sref id ver off n z x)=[id]:=by
 show(match m.get id with
  |some (.row cs _ _)=>id::((cs.drop off).take (n*z)).flatMap (Go.Ix.reach m.get (k+1))
  |_=>[id])=[id]
 rw[hg];show id::((cs.drop off).take (n*z)).flatMap (Go.Ix.reach m.get (k+1))=[id];congr 1;rw[xeg];exact λa ha=>K5 m.get k (xc8.mp hs a (xg6 (xfa ha)))
def frC(p:Int×Int):List AV:=[I p.1,I p.2]
theorem frC_len(p:Int×Int):(frC p).length=2:=rfl
theorem frC_still(p:Int×Int):(frC p).all still1=true:=rfl
def frP(D v:Int):Int×Int:=(frN v D,frD v D)
def uE(D:Int):List Int->Int
 |[]=>0
 |v::r=>bif decide (frE v D=0)then uE D r else frE v D
theorem mkLit_F{x y:Int}{id:Id}{m:Mem}{R:Type}{k:AV->Mem->Option R}:sY [I 0,I 0] [(0,2,.agg [I x,I y])] 1 2 id m k=k (.slit [I x,I y] 1 true) m:=by simp[sY,tP,sF,xfe,clean1,AV.one,Value.oneCell']
theorem elems_F{p q:Int}(objs:Id->Option Ob):elems objs 2 (.slit [I p,I q] 1 true)=some (frC (p,q),1):=rfl
theorem a_fracs(d:Nat){a:AV}{L:List Int}{D:Int}(h:Ints a L)(hL:L.length<=100)(hD:D≠0)(hD2:D.natAbs<9000000000000000000)(hv:∀v∈L,v.natAbs<9000000000000000000) :
 RetF (λr=>∃q,r=.tup [q,I (uE D L)]/\(uE D L=0->Sl frC q (L.map (frP D)))) (qG (d+4) [] bM [I D,a] mem0):=by
 rw[x13];unfold kZ gO nT;simp[mem0,h.len tH];refine tW (N:=L.length) (λn k o m fc=>dV (qG (d+3)) [] 0 n (I D) o a (I L.length) (I k) m fc) (λk o m=>uE D L=uE D (L.drop k)/\Gr 2 frC 0 29 m o ((L.take k).map (frP D))) _ ?_ ?_ NN 0 nilS _ _ (by omega) (by rw[rQ];omega) ⟨rfl,Gr.nil⟩
 .rintro n k o m fc hk ⟨hE,hG⟩ next;have hk':(k:Int)<(L.length:Int):=(by omega);have ix:=h.ix rX hk;have ld:=λm=>vQ (m:=m) hk
  rw[uO hk,uE,<-rJ hk]at hE;have hvk:=hv _ (xcp hk);rw[<-rJ hk]at hvk;have htk:(L.take (k+1)).map (frP D)=(L.take k).map (frP D)++[frP D (at0 L k)]:=(by rw[xd9 hk,xds,rJ hk];rfl);generalize at0 L k=v at *
  simp only[dV];unfold gN;simp only[sK,hk',xcc,sM,qV,ix,ld,w_frac d hD hvk hD2];by_cases c:frE v D=0
  .rw[c]at hE;simp only[xcc,sN]at hE;simp[c,B0,mkLit_F,elems_F];generalize hm2:Mem.set _ _ _=m2;have hG2:Gr 2 frC 0 29 m2 o ((L.take k).map (frP D)):=hG.frame λs=>by rw[<-hm2];simp
   obtain⟨o2,m3,e1,e2,-,-⟩:=hG2.app (s0:=fc+18) (bytes:=16) frC_len (by omega) (by unfold qW;simp;omega) (frP D v);rw[show frC (frN v D,frD v D)=frC (frP D v)from rfl,e1];simp(disch:=omega) [qQ];exact next o2 m3 _ ⟨hE,by rw[htk];exact e2⟩
  .simp only[c,xd2,uZ]at hE;simp[c,B0];exact RetF.tup rfl ⟨nilS,by rw[hE],λh0=>absurd (hE.symm.trans h0) c⟩
 .rintro n o m fc ⟨hE,hG⟩;rw[xdg (xc7 _)]at hE;rw[xca (xc7 _)]at hG;simp only[dV];unfold gN nS;simp;obtain⟨q,hq,hf⟩:=hG.frzk (k:=3) frC_len frC_still;exact RetF.mk (frz_tup2 hf rfl) ⟨q,by rw[hE];rfl,λ_=>hq⟩
theorem U1:nA=[T ⟨#[]⟩,nilS]:=by kernel_rfl
theorem w_Copy8(d:Nat){s:ByteArray}{a:AV}{l:List Ep}(h:Sl Ep.c a l)(h0:l≠[])(hl:l.length<=1000)(m:Mem) :
 ∃a',Sl Ep.c a' l/\qK (qG (d+1)) aP [.agg [T s,a]] m=some (.agg [T s,a'],m):=by
 have key:RetF (λv=>∃a',Sl Ep.c a' l/\v=.agg [T s,a']) (qG (d+1) [] aP [.agg [T s,a]] mem0):=by
  rw[x8];unfold fG eR;rcases x71 (bytes:=32) Ep.len h (by unfold qW;omega) (0,5,6) (((⟨[],1⟩:Mem).new (0,0,1) (.row [T s,a] 0 false)).new (0,1,2) (.row [T ⟨#[]⟩,nilS] 0 false))with ⟨e,-⟩|⟨-,h1⟩
  .exact absurd e h0
  simp[mem0,h.one,U1,S9];rw[h1];simp;refine RetF.mk (x72 rfl (F4 (k:=3) Ep.len Ep.still (x:=true) (l:=l) ?_)) ⟨_,Sl.lit l false,rfl⟩;simp
 obtain⟨v,⟨a',ha,rfl⟩,hc⟩:=d8 (by simp[h.still1]) key m;exact⟨a',ha,hc⟩
theorem U2:cE=[nilS,nilS]:=by kernel_rfl
theorem U3:dN=[I 0,I 0,I 0,I 0,I 0,I 0,I 0,I 0,I 0,I 0,I 0,I 0]:=by kernel_rfl
theorem F5:aR=[I 0,I 0,I 0,I 0,I 0,I 0]:=by kernel_rfl
def zC:List AV:=[I 0,I 0,I 0,I 0,I 0,I 0,I 0,I 0,I 0,I 0,I 0,I 0]
theorem build_R0:rI [nilS,nilS] []=some (.agg [nilS,nilS]):=by simp[rI,tP]
theorem build_N0:rI zC []=some (.agg zC):=by simp[rI,tP,zC]
theorem x77:rI [I 0,I 0,I 0,I 0,I 0,I 0] []=some (.agg [I 0,I 0,I 0,I 0,I 0,I 0]):=by simp[rI,tP]
def i9(l:List Ep)(e:Int):List AV:=bif decide (e=0)then[.slit (l.flatMap (Ep.r (d0E l))) l.length false,.slit (l.flatMap Ep.p) l.length false]else[nilS,nilS]
def nmR(l:List Ep)(e:Int):List AV:=bif decide (e=0)then[I (nmW l).a,I (nmW l).b,I (nmW l).c,I (nmW l).d,I (nmW l).e,I (nmW l).f,I (nmW l).g,I (nmW l).h,I (nmW l).i,I (nmW l).x,I (nmW l).y,I (nmW l).z]else zC
theorem a_open8(d:Nat){s:ByteArray}{a:AV}{l:List Ep}(h:Sl Ep.c a l)(hn:tJ s=true)(h8:l.length<=8) :
 RetF (λv=>v=.tup [.agg (i9 l (sH s l)),.agg (nmR l (sH s l)),I (sH s l)]) (qG (d+5) [] bS [.agg [T s,a]] mem0):=by
 rw[x1d];unfold lK hY;have hc:=xa1 (d+1) h hn;unfold i9 nmR;generalize hm1:(((⟨[],1⟩:Mem).new (0,0,1) (.row [T s,a] 0 false)).new (0,1,2) (.row [nilS,nilS] 0 false)).new (0,2,3) (.row zC 0 false)=m1;have g1:m1.get (0,0,1)=some (.row [T s,a] 0 false):=(by rw[<-hm1];simp);have g2:m1.get (0,1,2)=some (.row [nilS,nilS] 0 false):=(by rw[<-hm1];simp);have g3:m1.get (0,2,3)=some (.row zC 0 false):=(by rw[<-hm1];simp);have n1:m1.next=1:=(by rw[<-hm1];rfl);simp[mem0,h.one,U2,U3];rw[show[I 0,I 0,I 0,I 0,I 0,I 0,I 0,I 0,I 0,I 0,I 0,I 0]=zC from rfl,hm1];simp[g1,hc];by_cases c:sH s l=0
 .obtain⟨hne,-,-,-⟩:=F3 c;have hr:=w_rowsOf (d) (s:=s) h hne h8;have hw:=w_normal (d) (l:=l) hne h8;have hrow:tT l l.length=.agg [.slit (l.flatMap (Ep.r (d0E l))) l.length false,.slit (l.flatMap Ep.p) l.length false]:=rfl;rw[hrow]at hr hw;simp[c,g1,hr,hw,g2,g3,zC,n1,cAp,tR,mkM,sG];exact RetF.tup (by rfl) rfl
 .simp[c,build_R0,build_N0,g2,g3];rw[show(zC:List AV)=[I 0,I 0,I 0,I 0,I 0,I 0,I 0,I 0,I 0,I 0,I 0,I 0]from rfl];simp[sG];exact RetF.tup (by rfl) rfl
theorem w_open8(d:Nat){s:ByteArray}{a:AV}{l:List Ep}(h:Sl Ep.c a l)(hn:tJ s=true)(h8:l.length<=8)(m:Mem) :
 qK (qG (d+5)) bS [.agg [T s,a]] m=some (.tup [.agg (i9 l (sH s l)),.agg (nmR l (sH s l)),I (sH s l)],m):=tM (by simp[h.still1]) (a_open8 d h hn h8) m
def vR(s:ByteArray)(l:List Ep):Int:=bif decide (sH s l=0)&&decide (rH (nmW l)=0)then 30 else sH s l
theorem rowR_all(l:List Ep)(e:Int):(i9 l e).all still1=true:=by unfold i9;cases decide (e=0)<;>rfl
theorem nmR_all(l:List Ep)(e:Int):(nmR l e).all still1=true:=by unfold nmR;cases decide (e=0)<;>rfl
theorem nmR_0{l:List Ep}{e:Int}(h:e=0):AV.agg (nmR l e)=(nmW l).v:=by unfold nmR;rw[h];rfl
theorem x78(l:List Ep)(e:Int):∃x y,i9 l e=[x,y]/\x.one=true/\y.one=true:=by unfold i9;cases decide (e=0)<;>exact⟨_,_,rfl,rfl,rfl⟩
theorem x79(l:List Ep)(e:Int):∃n:Nm,nmR l e=[I n.a,I n.b,I n.c,I n.d,I n.e,I n.f,I n.g,I n.h,I n.i,I n.x,I n.y,I n.z]:=by
 unfold nmR;cases decide (e=0)
 .exact⟨⟨0,0,0,0,0,0,0,0,0,0,0,0⟩,rfl⟩
 .exact⟨nmW l,rfl⟩
theorem xa4(d:Nat){s:ByteArray}{a:AV}{l:List Ep}(h:Sl Ep.c a l)(hn:tJ s=true)(h8:l.length<=8)(m:Mem) :
 qK (qG (d+6)) cX [.agg [T s,a]] m=some (.tup [.agg (i9 l (sH s l)),.agg (nmR l (sH s l)),I (vR s l)],m):=by
 refine tM (by simp[h.still1]) ?_ m;rw[x12];unfold kY gL;have hc:=w_open8 d h hn h8;have hd:=w_det (d+1) (nmW l);have hA:=rowR_all l (sH s l);have hB:=nmR_all l (sH s l);have hN:=nmR_0 (l:=l) (e:=sH s l);obtain⟨x,y,hR,hx,hy⟩:=x78 l (sH s l);obtain⟨n,hM⟩:=x79 l (sH s l);unfold vR;rw[hR,hM]at hc;rw[hR]at hA ⊢;rw[hM]at hB hN ⊢;simp[mem0,h.one,U2,U3,hc,hx,hy];unfold nQ;have hfin:∀(m:Mem) (e:Int),RetF (λv=>v=.tup [.agg [x,y],.agg [I n.a,I n.b,I n.c,I n.d,I n.e,I n.f,I n.g,I n.h,I n.i,I n.x,I n.y,I n.z],I e]) (some (.tup [.agg [x,y],.agg [I n.a,I n.b,I n.c,I n.d,I n.e,I n.f,I n.g,I n.h,I n.i,I n.x,I n.y,I n.z],I e],m)):=λm e=>RetF.tup (by simpa using hA) rfl
 by_cases c:sH s l=0
 .have hN':=hN c;have hd':∀m,qK (qG (d+5)) dO [.agg [I n.a,I n.b,I n.c,I n.d,I n.e,I n.f,I n.g,I n.h,I n.i,I n.x,I n.y,I n.z]] m=some (I (rH (nmW l)),m):=λm=>by rw[hN'];exact hd m
  simp[c,hd'];by_cases c2:rH (nmW l)=0
  .simp[c2];unfold dU;simp[hx,hy,rB,vU,tR,tS,sG];exact hfin _ _
  .simp[c2];unfold dU;simp[hx,hy,rB,vU,tR,tS,sG];exact hfin _ _
 .simp[c];unfold dU;simp[hx,hy,rB,vU,tR,tS,sG];exact hfin _ _
def tY(n:Nm):List Int:=[vA n,vB n,uP n]
def tF(s:ByteArray)(l:List Ep):Int:=bif decide (vR s l=0)then uE (rH (nmW l)) (tY (nmW l))else vR s l
def sQ(s:ByteArray)(l:List Ep):List AV:=bif decide (tF s l=0)then((tY (nmW l)).map (frP (rH (nmW l)))).flatMap frC else[I 0,I 0,I 0,I 0,I 0,I 0]
theorem U4(s:ByteArray)(l:List Ep):∃a b c d e f:Int,sQ s l=[I a,I b,I c,I d,I e,I f]:=by
 unfold sQ;cases decide (tF s l=0)
 .exact⟨_,_,_,_,_,_,rfl⟩
 .exact⟨_,_,_,_,_,_,rfl⟩
theorem z_3int8:x9=[I 0,I 0,I 0]:=by kernel_rfl
theorem U5{s:ByteArray}{l:List Ep}(h:vR s l=0):sH s l=0/\rH (nmW l)≠0:=by
 unfold vR at h;by_cases c1:sH s l=0
 .by_cases c2:rH (nmW l)=0
  .simp[c1,c2]at h
  .exact⟨c1,c2⟩
 .simp[c1]at h
theorem x7a(d:Nat){s:ByteArray}{a:AV}{l:List Ep}(h:Sl Ep.c a l)(hn:tJ s=true)(h8:l.length<=8)(m:Mem) :
 qK (qG (d+7)) bK [.agg [T s,a]] m=some (.tup [.agg (sQ s l),I (tF s l)],m):=by
 refine tM (by simp[h.still1]) ?_ m;rw[xt];unfold kP fR;have hc:=xa4 d h hn h8;obtain⟨x,y,hR,hx,hy⟩:=x78 l (sH s l);obtain⟨n,hM⟩:=x79 l (sH s l);have hN:=nmR_0 (l:=l) (e:=sH s l);rw[hR,hM]at hc;rw[hM]at hN;simp[mem0,h.one,U2,U3,F5,hc,hx,hy];by_cases c:vR s l=0;rotate_left
 .have hE:tF s l=vR s l:=(by unfold tF;simp[c]);have hC:sQ s l=[I 0,I 0,I 0,I 0,I 0,I 0]:=(by unfold sQ;rw[hE];simp[c]);simp[c,x77,sG];exact RetF.tup (by rfl) (by rw[hE,hC])
 obtain⟨c1,c2⟩:=U5 c;have hN':=hN c1;obtain⟨-,-,hd0,hall⟩:=F3 c1;obtain⟨hnw,hnb⟩:=T8 hd0 hall h8;have hq:=T9 hnb;rw[<-hnw]at hq;obtain⟨⟨q1,b1⟩,⟨q2,b2⟩,⟨q3,b3⟩,⟨q4,b4⟩⟩:=hq;have hdet:∀m,qK (qG (d+6)) dO [.agg [I n.a,I n.b,I n.c,I n.d,I n.e,I n.f,I n.g,I n.h,I n.i,I n.x,I n.y,I n.z]] m=some (I (rH (nmW l)),m):=λm=>by rw[hN'];exact w_det (d+2) _ m
 have hfit:∀m,qK (qG (d+6)) fS [.agg [I n.a,I n.b,I n.c,I n.d,I n.e,I n.f,I n.g,I n.h,I n.i,I n.x,I n.y,I n.z]] m=some (.agg [I (vA (nmW l)),I (vB (nmW l)),I (uP (nmW l))],m):=λm=>by rw[hN'];exact w_fit (d+2) _ m
 simp[c,hfit,hdet,z_3int8];generalize hm2:Mem.set _ _ _=m2;have k2:m2.get (0,1,2)=some (.row [I 0,I 0,I 0,I 0,I 0,I 0] 0 false):=(by rw[<-hm2];simp);have k7:m2.get (0,18,7)=some (.row [I (vA (nmW l)),I (vB (nmW l)),I (uP (nmW l))] 0 false):=(by rw[<-hm2];simp);have k5:m2.get (0,10,5)=m2.get (0,10,5):=rfl;have n2:m2.next=1:=(by rw[<-hm2];rfl);have sl:sSlA 3 1 (.ptr (0,18,7) 0 0) none none m2=some (.sref (0,18,7) 0 0 3 1 false):=(by simp[sSlA,k7,asI]);have hI:Ints (.slit [I (vA (nmW l)),I (vB (nmW l)),I (uP (nmW l))] 3 false) (tY (nmW l)):=Sl.lit (enc:=intE) (tY (nmW l)) false
 have hF:=a_fracs (d+2) (D:=rH (nmW l)) hI (by simp[tY]) c2 (by omega) (λv hv=>by
  simp only[tY,xce,xft,or_false]at hv
  rcases hv with rfl|rfl|rfl<;>omega)
 obtain⟨v,⟨q,rfl,hqs⟩,hcall⟩:∃v,(∃q,v=.tup [q,I (uE (rH (nmW l)) (tY (nmW l)))]/\(uE (rH (nmW l)) (tY (nmW l))=0->Sl frC q ((tY (nmW l)).map (frP (rH (nmW l))))))/\∀m,qK (qG (d+6)) bM [I (rH (nmW l)),.slit [I (vA (nmW l)),I (vB (nmW l)),I (uP (nmW l))] 3 false] m=some (v,m):=(by obtain⟨w,m',w',h1,h2,h3⟩:=hF;exact⟨w',h3,λm=>x6l (by rfl) h1 h2⟩);have hfz:[I (rH (nmW l)),.sref (0,18,7) 0 0 3 1 false].mapM (Go.Ix.frz m2.get qN)=some [I (rH (nmW l)),.slit [I (vA (nmW l)),I (vB (nmW l)),I (uP (nmW l))] 3 false]:=(by have e2:Go.Ix.frz m2.get qN (.sref (0,18,7) 0 0 3 1 false)=some (.slit [I (vA (nmW l)),I (vB (nmW l)),I (uP (nmW l))] 3 false):=(by have:=u6 (objs:=m2.get) (id:=(0,18,7)) (cs:=[I (vA (nmW l)),I (vB (nmW l)),I (uP (nmW l))]) (ver:=0) (off:=0) (n:=3) (z:=1) (k:=4) (f:=false) (x:=false) k7 (by simp) (by rfl);exact this);simp only[xcx,xdm,e2,show Go.Ix.frz m2.get qN (I (rH (nmW l)))=some (I (rH (nmW l)))from rfl];rfl);have hth:=x74 hfz (by rfl) hcall;have hids:[I (rH (nmW l)),.sref (0,18,7) 0 0 3 1 false].flatMap (reach m2.get qN)=[(0,18,7)]:=(by have e1:reach m2.get qN (.sref (0,18,7) 0 0 3 1 false)=[(0,18,7)]:=x76 k7 (by rfl);simp only[xct,xge,e1,show reach m2.get qN (I (rH (nmW l)))=[]from rfl];rfl);rw[hids]at hth;have k2':(⟨uN [(0,18,7)] m2.hp,m2.next⟩:Mem).get (0,1,2)=some (.row [I 0,I 0,I 0,I 0,I 0,I 0] 0 false):=(by rw[x75 (by simp)];exact k2);have k5':(⟨uN [(0,18,7)] m2.hp,m2.next⟩:Mem).next=1:=n2;generalize (⟨uN [(0,18,7)] m2.hp,m2.next⟩:Mem)=m3 at *
 have g1:cAp (some 1) (tR (.ptr (0,18,7) 0 0)) 2=true:=rfl;simp only[sl,qV,hth,sExt_tup,xf4,xf5,g1,sN,z9];by_cases c3:uE (rH (nmW l)) (tY (nmW l))=0
 .have hE:tF s l=0:=(by unfold tF;simp[c,c3]);have hC:sQ s l=((tY (nmW l)).map (frP (rH (nmW l)))).flatMap frC:=(by unfold sQ;rw[hE];simp);rcases hqs c3 with ⟨-,hbad⟩|⟨b,rfl⟩
  .simp[tY]at hbad
  rw[hE,hC];simp only[c3,xcc,xdt,vP];simp[tY,frP,frC,sS2A,k2',sG];exact RetF.tup (by rfl) rfl
 .have hE:tF s l=uE (rH (nmW l)) (tY (nmW l)):=(by unfold tF;simp[c]);have hC:sQ s l=[I 0,I 0,I 0,I 0,I 0,I 0]:=(by unfold sQ;rw[hE];simp[c3]);rw[hE,hC];simp[c3,x77,k2',sG];exact RetF.tup (by rfl) rfl
def mn(x y:Int):Int:=if y<x then y else x
def sR(u:List Int)(p:Pq):List Int:=u.map λx=>if x=at0 u p.a.toNat\/x=at0 u p.b.toNat then mn (at0 u p.a.toNat) (at0 u p.b.toNat)else x
def joinsM(u:List Int)(l:List Pq):List Int:=l.foldl sR u
def freshM(n:Nat):List Int:=(List.range n).map λ(i:Nat)=>(i:Int)
def PqIn(n:Nat)(p:Pq):Prop:=0<=p.a/\p.a<p.b/\p.b<n
structure Lab (n:Nat) (u:List Int):Prop where
 len:u.length=n
 ok:∀v,v<n->0<=at0 u v/\at0 u v<=v/\at0 u (at0 u v).toNat=at0 u v
theorem U6(u:List Int)(p:Pq):(sR u p).length=u.length:=by unfold sR;simp
theorem l4{u:List Int}{p:Pq}{v:Nat}(h:v<u.length):at0 (sR u p) v=if at0 u v=at0 u p.a.toNat\/at0 u v=at0 u p.b.toNat then mn (at0 u p.a.toNat) (at0 u p.b.toNat)else at0 u v:=by rw[rJ (by rw[U6];exact h),rJ h];unfold sR;rw[xgf]
theorem mn_or(a b:Int):mn a b=a/\a<=b\/mn a b=b/\b<a:=by
 unfold mn;split
 .right;exact⟨rfl,by assumption⟩
 .left;exact⟨rfl,by omega⟩
theorem Lab.fresh(n:Nat):Lab n (freshM n):=by
 refine⟨by simp[freshM],λv hv=>?_⟩;have:∀w,w<n->at0 (freshM n) w=w:=λw hw=>by rw[rJ (by simpa[freshM]using hw)];simp[freshM]
 rw[this v hv];refine⟨by omega,by omega,?_⟩;rw[xcr,this v hv]
theorem Lab.get_fresh{n v:Nat}(h:v<n):at0 (freshM n) v=v:=by rw[rJ (by simpa[freshM]using h)];simp[freshM]
theorem Lab.lt{n:Nat}{u:List Int}(h:Lab n u){v:Nat}(hv:v<n):(at0 u v).toNat<n:=by have:=h.ok v hv;omega
theorem Lab.join{n:Nat}{u:List Int}(h:Lab n u){p:Pq}(hp:PqIn n p):Lab n (sR u p):=by
 obtain⟨h0,h1,h2⟩:=hp;have ea:=h.ok p.a.toNat (by omega);have eb:=h.ok p.b.toNat (by omega);refine⟨by rw[U6];exact h.len,λv hv=>?_⟩;have ev:=h.ok v hv;rw[l4 (by rw[h.len];exact hv)];obtain⟨m,hm⟩:∃m,m=mn (at0 u p.a.toNat) (at0 u p.b.toNat):=⟨_,rfl⟩;have hmo:=mn_or (at0 u p.a.toNat) (at0 u p.b.toNat);rw[<-hm]at hmo ⊢;by_cases c:at0 u v=at0 u p.a.toNat\/at0 u v=at0 u p.b.toNat
 .rw[xc2 c];refine⟨by omega,by omega,?_⟩;rw[l4 (by rw[h.len];omega),<-hm];have:at0 u m.toNat=at0 u p.a.toNat\/at0 u m.toNat=at0 u p.b.toNat:=by
   rcases hmo with ⟨e,-⟩|⟨e,-⟩
   .rw[e,ea.2.2];exact Or.inl rfl
   .rw[e,eb.2.2];exact Or.inr rfl
  rw[xc2 this]
 .rw[xc1 c];refine⟨ev.1,ev.2.1,?_⟩;rw[l4 (by rw[h.len];omega),ev.2.2,xc1 c]
theorem Lab.joins{n:Nat}:∀{l:List Pq} {u:List Int},Lab n u->(∀p∈l,PqIn n p)->Lab n (joinsM u l)
 |[],_,h,_=>h
 |p::l,u,h,hp=>Lab.joins (l:=l) (h.join (hp p (xcf ..))) λq hq=>hp q (xc9 _ hq)
def Sm(u:List Int)(v w:Nat):Prop:=at0 u v=at0 u w
theorem join_aux(x y a b m:Int)(hmo:m=a/\a<=b\/m=b/\b<a):((if x=a\/x=b then m else x)=(if y=a\/y=b then m else y))↔(x=y\/(x=a/\y=b)\/(x=b/\y=a)):=by by_cases c1:x=a\/x=b<;>by_cases c2:y=a\/y=b<;>(first|rw[xc2 c1]|rw[xc1 c1])<;>(first|rw[xc2 c2]|rw[xc1 c2])<;>omega
theorem U7{n:Nat}{u:List Int}{p:Pq}(h:Lab n u){v w:Nat}(hv:v<n)(hw:w<n) :
 Sm (sR u p) v w↔Sm u v w\/(Sm u v p.a.toNat/\Sm u w p.b.toNat)\/(Sm u v p.b.toNat/\Sm u w p.a.toNat):=by
 unfold Sm;rw[l4 (by rw[h.len];exact hv),l4 (by rw[h.len];exact hw)];exact join_aux _ _ _ _ _ (mn_or _ _)
theorem x7b(u:List Int)(l k:List Pq):joinsM u (l++k)=joinsM (joinsM u l) k:=by unfold joinsM;rw[List.foldl_append]
theorem join_mono{n:Nat}{u:List Int}{p:Pq}(h:Lab n u){v w:Nat}(hv:v<n)(hw:w<n)(e:Sm u v w):Sm (sR u p) v w:=(U7 h hv hw).mpr (Or.inl e)
theorem x7c{n:Nat}:∀{l:List Pq} {u:List Int},Lab n u->(∀p∈l,PqIn n p)->∀{v w:Nat},v<n->w<n->Sm u v w->Sm (joinsM u l) v w
 |[],_,_,_,_,_,_,_,e=>e
 |p::l,u,h,hp,v,w,hv,hw,e=>x7c (l:=l) (h.join (hp p (xcf ..))) (λq hq=>hp q (xc9 _ hq)) hv hw (join_mono h hv hw e)
theorem join_ends{n:Nat}{u:List Int}{p:Pq}(h:Lab n u)(hp:PqIn n p):Sm (sR u p) p.a.toNat p.b.toNat:=by obtain⟨h0,h1,h2⟩:=hp;exact(U7 h (by omega) (by omega)).mpr (Or.inr (Or.inl ⟨rfl,rfl⟩))
theorem zD{n:Nat}:∀{l:List Pq} {u:List Int},Lab n u->(∀p∈l,PqIn n p)->∀p∈l,Sm (joinsM u l) p.a.toNat p.b.toNat
 |[],_,_,_,p,hp=>by cases hp
 |q::l,u,h,hp,p,hm=>by
  have hq:=hp q (xcf ..);have hl:∀p∈l,PqIn n p:=λp h=>hp p (xc9 _ h)
  rcases xce.mp hm with rfl|hm
  .have:PqIn n p:=hq;obtain⟨h0,h1,h2⟩:=hq;exact x7c (l:=l) (h.join this) hl (by omega) (by omega) (join_ends h this)
  .exact zD (h.join hq) hl p hm
theorem U9{n:Nat}{R:Nat->Nat->Prop}(hs:∀{a b},R a b->R b a)(ht:∀{a b c},R a b->R b c->R a c):∀{l:List Pq} {u:List Int},Lab n u->(∀p∈l,PqIn n p)->(∀p∈l,R p.a.toNat p.b.toNat)->(∀v w,v<n->w<n->Sm u v w->R v w)->∀v w,v<n->w<n->Sm (joinsM u l) v w->R v w
 |[],_,_,_,_,h=>h
 |p::l,u,h,hp,hR,hu=>by
  have hq:=hp p (xcf ..);refine U9 (R:=R) hs ht (l:=l) (h.join hq) (λq hq=>hp q (xc9 _ hq)) (λq hq=>hR q (xc9 _ hq)) λv w hv hw e=>?_
  obtain⟨h0,h1,h2⟩:=hq;have hr:=hR p (xcf ..);rcases(U7 h hv hw).mp e with e|⟨e1,e2⟩|⟨e1,e2⟩
  .exact hu v w hv hw e
  .exact ht (hu v _ hv (by omega) e1) (ht hr (hs (hu w _ hw (by omega) e2)))
  .exact ht (hu v _ hv (by omega) e1) (ht (hs hr) (hs (hu w _ hw (by omega) e2)))
theorem Lab.ext{n:Nat}{u t:List Int}(h:Lab n u)(k:Lab n t)(he:∀v w,v<n->w<n->(Sm u v w↔Sm t v w)):u=t:=by
 apply xfv
 .rw[h.len,k.len]
 .intro v hv hv';rw[h.len]at hv;rw[<-rJ,<-rJ];have a:=h.ok v hv;have b:=k.ok v hv;have e1:at0 t (at0 u v).toNat=at0 t v:=(he _ v (by omega) hv).mp (by unfold Sm;exact a.2.2);have e2:at0 u (at0 t v).toNat=at0 u v:=(he _ v (by omega) hv).mpr (by unfold Sm;exact b.2.2);have a2:=k.ok (at0 u v).toNat (by omega);have b2:=h.ok (at0 t v).toNat (by omega);omega
def Indep(u:List Int):List Pq->Prop
 |[]=>True
 |p::l=>¬Sm u p.a.toNat p.b.toNat/\Indep (sR u p) l
theorem Indep.app{u:List Int}:∀{l k:List Pq} ,Indep u (l++k)↔Indep u l/\Indep (joinsM u l) k:=by
 intro l;induction l generalizing u with
 |nil=>intro k;simp[Indep,joinsM]
 |cons p l ih=>intro k;simp only[xdw,Indep];rw[ih];simp[joinsM,and_assoc]
def wN(n:Nat)(u:List Int):Nat:=((List.range n).filter λ(v:Nat)=>decide (at0 u v=(v:Int))).length
theorem count_ne{n:Nat}{p q:Nat->Bool}{w:Nat}(hw:w<n)(h1:p w=true)(h2:q w=false)(h:∀v,v<n->v≠w->p v=q v):((List.range n).filter p).length=((List.range n).filter q).length+1:=by
 induction n with
 |zero=>omega
 |succ n ih=>
  rw[xfe,xex,xex,xdx,xdx];by_cases c:w=n
  .subst c;have e:(List.range w).filter p=(List.range w).filter q:=(by apply List.filter_congr;intro v hv;have:=xcs.mp hv;exact h v (by omega) (by omega));rw[e];simp[h1,h2]
  .have:=ih (by omega) λv hv=>h v (by omega)
   have e:=h n (by omega) (by omega);simp only[xek,e,List.filter_nil];omega
theorem V0{n:Nat}{u:List Int}{p:Pq}(h:Lab n u)(hp:PqIn n p)(hne:¬Sm u p.a.toNat p.b.toNat):wN n u=wN n (sR u p)+1:=by
 have hp':=hp;obtain⟨h0,h1,h2⟩:=hp;have ea:=h.ok p.a.toNat (by omega);have eb:=h.ok p.b.toNat (by omega);unfold Sm at hne;have hmo:=mn_or (at0 u p.a.toNat) (at0 u p.b.toNat);obtain⟨w,hw⟩:∃w:Int,w=if at0 u p.b.toNat<at0 u p.a.toNat then at0 u p.a.toNat else at0 u p.b.toNat:=⟨_,rfl⟩
 have hwor:w=at0 u p.a.toNat/\at0 u p.b.toNat<at0 u p.a.toNat\/w=at0 u p.b.toNat/\at0 u p.a.toNat<at0 u p.b.toNat:=(by rw[hw];split<;>omega);unfold wN;refine count_ne (w:=w.toNat) (by omega) ?_ ?_ λv hv hne'=>?_
 .rw[xfr];rcases hwor with ⟨e,-⟩|⟨e,-⟩
  .rw[e,ea.2.2];omega
  .rw[e,eb.2.2];omega
 .rw[decide_eq_false_iff_not,l4 (by rw[h.len];omega)];have:at0 u w.toNat=w:=by
   rcases hwor with ⟨e,-⟩|⟨e,-⟩
   .rw[e];exact ea.2.2
   .rw[e];exact eb.2.2
  rw[this,xc2 (by omega)];omega
 .rw[Bool.eq_iff_iff,xfr,xfr,l4 (by rw[h.len];omega)];have ev:=h.ok v hv;by_cases c:at0 u v=at0 u p.a.toNat\/at0 u v=at0 u p.b.toNat
  .rw[xc2 c];constructor
   .intro e;omega
   .intro e;rcases hmo with ⟨q,-⟩|⟨q,-⟩
    .rw[q]at e;rw[e]at ea;have:=ea.2.2;simpa using this
    .rw[q]at e;rw[e]at eb;have:=eb.2.2;simpa using this
  .rw[xc1 c]
theorem L4{n:Nat}:∀{l:List Pq} {u:List Int},Lab n u->(∀p∈l,PqIn n p)->Indep u l->wN n u=wN n (joinsM u l)+l.length
 |[],_,_,_,_=>rfl
 |p::l,u,h,hp,hi=>by have hq:=hp p (xcf ..);have:=L4 (h.join hq) (λq hq=>hp q (xc9 _ hq)) hi.2;have h1:=V0 h hq hi.1;have e:joinsM u (p::l)=joinsM (sR u p) l:=rfl;rw[e,xco];omega
theorem x7d(n:Nat):wN n (freshM n)=n:=by unfold wN;have:(List.range n).filter (λ(v:Nat)=>decide (at0 (freshM n) v=(v:Int)))=List.range n:=(by rw[xew];intro v hv;rw[Lab.get_fresh (xcs.mp hv)];simp);rw[this,List.length_range]
variable{P:List Pq}
def prs(P:List Pq)(F:List Int):List Pq:=F.map (qO P)
structure For (n:Nat) (P:List Pq) (F:List Int):Prop where
 rng:∀i∈F,0<=i/\i<P.length
 nod:F.Nodup
 ind:Indep (freshM n) (prs P F)
theorem F6{n:Nat}(hP:∀p∈P,PqIn n p){i:Int}(h:0<=i/\i<P.length):PqIn n (qO P i):=by unfold qO;have:i.toNat<P.length:=(by omega);rw[xcg,xci this];exact hP _ (xcp this)
theorem uT{n:Nat}(hP:∀p∈P,PqIn n p){F:List Int}(h:∀i∈F,0<=i/\i<P.length):∀p∈prs P F,PqIn n p:=λp hp=>by obtain⟨i,hi,rfl⟩:=xch.mp hp;exact F6 hP (h i hi)
theorem For.take{n:Nat}{F G:List Int}(h:For n P (F++G)):For n P F:=by refine⟨λi hi=>h.rng i (xei _ hi),(xdv.mp h.nod).1,?_⟩;have:=h.ind;unfold prs at this;rw[xds]at this;exact(Indep.app.mp this).1
theorem For.cut{n:Nat}(hP:∀p∈P,PqIn n p){F:List Int}(h:For n P F):Cut P F:=by
 have main:∀(k:Nat) (F:List Int),F.length=k->For n P F->Cut P F:=by
  intro k;induction k with
  |zero=>intro F hl _ i hi;rw[xdy.mp hl]at hi;cases hi
  |succ k ih=>
   intro F hl h;obtain⟨G,q,rfl⟩:∃G q,F=G++[q]:=(by have hne:F≠[]:=(by rintro rfl;simp at hl);exact⟨F.dropLast,F.getLast hne,(xgg hne).symm⟩);have hG:=h.take;have hc:=ih G (by simpa using hl) hG;have hq:=F6 hP (h.rng q (by simp));obtain⟨u,hu⟩:∃u,u=joinsM (freshM n) (prs P G):=⟨_,rfl⟩;have hL:Lab n u:=(by rw[hu];exact(Lab.fresh n).joins (uT hP hG.rng));have hind:=h.ind;unfold prs at hind;rw[xds]at hind;have hne:¬Sm u (qO P q).a.toNat (qO P q).b.toNat:=(by have:=(Indep.app.mp hind).2;rw[show List.map (qO P) [q]=[qO P q]from rfl]at this;rw[hu];exact this.1);have hqG:q∉G:=λhm=>(xdv.mp h.nod).2.2 q hm q (by simp) rfl
   have hends:∀j∈G,Sm u (qO P j).a.toNat (qO P j).b.toNat:=λj hj=>by rw[hu];exact zD (Lab.fresh n) (uT hP hG.rng) _ (xch.mpr ⟨j,hj,rfl⟩)
   unfold Sm at hne hends;intro i hi;rcases xd0.mp hi with hi|hi
   .obtain⟨s,h1,h2⟩:=hc i hi;by_cases c:s (qO P q).a=s (qO P q).b
    .refine⟨s,h1,λj hj hji=>?_⟩;rcases xd0.mp hj with hj|hj
     .exact h2 j hj hji
     .simp at hj;subst hj;exact c
    .refine⟨λv=>if at0 u v.toNat=at0 u (qO P q).b.toNat then !(s v)else s v,?_,λj hj hji=>?_⟩
     .have:=hends i hi;simp only
      rw[this];split
      .simpa using h1
      .exact h1
     .simp only
      rcases xd0.mp hj with hj|hj
      .have:=hends j hj;rw[this,h2 j hj hji]
      .simp at hj;subst hj;rw[xc1 hne,xc2 rfl];cases h3:s (qO P j).a<;>cases h4:s (qO P j).b<;>simp_all
   .simp at hi;subst hi;refine⟨λv=>decide (at0 u v.toNat=at0 u (qO P i).a.toNat),?_,λj hj hji=>?_⟩
    .simp[Ne.symm hne]
    .rcases xd0.mp hj with hj|hj
     .simp only;rw[hends j hj]
     .simp at hj;exact absurd hj hji
 exact main _ F rfl h
theorem V1{n:Nat}(hP:∀p∈P,PqIn n p){F:List Int}(hr:∀i∈F,0<=i/\i<P.length):∀{v w:Nat},v<n->w<n->Sm (joinsM (freshM n) (prs P F)) v w->∃l,Wk P l v w/\AllF F l:=by
 intro v w hv hw hs;let R:Nat->Nat->Prop:=λv w=>∃l,Wk P l v w/\AllF F l
 have hsym:∀{a b},R a b->R b a:=λ⟨l,h1,h2⟩=>(by obtain⟨v,h3,h4⟩:=h1.back h2;exact⟨v,h3,h4⟩);have htr:∀{a b c},R a b->R b c->R a c:=λ⟨l,h1,h2⟩ ⟨k,h3,h4⟩=>⟨l++k,h1.app h3,h2.app h4⟩;refine U9 (R:=R) hsym htr (Lab.fresh n) (uT hP hr) (λp hp=>?_) (λv w hv hw e=>?_) v w hv hw hs
 .obtain⟨i,hi,rfl⟩:=xch.mp hp;have hq:=F6 hP (hr i hi);obtain⟨h0,h1,h2⟩:=hq;refine⟨[⟨i,1⟩],⟨?_,?_⟩,λx hx=>?_⟩
  .unfold frS;simp;omega
  .show toS P ⟨i,1⟩=_;unfold toS;simp;omega
  .simp at hx;subst hx;exact⟨hi,Or.inl rfl⟩
 .unfold Sm at e;rw[Lab.get_fresh hv,Lab.get_fresh hw]at e;exact⟨[],by show(v:Int)=w;exact e,λ_ h=>by cases h⟩
theorem For.len{n:Nat}(hP:∀p∈P,PqIn n p){F:List Int}(h:For n P F):F.length<=n:=by have:=L4 (Lab.fresh n) (uT hP h.rng) h.ind;rw[x7d]at this;have e:(prs P F).length=F.length:=(by unfold prs;simp);omega
end Go.Ix
