import Derived.Test.YtdfahbenacjgeaaWg7
import Derived.Test.YtdfahbenacjgeaaWg0
import Derived.Test.YtdfahbenacjgeaaWg6
import Derived.Test.YtdfahbenacjgeaaWg4
set_option linter.unusedSimpArgs false
set_option linter.unusedVariables false
namespace Go.Ix
open Go.Proofs
theorem x7x{objs:Id->Option Ob}{id:Id}{cs:List AV}{v off k:Nat}{f:Bool}(h:objs id=some (.row cs v f)):Go.Ix.frz objs (k+1) (.ptr id v off)=((cs.drop off).mapM (Go.Ix.frz objs k)).map AV.plit:=by simp only[Go.Ix.frz,h,xcm]
theorem frz_box{objs:Id->Option Ob}{id:Id}{a a':AV}{v k:Nat}{f:Bool}(h:objs id=some (.row [a] v f))(ha:Go.Ix.frz objs k a=some a'):Go.Ix.frz objs (k+1) (.ptr id v 0)=some (.plit [a']):=by rw[x7x h];simp only[xcd,xcx,xdm,ha];rfl
theorem z_graph:nK=[nilS,nilS]:=by kernel_rfl
theorem cvt_small:∀n:Nat,n<=12->vS Try.prog sD pE (I n)=some (.sc (.int .u64 n))
 |0,_=>by kernel_rfl
 |1,_=>by kernel_rfl
 |2,_=>by kernel_rfl
 |3,_=>by kernel_rfl
 |4,_=>by kernel_rfl
 |5,_=>by kernel_rfl
 |6,_=>by kernel_rfl
 |7,_=>by kernel_rfl
 |8,_=>by kernel_rfl
 |9,_=>by kernel_rfl
 |10,_=>by kernel_rfl
 |11,_=>by kernel_rfl
 |12,_=>by kernel_rfl
 |n+13,h=>by omega
theorem a_Len64(call:qI):∀n:Nat,n<=12->∃v:Int,mP call [] [.sc (.int .u64 n)] mem0=some (I v,⟨[],1⟩)
 |0,_=>⟨0,by kernel_rfl⟩
 |1,_=>⟨1,by kernel_rfl⟩
 |2,_=>⟨2,by kernel_rfl⟩
 |3,_=>⟨2,by kernel_rfl⟩
 |4,_=>⟨3,by kernel_rfl⟩
 |5,_=>⟨3,by kernel_rfl⟩
 |6,_=>⟨3,by kernel_rfl⟩
 |7,_=>⟨3,by kernel_rfl⟩
 |8,_=>⟨4,by kernel_rfl⟩
 |9,_=>⟨4,by kernel_rfl⟩
 |10,_=>⟨4,by kernel_rfl⟩
 |11,_=>⟨4,by kernel_rfl⟩
 |12,_=>⟨4,by kernel_rfl⟩
 |n+13,h=>by omega
theorem w_bitsLen(d:Nat){n:Nat}(hn:n<=12)(m:Mem):∃v:Int,qK (qG (d+2)) dJ [.sc (.int .u64 n)] m=some (I v,m):=by
 obtain⟨v,hv⟩:=a_Len64 (qG d) n hn;have h64:∀m,qK (qG (d+1)) dM [.sc (.int .u64 n)] m=some (I v,m):=λm=>by refine tM rfl ?_ m;rw[x28,hv];exact RetF.st rfl rfl
 refine⟨v,tM rfl ?_ m⟩;rw[x23];unfold mK jY;simp[mem0,h64];exact RetF.st rfl rfl
theorem c_Sort(d:Nat)(hs:FHs){a:AV}{ok:Id->Prop}{L:List Int}{m:Mem}(hL:L.length<=12)(hG:Gk 1 intE ok m a L) :
 ∃m',qG (d+5) hs dE [a] m=some (.tup [],m')/\Gk 1 intE ok m' a (sU (λx y=>decide (x<y)) (L.length-1) L)/\m.next<=m'.next/\yD ok m m':=by
 rw[x1s];unfold lY jE;obtain⟨v,hv⟩:=w_bitsLen (d+2) hL (⟨m.hp,m.next+1⟩:Mem);simp only[hG.len tH,qV,cvt_small _ hL,hv];rw[x22];unfold mJ jX;obtain⟨NM,hNM⟩:∃NM,NN=NM+1:=⟨NN-1,by have:=rQ;omega⟩;rw[hNM];simp only[jW];unfold pV;obtain⟨m',e1,e2,e3,e4⟩:=c_insertO d hs (L:=L) (m:=⟨m.hp,m.next+1+1⟩) (by omega) (hG.frame λ_ _=>rfl);have h12:(L.length:Int)<=12:=(by omega);simp[e1];rw[qQ (by omega) (by omega)];simp[h12];exact⟨e2,by have:m'.next=m.next+1+1+1:=e3;omega,λj hj=>by rw[e4 j hj];rfl⟩
def fW(l:List Scene)(P:List Pq)(i:Int):Int:=lenP l (qO P i)
theorem xa7(d:Nat){s p:AV}{l:List Scene}{P:List Pq}(hs:Sl Scene.c s l)(hp:Sl Pq.c p P)(hR:Right7 l P)(id:Id)(hid:id.1=0):Cmps (qG (d+3)) (.clo bW [.ptr id 0 0]) id (.row [s,p] 0 false) P.length (λx y=>fW l P x-fW l P y):=by intro hh x y m x0 x1 y0 y1 hg;refine⟨m.next+1,by omega,?_⟩;show qG (d+3) hh bW [I x,I y,.ptr id 0 0] m=_;have hx:=hR.at (i:=x) ⟨x0,x1⟩;have hy:=hR.at (i:=y) ⟨y0,y1⟩;have i1:=lenP_in hR.ib hx;have i2:=lenP_in hR.ib hy;rw[x1q];unfold lW jC;have hg':(⟨m.hp,m.next+1⟩:Mem).get id=some (.row [s,p] 0 false):=hg;obtain⟨i,j,k⟩:=id;simp at hid;subst hid;have hb:Nat.ble 1 (m.next+1)=true:=(by rw[Nat.ble_eq];omega);unfold fW;simp[hb,hg',x7f d hs hp hR.ib ⟨x0,x1⟩ hx,x7f d hs hp hR.ib ⟨y0,y1⟩ hy,hs.clean1,hp.clean1,cAp,tR,Nat.blt];rw[qQ (by omega) (by omega)]
theorem ord_rng{f:Int->Int}{N:Nat}:InN N (qZ f N):=λx hx=>((zE f N).2 x).mp hx
theorem W3(f:Int->Int)(N:Nat):(qZ f N).length=N:=by
 have:=x7k (zE f N).nodup (V6 N).nodup λx=>((zE f N).2 x).trans fresh_mem.symm
 rw[this];simp[freshM]
theorem ord_Rng{l:List Scene}{P:List Pq}(hR:Right7 l P)(f:Int->Int)(k:Nat):Rng l.length P ((qZ f P.length).take k):=λi hi=>by have:=ord_rng _ (xfa hi);exact⟨this,hR.at this⟩
theorem xa8(d:Nat){s p:AV}{l:List Scene}{P:List Pq}(hs:Sl Scene.c s l)(hp:Sl Pq.c p P)(hR:Right7 l P)(hl:l.length<=8)(hP:P.length<=14) :
 RetF (λv=>Ints v (sS (fW l P) l.length P)) (qG (d+7) [] bT [.agg [s,p]] mem0):=by
 rw[x1h];unfold lN iM oQ;simp[mem0,hs.one,hp.one,hp.len A8];refine tW (N:=P.length) (λn k a m fc=>eH (qG (d+6)) [] 0 n (.ptr (0,0,1) 0 0) a nilS (I P.length) (I k) m fc)
  (λk a m=>m.get (0,0,1)=some (.row [s,p] 0 false)/\Gk 1 intE (okZ 19) m a ((freshM P.length).take k)/\m.next=1) _ ?_ ?_ NN 0 nilS _ _ (by omega) (by rw[rQ];omega) ⟨by simp,by simpa using Gk.nil,rfl⟩
 .rintro n k a m fc hk ⟨hg,hG,hn⟩ next;have hk':(k:Int)<(P.length:Int):=(by omega);have hlt:((freshM P.length).take k).length=k:=(by simp[freshM];omega);obtain⟨a2,m2,e1,e2,-,-,e3,e4⟩:=hG.app (bytes:=8) (id0:=(0,fc+6,19)) rX (by omega) ⟨rfl,rfl⟩ (by unfold qW;omega) (k:Int);simp only[eH];unfold iL;simp(disch:=omega) [hk',wI,qQ];rw[show elems m.get 1 (.slit [I (k:Int)] 1 true)=some (intE (k:Int),1)from rfl,e1];exact next a2 m2 _ ⟨by rw[e4 _ (by unfold okZ;simp)];exact hg,by rw[<-L5 hk];exact e2,by omega⟩
 .rintro n a m fc ⟨hg,hG,hn⟩;have hk:¬((P.length:Int)<(P.length:Int)):=(by omega);rw[xca (by simp[freshM])]at hG;have hfl:(freshM P.length).length=P.length:=(by simp[freshM]);obtain⟨m1,c1,c2,c3,c4⟩:=xa5 (d+3) [] (xa7 d hs hp hR (0,0,1) rfl) (ok:=okZ 19) (by unfold okZ;simp) (by omega) (λx hx=>fresh_mem.mp hx) hG hg;rw[show(λx y=>decide (fW l P x-fW l P y<0))=λx y=>decide (fW l P x<fW l P y)from by funext x y;exact decide_eq_decide.mpr (by omega),iso_ord]at c2;have hg1:m1.get (0,0,1)=some (.row [s,p] 0 false):=(by rw[c4 _ (by unfold okZ;simp)];exact hg);obtain⟨ua,M,hc,hU,hM,hfr⟩:=x7e (d+5) (n:=l.length) (by omega) m1;simp only[eH];unfold iL oP;simp[c1,hg1,hs.len yZ,hc];have hgM:M.get (0,0,1)=some (.row [s,p] 0 false):=(by rw[hfr _ (by show 0<m1.next;omega)];exact hg1);have hGM:Gk 1 intE (okZ 19) M a (qZ (fW l P) P.length):=c2.frame λj hj=>hfr j (by obtain⟨h1,h2⟩:=hj;omega)
  have hol:=W3 (fW l P) P.length;unfold oO;simp only[hGM.len tH,qV];generalize hN1:m1.next=N1 at *
  have hN0:1<=N1:=(by omega);refine tW (N:=(qZ (fW l P) P.length).length) (λn k o m fc=>eF (qG (d+6)) [] 0 n (.ptr (0,0,1) 0 0) o ua a (I (qZ (fW l P) P.length).length) (I k) m fc)
   (λk o m=>(m.get (0,0,1)=some (.row [s,p] 0 false)/\N1<m.next)/\Gk 1 intE (okZ 19) m a (qZ (fW l P) P.length)/\Gk 1 intE (λid=>id.1=N1) m ua (tU l.length P ((qZ (fW l P) P.length).take k)) /\
    Gk 1 intE (okZ 46) m o (tG P (freshM l.length) ((qZ (fW l P) P.length).take k))) _ ?_ ?_ NN 0 nilS _ _ (by omega) (by rw[rQ];omega) ⟨⟨hgM,by omega⟩,hGM,by simpa[tU,prs,joinsM]using hU,by simpa[tG]using Gk.nil⟩
  .rintro n k o m fc hk ⟨⟨hg,hmn⟩,hO,hU,hT⟩ next;have hk':(k:Int)<((qZ (fW l P) P.length).length:Int):=(by omega);obtain⟨q,i1,l1,-⟩:=hO.at (k:=(k:Int)) (by omega) hk';rw[xcr]at l1;have hx:=ord_rng.get hk;have hRk:=ord_Rng hR (fW l P) k;have hL:=(uni_lab hRk).len;have hq:=hR.at hx;have ip:=hp.ixz Pq.len hx.1 hx.2;have lp:=λm=>vW (m:=m) (enc:=Pq.c) Pq.len (by omega) (show(at0 (qZ (fW l P) P.length) k).toNat<P.length by omega)
   rw[<-L6 (by omega)]at lp;have hus:=uni_succ (n:=l.length) (P:=P) hk;have hts:tG P (freshM l.length) ((qZ (fW l P) P.length).take (k+1))=tG P (freshM l.length) ((qZ (fW l P) P.length).take k)++(if at0 (tU l.length P ((qZ (fW l P) P.length).take k)) (qO P (at0 (qZ (fW l P) P.length) k)).a.toNat=at0 (tU l.length P ((qZ (fW l P) P.length).take k)) (qO P (at0 (qZ (fW l P) P.length) k)).b.toNat then[]else[at0 (qZ (fW l P) P.length) k]):=(by rw[xd9 hk,take_one,rJ hk];rfl);have htl:(tG P (freshM l.length) ((qZ (fW l P) P.length).take k)).length<=14:=(by have h1:=(F8 (P:=P) ((qZ (fW l P) P.length).take k) (freshM l.length)).length_le;simp at h1;omega);obtain⟨m2,e1,e2,e3,e4⟩:=c_join (d+5) [] hU (λj hj=>by have hj':j.1=N1:=hj;omega) (p:=qO P (at0 (qZ (fW l P) P.length) k)) (by rw[hL];exact hq) (by rw[hL];omega);have keep:∀j:Id,j.1=0->m2.get j=m.get j:=λj hj=>e4 j (by show ¬j.1=N1;omega) (by omega)
   simp only[Pq.c]at lp;simp only[eF];unfold iJ oN;have hO2:Gk 1 intE (okZ 19) m2 a (qZ (fW l P) P.length):=hO.frame λj hj=>keep j hj.1
   have hT2:Gk 1 intE (okZ 46) m2 o (tG P (freshM l.length) ((qZ (fW l P) P.length).take k)):=hT.frame λj hj=>keep j hj.1
   have hg2:m2.get (0,0,1)=some (.row [s,p] 0 false):=(by rw[keep _ rfl];exact hg);rw[<-hus]at e2;simp only[sK,hk',xcc,sM,qV,i1,l1];simp[hg,ip,lp,e1];by_cases c3:at0 (tU l.length P ((qZ (fW l P) P.length).take k)) (qO P (at0 (qZ (fW l P) P.length) k)).a.toNat=at0 (tU l.length P ((qZ (fW l P) P.length).take k)) (qO P (at0 (qZ (fW l P) P.length) k)).b.toNat
   .rw[xc2 c3,xe6]at hts;simp[c3];unfold eY;simp(disch:=omega) [qQ];exact next o m2 _ ⟨⟨hg2,by omega⟩,hO2,e2,by rw[hts];exact hT2⟩
   .rw[xc1 c3]at hts;obtain⟨o2,m3,a1,a2,-,-,a3,a4⟩:=hT2.app (bytes:=8) (id0:=(0,fc+1+14,46)) rX (by omega) ⟨rfl,rfl⟩ (by unfold qW;omega) (at0 (qZ (fW l P) P.length) k);simp[c3,wI];rw[show ∀x:Int,elems m2.get 1 (.slit [I x] 1 true)=some (intE x,1)from λ_=>rfl,a1];unfold eY;simp(disch:=omega) [qQ];refine next o2 m3 _ ⟨⟨by rw[a4 _ (by unfold okZ;simp)];exact hg2,by omega⟩,hO2.frame λj hj=>a4 j (by obtain⟨h1,h2⟩:=hj;unfold okZ;omega),e2.frame λj hj=>a4 j (by have hj':j.1=N1:=hj;unfold okZ;omega),by rw[hts];exact a2⟩
  .rintro n o m fc ⟨⟨hg,hmn⟩,hO,hU,hT⟩;rw[xca (xc7 _)]at hT;have hTL:tG P (freshM l.length) (qZ (fW l P) P.length)=l5 (fW l P) l.length P:=rfl;rw[hTL]at hT;have hlen:=(V8 hR.pr (fW l P)).len hR.pr;obtain⟨m2,e1,e2,e3,e4⟩:=c_Sort (d+1) [] (by omega) hT;obtain⟨s1,s2⟩:=iso_asc (x7r (n:=l.length) (P:=P) (fW l P));have hfin:sU (λx y=>decide (x<y)) ((l5 (fW l P) l.length P).length-1) (l5 (fW l P) l.length P)=sS (fW l P) l.length P:=s1.one (V7 _) λx=>(s2 x).trans light_mem.symm
   rw[hfin]at e2;simp only[eF];unfold iJ oM;simp[e1];obtain⟨v,h1,h2⟩:=e2.sl1 4;exact RetF.mk h2 h1
theorem xa9(d:Nat){s p:AV}{l:List Scene}{P:List Pq}(hs:Sl Scene.c s l)(hp:Sl Pq.c p P)(hR:Right7 l P)(hl:l.length<=8)(hP:P.length<=14)(m:Mem) :
 ∃v,Ints v (sS (fW l P) l.length P)/\qK (qG (d+7)) bT [.agg [s,p]] m=some (v,m):=
 d8 (by simp[hs.still1,hp.still1]) (xa8 d hs hp hR hl hP) m
def GkF(ok:Id->Prop)(m:Mem)(a:AV)(l:List Int):Prop:=(a=nilS/\l=[])\/∃id ver b,ok id/\a=.sref id ver 0 l.length 1 true/\m.get id=some (.row (l.flatMap intE) ver b)
theorem GkF.frame{ok:Id->Prop}{m m':Mem}{a:AV}{l:List Int}(h:GkF ok m a l)(hm:∀id,ok id->m'.get id=m.get id):GkF ok m' a l:=by
 rcases h with h|⟨id,ver,b,h0,h1,h2⟩
 .exact Or.inl h
 .exact Or.inr ⟨id,ver,b,h0,h1,by rw[hm _ h0];exact h2⟩
def BestI(f:Int->Int)(S:List Int)(i:Nat)(b:Int):Prop:=(b=-1/\∀j:Nat,j<i->(j:Int)∈S)\/((0<=b/\b<i)/\b∉S/\∀j:Nat,j<i->(j:Int)∉S->(j:Int)=b\/lx f b j)
theorem BestI.fin{f:Int->Int}{N:Nat}{k:Nat}{b:Int}(h:BestI f ((qZ f N).take k) N b)(hk:k<N):b=at0 (qZ f N) k:=by
 have hl:=W3 f N;have hO:=zE f N;have hkl:k<(qZ f N).length:=(by omega);have hx:=(InN.get (ord_rng (f:=f) (N:=N)) hkl);have hnd:=hO.nodup;have hxn:at0 (qZ f N) k∉(qZ f N).take k:=λhm=>by obtain⟨j,hj,e⟩:=xfg.mp hm;rw[xgk,rJ hkl]at e;simp at hj;exact xgr.mp hnd j k (by omega) hkl (by omega) e
 rcases h with ⟨h1,h2⟩|⟨h1,h2,h3⟩
 .have:=h2 (at0 (qZ f N) k).toNat (by omega);rw[xd7 hx.1]at this;exact absurd this hxn
 .have h4:=h3 (at0 (qZ f N) k).toNat (by omega) (by rw[xd7 hx.1];exact hxn);rw[xd7 hx.1]at h4;rcases h4 with e|e
  .exact e.symm
  .have hb:b∈qZ f N:=(hO.2 b).mpr h1;rw[<-xgj k (qZ f N),xd0]at hb;have hb2:=hb.resolve_left h2;rw[uO hkl,xce]at hb2;rcases hb2 with e2|e2
   .rw[rJ hkl];exact e2
   .have hs:=hO.1;rw[<-xgj k (qZ f N),uO hkl]at hs;have:=(xdp.mp (xeh.mp hs).2.1).1 b e2;rw[rJ hkl]at e;exact(lx_asym _ _ this e).elim
def DoneI(f:Int->Int)(N k:Nat)(D:List Bool):Prop:=D.length=N/\∀i:Nat,i<N->D.getD i false=decide ((i:Int)∈(qZ f N).take k)
theorem DoneI.next{f:Int->Int}{N k:Nat}{D:List Bool}(h:DoneI f N k D)(hk:k<N):DoneI f N (k+1) (D.set (at0 (qZ f N) k).toNat true):=by
 have hl:=W3 f N;have hkl:k<(qZ f N).length:=(by omega);have hx:=InN.get (ord_rng (f:=f) (N:=N)) hkl;refine⟨by simp[h.1],λi hi=>?_⟩;rw[xd9 hkl,<-rJ hkl,xcg,xff];have h2:=h.2 i hi;rw[xcg]at h2;by_cases c:(at0 (qZ f N) k).toNat=i
 .rw[xc2 c,xc2 (by rw[h.1];omega)];have:(i:Int)=at0 (qZ f N) k:=(by omega);simp[this]
 .rw[xc1 c,h2];have:¬(i:Int)=at0 (qZ f N) k:=(by omega);simp[this]
theorem x7y:iO=[I 0,I 0]:=by kernel_rfl
theorem w_ends(d:Nat){s p:AV}{P:List Pq}(hs:s.one=true/\still1 s=true)(hp:Sl Pq.c p P){x:Sp}(hx:0<=x.p/\x.p<P.length)(m:Mem) :
 qK (qG (d+1)) dF [.agg [s,p],.agg [I x.p,I x.s]] m=some (.tup [I (frS P x),I (toS P x)],m):=by
 refine tM (by simp[hs.2,hp.still1]) ?_ m;have ip:=hp.ixz Pq.len hx.1 hx.2;have lp:=λm=>vW (m:=m) (enc:=Pq.c) Pq.len (by omega) (show x.p.toNat<P.length by omega)
 rw[<-L6 (by omega)]at lp;unfold frS toS;generalize qO P x.p=q at *
 simp only[Pq.c]at lp;rw[x1u];unfold mA jI;by_cases c:x.s<0
 .simp[mem0,hs.1,hp.one,ip,lp,v3,c];exact RetF.tup rfl rfl
 .simp[mem0,hs.1,hp.one,ip,lp,v3,c];exact RetF.tup rfl rfl
def idY:Id:=(0,5,21)
def idS:Id:=(0,10,25)
structure WM (s p:AV) (st:RSt) (m:Mem):Prop where
 b4:m.get (0,0,4)=some (.row [s,p] 0 false)
 oY:Ow Sp.c m idY st.y
 oS:Ow bE m idS st.k
theorem WM.fr{s p:AV}{st:RSt}{m m':Mem}(h:WM s p st m)(e:∀j:Id,j=(0,0,4)\/j=idY\/j=idS->m'.get j=m.get j):WM s p st m':=
 ⟨by rw[e _ (.inl rfl)];exact h.b4,h.oY.fr (e _ (.inr (.inl rfl))),h.oS.fr (e _ (.inr (.inr rfl)))⟩
def OutS(m:Mem)(a:AV)(l:List Sp):Prop:=Sl Sp.c a l\/∃id:Id,id.1=0/\id.2.2=85/\a=.sref id 0 0 l.length 2 true/\Ow Sp.c m id l
theorem OutS.elems{m:Mem}{a:AV}{l:List Sp}(h:OutS m a l):elems m.get 2 a=some (l.flatMap Sp.c,l.length):=by
 rcases h with h|⟨id,-,-,rfl,h⟩
 .exact h.elems Sp.len m.get
 .have hl:=vI Sp.len l;unfold Go.Ix.elems;simp only
  unfold Ow at h;rw[h];simp only
  rw[xc2 ⟨trivial,trivial,by omega⟩,xcd,xca (by omega)]
theorem OutS.frz{m:Mem}{a:AV}{l:List Sp}(h:OutS m a l)(k:Nat):∃a',Sl Sp.c a' l/\Go.Ix.frz m.get (k+2) a=some a':=by
 rcases h with h|⟨id,-,-,rfl,h⟩
 .exact⟨a,h,xW _ k h.still⟩
 .exact⟨_,Sl.lit l false,F4 (k:=k) Sp.len Sp.still h⟩
theorem z_2i:xe=[I 0,I 0]:=by kernel_rfl
theorem idx_2i0:wG Try.prog aO (.agg [I 1,I (-1)]) (I 0)=some (I 1):=by kernel_rfl
theorem idx_2i1:wG Try.prog aO (.agg [I 1,I (-1)]) (I 1)=some (I (-1)):=by kernel_rfl
theorem w_from(d:Nat){s p f:AV}{l:List Scene}{P:List Pq}{F:List Int}(hs:Sl Scene.c s l)(hp:Sl Pq.c p P)(hf:Ints f F)(v:Int)(m:Mem) :
 qK (qG (d+1)) dB [.agg [s,p],I v,f] m=some (.clo aQ [.plit [f],.plit [s,p],.plit [I v]],m):=by
 refine tM (by simp[hs.still1,hp.still1,hf.still]) ?_ m;rw[x1j];unfold lP iQ;simp[mem0,hs.one,hp.one,hf.one,hf.cells];generalize hm:Mem.new _ _ _=m1;have g5:m1.get (0,2,5)=some (.row [f] 0 false):=(by rw[<-hm];simp);have g3:m1.get (0,0,3)=some (.row [s,p] 0 false):=(by rw[<-hm];simp);have g4:m1.get (0,1,4)=some (.row [I v] 0 false):=(by rw[<-hm];simp);have e5:Go.Ix.frz m1.get 5 (.ptr (0,2,5) 0 0)=some (.plit [f]):=frz_box g5 (xW _ 2 hf.still);have e4:Go.Ix.frz m1.get 5 (.ptr (0,1,4) 0 0)=some (.plit [I v]):=frz_box g4 rfl;have e3:Go.Ix.frz m1.get 5 (.ptr (0,0,3) 0 0)=some (.plit [s,p]):=(by rw[x7x g3];simp only[xcd,xcx,xdm,xW m1.get 2 hs.still,xW m1.get 2 hp.still];rfl);refine RetF.mk (a':=.clo aQ [.plit [f],.plit [s,p],.plit [I v]]) ?_ rfl;show(([AV.ptr (0,2,5) 0 0,.ptr (0,0,3) 0 0,.ptr (0,1,4) 0 0].mapM (Go.Ix.frz m1.get 5)).map λl=>AV.clo _ l)=_;simp only[xcx,xdm,e5,e4,e3];rfl
theorem xaa{F:List Int}{k:Nat}(hk:k<F.length):wM (F.take (k+1))=wM (F.take k)++[⟨at0 F k,1⟩]++[⟨at0 F k,-1⟩]:=by unfold wM;rw[xd9 hk,List.flatMap_append,rJ hk];simp
theorem c_from2(d:Nat){hh:FHs}{id:Id}{h:List AV->Mem->Option Mem}{s p f:AV}{l:List Scene}{P:List Pq}{F:List Int}(hs:Sl Scene.c s l)(hp:Sl Pq.c p P)(hf:Ints f F)(hF:F.length<=1000)(hr:∀i∈F,0<=i/\i<P.length)(hl:xS hh id=some h)(v:Int){m0:Mem}(Inv:List Sp->Mem->Prop)(Fin:Mem->Prop)(hst:∀pre m m',Inv pre m->m'.next=m.next->(∀i:Id,¬i.1=m0.next->m'.get i=m.get i)->Inv pre m')(hy:∀pre x m,InF F x->frS P x=v->Inv pre m->∃m2,h [.agg [I x.p,I x.s],I (toS P x)] m=some m2/\(vD m2.get id=true/\Inv (pre++[x]) m2\/vD m2.get id=false/\Fin m2))(hn:∀pre x m,InF F x->frS P x≠v->Inv pre m->Inv (pre++[x]) m)(h0:∀m,m.next=m0.next+1->(∀i:Id,m.get i=m0.get i)->Inv [] m) :
 ∃m',qG (d+2) hh aQ [.yld id,.plit [f],.plit [s,p],.plit [I v]] m0=some (.tup [],m')/\(Inv (wM F) m'\/Fin m'):=by
 rw[x1t];unfold lZ jH;generalize hu:m0.next=u at *
 simp only[sLd_cons,xZ,qV,hf.len tH];refine tW (N:=F.length) (σ:=Unit) (λn k _ m fc=>bH (qG (d+1)) hh u n (.yld id) (.plit [s,p]) (.plit [I v]) f (I F.length) (I k) m fc) (λk _ m=>Inv (wM (F.take k)) m)
  (λr=>∃m',r=some (.tup [],m')/\(Inv (wM F) m'\/Fin m')) ?_ ?_ NN 0 () _ _ (by omega) (by rw[rQ];omega) (by simpa[wM]using h0 ⟨m0.hp,u+1⟩ rfl (λ_=>rfl))
 .rintro n k-m fc hk hI next;have hk':(k:Int)<(F.length:Int):=(by omega);have ix:=hf.ix rX hk;have ld:=λm=>vQ (m:=m) hk
  have hmem:at0 F k∈F:=(by rw[rJ hk];exact xcp hk);have hx:=hr _ hmem;have hsc:=xaa hk;generalize at0 F k=i at *
  simp only[bH];unfold jG pG;simp only[sK,hk',xcc,sM,qV,ix,ld,z_2i];rw[show rI [I 0,I 0] [(0,1,I 1),(1,1,I (-1))]=some (.agg [I 1,I (-1)]) by simp[rI,tP]];simp only[qV];have one:∀(sg:Int) (q:Int) (pre:List Sp) (m:Mem) (fc n1:Nat),(sg=1\/sg=-1)->q<2->0<=q->wG Try.prog aO (.agg [I 1,I (-1)]) (I q)=some (I sg)->Inv pre m ->
   (∀m' fc',Inv (pre++[⟨i,sg⟩]) m'->∃m2,cK (qG (d+1)) hh u (bH (qG (d+1)) hh u n) n1 (.yld id) (.plit [s,p]) (.plit [I v]) (I i) f (I F.length) (I k) (.agg [I 1,I (-1)]) (I (q+1)) m' fc'=some (.tup [],m2)/\(Inv (wM F) m2\/Fin m2)) ->
   ∃m2,cK (qG (d+1)) hh u (bH (qG (d+1)) hh u n) (n1+1) (.yld id) (.plit [s,p]) (.plit [I v]) (I i) f (I F.length) (I k) (.agg [I 1,I (-1)]) (I q) m fc=some (.tup [],m2)/\(Inv (wM F) m2\/Fin m2):=by
   intro sg q pre m fc n1 hsg hq2 hq0 hidx hI2 go;have hIn:InF F ⟨i,sg⟩:=⟨hmem,hsg⟩;have he:=λm=>w_ends d ⟨hs.one,hs.still1⟩ hp (x:=⟨i,sg⟩) hx m
   simp only[cK];unfold jF;simp only[sK,hq2,xcc,sM,qV,hidx,x7y];rw[show rI [I 0,I 0] [(0,1,I i),(1,1,I sg)]=some (.agg [I i,I sg]) by simp[rI,tP]];simp;generalize hm1:Mem.set _ _ _=m1;have q9:m1.get (u,fc+6,9)=some (.row [I i,I sg] 0 false):=(by rw[<-hm1];simp);have hI3:Inv pre m1:=hst pre m m1 hI2 (by rw[<-hm1];rfl) λj hj=>by rw[<-hm1,Mem.get_set,xc1 (by rintro rfl;exact hj rfl),Mem.get_new,xc1 (by rintro rfl;exact hj rfl)]
   simp[q9,he];rw[qQ (by omega) (by omega)];by_cases c:frS P ⟨i,sg⟩=v
   .obtain⟨m2,h1,h2⟩:=hy pre ⟨i,sg⟩ m1 hIn c hI3;have hinv:uD (qG (d+1)) hh 2 (.yld id) [.agg [I i,I sg],I (toS P ⟨i,sg⟩)] m1=some (B (vD m2.get id),m2):=by
     show(match xS hh id with
      |some h=>(h [.agg [I i,I sg],I (toS P ⟨i,sg⟩)] m1).map λ(m':Mem)=>(B (vD m'.get id),m')
      |none=>none)=_
     rw[hl];simp only
     rw[h1];rfl
    rcases h2 with ⟨hlv,h2⟩|⟨hlv,h2⟩
    .rw[hlv]at hinv;simp[c,q9,hinv];exact go m2 _ h2
    .rw[hlv]at hinv;simp[c,q9,hinv];exact .inr h2
   .simp[c];exact go m1 _ (hn pre ⟨i,sg⟩ m1 hIn c hI3)
  obtain⟨NM,hNM⟩:∃NM,NN=NM+1+1+1:=⟨NN-3,by have:=rQ;omega⟩;rw[hNM];refine one 1 0 _ m _ _ (.inl rfl) (by omega) (by omega) idx_2i0 hI λm1 fc1 h1=>?_
  refine one (-1) 1 _ m1 _ _ (.inr rfl) (by omega) (by omega) idx_2i1 h1 λm2 fc2 h2=>?_
  simp only[cK];unfold jF pF;simp(disch:=omega) [qQ];exact next () m2 _ (by rw[hsc];exact h2)
 .rintro n-m fc hI;rw[xca (xc7 _)]at hI;simp only[bH];unfold jG;simp;exact .inl hI
theorem c_from(d:Nat){hh:FHs}{id:Id}{h:List AV->Mem->Option Mem}{s p f:AV}{l:List Scene}{P:List Pq}{F:List Int}(hs:Sl Scene.c s l)(hp:Sl Pq.c p P)(hf:Ints f F)(hF:F.length<=1000)(hr:∀i∈F,0<=i/\i<P.length)(hl:xS hh id=some h)(v:Int){m0:Mem}(Inv:List Sp->Mem->Prop)(hst:∀pre m m',Inv pre m->m'.next=m.next->(∀i:Id,¬i.1=m0.next->m'.get i=m.get i)->Inv pre m')(hy:∀pre x m,InF F x->frS P x=v->Inv pre m->∃m2,h [.agg [I x.p,I x.s],I (toS P x)] m=some m2/\Inv (pre++[x]) m2)(hn:∀pre x m,InF F x->frS P x≠v->Inv pre m->Inv (pre++[x]) m)(h0:∀m,m.next=m0.next+1->(∀i:Id,m.get i=m0.get i)->Inv [] m)(hid:id.2.2=0:=by rfl) :
 ∃m',qG (d+2) hh aQ [.yld id,.plit [f],.plit [s,p],.plit [I v]] m0=some (.tup [],m')/\Inv (wM F) m':=by
 obtain⟨m',h1,h2⟩:=c_from2 d hs hp hf hF hr hl v Inv (λ_=>False) hst (λpre x m a b c=>by
  obtain⟨m2,h1,h2⟩:=hy pre x m a b c
  exact⟨m2,h1,.inl ⟨by unfold vD;rw[hid];rfl,h2⟩⟩) hn h0
 exact⟨m',h1,h2.resolve_right λx=>x⟩
end Go.Ix
