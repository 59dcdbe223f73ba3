import Derived.Test.YtjngclcijnpooaaGreatDoorWg2
import Derived.ProofKit
set_option maxRecDepth 10000
set_option linter.all false
open Go.Proofs.Tryz
noncomputable section
namespace Go.Ix
open Go.Proofs
variable{K:Id->Prop}{ba pa A:AV}{W:List Bd}{J:List Pn}{C:List Pe}{E O:Int}{m:Mem}{X:St10}{cs:List AV}
def xzm(d:Nat){a:AV}{S:List Lv10}(h:Sl Lv10.c a S)(t:S.length<=1000)(x:Lv10):∃b,aH (d+3) [] P8 [a,.clo pD [.aE x.c]] mem0=some (B (S.any (xN x)),b):=by
 have f:∃b,aH (d+2) [] P4 [a,.clo pD [.aE x.c]] mem0=some (I (idxQ (xN x) 0 S),b):=by
  obtain⟨b,r⟩:=T4 Lv10.len (by omega) (q:=xN x) h (by omega) (call:=aH (d+1)) (Z:=[]) (fv:=.clo pD [.aE x.c]) (λe _ m=>by
   show ∃b,aH (d+1) [] pD ([.agg e.c]++[.aE x.c]) m=_
   rw[iY,iW,x5u]
   unfold ky bA SE
   obtain⟨M,-,g,-,p⟩:=kR (x:=.agg e.c) (V3 (show e.c.all AV.one=true from rfl)) (m.next,0,2) ⟨m.hp,m.next+1⟩
   have g':M.get (m.next,0,2)=some (.row [I e.e,I e.pt,I e.sc,I e.mv,I e.er] 0 false):=g
   have n:aD 1 (.aE x.c)=some (.aE [I x.pt,I x.sc,I x.mv,I x.er]):=rfl
   have o:aD 2 (.aE x.c)=some (.aE [I x.sc,I x.mv,I x.er]):=rfl
   simp only[p,cX,aG,bR,aQ g',bC,dR,dE,n,o,w6,iD,dZ]
   unfold xN
   by_cases j:e.pt=x.pt
   .by_cases l:e.sc=x.sc
    .simp[j,l,g']
    .simp[j,l,g']
   .simp[j]) (MO (aH (d+1)) [] 0) (λ_ _ _ _ _ _ _=>rfl) S 0 NN ⟨[],1⟩ 4 rfl (by rw[dF];omega)
  refine⟨b,?_⟩;rw[x4u];unfold jh bA QN sr;simp only[h.len XB,aG,mem0];exact r
 obtain⟨b,f⟩:=f;have i:∀m,eO (aH (d+2)) P4 [a,.clo pD [.aE x.c]] m=some (I (idxQ (xN x) 0 S),m):=λm=>LF (by rw[dP,h.bB];rfl) f rfl
 rw[x42];unfold jp bA QX;simp only[i,aG,vL,mem0];rw[<-aq];exact⟨_,rfl⟩
def xjx(n i a b f:Int):cY vF [(0,1,I n),(1,1,I i),(2,1,I a),(3,1,I b),(4,1,I f)]=some (.agg [I n,I i,I a,I b,I f]):=by kernel_rfl
def yc:vF=[I 0,I 0,I 0,I 0,I 0]:=by kernel_rfl
def xjn:vF.length=5:=by rw[yc];rfl
def xx4{R:Type}(x:Lv10)(id:Id)(m:Mem)(K:AV->Mem->Option R):cQ vF [(0,5,.agg x.c)] 1 5 id m K=K (.aN x.c 1 true) m:=by rw[yc];rfl
def zB(J:List Pn)(X:St10)(n:Int)(p s:List UInt8)(mv a:Int):Int×St10:=
 let x:Lv10:=⟨n,idxQ (nmQ Pn.nm ⟨p.toArray⟩) 0 J,idxQ (nmQ Scene.nm ⟨s.toArray⟩) 0 X.L,mv,a⟩
 if x.pt<0\/x.sc<0 then(6,X)else if(wi mv (-1000000) 1000000&&wi a 0 1000000)=false then(2,X)else if X.V.any (xN x)=true then(28,X)else(0,{X with V:=X.V++[x]})
def x2d(d:Nat)(Z:FHs)(hK:∀j,K j->j.1<m.next)(C:[ba,pa,A].all aP=true)(hp:Sl Pn.c pa J)(R:J.length<=1000){b:Id}(y:Bk K m b (SC E O ba pa A) X)(hL:X.L.length<=1000)(hS:X.V.length<=1000)(p a:List UInt8)(mv g n:Int) :
    ∃P,aH (d+4) Z DH [.agg [Tx p,Tx a,I mv,I g],.ptr b 0 0,I n] m=some (I (zB J X n p a mv g).1,P)/\GrP K (λj=>j=b) m P/\Bk K P b (SC E O ba pa A) (zB J X n p a mv g).2:=by
 rw[x5v];unfold kz fC SF;obtain⟨Q,n1,g1,k1,hM1⟩:=kR (x:=.agg [Tx p,Tx a,I mv,I g]) rfl (m.next,0,3) ⟨m.hp,m.next+1⟩;have t:Gr0 K m Q:=jT (rF m) (.inl (bO _)) n1 k1;have g1':Q.get (m.next,0,3)=some (.row [Tx p,Tx a,I mv,I g] 0 false):=g1;obtain⟨H,s,q,v,w,fl,r1,r2,r3,r4,r5,r6,r7,r8,r9⟩:=y.cells;have rb:∀{M:Mem},Gr0 K m M->M.get b=some (.row [.ptr H 0 0,s,q,v,w] 0 false):=λh=>by rw[(h.2 b y.2.1 (λh=>h)).2 y.1];exact r1
 have r2':=r2.gr t (λ_ h=>h.elim);have l5:aA true 5 (.ptr b 0 0) Q=some (.agg [.ptr H 0 0,s,q,v,w]):=(by rw[aQ (rb t)];rfl);have nb:bZ (.ptr b 0 0)=some (.ptr b 0 0):=rfl;have cp:=λx=>xgs d C r2' hp R x
 have cc:=λx=>df d C r2' hL x
 unfold zB;generalize hx:(⟨n,idxQ (nmQ Pn.nm ⟨p.toArray⟩) 0 J,idxQ (nmQ Scene.nm ⟨a.toArray⟩) 0 X.L,mv,g⟩:Lv10)=x;have x1:idxQ (nmQ Pn.nm ⟨p.toArray⟩) 0 J=x.pt:=(by rw[<-hx]);have x2:idxQ (nmQ Scene.nm ⟨a.toArray⟩) 0 X.L=x.sc:=(by rw[<-hx]);have x4:x.c=[I n,I x.pt,I x.sc,I mv,I g]:=(by rw[<-hx];rfl);obtain⟨l,n2,g2,k2,hM2⟩:=kY (z:=5) (cs:=vF) (x:=.agg [I n,I x.pt,I x.sc,I mv,I g]) rfl rfl xjn (m.next,20,7) Q;have e:Gr0 K m l:=jT t (.inl (bO _)) n2 k2;have g2':l.get (m.next,20,7)=some (.row [I n,I x.pt,I x.sc,I mv,I g] 0 false):=g2;have D:b.1<m.next:=y.2.1;have F:∀{i j:Nat},b≠(m.next,i,j):=λh=>by rw[h]at D;simp at D
 have a1:aW (tR (.ptr b 0 0)) (some [],some [(m.next,20,7)])=true:=rJ F;have a2:∀o,aW (tR (.ptr (m.next,0,3) 0 o)) (some [],some [(m.next,20,7)])=true:=λo=>rJ (λh=>by simp[Prod.ext_iff]at h)
 simp only[hM1,nb,aG,l5,cX,bR,aQ g1',bC,dR,dE,cp,cc,x1,x2,xjx,hM2,a1,a2,gD,xF,bD];have r8':=r8.gr e (λj _ h=>h.elim);have lq:aA false 1 (.ptr b 0 (1+2)) l=some v:=(by rw[aQ (rb e)];rfl);have f:=y.gr e (λ_ h=>h.elim) (λh=>h);simp only[aQ g2',bC,dR,dE,aG,bV,dZ,gS];by_cases c1:x.pt<0
 .simp only[c1,bG,dX,cN,cZ,aG,cW,bD,aT,true_or,cM];exact⟨_,rfl,e.to,f⟩
 by_cases c2:x.sc<0
 .simp only[c1,c2,bG,bP,dX,cF,cZ,aQ g2',bC,dR,dE,bV,aG,cW,bD,aT,or_true,cM];exact⟨_,rfl,e.to,f⟩
 have W:=λn m=>HZ (d+1) n (K:=1000000) (by omega) m
 have Y:=λa b c m=>tK (d+2) a b c m
 simp only[c1,c2,bP,dX,cF,bD,cZ,aQ g2',bC,dR,dE,bV,aG,cW,aV,or_self,cT,W,gE];cases c3:wi mv (-1000000) 1000000 with
 |false=>simp only[cF,cN,cZ,aG,bD,aT,pU,cM];exact⟨_,rfl,e.to,f⟩
 |true=>
 simp only[cN,cF,bD,cZ,aQ g2',bC,dR,dE,aG,Y,gE,iG];cases c4:wi g 0 1000000 with
 |false=>simp only[cF,aT,cM];exact⟨_,rfl,e.to,f⟩
 |true=>
 obtain⟨q',q1,q2⟩:=r8'.frz Lv10.len Lv10.bB 4;obtain⟨mq,hcf⟩:=xzm (d+0) q2 hS x;have hcl:Go.Ix.frz l.get bI (.clo pD [.ptr (m.next,20,7) 0 0])=some (.clo pD [.aE x.c]):=(by have f2:Go.Ix.frz l.get 5 (.ptr (m.next,20,7) 0 0)=some (.aE x.c):=rG (cs':=x.c) g2' (by rw[x4];rfl);show([AV.ptr (m.next,20,7) 0 0].mapM (Go.Ix.frz l.get 5)).map (AV.clo pD)=_;simp only[eI,gX,f2];rfl);have q1':Go.Ix.frz l.get bI v=some q':=q1;have hcf':eO (aH (d+3)) P8 [v,.clo pD [.ptr (m.next,20,7) 0 0]] l=some (B (X.V.any (xN x)),l):=
  wS (by simp only[eI,gX,q1',hcl];rfl) hcf rfl
 simp only[cN,aV,Bool.true_eq_false,cT,lq,aG,hcf'];cases c5:X.V.any (xN x)with
 |true=>simp only[aT,cM];exact⟨_,rfl,e.to,f⟩
 |false=>
 obtain⟨r,M3,hr,u,n3,g3⟩:=x27 (d+2) r8';have gr4:Gr0 K m M3:=e.trans g3;obtain⟨fl2,N⟩:=SimO.row (g3.2 (m.next,20,7) (by rw[n2,n1];exact mH _) (λh=>h)).1 g2';have ldx:aA true 5 (.ptr (m.next,20,7) 0 0) M3=some (.agg x.c):=(by rw[aQ N,x4];rfl);have hN:(m.next,59,63).1<M3.next:=(by rw[n3,n2,n1];exact mH _);obtain⟨M4,hM4,hB4,hG4,-,-⟩:=JI Lv10.len (bytes:=40) (by omega) y gr4 hr hS (k:=3) (by omega) (id:=(m.next,59,63)) (uF hK (bO _) (by simp)) hN (bO _) x (λP v cs h1 h2=>h1.setV h2);have hel:elems M3.get 5 (.aN x.c 1 true)=some (x.c,1):=rfl;have a3:aW (tR (.ptr b 0 (1+2))) (some [],some [(m.next,58,62)])=true:=rJ F;simp only[aV,fH,cT,aG,u,ldx,xx4,hel,hM4,a3,bD];exact⟨M4,rfl,hG4,hB4⟩
end Go.Ix
namespace Go.Ix
open Go.Proofs
variable{K:Id->Prop}{ba pa A:AV}{W:List Bd}{J:List Pn}{C:List Pe}{E O:Int}{m:Mem}{X:St10}{cs:List AV}
variable{α:Type}{z:Nat}{enc:α->List AV}
def xbs(l:List AV):rd false 1 l=l.head?:=by cases l<;>rfl
def Rk.len{a:AV}{l:List α}(h:Rk K z enc m a l){t e:TypeId}(d:prog.underlying t=some (.slice e)):aM prog t a=some (I l.length):=by
 rcases h with ⟨rfl,rfl⟩|⟨x,rfl⟩|⟨id,g,x,b,f,i,j,rfl,n,o⟩
 .exact(show Sl enc nilS []from .inl ⟨rfl,rfl⟩).len d
 .exact(show Sl enc (.aN (l.flatMap enc) l.length x) l from .inr ⟨x,rfl⟩).len d
 .rfl
def Rk.cell(d:∀x,(enc x).length=z){a:AV}{l:List α}(h:Rk K z enc m a l){k:Nat}(g:k<l.length):∃p,aR z a (I k)=some p/\∀o,o<z->∃i,aD o p=some i/\aA false 1 i m=(enc l[k])[o]?:=by
 have r:(l.flatMap enc).drop (k*z)=enc l[k]++(l.drop (k+1)).flatMap enc:=(by rw[yY d,FZ g,dT]);have j:∀o,o<z->(((l.flatMap enc).drop (k*z)).drop o).head?=(enc l[k])[o]?:=λo e=>by rw[r,ey,zU (by rw[d];exact e)]
 have u:=gG d l;rcases h with ⟨rfl,rfl⟩|⟨x,rfl⟩|⟨id,f,x,b,n,y,A,rfl,t,C⟩
 .simp at g
 .refine⟨_,Sl.ix d (.inr ⟨x,rfl⟩) g,λo e=>⟨_,rfl,?_⟩⟩;rw[<-j o e,yY d];generalize List.drop o _=q;cases q<;>rfl
 .refine⟨.ptr id f (k*z),?_,λo e=>⟨.ptr id f (k*z+o),rfl,?_⟩⟩
  .simp only[aR,dL];rw[aF ⟨by omega,by omega,trivial⟩];simp
  .rw[aQ t,xbs,<-j o e,xig,ey,ey,zU];have:(k+1)*z<=l.length*z:=nT z g;rw[lT]at this;omega
def notNew(L:List Scene)(d:Int):Bool:=match L[L.length-1]? with
 |some s=>decide (d<=s.day)
 |none=>false
def sU(X:St10)(n:List UInt8)(d b:Int):Int×St10:=
 let e:=fstE [namedM ⟨n.toArray⟩ (X.L.map Scene.nm),rgE (wi d 0 100000&&wi b (-100000) 100000)]
 if X.L.length=12 then(16,X)else if e≠0 then(e,X)else if notNew X.L d=true then(9,X)else(0,{X with L:=X.L++[⟨⟨n.toArray⟩,d,b⟩]})
def xx2{R:Type}(x:Scene)(id:Id)(m:Mem)(K:AV->Mem->Option R):cQ mV [(0,3,.agg x.c)] 1 3 id m K=K (.aN x.c 1 true) m:=by rw[AF];rfl
def xjk:mV.length=3:=by rw[AF];rfl
def xc7{R:Type}{x y:Int}{id:Id}{m:Mem}{k:AV->Mem->Option R}:cQ pY [(0,1,I x),(1,1,I y)] 2 1 id m k=k (.aN [I x,I y] 2 true) m:=by rw[show pY=[I 0] by kernel_rfl];simp[cQ,jC,eN,rL,cS]
def x7p(d:Nat)(f:[ba,pa,A].all aP=true){b a:Id}{M:Mem}(i:M.get b=some (.row cs 0 false))(h:Bc K M (SC E O ba pa A) X cs)(j:M.get a=some (.row [.ptr b 0 0] 0 false))(o:X.L.length<=1000){n:List UInt8}(r:n.length<=1000) :
    eO (aH (d+3)) qY [Tx n,.clo uJ [.ptr a 0 0],I X.L.length] M=some (I (namedM ⟨n.toArray⟩ (X.L.map Scene.nm)),M):=by
 obtain⟨s,p,v,c,e,W,Y,Z,e4⟩:=h.frz f 0;obtain⟨u,g⟩:=xhn (d+1) (s:=⟨n.toArray⟩) (fv:=.clo uJ [.aE [.aE [.aE (SC E O ba pa A),s,p,v,c]]]) (l:=X.L.map Scene.nm) (by show n.toArray.size<=1000;simpa using r) (by simpa using o) λk t m=>by
  have hk':k<X.L.length:=(by simpa using t);show ∃u,aH (d+2) [] uJ ([I k]++[.aE [.aE [.aE (SC E O ba pa A),s,p,v,c]]]) m=_;rw[iY,iW,x5k];unfold kj bA RS;have w:∀m,aA false 1 (.aE [.aE [.aE (SC E O ba pa A),s,p,v,c]]) m=some (.aE [.aE (SC E O ba pa A),s,p,v,c]):=λ_=>rfl
  have x:bZ (.aE [.aE (SC E O ba pa A),s,p,v,c])=some (.aE [.aE (SC E O ba pa A),s,p,v,c]):=rfl;have y:aD 1 (.aE [.aE (SC E O ba pa A),s,p,v,c])=some (.aE [s,p,v,c]):=rfl;have C:aD 0 (.aE [s,p,v,c])=some (.aE [s,p,v,c]):=rfl;have D:∀m,aA false 1 (.aE [s,p,v,c]) m=some s:=λ_=>rfl
  have ix:=W.ix Scene.len hk';have F:aD 0 (.aE ((X.L.drop k).flatMap Scene.c))=some (.aE ((X.L.drop k).flatMap Scene.c)):=rfl;have H:∀m,aA false 1 (.aE ((X.L.drop k).flatMap Scene.c)) m=some (T X.L[k].nm):=λm=>by rw[fX hk',dT];rfl
  simp only[w,x,y,C,D,F,H,ix,aG,G9];exact⟨_,rfl⟩
 rw[lU]at g;refine wS ?_ g rfl;have J:Go.Ix.frz M.get 4 (.ptr b 0 0)=some (.aE [.aE (SC E O ba pa A),s,p,v,c]):=rG i e;have N:Go.Ix.frz M.get 5 (.ptr a 0 0)=some (.aE [.aE [.aE (SC E O ba pa A),s,p,v,c]]):=rG j (by simp only[eI,gX,J];rfl);have P:Go.Ix.frz M.get bI (.clo uJ [.ptr a 0 0])=some (.clo uJ [.aE [.aE [.aE (SC E O ba pa A),s,p,v,c]]]):=(by show([AV.ptr a 0 0].mapM (Go.Ix.frz M.get 5)).map (AV.clo uJ)=_;simp only[eI,gX,N];rfl);have Q:Go.Ix.frz M.get bI (Tx n)=some (Tx n):=kN _ 4 rfl;have R:Go.Ix.frz M.get bI (I X.L.length)=some (I X.L.length):=kN _ 4 rfl;simp only[eI,gX,P,Q,R];rfl
def x2b(d:Nat)(Z:FHs)(hK:∀j,K j->j.1<m.next)(hst:[ba,pa,A].all aP=true){b:Id}(N:Bk K m b (SC E O ba pa A) X)(hL:X.L.length<=1000){n:List UInt8}(hn:n.length<=1000)(dy W k:Int) :
    ∃u,aH (d+4) Z DE [.agg [Tx n,I dy,I W],.ptr b 0 0,I k] m=some (I (sU X n dy W).1,u)/\GrP K (λj=>j=b) m u/\Bk K u b (SC E O ba pa A) (sU X n dy W).2:=by
 rw[x5l];unfold km RT;obtain⟨M1,n1,g1,k1,hM1⟩:=kR (x:=.agg [Tx n,I dy,I W]) rfl (m.next,0,3) ⟨m.hp,m.next+1⟩;have gr1:Gr0 K m M1:=jT (rF m) (.inl (bO _)) n1 k1;obtain⟨M2,n2,g2,k2,hM2⟩:=kR (x:=.ptr b 0 0) rfl (m.next,1,4) M1;have R:Gr0 K m M2:=jT gr1 (.inl (bO _)) n2 k2;have g1':M2.get (m.next,0,3)=some (.row [Tx n,I dy,I W] 0 false):=(by rw[k2 _ (by simp[Prod.ext_iff])];exact g1);have g2':M2.get (m.next,1,4)=some (.row [.ptr b 0 0] 0 false):=g2;obtain⟨sid,s,q,v,w,fl,r1,r2,r3,r4,r5,r6,r7,r8,r9⟩:=N.cells;have rb:∀{M:Mem},Gr0 K m M->M.get b=some (.row [.ptr sid 0 0,s,q,v,w] 0 false):=λh=>by rw[(h.2 b N.2.1 (λh=>h)).2 N.1];exact r1
 have nb:bZ (.ptr b 0 0)=some (.ptr b 0 0):=rfl;have Y:=r6.len lF;obtain⟨M3,n3,g3,k3,hM3⟩:=kY (z:=3) (cs:=mV) (x:=.agg [Tx n,I dy,I W]) rfl rfl xjk (m.next,11,7) M2;have e:Gr0 K m M3:=jT R (.inl (bO _)) n3 k3;have g3':M3.get (m.next,11,7)=some (.row [Tx n,I dy,I W] 0 false):=g3;have F:M3.get (m.next,1,4)=some (.row [.ptr b 0 0] 0 false):=(by rw[k3 _ (by simp[Prod.ext_iff])];exact g2');have hlt:b.1<m.next:=N.2.1;have H:∀{i j:Nat},b≠(m.next,i,j):=λh=>by rw[h]at hlt;simp at hlt
 have a1:∀o,aW (tR (.ptr b 0 o)) (some [],some [(m.next,11,7)])=true:=λo=>rJ H
 have a2:aW (tR (.ptr (m.next,0,3) 0 0)) (some [],some [(m.next,11,7)])=true:=rJ (λh=>by simp[Prod.ext_iff]at h);have a3:aW (tR (.ptr (m.next,1,4) 0 0)) (some [],some [(m.next,11,7)])=true:=rJ (λh=>by simp[Prod.ext_iff]at h);have a4:aW (tR (.ptr (m.next,1,4) 0 0)) (tS (.ptr (m.next,11,7) 0 0))=true:=FE (λh=>by simp[Prod.ext_iff]at h);have a5:∀o,aW (tR (.ptr b 0 o)) (tS (.ptr (m.next,11,7) 0 0))=true:=λo=>FE H
 have lx:aA true 3 (.ptr (m.next,0,3) 0 0) M2=some (.agg [Tx n,I dy,I W]):=(by rw[aQ g1'];rfl);have ls:∀{M:Mem},Gr0 K m M->aA false 1 (.ptr b 0 1) M=some s:=λh=>by rw[aQ (rb h)];rfl
 have t:=N.gr e (λ_ h=>h.elim) (λh=>h);have hnm:=x7p d hst (rb e) (r2.gr e (λ_ h=>h.elim)) F hL hn;have hwi:=λa b c m=>tK (d+2) a b c m
 have hsm:=λn m=>HZ (d+1) n (K:=100000) (by omega) m
 have hrg:∀b m,aI (aH (d+3)) pB [B b] m=some (I (rgE b),m):=λb m=>IA (d+2) b m
 have hfs:∀x y m,aI (aH (d+3)) uK [.aN [I x,I y] 2 true] m=some (I (fstE [x,y]),m):=λx y m=>IB (d+2) (l:=[x,y]) (.inr ⟨true,rfl⟩) (by simp) m
 simp only[hM1,hM2,nb,aG,lx,cX,bR,uZ,aQ g2',bC,dE,ls R,Y,hM3,a1,a2,a3,a4,a5,gD,xF,bD,iD];unfold sU;by_cases c1:X.L.length=12
 .have c1':(X.L.length:Int)=12:=(by omega);simp only[c1,aT,cM,show decide (((12:Nat):Int)=12)=true from rfl];exact⟨_,rfl,e.to,t⟩
 have c1':¬((X.L.length:Int)=12):=(by omega);simp only[c1,c1',bP,aV,cT,aQ g3',bC,dR,dE,aG,hnm,hwi,dZ,gS];generalize namedM ⟨n.toArray⟩ (X.L.map Scene.nm)=nm;have he2:fstE [nm,rgE false]≠0:=(by simp only[fstE,iN,rgE,cond_false];split<;>simp_all);cases hw1:wi dy 0 100000 with
 |false=>simp only[iS,cZ,aG,cW,hrg,xc7,hfs,gC,pU];simp only[he2,ne_eq,not_false_eq_true,cM];exact⟨_,rfl,e.to,t⟩
 |true=>
 simp only[iS,bD,aG,cW,aQ g3',bC,dR,dE,hsm,hrg,xc7,hfs,gC,iG,iC];by_cases c2:fstE [nm,rgE (wi W (-100000) 100000)]=0;case neg=>simp only[c2,ne_eq,not_false_eq_true,cM];exact⟨_,rfl,e.to,t⟩
 have C:=ls e
 have D:notNew X.L dy=false->∃u,((aI (aH (d+3)) Q1 [s] M3).bind λg=>
  (aA true 3 (.ptr (m.next,11,7) 0 0) g.2).bind λt63=>
  cQ mV [(0,3,t63)] 1 3 (m.next,60,64) g.2 λP Q=>
  cJ 3 32 (m.next,61,65) (elems Q.get 3 P) g.1 Q λt65 m_7=>
  aU 1 (.ptr b 0 1) t65 m_7 λm_8=>
  bif(aW (tR (.ptr (m.next,1,4) 0 0)) (some [],some [(m.next,60,64)])&&(aW (tR (.ptr (m.next,1,4) 0 0)) (some [],some [(m.next,60,64)])&&(aW (tR (.ptr b 0 1)) (some [],some [(m.next,60,64)])&&aW (tR (.ptr (m.next,1,4) 0 0)) (tX P,tA (m.next,61,65) g.1))))then
  some ((I 0),m_8)else none)=some (I 0,u)/\GrP K (λj=>j=b) m u/\Bk K u b (SC E O ba pa A) {X with L:=X.L++[⟨⟨n.toArray⟩,dy,W⟩]}:=by
  intro f
  obtain⟨r,M4,hr,J,n4,g4⟩:=x29 (d+2) (r6.gr e (λj _ h=>h.elim))
  have gr4:Gr0 K m M4:=e.trans g4
  obtain⟨fl2,g3''⟩:=SimO.row (g4.2 (m.next,11,7) (by rw[n3,n2,n1];exact mH _) (λh=>h)).1 g3'
  have ldx:aA true 3 (.ptr (m.next,11,7) 0 0) M4=some (.agg (Scene.c ⟨⟨n.toArray⟩,dy,W⟩)):=by rw[aQ g3''];rfl
  have hN:(m.next,61,65).1<M4.next:=by rw[n4,n3,n2,n1];exact mH _
  obtain⟨M5,hM5,hB5,hG5,-,-⟩:=JI Scene.len (bytes:=32) (by omega) N gr4 hr hL (k:=1) (by omega) (id:=(m.next,61,65)) (uF hK (bO _) (by simp)) hN (bO _) ⟨⟨n.toArray⟩,dy,W⟩ (λu v cs h1 h2=>h1.setL h2)
  have hel:∀x:Scene,elems M4.get 3 (.aN x.c 1 true)=some (x.c,1):=λ_=>rfl
  have b1:aW (tR (.ptr (m.next,1,4) 0 0)) (some [],some [(m.next,60,64)])=true:=rJ (λh=>by simp[Prod.ext_iff]at h)
  have b2:aW (tR (.ptr b 0 1)) (some [],some [(m.next,60,64)])=true:=rJ H
  have b3:∀x:List AV,aW (tR (.ptr (m.next,1,4) 0 0)) (tX (.aN x 1 true),tA (m.next,61,65) r)=true:=λx=>by
   have:tA (m.next,61,65) r=some [(m.next,61,65)]:=by rcases hr with ⟨rfl,-⟩|rfl<;>rfl
   rw[this]
   show aW (some [(m.next,1,4)],some []) (some [],some [(m.next,61,65)])=true
   simp[aW,kX]
  simp only[aG,J,ldx,xx2,hel,hM5,b1,b2,b3,gD,bD]
  exact⟨M5,rfl,hG5,hB5⟩
 simp only[c2,ne_eq,not_true_eq_false,bG,cN,aV,cT,gR];by_cases c3:0<X.L.length
 .have c3':((X.L.length:Int) > 0):=(by omega);have hk:X.L.length-1<X.L.length:=(by omega);obtain⟨p,p1,p2⟩:=(r6.gr e (λj _ h=>h.elim)).cell Scene.len hk;obtain⟨p',p3,p4⟩:=p2 1 (by omega);have w1:cG ((X.L.length:Int)-1)=((X.L.length-1:Nat):Int):=(by rw[bQ];omega);have f:notNew X.L dy=decide (dy<=X.L[X.L.length-1].day):=(by unfold notNew;rw[eJ hk]);have p4':aA false 1 p' M3=some (I X.L[X.L.length-1].day):=p4;simp only[c3',bG,iS,bD,aG,aQ g3',aQ F,bC,dR,dE,nb,cX,bR,uZ,C,nX,w1,p1,p3,p4',IU];by_cases c4:dy<=X.L[X.L.length-1].day
  .simp only[f,c4,bG,aT,cM];exact⟨_,rfl,e.to,t⟩
  .simp only[f,c4,bP,aV,fH,cT];exact D (by rw[f,eY c4])
 .have c3':¬((X.L.length:Int) > 0):=(by omega);have f:notNew X.L dy=false:=(by unfold notNew;rw[FW (by omega)]);simp only[c3',f,bP,iS,cZ,aG,aV,fH,cT,aQ F,bC,dE,nb,cX,bR,uZ,C];exact D f
end Go.Ix
namespace Go.Ix
open Go.Proofs
variable{K:Id->Prop}{ba pa A:AV}{W:List Bd}{J:List Pn}{C:List Pe}{E O:Int}{m:Mem}{X:St10}{cs:List AV}
def D4(x:Int):List Int->Int->Int
 |[],_=>-1
 |y::r,k=>if x=y then k else D4 x r (k+1)
def xep{x:Int}:∀(F:List Int) (k:Int),0<=k->(decide (0<=D4 x F k)=F.any λy=>decide (y=x))
 |[],_,_=>rfl
 |y::r,k,h=>by
  rw[D4,W1];by_cases c:x=y
  .rw[aF c];simp[h,c]
  .rw[aB c,xep r (k+1) (by omega)];have:¬y=x:=λe=>c e.symm
   simp[this]
def zn(d:Nat){f:AV}{F:List Int}{x:Int}(e:Ints f F)(h:F.length<=1000000)(m:Mem):aI (aH (d+2)) yB [f,I x] m=some (B (F.any λy=>decide (y=x)),m):=by
 have b:∀m,aI (aH (d+1)) CQ [f,I x] m=some (I (D4 x F 0),m):=λm=>by
  refine eZ (by simp[e.bB]) ?_ m;rw[x4q];unfold jd bA QE sj;simp only[e.len jA,aG];refine nH (N:=F.length) (σ:=Unit) (λn k _ m Y=>X8 (aH d) [] 0 n f (I x) (I F.length) (I k) m Y) (λk _ m=>D4 x (F.drop k) k=D4 x F 0) _ ?_ ?_ NN 0 () _ _ (by omega) (by rw[dF];omega) (by simp)
  .rintro n k-m Y g a next;have hk':(k:Int)<(F.length:Int):=(by omega);have ix:=e.ix fR g;rw[fX g,D4,<-fD g]at a;simp only[X8];unfold QF;simp(disch:=omega) [hk',ix,nI];by_cases c:x=at0 F k
   .rw[aF c]at a;simp[c];exact RetF.st rfl (by rw[<-c,<-a])
   .rw[aB c]at a;simp[c];exact next () _ _ (by rw[<-a];norm_cast)
  .rintro n-m Y a;simp only[X8];unfold QF sk;simp;rw[List.drop_length]at a;exact RetF.st rfl (by rw[<-a];rfl)
 refine eZ (by simp[e.bB]) ?_ m;rw[x4y];unfold jl bA QT;simp[b];exact RetF.st rfl (by rw[xep F 0 (by omega)])
structure SuOK (wv mg:Int) (ba pa A:AV) (bl:List Bd) (pl:List Pn) (C:List Pe):Prop where
 b:Sl Bd.c ba bl
 p:Sl Pn.c pa pl
 e:Sl Pe.c A C
 bn:bl.length<=1000
 pn:pl.length<=1000
 en:C.length<=1000
 mg:0<=mg/\mg<=2048
 wv:1<=wv/\wv<=10000
 th:∀(i:Nat) (h:i<bl.length),0<=bl[i].th/\bl[i].th<=1000000
 po:∀(i:Nat) (h:i<bl.length),polyE bl[i].cs=0
 pt:∀p∈pl,isPl p.at_=true
def SuOK.st(h:SuOK E O ba pa A W J C):[ba,pa,A].all aP=true:=by simp[h.b.aP,h.p.aP,h.e.aP]
structure XOK (D:Nat) (X:St10):Prop where
 L:X.L.length<=12
 D:X.L.length<=D
 S:X.S.length<=1000
 V:X.V.length<=1000
 C:X.C.length<=11
 Q:∀j:Nat,(ofPt j X.S).length<=19
 f:∀p∈X.S,p.f.natAbs<=400000
def zK{T:AV->Prop}{b:aJ}{f:FuncId}{l:List AV}(d:l.all bB=true)(h:RetF T (b [] f l mem0)):∃a,T a/\∀m,aI b f l m=some (a,m):=by obtain⟨a,n,e,g,i,j⟩:=h;exact⟨e,j,λm=>U7 d g i⟩
def xgv(d:Nat)(g:SuOK E O ba pa A W J C)(o:XOK (d+8) X)(h:Bc K m (SC E O ba pa A) X cs){i:Nat}(y:i<W.length) :
    ∃v M,VV X.L X.S O E W[i] J v/\aI (aH (d+16)) B8 [.agg cs,I (i:Int)] m=some (v,M)/\M.next=m.next/\Gr0 K m M:=by
 obtain⟨s,p,v,c,e,H,N,u,w⟩:=h.frz g.st 2;have t:∀{α:Type} {F:α->List AV} {a:AV} {l:List α},Sl F a l->eM a=true:=λh=>by rcases h with ⟨rfl,-⟩|⟨x,rfl⟩<;>rfl
 have n:[FB E O ba pa A s p v c,I (i:Int)].all bB=true:=(by show(([AV.aE (SC E O ba pa A),s,p,v,c].all aP)&&true)=true;simp[H.aP,N.aP,u.aP,Sl.aP w];rfl);obtain⟨r,hr,hc⟩:=zK n (x87 d (A:=A) g.b g.p H N ⟨u.aP,Sl.aP w⟩ ⟨u.one,Sl.one w⟩ ⟨t u,t w⟩ g.pn o.S g.mg g.wv ⟨o.L,o.D⟩ o.Q o.f y (g.th i y) (g.po i y) g.pt);have R:[AV.agg cs,I (i:Int)].mapM (Go.Ix.frz m.get bI)=some [FB E O ba pa A s p v c,I (i:Int)]:=(by have Y:Go.Ix.frz m.get bI (.agg cs)=some (FB E O ba pa A s p v c):=(by show(cs.mapM (Go.Ix.frz m.get 5)).map AV.agg=_;rw[e];rfl);have Z:Go.Ix.frz m.get bI (I (i:Int))=some (I (i:Int)):=kN _ 4 rfl;simp only[eI,gX,Y,Z];rfl);refine⟨r,_,hr,de R n hc,rfl,xex λj P=>?_⟩;have hP:(SC E O ba pa A).all aP=true:=(by show(true&&(true&&[ba,pa,A].all aP))=true;rw[g.st];rfl);have hj':j∈cs.flatMap (Go.Ix.reach m.get 5)++[]:=P;rw[iH]at hj';exact h.reach hP 2 j hj'
def V1(O E:Int)(W:List Bd)(J:List Pn)(X:St10)(i:Nat):Int:=match W[i]? with
 |some b=>pP X.L X.S O E b J
 |none=>0
def zD(O E:Int)(W:List Bd)(J:List Pn)(X:St10)(n:List UInt8):Int×St10:=
 let i:=idxQ (nmQ Bd.nm ⟨n.toArray⟩) 0 W
 if i<0 then(6,X)else if(X.C.any λy=>decide (y=i))=true\/V1 O E W J X i.toNat≠2 then(24,X)else(0,{X with C:=iE (λx y=>decide (x<y)) X.C.length (X.C++[i])})
def xx5{R:Type}(x:Int)(id:Id)(m:Mem)(K:AV->Mem->Option R):cQ hY [(0,1,I x)] 1 1 id m K=K (.aN [I x] 1 true) m:=by rw[mU];rfl
def x2f(d:Nat)(Z:FHs)(hK:∀j,K j->j.1<m.next)(hO:SuOK E O ba pa A W J C)(hX:XOK (d+8) X){b:Id}(o:Bk K m b (SC E O ba pa A) X)(n:List UInt8)(k:Int) :
    ∃m',aH (d+17) Z DK [Tx n,.ptr b 0 0,I k] m=some (I (zD O E W J X n).1,m')/\GrP K (λj=>j=b) m m'/\Bk K m' b (SC E O ba pa A) (zD O E W J X n).2:=by
 rw[x59];unfold mh TB;obtain⟨N,D⟩:∃N:Mem,N=⟨m.hp,m.next+1⟩:=⟨_,rfl⟩;have a:Gr0 K m N:=(by rw[D];exact rF m);have n1:N.next=m.next+1:=(by rw[D]);obtain⟨p,s,q,v,w,fl,r1,r2,r3,r4,r5,r6,r7,r8,r9⟩:=o.cells;have rb:∀{M:Mem},Gr0 K m M->M.get b=some (.row [.ptr p 0 0,s,q,v,w] 0 false):=λh=>by rw[(h.2 b o.2.1 (λh=>h)).2 o.1];exact r1
 have l5:∀{M:Mem},Gr0 K m M->aA true 5 (.ptr b 0 0) M=some (.agg [.ptr p 0 0,s,q,v,w]):=λh=>by rw[aQ (rb h)];rfl
 have lw:∀{M:Mem},Gr0 K m M->aA false 1 (.ptr b 0 (1+3)) M=some w:=λh=>by rw[aQ (rb h)];rfl
 have nb:bZ (.ptr b 0 0)=some (.ptr b 0 0):=rfl;have u:∀{M:Mem},Gr0 K m M->Bk K M b (SC E O ba pa A) X:=λh=>o.gr h (λ_ h=>h.elim) (λh=>h)
 have cb:eO (aH (d+16)) wD [.agg [.ptr p 0 0,s,q,v,w],Tx n] N=some (I (idxQ (nmQ Bd.nm ⟨n.toArray⟩) 0 W),N):=xgu (d+13) hO.st (r2.gr a (λ_ h=>h.elim)) hO.b hO.bn _;rw[<-D];unfold zD;simp only[nb,aG,l5 a,cb,bV,cX,bR];rcases D3 (nmQ Bd.nm ⟨n.toArray⟩) W 0 with ⟨h0,-⟩|⟨i,h0,hi,-⟩
 .rw[h0];simp only[show((-1:Int)<0)from by decide,cM];exact⟨_,rfl,a.to,u a⟩
 rw[h0,MQ];have hi0:¬((i:Int)<0):=(by omega);obtain⟨rc,M2,hq,hcon,n2,g2⟩:=(r9.gr a (λ_ _ h=>h.elim)).gA (Q:=λr=>r=B (X.C.any λy=>decide (y=(i:Int)))) (call:=aH (d+16)) (f:=yB) wJ C9 [I (i:Int)] rfl
  λa' ha=>⟨_,rfl,λm=>zn (d+14) ha (by have:=hX.C;omega) m⟩
 subst hq;have e:Gr0 K m M2:=a.trans g2;simp only[hi0,bP,aV,cT,lw a,aG,hcon,gR,dZ,gS,hJ];cases c1:X.C.any λy=>decide (y=(i:Int))with
 |true=>simp only[dX,cN,cZ,aG,cW,bD,aT,true_or,cM];exact⟨_,rfl,e.to,u e⟩
 |false=>
 obtain⟨va,M3,⟨ys,yo,yl,rfl,-⟩,hans,n3,g3⟩:=xgv d hO hX (r2.gr e (λ_ h=>h.elim)) hi;have hai:V1 O E W J X i=pP X.L X.S O E W[i] J:=(by unfold V1;rw[eJ hi]);have g:Gr0 K m M3:=e.trans g3;have fld:L7 false 1 0 (.agg [I (pP X.L X.S O E W[i] J),ys,yo,yl])=some (I (pP X.L X.S O E W[i] J)):=rfl;simp only[dX,cF,bD,aG,nb,l5 e,hans,fld,gC,cW,cZ,fH,false_or,hai];by_cases c2:pP X.L X.S O E W[i] J=2;case neg=>simp only[c2,bP,cF,aT,ne_eq,not_false_eq_true,cM];exact⟨_,rfl,g.to,u g⟩
 simp only[c2,bG,cN,aV,ne_eq,not_true_eq_false,cT];obtain⟨r,M4,hr,F,n4,g4⟩:=x3b (d+15) (r9.gr g (λ_ _ h=>h.elim));have gr4:Gr0 K m M4:=g.trans g4;have hid:(m.next,36,42).1<M4.next:=(by rw[n4,n3,n2,n1];exact mH _);obtain⟨M5,hM5,hB5,H,hr5,n5,hb5⟩:=JI wJ (bytes:=8) (by omega) o gr4 hr (by have:=hX.C;omega) (k:=4) (by omega) (id:=(m.next,36,42)) (uF hK (bO _) (by simp)) hid (bO _) (i:Int) (λm' v cs h1 h2=>h1.setC h2);have hb5':=hb5 _ r1;have hel:elems M4.get 1 (.aN [I (i:Int)] 1 true)=some (intE i,1):=rfl;have l6:aA false 1 (.ptr b 0 (1+3)) M5=some (.sref (m.next,36,42) 0 0 (X.C.length+1) 1 true):=(by rw[aQ hb5'];rfl);have hGk:Gk 1 intE (λj=>j=(m.next,36,42)) M5 (.sref (m.next,36,42) 0 0 (X.C.length+1) 1 true) (X.C++[(i:Int)]):=.inr ⟨_,0,rfl,by rw[eA];rfl,hr5⟩;obtain⟨M6,x,t,hn6,l⟩:=xgw (d+11) Z (by rw[eA];have:=hX.C;simp;omega) hGk;have P:b≠(m.next,36,42):=λh=>by have:=o.2.1;rw[h]at this;simp at this
 have R:GrP K (λj=>j=b) m M6:=⟨by have:=H.1;omega,λj hj hp=>by
  rw[l j (by rintro rfl;simp at hj)];exact H.2 j hj hp⟩
 have hb6:M6.get b=some (.row (cS [.ptr p 0 0,s,q,v,w] 4 [.sref (m.next,36,42) 0 0 (X.C.length+1) 1 true]) 0 false):=(by rw[l b P];exact hb5');have hsort':aH (d+16) Z A0 [.sref (m.next,36,42) 0 0 (X.C.length+1) 1 true] M5=some (.tup [],M6):=x;simp only[lw g,aG,F,xx5,hel,hM5,l6,hsort'];refine⟨M6,rfl,R,o.1,by have:=o.2.1;have:=H.1;omega,_,hb6,(r2.gr R (λj hj=>by rw[hj];exact o.1)).setC ?_⟩;have Y:(X.C++[(i:Int)]).length-1=X.C.length:=(by simp);rw[Y]at t;rcases t with ⟨h,-⟩|⟨id,ver,rfl,he,hg⟩
 .cases h
 .rw[he];exact .inr (.inr ⟨(m.next,36,42),ver,true,false,[],(uF hK (bO _) (by simp)),by rw[n5]at hn6;omega,rfl,by rw[iH];exact hg,rfl⟩)
open Go.Proofs
def oE(i sh:Int)(p:OPr):OPr:=if i=p.b then{p with f:=p.f+sh}else if i=p.a then{p with f:=p.f-sh}else p
def XT(A C v:List AV)(k:Nat):cS (A++C) (A.length+k) v=A++cS C k v:=by unfold cS;rw[List.take_append,dM (by omega),show A.length+k-A.length=k by omega,H1,lV (by omega),show A.length+k+v.length-A.length=k+v.length by omega];simp
def x1y(a:List AV)(n:Nat)(x:Bool):bY prog .eql mW (.tmp 3) (.const (.slice none 0 0)) (.aN a n x) nilS=some (B false):=by kernel_rfl
def x1x:bY prog .eql mW (.tmp 3) (.const (.slice none 0 0)) nilS nilS=some (B true):=by kernel_rfl
def ClP(u:Nat)(m:Mem)(r:AV)(S:List OPr):Prop:=(S=[]/\r=nilS)\/(S≠[]/\r=.sref (u,5,7) 0 0 S.length 4 true/\m.get (u,5,7)=some (.row (S.flatMap OPr.c) 0 false))
def xzk(d:Nat){a:AV}{S:List OPr}(h:Sl OPr.c a S)(m:S.length<=1000)(j:S=[]->a=nilS)(u:Nat):∃r e,aH (d+1) [] yD [a] ⟨[],u⟩=some (r,e)/\ClP u e r S/\e.next=u+1:=by
 rw[xgl];unfold MZ bW GQ;have l:cH S.length 32:=(by unfold cH;omega);have f:=dm OPr.len h l (u,5,7) (⟨[],u+1⟩:Mem);rcases h with ⟨rfl,rfl⟩|⟨b,rfl⟩
 .refine⟨nilS,⟨[],u+1⟩,?_,.inl ⟨rfl,rfl⟩,rfl⟩;simp[x1x]
 .rcases f with ⟨rfl,i⟩|⟨g,i⟩
  .cases j rfl
  .refine⟨.sref (u,5,7) 0 0 S.length 4 true,(⟨[],u+1⟩:Mem).new (u,5,7) (.row (S.flatMap OPr.c) 0 false),?_,.inr ⟨g,rfl,by simp⟩,rfl⟩;simp[x1y];exact i _
def x7x(d:Nat){q:AV}{S:List OPr}(h:Rk K 4 OPr.c m q S)(C:S=[]->q=nilS)(D:S.length<=1000):∃r M,tZ (aH (d+1)) yD [q] m=some (r,M)/\ClP m.next M r S/\M.next=m.next+1/\∀j,j≠(m.next,5,7)->M.get j=m.get j:=by
 obtain⟨u,f,H⟩:=h.frz OPr.len OPr.bB 4;obtain⟨r,L,w,J,y⟩:=xzk d H D (λh=>by rw[C h]at f;cases f;rfl) m.next;have t:[q].mapM (Go.Ix.frz m.get bI)=some [u]:=(by have q1':Go.Ix.frz m.get bI q=some u:=f;simp only[eI,gX,q1'];rfl);rcases J with ⟨rfl,rfl⟩|⟨n,rfl,o⟩
 .obtain⟨M,g,l,e⟩:=LE (ids:=[]) t w rfl rfl (λi b=>by cases b);exact⟨_,M,g,.inl ⟨rfl,rfl⟩,by rw[l,y],λj _=>by rw[e j,aB (by simp)]⟩
 .have a:(S.flatMap OPr.c).all pH=true:=by rw[dJ];intro x F;obtain⟨p,-,A⟩:=mK.mp F;simp only[OPr.c,dW,wY,or_false]at A;rcases A with rfl|rfl|rfl|rfl<;>rfl
  obtain⟨M,g,l,e⟩:=LE (ids:=[(m.next,5,7)]) t w rfl (YQ o a) (λi b=>by
   rw[pS]at b;subst b
   exact⟨bO _,_,_,o,a⟩)
  exact⟨_,M,g,.inr ⟨n,rfl,by rw[e,aF (by simp)];exact o⟩,by rw[l,y],λj E=>by rw[e j,aB (by simpa using E)]⟩
def xy1(g:aJ)(Z:FHs)(u:Nat){b id l M:Id}{s v w nm:AV}{i sh:Int}{n:Nat}(hn:n<=1000)(h1:b≠id)(h2:l≠id)(hsh:-10000<=sh/\sh<=10000) :
    ∀(Q A:List OPr) (j:Nat) (m:Mem) (Y:Nat),A.length+Q.length=n->(∀p∈Q,p.f.natAbs<=1000000)->Q.length<j->m.get b=some (.row [.ptr M 0 0,s,.sref id 0 0 n 4 true,v,w] 0 false)->m.get id=some (.row ((A++Q).flatMap OPr.c) 0 false)->m.get l=some (.row [nm,I sh] 0 false) ->
    ∃e,xB g Z u j (.ptr b 0 0) (.ptr l 0 0) (I i) (I n) (I A.length) m Y=some (I 0,e)/\e.next=m.next/\e.get id=some (.row ((A++Q.map (oE i sh)).flatMap OPr.c) 0 false)/\∀j,j≠id->e.get j=m.get j:=by
 intro Q;induction Q with
 |nil=>intro A j m Y N O d P t W;obtain⟨j,rfl⟩:=dQ d;have hk:¬((A.length:Int)<(n:Int)):=(by simp at N;omega);simp only[xB];unfold GV TA;simp only[bV,hk,bP,aG,aV];exact⟨m,rfl,rfl,t,λ_ _=>rfl⟩
 |cons p Q ih=>
  intro A j m Y N O d P t W;obtain⟨j,rfl⟩:=dQ d;have hln:A.length+(Q.length+1)=n:=(by simpa using N);have hk:((A.length:Int)<(n:Int)):=(by omega);have C:=gG OPr.len A;have D:(A++p::Q).flatMap OPr.c=A.flatMap OPr.c++([I p.pt,I p.a,I p.b,I p.f]++Q.flatMap OPr.c):=(by rw[vC,dT];rfl);have y:∀o,((A++p::Q).flatMap OPr.c).drop (A.length*4+o)=([I p.pt,I p.a,I p.b,I p.f]++Q.flatMap OPr.c).drop o:=λo=>by rw[D,<-C,H1];simp
  have ix:aR 4 (.sref id 0 0 n 4 true) (I A.length)=some (.ptr id 0 (A.length*4)):=(by simp only[aR,dL];rw[aF ⟨by omega,by omega,trivial⟩];simp);have lq:aA false 1 (.ptr b 0 (1+1)) m=some (.sref id 0 0 n 4 true):=(by rw[aQ P];rfl);have l2:aA false 1 (.ptr id 0 (A.length*4+2)) m=some (I p.b):=(by rw[aQ t,y];rfl);have l1:aA false 1 (.ptr id 0 (A.length*4+1)) m=some (I p.a):=(by rw[aQ t,y];rfl);have l3:aA false 1 (.ptr id 0 (A.length*4+3)) m=some (I p.f):=(by rw[aQ t,y];rfl);have E:aA false 1 (.ptr l 0 1) m=some (I sh):=(by rw[aQ W];rfl);have nb:∀j o,bZ (.ptr j 0 o)=some (.ptr j 0 o):=λ_ _=>rfl
  have hpf:=O p (by simp);have w1:cG ((A.length:Int)+1)=((A.length+1:Nat):Int):=(by rw[bQ];omega);have wa:cG (p.f+sh)=p.f+sh:=bQ;have ws:cG (p.f-sh)=p.f-sh:=bQ;have F:∀(x:Int) {R:Type} (K:Mem->Option R),aU 1 (.ptr id 0 (A.length*4+3)) (I x) m K=K (m.set id (.row (((A++[{p with f:=x}])++Q).flatMap OPr.c) 0 false)):=λx R K=>by have hc3:((A++p::Q).flatMap OPr.c).length=(A.length+(Q.length+1))*4:=(by rw[gG OPr.len,eA];rfl);rw[lY (z:=1) (x:=I x) (k:=K) t rfl (by omega) rfl,D,<-C,XT];congr 4;rw[oI,vC];rfl
  have next:∀(J:OPr) (h:Mem) (r:Nat),J=oE i sh p->h.get b=m.get b->h.get l=m.get l->h.next=m.next->h.get id=some (.row (((A++[J])++Q).flatMap OPr.c) 0 false)->(∀j,j≠id->h.get j=m.get j) ->
   ∃e,xB g Z u j (.ptr b 0 0) (.ptr l 0 0) (I i) (I n) (I ((A.length+1:Nat):Int)) h r=some (I 0,e)/\e.next=m.next/\e.get id=some (.row ((A++(p::Q).map (oE i sh)).flatMap OPr.c) 0 false)/\∀j,j≠id->e.get j=m.get j:=by
   intro J h r X e1 e2 e3 e4 e5;obtain⟨e,k1,k2,k3,k4⟩:=ih (A++[J]) j h r (by simp;omega) (λx hx=>O x (by simp[hx])) (by simp at d;omega) (by rw[e1];exact P) e4 (by rw[e2];exact W);rw[eA]at k1;refine⟨e,k1,by rw[k2,e3],?_,λj d=>by rw[k4 j d,e5 j d]⟩;rw[k3,oI,X];rfl
  simp only[xB];unfold GV uj GW;simp only[bV,hk,bG,aG,aT,nb,cX,bR,lq,ix,l2,iD];by_cases H:i=p.b
  .simp only[eX H,aT,l3,E,aG,dY,wa,F,w1];exact next {p with f:=p.f+sh} _ _ (by unfold oE;rw[aF H]) (by rw[Mem.cP,aB h1]) (by rw[Mem.cP,aB h2]) rfl (by rw[Mem.cP,aF rfl]) (λj d=>by rw[Mem.cP,aB d])
  simp only[H,bP,aV,l1,aG,iD];by_cases L:i=p.a
  .simp only[eX L,aT,l3,E,aG,nX,ws,F,dY,w1];exact next {p with f:=p.f-sh} _ _ (by unfold oE;rw[aB H,aF L]) (by rw[Mem.cP,aB h1]) (by rw[Mem.cP,aB h2]) rfl (by rw[Mem.cP,aF rfl]) (λj d=>by rw[Mem.cP,aB d])
  simp only[L,bP,aV,dY,aG,w1];exact next p m _ (by unfold oE;rw[aB H,aB L]) rfl rfl rfl (by rw[oI];exact t) (λ_ _=>rfl)
def zC(X:St10)(s:List UInt8)(sh:Int):Int×St10:=
 let i:=idxQ (nmQ Scene.nm ⟨s.toArray⟩) 0 X.L
 if i<0 then(6,X)else if wi sh (-10000) 10000=false then(2,X)else(0,{X with S:=X.S.map (oE i sh)})
def x2e(d:Nat)(Z:FHs)(hK:∀j,K j->j.1<m.next)(hst:[ba,pa,A].all aP=true){b:Id}(l:Bk K m b (SC E O ba pa A) X)(hL:X.L.length<=1000)(hS:X.S.length<=1000)(hf:∀p∈X.S,p.f.natAbs<=1000000)(nm:List UInt8)(sh k:Int) :
    ∃u,aH (d+4) Z DJ [.agg [Tx nm,I sh],.ptr b 0 0,I k] m=some (I (zC X nm sh).1,u)/\GrP K (λj=>j=b) m u/\Bk K u b (SC E O ba pa A) (zC X nm sh).2:=by
 rw[x58];unfold mf SZ;obtain⟨g,n1,g1,k1,hM1⟩:=kR (x:=.agg [Tx nm,I sh]) rfl (m.next,0,3) ⟨m.hp,m.next+1⟩;have a:Gr0 K m g:=jT (rF m) (.inl (bO _)) n1 k1;have g1':g.get (m.next,0,3)=some (.row [Tx nm,I sh] 0 false):=g1;obtain⟨t,s,q,v,w,fl,r1,r2,r3,r4,r5,r6,r7,r8,r9⟩:=l.cells;have rb:∀{M:Mem},Gr0 K m M->M.get b=some (.row [.ptr t 0 0,s,q,v,w] 0 false):=λh=>by rw[(h.2 b l.2.1 (λh=>h)).2 l.1];exact r1
 have r2':=r2.gr a (λ_ h=>h.elim);have l5:aA true 5 (.ptr b 0 0) g=some (.agg [.ptr t 0 0,s,q,v,w]):=(by rw[aQ (rb a)];rfl);have lq:aA false 1 (.ptr b 0 (1+1)) g=some q:=(by rw[aQ (rb a)];rfl);have nb:bZ (.ptr b 0 0)=some (.ptr b 0 0):=rfl;have cc:=λx=>df d hst r2' hL x
 have J:=l.gr a (λ_ h=>h.elim) (λh=>h);have hsm:=λn m=>HZ (d+1) n (K:=10000) (by omega) m
 unfold zC;have N:=cc ⟨nm.toArray⟩;generalize idxQ (nmQ Scene.nm ⟨nm.toArray⟩) 0 X.L=i at N ⊢;simp only[hM1,nb,aG,l5,cX,bR,aQ g1',bC,dR,dE,N,bV];by_cases c1:i<0
 .simp only[c1,bG,aT,cM];exact⟨_,rfl,a.to,J⟩
 simp only[c1,bP,aV,cT,aG,hsm,gE];cases c2:wi sh (-10000) 10000 with
 |false=>simp only[cF,aT,cM];exact⟨_,rfl,a.to,J⟩
 |true=>
 have hsh:-10000<=sh/\sh<=10000:=(by unfold wi at c2;simpa using c2);obtain⟨r,M2,hcl,hR,n2,k2⟩:=x7x (d+2) (r7.1.gr a (λ_ _ h=>h.elim)) r7.2 hS;have y:m.next<=g.next:=a.1
 have F:Gr0 K m M2:=⟨by omega,λj D hp=>by
  have:M2.get j=g.get j:=k2 j (by rintro rfl;simp at D;omega)
  rw[this];exact a.2 j D hp⟩
 have hb2:=rb F;have P:r.cells=[r]/\r.one=true:=(by rcases hR with ⟨-,rfl⟩|⟨-,rfl,-⟩<;>exact⟨rfl,rfl⟩);have Q:Rk K 4 OPr.c M2 r X.S:=by
  rcases hR with ⟨h,rfl⟩|⟨-,rfl,hg⟩
  .exact .inl ⟨rfl,h⟩
  .exact .inr (.inr ⟨(g.next,5,7),0,true,false,[],(uF hK y (by simp)),by rw[n2];exact mH _,rfl,by rw[iH];exact hg,rfl⟩)
 have hRn:X.S=[]->r=nilS:=λh=>by
  rcases hR with ⟨-,e⟩|⟨e,-⟩
  .exact e
  .exact absurd h e
 obtain⟨M3,hM3,hB3,n3,k3,R⟩:=Bk.put (k:=2) (v:=r) l.1 (by have:=l.2.1;omega) hb2 (by simp) P.1 P.2 ((r2.gr F (λ_ h=>h.elim)).setS Q hRn);have H:GrP K (λj=>j=b) m M3:=jT F.to (.inr rfl) n3 k3;have hb3':M3.get b=some (.row [.ptr t 0 0,s,r,v,w] 0 false):=R;have lr:aA false 1 (.ptr b 0 (1+1)) M3=some r:=(by rw[aQ hb3'];rfl);have hrl:aM prog mW r=some (I X.S.length):=Q.len vJ;unfold ui;simp only[cN,aV,Bool.true_eq_false,cT,lq,aG,hcl,nb,cX,bR,hM3,lr,hrl];rcases hR with ⟨Y,rfl⟩|⟨Y,rfl,hg⟩
 .have hX:({X with S:=X.S.map (oE i sh)}:St10)=X:=(by cases X;simp only at Y;subst Y;rfl);rw[hX,Y];obtain⟨NM,hNM⟩:∃NM,NN=NM+1:=⟨NN-1,by have:=dF;omega⟩;rw[hNM];simp only[xB];unfold GV TA;simp only[bV,gY,show decide ((0:Int)<((0:Nat):Int))=false from rfl,aG,aV];exact⟨M3,rfl,H,hB3⟩
 .have o:b≠(g.next,5,7):=λh=>by have:=l.2.1;rw[h]at this;simp at this;omega
  have C:((m.next,0,3):Id)≠(g.next,5,7):=λh=>by simp[Prod.ext_iff]at h
  have W:M3.get (g.next,5,7)=some (.row (([]++X.S).flatMap OPr.c) 0 false):=(by rw[k3 _ (Ne.symm o)];exact hg);have h33:M3.get (m.next,0,3)=some (.row [Tx nm,I sh] 0 false):=(by rw[k3 _ (λh=>by have:=l.2.1;rw[<-h]at this;simp at this),k2 _ C];exact g1');obtain⟨u,e1,e2,e3,e4⟩:=xy1 (aH (d+3)) Z m.next (i:=i) hS o C hsh X.S [] NN M3 (0+28+7) (by simp) hf (by rw[dF];omega) hb3' W h33;have e1':xB (aH (d+3)) Z m.next NN (.ptr b 0 0) (.ptr (m.next,0,3) 0 0) (I i) (I X.S.length) (I 0) M3 (28+7)=some (I 0,u):=e1;have hg':GrP K (λj=>j=b) m u:=⟨by rw[e2];exact H.1,λj D hp=>by rw[e4 j (by rintro rfl;simp at D;omega)];exact H.2 j D hp⟩;have hbm:u.get b=some (.row (cS [.ptr t 0 0,s,q,v,w] 2 [.sref (g.next,5,7) 0 0 X.S.length 4 true]) 0 false):=(by rw[e4 b o];exact R);refine⟨u,e1',hg',l.1,by have:=l.2.1;have:=hg'.1;omega,_,hbm,(r2.gr hg' (λj D=>by rw[D];exact l.1)).setS ?_ (λh=>absurd (List.map_eq_nil_iff.mp h) Y)⟩;exact .inr (.inr ⟨(g.next,5,7),0,true,false,[],(uF hK y (by simp)),by rw[e2,n3,n2];exact mH _,by rw[lU],by rw[iH];exact e3,rfl⟩)
open Go.Proofs
def BR(l:List Int):(l.flatMap intE).length=l.length:=by rw[gG wJ,nS]
def xbv(A B:List Int)(y:Int):((A++y::B).flatMap intE).drop A.length=I y::B.flatMap intE:=by have h:=BR A;rw[vC,dT,<-h,List.drop_left];rfl
def BS(id:Id){n k:Nat}(a:k<n):aR 1 (.sref id 0 0 n 1 true) (I k)=some (.ptr id 0 k):=by simp only[aR,dL];rw[aF ⟨by omega,by omega,trivial⟩];simp
def za(d:Nat)(Z:FHs){a:Id}{x:Int}{b:Bool}(y:Int)(m:Mem)(e:m.get a=some (.row [I x] 0 b)):fL (aH (d+1)) Z 2 (.clo rA [.ptr a 0 0]) [I y] m=some (B (decide (y=x)),⟨m.hp,m.next+1⟩):=by show aH (d+1) Z rA ([I y]++[.ptr a 0 0]) m=_;rw[iY,iW,x6a];unfold mi bA TC;have hg':(⟨m.hp,m.next+1⟩:Mem).get a=some (.row [I x] 0 b):=e;simp only[aQ hg',bC,dE,aG,iD]
def xym(d:Nat)(Z:FHs)(u:Nat){id i7:Id}{x:Int}{i:Bool}{n:Nat}(w:n<=1000):∀(B A:List Int) (j:Nat) (m:Mem) (Y:Nat),A.length+B.length=n->B.length<j->m.get id=some (.row ((A++B).flatMap intE) 0 false)->m.get i7=some (.row [I x] 0 i) ->
    ∃q,m.next<=q/\vD (aH (d+1)) Z u j (.sref id 0 0 n 1 true) (.clo rA [.ptr i7 0 0]) (I n) (I A.length) m Y=some (I (idxQ (λy=>decide (y=x)) A.length B),⟨m.hp,q⟩):=by
 intro B;induction B with
 |nil=>intro A j m Y b a f g;obtain⟨j,rfl⟩:=dQ a;have h:¬((A.length:Int)<(n:Int)):=(by simp at b;omega);simp only[vD];unfold Z8 QH;simp only[bV,h,bP,aG,aV];exact⟨m.next,bO _,rfl⟩
 |cons y B t=>
  intro A j m Y b a f g;obtain⟨j,rfl⟩:=dQ a;have l:A.length+(B.length+1)=n:=(by simpa using b);have h:((A.length:Int)<(n:Int)):=(by omega);have ld:aA false 1 (.ptr id 0 A.length) m=some (I y):=(by rw[aQ f,xbv];rfl);have o:cG ((A.length:Int)+1)=((A.length+1:Nat):Int):=(by rw[bQ];omega);simp only[vD];unfold Z8;simp only[bV,h,bG,aG,aT,BS id (show A.length<n by omega),ld,za d Z y m g,idxQ];by_cases c:y=x
  .simp only[c,bG,aT,cond_true];exact⟨m.next+1,uY _,rfl⟩
  .obtain⟨q,r,e⟩:=t (A++[y]) j ⟨m.hp,m.next+1⟩ (Y+11) (by simp;omega) (by simp at a;omega) (by rw[oI];exact f) g;have p:(((A++[y]).length:Nat):Int)=((A.length+1:Nat):Int):=(by simp);rw[p]at e;simp only[c,bP,aV,dY,aG,o,cond_false];refine⟨q,by have:m.next+1<=q:=r;omega,?_⟩;rw[e];congr
def xjp(k:Nat):(eN hY k).all aP=true:=by rw[mU];unfold eN;rw[dJ];intro a b;obtain⟨i,-,rfl⟩:=fF.mp b;show aP ([I 0].getD (i % 1) _)=true;rw[Nat.mod_one];rfl
def xyv(d:Nat)(Z:FHs)(u:Nat){id i7:Id}{x:Int}{f7:Bool}{n:Nat}(hn:n<=1000)(h7:i7≠id):∀(B F G:List Int) (j:Nat) (m:Mem) (Y:Nat),F.length+G.length+B.length=n->1<=G.length->B.length<j->m.get id=some (.row ((F++G++B).flatMap intE) 0 false)->m.get i7=some (.row [I x] 0 f7) ->
    ∃i b,X9 (aH (d+1)) Z u j (.sref id 0 0 n 1 true) (.clo rA [.ptr i7 0 0]) (I F.length) (I (F.length+G.length:Nat)) m Y=some (.sref id 0 0 (F++B.filter λy=>!decide (y=x)).length 1 true,i)/\b.all aP=true/\i.get id=some (.row ((F++B.filter λy=>!decide (y=x)).flatMap intE++b) 0 false)/\m.next<=i.next/\∀j,j≠id->i.get j=m.get j:=by
 intro B;induction B with
 |nil=>
  intro F G j m Y H hG f o E;obtain⟨j,rfl⟩:=dQ f;have hl':F.length+G.length=n:=(by simpa using H);have J:¬(((F.length+G.length:Nat):Int)<(n:Int)):=(by omega);have g:aM prog fA (.sref id 0 0 n 1 true)=some (I n):=rfl;have s1:eK prog fA (.sref id 0 0 n 1 true) (some (I F.length)) none=some (.sref id 0 (0+(F.length:Int).toNat) (n-(F.length:Int).toNat) 1 true):=xan (by omega) (by omega);have s2:eK prog fA (.sref id 0 0 n 1 true) none (some (I F.length))=some (.sref id 0 0 (F.length:Int).toNat 1 true):=xnp (by omega) (by omega);have p:((F++G++[]).flatMap intE).length=n:=(by rw[BR];simp;omega);simp only[X9];unfold QQ sx;simp only[g,bV,J,bP,aG,aV,s1,s2];have t:∀{R:Type} (K:AV->Mem->Option R),BO hY 1 (.sref id 0 (0+(F.length:Int).toNat) (n-(F.length:Int).toNat) 1 true) m K=K (.tup []) (m.set id (.row (cS ((F++G++[]).flatMap intE) (0+(F.length:Int).toNat) (eN hY ((n-(F.length:Int).toNat)*1))) 0 false)):=λK=>by simp only[BO,o];rw[aF ⟨trivial,trivial,by rw[p];simp;omega⟩]
  rw[t];generalize l:m.set id _=M;refine⟨M,eN hY ((n-(F.length:Int).toNat)*1),by simp,xjp _,?_,by rw[<-l];exact bO _,λj f=>by rw[<-l,Mem.cP,aB f]⟩;rw[<-l,Mem.cP,aF rfl];have hz:(eN hY ((n-(F.length:Int).toNat)*1)).length=n-F.length:=(by unfold eN;simp);congr 2;have L:=BR F;unfold cS;rw[lV (by rw[p,hz];simp;omega)];simp only[hJ,bR,List.filter_nil,iH,vC];rw[<-L,List.take_left]
 |cons y B ih=>
  intro F G j m Y H hG f o E;obtain⟨j,rfl⟩:=dQ f;have N:F.length+G.length+(B.length+1)=n:=(by simpa using H);have J:(((F.length+G.length:Nat):Int)<(n:Int)):=(by omega);have g:aM prog fA (.sref id 0 0 n 1 true)=some (I n):=rfl;have O:(F++G).length=F.length+G.length:=(by simp);have ld:aA false 1 (.ptr id 0 (F.length+G.length)) m=some (I y):=(by rw[aQ o,<-O,xbv];rfl);have w1:cG (((F.length+G.length:Nat):Int)+1)=((F.length+G.length+1:Nat):Int):=(by rw[bQ];omega);have w2:cG ((F.length:Int)+1)=((F.length+1:Nat):Int):=(by rw[bQ];omega);simp only[X9];unfold QQ sw QR;simp only[g,bV,J,bG,aG,aT,BS id (show F.length+G.length<n by omega),ld,za d Z y m E,gE];by_cases c:y=x
  .obtain⟨i,b,D,A,C,e4,X⟩:=ih F (G++[y]) j ⟨m.hp,m.next+1⟩ (Y+4+9+3) (by simp;omega) (by simp) (by simp at f;omega) (by
    have:F++(G++[y])++B=F++G++y::B:=by simp
    rw[this];exact o) E
   have P:((F.length+(G++[y]).length:Nat):Int)=((F.length+G.length+1:Nat):Int):=(by simp;omega);rw[P]at D;have Q:(y::B).filter (λy=>!decide (y=x))=B.filter λy=>!decide (y=x):=by simp[c]
   rw[Q];simp only[c,bG,cN,aV,dY,aG,w1];exact⟨i,b,D,A,C,Nat.le_of_succ_le e4,λj f=>X j f⟩
  .obtain⟨h,e,rfl⟩:∃h e,G=h::e:=by
    cases G with
    |nil=>simp at hG
    |cons a r=>exact⟨a,r,rfl⟩
   have W:(F++h::e++y::B).flatMap intE=F.flatMap intE++(I h::(e++y::B).flatMap intE):=(by rw[oI,vC,iY,dT];rfl);have L:=BR F;have w:∀{R:Type} (K:Mem->Option R),aU 1 (.ptr id 0 F.length) (I y) ⟨m.hp,m.next+1⟩ K=K ((⟨m.hp,m.next+1⟩:Mem).set id (.row ((F++[y]++(e++[y])++B).flatMap intE) 0 false)):=λK=>by have g1':(⟨m.hp,m.next+1⟩:Mem).get id=some (.row ((F++h::e++y::B).flatMap intE) 0 false):=o;rw[lY (z:=1) (x:=I y) (k:=K) g1' rfl (by rw[BR];simp) rfl,W];have A:(F++[y]++(e++[y])++B).flatMap intE=F.flatMap intE++(I y::(e++y::B).flatMap intE):=(by rw[show F++[y]++(e++[y])++B=F++(y::(e++y::B)) by simp,vC];rfl);have C:cS (F.flatMap intE++(I h::(e++y::B).flatMap intE)) F.length (I y).cells=F.flatMap intE++(I y::(e++y::B).flatMap intE):=(by have:=XT (F.flatMap intE) (I h::(e++y::B).flatMap intE) [I y] 0;rw[uZ,L]at this;exact this);rw[A,C]
   generalize l:(⟨m.hp,m.next+1⟩:Mem).set id (.row ((F++[y]++(e++[y])++B).flatMap intE) 0 false)=M at w;have gM:M.get id=some (.row ((F++[y]++(e++[y])++B).flatMap intE) 0 false):=(by rw[<-l,Mem.cP,aF rfl]);have fM:∀j,j≠id->M.get j=m.get j:=λj f=>by rw[<-l,Mem.cP,aB f];rfl
   have nM:M.next=m.next+1:=(by rw[<-l];rfl);obtain⟨i,b,D,A,C,e4,X⟩:=ih (F++[y]) (e++[y]) j M (Y+4+17+3) (by simp;simp at N;omega) (by simp) (by simp at f;omega) gM (by rw[fM _ h7];exact E);have P:(((F++[y]).length+(e++[y]).length:Nat):Int)=((F.length+(h::e).length+1:Nat):Int):=(by simp;omega);have hB:(((F++[y]).length:Nat):Int)=((F.length+1:Nat):Int):=(by simp);rw[P,hB]at D;have Q:F++(y::B).filter (λy=>!decide (y=x))=F++[y]++B.filter λy=>!decide (y=x):=by simp[c]
   rw[Q];simp only[c,bP,cF,aT,BS id (show F.length<n by omega),w,dY,aG,w1,w2];exact⟨i,b,D,A,C,by omega,λj f=>by rw[X j f,fM j f]⟩
def xeo{α:Type}(q:α->Bool):∀(l:List α),l.any q=true->∃A y B,l=A++y::B/\q y=true/\(∀a∈A,q a=false)/\∀k:Int,idxQ q k l=k+A.length
 |[],h=>by simp at h
 |x::r,h=>by
  cases d:q x with
  |true=>exact⟨[],x,r,rfl,d,λa b=>by(cases b),λk=>by rw[idxQ,d];simp⟩
  |false=>
   rw[W1,d,GE]at h;obtain⟨A,y,B,e,f,g,i⟩:=xeo q r h;refine⟨x::A,y,B,by rw[e];rfl,f,λa b=>?_,λk=>?_⟩
   .rcases dW.mp b with rfl|b
    .exact d
    .exact g a b
   .rw[idxQ,d,cond_false,i,dN];push_cast;omega
def xlv(d:Nat)(Z:FHs){id f:Id}{x:Int}{w:Bool}{L:List Int}(i:L.length<=1000)(C:f≠id)(D:(L.any λy=>decide (y=x))=true){m:Mem}(t:m.get id=some (.row (L.flatMap intE) 0 false))(u:m.get f=some (.row [I x] 0 w)) :
    ∃g b,aH (d+3) Z P5 [.sref id 0 0 L.length 1 true,.clo rA [.ptr f 0 0]] m=some (.sref id 0 0 (L.filter λy=>!decide (y=x)).length 1 true,g)/\b.all aP=true/\g.get id=some (.row ((L.filter λy=>!decide (y=x)).flatMap intE++b) 0 false)/\m.next<=g.next/\∀j,j≠id->g.get j=m.get j:=by
 obtain⟨A,y,B,rfl,M,N,O⟩:=xeo _ L D;have l:y=x:=(by simpa using M);rw[x4w];unfold jj bA QP;obtain⟨q,P,e⟩:=xym d Z (m.next+1) (id:=id) (i7:=f) (x:=x) i (A++y::B) [] NN ⟨m.hp,m.next+1+1⟩ (0+1+3) (by simp) (by rw[dF];omega) (by rw[iW];exact t) u;have n:aH (d+2) Z A7 [.sref id 0 0 (A++y::B).length 1 true,.clo rA [.ptr f 0 0]] ⟨m.hp,m.next+1⟩=some (I A.length,⟨m.hp,q⟩):=(by rw[xgi];unfold MW bA GN QG;have h:aM prog fA (.sref id 0 0 (A++y::B).length 1 true)=some (I (A++y::B).length):=rfl;simp only[h,aG];have e':vD (aH (d+1)) Z (m.next+1) NN (.sref id 0 0 (A++y::B).length 1 true) (.clo rA [.ptr f 0 0]) (I (A++y::B).length) (I 0) ⟨m.hp,m.next+1+1⟩ (0+1+3)=_:=e;rw[e',O];simp);have o:decide ((A.length:Int)=-1)=false:=eY (by omega);have H:A.length+(B.length+1)<=1000:=(by simpa using i);have J:cG ((A.length:Int)+1)=((A.length+[y].length:Nat):Int):=(by rw[bQ];simp);unfold su;simp only[n,aG,iD,o,aV,dY,J];have p:A++[y]++B=A++y::B:=(by simp);obtain⟨g,b,Q,R,W,X,Y⟩:=xyv (d+1) Z m.next (id:=id) (i7:=f) (x:=x) i C B A [y] NN ⟨m.hp,q⟩ (0+7+3) (by simp;omega) (by simp) (by rw[dF];omega) (by rw[p];exact t) u;have r:A.filter (λy=>!decide (y=x))=A:=FX.mpr λa E=>by rw[N a E];rfl
 have K:(A++y::B).filter (λy=>!decide (y=x))=A++B.filter λy=>!decide (y=x):=by rw[xA,r];simp[l]
 rw[K];exact⟨g,b,Q,R,W,by have:q<=g.next:=X;have:m.next+1+1<=q:=P;omega,λj F=>Y j F⟩
def x1z(a:List AV)(n:Nat)(x:Bool):bY prog .eql fA (.tmp 3) (.const (.slice none 0 0)) (.aN a n x) nilS=some (B false):=by kernel_rfl
def x7y(d:Nat){q:AV}{S:List Int}(h:Rk K 1 intE m q S)(o:S≠[])(P:S.length<=1000):∃M,tZ (aH (d+1)) yC [q] m=some (.sref (m.next,5,7) 0 0 S.length 1 true,M)/\M.get (m.next,5,7)=some (.row (S.flatMap intE) 0 false)/\M.next=m.next+1/\∀j,j≠(m.next,5,7)->M.get j=m.get j:=by
 obtain⟨l,E,t⟩:=h.frz wJ C9 4;have D:[q].mapM (Go.Ix.frz m.get bI)=some [l]:=(by have q1':Go.Ix.frz m.get bI q=some l:=E;simp only[eI,gX,q1'];rfl);have f:∃e,aH (d+1) [] yC [l] ⟨[],m.next⟩=some (.sref (m.next,5,7) 0 0 S.length 1 true,e)/\e.get (m.next,5,7)=some (.row (S.flatMap intE) 0 false)/\e.next=m.next+1:=by
  rw[xgk];unfold MY bW GP;have F:cH S.length 8:=(by unfold cH;omega);have g:=dm wJ t F (m.next,5,7) (⟨[],m.next+1⟩:Mem);rcases t with ⟨rfl,rfl⟩|⟨b,rfl⟩
  .exact absurd rfl o
  .rcases g with ⟨rfl,y⟩|⟨O,y⟩
   .exact absurd rfl o
   .refine⟨(⟨[],m.next+1⟩:Mem).new (m.next,5,7) (.row (S.flatMap intE) 0 false),?_,by simp,rfl⟩;simp[x1z];exact y _
 obtain⟨e,H,n,J⟩:=f;have a:(S.flatMap intE).all pH=true:=by rw[dJ];intro x C;obtain⟨p,-,u⟩:=mK.mp C;simp only[intE,dW,wY,or_false]at u;rw[u];rfl
 obtain⟨M,L,N,w⟩:=LE (ids:=[(m.next,5,7)]) D H rfl (YQ n a) (λi r=>by
  rw[pS]at r;subst r
  exact⟨bO _,_,_,n,a⟩)
 exact⟨M,L,by rw[w,aF (by simp)];exact n,by rw[N,J],λj A=>by rw[w j,aB (by simpa using A)]⟩
def zE(O E:Int)(W:List Bd)(J:List Pn)(X:St10)(n:List UInt8):Int×St10:=
 let i:=idxQ (nmQ Bd.nm ⟨n.toArray⟩) 0 W
 if i<0 then(6,X)else if(X.C.any λy=>decide (y=i))=false\/V1 O E W J X i.toNat=2 then(24,X)else(0,{X with C:=X.C.filter λy=>!decide (y=i)})
def xp:hY.length=1:=by rw[mU];rfl
def x2g(d:Nat)(Z:FHs)(hK:∀j,K j->j.1<m.next)(hO:SuOK E O ba pa A W J C)(hX:XOK (d+8) X){b:Id}(R:Bk K m b (SC E O ba pa A) X)(n:List UInt8)(k:Int) :
    ∃m',aH (d+17) Z DL [Tx n,.ptr b 0 0,I k] m=some (I (zE O E W J X n).1,m')/\GrP K (λj=>j=b) m m'/\Bk K m' b (SC E O ba pa A) (zE O E W J X n).2:=by
 rw[x6b];unfold mj TD;obtain⟨M0,H⟩:∃p:Mem,p=⟨m.hp,m.next+1⟩:=⟨_,rfl⟩;have e:Gr0 K m M0:=(by rw[H];exact rF m);have n0:M0.next=m.next+1:=(by rw[H]);obtain⟨N,s,q,v,w,fl,r1,r2,r3,r4,r5,r6,r7,r8,r9⟩:=R.cells;have rb:∀{M:Mem},Gr0 K m M->M.get b=some (.row [.ptr N 0 0,s,q,v,w] 0 false):=λh=>by rw[(h.2 b R.2.1 (λh=>h)).2 R.1];exact r1
 have l5:∀{M:Mem},Gr0 K m M->aA true 5 (.ptr b 0 0) M=some (.agg [.ptr N 0 0,s,q,v,w]):=λh=>by rw[aQ (rb h)];rfl
 have lw:∀{M:Mem},Gr0 K m M->aA false 1 (.ptr b 0 (1+3)) M=some w:=λh=>by rw[aQ (rb h)];rfl
 have nb:bZ (.ptr b 0 0)=some (.ptr b 0 0):=rfl;have F:∀{M:Mem},Gr0 K m M->Bk K M b (SC E O ba pa A) X:=λh=>R.gr h (λ_ h=>h.elim) (λh=>h)
 have cb:eO (aH (d+16)) wD [.agg [.ptr N 0 0,s,q,v,w],Tx n] M0=some (I (idxQ (nmQ Bd.nm ⟨n.toArray⟩) 0 W),M0):=xgu (d+13) hO.st (r2.gr e (λ_ h=>h.elim)) hO.b hO.bn _;rw[<-H];unfold zE;rcases D3 (nmQ Bd.nm ⟨n.toArray⟩) W 0 with ⟨h0,-⟩|⟨i,h0,hi,-⟩
 .rw[h0]at cb ⊢;obtain⟨p,n1,g1,k1,P⟩:=kY (z:=1) (cs:=hY) (x:=I (-1)) rfl rfl xp (m.next,6,7) M0;have a:Gr0 K m p:=jT e (.inl (bO _)) n1 k1;have l7:aA false 1 (.ptr (m.next,6,7) 0 0) p=some (I (-1)):=(by rw[aQ g1];rfl);simp only[nb,aG,l5 e,cb,bR,P,l7,bV,show((-1:Int)<0)from by decide,cM];exact⟨p,rfl,a.to,F a⟩
 rw[h0,MQ]at cb ⊢;have hi0:¬((i:Int)<0):=(by omega);obtain⟨p,n1,g1,k1,P⟩:=kY (z:=1) (cs:=hY) (x:=I (i:Int)) rfl rfl xp (m.next,6,7) M0;have a:Gr0 K m p:=jT e (.inl (bO _)) n1 k1;have g1':p.get (m.next,6,7)=some (.row [I (i:Int)] 0 false):=g1;have l7:aA false 1 (.ptr (m.next,6,7) 0 0) p=some (I (i:Int)):=(by rw[aQ g1'];rfl);obtain⟨rc,M2,hq,hcon,n2,g2⟩:=(r9.gr a (λ_ _ h=>h.elim)).gA (Q:=λr=>r=B (X.C.any λy=>decide (y=(i:Int)))) (call:=aH (d+16)) (f:=yB) wJ C9 [I (i:Int)] rfl
  λa' ha=>⟨_,rfl,λm=>zn (d+14) ha (by have:=hX.C;omega) m⟩
 subst hq;have g:Gr0 K m M2:=a.trans g2;simp only[nb,aG,l5 e,cb,bR,P,l7,bV,hi0,bP,aV,cT,cX,lw a,hcon,gE,gR,dZ,gS,hJ];cases c1:X.C.any λy=>decide (y=(i:Int))with
 |false=>simp only[cF,dX,cN,cZ,aG,cW,bD,aT,true_or,cM];exact⟨_,rfl,g.to,F g⟩
 |true=>
 have hi7:((m.next,6,7):Id).1<p.next:=(by rw[n1,n0];exact mH _);obtain⟨f2,g2'⟩:=SimO.row (g2.2 (m.next,6,7) hi7 (λh=>h)).1 g1';have l72:aA false 1 (.ptr (m.next,6,7) 0 0) M2=some (I (i:Int)):=(by rw[aQ g2'];rfl);obtain⟨va,M3,⟨ys,yo,yl,rfl,-⟩,hans,n3,g3⟩:=xgv d hO hX (r2.gr g (λ_ h=>h.elim)) hi;have hai:V1 O E W J X i=pP X.L X.S O E W[i] J:=(by unfold V1;rw[eJ hi]);have o:Gr0 K m M3:=g.trans g3;have fld:L7 false 1 0 (.agg [I (pP X.L X.S O E W[i] J),ys,yo,yl])=some (I (pP X.L X.S O E W[i] J)):=rfl;simp only[cN,dX,cF,bD,aG,nb,l5 g,l72,hans,fld,iD,cW,cZ,Bool.true_eq_false,false_or,hai];by_cases c2:pP X.L X.S O E W[i] J=2
 .simp only[c2,bG,aT,cM];exact⟨_,rfl,o.to,F o⟩
 have hC0:X.C≠[]:=λh=>by rw[h]at c1;cases c1
 obtain⟨M4,hcl,hr4,n4,k4⟩:=x7y (d+15) (r9.gr o (λ_ _ h=>h.elim)) hC0 (by have:=hX.C;omega);have u:((m.next,6,7):Id)≠(M3.next,5,7):=λh=>by simp[Prod.ext_iff]at h
 obtain⟨f3,g3'⟩:=SimO.row ((g2.trans g3).2 (m.next,6,7) hi7 (λh=>h)).1 g1';obtain⟨M5,rest,hdel,hrs,hr5,n5,k5⟩:=xlv (d+13) Z (by have:=hX.C;omega) u c1 hr4 (by rw[k4 _ u];exact g3');have hdel':aH (d+16) Z P5 [.sref (M3.next,5,7) 0 0 X.C.length 1 true,.clo rA [.ptr (m.next,6,7) 0 0]] M4=_:=hdel;have D:∀j:Id,j.1<m.next->j≠(M3.next,5,7):=λj Y h=>by rw[h]at Y;simp at Y;omega
 have t:Gr0 K m M5:=⟨by omega,λj Y hp=>by rw[k5 j (D j Y),k4 j (D j Y)];exact o.2 j Y hp⟩
 obtain⟨M6,hM6,hB6,n6,k6,-⟩:=Bk.put (k:=4) (v:=.sref (M3.next,5,7) 0 0 (X.C.filter λy=>!decide (y=(i:Int))).length 1 true) R.1 (by have:=R.2.1;have:=t.1;omega) (rb t) (by simp) rfl rfl ((r2.gr t (λ_ h=>h.elim)).setC (l:=X.C.filter λy=>!decide (y=(i:Int)))
  (.inr (.inr ⟨(M3.next,5,7),0,true,false,rest,(uF hK (by show m.next<=M3.next;omega) (by simp)),by show M3.next<M5.next;omega,rfl,hr5,hrs⟩)))
 simp only[c2,bP,aV,cT,lw o,aG,hcl,hdel',hM6];exact⟨M6,rfl,jT t.to (.inr rfl) n6 k6,hB6⟩
open Go.Proofs
def xyl(d:aJ)(Z:FHs)(u:Nat){a:AV}{l:List (List UInt8)}(h:Sl dC a l)(t:l.length<=100000)(x:List UInt8):∀(b:List (List UInt8)) (k j:Nat) (m:Mem) (Y:Nat),l.drop k=b->b.length<j ->
    H8 d Z u j a (Tx x) (I l.length) (I k) m Y=some (I (idxQ (λw=>decide (x=w)) k b),m):=by
 intro b;induction b with
 |nil=>intro k j m Y f g;obtain⟨j,rfl⟩:=dQ g;have i:¬((k:Int)<(l.length:Int)):=(by have:=gZ.mp f;omega);simp only[H8];unfold QD si;simp only[bV,i,bP,aG,aV,idxQ]
 |cons e r p=>
  intro k j m Y f g;obtain⟨j,rfl⟩:=dQ g;obtain⟨i,y,n⟩:=gW f;have hk':(k:Int)<(l.length:Int):=(by omega);have ix:=h.ix nA i;have ld:aA false 1 (.aE ((l.drop k).flatMap dC)) m=some (Tx e):=(by rw[f,dT];rfl);have o:=iJ k (by omega);simp only[H8];unfold QD;simp only[bV,hk',bG,aG,aT,ix,ld,oP,idxQ];by_cases c:x=e
  .simp only[c,bG,aT,cond_true]
  .simp only[c,bP,aV,dY,aG,o,cond_false];exact p (k+1) j m (Y+11) n (by simp at g;omega)
def xl2(d:Nat){a:AV}{l:List (List UInt8)}(h:Sl dC a l)(f:l.length<=100000)(x:List UInt8)(m:Mem):aI (aH (d+2)) P6 [a,Tx x] m=some (B (decide (x∈l)),m):=by
 have b:∀m,aI (aH (d+1)) CP [a,Tx x] m=some (I (idxQ (λw=>decide (x=w)) 0 l),m):=λm=>by refine eZ (by rw[dP,h.bB];rfl) ?_ m;rw[x4p];unfold jc bA QC se;have e:=xyl (aH d) [] 0 h f x l 0 NN ⟨[],1⟩ 4 rfl (by rw[dF];omega);have e':H8 (aH d) [] 0 NN a (Tx x) (I l.length) (I 0) ⟨[],1⟩ 4=_:=e;simp only[h.len vH,aG,mem0];rw[e'];exact RetF.st rfl rfl
 refine eZ (by rw[dP,h.bB];rfl) ?_ m;rw[x4x];unfold jk bA QS;simp only[b,aG,vL,mem0];refine RetF.st rfl ?_;have g:=aq (λw=>decide (x=w)) l;have:(l.any λw=>decide (x=w))=decide (x∈l):=(by rw[NH,H2,mR];simp);rw[<-this,<-g]
def rY(k:List UInt8)(w:List (List UInt8)):Option Act10:=
 if k=kwS then JC w else if k=kwP then JD w else if k=ZX then JF w else if k=ZV then JE w else if k=ZW then YT w else if k=ZU then YS w else none
def xze(d:Nat){k:List UInt8}{w:List (List UInt8)}{r:Int}{n:Nat}{f:FuncId}(h:jJ k=some (r,n,f))(g:w.length=n)(i:∀x∈w,x.length<=100000):G6 (d+6) f w (rY k w):=by
 unfold jJ at h;unfold rY;split at h
 .rename_i c;cases h;rw[aF c];match w,g with
  |[a,b,c],_=>exact xpt d (i b (by simp)) (i c (by simp))
 rename_i j;rw[aB j];split at h
 .rename_i c;cases h;rw[aF c];match w,g with
  |[a,b,c,e],_=>exact xps d (i e (by simp))
 rename_i l;rw[aB l];split at h
 .rename_i c;cases h;rw[aF c];match w,g with
  |[a,b],_=>exact xpr d (i b (by simp))
 rename_i m;rw[aB m];split at h
 .rename_i c;cases h;rw[aF c];match w,g with
  |[a,b,c,e],_=>exact xpq d (i c (by simp)) (i e (by simp))
 rename_i o;rw[aB o];split at h
 .rename_i c;cases h;rw[aF c];match w,g with
  |[a],_=>exact xpp d a
 rename_i p;rw[aB p];split at h
 .rename_i c;cases h;rw[aF c];match w,g with
  |[a],_=>exact xpo d a
 .cases h
def F1(O E:Int)(W:List Bd)(J:List Pn)(X:St10)(g:Int):Act10->Int×St10
 | .scene n d b=>sU X n d b
 | .pair p a b f=>sV J X p a b f
 | .corr s f=>zC X s f
 | .level p s v e=>zB J X g p s v e
 | .conf b=>zD O E W J X b
 | .clos b=>zE O E W J X b
def iO(O E:Int)(W:List Bd)(J:List Pn)(X:St10)(b:Int)(t:List UInt8):Int×St10:=
 if lR t≠0 then(lR t,X)else match jJ (cA t).1 with
  |none=>(15,X)
  |some (_,n,_)=>if(cR 32 (cA t).2.1).length≠n\/[]∈cR 32 (cA t).2.1 then(7,X)else match rY (cA t).1 (cR 32 (cA t).2.1)with
   |none=>(7,X)
   |some a=>F1 O E W J X b a
def xxo(n:List UInt8)(d b:Int):pG prog (Act10.scene n d b).v "swath/office.do" = some (DE,.agg [Tx n,I d,I b]):=by kernel_rfl
def xxp(p a b:List UInt8)(f:Int):pG prog (Act10.pair p a b f).v "swath/office.do" = some (DF,.agg [Tx p,Tx a,Tx b,I f]):=by kernel_rfl
def xxs(s:List UInt8)(f:Int):pG prog (Act10.corr s f).v "swath/office.do" = some (DJ,.agg [Tx s,I f]):=by kernel_rfl
def xxq(p s:List UInt8)(v e:Int):pG prog (Act10.level p s v e).v "swath/office.do" = some (DH,.agg [Tx p,Tx s,I v,I e]):=by kernel_rfl
def xxr(b:List UInt8):pG prog (Act10.conf b).v "swath/office.do" = some (DK,Tx b):=by kernel_rfl
def xxn(b:List UInt8):pG prog (Act10.clos b).v "swath/office.do" = some (DL,Tx b):=by kernel_rfl
def T1{a:aJ}{Z:FHs}{rv r:AV}{f:FuncId}{b:List AV}(h:pG prog rv "swath/office.do" = some (f,r))(m:Mem):U0 prog a Z 2 rv "swath/office.do" b m=a Z f (r::b) m:=by unfold U0;rw[h];show a Z f ((r::b)++[]) m=_;rw[iH]
def x2h(d:Nat)(Z:FHs)(l:∀j,K j->j.1<m.next)(h:SuOK E O ba pa A W J C)(i:XOK (d+8) X){b:Id}(o:Bk K m b (SC E O ba pa A) X)(g:Int){a:Act10}(x:∀n d b,a=.scene n d b->n.length<=1000) :
    ∃t,U0 prog (aH (d+17)) Z 2 a.v "swath/office.do" [.ptr b 0 0,I g] m=some (I (F1 O E W J X g a).1,t)/\GrP K (λj=>j=b) m t/\Bk K t b (SC E O ba pa A) (F1 O E W J X g a).2:=by
 have r:X.L.length<=1000:=(by have:=i.L;omega);cases a with
 |scene n u w=>rw[T1 (xxo n u w)];exact x2b (d+13) Z l h.st o r (x n u w rfl) u w g
 |pair p a c f=>rw[T1 (xxp p a c f)];exact x2c (d+13) Z l h.st h.p h.pn o r i.S p a c f g
 |corr s f=>rw[T1 (xxs s f)];exact x2e (d+13) Z l h.st o r i.S (λp y=>by have:=i.f p y;omega) s f g
 |level p s v e=>rw[T1 (xxq p s v e)];exact x2d (d+13) Z l h.st h.p h.pn o r i.V p s v e g
 |conf n=>rw[T1 (xxr n)];exact x2f d Z l h i o n g
 |clos n=>rw[T1 (xxn n)];exact x2g d Z l h i o n g
def xcn{mk:Int->Int->Act10}{N:Option (List Int)}{a:Act10}(h:vV mk N=some a):∃d e,a=mk d e:=by
 unfold vV at h;split at h
 .cases h;exact⟨_,_,rfl⟩
 .cases h
def xcp{mk:Int->Act10}{N:Option (List Int)}{a:Act10}(h:vW mk N=some a):∃d,a=mk d:=by
 unfold vW at h;split at h
 .cases h;exact⟨_,rfl⟩
 .cases h
def xpf{k:List UInt8}{w:List (List UInt8)}{n:List UInt8}{d b:Int}(h:rY k w=some (.scene n d b)):n∈w:=by
 unfold rY at h;split at h
 .unfold JC at h;split at h
  .obtain⟨_,_,e⟩:=xcn h;cases e;simp
  .cases h
 split at h
 .unfold JD at h;split at h
  .obtain⟨_,e⟩:=xcp h;cases e
  .cases h
 split at h
 .unfold JF at h;split at h
  .obtain⟨_,e⟩:=xcp h;cases e
  .cases h
 split at h
 .unfold JE at h;split at h
  .obtain⟨_,_,e⟩:=xcn h;cases e
  .cases h
 split at h
 .unfold YT at h;split at h<;>cases h
 split at h
 .unfold YS at h;split at h<;>cases h
 .cases h
def xfb{k:List UInt8}{r:Int}{n:Nat}{f:FuncId}(h:jJ k=some (r,n,f)):pK k=.agg [I r,I (n:Int),.clo f []]:=by unfold pK;rw[h];rfl
def zd(d:Nat)(Z:FHs)(hK:∀j,K j->j.1<m.next)(hO:SuOK E O ba pa A W J C)(hX:XOK (d+8) X){b:Id}(hB:Bk K m b (SC E O ba pa A) X)(l:Int){t:List UInt8}(ht:t.length<=1000) :
    ∃R,aH (d+18) Z wC [.ptr b 0 0,Tx t,I l] m=some (I (iO O E W J X l t).1,R)/\GrP K (λj=>j=b) m R/\Bk K R b (SC E O ba pa A) (iO O E W J X l t).2:=by
 rw[x6m];unfold ni fC TQ;rw[show(AV.sc (.string ⟨#[32]⟩))=Tx [32]from rfl,show(AV.sc (.string ⟨#[]⟩))=Tx []from rfl];obtain⟨M0,p⟩:∃u:Mem,u=⟨m.hp,m.next+1⟩:=⟨_,rfl⟩;have o:Gr0 K m M0:=(by rw[p];exact rF m);have n0:M0.next=m.next+1:=(by rw[p]);have g:∀{M:Mem},Gr0 K m M->Bk K M b (SC E O ba pa A) X:=λh=>hB.gr h (λ_ h=>h.elim) (λh=>h)
 rw[<-p];have y:∀m,aI (aH (d+17)) yF [Tx t] m=some (I (lR t),m):=zg (d+11) (by omega);have D:∀m,aI (aH (d+17)) sB [Tx t,Tx [32]] m=some (.tup [Tx (cA t).1,Tx (cA t).2.1,B (cA t).2.2],m):=ID (d+12) t (by omega);have Y:∀m,aI (aH (d+17)) vZ [Tx (cA t).1] m=some (.tup [pK (cA t).1,B (jJ (cA t).1).isSome],m):=WU (d+16) _;unfold iO;by_cases c1:lR t=0;case neg=>simp only[y,aG,gC,c1,bP,cF,aT,ne_eq,not_false_eq_true,cM];exact⟨_,rfl,o.to,g o⟩
 obtain⟨u,n1,g1,k1,hM1⟩:=kY (U2 (cA t).1).2 (U2 (cA t).1).1 br (m.next,20,11) M0;have e:Gr0 K m u:=jT o (.inl (bO _)) n1 k1;simp only[y,aG,gC,c1,bG,cN,aV,ne_eq,not_true_eq_false,cT,D,kU,jU,jV,Y,bR,hM1,gE];cases hk:jJ (cA t).1 with
 |none=>simp only[wV,cF,aT];exact⟨_,rfl,e.to,g e⟩
 |some kk=>
 obtain⟨r,n,f⟩:=kk;have hfa:=xfb hk;rw[hfa]at g1;have g1':u.get (m.next,20,11)=some (.row [I r,I (n:Int),.clo f []] 0 false):=g1;generalize hw:cR 32 (cA t).2.1=w;have F:∀x∈w,x.length<=1000:=λx Q=>by have:=xf2 32 (cA t).2.1 x (by rw[hw];exact Q);have:=(F4 t).2;omega
 have hwn:w.length<=100000:=(by have h1:=KW 32 (cA t).2.1;have h2:=(F4 t).2;rw[hw]at h1;omega);have hsp:∀m,aI (aH (d+17)) N1 [Tx (cA t).2.1,Tx [32]] m=some (.aN (w.flatMap dC) w.length false,m):=(by intro m;have:=xlk (d+11) 32 (s:=(cA t).2.1) (by have:=(F4 t).2;omega) m;rw[hw]at this;exact this);have H:Sl dC (.aN (w.flatMap dC) w.length false) w:=.inr ⟨false,rfl⟩;have L:∀m,aI (aH (d+17)) P6 [.aN (w.flatMap dC) w.length false,Tx []] m=some (B (decide ([]∈w)),m):=λm=>xl2 (d+15) H hwn [] m
 have N:aM prog iI (.aN (w.flatMap dC) w.length false)=some (I w.length):=H.len vH;simp only[Option.isSome_some,cN,aV,hsp,aG,N,cX,bR,aQ g1',bC,dR,dE,gC,gR,gS];by_cases P:w.length=n;case neg=>have c2':¬((w.length:Int)=(n:Int)):=(by omega);simp only[P,c2',bP,cF,dX,cN,cZ,aG,cW,bD,aT,not_false_eq_true,true_or,cM];exact⟨_,rfl,e.to,g e⟩
 have c2':((w.length:Int)=(n:Int)):=(by omega);simp only[P]at L;simp only[P,bG,cN,dX,cF,bD,cZ,L,aG,cW,not_true_eq_false,false_or];by_cases c3:[]∈w
 .simp only[c3,bG,aT,cM];exact⟨_,rfl,e.to,g e⟩
 obtain⟨M2,v,hrd,hv,he⟩:=xze (d+11) hk P (λx Q=>by have:=F x Q;omega) Z u;have hrd':fL (aH (d+17)) Z 2 (.clo f []) [.aN (w.flatMap dC) w.length false] u=some (.tup [v,B (rY (cA t).1 w).isSome],M2):=hrd;have i:Gr0 K m M2:=e.trans he.gr;rw[P]at hrd';simp only[c3,bP,aV,cT,aG,hrd',kU,jU,jV,gE,aQ g1',bC,dR,dE];cases hr:rY (cA t).1 w with
 |none=>simp only[wV,cF,aT];exact⟨_,rfl,i.to,g i⟩
 |some a=>
 have hva:=hv a hr;subst hva;obtain⟨M3,hdo,g3,hB3⟩:=x2h d Z (λj hj=>fN (hK j hj) i.1) hO hX (g i) l (a:=a) (λn d b h=>F n (xpf (h▸hr)));simp only[Option.isSome_some,cN,aV,hdo,aG];exact⟨M3,rfl,i.to.trans g3,hB3⟩
end Go.Ix
namespace Go.Ix
open Go.Proofs
variable{W:List Bd}{J:List Pn}{E O:Int}{X:St10}
structure InvX (bl:List Bd) (k:Nat) (X:St10):Prop where
 L:X.L.length<=12
 LS:X.L.length+X.S.length<=k
 S2:X.S≠[]->2<=X.L.length
 V:X.V.length<=k
 C:X.C.Nodup
 Cb:∀y∈X.C,0<=y/\y<bl.length
 f:∀p∈X.S,p.f.natAbs<=100000+10000*k
def X0:St10:=⟨[],[],[],[]⟩
def InvX.zero:InvX W 0 X0:=⟨by decide,by decide,λh=>absurd rfl h,by decide,List.nodup_nil,λy h=>(by cases h),λp h=>(by cases h)⟩
def InvX.up{k:Nat}(h:InvX W k X):InvX W (k+1) X:=⟨h.L,by have:=h.LS;omega,h.S2,by have:=h.V;omega,h.C,h.Cb,λp a=>by have:=h.f p a;omega⟩
def xv7{n:Nat}{C:List Int}(h:C.Nodup)(d:∀y∈C,0<=y/\y<(n:Int)):C.length<=n:=by
 have l:(C.map Int.toNat).Nodup:=by unfold List.Nodup at h ⊢;rw[List.pairwise_map];refine h.imp_of_mem ?_;intro a b j f g e;have:=d a j;have:=d b f;exact g (by omega)
 have m:=xv6 l (n:=n) (λw i=>by
  obtain⟨y,o,rfl⟩:=fF.mp i
  have:=d y o
  omega)
 simpa using m
def InvX.ok{k D:Nat}(h:InvX W k X)(d:k<=21)(e:W.length<=11)(g:12<=D):XOK D X:=by
 have i:=h.LS;refine⟨h.L,by have:=h.L;omega,by omega,by have:=h.V;omega,by have:=xv7 h.C h.Cb;omega,λj=>?_,λp b=>by have:=h.f p b;omega⟩;have:=xcm X.S j;by_cases a:X.S=[]
 .rw[a];simp[ofPt]
 .have:=h.S2 a;omega
def KH{α:Type}{q:α->Bool}{l:List α}(h:0<=idxQ q 0 l):idxQ q 0 l<l.length:=by
 rcases D3 q l 0 with ⟨e,-⟩|⟨i,e,a,-⟩
 .omega
 .omega
def x2i{k:Nat}(h:InvX W k X)(n:List UInt8)(d b:Int):InvX W (k+1) (sU X n d b).2:=by
 unfold sU;dsimp only
 split
 .exact h.up
 rename_i g;split
 .exact h.up
 split
 .exact h.up
 have i:=h.LS;have j:=h.L;refine⟨by simp;omega,by simp;omega,λa=>by have:=h.S2 a;simp;omega,by have:=h.V;show X.V.length<=k+1;omega,h.C,h.Cb,λp e=>by have:=h.f p e;omega⟩
def x2j{k:Nat}(h:InvX W k X)(p a b:List UInt8)(f:Int):InvX W (k+1) (sV J X p a b f).2:=by
 unfold sV;dsimp only
 split
 .exact h.up
 rename_i g;split
 .exact h.up
 rename_i i;split
 .exact h.up
 split
 .exact h.up
 rename_i e;have j:=h.LS;have m:=h.L;have n:=KH (q:=nmQ Scene.nm ⟨b.toArray⟩) (l:=X.L) (by omega);refine⟨h.L,by simp;omega,λ_=>by show 2<=X.L.length;omega,by have:=h.V;show X.V.length<=k+1;omega,h.C,h.Cb,λp d=>?_⟩;rcases iF.mp d with d|d
 .have:=h.f p d;omega
 .rw[pS]at d;subst d;have:-100000<=f/\f<=100000:=(by unfold wi at e;simpa using e);show f.natAbs<=_;omega
def x23(i sh:Int)(p:OPr)(Z:-10000<=sh/\sh<=10000):(oE i sh p).f.natAbs<=p.f.natAbs+10000:=by
 unfold oE;split
 .show(p.f+sh).natAbs<=_;omega
 split
 .show(p.f-sh).natAbs<=_;omega
 .omega
def x2m{k:Nat}(h:InvX W k X)(s:List UInt8)(sh:Int):InvX W (k+1) (zC X s sh).2:=by
 unfold zC;dsimp only
 split
 .exact h.up
 split
 .exact h.up
 rename_i b;have a:-10000<=sh/\sh<=10000:=(by unfold wi at b;simpa using b);have m:=h.LS;refine⟨h.L,by simp;omega,λd=>h.S2 λe=>d (by show X.S.map _=[];rw[e];rfl),by have:=h.V;show X.V.length<=k+1;omega,h.C,h.Cb,λp g=>?_⟩;obtain⟨q,l,rfl⟩:=fF.mp g;have i:=h.f q l;have j:=x23 (idxQ (nmQ Scene.nm ⟨s.toArray⟩) 0 X.L) sh q a;exact iQ j (by rw[Nat.mul_succ,<-oG];exact Nat.add_le_add_right i _)
def x2l{k:Nat}(h:InvX W k X)(n:Int)(p s:List UInt8)(v e:Int):InvX W (k+1) (zB J X n p s v e).2:=by
 unfold zB;dsimp only
 split
 .exact h.up
 split
 .exact h.up
 split
 .exact h.up
 have b:=h.V;refine⟨h.L,by have:=h.LS;simp only;omega,h.S2,by simp only[eA,MC];omega,h.C,h.Cb,λp a=>by have:=h.f p a;omega⟩
def xz0(C:List Int):(iE (λx y=>decide (x<y)) (C.length-1) C).Perm C:=
 (aj (R:=λx y=>x<=y) (λa b=>Int.le_trans a b) λi d v e=>⟨λh=>by have:=sA h;omega,λh=>by have:=of_decide_eq_false h;omega⟩).2
def x2n{k:Nat}(h:InvX W k X)(n:List UInt8):InvX W (k+1) (zD O E W J X n).2:=by
 unfold zD;dsimp only
 split
 .exact h.up
 rename_i o;split
 .exact h.up
 rename_i m;have g:=xz0 (X.C++[idxQ (nmQ Bd.nm ⟨n.toArray⟩) 0 W]);rw[show(X.C++[idxQ (nmQ Bd.nm ⟨n.toArray⟩) 0 W]).length-1=X.C.length by simp]at g;have r:=KH (q:=nmQ Bd.nm ⟨n.toArray⟩) (l:=W) (by omega);refine⟨h.L,by have:=h.LS;show X.L.length+X.S.length<=k+1;omega,h.S2,by have:=h.V;show X.V.length<=k+1;omega,?_,λy d=>?_,λp g=>by have:=h.f p g;omega⟩
 .refine g.nodup_iff.mpr (zS.mpr ⟨h.C,by simp,λa j b i e=>?_⟩);rw[pS]at i;refine m (.inl (H2.mpr ⟨a,j,?_⟩));rw[e,i];simp
 .have:=g.mem_iff.mp d;rcases iF.mp this with d|d
  .exact h.Cb y d
  .rw[pS]at d;omega
def x2o{k:Nat}(h:InvX W k X)(n:List UInt8):InvX W (k+1) (zE O E W J X n).2:=by
 unfold zE;dsimp only
 split
 .exact h.up
 split
 .exact h.up
 exact⟨h.L,by have:=h.LS;show X.L.length+X.S.length<=k+1;omega,h.S2,by have:=h.V;show X.V.length<=k+1;omega,h.C.filter _,λy a=>h.Cb y (iX.mp a).1,λp b=>by have:=h.f p b;omega⟩
def KR{k:Nat}(h:InvX W k X)(g:Int)(t:List UInt8):InvX W (k+1) (iO O E W J X g t).2:=by
 unfold iO;split
 .exact h.up
 split
 .exact h.up
 split
 .exact h.up
 split
 .exact h.up
 .rename_i a _;unfold F1;cases a with
  |scene n d b=>exact x2i h n d b
  |pair p a b f=>exact x2j h p a b f
  |corr s f=>exact x2m h s f
  |level p s v e=>exact x2l h g p s v e
  |conf b=>exact x2n h b
  |clos b=>exact x2o h b
def jR(O E:Int)(W:List Bd)(J:List Pn)(a:Nat):Nat->List (List UInt8)->St10->Int×St10
 |_,[],X=>(0,X)
 |k,x::r,X=>if x=[]/\k≠a then jR O E W J a (k+1) r X else if(iO O E W J X ((k+1:Nat):Int) x).1≠0 then iO O E W J X ((k+1:Nat):Int) x else jR O E W J a (k+1) r (iO O E W J X ((k+1:Nat):Int) x).2
end Go.Ix
namespace Go.Ix
open Go.Proofs
variable{K:Id->Prop}{ba pa A:AV}{W:List Bd}{J:List Pn}{C:List Pe}{E O:Int}{m:Mem}{X:St10}{cs:List AV}
def xp2{F:List (List UInt8)}{k:Nat}(a:k<F.length):((F.flatMap dC).drop k).head?=some (Tx F[k]):=by have:=yY nA F k;rw[nS]at this;rw[this,FZ a,dT];rfl
def xyf(d:Nat)(Z:FHs)(u:Nat)(hO:SuOK E O ba pa A W J C)(N:W.length<=11){F:List (List UInt8)}(hF:F.length<=21)(P:∀x∈F,x.length<=1000){cid nb hid:Id}{n1:Nat}(hn1:n1<F.length)(i:K cid)(Q:cid≠nb) :
    ∀(a:List (List UInt8)) (k j:Nat) (m:Mem) (Y:Nat) (X:St10),F.drop k=a->a.length<j->(∀j,K j->j.1<m.next)->InvX W k X->Bk K m nb (SC E O ba pa A) X->m.get cid=some (.row (F.flatMap dC) 0 false) ->
    ∃b e,GrP K (λj=>j=nb) m b/\Bk K b nb (SC E O ba pa A) (jR O E W J n1 k a X).2 /\
     zY (aH (d+22)) Z u j (.ptr hid 0 0) (I (n1+1:Nat)) (.sref cid 0 0 F.length 1 true) (.ptr nb 0 0) (.sref cid 0 0 F.length 1 true) (I F.length) (I k) m Y =
      if ¬(jR O E W J n1 k a X).1=0 then some (I (jR O E W J n1 k a X).1,b)else Z9 (aH (d+22)) Z u (.ptr hid 0 0) (.sref cid 0 0 F.length 1 true) (.ptr nb 0 0) b e:=by
 intro a;induction a with
 |nil=>intro k j m Y X R g n y D H;obtain⟨j,rfl⟩:=dQ g;have o:¬((k:Int)<(F.length:Int)):=(by have:=gZ.mp R;omega);simp only[zY];unfold SO;simp only[bV,o,bP,aG,aV,jR,not_true_eq_false,cT];exact⟨m,_,.refl _ _,D,rfl⟩
 |cons x a ih=>
  intro k j m Y X R g n y D H;obtain⟨j,rfl⟩:=dQ g;obtain⟨o,he,t⟩:=gW R;have hk':((k:Int)<(F.length:Int)):=(by omega);have hx:=xp2 o;rw[he]at hx;have ld:aA false 1 (.ptr cid 0 k) m=some (Tx x):=(by rw[aQ H,xbs,hx]);have ws:cG (((n1+1:Nat):Int)-1)=(n1:Int):=(by rw[bQ];omega);have wa:=iJ k (by omega);have hxl:x.length<=1000:=P x (by rw[<-he];exact fG o);simp only[zY];unfold SO uf SP;rw[show(AV.sc (.string ⟨#[]⟩))=Tx []from rfl];simp only[bV,hk',bG,aG,aT,BS cid o,ld,oP,gR,dZ];have p:¬(x=[]/\k≠n1)->∃b e,GrP K (λj=>j=nb) m b/\Bk K b nb (SC E O ba pa A) (jR O E W J n1 k (x::a) X).2 /\
   ((aH (d+22) Z wC [.ptr nb 0 0,Tx x,I ((k+1:Nat):Int)] m).bind λf=>(eF f.1 (I 0)).bind λl=>aK l (some (f.1,f.2)) (zY (aH (d+22)) Z u j (.ptr hid 0 0) (I (n1+1:Nat)) (.sref cid 0 0 F.length 1 true) (.ptr nb 0 0) (.sref cid 0 0 F.length 1 true) (I F.length) (I ((k+1:Nat):Int)) f.2 (Y+1+20+2))) =
   if ¬(jR O E W J n1 k (x::a) X).1=0 then some (I (jR O E W J n1 k (x::a) X).1,b)else Z9 (aH (d+22)) Z u (.ptr hid 0 0) (.sref cid 0 0 F.length 1 true) (.ptr nb 0 0) b e:=by
   intro hc;obtain⟨L,e1,M,e3⟩:=zd (d+4) Z n hO (y.ok (by omega) N (by omega:12<=d+4+8)) D ((k+1:Nat):Int) hxl;have e1':aH (d+22) Z wC [.ptr nb 0 0,Tx x,I ((k+1:Nat):Int)] m=some (I (iO O E W J X ((k+1:Nat):Int) x).1,L):=e1;have hr:jR O E W J n1 k (x::a) X=if(iO O E W J X ((k+1:Nat):Int) x).1≠0 then iO O E W J X ((k+1:Nat):Int) x else jR O E W J n1 (k+1) a (iO O E W J X ((k+1:Nat):Int) x).2:=by rw[jR,aB hc]
   have r:=KR (O:=O) (E:=E) (J:=J) y ((k+1:Nat):Int) x;simp only[e1',aG,gC];rw[hr];generalize iO O E W J X ((k+1:Nat):Int) x=q at *
   by_cases c:q.1=0
   .simp only[c,bG,cN,aV,ne_eq,not_true_eq_false,cT];have gc:L.get cid=some (.row (F.flatMap dC) 0 false):=(by rw[(M.2 cid (n cid i) Q).2 (.inr (.inr (.inr i)))];exact H);obtain⟨b,e,f1,f2,f3⟩:=ih (k+1) j L (Y+1+20+2) q.2 t (by simp at g;omega) (λj g=>fN (n j g) M.1) r e3 gc;exact⟨b,e,M.trans f1,f2,f3⟩
   .simp only[c,bP,cF,aT,ne_eq,not_false_eq_true,cM];exact⟨L,0,M,e3,rfl⟩
  by_cases w:x=[]
  .by_cases c2:k=n1
   .have c2':((k:Int)=(n1:Int)):=(by omega);simp only[eX w,iS,bD,aG,nX,ws,gC,eX c2',cN,cW,aV,dY,wa];exact p (λh=>h.2 c2)
   .have c2':¬((k:Int)=(n1:Int)):=(by omega);simp only[eX w,iS,bD,aG,nX,ws,gC,eY c2',cF,cW,aT,dY,wa];have hr:jR O E W J n1 k (x::a) X=jR O E W J n1 (k+1) a X:=(by rw[jR,aF ⟨w,c2⟩]);rw[hr];exact ih (k+1) j m _ X t (by simp at g;omega) n y.up D H
  .simp only[eY w,iS,cZ,aG,cW,aV,dY,wa];exact p (λh=>w h.1)
def xci{K L:Id->Prop}(h:∀j,L j->K j){j:Id}(b:oZ K j):oZ L j:=⟨λa=>b.1 (by
 rcases a with a|a|a|a
 .exact .inl a
 .exact .inr (.inl a)
 .exact .inr (.inr (.inl a))
 .exact .inr (.inr (.inr (h j a)))),b.2⟩
def Rk.jO{K L:Id->Prop}(h:∀j,L j->K j){α:Type}{z:Nat}{d:α->List AV}{a:AV}{l:List α}(e:Rk K z d m a l):Rk L z d m a l:=by
 rcases e with h1|h1|⟨id,ver,x,b,rest,h1,h2⟩
 .exact .inl h1
 .exact .inr (.inl h1)
 .exact .inr (.inr ⟨id,ver,x,b,rest,xci h h1,h2⟩)
def RowP.jO{K L:Id->Prop}(h:∀j,L j->K j){P:List AV}{a:Id}{f:Bool}(p:RowP K m a P f):RowP L m a P f:=by
 obtain⟨l,o,r|⟨w,g,t,A,e,i,x,b,n,u,d,y,C,D,E⟩⟩:=p
 .exact⟨l,o,.inl r⟩
 .exact⟨l,o,.inr ⟨w,g,t,A,e,i,x,b,n,u,d,y,C,xci h D,E⟩⟩
def Bc.jO{K L:Id->Prop}(h:∀j,L j->K j){P:List AV}(e:Bc K m P X cs):Bc L m P X cs:=by obtain⟨a,s,p,v,c,f,i,l,b,n,o,d,r,t⟩:=e.ex;exact⟨a,s,p,v,c,f,i,l,⟨b.1,λg=>b.2 (h a g)⟩,n.jO h,o.jO h,⟨d.1.jO h,d.2⟩,r.jO h,t.jO h⟩
def SpK(K:Id->Prop)(m:Mem)(P:List AV)(a:Id):Prop:=a.1<m.next/\((a.2.2=2\/a.2.2=1)/\¬K a)/\∃f,RowP K m a P f
def SpK.gr{Q:Id->Prop}{m g:Mem}{P:List AV}{a:Id}(h:SpK K m P a)(b:GrP K Q m g)(i:∀j,Q j->lO K j):SpK K g P a:=by
 obtain⟨n,d,f,r⟩:=h;have p:¬Q a:=λo=>by have:=i a o;rcases this with h|h|h|h<;>first|exact d.2 h|(have:=d.1;omega)
 obtain⟨t,e⟩:=r.gr (b.2 a n p).1 b i;exact⟨fN n b.1,d,t,e⟩
def SpK.ldEa{a:Id}(h:SpK K m (SC E O ba pa A) a):aA false 1 (.ptr a 0 4) m=some A:=by
 obtain⟨y,C,f,D,e,j|⟨w,g,o,d,p,r,x,b,n,F,i,t,u,-⟩⟩:=h
 .rw[aQ e,j];rfl
 .rw[aQ e,t];have:d=A:=(by have:=congrArg (λl:List AV=>l[4]?) u;simp only[jV,jU,bN]at this;exact this.symm);rw[<-this];rfl
def xcj{L:Id->Prop}(h:∀j:Id,j.1<m.next->L j->K j){j:Id}(d:j.1<m.next)(b:oZ K j):oZ L j:=⟨λa=>b.1 (by
 rcases a with a|a|a|a
 .exact .inl a
 .exact .inr (.inl a)
 .exact .inr (.inr (.inl a))
 .exact .inr (.inr (.inr (h j d a)))),b.2⟩
def Rk.addK{L:Id->Prop}(h:∀j:Id,j.1<m.next->L j->K j){α:Type}{z:Nat}{d:α->List AV}{a:AV}{l:List α}(e:Rk K z d m a l):Rk L z d m a l:=by
 rcases e with h1|h1|⟨id,ver,x,b,rest,h1,h2,h3⟩
 .exact .inl h1
 .exact .inr (.inl h1)
 .exact .inr (.inr ⟨id,ver,x,b,rest,xcj h h2 h1,h2,h3⟩)
def GrP.addK{L P:Id->Prop}(h:∀j:Id,j.1<m.next->L j->K j){e:Mem}(b:GrP K P m e):GrP L P m e:=⟨b.1,λj d f=>⟨(b.2 j d f).1,λa=>(b.2 j d f).2 (by
 rcases a with a|a|a|a
 .exact .inl a
 .exact .inr (.inl a)
 .exact .inr (.inr (.inl a))
 .exact .inr (.inr (.inr (h j d a))))⟩⟩
def RowP.addK{L:Id->Prop}(h:∀j:Id,j.1<m.next->L j->K j){P:List AV}{a:Id}{f:Bool}(r:RowP K m a P f):RowP L m a P f:=by
 obtain⟨l,o,t|⟨w,g,u,A,e,i,x,b,n,y,d,C,D,E,p,F⟩⟩:=r
 .exact⟨l,o,.inl t⟩
 .exact⟨l,o,.inr ⟨w,g,u,A,e,i,x,b,n,y,d,C,D,xcj h p E,p,F⟩⟩
def SpK.addK{L:Id->Prop}(h:∀j:Id,j.1<m.next->L j->K j){P:List AV}{a:Id}(Z:SpK K m P a):SpK L m P a:=by obtain⟨b,d,f,g⟩:=Z;exact⟨b,⟨d.1,λe=>d.2 (h a b e)⟩,f,g.addK h⟩
def SpK.jO{L:Id->Prop}(h:∀j,L j->K j){P:List AV}{a:Id}(Z:SpK K m P a):SpK L m P a:=by obtain⟨e,b,f,g⟩:=Z;exact⟨e,⟨b.1,λd=>b.2 (h a d)⟩,f,g.jO h⟩
theorem XR(x:List UInt8):(dC x).all aP=true:=rfl
def Hk(K:Id->Prop)(m:Mem)(a:Id)(P:List AV)(F:List (List UInt8))(X:St10):Prop:=
 lO K a/\a.1<m.next/\∃b d e,m.get a=some (.row (.ptr b 0 0::d::e) 0 false)/\SpK K m P b/\Rk K 1 dC m d F/\Bc K m P X e
def Hk.gr{Q:Id->Prop}{m g:Mem}{P:List AV}{a:Id}{F:List (List UInt8)}(h:Hk K m a P F X)(b:GrP K Q m g)(d:∀j,Q j->lO K j)(o:¬Q a):Hk K g a P F X:=by obtain⟨i,n,e,t,u,w,x,y,A⟩:=h;exact⟨i,fN n b.1,e,t,u,by rw[(b.2 a n o).2 i];exact w,x.gr b d,y.gr b (λj p r=>p.1 (d j r)),A.gr b d⟩
def Hk.jO{L:Id->Prop}(h:∀j,L j->K j){P:List AV}{a:Id}{F:List (List UInt8)}(d:a.2.2=8)(e:Hk K m a P F X):Hk L m a P F X:=by obtain⟨r,f,b,g,i,l,n,o,p⟩:=e;exact⟨.inl d,f,b,g,i,l,n.jO h,o.jO h,p.jO h⟩
def VW:cY rO []=some (.agg [nilS,nilS,nilS,nilS]):=by kernel_rfl
def xu(a:Id):cY gQ [(0,1,.ptr a 0 0),(1,4,.agg [nilS,nilS,nilS,nilS])]=some (.agg [.ptr a 0 0,nilS,nilS,nilS,nilS]):=by kernel_rfl
def xq:gQ.length=5:=by kernel_rfl
def SpK.book0{P:List AV}{a:Id}(h:SpK K m P a):Bc K m P X0 [.ptr a 0 0,nilS,nilS,nilS,nilS]:=by obtain⟨b,d,f,e⟩:=h;exact⟨a,nilS,nilS,nilS,nilS,f,rfl,b,d,e,.inl ⟨rfl,rfl⟩,⟨.inl ⟨rfl,rfl⟩,λ_=>rfl⟩,.inl ⟨rfl,rfl⟩,.inl ⟨rfl,rfl⟩⟩
def x1w(a:List AV)(n:Nat)(x:Bool):bY prog .eql iI (.tmp 3) (.const (.slice none 0 0)) (.aN a n x) nilS=some (B false):=by kernel_rfl
def x7w(d:Nat){q:AV}{S:List (List UInt8)}(h:Rk K 1 dC m q S)(o:S≠[])(P:S.length<=1000):∃M,tZ (aH (d+1)) P9 [q] m=some (.sref (m.next,5,7) 0 0 S.length 1 true,M)/\M.get (m.next,5,7)=some (.row (S.flatMap dC) 0 false)/\M.next=m.next+1/\∀j,j≠(m.next,5,7)->M.get j=m.get j:=by
 obtain⟨l,E,t⟩:=h.frz nA XR 4;have D:[q].mapM (Go.Ix.frz m.get bI)=some [l]:=(by have q1':Go.Ix.frz m.get bI q=some l:=E;simp only[eI,gX,q1'];rfl);have f:∃e,aH (d+1) [] P9 [l] ⟨[],m.next⟩=some (.sref (m.next,5,7) 0 0 S.length 1 true,e)/\e.get (m.next,5,7)=some (.row (S.flatMap dC) 0 false)/\e.next=m.next+1:=by
  rw[x43];unfold jq bW QY;have F:cH S.length 16:=(by unfold cH;omega);have g:=dm nA t F (m.next,5,7) (⟨[],m.next+1⟩:Mem);rcases t with ⟨rfl,rfl⟩|⟨b,rfl⟩
  .exact absurd rfl o
  .rcases g with ⟨rfl,y⟩|⟨O,y⟩
   .exact absurd rfl o
   .refine⟨(⟨[],m.next+1⟩:Mem).new (m.next,5,7) (.row (S.flatMap dC) 0 false),?_,by simp,rfl⟩;simp[x1w];exact y _
 obtain⟨e,H,n,J⟩:=f;have a:(S.flatMap dC).all pH=true:=by rw[dJ];intro x C;obtain⟨p,-,u⟩:=mK.mp C;simp only[dC,dW,wY,or_false]at u;rw[u];rfl
 obtain⟨M,L,N,w⟩:=LE (ids:=[(m.next,5,7)]) D H rfl (YQ n a) (λi r=>by
  rw[pS]at r;subst r
  exact⟨bO _,_,_,n,a⟩)
 exact⟨M,L,by rw[w,aF (by simp)];exact n,by rw[N,J],λj A=>by rw[w j,aB (by simpa using A)]⟩
def pF:List UInt8:=[102,105,120,32]
def xlt(d:Nat)(l:List UInt8)(m:Mem):aI (aH (d+2)) N2 [Tx l,Tx pF] m=some (B (decide (l.take 4=pF)),m):=by
 have f:∀m,aI (aH (d+1)) C2 [Tx l,Tx pF] m=some (B (decide (l.take 4=pF)),m):=λm=>by
  refine eZ rfl ?_ m;rw[xgp];unfold ND bA HA;have a:fZ (Tx pF)=some (I 4):=mX pF;simp only[mX l,a,aG,vL,mem0,gR,dZ];by_cases c:4<=l.length
  .have c':((l.length:Int) ≥ 4):=(by omega);have b:eK prog bK (Tx l) none (some (I 4))=some (Tx (l.take 4)):=HW (hi:=4) c;simp only[eX c',iS,bD,aG,a,b,oP,cW];exact RetF.st rfl rfl
  .have c':¬((l.length:Int) ≥ 4):=(by omega);have e:l.take 4≠pF:=λh=>by have:=congrArg List.length h;simp[pF]at this;omega
   simp only[eY c',iS,cZ,aG,cW];exact RetF.st rfl (by rw[eY e])
 refine eZ rfl ?_ m;rw[x3r];unfold gd bA NX;simp only[mem0,f,aG];exact RetF.st rfl rfl
open Go.Proofs
def xor{p q:AV}(h:aD 0 p=some q):q=p:=by cases p<;>simp[aD]at h<;>exact h.symm
def Rk.cellT{a:AV}{l:List (List UInt8)}(h:Rk K 1 dC m a l){k:Nat}(d:k<l.length):∃p,aR 1 a (I k)=some p/\aA false 1 p m=some (Tx l[k]):=by obtain⟨p,e,f⟩:=h.cell nA d;obtain⟨i,g,b⟩:=f 0 (by omega);rw[xor g]at b;exact⟨p,e,b⟩
def xnk{F:List (List UInt8)}{k:Nat}(b:k<F.length)(x:List UInt8):cS (F.flatMap dC) k [Tx x]=(F.set k x).flatMap dC:=by
 have e:=em (l:=F) (i:=k) (a:=x);rw[aF b]at e;have d:F=F.take k++F[k]::F.drop (k+1):=(by rw[List.getElem_cons_drop,G8]);have f:((F.take k).flatMap dC).length=k:=(by rw[gG nA,nS,oH];omega);rw[e];conv=>lhs;rw[d]
 rw[vC,vC,dT,dT];have:=XT ((F.take k).flatMap dC) (dC F[k]++(F.drop (k+1)).flatMap dC) [Tx x] 0;rw[f]at this;exact this
def x8j(A:aJ)(Z:FHs)(u Y:Nat){b nb a:Id}{P:List AV}{F F':List (List UInt8)}{X':St10}(hn:nb.2.2=11)(hc:a.2.2=7)(hh:b.2.2=8)(hF:F'.length<=100)(hcl:a.1<m.next)(hKc:¬K a)(hH:Hk K m b P F X)(hB:Bk K m nb P X')(g1:m.get a=some (.row (F'.flatMap dC) 0 false))(hne:∀i,F≠F->i=0) :
    ∃D,Z9 A Z u (.ptr b 0 0) (.sref a 0 0 F'.length 1 true) (.ptr nb 0 0) m Y=some (I 0,D)/\D.next=m.next/\(∀j,j≠b->j≠a->D.get j=m.get j)/\∃d J g,m.get b=some (.row (.ptr d 0 0::J::g) 0 false)/\∃f,m.get nb=some (.row f 0 false)/\D.get b=some (.row (.ptr d 0 0::.sref a 1 0 (F'.length+1) 1 true::f) 0 false)/\D.get a=some (.row ((F'++[[]]).flatMap dC) 1 false):=by
 obtain⟨h1,h2,d,J,g,h3,h4,h5,h6⟩:=hH;obtain⟨f,c1,c2,c3,c4,c5⟩:=hB.ld;have hcs:g.length=5:=(by obtain⟨_,_,_,_,_,_,e,-⟩:=h6.ex;rw[e];rfl);have t:a≠b:=λh=>by rw[h]at hc;omega
 have w:a≠nb:=λh=>by rw[h]at hc;omega
 have hhn:b≠nb:=λh=>by rw[h]at hh;omega
 unfold Z9;rw[show(AV.sc (.string ⟨#[]⟩))=Tx []from rfl];have E:∀{R:Type} (id:Id) (K:AV->Mem->Option R),cQ oM [(0,1,Tx [])] 1 1 id m K=K (.aN [Tx []] 1 true) m:=λid K=>by rw[VZ];rfl
 have M:elems m.get 1 (.aN [Tx []] 1 true)=some ([Tx []],1):=rfl;have hfl:(F'.flatMap dC).length=F'.length:=(by rw[gG nA,nS]);have n:∀{R:Type} (id:Id) (K:AV->Mem->Option R),cJ 1 16 id (some ([Tx []],1)) (.sref a 0 0 F'.length 1 true) m K=K (.sref a 1 0 (F'.length+1) 1 true) (m.set a (.row ((F'++[[]]).flatMap dC) 1 false)):=λid K=>by simp only[cJ,g1];rw[aF ⟨trivial,trivial,by omega,by unfold cH;omega⟩,aB (by omega),aB (by omega)];rw[bC,nS,dM (by omega),vC];rfl
 generalize y:m.set a (.row ((F'++[[]]).flatMap dC) 1 false)=r at n;have N:∀j,j≠a->r.get j=m.get j:=λj hj=>by rw[<-y,Mem.cP,aB hj]
 have O:r.get a=some (.row ((F'++[[]]).flatMap dC) 1 false):=(by rw[<-y,Mem.cP,aF rfl]);have Q:r.get b=some (.row (.ptr d 0 0::J::g) 0 false):=(by rw[N _ (Ne.symm t)];exact h3);have W:aA true 5 (.ptr nb 0 0) r=some (.agg f):=(by have:r.get nb=some (.row f 0 false):=(by rw[N _ (Ne.symm w)];exact c1);rw[aQ this];rw[aQ c1]at c5;exact c5);have nbn:∀j o,bZ (.ptr j 0 o)=some (.ptr j 0 o):=λ_ _=>rfl
 have p:∀{R:Type} (K:Mem->Option R),aU 1 (.ptr b 0 1) (.sref a 1 0 (F'.length+1) 1 true) r K=K (r.set b (.row (.ptr d 0 0::.sref a 1 0 (F'.length+1) 1 true::g) 0 false)):=λK=>by rw[lY (z:=1) Q rfl (by simp) rfl];rfl
 generalize l:r.set b (.row (.ptr d 0 0::.sref a 1 0 (F'.length+1) 1 true::g) 0 false)=M2 at p;have gh2:M2.get b=some (.row (.ptr d 0 0::.sref a 1 0 (F'.length+1) 1 true::g) 0 false):=(by rw[<-l,Mem.cP,aF rfl]);have H:∀{R:Type} (K:Mem->Option R),aU 5 (.ptr b 0 2) (.agg f) M2 K=K (M2.set b (.row (.ptr d 0 0::.sref a 1 0 (F'.length+1) 1 true::f) 0 false)):=λK=>by rw[lY (z:=5) (x:=.agg f) gh2 c3 (by simp;omega) c4];congr 3;show cS (AV.ptr d 0 0::.sref a 1 0 (F'.length+1) 1 true::g) 2 f=_;unfold cS;rw[lV (by simp;omega)];simp
 have a1:∀i:Id,i.2.2=106->aW (some [],some [i]) (tR (.ptr nb 0 0))=true:=λi hi=>by
  have:i≠nb:=λh=>by rw[h]at hi;omega
  simp[aW,tR,kX,Ne.symm this]
 have a2:∀i:Id,aW (tX (.aN [Tx []] 1 true),tA i (.sref a 1 0 (F'.length+1) 1 true)) (tR (.ptr nb 0 0))=true:=λi=>by simp[aW,tR,tX,tA,kX,Ne.symm w]
 have a3:∀i:Id,aW (tX (.aN [Tx []] 1 true),tA i (.sref a 0 0 F'.length 1 true)) (tR (.ptr nb 0 0))=true:=λi=>by simp[aW,tR,tX,tA,kX,Ne.symm w]
 simp only[E,M,n,W,aG,nbn,cX,bR,p,H,a1 (u,Y+3,106) rfl,a3,gD,bD];refine⟨_,rfl,by rw[<-l,<-y];rfl,λj C L=>by rw[Mem.cP,aB C,<-l,Mem.cP,aB C];exact N j L,d,J,g,h3,f,c1,by rw[Mem.cP,aF rfl],by rw[Mem.cP,aB t,<-l,Mem.cP,aB t];exact O⟩
open Go.Proofs
def zG(O E:Int)(W:List Bd)(J:List Pn)(F:List (List UInt8))(X:St10)(a:List UInt8):Int×List (List UInt8)×St10:=
 match kF (cA a).1 9 with
 |none=>(7,F,X)
 |some n=>if(cA a).2.2=false\/(cA a).2.1=[]then(7,F,X)else if ¬(1<=n/\n<=F.length)then(6,F,X)else
  if F.getD (n.toNat-1) []=[]\/(cA a).2.1.take 4=pF\/(cA a).2.1=uN then(15,F,X)else
   if(jR O E W J (n.toNat-1) 0 (F.set (n.toNat-1) (cA a).2.1) X0).1≠0 then((jR O E W J (n.toNat-1) 0 (F.set (n.toNat-1) (cA a).2.1) X0).1,F,X)else
    (0,F.set (n.toNat-1) (cA a).2.1++[[]],(jR O E W J (n.toNat-1) 0 (F.set (n.toNat-1) (cA a).2.1) X0).2)
def xla(d:Nat)(Z:FHs)(hK:∀j,K j->j.1<m.next)(hO:SuOK E O ba pa A W J C)(hbl:W.length<=11){i:Id}{F:List (List UInt8)}(hh:i.2.2=8)(hH:Hk K m i (SC E O ba pa A) F X)(hF:F.length<=21)(hFt:∀x∈F,x.length<=1000){rest:List UInt8}(hr:rest.length<=1000) :
    ∃m',aH (d+23) Z Q4 [.ptr i 0 0,Tx rest] m=some (I (zG O E W J F X rest).1,m')/\GrP K (λj=>j=i) m m'/\Hk K m' i (SC E O ba pa A) (zG O E W J F X rest).2.1 (zG O E W J F X rest).2.2:=by
 rw[x50];unfold lj bA SN;rw[show(AV.sc (.string ⟨#[32]⟩))=Tx [32]from rfl,show(AV.sc (.string ⟨#[]⟩))=Tx []from rfl,show(AV.sc (.string ⟨#[102,105,120,32]⟩))=Tx pF from rfl,show(AV.sc (.string ⟨#[102,105,120]⟩))=Tx uN from rfl];obtain⟨y,hM1⟩:∃y:Mem,y=⟨m.hp,m.next+1⟩:=⟨_,rfl⟩;have r:Gr0 K m y:=(by rw[hM1];exact rF m);have n1:y.next=m.next+1:=(by rw[hM1]);rw[<-hM1];have hgr:∀{M:Mem},Gr0 K m M->Hk K M i (SC E O ba pa A) F X:=λh=>hH.gr h (λ_ h=>h.elim) (λh=>h)
 have hH':=hH;obtain⟨hh1,hh2,P,fv,cs,hh3,hh4,hh5,hh6⟩:=hH';have rb:∀{M:Mem},Gr0 K m M->M.get i=some (.row (.ptr P 0 0::fv::cs) 0 false):=λh=>by rw[(h.2 i hh2 (λh=>h)).2 hh1];exact hh3
 have lf:∀{M:Mem},Gr0 K m M->aA false 1 (.ptr i 0 1) M=some fv:=λh=>by rw[aQ (rb h)];rfl
 have ls:∀{M:Mem},Gr0 K m M->aA false 1 (.ptr i 0 0) M=some (.ptr P 0 0):=λh=>by rw[aQ (rb h)];rfl
 have nb0:bZ (.ptr i 0 0)=some (.ptr i 0 0):=rfl;have hcut:∀m,aI (aH (d+22)) sB [Tx rest,Tx [32]] m=some (.tup [Tx (cA rest).1,Tx (cA rest).2.1,B (cA rest).2.2],m):=ID (d+17) rest (by omega);have hcl:=F4 rest;obtain⟨n,hnc,hnv⟩:=yw (d+18) (w:=(cA rest).1) (by omega) y;have hnc':aI (aH (d+22)) yE [Tx (cA rest).1] y=some (.tup [I n,B (kF (cA rest).1 9).isSome],y):=hnc;unfold zG;generalize hw:(cA rest).1=w at *
 generalize ht:(cA rest).2.1=t at *
 generalize hb:(cA rest).2.2=bk at *
 simp only[hcut,aG,kU,jU,jV,hnc',gE,gR,dZ,gS];have l:∀e:Int,∃m',some (I e,y)=some (I e,m')/\GrP K (λj=>j=i) m m'/\Hk K m' i (SC E O ba pa A) F X:=λe=>⟨y,rfl,r.to,hgr r⟩
 cases hn:kF w 9 with
 |none=>
  cases bk with
  |false=>simp only[cF,dX,cN,cZ,aG,cW,bD,aT];exact l 7
  |true=>simp only[cN,dX,cF,bD,wV,gE,aG,cW,cZ,aT];exact l 7
 |some k=>
 obtain rfl:=hnv k hn;cases bk with
 |false=>simp only[cF,dX,cN,cZ,aG,cW,bD,aT,true_or,cM];exact l 7
 |true=>
 simp only[cN,dX,cF,bD,Option.isSome_some,gE,aG,cW,cZ,oP,Bool.true_eq_false,false_or];by_cases c1:t=[]
 .simp only[eX c1,aT,aF c1];exact l 7
 have hfl:aM prog iI fv=some (I F.length):=(hh5.gr r (λ_ _ h=>h.elim)).len vH;have hwi:=λa b c m=>tK (d+21) a b c m
 simp only[eY c1,aV,aB c1,nb0,cX,bR,lf r,hfl,hwi,aG,gE];by_cases c2:1<=n/\n<=F.length;case neg=>have c2':wi n 1 F.length=false:=(by unfold wi;exact eY c2);simp only[c2',cF,aT,aF c2];exact l 6
 have c2':wi n 1 F.length=true:=(by unfold wi;exact eX c2);obtain⟨g,hn1'⟩:∃q:Nat,q=n.toNat-1:=⟨_,rfl⟩;have hk:g<F.length:=(by omega);have hnn:n=((g+1:Nat):Int):=(by omega);have ws:cG (n-1)=(g:Int):=(by rw[bQ];omega);obtain⟨p,p1,p2⟩:=(hh5.gr r (λ_ _ h=>h.elim)).cellT hk;have hgd:F.getD g []=F[g]:=(by rw[fU,eJ hk];rfl);have D:∀m,aI (aH (d+22)) N2 [Tx t,Tx pF] m=some (B (decide (t.take 4=pF)),m):=xlt (d+20) t;rw[aB (λh=>h c2),<-hn1',hgd];simp only[c2',cN,aV,aG,nX,ws,p1,p2,oP];by_cases c3:F[g]=[]
 .simp only[eX c3,dX,cN,cZ,aG,cW,bD,aT,aF (Or.inl c3)];exact l 15
 by_cases c4:t.take 4=pF
 .simp only[eY c3,dX,cF,cN,cZ,D,eX c4,aG,cW,bD,aT,aF (Or.inr (Or.inl c4))];exact l 15
 by_cases c5:t=uN
 .simp only[eY c3,dX,cF,cZ,D,eY c4,aG,cW,bD,oP,eX c5,aT,aF (Or.inr (Or.inr c5))];exact l 15
 simp only[eY c3,dX,cF,cZ,D,eY c4,aG,cW,bD,oP,eY c5,aV];rw[aB (by rintro(h|h|h);exact c3 h;exact c4 h;exact c5 h)];have hFne:F≠[]:=λh=>by rw[h]at hk;simp at hk
 obtain⟨M2,hcl2,g2,n2,k2⟩:=x7w (d+21) (hh5.gr r (λ_ _ h=>h.elim)) hFne (by omega);generalize hcid:((y.next,5,7):Id)=f at *
 have hc1:f.1=m.next+1:=(by rw[<-hcid];exact n1);have Y:f.2.2=7:=(by rw[<-hcid]);have hjc:∀j:Id,j.1<m.next->j≠f:=λj o h=>by rw[h,hc1]at o;omega
 have hFs:(F.set g t).length=F.length:=mS;have hst:∀{R:Type} (K:Mem->Option R),aU 1 (.ptr f 0 g) (Tx t) M2 K=K (M2.set f (.row ((F.set g t).flatMap dC) 0 false)):=λK=>by rw[lY (z:=1) (x:=Tx t) g2 rfl (by rw[gG nA];omega) rfl];congr 3;exact xnk hk t
 generalize hM3:M2.set f (.row ((F.set g t).flatMap dC) 0 false)=M3 at hst;have f3:∀j,j≠f->M3.get j=y.get j:=λj o=>by rw[<-hM3,Mem.cP,aB o];exact k2 j o
 have g3:M3.get f=some (.row ((F.set g t).flatMap dC) 0 false):=(by rw[<-hM3,Mem.cP,aF rfl]);have n3:M3.next=m.next+2:=(by rw[<-hM3];show M2.next=_;rw[n2,n1]);have gr3:Gr0 K m M3:=⟨by omega,λj o hp=>by rw[f3 j (hjc j o)];exact r.2 j o hp⟩;obtain⟨M4,n4,g4,k4,hM4⟩:=kY (z:=5) (cs:=gQ) (x:=.agg [.ptr P 0 0,nilS,nilS,nilS,nilS]) rfl rfl xq (m.next,73,11) M3;have H:Gr0 K m M4:=jT gr3 (.inl (bO _)) n4 k4;have hKm:∀j,K j->(λj=>K j\/j=f) j:=λj h=>.inl h
 have hsp:=hh4.gr H (λ_ h=>h.elim);have hLc:∀j:Id,j.1<m.next->(K j\/j=f)->K j:=λj o h=>h.elim (λh=>h) (λh=>absurd h (hjc j o))
 have hsp':SpK (λj=>K j\/j=f) M4 (SC E O ba pa A) P:=(hh4.addK (L:=λj=>K j\/j=f) hLc).gr (GrP.addK (L:=λj=>K j\/j=f) hLc H) (λ_ h=>h.elim);have hB4:Bk (λj=>K j\/j=f) M4 (m.next,73,11) (SC E O ba pa A) X0:=⟨.inr (.inl rfl),by show m.next<M4.next;omega,_,g4,hsp'.book0⟩;have N:f≠(m.next,73,11):=λh=>by rw[h]at Y;simp at Y
 have gc4:M4.get f=some (.row ((F.set g t).flatMap dC) 0 false):=by rw[k4 _ N];exact g3
 obtain⟨m5,fc',r1,r2,r3⟩:=xyf d Z m.next (K:=λj=>K j\/j=f) hO hbl (F:=F.set g t) (by omega) (λx hx=>by
  rcases xh5 hx with hx|rfl
  .exact hFt x hx
  .omega) (cid:=f) (nb:=(m.next,73,11)) (hid:=i) (n1:=g) (by omega) (.inr rfl) N (F.set g t) 0 NN M4 (75+3) X0 rfl (by rw[dF];omega) (λj o=>by
   rcases o with o|rfl
   .have:=hK j o;omega
   .omega) InvX.zero hB4 gc4
 have hlen2:aM prog iI (.sref f 0 0 F.length 1 true)=some (I F.length):=rfl;have hix:aR 1 (.sref f 0 0 F.length 1 true) (I (g:Int))=some (.ptr f 0 g):=BS f hk;unfold ue;simp only[lf r,hcl2,aG,hix,hst,ls gr3,VW,xu,hM4,hlen2];rw[hFs]at r3;rw[<-hnn]at r3;have r3':zY (aH (d+22)) Z m.next NN (.ptr i 0 0) (I n) (.sref f 0 0 F.length 1 true) (.ptr (m.next,73,11) 0 0) (.sref f 0 0 F.length 1 true) (I F.length) (I 0) M4 (75+3)=_:=r3;have r1':GrP K (λj=>j=(m.next,73,11)) M4 m5:=r1.jO hKm
 have u:Gr0 K m m5:=⟨iQ H.1 r1'.1,λj o hp=>by
  have h1:=H.2 j o hp
  have h2:=r1'.2 j (fN o H.1) (by rintro rfl;simp at o)
  exact⟨h1.1.trans h2.1,λhb=>by rw[h2.2 hb,h1.2 hb]⟩⟩
 generalize hq:jR O E W J g 0 (F.set g t) X0=q at *
 by_cases c6:q.1=0;case neg=>rw[aF c6]at r3';rw[aF c6];exact⟨m5,r3',u.to,hgr u⟩
 rw[aB (λh=>h c6)]at r3';rw[aB (λh=>h c6)];have hKc:¬K f:=λh=>by have:=hK f h;omega
 have gc5:m5.get f=some (.row ((F.set g t).flatMap dC) 0 false):=(by rw[(r1.2 f (by omega) N).2 (.inr (.inr (.inr (.inr rfl))))];exact gc4);have hB5:Bk K m5 (m.next,73,11) (SC E O ba pa A) q.2:=(by obtain⟨b1,b2,cs5,b3,b4⟩:=r2;exact⟨.inr (.inl rfl),b2,cs5,b3,b4.jO hKm⟩);obtain⟨m6,e1,e2,e3,sid',fv',cs',e4,cs6,e5,e6,e7⟩:=x8j (aH (d+22)) Z m.next fc' (F':=F.set g t) rfl Y hh (by omega) (by have:=r1.1;omega) hKc (hgr u) hB5 gc5 (λ_ h=>absurd rfl h);rw[rb u]at e4;cases e4;rw[hFs]at e1;have g6:GrP K (λj=>j=i) m m6:=⟨by rw[e2];exact u.1,λj o hp=>by rw[e3 j hp (hjc j o)];exact u.2 j o (λh=>h)⟩;refine⟨m6,by rw[r3'];exact e1,g6,hh1,by have:=g6.1;omega,P,_,cs6,e6,hh4.gr g6 (λj o=>by rw[o];exact hh1),?_,?_⟩
 .refine .inr (.inr ⟨f,1,true,false,[],uF hK (by omega) (by rw[Y];decide),by rw[e2];have:=r1.1;omega,by rw[eA];rfl,by rw[iH];exact e7,rfl⟩)
 .obtain⟨b1,b2,cs5,b3,b4⟩:=r2;rw[e5]at b3;cases b3;refine(b4.gr (Q:=λj=>j=i\/j=f) ⟨by omega,λj o hp=>?_⟩ λj o=>?_).jO hKm
  .have:m6.get j=m5.get j:=e3 j (λh=>hp (.inl h)) (λh=>hp (.inr h));rw[this];exact⟨.refl _,λ_=>rfl⟩
  .rcases o with rfl|rfl
   .exact .inl hh
   .exact .inr (.inr (.inr (.inr rfl)))
open Go.Proofs
def xzj(d:Nat){x y:ByteArray}(h:Sl Pe.c A C)(j:C.length<=1000):∃a,aH (d+2) [] P2 [A,.clo sE [.aE [T x,T y]]] mem0=some (I (idxQ (nmQ Pe.nm x) 0 C),a):=by
 obtain⟨a,r⟩:=T4 Pe.len (by omega) (q:=nmQ Pe.nm x) h (by omega) (call:=aH (d+1)) (Z:=[]) (fv:=.clo sE [.aE [T x,T y]]) (λe _ m=>by
  show ∃a,aH (d+1) [] sE ([.agg e.c]++[.aE [T x,T y]]) m=_
  rw[iY,iW,x5y]
  unfold lh bA SL
  obtain⟨M,-,g,-,i⟩:=kR (x:=.agg e.c) (V3 (show e.c.all AV.one=true from rfl)) (m.next,0,2) ⟨m.hp,m.next+1⟩
  have g':M.get (m.next,0,2)=some (.row [T e.nm,I e.role] 0 false):=g
  have b:aD 0 (.aE [T x,T y])=some (.aE [T x,T y]):=rfl
  have f:∀m,aA false 1 (.aE [T x,T y]) m=some (T x):=λ_=>rfl
  simp only[i,cX,aG,bR,aQ g',bC,dE,b,f,xL]
  exact⟨_,rfl⟩) (MM (aH (d+1)) [] 0) (λ_ _ _ _ _ _ _=>rfl) C 0 NN ⟨[],1⟩ 4 rfl (by rw[dF];omega)
 refine⟨a,?_⟩;rw[x4s];unfold jf bA QL sp;simp only[h.len vI,aG,mem0];exact r
def x0b:∃i,prog.info? bK=some i/\i.size=1:=by have:(prog.info? bK).map (·.size)=some 1:=(by kernel_rfl);rw[cE]at this;exact this
def x28(d:Nat){a:AV}{l:List (List UInt8)}(h:Rk K 1 dC m a l):∃r M,Clp dC r l/\aI (aH (d+1)) CX [a] m=some (r,M)/\M.next=m.next/\Gr0 K m M:=
 FA nA XR h λi b=>by have e:nC prog iI nilS none (I 0) (I 0)=some nilS:=(by kernel_rfl);obtain⟨r,f,g⟩:=BH nA vH x0b e b;rw[x47];unfold ju bW RC;simp only[b.len vH,aG,g];exact⟨r,_,f,rfl⟩
def wQ(O E:Int)(W:List Bd)(J:List Pn)(F:List (List UInt8))(X:St10)(a:List UInt8):Int×List (List UInt8)×St10:=
 if(cA a).1=uN then zG O E W J F X (cA a).2.1 else
  if(iO O E W J X ((F.length+1:Nat):Int) a).1≠0 then((iO O E W J X ((F.length+1:Nat):Int) a).1,F,X)else(0,F++[a],(iO O E W J X ((F.length+1:Nat):Int) a).2)
def w8(k:List UInt8):Int:=match jJ k with
 |some (r,_,_)=>r
 |none=>3
def jL(O E:Int)(W:List Bd)(J:List Pn)(C:List Pe)(F:List (List UInt8))(X:St10)(a:ByteArray)(b:List UInt8):Int×List (List UInt8)×St10:=
 match C[(idxQ (nmQ Pe.nm a) 0 C).toNat]? with
 |none=>(6,F,X)
 |some p=>if idxQ (nmQ Pe.nm a) 0 C<0 then(6,F,X)else if lR b≠0 then(lR b,F,X)else if p.role<w8 (cA b).1 then(24,F,X)else wQ O E W J F X b
def Bc.addK{L:Id->Prop}(h:∀j:Id,j.1<m.next->L j->K j){P:List AV}(g:Bc K m P X cs):Bc L m P X cs:=by obtain⟨a,s,p,v,c,f,l,b,d,n,o,e,r,t⟩:=g.ex;exact⟨a,s,p,v,c,f,l,b,⟨d.1,λi=>d.2 (h a b i)⟩,n.addK h,o.addK h,⟨e.1.addK h,e.2⟩,r.addK h,t.addK h⟩
def xhc(d:Nat)(Z:FHs)(Y:Nat)(hK:∀j,K j->j.1<m.next)(hO:SuOK E O ba pa A W J C)(hbl:W.length<=11){f P:Id}{F:List (List UInt8)}(hh:f.2.2=8){M:Mem}(hH:Hk K m f (SC E O ba pa A) F X)(gr:Gr0 K m M)(hMn:M.next=m.next+1)(hF:F.length<=20)(hFt:∀x∈F,x.length<=1000)(hI:InvX W F.length X){by_:ByteArray}{g:List UInt8}(htx:g.length<=1000)(h3:P.1=m.next)(h32:P.2.2=3)(g3:M.get P=some (.row [T by_,Tx g] 0 false)){i:Nat}(hi:i<C.length)(u:Int) :
    ∃m',GU (aH (d+24)) Z m.next (.ptr f 0 0) (.ptr P 0 0) (I (i:Int)) (Tx (cA g).1) (Tx (cA g).2.1) (I u) M Y=some (I (if C[i].role<u then(24,F,X)else wQ O E W J F X g).1,m')/\GrP K (λj=>j=f) m m'/\Hk K m' f (SC E O ba pa A) (if C[i].role<u then(24,F,X)else wQ O E W J F X g).2.1 (if C[i].role<u then(24,F,X)else wQ O E W J F X g).2.2:=by
 have hgr:∀{M:Mem},Gr0 K m M->Hk K M f (SC E O ba pa A) F X:=λh=>hH.gr h (λ_ h=>h.elim) (λh=>h)
 have hH':=hH;obtain⟨hh1,hh2,t,fv,cs,hh3,hh4,hh5,hh6⟩:=hH';obtain⟨l,s,p,v,c,f2,hcs,-⟩:=hh6.ex;subst hcs;have rb:∀{M:Mem},Gr0 K m M->M.get f=some (.row (.ptr t 0 0::fv::[.ptr l 0 0,s,p,v,c]) 0 false):=λh=>by rw[(h.2 f hh2 (λh=>h)).2 hh1];exact hh3
 have lf:∀{M:Mem},Gr0 K m M->aA false 1 (.ptr f 0 1) M=some fv:=λh=>by rw[aQ (rb h)];rfl
 have ls:aA false 1 (.ptr f 0 0) M=some (.ptr t 0 0):=(by rw[aQ (rb gr)];rfl);have nb:∀j,bZ (.ptr j 0 0)=some (.ptr j 0 0):=λ_=>rfl
 have lp:aA false 1 (.ptr t 0 4) M=some A:=(hh4.gr gr (λ_ h=>h.elim)).ldEa;have ix:=hO.e.ix Pe.len hi;have q1:aD 1 (.aE ((C.drop i).flatMap Pe.c))=some (.aE (I C[i].role::(C.drop (i+1)).flatMap Pe.c)):=(by rw[fX hi,dT];rfl);have q2:∀m,aA false 1 (.aE (I C[i].role::(C.drop (i+1)).flatMap Pe.c)) m=some (I C[i].role):=λ_=>rfl
 unfold GU;rw[show(AV.sc (.string ⟨#[102,105,120]⟩))=Tx uN from rfl];simp only[nb,aG,cX,bR,ls,lp,ix,q1,q2,bV];by_cases c1:C[i].role<u
 .simp only[eX c1,aT,aF c1];exact⟨M,rfl,gr.to,hgr gr⟩
 simp only[eY c1,aV,aB c1,oP,aG];unfold wQ;by_cases c2:(cA g).1=uN
 .obtain⟨m',e1,e2,e3⟩:=xla (d+1) Z (λj o=>fN (hK j o) gr.1) hO hbl hh (hgr gr) (by omega) hFt (rest:=(cA g).2.1) (by have:=(F4 g).2;omega);have e1':aH (d+24) Z Q4 [.ptr f 0 0,Tx (cA g).2.1] M=_:=e1;simp only[eX c2,aT,aF c2,e1',aG];exact⟨m',rfl,gr.to.trans e2,e3⟩
 rw[aB c2];generalize hid9:((m.next,Y+43,91):Id)=id9;have h91:id9.1=m.next:=(by rw[<-hid9]);have w:id9.2.2=91:=(by rw[<-hid9]);have hL:∀j:Id,j.1<m.next->(λj=>K j\/j=id9) j->K j:=λj o h=>by
  rcases h with h|h
  .exact h
  .rw[h]at o;omega
 have hw:∀j,K j->(λj=>K j\/j=id9) j:=λj h=>.inl h
 generalize hLd:(λj=>K j\/j=id9)=L at hL hw;have hL9:L id9:=(by rw[<-hLd];exact .inr rfl);have hLm:∀j,L j->j.1<m.next+1:=λj h=>by
  rw[<-hLd]at h;rcases h with h|h
  .have:=hK j h;omega
  .rw[h];omega
 have lcs:aA true 5 (.ptr f 0 2) M=some (.agg [.ptr l 0 0,s,p,v,c]):=(by rw[aQ (rb gr)];rfl);have hc5:([.ptr l 0 0,s,p,v,c]:List AV).all AV.one=true:=(by obtain⟨_,_,_,_,_,_,e,-,-,-,e5,e6,e7,e8⟩:=hh6.ex;cases e;simp[e5.one,e6.1.one,e7.one,e8.one];rfl);obtain⟨M2,n2,g2,k2,hM2⟩:=kY (z:=5) (cs:=gQ) (x:=.agg [.ptr l 0 0,s,p,v,c]) hc5 rfl xq (m.next,Y+19,13) M;have grL:Gr0 L m M:=gr.addK hL;have D:Gr0 L m M2:=jT grL (.inl (bO _)) n2 k2;have gr2K:Gr0 K m M2:=D.jO hw;have hB2:Bk L M2 (m.next,Y+19,13) (SC E O ba pa A) X:=⟨.inr (.inr (.inl rfl)),by show m.next<M2.next;omega,_,g2,(hh6.addK hL).gr D (λ_ h=>h.elim)⟩;have hi3n:P≠(m.next,Y+19,13):=λh=>by rw[h]at h32;simp at h32
 have g32:M2.get P=some (.row [T by_,Tx g] 0 false):=(by rw[k2 _ hi3n];exact g3);have lt2:aA false 1 (.ptr P 0 1) M2=some (Tx g):=(by rw[aQ g32];rfl);have hfl:aM prog iI fv=some (I F.length):=hh5.len vH;have wF:cG ((F.length:Int)+1)=((F.length+1:Nat):Int):=(by rw[bQ];omega);obtain⟨m3,e1,e2,e3⟩:=zd (d+6) Z (λj o=>by have:=hLm j o;omega) hO (hI.ok (by omega) hbl (by omega:12<=d+6+8)) hB2 ((F.length+1:Nat):Int) htx;have e1':aH (d+24) Z wC [.ptr (m.next,Y+19,13) 0 0,Tx g,I ((F.length+1:Nat):Int)] M2=_:=e1
 have gr3:Gr0 L m m3:=⟨iQ D.1 e2.1,λj o hp=>by
  have h1:=D.2 j o hp
  have h2:=e2.2 j (fN o D.1) (by rintro rfl;simp at o)
  exact⟨h1.1.trans h2.1,λhb=>by rw[h2.2 hb,h1.2 hb]⟩⟩
 have H:Gr0 K m m3:=gr3.jO hw;simp only[eY c2,aV,aG,lcs,hM2,lt2,lf gr2K,hfl,dY,wF,e1',gC];generalize hq:iO O E W J X ((F.length+1:Nat):Int) g=q at *
 by_cases c3:q.1=0;case neg=>simp only[eY c3,cF,aT,aF (show q.1≠0 from c3)];exact⟨m3,rfl,H.to,hgr H⟩
 rw[aB (λh=>h c3)];obtain⟨r,M4,hr,hclip,n4,g4⟩:=x28 (d+23) ((hh5.addK hL).gr gr3 (λ_ _ h=>h.elim));have gr4:Gr0 L m M4:=gr3.trans g4;obtain⟨fl3,g33⟩:=SimO.row (e2.2 P (by omega) hi3n).1 g32;obtain⟨fl4,g34⟩:=SimO.row (g4.2 P (by have:=e2.1;omega) (λh=>h)).1 g33;have lt4:aA false 1 (.ptr P 0 1) M4=some (Tx g):=(by rw[aQ g34];rfl);have hlit:∀{R:Type} (id:Id) (m:Mem) (K:AV->Mem->Option R),cQ oM [(0,1,Tx g)] 1 1 id m K=K (.aN [Tx g] 1 true) m:=λid m K=>by rw[VZ];rfl
 have hel:elems M4.get 1 (.aN [Tx g] 1 true)=some (dC g,1):=rfl;have happ:∀{R:Type} (K:AV->Mem->Option R),cJ 1 16 id9 (some (dC g,1)) r M4 K=K (.sref id9 0 0 (F.length+1) 1 true) (M4.new id9 (.row ((F++[g]).flatMap dC) 0 false)):=λK=>hr.app nA (by omega) (by omega) g id9 M4 K
 generalize hM5:M4.new id9 (.row ((F++[g]).flatMap dC) 0 false)=y at happ;have f5:∀j,j≠id9->y.get j=M4.get j:=λj o=>by rw[<-hM5,Mem.dH,aB o]
 have g59:y.get id9=some (.row ((F++[g]).flatMap dC) 0 false):=(by rw[<-hM5,Mem.dH,aF rfl]);have n5:y.next=M4.next:=(by rw[<-hM5];rfl);have gr5:Gr0 L m y:=(by rw[<-hM5];exact xey gr4 (by omega) _);obtain⟨b1,b2,n,b3,b4⟩:=e3;have b3':y.get (m.next,Y+19,13)=some (.row n 0 false):=(by rw[f5 _ (λh=>by rw[<-h]at w;simp at w),(g4.2 (m.next,Y+19,13) b2 (λh=>h)).2 b1];exact b3);have b4':Bc L y (SC E O ba pa A) q.2 n:=(b4.gr g4 (λ_ h=>h.elim)).gr (Q:=λj=>j=id9) ⟨by omega,λj o hp=>by rw[f5 j hp];exact⟨.refl _,λ_=>rfl⟩⟩ (λj o=>by rw[o];exact .inr (.inr (.inr hL9)));obtain⟨hc55,hc5o⟩:n.length=5/\n.all AV.one=true:=(by obtain⟨_,_,_,_,_,_,e,-,-,-,e5,e6,e7,e8⟩:=b4.ex;rw[e];exact⟨rfl,by simp[e5.one,e6.1.one,e7.one,e8.one];rfl⟩);have l55:aA true 5 (.ptr (m.next,Y+19,13) 0 0) y=some (.agg n):=(by obtain⟨_,_,_,_,_,_,e,-⟩:=b4.ex;rw[aQ b3',e];rfl);have N:Gr0 K m y:=gr5.jO hw;have gh5:=rb N;have hst1:∀{R:Type} (K:Mem->Option R),aU 1 (.ptr f 0 1) (.sref id9 0 0 (F.length+1) 1 true) y K=K (y.set f (.row (.ptr t 0 0::.sref id9 0 0 (F.length+1) 1 true::[.ptr l 0 0,s,p,v,c]) 0 false)):=λK=>by rw[lY (z:=1) gh5 rfl (by simp) rfl];rfl
 generalize hM6:y.set f (.row (.ptr t 0 0::.sref id9 0 0 (F.length+1) 1 true::[.ptr l 0 0,s,p,v,c]) 0 false)=M6 at hst1;have gh6:M6.get f=some (.row (.ptr t 0 0::.sref id9 0 0 (F.length+1) 1 true::[.ptr l 0 0,s,p,v,c]) 0 false):=(by rw[<-hM6,Mem.cP,aF rfl]);have hst2:∀{R:Type} (K:Mem->Option R),aU 5 (.ptr f 0 2) (.agg n) M6 K=K (M6.set f (.row (.ptr t 0 0::.sref id9 0 0 (F.length+1) 1 true::n) 0 false)):=λK=>by rw[lY (z:=5) (x:=.agg n) gh6 hc55 (by simp) hc5o];congr 3;show cS (AV.ptr t 0 0::.sref id9 0 0 (F.length+1) 1 true::[.ptr l 0 0,s,p,v,c]) 2 n=_;unfold cS;rw[lV (by simp;omega)];simp
 generalize hM7:M6.set f (.row (.ptr t 0 0::.sref id9 0 0 (F.length+1) 1 true::n) 0 false)=M7 at hst2;have gh7:M7.get f=some (.row (.ptr t 0 0::.sref id9 0 0 (F.length+1) 1 true::n) 0 false):=(by rw[<-hM7,Mem.cP,aF rfl]);have f7:∀j,j≠f->M7.get j=y.get j:=λj o=>by rw[<-hM7,Mem.cP,aB o,<-hM6,Mem.cP,aB o]
 have n7:M7.next=y.next:=(by rw[<-hM7,<-hM6];rfl);have hhn:∀{a b:Nat},f≠(m.next,a,b):=λh=>by rw[h]at hh2;simp at hh2
 have a1:aW (tR (.ptr f 0 1)) (some [],some [(m.next,Y+42,90)])=true:=rJ hhn;have a2:aW (some [],some [(m.next,Y+42,90)]) (tR (.ptr (m.next,Y+19,13) 0 0))=true:=(by simp[aW,tR,kX]);have h9n:(m.next,Y+19,13)≠id9:=λh=>by rw[<-h]at w;simp at w
 have a3:aW (tX (.aN [Tx g] 1 true),tA id9 r) (tR (.ptr (m.next,Y+19,13) 0 0))=true:=(by have:tA id9 r=some [id9]:=(by rcases hr with ⟨rfl,-⟩|rfl<;>rfl);rw[this];simp[aW,tR,tX,kX,h9n]);simp only[eX c3,cN,aV,aG,lf H,hclip,lt4,hlit,hel,happ,l55,hst1,hst2,a1,a2,a3,gD,xF,bD];have g7:GrP K (λj=>j=f) m M7:=⟨by rw[n7];exact N.1,λj o hp=>by rw[f7 j hp];exact N.2 j o (λh=>h)⟩;have hq7:∀j,j=f->lO K j:=λj o=>by rw[o];exact hh1
 refine⟨M7,rfl,g7,hh1,by have:=g7.1;omega,t,_,n,gh7,hh4.gr g7 hq7,?_,?_⟩
 .exact .inr (.inr ⟨id9,0,true,false,[],uF hK (by omega) (by rw[w];decide),by rw[n7,n5,n4];have:=e2.1;omega,by rw[eA];rfl,by rw[iH,f7 _ (λh=>by rw[h]at w;omega)];exact g59,rfl⟩)
 .refine(b4'.gr (Q:=λj=>j=f) ⟨by omega,λj o hp=>by rw[f7 j hp];exact⟨.refl _,λ_=>rfl⟩⟩ (λj o=>by rw[o];exact .inl hh)).jO hw
open Go.Proofs
def ze(d:Nat)(Z:FHs)(hK:∀j,K j->j.1<m.next)(u:SuOK E O ba pa A W J C)(w:W.length<=11){b:Id}{F:List (List UInt8)}(hh:b.2.2=8)(Y:Hk K m b (SC E O ba pa A) F X)(hF:F.length<=20)(D:∀x∈F,x.length<=1000)(hI:InvX W F.length X){by_:ByteArray}{a:List UInt8}(H:a.length<=1000) :
    ∃m',aH (d+25) Z B1 [.ptr b 0 0,.agg [T by_,Tx a]] m=some (I (jL O E W J C F X by_ a).1,m')/\GrP K (λj=>j=b) m m'/\Hk K m' b (SC E O ba pa A) (jL O E W J C F X by_ a).2.1 (jL O E W J C F X by_ a).2.2:=by
 rw[x5z];unfold li bA SK;rw[show(AV.sc (.string ⟨#[32]⟩))=Tx [32]from rfl];obtain⟨l,n1,g1,k1,hM1⟩:=kR (x:=.agg [T by_,Tx a]) rfl (m.next,0,3) ⟨m.hp,m.next+1⟩;have g:Gr0 K m l:=jT (rF m) (.inl (bO _)) n1 k1;have g1':l.get (m.next,0,3)=some (.row [T by_,Tx a] 0 false):=g1;have n:∀{M:Mem},Gr0 K m M->Hk K M b (SC E O ba pa A) F X:=λh=>Y.gr h (λ_ h=>h.elim) (λh=>h)
 have hH':=Y;obtain⟨hh1,hh2,t,fv,cs,hh3,hh4,hh5,hh6⟩:=hH';have rb:∀{M:Mem},Gr0 K m M->M.get b=some (.row (.ptr t 0 0::fv::cs) 0 false):=λh=>by rw[(h.2 b hh2 (λh=>h)).2 hh1];exact hh3
 have ls:aA false 1 (.ptr b 0 0) l=some (.ptr t 0 0):=(by rw[aQ (rb g)];rfl);have nb:∀j,bZ (.ptr j 0 0)=some (.ptr j 0 0):=λ_=>rfl
 have lp:aA false 1 (.ptr t 0 4) l=some A:=(hh4.gr g (λ_ h=>h.elim)).ldEa;obtain⟨mp,hpe⟩:=xzj (d+22) (x:=by_) (y:=⟨a.toArray⟩) u.e u.en;have hpe':eO (aH (d+24)) P2 [A,.clo sE [.ptr (m.next,0,3) 0 0]] l=some (I (idxQ (nmQ Pe.nm by_) 0 C),l):=(by refine wS ?_ hpe rfl;have f1:Go.Ix.frz l.get bI A=some A:=kN _ 4 u.e.bB;have f2:Go.Ix.frz l.get 5 (.ptr (m.next,0,3) 0 0)=some (.aE [T by_,Tx a]):=rG g1' rfl;have f3:Go.Ix.frz l.get bI (.clo sE [.ptr (m.next,0,3) 0 0])=some (.clo sE [.aE [T by_,Tx a]]):=(by show([AV.ptr (m.next,0,3) 0 0].mapM (Go.Ix.frz l.get 5)).map (AV.clo sE)=_;simp only[eI,gX,f2];rfl);simp only[eI,gX,f1,f3];rfl);have lt1:aA false 1 (.ptr (m.next,0,3) 0 1) l=some (Tx a):=(by rw[aQ g1'];rfl);have hck:∀m,aI (aH (d+24)) yF [Tx a] m=some (I (lR a),m):=zg (d+18) (by omega);have L:∀m,aI (aH (d+24)) sB [Tx a,Tx [32]] m=some (.tup [Tx (cA a).1,Tx (cA a).2.1,B (cA a).2.2],m):=ID (d+19) a (by omega);have hfo:∀m,aI (aH (d+24)) vZ [Tx (cA a).1] m=some (.tup [pK (cA a).1,B (jJ (cA a).1).isSome],m):=WU (d+23) _;unfold jL;simp only[hM1,nb,aG,cX,bR,ls,lp,hpe',bV];rcases D3 (nmQ Pe.nm by_) C 0 with ⟨h0,-⟩|⟨i,h0,hi,-⟩
 .rw[h0];simp only[show decide ((-1:Int)<0)=true from rfl,aT];cases C[(-1:Int).toNat]? with
  |none=>exact⟨l,rfl,g.to,n g⟩
  |some p=>simp only[show((-1:Int)<0)from by decide,cM];exact⟨l,rfl,g.to,n g⟩
 rw[h0,MQ,hJ,eJ hi];have N:¬((i:Int)<0):=(by omega);simp only[eY N,aV,aB N,lt1,aG,hck,gC];by_cases c1:lR a=0;case neg=>simp only[eY c1,cF,aT,aF (show lR a≠0 from c1)];exact⟨l,rfl,g.to,n g⟩
 rw[aB (λh=>h c1)];obtain⟨M2,n2,g2,k2,hM2⟩:=kY (U2 (cA a).1).2 (U2 (cA a).1).1 br (m.next,31+5,11) l;have P:Gr0 K m M2:=jT g (.inl (bO _)) n2 k2;have Q:M2.get (m.next,0,3)=some (.row [T by_,Tx a] 0 false):=(by rw[k2 _ (by simp[Prod.ext_iff])];exact g1');have R:M2.next=m.next+1:=(by rw[n2,n1]);unfold ud;simp only[eX c1,cN,aV,aG,L,kU,jU,jV,hfo,hM2];cases hk:jJ (cA a).1 with
 |none=>have o:w8 (cA a).1=3:=(by unfold w8;rw[hk]);rw[o];simp only[wV,aV];exact xhc d Z (31+9) hK u w hh Y P R hF D hI H rfl rfl Q hi 3
 |some kk=>obtain⟨r,nn,f⟩:=kk;have o:w8 (cA a).1=r:=(by unfold w8;rw[hk]);have hfa:=xfb hk;rw[hfa]at g2;have g2':M2.get (m.next,31+5,11)=some (.row [I r,I (nn:Int),.clo f []] 0 false):=g2;rw[o];simp only[Option.isSome_some,aT,cX,bR,aQ g2',bC,dE,aG];exact xhc d Z (31+12) hK u w hh Y P R hF D hI H rfl rfl Q hi r
open Go.Proofs
def InvX.mono{k l:Nat}(h:InvX W k X)(a:k<=l):InvX W l X:=⟨h.L,iQ h.LS a,h.S2,iQ h.V a,h.C,h.Cb,λp b=>iQ (h.f p b) (by omega)⟩
def YP{n1:Nat}:∀(s:List (List UInt8)) (k:Nat) (X:St10),InvX W k X->InvX W (k+s.length) (jR O E W J n1 k s X).2
 |[],k,X,h=>h
 |x::r,k,X,h=>by
  rw[jR];split
  .have:=YP (n1:=n1) r (k+1) X h.up;rw[dN,show k+(r.length+1)=k+1+r.length by omega];exact this
  .split
   .exact(KR h _ x).mono (by simp)
   .have:=YP (n1:=n1) r (k+1) _ (KR (O:=O) (E:=E) (J:=J) h ((k+1:Nat):Int) x);rw[dN,show k+(r.length+1)=k+1+r.length by omega];exact this
structure InvF (bl:List Bd) (n:Nat) (F:List (List UInt8)) (X:St10):Prop where
 len:F.length=n
 t:∀x∈F,x.length<=1000
 x:InvX bl n X
def InvF.zero:InvF W 0 [] X0:=⟨rfl,λx h=>(by cases h),InvX.zero⟩
def ec(W:List Bd)(n:Nat)(F:List (List UInt8))(X:St10)(r:Int×List (List UInt8)×St10):Prop:=(r.1≠0/\r.2=(F,X))\/(r.1=0/\InvF W (n+1) r.2.1 r.2.2)
def x21{n:Nat}{F:List (List UInt8)}(h:InvF W n F X){a:List UInt8}(d:a.length<=1000):ec W n F X (zG O E W J F X a):=by
 unfold zG;split
 .exact .inl ⟨λh=>(by cases h),rfl⟩
 split
 .exact .inl ⟨λh=>(by cases h),rfl⟩
 split
 .exact .inl ⟨λh=>(by cases h),rfl⟩
 split
 .exact .inl ⟨λh=>(by cases h),rfl⟩
 split
 .rename_i c;exact .inl ⟨c,rfl⟩
 .refine .inr ⟨rfl,by rw[eA,mS,h.len];rfl,λx b=>?_,?_⟩
  .rcases iF.mp b with b|b
   .rcases xh5 b with b|rfl
    .exact h.t x b
    .have:=(F4 a).2;omega
   .rw[pS]at b;rw[b];simp
  .have:=YP (O:=O) (E:=E) (J:=J) (n1:=(‹Int›).toNat-1) (F.set ((‹Int›).toNat-1) (cA a).2.1) 0 X0 (InvX.zero (W:=W));rw[mS,h.len,bR]at this;exact this.up
def x13{n:Nat}{F:List (List UInt8)}(h:InvF W n F X){b:List UInt8}(d:b.length<=1000):ec W n F X (wQ O E W J F X b):=by
 unfold wQ;split
 .exact x21 h (by have:=(F4 b).2;omega)
 split
 .rename_i c;exact .inl ⟨c,rfl⟩
 .refine .inr ⟨rfl,by rw[eA,h.len];rfl,λx a=>?_,KR h.x _ b⟩;rcases iF.mp a with a|a
  .exact h.t x a
  .rw[pS]at a;rw[a];exact d
def xfr{n:Nat}{F:List (List UInt8)}(h:InvF W n F X){by_:ByteArray}{a:List UInt8}(b:a.length<=1000):ec W n F X (jL O E W J C F X by_ a):=by
 unfold jL;split
 .exact .inl ⟨λh=>(by cases h),rfl⟩
 split
 .exact .inl ⟨λh=>(by cases h),rfl⟩
 split
 .rename_i c;exact .inl ⟨c,rfl⟩
 split
 .exact .inl ⟨λh=>(by cases h),rfl⟩
 .exact x13 h b
def eT(O E:Int)(W:List Bd)(J:List Pn)(C:List Pe):Nat->List Ent->List (List UInt8)->St10->Int×Int×List (List UInt8)×St10
 |_,[],F,X=>(0,0,F,X)
 |k,x::r,F,X=>if(jL O E W J C F X ⟨x.by_.toArray⟩ x.tx).1≠0 then(((k+1:Nat):Int),jL O E W J C F X ⟨x.by_.toArray⟩ x.tx)else eT O E W J C (k+1) r (jL O E W J C F X ⟨x.by_.toArray⟩ x.tx).2.1 (jL O E W J C F X ⟨x.by_.toArray⟩ x.tx).2.2
abbrev kO(u:Nat):Id->Prop:=λj=>j.1=u/\j.2.2=10
def xyi(d:Nat)(Z:FHs)(u:Nat)(y:∀j,K j->j.1<=u)(n:∀s,K (u,s,10))(hO:SuOK E O ba pa A W J C)(D:W.length<=11){a:AV}{L:List Ent}(ha:Sl Ent.c a L)(hL:L.length<=21)(o:∀x∈L,x.tx.length<=1000){hid:Id}(H:hid.2.2=8) :
    ∀(b:List Ent) (k j:Nat) (m:Mem) (Y:Nat) (F:List (List UInt8)) (X:St10),L.drop k=b->b.length<j->u<m.next->Hk K m hid (SC E O ba pa A) F X->InvF W k F X ->
    ∃p,Y1 (aH (d+25)) Z u j (.ptr hid 0 0) a (I L.length) (I k) m Y=some (.tup [if(eT O E W J C k b F X).2.1≠0 then AV.sc (.pointer none)else .ptr hid 0 0,I (eT O E W J C k b F X).1,I (eT O E W J C k b F X).2.1],p)/\GrP K (λj=>j=hid\/j.1=u) m p /\
     ((eT O E W J C k b F X).2.1=0->Hk K p hid (SC E O ba pa A) (eT O E W J C k b F X).2.2.1 (eT O E W J C k b F X).2.2.2/\InvF W (k+b.length) (eT O E W J C k b F X).2.2.1 (eT O E W J C k b F X).2.2.2):=by
 intro b;induction b with
 |nil=>intro k j m Y F X w e hu N f;obtain⟨j,rfl⟩:=dQ e;have r:¬((k:Int)<(L.length:Int)):=(by have:=gZ.mp w;omega);simp only[Y1];unfold RX tk;simp only[bV,r,bP,aG,aV,eT,ne_eq,not_true_eq_false,cT];exact⟨m,rfl,.refl _ _,λ_=>⟨N,f⟩⟩
 |cons x b ih=>
  intro k j m Y F X w e hu N f;obtain⟨j,rfl⟩:=dQ e;obtain⟨r,he,hd1⟩:=gW w;have hk':(k:Int)<(L.length:Int):=(by omega);have hx:x∈L:=(by rw[<-he];exact fG r);have ix:=ha.ix Ent.len r;have ld:=jF (m:=m) Ent.len (by omega) r;rw[he]at ld;have hw:=iJ k (by omega);obtain⟨M,n1,g1,k1,hM⟩:=kY (z:=2) (cs:=nW) (x:=.agg x.c) rfl rfl (by rw[WE];rfl) (u,Y+4,10) m;have g1':M.get (u,Y+4,10)=some (.row [Tx x.by_,Tx x.tx] 0 false):=g1;have P:aA true 2 (.ptr (u,Y+4,10) 0 0) M=some (.agg [T ⟨x.by_.toArray⟩,Tx x.tx]):=(by rw[aQ g1'];rfl);have gM:GrP K (λj=>j=(u,Y+4,10)) m M:=jT (.refl _ _) (.inr rfl) n1 k1;have Q:=N.gr gM (λj e=>by rw[e];exact .inr (.inr (.inr (n _)))) (λh=>by rw[h]at H;simp at H);obtain⟨m1,e1,e2,e3⟩:=ze d Z (K:=K) (λj e=>by have:=y j e;omega) hO D H Q (by have:=f.len;have:=w▸MD (l:=L) (i:=k);simp at this;omega) f.t (by rw[f.len];exact f.x) (by_:=⟨x.by_.toArray⟩) (o x hx);have g:=xfr (O:=O) (E:=E) (J:=J) (C:=C) f (by_:=⟨x.by_.toArray⟩) (o x hx);have gT:GrP K (λj=>j=hid\/j.1=u) m m1:=(gM.weak λj e=>.inr (by rw[e])).trans (e2.weak λj e=>.inl e);simp only[Y1];unfold RX;simp only[bV,hk',bG,aG,aT,ix,ld,hM,P,e1,gC];have R:eT O E W J C k (x::b) F X=if(jL O E W J C F X ⟨x.by_.toArray⟩ x.tx).1≠0 then(((k+1:Nat):Int),jL O E W J C F X ⟨x.by_.toArray⟩ x.tx)else eT O E W J C (k+1) b (jL O E W J C F X ⟨x.by_.toArray⟩ x.tx).2.1 (jL O E W J C F X ⟨x.by_.toArray⟩ x.tx).2.2:=rfl
  rw[R];generalize jL O E W J C F X ⟨x.by_.toArray⟩ x.tx=q at *
  by_cases c:q.1=0
  .have hI2:InvF W (k+1) q.2.1 q.2.2:=by
    rcases g with ⟨h,-⟩|⟨-,h⟩
    .exact absurd c h
    .exact h
   obtain⟨p,f1,f2,f3⟩:=ih (k+1) j m1 (Y+15) q.2.1 q.2.2 hd1 (by simp at e;omega) (by have:=e2.1;omega) e3 hI2;simp only[eX c,cN,aV,dY,aG,hw,f1];rw[show(if q.1≠0 then(((k+1:Nat):Int),q)else eT O E W J C (k+1) b q.2.1 q.2.2)=eT O E W J C (k+1) b q.2.1 q.2.2 from aB (λh=>h c)];refine⟨p,rfl,gT.trans f2,λh=>?_⟩;have:=f3 h;rw[dN,show k+(b.length+1)=k+1+b.length by omega];exact this
  .simp only[eY c,cF,aT,dY,aG,hw];rw[show(if q.1≠0 then(((k+1:Nat):Int),q)else eT O E W J C (k+1) b q.2.1 q.2.2)=(((k+1:Nat):Int),q)from aF c];refine⟨m1,by rw[aF (show q.1≠0 from c)],gT,λh=>absurd h c⟩
end Go.Ix
namespace Go.Ix
open Go.Proofs
variable{ba pa A:AV}{W:List Bd}{J:List Pn}{C:List Pe}{E O:Int}{m:Mem}{X:St10}{cs:List AV}
def lM{a b:Int}(h:iN a b=0):a=0/\b=0:=by
 unfold iN at h;split at h
 .rename_i c;exact⟨c,h⟩
 .rename_i c;exact absurd h c
def YM{b:Bool}(h:rgE b=0):b=true:=by
 cases b
 .cases h
 .rfl
def ce{α:Type}{f:List ByteArray->α->Int}{nm:α->ByteArray}:∀{l:List α} {b:List ByteArray},jK f nm b l=0->∀x∈l,∃d,f d x=0
 |[],_,_,x,a=>by cases a
 |y::r,b,h,x,a=>by
  rw[jK]at h;obtain⟨e,g⟩:=lM h;rcases dW.mp a with rfl|a
  .exact⟨b,e⟩
  .exact ce g x a
def xn1(f:Sl Bd.c ba W)(g:Sl Pn.c pa J)(j:Sl Pe.c A C)(h:lI E O W J C=0):SuOK E O ba pa A W J C/\W.length<=6/\J.length<=8/\C.length<=10:=by
 unfold lI at h;split at h;case isFalse=>cases h
 rename_i b;split at h
 .cases h
 rename_i w;obtain⟨o,h⟩:=lM h;split at h
 .cases h
 rename_i x;obtain⟨r,h⟩:=lM h;split at h
 .cases h
 split at h
 .cases h
 rename_i y D;rw[cI]at b;have m:1<=E/\E<=10000:=(by have:=b.1;unfold wi at this;simpa using this);have n:0<=O/\O<=2048:=(by have:=b.2;unfold wi at this;simpa using this);have d:∀(i:Nat) (a:i<W.length),polyE W[i].cs=0/\wi W[i].th 0 1000000=true:=λi a=>by obtain⟨t,e⟩:=ce o W[i] (fG a);unfold wU at e;obtain⟨-,e⟩:=lM e;obtain⟨e,u⟩:=lM e;exact⟨e,YM u⟩
 refine⟨⟨f,g,j,by omega,by omega,by omega,n,m,λi a=>?_,λi a=>(d i a).1,λp l=>?_⟩,by omega,by omega,by omega⟩
 .have:=(d i a).2;unfold wi at this;exact sA this
 .obtain⟨t,e⟩:=ce r p l;unfold rZ at e;obtain⟨-,e⟩:=lM e;exact YM e
def xjy(a:Id):cY yb [(0,1,.ptr a 0 0),(2,5,.agg [.ptr a 0 0,nilS,nilS,nilS,nilS])]=some (.agg [.ptr a 0 0,nilS,.ptr a 0 0,nilS,nilS,nilS,nilS]):=by kernel_rfl
def bM(E O:Int)(W:List Bd)(J:List Pn)(C:List Pe)(L:List Ent):Int×Int×List (List UInt8)×St10:=
 if lI E O W J C≠0 then(0,lI E O W J C,[],X0)else if 40<L.length then(0,8,[],X0)else eT O E W J C 0 L [] X0
def yv{K0:Id->Prop}(d:Nat)(Z:FHs)(y:Sl Bd.c ba W)(D:Sl Pn.c pa J)(F:Sl Pe.c A C)(u:W.length<=1000)(H:J.length<=1000)(he:C.length<=1000)(M:∀x∈W,x.nm.size<=1000/\x.cs.length<=1000)(N:∀x∈J,x.nm.size<=1000)(P:∀x∈C,x.nm.size<=1000){a:AV}{L:List Ent}(ha:Sl Ent.c a L)(hL:L.length<=21\/40<L.length)(Q:∀x∈L,x.tx.length<=1000)(m:Mem)(l:∀j,K0 j->j.1<m.next) :
    ∃g,aH (d+26) Z qX [.agg [I E,I O,ba,pa,A],a] m=some (.tup [if(bM E O W J C L).2.1≠0 then AV.sc (.pointer none)else .ptr (m.next+1,6,8) 0 0,I (bM E O W J C L).1,I (bM E O W J C L).2.1],g)/\m.next<g.next/\Gr0 K0 m g /\
     ((bM E O W J C L).2.1=0->SuOK E O ba pa A W J C/\W.length<=6/\Hk (λj=>K0 j\/kO m.next j) g (m.next+1,6,8) (SC E O ba pa A) (bM E O W J C L).2.2.1 (bM E O W J C L).2.2.2/\InvF W L.length (bM E O W J C L).2.2.1 (bM E O W J C L).2.2.2):=by
 rw[x5p];unfold kr bA RW;have n:(AV.agg [I E,I O,ba,pa,A]).cells.all AV.one=true:=(by show([I E,I O,ba,pa,A]:List AV).all AV.one=true;simp[y.one,D.one,F.one]);obtain⟨b,X,g1,k1,hM1⟩:=kR (x:=.agg [I E,I O,ba,pa,A]) n (m.next,0,2) ⟨m.hp,m.next+1⟩;have g1':b.get (m.next,0,2)=some (.row (SC E O ba pa A) 0 false):=g1;have l5:aA true 5 (.ptr (m.next,0,2) 0 0) b=some (.agg [I E,I O,ba,pa,A]):=(by rw[aQ g1'];rfl);have n1':b.next=m.next+1:=X;have o:Gr0 K0 m b:=jT (rF m) (.inl (bO _)) X k1;have Y:∀m,aI (aH (d+25)) R6 [.agg [I E,I O,ba,pa,A]] m=some (I (lI E O W J C),m):=xl4 (d+19) y D F u H he M N P;have e:=ha.len K4;unfold bM;simp only[hM1,l5,aG,Y,gC];by_cases i:lI E O W J C=0;case neg=>simp only[eY i,cF,aT,aF (show lI E O W J C≠0 from i)];exact⟨b,rfl,by omega,o,λh=>absurd h i⟩
 rw[aB (show ¬(lI E O W J C≠0)from λh=>h i)];simp only[eX i,cN,aV,e,aG,iC];by_cases c2:40<L.length
 .have c2':((L.length:Int) > 40):=(by omega);simp only[eX c2',aT,aF c2];exact⟨b,by rw[aF (by decide:(8:Int)≠0)],by omega,o,λh=>by cases h⟩
 have c2':¬((L.length:Int) > 40):=(by omega);rw[aB c2];obtain⟨hO,hbl,-,-⟩:=xn1 y D F i;obtain⟨f,t,g2,k2,hM2⟩:=kR (x:=.agg [.ptr (m.next,0,2) 0 0,nilS,.ptr (m.next,0,2) 0 0,nilS,nilS,nilS,nilS]) rfl (b.next,6,8) ⟨b.hp,b.next+1⟩;have yS:aH (d+25) Z DG [.ptr (m.next,0,2) 0 0] b=some (.ptr (b.next,6,8) 0 0,f):=(by rw[x5r];unfold ku bW RZ;simp only[VW,xu,xjy,aG,bR,hM2]);have g22:f.get (m.next,0,2)=some (.row (SC E O ba pa A) 0 false):=by rw[k2 _ (λh=>by simp[Prod.ext_iff]at h)];exact g1'
 have p:SpK (λj=>K0 j\/kO m.next j) f (SC E O ba pa A) (m.next,0,2):=⟨by show m.next<f.next;rw[t];show m.next<b.next+1;omega,⟨.inl rfl,λh=>by
  rcases h with h|h
  .have:=l _ h;simp at this
  .have:=h.2;simp at this⟩,false,.of g22⟩
 have hH:Hk (λj=>K0 j\/kO m.next j) f (b.next,6,8) (SC E O ba pa A) [] X0:=⟨.inl rfl,by rw[t];exact mH _,(m.next,0,2),nilS,_,g2,p,.inl ⟨rfl,rfl⟩,p.book0⟩
 obtain⟨g,e1,r,w⟩:=xyi (K:=λj=>K0 j\/kO m.next j) d Z m.next (λj R=>by
  rcases R with h|h
  .exact Nat.le_of_lt (l j h)
  .exact Nat.le_of_eq h.1) (λs=>.inr ⟨rfl,rfl⟩) hO (by omega) ha (by omega) Q (hid:=(b.next,6,8)) rfl L 0 NN f (14+3) [] X0 rfl (by rw[dF];omega) (by rw[t];show m.next<b.next+1;omega) hH InvF.zero
 rw[bR]at w;unfold tj;simp only[eY c2',aV,yS,aG,e,bR];rw[n1']at e1 w;rw[n1'];have gr2:Gr0 (λj=>K0 j\/kO m.next j) m f:=jT ((jT (rF m) (.inl (bO _)) X k1).trans (rF b)) (.inl (by show m.next<=b.next;omega)) t k2;have hn2:f.next=m.next+2:=(by rw[t];show b.next+1=_;omega);have r:=r;refine⟨g,e1,by have:=r.1;omega,?_,λh=>⟨hO,hbl,(w h).1,(w h).2⟩⟩;refine GrP.jO (L:=K0) (K:=λj=>K0 j\/kO m.next j) ⟨by have:=r.1;omega,λj R H=>?_⟩ (λj h=>.inl h);have q1:=gr2.2 j R H
 have q2:=r.2 j (by omega) (by
  rintro(h|h)
  .have:j.1=b.next:=by rw[h]
   omega
  .omega)
 exact⟨q1.1.trans q2.1,λu=>by rw[q2.2 u,q1.2 u]⟩
def xkq(d:Nat)(Z:FHs)(n:Sl Bd.c ba W)(o:Sl Pn.c pa J)(p:Sl Pe.c A C)(r:W.length<=1000)(t:J.length<=1000)(u:C.length<=1000)(f:∀x∈W,x.nm.size<=1000/\x.cs.length<=1000)(g:∀x∈J,x.nm.size<=1000)(i:∀x∈C,x.nm.size<=1000){a:AV}{L:List Ent}(w:Sl Ent.c a L)(y:L.length<=21\/40<L.length)(l:∀x∈L,x.tx.length<=1000)(m:Mem) :
    ∃b,aH (d+26) Z qX [.agg [I E,I O,ba,pa,A],a] m=some (.tup [if(bM E O W J C L).2.1≠0 then AV.sc (.pointer none)else .ptr (m.next+1,6,8) 0 0,I (bM E O W J C L).1,I (bM E O W J C L).2.1],b) /\
     ((bM E O W J C L).2.1=0->SuOK E O ba pa A W J C/\W.length<=6/\Hk (kO m.next) b (m.next+1,6,8) (SC E O ba pa A) (bM E O W J C L).2.2.1 (bM E O W J C L).2.2.2/\InvF W L.length (bM E O W J C L).2.2.1 (bM E O W J C L).2.2.2):=by
 obtain⟨b,F,-,-,e⟩:=yv (K0:=λ_=>False) (E:=E) (O:=O) d Z n o p r t u f g i w y l m (λj h=>h.elim);exact⟨b,F,λh=>⟨(e h).1,(e h).2.1,(e h).2.2.1.jO (λj D=>.inr D) rfl,(e h).2.2.2⟩⟩
def xv9{l:List UInt8}(h:ZE l=true){c:UInt8}(e:c=10\/c=32):c∉l:=by
 have b:∀(k:Nat) (l:List UInt8),pA k l=true->c∉l:=by
  intro k l;induction l generalizing k with
  |nil=>simp
  |cons x l g=>
   intro h;unfold pA at h;rw[cI]at h;intro a;rcases dW.1 a with rfl|a
   .have d:=h.1;rcases e with rfl|rfl<;>(unfold LB at d;cases f:decide (0<k)<;>rw[f]at d<;>exact absurd d (by decide))
   .exact g (k+1) h.2 a
 unfold ZE nmOK at h;simp only[cI]at h;exact b 0 _ h.2
end Go.Ix
namespace Go.Ix
open Go.Proofs
variable{ba pa A:AV}{W:List Bd}{J:List Pn}{C:List Pe}{E O:Int}{X:St10}
def xce:∀(l r:List Ent) (k:Nat) (F:List (List UInt8)) (X:St10),(eT O E W J C k l F X).2.1=0->eT O E W J C k (l++r) F X=eT O E W J C (k+l.length) r (eT O E W J C k l F X).2.2.1 (eT O E W J C k l F X).2.2.2
 |[],r,k,F,X,_=>rfl
 |x::l,r,k,F,X,h=>by
  rw[iY];simp only[eT]at h ⊢;by_cases c:(jL O E W J C F X ⟨x.by_.toArray⟩ x.tx).1=0
  .rw[aB (λh=>h c)]at h ⊢;rw[aB (λh=>h c),xce l r _ _ _ h,dN,show k+1+l.length=k+(l.length+1) by omega]
  .rw[aF c]at h;exact absurd h c
def JS{s:ByteArray}{l:List ByteArray}(h:namedM s l=0):nmOK s=true/\∀y∈l,iB y s=false:=by
 unfold namedM at h;cases a:nmOK s with
 |false=>rw[a]at h;cases h
 |true=>
  refine⟨rfl,λy b=>?_⟩;rw[a]at h;cases d:iB y s with
  |false=>rfl
  |true=>have:l.any (λy=>iB y s)=true:=H2.mpr ⟨y,b,d⟩;rw[this]at h;cases h
def EV{α:Type}{f:List ByteArray->α->Int}{nm:α->ByteArray}:∀{l:List α} {b:List ByteArray},jK f nm b l=0->∀(i:Nat) (a:i<l.length),f (b++(l.take i).map nm) l[i]=0
 |[],_,_,i,a=>by simp at a
 |y::r,b,h,i,a=>by
  rw[jK]at h;obtain⟨d,e⟩:=lM h;cases i with
  |zero=>simpa using d
  |succ i=>have:=EV e i (by simpa using a);simpa using this
structure NmOK (bl:List Bd) (pl:List Pn) (C:List Pe):Prop where
 e:∀p∈C,nmOK p.nm=true
 p:∀(i:Nat) (hi:i<pl.length),nmOK pl[i].nm=true/\idxQ (nmQ Pn.nm pl[i].nm) 0 pl=i
 b:∀(i:Nat) (hi:i<bl.length),nmOK bl[i].nm=true/\idxQ (nmQ Bd.nm bl[i].nm) 0 bl=i
def KI{α:Type}{q:α->Bool}:∀{l:List α} {i:Nat} (k:Int) (a:i<l.length),q l[i]=true->(∀(j:Nat) (b:j<l.length),j<i->q l[j]=false)->idxQ q k l=k+i
 |[],i,k,a,_,_=>by simp at a
 |y::r,i,k,a,d,e=>by
  cases i with
  |zero=>have h1':q y=true:=d;rw[idxQ,h1'];simp
  |succ i=>
   have g:q y=false:=e 0 (by simp) (by omega);rw[idxQ,g]
   have:=KI (l:=r) (i:=i) (k+1) (by simpa using a) (by simpa using d) (λj b f=>by
    have:=e (j+1) (by simpa using b) (by omega)
    simpa using this)
   show idxQ q (k+1) r=_;rw[this];omega
def XY(h:lI E O W J C=0):NmOK W J C:=by
 unfold lI at h;split at h;case isFalse=>cases h
 split at h
 .cases h
 obtain⟨g,h⟩:=lM h;split at h
 .cases h
 obtain⟨m,h⟩:=lM h;split at h
 .cases h
 split at h
 .cases h
 have b:∀{α:Type} {nm:α->ByteArray} {l:List α},(∀(i:Nat) (a:i<l.length),namedM (nm l[i]) ((l.take i).map nm)=0)->∀(i:Nat) (a:i<l.length),nmOK (nm l[i])=true/\idxQ (nmQ nm (nm l[i])) 0 l=i:=by
  intro α nm l f i a;obtain⟨n,o⟩:=JS (f i a);refine⟨n,?_⟩
  have:=KI (q:=nmQ nm (nm l[i])) (l:=l) (i:=i) 0 a (by unfold nmQ iB;simp) (λj r d=>by
   refine o (nm l[j]) (fF.mpr ⟨l[j],?_,rfl⟩)
   rw[vB]
   exact⟨j,by rw[oH];omega,by rw[V8]⟩)
  rw[this];omega
 refine⟨λp e=>?_,b λi a=>?_,b λi a=>?_⟩
 .obtain⟨i,a,rfl⟩:=vB.mp e;have:=EV h i a;unfold xX at this;exact(JS (lM this).1).1
 .have:=EV m i a;unfold rZ at this;rw[iW]at this;exact(lM this).1
 .have:=EV g i a;unfold wU at this;rw[iW]at this;exact(lM this).1
def xY{L:List Ent}(h:(bM E O W J C L).2.1=0):lI E O W J C=0/\L.length<=40/\(eT O E W J C 0 L [] X0).2.1=0/\bM E O W J C L=eT O E W J C 0 L [] X0:=by
 unfold bM at h ⊢;by_cases a:lI E O W J C=0
 .rw[aB (λh=>h a)]at h ⊢;by_cases b:40<L.length
  .rw[aF b]at h;cases h
  .rw[aB b]at h ⊢;exact⟨a,by omega,h,rfl⟩
 .rw[aF a]at h;exact absurd h a
def xcb{L:List Ent}(a:lI E O W J C=0)(b:L.length<=40):bM E O W J C L=eT O E W J C 0 L [] X0:=by unfold bM;rw[aB (λh=>h a),aB (by omega)]
end Go.Ix
namespace Go.Ix
open Go.Proofs
variable{W:List Bd}{J:List Pn}{C:List Pe}{E O:Int}{X:St10}{P:St10->Prop}
def x1l(d:∀X b a,P X->P (F1 O E W J X b a).2){b:Int}{t:List UInt8}(h:P X):P (iO O E W J X b t).2:=by
 unfold iO;split
 .exact h
 split
 .exact h
 split
 .exact h
 split
 .exact h
 .exact d _ _ _ h
def YO(a:∀X d t,P X->P (iO O E W J X d t).2)(b:Nat):∀(s:List (List UInt8)) (k:Nat) (X:St10),P X->P (jR O E W J b k s X).2
 |[],_,_,h=>h
 |x::r,k,X,h=>by
  rw[jR];split
  .exact YO a b r _ _ h
  .split
   .exact a _ _ _ h
   .exact YO a b r _ _ (a _ _ _ h)
def xfp(e:P X0)(d:∀X b t,P X->P (iO O E W J X b t).2){F:List (List UInt8)}{a:ByteArray}{f:List UInt8}(h:P X):P (jL O E W J C F X a f).2.2:=by
 unfold jL;split
 .exact h
 split
 .exact h
 split
 .exact h
 split
 .exact h
 unfold wQ;split
 .unfold zG;split
  .exact h
  split
  .exact h
  split
  .exact h
  split
  .exact h
  split
  .exact h
  .exact YO d _ _ _ _ e
 split
 .exact h
 .exact d _ _ _ h
def xcc(a:P X0)(b:∀X d t,P X->P (iO O E W J X d t).2):∀(L:List Ent) (k:Nat) (F:List (List UInt8)) (X:St10),P X->P (eT O E W J C k L F X).2.2.2
 |[],_,_,_,h=>h
 |x::r,k,F,X,h=>by
  rw[eT];split
  .exact xfp a b h
  .exact xcc a b r _ _ _ (xfp a b h)
def xuy(b:P X0)(e:∀X d a,P X->P (F1 O E W J X d a).2)(L:List Ent):P (bM E O W J C L).2.2.2:=by
 unfold bM;split
 .exact b
 split
 .exact b
 .exact xcc b (λ_ _ _ h=>x1l e h) _ _ _ _ b
structure InvSP (pl:List Pn) (X:St10):Prop where
 Ln:X.L.length<=12
 L:∀(i:Nat) (h:i<X.L.length),fstE [namedM X.L[i].nm ((X.L.take i).map Scene.nm),rgE (wi X.L[i].day 0 100000&&wi X.L[i].bl (-100000) 100000)]=0/\notNew (X.L.take i) X.L[i].day=false
 S:∀(i:Nat) (h:i<X.S.length),(0<=X.S[i].pt/\X.S[i].pt<pl.length/\0<=X.S[i].a/\X.S[i].a<X.S[i].b/\X.S[i].b<X.L.length)/\(X.S.take i).any (smP X.S[i])=false
def InvSP.zero:InvSP J X0:=⟨by decide,λi h=>(by cases h),λi h=>(by cases h)⟩
def x2k(X:St10)(o:Int)(a:Act10)(h:InvSP J X):InvSP J (F1 O E W J X o a).2:=by
 have same:∀{Y:St10},Y.L=X.L->Y.S=X.S->InvSP J Y:=λ{Y} j m=>(by obtain⟨L,S,V,C⟩:=Y;obtain⟨R,Z,V',C'⟩:=X;dsimp only at j m;subst j m;exact⟨h.Ln,h.L,h.S⟩);cases a with
 |scene n d b=>
  show InvSP J (sU X n d b).2;unfold sU;dsimp only
  split
  .exact h
  rename_i D;split
  .exact h
  rename_i t;split
  .exact h
  rename_i r;have P:=h.Ln;refine⟨by simp;omega,λi g=>?_,λi g=>?_⟩
  .dsimp only at g ⊢;by_cases c:i<X.L.length
   .rw[List.getElem_append_left c,LY (by omega)];exact h.L i c
   .have:i=X.L.length:=(by rw[eA]at g;simp at g;omega);subst this;rw[MF (bO _),List.take_left];simp only[LV,xic];exact⟨by simpa using t,by simpa using r⟩
  .obtain⟨j,m⟩:=h.S i g;refine⟨⟨j.1,j.2.1,j.2.2.1,j.2.2.2.1,?_⟩,m⟩;have Q:X.S[i].b<(X.L.length:Int):=j.2.2.2.2;show X.S[i].b<(((X.L++[(⟨⟨n.toArray⟩,d,b⟩:Scene)]).length:Nat):Int);rw[eA];omega
 |pair p a b f=>
  show InvSP J (sV J X p a b f).2;unfold sV;dsimp only
  split
  .exact h
  rename_i D;split
  .exact h
  rename_i t;split
  .exact h
  rename_i r;split
  .exact h
  refine⟨h.Ln,h.L,λi g=>?_⟩;dsimp only at g ⊢;by_cases c:i<X.S.length
  .rw[List.getElem_append_left c,LY (by omega)];exact h.S i c
  .have:i=X.S.length:=(by rw[eA]at g;simp at g;omega);subst this;rw[MF (bO _),List.take_left];simp only[LV,xic];have F:=KH (q:=nmQ Pn.nm ⟨p.toArray⟩) (l:=J) (by omega);have H:=KH (q:=nmQ Scene.nm ⟨b.toArray⟩) (l:=X.L) (by omega);exact⟨⟨by omega,F,by omega,by omega,H⟩,by simpa using r⟩
 |corr s f=>
  show InvSP J (zC X s f).2;unfold zC;dsimp only
  split
  .exact h
  split
  .exact h
  have u:∀(i f:Int) (p:OPr),(oE i f p).pt=p.pt/\(oE i f p).a=p.a/\(oE i f p).b=p.b:=λi f p=>by
   unfold oE;split
   .exact⟨rfl,rfl,rfl⟩
   .split<;>exact⟨rfl,rfl,rfl⟩
  refine⟨h.Ln,h.L,λi g=>?_⟩;dsimp only at g ⊢;have hi':i<X.S.length:=(by simpa using g);obtain⟨j,m⟩:=h.S i hi';rw[G9];obtain⟨w,x,A⟩:=u (idxQ (nmQ Scene.nm ⟨s.toArray⟩) 0 X.L) f X.S[i];refine⟨by rw[w,x,A];exact j,?_⟩;rw[<-MB,List.any_map];rw[<-m];congr 1;funext y;obtain⟨K,M,N⟩:=u (idxQ (nmQ Scene.nm ⟨s.toArray⟩) 0 X.L) f y;show smP _ _=smP _ _;unfold smP;rw[w,x,A,K,M,N]
 |level p s v e=>
  show InvSP J (zB J X o p s v e).2;unfold zB;dsimp only
  split
  .exact h
  split
  .exact h
  split
  .exact h
  .exact same rfl rfl
 |conf b=>
  show InvSP J (zD O E W J X b).2;unfold zD;dsimp only
  split
  .exact h
  split
  .exact h
  .exact same rfl rfl
 |clos b=>
  show InvSP J (zE O E W J X b).2;unfold zE;dsimp only
  split
  .exact h
  split
  .exact h
  .exact same rfl rfl
def xux(L:List Ent):InvSP J (bM E O W J C L).2.2.2:=xuy .zero (λX b a h=>x2k X b a h) L
def mA(s:Scene):List UInt8:=kwS++32::(s.nm.data.toList++32::(dI s.day++32::dI s.bl))
def uC(J:List Pn)(L:List Scene)(p:OPr):List UInt8:=kwP++32::(((J[p.pt.toNat]?).map λx=>x.nm.data.toList).getD []++32::(((L[p.a.toNat]?).map λx=>x.nm.data.toList).getD []++32::(((L[p.b.toNat]?).map λx=>x.nm.data.toList).getD []++32::dI p.f)))
def xZ{s:ByteArray}(h:nmOK s=true){c:UInt8}(a:c=10\/c=32):c∉s.data.toList:=by refine xv9 (l:=s.data.toList) ?_ a;unfold ZE;exact h
def qU{s:ByteArray}(h:nmOK s=true):s.data.toList≠[]/\s.data.toList.length<=12:=by unfold nmOK at h;simp only[cI,mR]at h;have:s.data.toList.length=s.size:=pV;refine⟨λe=>?_,by omega⟩;rw[e]at this;have:(0:Nat)=s.size:=this;omega
def cr(n:Int)(h:n.natAbs<=100000):kF (dI n) 9=some n/\(32:UInt8)∉dI n/\(10:UInt8)∉dI n/\dI n≠[]/\(dI n).length<=21:=by
 have b:kF (dI n) 9=some n:=xwg (by omega) (by omega) (by omega);have f:(lW (dI n)).length<=9:=by
  have:=JR (n:=n) (by omega) (by omega) 9;rw[b]at this;by_cases c:(lW (dI n)).length<=9
  .exact c
  .rw[aB c]at this;cases this
 have a:∀u,u<10 ^ 20->(10:UInt8)∉eW 20 u/\eW 20 u≠[]:=λu e=>by have d:=F2 20 u (by omega) e;refine⟨λh=>?_,d.ne⟩;have:=dJ.mp d.all _ h;exact absurd this (by decide)
 refine⟨b,x2t n (by omega) (by omega),?_,?_,F3 n⟩
 .unfold dI;split
  .intro h;rcases dW.mp h with h|h
   .cases h
   .exact(a _ (by omega)).1 h
  .exact(a _ (by omega)).1
 .unfold dI;split
  .exact λh=>by cases h
  .exact(a _ (by omega)).2
def x1j{num:Int}{s:Scene}(b:nmOK s.nm=true)(y:0<=s.day/\s.day<=100000)(A:-100000<=s.bl/\s.bl<=100000):iO O E W J X num (mA s)=sU X s.nm.data.toList s.day s.bl/\lR (mA s)=0:=by
 obtain⟨m,C⟩:=qU b;obtain⟨n,o,p,r,D⟩:=cr s.day (by omega);obtain⟨t,u,w,x,F⟩:=cr s.bl (by omega);have d:=xZ b (c:=32) (.inr rfl);have e:=xZ b (c:=10) (.inl rfl);have a:cA (mA s)=(kwS,s.nm.data.toList++32::(dI s.day++32::dI s.bl),true):=U6 _ (by decide);have g:jJ kwS=some (2,3,B3):=rfl;have f:cR 32 (s.nm.data.toList++32::(dI s.day++32::dI s.bl))=[s.nm.data.toList,dI s.day,dI s.bl]:=(by rw[zF _ d,zF _ o,EY u]);have i:lR (mA s)=0:=by
  unfold lR;rw[a,aB,aB,aB]
  .rw[g];rintro⟨h,-⟩;cases h
  .rintro(h|h)
   .unfold mA at h;simp only[iF,dW]at h;rcases h with h|h|h|h|h|h|h
    .revert h;decide
    .cases h
    .exact e h
    .cases h
    .exact p h
    .cases h
    .exact w h
   .cases h
  .unfold mA;simp only[eA,dN];have:kwS.length=5:=rfl;omega
 refine⟨?_,i⟩;unfold iO;rw[aB (λh=>h i),a];dsimp only
 rw[g];dsimp only
 rw[f,aB (by
  rintro(h|h)
  .exact h rfl
  .simp only[dW,wY,or_false]at h
   rcases h with h|h|h
   .exact m h.symm
   .exact r h.symm
   .exact x h.symm)]
 have j:rY kwS [s.nm.data.toList,dI s.day,dI s.bl]=some (.scene s.nm.data.toList s.day s.bl):=(by unfold rY;rw[aF rfl];have:eU 9 [dI s.day,dI s.bl]=some [s.day,s.bl]:=JQ t (pre:=[dI s.day]) (l:=[s.day]) (JQ n (pre:=[]) (l:=[]) rfl);show vV (.scene s.nm.data.toList) (eU 9 [dI s.day,dI s.bl])=_;rw[this];rfl);rw[j];rfl
end Go.Ix
namespace Go.Ix
open Go.Proofs
variable{W:List Bd}{J:List Pn}{C:List Pe}{E O:Int}{X:St10}
def x1k{num:Int}{a b c:ByteArray}{f:Int}(g:nmOK a=true)(i:nmOK b=true)(j:nmOK c=true)(N:-100000<=f/\f<=100000){t:List UInt8}(m:t=kwP++32::(a.data.toList++32::(b.data.toList++32::(c.data.toList++32::dI f)))) :
    iO O E W J X num t=sV J X a.data.toList b.data.toList c.data.toList f/\lR t=0/\(cA t).1=kwP:=by
 obtain⟨C,P⟩:=qU g;obtain⟨D,Q⟩:=qU i;obtain⟨F,R⟩:=qU j;obtain⟨H,K,L,M,Y⟩:=cr f (by omega);have n:=xZ g (c:=32) (.inr rfl);have o:=xZ g (c:=10) (.inl rfl);have p:=xZ i (c:=32) (.inr rfl);have r:=xZ i (c:=10) (.inl rfl);have u:=xZ j (c:=32) (.inr rfl);have w:=xZ j (c:=10) (.inl rfl);have d:cA t=(kwP,a.data.toList++32::(b.data.toList++32::(c.data.toList++32::dI f)),true):=(by rw[m];exact U6 _ (by decide));have y:jJ kwP=some (2,4,B2):=rfl;have x:cR 32 (a.data.toList++32::(b.data.toList++32::(c.data.toList++32::dI f)))=[a.data.toList,b.data.toList,c.data.toList,dI f]:=(by rw[zF _ n,zF _ p,zF _ u,EY K]);have e:lR t=0:=by
  unfold lR;rw[d,aB,aB,aB]
  .rw[y];rintro⟨h,-⟩;cases h
  .rintro(h|h)
   .rw[m]at h;simp only[iF,dW]at h;rcases h with h|h|h|h|h|h|h|h|h
    .revert h;decide
    .cases h
    .exact o h
    .cases h
    .exact r h
    .cases h
    .exact w h
    .cases h
    .exact L h
   .cases h
  .rw[m];simp only[eA,dN];have:kwP.length=4:=rfl;omega
 refine⟨?_,e,by rw[d]⟩;unfold iO;rw[aB (λh=>h e),d];dsimp only
 rw[y];dsimp only
 rw[x,aB (by
  rintro(h|h)
  .exact h rfl
  .simp only[dW,wY,or_false]at h
   rcases h with h|h|h|h
   .exact C h.symm
   .exact D h.symm
   .exact F h.symm
   .exact M h.symm)]
 have A:rY kwP [a.data.toList,b.data.toList,c.data.toList,dI f]=some (.pair a.data.toList b.data.toList c.data.toList f):=(by unfold rY;rw[aB (by decide),aF rfl];have:eU 9 [dI f]=some [f]:=JQ H (pre:=[]) (l:=[]) rfl;show vW (.pair a.data.toList b.data.toList c.data.toList) (eU 9 [dI f])=_;rw[this];rfl);rw[A];rfl
def xfq{F:List (List UInt8)}{b:ByteArray}{a:List UInt8}{i:Nat}(e:i<C.length)(d:idxQ (nmQ Pe.nm b) 0 C=i)(o:C[i].role=3)(g:lR a=0)(j:(cA a).1≠uN){Y:St10}(l:iO O E W J X ((F.length+1:Nat):Int) a=(0,Y)) :
    jL O E W J C F X b a=(0,F++[a],Y):=by
 have m:w8 (cA a).1<=3:=by
  unfold w8;split
  .rename_i r n f h;unfold jJ at h;repeat' split at h
   all_goals first|(cases h;decide)|cases h
  .decide
 unfold jL;rw[d,hJ,eJ e];dsimp only
 rw[aB (by omega),aB (λh=>h g),aB (by omega)];unfold wQ;rw[aB j,l];rw[aB (λh=>h rfl)]
def FD(s:ByteArray):(⟨s.data.toList.toArray⟩:ByteArray)=s:=by apply ByteArray.ext;simp
def InvSP.idx(h:InvSP J X){j:Nat}(b:j<X.L.length):nmOK X.L[j].nm=true/\idxQ (nmQ Scene.nm X.L[j].nm) 0 X.L=j:=by
 have a:∀(i:Nat) (d:i<X.L.length),namedM X.L[i].nm ((X.L.take i).map Scene.nm)=0:=λi d=>(lM (h.L i d).1).1
 obtain⟨f,g⟩:=JS (a j b);refine⟨f,?_⟩
 have:=KI (q:=nmQ Scene.nm X.L[j].nm) (l:=X.L) (i:=j) 0 b (by unfold nmQ iB;simp) (λk m e=>by
  refine g X.L[k].nm (fF.mpr ⟨X.L[k],?_,rfl⟩)
  rw[vB]
  exact⟨k,by rw[oH];omega,by rw[V8]⟩)
 rw[this];omega
def InvSP.rng(h:InvSP J X){j:Nat}(b:j<X.L.length):(0<=X.L[j].day/\X.L[j].day<=100000)/\-100000<=X.L[j].bl/\X.L[j].bl<=100000:=by have a:=YM (lM (lM (h.L j b).1).2).1;rw[cI]at a;unfold wi at a;exact⟨sA a.1,sA a.2⟩
def lJ(a:List UInt8)(s:Scene):Ent:=⟨a,mA s⟩
def qR(a:List UInt8)(J:List Pn)(L:List Scene)(p:OPr):Ent:=⟨a,uC J L p⟩
def xav(h:InvSP J X){b:List UInt8}{c:Nat}(t:c<C.length)(d:idxQ (nmQ Pe.nm ⟨b.toArray⟩) 0 C=c)(u:C[c].role=3)(r:List Ent):∀(a:List Scene) (i k:Nat) (F:List (List UInt8)),X.L.drop i=a ->
    eT O E W J C k (a.map (lJ b)++r) F ⟨X.L.take i,[],[],[]⟩=eT O E W J C (k+a.length) r (F++a.map mA) ⟨X.L,[],[],[]⟩
 |[],i,k,F,p=>by have:=gZ.mp p;rw[dM this];simp
 |s::a,i,k,F,p=>by
  obtain⟨f,w,o⟩:=gW p;have j:=h.L i f;have H:=h.Ln;obtain⟨A,D⟩:=h.rng f;obtain⟨x,y⟩:=x1j (O:=O) (E:=E) (W:=W) (J:=J) (X:=⟨X.L.take i,[],[],[]⟩) (num:=((F.length+1:Nat):Int)) (s:=X.L[i]) (h.idx f).1 A D;rw[w]at j x y;have l:sU ⟨X.L.take i,[],[],[]⟩ s.nm.data.toList s.day s.bl=(0,⟨X.L.take (i+1),[],[],[]⟩):=by
   unfold sU;dsimp only
   have e:(X.L.take i).length=i:=(by rw[oH];omega);rw[e,aB (by omega),FD,aB (λg=>g j.1),aB (by rw[j.2];decide)];rw[List.take_add_one,eJ f,w];rfl
  have m:(cA (mA s)).1=kwS:=(by unfold mA;rw[U6 _ (by decide)]);have n:=xfq (O:=O) (E:=E) (W:=W) (J:=J) (F:=F) (X:=⟨X.L.take i,[],[],[]⟩) t d u y (by rw[m];decide) (x.trans l);rw[fY,iY];show eT O E W J C k (⟨b,mA s⟩::_) F _=_;rw[eT];dsimp only
  rw[n,aB (λg=>g rfl)];dsimp only
  rw[xav h t d u r a (i+1) (k+1) _ o,dN,show k+1+a.length=k+(a.length+1) by omega,oI];rfl
def xca(h:InvSP J X)(w:∀(i:Nat) (j:i<J.length),nmOK J[i].nm=true/\idxQ (nmQ Pn.nm J[i].nm) 0 J=i)(x:∀p∈X.S,-100000<=p.f/\p.f<=100000){e:List UInt8}{c:Nat}(y:c<C.length)(g:idxQ (nmQ Pe.nm ⟨e.toArray⟩) 0 C=c)(A:C[c].role=3):∀(d:List OPr) (i k:Nat) (F:List (List UInt8)),X.S.drop i=d ->
    eT O E W J C k (d.map (qR e J X.L)) F ⟨X.L,X.S.take i,[],[]⟩=(0,0,F++d.map (uC J X.L),⟨X.L,X.S,[],[]⟩)
 |[],i,k,F,u=>by have:=gZ.mp u;rw[dM this];simp[eT]
 |s::d,i,k,F,u=>by
  obtain⟨j,r,t⟩:=gW u;have D:=h.S i j;rw[r]at D;obtain⟨⟨s1,s2,s3,s4,s5⟩,Y⟩:=D;have l:=x s (by rw[<-r];exact fG j);have H:s.pt.toNat<J.length:=(by omega);have K:s.a.toNat<X.L.length:=(by omega);have M:s.b.toNat<X.L.length:=(by omega);obtain⟨Z,p2⟩:=w _ H;obtain⟨a1,a2⟩:=h.idx K;obtain⟨b1,b2⟩:=h.idx M;have m:uC J X.L s=kwP++32::(J[s.pt.toNat].nm.data.toList++32::(X.L[s.a.toNat].nm.data.toList++32::(X.L[s.b.toNat].nm.data.toList++32::dI s.f))):=(by unfold uC;rw[eJ H,eJ K,eJ M];rfl);obtain⟨f1,f2,f3⟩:=x1k (O:=O) (E:=E) (W:=W) (J:=J) (X:=⟨X.L,X.S.take i,[],[]⟩) (num:=((F.length+1:Nat):Int)) Z a1 b1 l m;have n:sV J ⟨X.L,X.S.take i,[],[]⟩ J[s.pt.toNat].nm.data.toList X.L[s.a.toNat].nm.data.toList X.L[s.b.toNat].nm.data.toList s.f=(0,⟨X.L,X.S.take (i+1),[],[]⟩):=by
   unfold sV;dsimp only
   rw[FD,FD,FD,p2,a2,b2];have P:((s.pt.toNat:Nat):Int)=s.pt:=(by omega);have Q:((s.a.toNat:Nat):Int)=s.a:=(by omega);have R:((s.b.toNat:Nat):Int)=s.b:=(by omega);rw[P,Q,R,aB (by omega),aB (by omega),aB (by rw[Y];decide),aB (by unfold wi;simp;omega)];rw[List.take_add_one,eJ j,r];rfl
  have o:=xfq (O:=O) (E:=E) (W:=W) (J:=J) (F:=F) (X:=⟨X.L,X.S.take i,[],[]⟩) y g A f2 (by rw[f3];decide) (f1.trans n);rw[fY];show eT O E W J C k (⟨e,uC J X.L s⟩::_) F _=_;rw[eT];dsimp only
  rw[o,aB (λN=>N rfl)];dsimp only
  rw[xca h w x y g A d (i+1) (k+1) _ t,oI];rfl
def sP(a:List UInt8)(J:List Pn)(X:St10):List Ent:=X.L.map (lJ a)++X.S.map (qR a J X.L)
def x0z(h:InvSP J X)(d:lI E O W J C=0)(l:X.L.length+X.S.length<=40)(m:∀p∈X.S,-100000<=p.f/\p.f<=100000){by_:List UInt8}{c:Nat}(e:c<C.length)(a:idxQ (nmQ Pe.nm ⟨by_.toArray⟩) 0 C=c)(g:C[c].role=3) :
    (bM E O W J C (sP by_ J X)).2.1=0/\(bM E O W J C (sP by_ J X)).2.2.2=⟨X.L,X.S,[],[]⟩:=by
 have b:(sP by_ J X).length<=40:=(by unfold sP;rw[eA,lU,lU];exact l);rw[xcb d b];unfold sP;have i:=xav (O:=O) (E:=E) (W:=W) h e a g (X.S.map (qR by_ J X.L)) X.L 0 0 [] rfl;have j:=xca (O:=O) (E:=E) (W:=W) h (XY d).p m e a g X.S 0 (0+X.L.length) ([]++X.L.map mA) rfl;rw[jM]at i j;have n:=i.trans j;have o:eT O E W J C 0 (X.L.map (lJ by_)++X.S.map (qR by_ J X.L)) [] X0=_:=n;rw[o];exact⟨rfl,rfl⟩
end Go.Ix
namespace Go.Ix
open Go.Proofs
variable{ba pa A:AV}{W:List Bd}{J:List Pn}{C:List Pe}{E O:Int}{m:Mem}{X:St10}{cs:List AV}
def FHk(P:List AV)(F:List (List UInt8))(X:St10)(v:AV):Prop:=∃f s p w c,v=.aE [.aE P,f,.aE P,s,p,w,c]/\Sl dC f F/\Sl Scene.c s X.L/\Sl OPr.c p X.S/\Sl Lv10.c w X.V/\Ints c X.C
def Hk.frz{K:Id->Prop}{a:Id}{F:List (List UInt8)}(b:[ba,pa,A].all aP=true)(h:Hk K m a (SC E O ba pa A) F X):∃v,Go.Ix.frz m.get 5 (.ptr a 0 0)=some v/\FHk (SC E O ba pa A) F X v:=by obtain⟨H,J,d,L,i,j,⟨-,-,M,N,l,n⟩,o,r⟩:=h;obtain⟨f,t,u⟩:=o.frz nA XR 2;obtain⟨s,p,w,c,e,x,y,C,D⟩:=r.frz b 1;have g:Go.Ix.frz m.get 4 (.ptr d 0 0)=some (.aE (SC E O ba pa A)):=rG l (n.frz (by show(true&&(true&&[ba,pa,A].all aP))=true;rw[b];rfl) 1);refine⟨_,rG (cs':=[.aE (SC E O ba pa A),f,.aE (SC E O ba pa A),s,p,w,c]) j ?_,f,s,p,w,c,rfl,u,x,y,C,D⟩;rw[eI,g,eI,t];have e':i.mapM (Go.Ix.frz m.get 4)=some [.aE (SC E O ba pa A),s,p,w,c]:=e;rw[e'];rfl
def dg(d:Nat)(n:Sl Bd.c ba W)(o:Sl Pn.c pa J)(p:Sl Pe.c A C)(u:W.length<=1000)(w:J.length<=1000)(y:C.length<=1000)(f:∀x∈W,x.nm.size<=1000/\x.cs.length<=1000)(g:∀x∈J,x.nm.size<=1000)(i:∀x∈C,x.nm.size<=1000){a:AV}{L:List Ent}(r:Sl Ent.c a L)(D:L.length<=21\/40<L.length)(j:∀x∈L,x.tx.length<=1000) :
    ∃v,(∀m,aI (aH (d+26)) qX [.agg [I E,I O,ba,pa,A],a] m=some (.tup [v,I (bM E O W J C L).1,I (bM E O W J C L).2.1],m))/\((bM E O W J C L).2.1≠0->v=AV.sc (.pointer none)) /\
     ((bM E O W J C L).2.1=0->SuOK E O ba pa A W J C/\W.length<=6/\FHk (SC E O ba pa A) (bM E O W J C L).2.2.1 (bM E O W J C L).2.2.2 v/\InvF W L.length (bM E O W J C L).2.2.1 (bM E O W J C L).2.2.2):=by
 obtain⟨F,e,H⟩:=xkq d [] (E:=E) (O:=O) n o p u w y f g i r D j mem0;have b:[AV.agg [I E,I O,ba,pa,A],a].all bB=true:=(by have:[I E,I O,ba,pa,A].all aP=true:=(by simp[n.aP,o.aP,p.aP]);rw[dP,rS,this,dP,r.bB];rfl);by_cases c:(bM E O W J C L).2.1=0
 .obtain⟨t,l,K,M⟩:=H c;rw[aB (λh=>h c)]at e;obtain⟨v,N,P⟩:=K.frz t.st;refine⟨v,λm=>U7 b e ?_,λh=>absurd c h,λ_=>⟨t,l,P,M⟩⟩;show([AV.ptr (mem0.next+1,6,8) 0 0,I _,I _].mapM (Go.Ix.frz F.get 5)).map AV.tup=_;rw[eI,N];rfl
 .rw[aF c]at e;exact⟨_,λm=>U7 b e rfl,λ_=>rfl,λh=>absurd h c⟩
open Go.Proofs
structure SmO (ba pa A:AV) (bl:List Bd) (pl:List Pn) (C:List Pe) (a:AV) (L:List Ent):Prop where
 b:Sl Bd.c ba bl
 p:Sl Pn.c pa pl
 e:Sl Pe.c A C
 bn:bl.length<=1000
 pn:pl.length<=1000
 en:C.length<=1000
 bs:∀x∈bl,x.nm.size<=1000/\x.cs.length<=1000
 ps:∀x∈pl,x.nm.size<=1000
 es:∀x∈C,x.nm.size<=1000
 a:Sl Ent.c a L
 n:L.length<=21\/40<L.length
 t:∀x∈L,x.tx.length<=1000
def oT{z a:Nat}{M:Mem}{id:Id}{d:List AV}{x:AV}(e:M.get id=some (.row d a false))(f:x.cells.length=z)(i:d.length=z)(g:x.cells.all AV.one=true) :
    ∃b:Mem,b.get id=some (.row x.cells a false)/\b.next=M.next/\(∀j,j≠id->b.get j=M.get j)/\∀{R:Type} (K:Mem->Option R),aU z (.ptr id a 0) x M K=K b:=by
 refine⟨M.set id (.row x.cells a false),by rw[Mem.cP,aF rfl],rfl,λj h=>by rw[Mem.cP,aB h],λK=>?_⟩;rw[lY (z:=z) e f (by omega) g];congr 3;unfold cS;rw[jM,iW,lV (by omega),iH]
open Go.Proofs
def wE(E O:Int)(W:List Bd)(J:List Pn)(C:List Pe)(L:List Ent)(nm:ByteArray):Int:=
 if(bM E O W J C L).2.1≠0 then(bM E O W J C L).2.1 else if idxQ (nmQ Pn.nm nm) 0 J<0 then 6 else
  if fQ (bM E O W J C L).2.2.2.L (ofPt (idxQ (nmQ Pn.nm nm) 0 J) (bM E O W J C L).2.2.2.S)=0 then 12 else
  if fQ (bM E O W J C L).2.2.2.L (ofPt (idxQ (nmQ Pn.nm nm) 0 J) (bM E O W J C L).2.2.2.S)=1 then 26 else 0
def HH:cY gQ []=some (.agg [AV.sc (.pointer none),nilS,nilS,nilS,nilS]):=by kernel_rfl
def xt:cY lE []=some (.agg [I 0,nilS,nilS]):=by kernel_rfl
def J4:gQ=[AV.sc (.pointer none),nilS,nilS,nilS,nilS]:=by kernel_rfl
def xkx(d:Nat){a:AV}{L:List Ent}(h:SmO ba pa A W J C a L)(nm:ByteArray) :
    ∃P X,(∀m,aI (aH (d+27)) B0 [.agg [I E,I O,ba,pa,A],a,T nm] m=some (.tup [P,X,I (wE E O W J C L nm)],m))/\(∃cs,P=.agg cs/\cs.length=5/\cs.all AV.one=true) /\
     (((bM E O W J C L).2.1≠0\/idxQ (nmQ Pn.nm nm) 0 J<0)->X=.agg [I 0,nilS,nilS]) /\
     ((bM E O W J C L).2.1=0->¬idxQ (nmQ Pn.nm nm) 0 J<0->eh (bM E O W J C L).2.2.2.L (ofPt (idxQ (nmQ Pn.nm nm) 0 J) (bM E O W J C L).2.2.2.S) X) /\
     (wE E O W J C L nm=0->∃s p w c,P=FB E O ba pa A s p w c/\Sl Scene.c s (bM E O W J C L).2.2.2.L/\Sl OPr.c p (bM E O W J C L).2.2.2.S/\Sl Lv10.c w (bM E O W J C L).2.2.2.V/\Ints c (bM E O W J C L).2.2.2.C):=by
 obtain⟨v,o1,o2,o3⟩:=dg d (E:=E) (O:=O) h.b h.p h.e h.bn h.pn h.en h.bs h.ps h.es h.a h.n h.t;have hstl:[AV.agg [I E,I O,ba,pa,A],a,T nm].all bB=true:=(by have:[I E,I O,ba,pa,A].all aP=true:=(by simp[h.b.aP,h.p.aP,h.e.aP]);rw[dP,rS,this,dP,h.a.bB];rfl);generalize hop:bM E O W J C L=j at *
 have hE:wE E O W J C L nm=if j.2.1≠0 then j.2.1 else if idxQ (nmQ Pn.nm nm) 0 J<0 then 6 else if fQ j.2.2.2.L (ofPt (idxQ (nmQ Pn.nm nm) 0 J) j.2.2.2.S)=0 then 12 else if fQ j.2.2.2.L (ofPt (idxQ (nmQ Pn.nm nm) 0 J) j.2.2.2.S)=1 then 26 else 0:=by unfold wE;rw[hop]
 rw[hE];suffices key:∃P X m',aH (d+27) [] B0 [.agg [I E,I O,ba,pa,A],a,T nm] mem0=some (.tup [P,X,I (if j.2.1≠0 then j.2.1 else if idxQ (nmQ Pn.nm nm) 0 J<0 then 6 else if fQ j.2.2.2.L (ofPt (idxQ (nmQ Pn.nm nm) 0 J) j.2.2.2.S)=0 then 12 else if fQ j.2.2.2.L (ofPt (idxQ (nmQ Pn.nm nm) 0 J) j.2.2.2.S)=1 then 26 else 0)],m')/\(∃cs,P=.agg cs/\cs.length=5/\cs.all AV.one=true)/\bB P=true/\bB X=true /\
  ((j.2.1≠0\/idxQ (nmQ Pn.nm nm) 0 J<0)->X=.agg [I 0,nilS,nilS]) /\
  (j.2.1=0->¬idxQ (nmQ Pn.nm nm) 0 J<0->eh j.2.2.2.L (ofPt (idxQ (nmQ Pn.nm nm) 0 J) j.2.2.2.S) X) /\
  ((if j.2.1≠0 then j.2.1 else if idxQ (nmQ Pn.nm nm) 0 J<0 then 6 else if fQ j.2.2.2.L (ofPt (idxQ (nmQ Pn.nm nm) 0 J) j.2.2.2.S)=0 then 12 else if fQ j.2.2.2.L (ofPt (idxQ (nmQ Pn.nm nm) 0 J) j.2.2.2.S)=1 then 26 else 0)=0->∃s p w c,P=FB E O ba pa A s p w c/\Sl Scene.c s j.2.2.2.L/\Sl OPr.c p j.2.2.2.S/\Sl Lv10.c w j.2.2.2.V/\Ints c j.2.2.2.C) by
  obtain⟨P,X,m',e1,e0,e2,e3,e4⟩:=key;exact⟨P,X,λm=>sZ hstl e1 (by rw[dP,e2,dP,e3];rfl),e0,e4⟩
 rw[x5t];unfold kx fC SD;have hone:(AV.agg [I E,I O,ba,pa,A]).cells.all AV.one=true:=(by show([I E,I O,ba,pa,A]:List AV).all AV.one=true;simp[h.b.one,h.p.one,h.e.one]);obtain⟨M1,n1,g1,k1,hM1⟩:=kR (x:=.agg [I E,I O,ba,pa,A]) hone (0,0,3) ⟨[],0+1⟩;obtain⟨H,hM2⟩:∃M:Mem,M=(M1.new (0,1,6) (.row gQ 0 false)).new (0,2,7) (.row lE 0 false):=⟨_,rfl⟩;have g6:H.get (0,1,6)=some (.row [AV.sc (.pointer none),nilS,nilS,nilS,nilS] 0 false):=(by rw[hM2,Mem.dH,aB (λh=>by simp[Prod.ext_iff]at h),Mem.dH,aF rfl,J4]);have g7:H.get (0,2,7)=some (.row [I 0,nilS,nilS] 0 false):=(by rw[hM2,Mem.dH,aF rfl,AD]);have g23:H.get (0,0,3)=some (.row [I E,I O,ba,pa,A] 0 false):=(by rw[hM2,Mem.dH,aB (λh=>by simp[Prod.ext_iff]at h),Mem.dH,aB (λh=>by simp[Prod.ext_iff]at h)];exact g1);have l5:aA true 5 (.ptr (0,0,3) 0 0) H=some (.agg [I E,I O,ba,pa,A]):=(by rw[aQ g23];rfl);have hw:∀(M:Mem) (b x:List AV),M.get (0,1,6)=some (.row [AV.sc (.pointer none),nilS,nilS,nilS,nilS] 0 false)->M.get (0,2,7)=some (.row [I 0,nilS,nilS] 0 false)->b.length=5->x.length=3->b.all AV.one=true->x.all AV.one=true ->
  ∃Z u:Mem,(∀{R:Type} (K:Mem->Option R),aU 5 (.ptr (0,1,6) 0 0) (.agg b) M K=K Z)/\(∀{R:Type} (K:Mem->Option R),aU 3 (.ptr (0,2,7) 0 0) (.agg x) Z K=K u)/\u.get (0,1,6)=some (.row b 0 false)/\u.get (0,2,7)=some (.row x 0 false):=by
  intro M b x hb hx lb lx ob ox;obtain⟨Z,a1,a2,a3,a4⟩:=oT (z:=5) (x:=.agg b) hb lb rfl ob;obtain⟨u,b1,b2,b3,b4⟩:=oT (z:=3) (x:=.agg x) (by rw[a3 _ (show((0,2,7):Id)≠(0,1,6) by decide)];exact hx) lx rfl ox;exact⟨Z,u,a4,b4,by rw[b3 _ (show((0,1,6):Id)≠(0,2,7) by decide)];exact a1,b1⟩
 have Y:∀{z:Nat} {id:Id} {M:Mem} {b:List AV},M.get id=some (.row b 0 false)->b.length=z->fO true z (.ptr id 0 0) M=some (.agg b):=λ{z id M b} hg hb=>(by show aA true z (.ptr id 0 0) M=_;subst hb;rw[aQ hg,bC,vP];simp);have o1':aI (aH (d+26)) qX [.agg [I E,I O,ba,pa,A],a] H=_:=o1 H;simp only[mem0,hM1,kK,bR,<-hM2,l5,aG,o1',kU,jU,jV,gC];by_cases o:j.2.1=0;case neg=>obtain⟨Z,u,w1,w2,w3,w4⟩:=hw H [AV.sc (.pointer none),nilS,nilS,nilS,nilS] [I 0,nilS,nilS] g6 g7 rfl rfl rfl rfl;simp only[eY o,cF,aT,HH,xt,aG,w1,w2,Y (z:=5) w3 rfl,Y (z:=3) w4 rfl,aF (show j.2.1≠0 from o)];exact⟨.agg [AV.sc (.pointer none),nilS,nilS,nilS,nilS],.agg [I 0,nilS,nilS],u,rfl,⟨_,rfl,rfl,rfl⟩,rfl,rfl,λ_=>rfl,λh=>absurd h o,λh=>absurd h o⟩
 obtain⟨hO,hbl,⟨f,s,p,w,c,rfl,v1,v2,v3,v4,v5⟩,hI⟩:=o3 o;have hLn:L.length<=21:=by
  rcases h.n with hn|hn
  .exact hn
  .exfalso;rw[<-hop]at o;unfold bM at o;split at o
   .rename_i e;exact e o
   .first|cases o|(rw[aF hn]at o;cases o)
 have hX:=hI.x.ok hLn (by omega) (by omega:12<=d+11+8);have q1:∀l:List AV,bZ (.aE l)=some (.aE l):=λ_=>rfl
 have q2:aD 2 (.aE [.aE (SC E O ba pa A),f,.aE (SC E O ba pa A),s,p,w,c])=some (.aE [.aE (SC E O ba pa A),s,p,w,c]):=rfl;have q3:∀m,aA true 5 (.aE [.aE (SC E O ba pa A),s,p,w,c]) m=some (FB E O ba pa A s p w c):=λ_=>rfl
 have hF:∀x:AV,bB x=true->[FB E O ba pa A s p w c,x].all bB=true:=λx hx=>by show(([AV.aE (SC E O ba pa A),s,p,w,c].all aP)&&(bB x&&true))=true;rw[hx];simp[v2.aP,v3.aP,v4.aP,Sl.aP v5];rfl
 obtain⟨mb,hkb⟩:=xd0 (d+23) (x:=nm) (E:=E) (O:=O) (ba:=ba) (A:=A) (sc:=s) (pr:=p) (lv:=w) (cf:=c) h.p h.pn (by simp[v2.one,v3.one,v4.one,Sl.one v5]);have hkb':∀m,eO (aH (d+26)) wB [FB E O ba pa A s p w c,T nm] m=some (I (idxQ (nmQ Pn.nm nm) 0 J),m):=λm=>LF (hF _ rfl) hkb rfl
 simp only[eX o,cN,aV,q1,q2,q3,hkb',aG,bV];rw[aB (show ¬(j.2.1≠0)from λh=>h o)];rcases D3 (nmQ Pn.nm nm) J 0 with ⟨h0,-⟩|⟨i,h0,hi,-⟩
 .rw[h0];obtain⟨Z,u,w1,w2,w3,w4⟩:=hw H [AV.sc (.pointer none),nilS,nilS,nilS,nilS] [I 0,nilS,nilS] g6 g7 rfl rfl rfl rfl;simp only[bG,aT,HH,xt,aG,w1,w2,Y (z:=5) w3 rfl,Y (z:=3) w4 rfl,show((-1:Int)<0)from by decide,cM];exact⟨.agg [AV.sc (.pointer none),nilS,nilS,nilS,nilS],.agg [I 0,nilS,nilS],u,rfl,⟨_,rfl,rfl,rfl⟩,rfl,rfl,λ_=>rfl,λ_ h=>absurd (by decide) h,λh=>by cases h⟩
 rw[h0,MQ];have N:¬((i:Int)<0):=(by omega);obtain⟨r,⟨y,g,rfl,y1,y2⟩,hc⟩:=zK (hF (I (i:Int)) rfl) (xho (d+11) (ba:=ba) (pa:=pa) (A:=A) (E:=E) (O:=O) v2 v3 ⟨v4.one,Sl.one v5⟩ ⟨v4.aP,Sl.aP v5⟩ hX.S (i:Int) ⟨hX.L,hX.D,hX.Q i⟩);have hc':aI (aH (d+26)) B6 [FB E O ba pa A s p w c,I (i:Int)] H=_:=hc H;generalize hkk:fQ j.2.2.2.L (ofPt (i:Int) j.2.2.2.S)=F at *
 have o3c:([I F,y,g]:List AV).all AV.one=true:=(by simp[Sl.one y1,Sl.one y2]);obtain⟨M3,n3,g3,k3,hM3⟩:=kY (z:=3) (cs:=lE) (x:=.agg [I F,y,g]) o3c rfl (by rw[AD];rfl) (0,31,13) H;have hM3':∀{R:Type} (K:Mem->Option R),aU 3 (.ptr (0,31,13) 0 0) (.agg [I F,y,g]) (H.new (0,31,13) (.row lE 0 false)) K=K M3:=λK=>by have:=hM3 (λ_ m=>K m);rw[kK]at this;exact this
 have g3':M3.get (0,31,13)=some (.row [I F,y,g] 0 false):=g3;have l3:aA true 3 (.ptr (0,31,13) 0 0) M3=some (.agg [I F,y,g]):=(by rw[aQ g3'];rfl);have l30:aA false 1 (.ptr (0,31,13) 0 0) M3=some (I F):=(by rw[aQ g3'];rfl);have g63:M3.get (0,1,6)=some (.row [AV.sc (.pointer none),nilS,nilS,nilS,nilS] 0 false):=(by rw[k3 _ (λh=>by simp[Prod.ext_iff]at h)];exact g6);have g73:M3.get (0,2,7)=some (.row [I 0,nilS,nilS] 0 false):=(by rw[k3 _ (λh=>by simp[Prod.ext_iff]at h)];exact g7);have ap:aW (tR (.ptr (0,31,13) 0 0)) (tS (.ptr (0,1,6) 0 0))=true:=FE (λh=>by simp[Prod.ext_iff]at h);have stx:bB (.agg [I F,y,g])=true:=(by rw[rS];simp[Sl.aP y1,Sl.aP y2]);have oFB:([.aE (SC E O ba pa A),s,p,w,c]:List AV).all AV.one=true:=(by simp[v2.one,v3.one,v4.one,Sl.one v5];rfl);simp only[eY N,aV,hc',aG,hM3',cX,bR,l30,iD,aB N];by_cases c2:F=0
 .obtain⟨Z,u,w1,w2,w3,w4⟩:=hw M3 [AV.sc (.pointer none),nilS,nilS,nilS,nilS] [I F,y,g] g63 g73 rfl rfl rfl o3c;simp only[eX c2,aT,HH,aG,l3,w1,w2,ap,gD,bD,Y (z:=5) w3 rfl,Y (z:=3) w4 rfl,aF c2];exact⟨.agg [AV.sc (.pointer none),nilS,nilS,nilS,nilS],.agg [I F,y,g],u,rfl,⟨_,rfl,rfl,rfl⟩,rfl,stx,λh=>by rcases h with h|h;exact absurd o h;exact absurd h N,λ_ _=>⟨y,g,by rw[hkk],y1,y2⟩,λh=>by cases h⟩
 by_cases c3:F=1
 .obtain⟨Z,u,w1,w2,w3,w4⟩:=hw M3 [AV.sc (.pointer none),nilS,nilS,nilS,nilS] [I F,y,g] g63 g73 rfl rfl rfl o3c;simp only[eY c2,aV,eX c3,aT,HH,aG,l3,w1,w2,ap,gD,bD,Y (z:=5) w3 rfl,Y (z:=3) w4 rfl,aB c2,aF c3];exact⟨.agg [AV.sc (.pointer none),nilS,nilS,nilS,nilS],.agg [I F,y,g],u,rfl,⟨_,rfl,rfl,rfl⟩,rfl,stx,λh=>by rcases h with h|h;exact absurd o h;exact absurd h N,λ_ _=>⟨y,g,by rw[hkk],y1,y2⟩,λh=>by cases h⟩
 .obtain⟨Z,u,w1,w2,w3,w4⟩:=hw M3 [.aE (SC E O ba pa A),s,p,w,c] [I F,y,g] g63 g73 rfl rfl oFB o3c;simp only[eY c2,aV,eY c3,aG,l3,w1,w2,ap,gD,bD,Y (z:=5) w3 rfl,Y (z:=3) w4 rfl,aB c2,aB c3];exact⟨FB E O ba pa A s p w c,.agg [I F,y,g],u,rfl,⟨_,rfl,rfl,oFB⟩,by rw[rS];simp[v2.aP,v3.aP,v4.aP,Sl.aP v5];rfl,stx,λh=>by rcases h with h|h;exact absurd o h;exact absurd h N,λ_ _=>⟨y,g,by rw[hkk],y1,y2⟩,λ_=>⟨s,p,w,c,rfl,v2,v3,v4,v5⟩⟩
end Go.Ix
namespace Go.Ix
open Go.Proofs
variable{ba pa A:AV}{W:List Bd}{J:List Pn}{C:List Pe}{E O:Int}{X:St10}
end Go.Ix
namespace Go.Ix
open Go.Proofs
variable{ba pa A:AV}{W:List Bd}{J:List Pn}{C:List Pe}{E O:Int}
def KD(b:Bd):Int->List Pn->List Int
 |_,[]=>[]
 |k,p::r=>bif D1 b p then k::KD b (k+1) r else KD b (k+1) r
def qJ(x:ByteArray):Bool:=decide (x.size<=20)
def u7(C:List Pe):Bool:=C.all λe=>qJ e.nm
def L0(J:List Pn):Bool:=J.all λe=>qJ e.nm
def BG(W:List Bd):Bool:=W.all λe=>qJ e.nm&&decide (e.cs.length<=22)
def xO(W:List Bd)(J:List Pn)(C:List Pe):Bool:=decide (W.length<=8)&&(decide (J.length<=10)&&(decide (C.length<=12)&&(BG W&&(L0 J&&u7 C))))
def XU(x:ByteArray):decide ((20:Int)<(x.size:Int))=!qJ x:=by
 unfold qJ;by_cases h:x.size<=20
 .simp[h,show ¬(20:Int)<(x.size:Int) by omega]
 .simp[h,show(20:Int)<(x.size:Int) by omega]
section
variable(call:aJ)(Z:FHs)(u:Nat){id:Id}
def xyc(h:Sl Pe.c A C)(y:C.length<=1000):∀(a:List Pe) (k j:Nat) (m:Mem) (Y:Nat),C.drop k=a->a.length<j->m.get id=some (.row [I E,I O,ba,pa,A] 0 false) ->
    Z0 call Z u j (.ptr id 0 0) (I k) m Y=some (B (u7 a),m):=by
 intro a;induction a with
 |nil=>intro k j m Y g b d;obtain⟨j,rfl⟩:=dQ b;have f:¬((k:Int)<(C.length:Int)):=(by have:=gZ.mp g;omega);simp only[Z0];unfold UM vq;simp only[cX,aG,aQ d,bR,bC,dR,dE,h.len vI,bV,f,bP,aV];rfl
 |cons e r x=>
  intro k j m Y g b d;obtain⟨j,rfl⟩:=dQ b;obtain⟨f,w,i⟩:=gW g;have hk':(k:Int)<(C.length:Int):=(by omega);have ix:=h.ix Pe.len f;have l:aD 0 (.aE ((C.drop k).flatMap Pe.c))=some (.aE ((C.drop k).flatMap Pe.c)):=rfl;have n:∀m,aA false 1 (.aE ((C.drop k).flatMap Pe.c)) m=some (T e.nm):=λm=>by rw[fX f,dT,w];rfl
  have o:=iJ k (by omega);have p:=x (k+1) j m (Y+16) i (by simp at b;omega) d;have t:u7 (e::r)=(qJ e.nm&&u7 r):=rfl;simp only[Z0];unfold UM;simp only[cX,aG,aQ d,bR,bC,dR,dE,h.len vI,bV,hk',bG,aT,ix,l,n,YF,iC,XU,t];cases qJ e.nm
  .simp only[cF,aT,pU]
  .simp only[cN,aV,dY,o,aG,p,iG]
def xyb(h:Sl Pn.c pa J)(F:J.length<=1000)(n:Sl Pe.c A C)(g:C.length<=1000):∀(a:List Pn) (k j:Nat) (m:Mem) (Y:Nat),J.drop k=a->a.length<j->m.get id=some (.row [I E,I O,ba,pa,A] 0 false) ->
    Y9 call Z u j (.ptr id 0 0) (I k) m Y=some (B (L0 a&&u7 C),m):=by
 intro a;induction a with
 |nil=>intro k j m Y i d b;obtain⟨j,rfl⟩:=dQ d;have f:¬((k:Int)<(J.length:Int)):=(by have:=gZ.mp i;omega);have r:=xyc call Z u (E:=E) (O:=O) (ba:=ba) (pa:=pa) (id:=id) n g C 0 NN m (Y+5+1) rfl (by rw[dF];omega) b;rw[show I ((0:Nat):Int)=I 0 from rfl]at r;simp only[Y9];unfold UL vp;simp only[cX,aG,aQ b,bR,bC,dR,dE,h.len qE,bV,f,bP,aV,r];rfl
 |cons e r D=>
  intro k j m Y i d b;obtain⟨j,rfl⟩:=dQ d;obtain⟨f,y,l⟩:=gW i;have hk':(k:Int)<(J.length:Int):=(by omega);have ix:=h.ix Pn.len f;have o:aD 0 (.aE ((J.drop k).flatMap Pn.c))=some (.aE ((J.drop k).flatMap Pn.c)):=rfl;have p:∀m,aA false 1 (.aE ((J.drop k).flatMap Pn.c)) m=some (T e.nm):=λm=>by rw[fX f,dT,y];rfl
  have t:=iJ k (by omega);have w:=D (k+1) j m (Y+16) l (by simp at d;omega) b;have x:L0 (e::r)=(qJ e.nm&&L0 r):=rfl;simp only[Y9];unfold UL;simp only[cX,aG,aQ b,bR,bC,dR,dE,h.len qE,bV,hk',bG,aT,ix,o,p,YF,iC,XU,x];cases qJ e.nm
  .simp only[cF,aT,pU]
  .simp only[cN,aV,dY,t,aG,w,iG]
def xmf:prog.underlying pZ=some (.slice tI):=by kernel_rfl
def xya(g:Sl Bd.c ba W)(t:W.length<=1000)(h:Sl Pn.c pa J)(w:J.length<=1000)(x:Sl Pe.c A C)(i:C.length<=1000):∀(a:List Bd) (k j:Nat) (m:Mem) (Y:Nat),W.drop k=a->a.length<j->m.get id=some (.row [I E,I O,ba,pa,A] 0 false) ->
    Y8 call Z u j (.ptr id 0 0) (I k) m Y=some (B (BG a&&(L0 J&&u7 C)),m):=by
 intro a;induction a with
 |nil=>intro k j m Y l f b;obtain⟨j,rfl⟩:=dQ f;have d:¬((k:Int)<(W.length:Int)):=(by have:=gZ.mp l;omega);have r:=xyb call Z u (E:=E) (O:=O) (ba:=ba) (id:=id) h w x i J 0 NN m (Y+5+1) rfl (by rw[dF];omega) b;rw[show I ((0:Nat):Int)=I 0 from rfl]at r;simp only[Y8];unfold UK vo;simp only[cX,aG,aQ b,bR,bC,dR,dE,g.len K5,bV,d,bP,aV,r];rfl
 |cons e r N=>
  intro k j m Y l f b;obtain⟨j,rfl⟩:=dQ f;obtain⟨d,p,o⟩:=gW l;have hk':(k:Int)<(W.length:Int):=(by omega);have ix:=g.ix Bd.len d;have y:aD 0 (.aE ((W.drop k).flatMap Bd.c))=some (.aE ((W.drop k).flatMap Bd.c)):=rfl;have D:∀m,aA false 1 (.aE ((W.drop k).flatMap Bd.c)) m=some (T e.nm):=λm=>by rw[fX d,dT,p];rfl
  have F:aD 1 (.aE ((W.drop k).flatMap Bd.c))=some (.aE (((W.drop k).flatMap Bd.c).drop 1)):=rfl;have H:∀m,aA false 1 (.aE (((W.drop k).flatMap Bd.c).drop 1)) m=some e.ca:=λm=>by rw[fX d,dT,p];rfl
  have n:aM prog pZ e.ca=some (I e.cs.length):=e.ok.len xmf;have K:=iJ k (by omega);have L:=N (k+1) j m (Y+26) o (by simp at f;omega) b;have M:BG (e::r)=((qJ e.nm&&decide (e.cs.length<=22))&&BG r):=rfl;simp only[Y8];unfold UK;simp only[cX,aG,aQ b,bR,bC,dR,dE,g.len K5,bV,hk',bG,aT,ix,y,D,YF,iC,XU,M];cases qJ e.nm
  .simp only[cF,gR,dZ,dX,cN,cZ,aG,cW,bD,aT,pU]
  .simp only[cN,gR,dZ,dX,cF,bD,aG,aQ b,bC,dR,dE,ix,F,H,n,iC,cW,cZ,iG];by_cases c:e.cs.length<=22
   .simp only[show ¬((22:Int)<(e.cs.length:Int)) by omega,c,bP,bG,aV,dY,K,aG,L,iG]
   .simp only[show((22:Int)<(e.cs.length:Int)) by omega,c,bP,bG,aT,pU]
end
def xll(d:Nat)(f:Sl Bd.c ba W)(a:Sl Pn.c pa J)(b:Sl Pe.c A C)(m:Mem):aI (aH (d+1)) R8 [.agg [I E,I O,ba,pa,A]] m=some (B (xO W J C),m):=by
 refine eZ (by simp[f.aP,a.aP,b.aP]) ?_ m;rw[x60];unfold od bW UJ;have l:(AV.agg [I E,I O,ba,pa,A]).cells.all AV.one=true:=(by rw[pM];simp[f.one,a.one,b.one]);simp only[mem0,jD,l,bD];generalize h:Mem.new _ _ _=m1;have e:m1.get (0,0,1)=some (.row [I E,I O,ba,pa,A] 0 false):=(by rw[<-h,Mem.kM];rfl);unfold xO;simp only[cX,aG,aQ e,bR,bC,dR,dE,f.len K5,iC];by_cases g:W.length<=8;rotate_left
 .simp only[show((8:Int)<(W.length:Int)) by omega,g,bG,bP,dZ,dX,cN,cZ,bD,aG,cW,aT,pU];exact RetF.st rfl rfl
 by_cases i:J.length<=10;rotate_left
 .simp only[show ¬((8:Int)<(W.length:Int)) by omega,g,bG,bP,dZ,dX,cN,cF,cZ,bD,aG,cW,aT,pU,iG,aQ e,bC,dR,dE,a.len qE,iC,show((10:Int)<(J.length:Int)) by omega,i];exact RetF.st rfl rfl
 by_cases j:C.length<=12;rotate_left
 .simp only[show ¬((8:Int)<(W.length:Int)) by omega,g,bG,bP,dZ,dX,cF,cZ,bD,aG,cW,aT,pU,iG,aQ e,bC,dR,dE,a.len qE,b.len vI,iC,show ¬((10:Int)<(J.length:Int)) by omega,i,show((12:Int)<(C.length:Int)) by omega,j];exact RetF.st rfl rfl
 have r:=xya (aH d) [] 0 (id:=(0,0,1)) (E:=E) (O:=O) f (by omega) a (by omega) b (by omega) W 0 NN m1 (0+18+1) rfl (by rw[dF];omega) e;rw[show I ((0:Nat):Int)=I 0 from rfl]at r;unfold vn;simp only[show ¬((8:Int)<(W.length:Int)) by omega,g,bG,bP,dZ,dX,cF,cZ,bD,aG,cW,aV,iG,aQ e,bC,dR,dE,a.len qE,b.len vI,iC,show ¬((10:Int)<(J.length:Int)) by omega,i,show ¬((12:Int)<(C.length:Int)) by omega,j];rw[bR]at r;rw[r];exact RetF.st rfl rfl
end Go.Ix
namespace Go.Ix
open Go.Proofs
variable{ba pa A:AV}{W:List Bd}{J:List Pn}{C:List Pe}{E O:Int}
def x22{W a:List Bd}(h:a.map Bd.core=W.map Bd.core)(b:∀x∈W,x.nm.size<=1000/\x.cs.length<=1000):∀x∈a,x.nm.size<=1000/\x.cs.length<=1000:=λx d=>by have:x.core∈W.map Bd.core:=h▸ew d;obtain⟨y,i,e⟩:=fF.mp this;have f:y.nm=x.nm:=congrArg (·.1) e;have g:y.cs=x.cs:=congrArg (·.2.1) e;have:=b y i;rw[f,g]at this;exact this
def XV(h:xO W J C=true):W.length<=8/\J.length<=10/\C.length<=12/\(∀x∈W,x.nm.size<=1000/\x.cs.length<=1000)/\(∀x∈J,x.nm.size<=1000)/\∀x∈C,x.nm.size<=1000:=by
 unfold xO BG L0 u7 qJ at h;simp only[cI,mR,dJ]at h;obtain⟨b,d,e,f,g,i⟩:=h;refine⟨b,d,e,λx a=>?_,λx a=>?_,λx a=>?_⟩
 .have:=f x a;omega
 .have:=g x a;omega
 .have:=i x a;omega
def zp(d:Nat){a:AV}{L:List Ent}(b:Sl Ent.c a L)(e:L.length<=9223372036854775807)(m:Mem):aI (aH (d+1)) R9 [a] m=some (B (wT L&&(decide (L.length<=20)||(decide (40<L.length)&&decide (L.length<=42)))),m):=by refine Ans.gA (m:=m) ?_ (by simp[b.bB]) rfl;unfold Ans;rw[x61];unfold oe bW UN vr;exact⟨_,xdv _ _ _ b L 0 NN _ _ rfl (by rw[dF];omega) e⟩
def xg2{L:List Ent}(h:(wT L&&(decide (L.length<=20)||(decide (40<L.length)&&decide (L.length<=42))))=true):(∀x∈L,Br10 x)/\L.length<=42:=by simp only[cI,lD,mR]at h;refine⟨λx a=>?_,by omega⟩;have:=dJ.1 h.1 x a;simp only[cI,mR]at this;exact⟨by omega,by omega⟩
end Go.Ix
namespace Go.Ix
open Go.Proofs
variable{ba pa A:AV}{W:List Bd}{J:List Pn}{C:List Pe}{E O:Int}{X:St10}
def xgr{a:aJ}{f:FuncId}{l:List AV}{r:AV}{g i:Mem}(b:l.all bB=true)(h:aI a f l g=some (r,i))(m:Mem):aI a f l m=some (r,m):=by
 unfold aI at h;rw[yW _ b]at h;dsimp only at h;cases d:a [] f l mem0 with
 |none=>rw[d]at h;cases h
 |some p=>
  rw[d]at h;dsimp only at h;cases e:Go.Ix.frz p.2.get bI p.1 with
  |none=>rw[e]at h;cases h
  |some r0=>rw[e]at h;have:=congrArg Prod.fst (pR h);dsimp only at this;subst this;exact U7 b d e
def x7v(d:Nat)(j:Sl Bd.c ba W)(l:Sl Pn.c pa J)(n:Sl Pe.c A C)(h:xO W J C=true)(E O:Int) :
    ∃a e f g,Sl Bd.c a g/\g.map Bd.core=W.map Bd.core/\Sl Pn.c e J/\Sl Pe.c f C/\∀m,aI (aH (d+1)) sC [.agg [I E,I O,ba,pa,A]] m=some (.agg [I E,I O,a,e,f],m):=by
 obtain⟨o,D,F,i,p,r⟩:=XV h;obtain⟨a,e,f,g,t,u,w,x,y⟩:=xly d (E:=E) (O:=O) j l n (by omega) (by omega) (by omega) (λb o=>by have:=(i b o).2;omega) mem0;exact⟨a,e,f,g,t,u,w,x,λm=>xgr (by rw[dP,rS];simp[j.aP,l.aP,n.aP]) y m⟩
def di(d:Nat){a:AV}{L:List Ent}(e:Sl Ent.c a L)(f:L.length<=1000000):∃b,Sl Ent.c b L/\∀m,aI (aH (d+1)) sD [a] m=some (b,m):=by obtain⟨b,g,h⟩:=xlz d e f mem0;exact⟨b,g,λm=>xgr (by rw[dP,e.bB];rfl) h m⟩
def SmO.mk10{d e f b:AV}{a:List Bd}{L:List Ent}(i:Sl Bd.c d a)(h:a.map Bd.core=W.map Bd.core)(j:Sl Pn.c e J)(l:Sl Pe.c f C)(g:xO W J C=true)(m:Sl Ent.c b L)(n:L.length<=21\/40<L.length)(o:∀x∈L,x.tx.length<=1000):SmO d e f a J C b L:=by obtain⟨w,y,A,p,r,t⟩:=XV g;have u:a.length=W.length:=(by simpa using congrArg List.length h);exact⟨i,j,l,by omega,by omega,by omega,x22 h p,r,t,m,n,o⟩
def zi(d:Nat){a:AV}{L:List Ent}(h:SmO ba pa A W J C a L)(nm:ByteArray) :
    ∃p o,(∀m,aI (aH (d+28)) B9 [.agg [I E,I O,ba,pa,A],a,T nm] m=some (.tup [p,o,I (wE E O W J C L nm)],m)) /\
     (((bM E O W J C L).2.1≠0\/idxQ (nmQ Pn.nm nm) 0 J<0)->p=nilS/\o=nilS) /\
     ((bM E O W J C L).2.1=0->¬idxQ (nmQ Pn.nm nm) 0 J<0->Ints p (fP (bM E O W J C L).2.2.2.L (ofPt (idxQ (nmQ Pn.nm nm) 0 J) (bM E O W J C L).2.2.2.S))/\Ints o (yN (bM E O W J C L).2.2.2.L (ofPt (idxQ (nmQ Pn.nm nm) 0 J) (bM E O W J C L).2.2.2.S))):=by
 obtain⟨vb,vx,o1,u,o2,o3,o4⟩:=xkx d (E:=E) (O:=O) h nm;have g:[AV.agg [I E,I O,ba,pa,A],a,T nm].all bB=true:=(by have:[I E,I O,ba,pa,A].all aP=true:=(by simp[h.b.aP,h.p.aP,h.e.aP]);rw[dP,rS,this,dP,h.a.bB];rfl);have Y:∃k p o,vx=.agg [I k,p,o]/\bB p=true/\bB o=true/\p.one=true/\o.one=true/\(((bM E O W J C L).2.1≠0\/idxQ (nmQ Pn.nm nm) 0 J<0)->p=nilS/\o=nilS) /\
  ((bM E O W J C L).2.1=0->¬idxQ (nmQ Pn.nm nm) 0 J<0->Ints p (fP (bM E O W J C L).2.2.2.L (ofPt (idxQ (nmQ Pn.nm nm) 0 J) (bM E O W J C L).2.2.2.S))/\Ints o (yN (bM E O W J C L).2.2.2.L (ofPt (idxQ (nmQ Pn.nm nm) 0 J) (bM E O W J C L).2.2.2.S))):=by
  by_cases c:(bM E O W J C L).2.1≠0\/idxQ (nmQ Pn.nm nm) 0 J<0
  .refine⟨0,nilS,nilS,o2 c,rfl,rfl,rfl,rfl,λ_=>⟨rfl,rfl⟩,λR X=>?_⟩;rcases c with c|c
   .exact absurd R c
   .exact absurd c X
  .have Z:(bM E O W J C L).2.1=0:=Classical.byContradiction λh=>c (.inl h)
   have c2:¬idxQ (nmQ Pn.nm nm) 0 J<0:=λh=>c (.inr h)
   obtain⟨p,o,e,l,w⟩:=o3 Z c2;exact⟨_,p,o,e,Sl.bB l,Sl.bB w,Sl.one l,Sl.one w,λh=>absurd h c,λ_ _=>⟨l,w⟩⟩
 obtain⟨k,p,o,rfl,s1,s2,n1,n2,x1,x2⟩:=Y;obtain⟨cs,rfl,y,D⟩:=u;suffices r:∃P,aH (d+28) [] B9 [.agg [I E,I O,ba,pa,A],a,T nm] mem0=some (.tup [p,o,I (wE E O W J C L nm)],P) by obtain⟨P,l⟩:=r;exact⟨p,o,λm=>sZ g l (by rw[dP,dP,s1,s2];rfl),x1,x2⟩
 rw[x6s];unfold nr fC TX;have i:(AV.agg [I E,I O,ba,pa,A]).cells.all AV.one=true:=(by show([I E,I O,ba,pa,A]:List AV).all AV.one=true;simp[h.b.one,h.p.one,h.e.one]);obtain⟨n,m1,g1,k1,F⟩:=kR (x:=.agg [I E,I O,ba,pa,A]) i (0,0,3) ⟨[],0+1⟩;have g1':n.get (0,0,3)=some (.row [I E,I O,ba,pa,A] 0 false):=g1;have l5:aA true 5 (.ptr (0,0,3) 0 0) n=some (.agg [I E,I O,ba,pa,A]):=(by rw[aQ g1'];rfl);have o1':aI (aH (d+27)) B0 [.agg [I E,I O,ba,pa,A],a,T nm] n=_:=o1 n;obtain⟨Q,f⟩:∃M:Mem,M=(n.new (0,12,9) (.row gQ 0 false)).new (0,13,10) (.row lE 0 false):=⟨_,rfl⟩;have g9:Q.get (0,12,9)=some (.row [AV.sc (.pointer none),nilS,nilS,nilS,nilS] 0 false):=(by rw[f,Mem.dH,aB (by decide),Mem.dH,aF rfl,J4]);have t:Q.get (0,13,10)=some (.row [I 0,nilS,nilS] 0 false):=(by rw[f,Mem.dH,aF rfl,AD]);obtain⟨M3,g3,n3,k3,H⟩:=oT (z:=5) (x:=.agg cs) g9 y rfl D;have j:M3.get (0,13,10)=some (.row [I 0,nilS,nilS] 0 false):=by rw[k3 _ (by decide)];exact t
 obtain⟨K,g4,n4,k4,N⟩:=oT (z:=3) (x:=.agg [I k,p,o]) j rfl rfl (by
  show([I k,p,o]:List AV).all AV.one=true
  simp[n1,n2])
 have g4':K.get (0,13,10)=some (.row [I k,p,o] 0 false):=g4;have l1:aA false 1 (.ptr (0,13,10) 0 1) K=some p:=(by rw[aQ g4'];rfl);have l2:aA false 1 (.ptr (0,13,10) 0 2) K=some o:=(by rw[aQ g4'];rfl);simp only[mem0,F,l5,aG,o1',kU,jU,jV,kK,bR,<-f,H,N,cX,l1,l2];exact⟨_,rfl⟩
open Go.Proofs
def LD{n:Nat}{id:Id}{v o:Nat}(h:id.1<n):cU (some n) (tR (.ptr id v o)) 2=true:=by simp[cU,tR,h]
theorem xgh{n:Nat}{a:List AV}:cU (some n) (tR (.aE a)) 2=true:=rfl
def x3h{n:Nat}{id:Id}(h:id.1<n):cU (some n) (some [],some [id]) 2=true:=by simp[cU,h]
def SmO.ok{a:AV}{L:List Ent}(h:SmO ba pa A W J C a L)(d:(bM E O W J C L).2.1=0):SuOK E O ba pa A W J C/\W.length<=6/\L.length<=21/\XOK 12 (bM E O W J C L).2.2.2:=by
 obtain⟨v,-,-,g⟩:=dg 0 (E:=E) (O:=O) h.b h.p h.e h.bn h.pn h.en h.bs h.ps h.es h.a h.n h.t;obtain⟨i,j,-,m⟩:=g d;have f:L.length<=21:=by
  rcases h.n with hn|hn
  .exact hn
  .have:=(xY d).2.1;omega
 exact⟨i,j,f,m.x.ok f (by omega) (by omega)⟩
open Go.Proofs
def LA{α:Type}{g:α->List AV}{z d:Nat}{t:List AV}(p:∀x,(g x).length=z)(Z:∀x,(g x).all aP=true){a:AV}{S:List α}(h:Sl g a S)(u:cH S.length d){e:Option AV}(w:a=nilS->e=some (B true))(y:∀E n x,a=.aN E n x->e=some (B false))(A r:Id)(m:Mem) :
    RetF (λv=>Sl g v S) (e.bind λC=>aK C (some (nilS,m)) (cQ t [] 0 z A m λD i=>cJ z d r (elems i.get z a) D i λj f=>some (j,f))):=by
 rcases h with ⟨rfl,rfl⟩|⟨b,rfl⟩
 .rw[w rfl];exact RetF.st rfl (.inl ⟨rfl,rfl⟩)
 .rw[y _ _ _ rfl];simp only[aG,aV,EB];rcases F8 p (Sl.lit S b) u r m with ⟨rfl,o⟩|⟨F,o⟩
  .have l:=o (λj f=>some (j,f));rw[l];exact RetF.st rfl (.inr ⟨true,rfl⟩)
  .have l:=o (λj f=>some (j,f));rw[l];exact RetF.mk (U1 (k:=4) p Z (x:=true) (by simp)) (Sl.lit S false)
def xlb(d:Nat){a:AV}{S:List _}(h:Sl Scene.c a S)(f:S.length<=1000):∃b,Sl Scene.c b S/\∀m,aI (aH (d+1)) CV [a] m=some (b,m):=by refine zK (by rw[dP,Sl.bB h];rfl) ?_;rw[x44];unfold jr bW QZ;exact LA Scene.len Scene.still10 h (by unfold cH;omega) (λe=>by rw[e];kernel_rfl) (λg n x e=>by rw[e];kernel_rfl) _ _ _
def xlc(d:Nat){a:AV}{S:List _}(h:Sl OPr.c a S)(f:S.length<=1000):∃b,Sl OPr.c b S/\∀m,aI (aH (d+1)) yD [a] m=some (b,m):=by refine zK (by rw[dP,Sl.bB h];rfl) ?_;rw[xgl];unfold MZ bW GQ;exact LA OPr.len OPr.bB h (by unfold cH;omega) (λe=>by rw[e];kernel_rfl) (λg n x e=>by rw[e];kernel_rfl) _ _ _
def xld(d:Nat){a:AV}{S:List _}(h:Sl Lv10.c a S)(f:S.length<=1000):∃b,Sl Lv10.c b S/\∀m,aI (aH (d+1)) CW [a] m=some (b,m):=by refine zK (by rw[dP,Sl.bB h];rfl) ?_;rw[x45];unfold js bW RA;exact LA Lv10.len Lv10.bB h (by unfold cH;omega) (λe=>by rw[e];kernel_rfl) (λg n x e=>by rw[e];kernel_rfl) _ _ _
def xle(d:Nat){a:AV}{S:List _}(h:Sl intE a S)(f:S.length<=1000):∃b,Sl intE b S/\∀m,aI (aH (d+1)) yC [a] m=some (b,m):=by refine zK (by rw[dP,Sl.bB h];rfl) ?_;rw[xgk];unfold MY bW GP;exact LA fR C9 h (by unfold cH;omega) (λe=>by rw[e];kernel_rfl) (λg n x e=>by rw[e];kernel_rfl) _ _ _
def xht(X:St10)(r:AV):Prop:=∃s p v c,r=.agg [s,p,v,c]/\Sl Scene.c s X.L/\Sl OPr.c p X.S/\Sl Lv10.c v X.V/\Ints c X.C
def xlj(d:Nat){a:AV}{L:List Ent}(h:SmO ba pa A W J C a L) :
    ∃r,(∀m,aI (aH (d+27)) R3 [.agg [I E,I O,ba,pa,A],a] m=some (.tup [r,I (bM E O W J C L).2.1],m))/\((bM E O W J C L).2.1≠0->r=.agg [nilS,nilS,nilS,nilS])/\((bM E O W J C L).2.1=0->xht (bM E O W J C L).2.2.2 r):=by
 obtain⟨v,o1,o2,o3⟩:=dg d (E:=E) (O:=O) h.b h.p h.e h.bn h.pn h.en h.bs h.ps h.es h.a h.n h.t;have u:[AV.agg [I E,I O,ba,pa,A],a].all bB=true:=(by have:[I E,I O,ba,pa,A].all aP=true:=(by simp[h.b.aP,h.p.aP,h.e.aP]);rw[dP,rS,this,dP,h.a.bB];rfl);suffices key:∃r m',aH (d+27) [] R3 [.agg [I E,I O,ba,pa,A],a] mem0=some (.tup [r,I (bM E O W J C L).2.1],m')/\bB r=true/\((bM E O W J C L).2.1≠0->r=.agg [nilS,nilS,nilS,nilS])/\((bM E O W J C L).2.1=0->xht (bM E O W J C L).2.2.2 r) by obtain⟨r,m',e1,e2,e3,e4⟩:=key;exact⟨r,λm=>sZ u e1 (by rw[dP,e2];rfl),e3,e4⟩
 rw[x6r];unfold nq bA TW;have D:(AV.agg [I E,I O,ba,pa,A]).cells.all AV.one=true:=(by show([I E,I O,ba,pa,A]:List AV).all AV.one=true;simp[h.b.one,h.p.one,h.e.one]);obtain⟨M1,m1,g1,k1,hM1⟩:=kR (x:=.agg [I E,I O,ba,pa,A]) D (0,0,2) ⟨[],0+1⟩;obtain⟨F,i⟩:∃M:Mem,M=M1.new (0,1,4) (.row rO 0 false):=⟨_,rfl⟩;have g2:F.get (0,1,4)=some (.row [nilS,nilS,nilS,nilS] 0 false):=(by rw[i,Mem.dH,aF rfl,xz]);have g22:F.get (0,0,2)=some (.row [I E,I O,ba,pa,A] 0 false):=(by rw[i,Mem.dH,aB (by decide)];exact g1);have l5:aA true 5 (.ptr (0,0,2) 0 0) F=some (.agg [I E,I O,ba,pa,A]):=(by rw[aQ g22];rfl);have o1':aI (aH (d+26)) qX [.agg [I E,I O,ba,pa,A],a] F=_:=o1 F;have lP:∀{z:Nat} {id:Id} {M:Mem} {b:List AV},M.get id=some (.row b 0 false)->b.length=z->fO true z (.ptr id 0 0) M=some (.agg b):=λ{z id M b} hg hb=>(by show aA true z (.ptr id 0 0) M=_;subst hb;rw[aQ hg,bC,vP];simp);simp only[mem0,hM1,kK,bR,<-i,l5,aG,o1',kU,jU,jV,gC];by_cases o:(bM E O W J C L).2.1=0;case neg=>obtain⟨M3,g3,n3,k3,j⟩:=oT (z:=4) (x:=.agg [nilS,nilS,nilS,nilS]) g2 rfl rfl rfl;simp only[eY o,cF,aT,VW,aG,j,lP (z:=4) g3 rfl];exact⟨_,_,rfl,rfl,λ_=>rfl,λh=>absurd h o⟩
 obtain⟨hO,hbl,⟨f,s,p,w,c,rfl,v1,v2,v3,v4,v5⟩,hI⟩:=o3 o;have hLn:L.length<=21:=by
  rcases h.n with hn|hn
  .exact hn
  .have:=(xY o).2.1;omega
 have Q:=hI.x.ok hLn (by omega) (by omega:12<=12);have q1:∀l:List AV,bZ (.aE l)=some (.aE l):=λ_=>rfl
 have q2:aD 2 (.aE [.aE (SC E O ba pa A),f,.aE (SC E O ba pa A),s,p,w,c])=some (.aE [.aE (SC E O ba pa A),s,p,w,c]):=rfl;have q3:aD 1 (.aE [.aE (SC E O ba pa A),s,p,w,c])=some (.aE [s,p,w,c]):=rfl;have f0:aD 0 (.aE [s,p,w,c])=some (.aE [s,p,w,c]):=rfl;have f1:aD 1 (.aE [s,p,w,c])=some (.aE [p,w,c]):=rfl;have f2:aD 2 (.aE [s,p,w,c])=some (.aE [w,c]):=rfl;have f3:aD 3 (.aE [s,p,w,c])=some (.aE [c]):=rfl;have d0:∀m,aA false 1 (.aE [s,p,w,c]) m=some s:=λ_=>rfl
 have d1:∀m,aA false 1 (.aE [p,w,c]) m=some p:=λ_=>rfl
 have d2:∀m,aA false 1 (.aE [w,c]) m=some w:=λ_=>rfl
 have d3:∀m,aA false 1 (.aE [c]) m=some c:=λ_=>rfl
 obtain⟨H,R,s2⟩:=xlb (d+25) v2 (by have:=Q.L;omega);obtain⟨K,X,p2⟩:=xlc (d+25) v3 Q.S;obtain⟨N,Y,w2⟩:=xld (d+25) v4 Q.V;obtain⟨P,g,c2⟩:=xle (d+25) v5 (by have:=Q.C;omega);have mk:∀{α:Type} {Z:α->List AV} {a:AV} {l:List α},Sl Z a l->bU 0 [a]=2:=λh=>by rcases h with ⟨rfl,-⟩|⟨y,rfl⟩<;>rfl
 have zb:cY rO [(0,1,H),(1,1,K),(2,1,N),(3,1,P)]=some (.agg [H,K,N,P]):=by rcases R with ⟨rfl,-⟩|⟨_,rfl⟩<;>rcases X with ⟨rfl,-⟩|⟨_,rfl⟩<;>rcases Y with ⟨rfl,-⟩|⟨_,rfl⟩<;>rcases g with ⟨rfl,-⟩|⟨_,rfl⟩<;>kernel_rfl
 obtain⟨M3,g3,n3,k3,j⟩:=oT (z:=4) (x:=.agg [H,K,N,P]) g2 rfl rfl (by
  show([H,K,N,P]:List AV).all AV.one=true
  simp[R.one,X.one,Y.one,Sl.one g])
 simp only[eX o,cN,aV,q1,q2,q3,f0,f1,f2,f3,aG,d0,d1,d2,d3,s2,p2,w2,c2,zb,j,lP (z:=4) g3 rfl,mk v2,mk v3,mk v4,xgh,show Nat.ble 1 2=true from rfl,gD,bD];exact⟨.agg [H,K,N,P],M3,by rw[o];rfl,by rw[rS];simp[R.aP,X.aP,Y.aP,Sl.aP g],λh=>absurd o h,λ_=>⟨_,_,_,_,rfl,R,X,Y,g⟩⟩
open Go.Proofs
def pQ(E O:Int)(W:List Bd)(J:List Pn)(C:List Pe)(L:List Ent)(x:Ent):Int:=
 if(bM E O W J C L).2.1≠0 then(bM E O W J C L).2.1 else(jL O E W J C (bM E O W J C L).2.2.1 (bM E O W J C L).2.2.2 ⟨x.by_.toArray⟩ x.tx).1
def FBk(E O:Int)(a d A:AV)(X:St10)(b:AV):Prop:=∃s p v c,b=FB E O a d A s p v c/\Sl Scene.c s X.L/\Sl OPr.c p X.S/\Sl Lv10.c v X.V/\Ints c X.C
def FBk.one{b:AV}(h:FBk E O ba pa A X b):∃a,b=.agg a/\a.length=5/\a.all AV.one=true/\bB (.agg a)=true:=by obtain⟨s,p,v,c,rfl,d,e,f,g⟩:=h;refine⟨_,rfl,rfl,by simp[d.one,e.one,f.one,Sl.one g];rfl,?_⟩;rw[rS];simp[d.aP,e.aP,f.aP,Sl.aP g];rfl
def xm(E O:Int)(e f A:AV)(W:List Bd)(J:List Pn)(C:List Pe)(L:List Ent)(x:Ent)(v:AV):Prop:=
 ∃b d,v=.tup [b,d,I (pQ E O W J C L x)]/\(∃a,b=.agg a/\a.length=5/\a.all AV.one=true/\bB (.agg a)=true)/\(∃a,d=.agg a/\a.length=5/\a.all AV.one=true/\bB (.agg a)=true) /\
  (pQ E O W J C L x=0->FBk E O e f A (bM E O W J C L).2.2.2 b/\FBk E O e f A (jL O E W J C (bM E O W J C L).2.2.1 (bM E O W J C L).2.2.2 ⟨x.by_.toArray⟩ x.tx).2.2 d)
def x88(d:Nat){a:AV}{L:List Ent}(h:SmO ba pa A W J C a L)(hL20:L.length<=20\/40<L.length){x:Ent}(hx:x.tx.length<=1000) :
    RetF (xm E O ba pa A W J C L x) (aH (d+27) [] R0 [.agg [I E,I O,ba,pa,A],a,.agg x.c] mem0):=by
 rw[x6q];unfold np fC TV;have hone:(AV.agg [I E,I O,ba,pa,A]).cells.all AV.one=true:=(by show([I E,I O,ba,pa,A]:List AV).all AV.one=true;simp[h.b.one,h.p.one,h.e.one]);obtain⟨M1,n1,g1,k1,hM1⟩:=kR (x:=.agg [I E,I O,ba,pa,A]) hone (0,0,3) ⟨[],0+1⟩;obtain⟨M2,n2,g2,k2,hM2⟩:=kR (x:=.agg x.c) rfl (0,1,5) M1;obtain⟨H,D⟩:∃M:Mem,M=(M2.new (0,2,6) (.row gQ 0 false)).new (0,3,7) (.row gQ 0 false):=⟨_,rfl⟩;have n4:H.next=1:=(by rw[D];show M2.next=1;rw[n2,n1]);have g45:H.get (0,1,5)=some (.row x.c 0 false):=(by rw[D,Mem.dH,aB (by decide),Mem.dH,aB (by decide)];exact g2);have g46:H.get (0,2,6)=some (.row [AV.sc (.pointer none),nilS,nilS,nilS,nilS] 0 false):=(by rw[D,Mem.dH,aB (by decide),Mem.dH,aF rfl,J4]);have g47:H.get (0,3,7)=some (.row [AV.sc (.pointer none),nilS,nilS,nilS,nilS] 0 false):=(by rw[D,Mem.dH,aF rfl,J4]);have g43:H.get (0,0,3)=some (.row [I E,I O,ba,pa,A] 0 false):=(by rw[D,Mem.dH,aB (by decide),Mem.dH,aB (by decide),k2 _ (by decide)];exact g1);have l5:aA true 5 (.ptr (0,0,3) 0 0) H=some (.agg [I E,I O,ba,pa,A]):=(by rw[aQ g43];rfl);obtain⟨F,Z⟩:∃F:Id->Prop,F=λj=>j=(0,1,5)\/j=(0,2,6)\/j=(0,3,7):=⟨_,rfl⟩
 have u:∀j,F j->j.1<H.next:=λj g=>by rw[Z]at g;rcases g with rfl|rfl|rfl<;>(rw[n4];decide)
 obtain⟨M5,o1,o2,o3,o4⟩:=yv (K0:=F) (E:=E) (O:=O) d [] h.b h.p h.e h.bn h.pn h.en h.bs h.ps h.es h.a h.n h.t H u;rw[n4]at o1 o2 o4;have ex5:∀j,F j->M5.get j=H.get j:=λj g=>(o3.2 j (u j g) (λh=>h)).2 (.inr (.inr (.inr g)))
 have k5:F (0,1,5):=(by rw[Z];exact .inl rfl);have k6:F (0,2,6):=(by rw[Z];exact .inr (.inl rfl));have k7:F (0,3,7):=(by rw[Z];exact .inr (.inr rfl));have g55:=(ex5 _ k5).trans g45;have g56:=(ex5 _ k6).trans g46;have g57:=(ex5 _ k7).trans g47;have lP:∀{z:Nat} {id:Id} {M:Mem} {b:List AV},M.get id=some (.row b 0 false)->b.length=z->fO true z (.ptr id 0 0) M=some (.agg b):=λ{z id M b} hg hb=>(by show aA true z (.ptr id 0 0) M=_;subst hb;rw[aQ hg,bC,vP];simp);have lL:∀{z:Nat} {id:Id} {M:Mem} {b:List AV},M.get id=some (.row b 0 false)->b.length=z->aA true z (.ptr id 0 0) M=some (.agg b):=λhg hb=>lP hg hb
 have ap1:aW (tR (.ptr (0,3,7) 0 0)) (tS (.ptr (0,2,6) 0 0))=true:=FE (by decide);have o1':aH (d+26) [] qX [.agg [I E,I O,ba,pa,A],a] H=_:=o1;have a1:∀(m:Mem) {R:Type} (K:AV->Mem->Option R),dG gQ (0,3,7) (m.new (0,2,6) (.row gQ 0 false)) K=K (.ptr (0,3,7) 0 0) ((m.new (0,2,6) (.row gQ 0 false)).new (0,3,7) (.row gQ 0 false)):=λm R K=>rfl
 simp only[mem0,hM1,hM2,kK,bR,<-D,l5,aG,o1',kU,jU,jV,gC];unfold xm pQ;by_cases c1:(bM E O W J C L).2.1=0;case neg=>obtain⟨N,w1,w2,w3,w4⟩:=oT (z:=5) (x:=.agg [AV.sc (.pointer none),nilS,nilS,nilS,nilS]) g56 rfl rfl rfl;have g67:N.get (0,3,7)=some (.row [AV.sc (.pointer none),nilS,nilS,nilS,nilS] 0 false):=(by rw[w3 _ (by decide)];exact g57);obtain⟨M7,v1,v2,v3,v4⟩:=oT (z:=5) (x:=.agg [AV.sc (.pointer none),nilS,nilS,nilS,nilS]) g67 rfl rfl rfl;have Y:M7.get (0,2,6)=some (.row [AV.sc (.pointer none),nilS,nilS,nilS,nilS] 0 false):=(by rw[v3 _ (by decide)];exact w1);have v1':M7.get (0,3,7)=some (.row [AV.sc (.pointer none),nilS,nilS,nilS,nilS] 0 false):=v1;simp only[eY c1,cF,aT,lL (z:=5) g56 rfl,lL (z:=5) g57 rfl,aG,w4,v4,ap1,gD,bD,lP (z:=5) Y rfl,lP (z:=5) v1' rfl];simp only[aF (show(bM E O W J C L).2.1≠0 from c1)];refine RetF.tup (l:=[.agg [AV.sc (.pointer none),nilS,nilS,nilS,nilS],.agg [AV.sc (.pointer none),nilS,nilS,nilS,nilS],I (bM E O W J C L).2.1]) rfl ?_;exact⟨_,_,rfl,⟨_,rfl,rfl,rfl,rfl⟩,⟨_,rfl,rfl,rfl,rfl⟩,λh=>absurd h c1⟩
 obtain⟨hO,hbl,hH,hI⟩:=o4 c1;rw[aB (λh=>h c1)]at o1';have hLn:L.length<=20:=(by have:=(xY c1).2.1;omega);have c40:¬((L.length:Int)=40):=(by omega);obtain⟨o,r⟩:∃o:Id,o=(1+1,6,8):=⟨_,rfl⟩;rw[<-r]at hH;have hh8:o.2.2=8:=(by rw[r]);have hn6:o≠(0,2,6):=(by rw[r];decide);have hn7:o≠(0,3,7):=(by rw[r];decide);have hH':=hH;obtain⟨q1,q2,sid,fv,i,q3,q4,q5,q6⟩:=hH';have b5:∀{K:Id->Prop} {m:Mem} {X:St10} {P i:List AV},Bc K m P X i->i.length=5/\i.all AV.one=true:=λh=>by obtain⟨_,_,_,_,_,_,e,-,-,-,e5,e6,e7,e8⟩:=h.ex;rw[e];exact⟨rfl,by simp[e5.one,e6.1.one,e7.one,e8.one];rfl⟩
 obtain⟨c5,o5⟩:=b5 q6;have ld2:∀{M:Mem} {s f:AV} {i:List AV},M.get o=some (.row (s::f::i) 0 false)->i.length=5->aA true 5 (.ptr o 0 2) M=some (.agg i):=λ{M s f i} hg hc=>(by rw[aQ hg,<-hc];show rd true i.length i=_;rw[vP];simp);obtain⟨N,w1,w2,w3,w4⟩:=oT (z:=5) (x:=.agg i) g56 c5 rfl o5;obtain⟨K,hK⟩:∃K:Id->Prop,K=λj=>F j\/kO 1 j:=⟨_,rfl⟩
 rw[<-hK]at hH q6;have y:∀j,F j->K j:=λj h=>by rw[hK];exact .inl h
 have gr6:GrP K (λj=>j=(0,2,6)) M5 N:=jT (.refl _ _) (.inr rfl) w2 w3;have hH6:=hH.gr gr6 (λj g=>by rw[g];exact .inr (.inr (.inr (y _ k6)))) hn6;have hKn:∀j,K j->j.1<N.next:=λj g=>by
  rw[w2];rw[hK]at g;rcases g with g|g
  .have:=u j g;omega
  .have:=g.1;omega
 obtain⟨M7,e1,e2,e3⟩:=ze (d+1) [] hKn hO (by omega) hh8 hH6 (by rw[hI.len];exact hLn) hI.t (by rw[hI.len];exact hI.x) (by_:=⟨x.by_.toArray⟩) hx;have e1':aH (d+26) [] B1 [.ptr o 0 0,.agg x.c] N=_:=e1
 have ex7:∀j,F j->M7.get j=N.get j:=λj g=>(e2.2 j (by have:=u j g;omega) (by
  rintro rfl
  have:=u _ g
  rw[r,n4]at this;simp at this)).2 (.inr (.inr (.inr (y _ g))))
 have g66:N.get (0,2,6)=some (.row i 0 false):=w1;have Y:M7.get (0,2,6)=some (.row i 0 false):=(ex7 _ k6).trans g66;have g77:M7.get (0,3,7)=some (.row [AV.sc (.pointer none),nilS,nilS,nilS,nilS] 0 false):=(by rw[ex7 _ k7,w3 _ (by decide)];exact g57);have g65:N.get (0,1,5)=some (.row x.c 0 false):=(by rw[w3 _ (by decide)];exact g55);generalize hq:jL O E W J C (bM E O W J C L).2.2.1 (bM E O W J C L).2.2.2 ⟨x.by_.toArray⟩ x.tx=q at *
 obtain⟨r1,r2,sid',fv',cs1,r3,r4,r5,r6⟩:=e3;obtain⟨c51,o51⟩:=b5 r6;have hq7:∀j,j=o->lO K j:=λj g=>by rw[g];exact .inl hh8
 have q66:Bc K N (SC E O ba pa A) (bM E O W J C L).2.2.2 i:=q6.gr gr6 (λj g=>by rw[g];exact .inr (.inr (.inr (y _ k6))));have q67:=q66.gr e2 hq7;obtain⟨M8,u1,u2,u3,u4⟩:=oT (z:=5) (x:=.agg i) Y c5 c5 o5;have g87:M8.get (0,3,7)=some (.row [AV.sc (.pointer none),nilS,nilS,nilS,nilS] 0 false):=(by rw[u3 _ (by decide)];exact g77);obtain⟨Q,v1,v2,v3,v4⟩:=oT (z:=5) (x:=.agg cs1) g87 c51 rfl o51;have gr9:GrP K (λj=>j=(0,2,6)\/j=(0,3,7)) M7 Q:=⟨by rw[v2,u2];exact bO _,λj g hp=>by rw[v3 j (λh=>hp (.inr h)),u3 j (λh=>hp (.inl h))];exact⟨.refl _,λ_=>rfl⟩⟩;have hb9:∀j,(j=(0,2,6)\/j=(0,3,7))->lO K j:=λj g=>by
  rcases g with rfl|rfl
  .exact .inr (.inr (.inr (y _ k6)))
  .exact .inr (.inr (.inr (y _ k7)))
 obtain⟨s,p,w,c,f0,f1,f2,f3,f4⟩:=(q67.gr gr9 hb9).frz hO.st 1;obtain⟨s',p',w',c',f0',f1',f2',f3',f4'⟩:=(r6.gr gr9 hb9).frz hO.st 1;have g96:Q.get (0,2,6)=some (.row i 0 false):=(by rw[v3 _ (by decide)];exact u1);have g97:Q.get (0,3,7)=some (.row cs1 0 false):=v1;have ap2:aW (tR (.ptr o 0 2)) (tS (.ptr (0,2,6) 0 0))=true:=FE hn6;have nb:∀j,bZ (.ptr j 0 0)=some (.ptr j 0 0):=λ_=>rfl
 have lx:aA true 2 (.ptr (0,1,5) 0 0) N=some (.agg x.c):=(by rw[aQ g65];rfl);have hlen:=h.a.len K4;simp only[eX c1,cN,aV,hlen,aG,iD,eY c40,ne_eq,c1,not_true_eq_false,cT,<-r,nb,cX,bR,ld2 q3 c5,w4,lx,e1',lL (z:=5) Y c5,ld2 r3 c51,u4,v4,ap2,gD,xF,bD,lP (z:=5) g96 c5,lP (z:=5) g97 c51];refine RetF.mk (a':=.tup [FB E O ba pa A s p w c,FB E O ba pa A s' p' w' c',I q.1]) ?_ ⟨_,_,rfl,?_,?_,λ_=>⟨⟨_,_,_,_,rfl,f1,f2,f3,f4⟩,⟨_,_,_,_,rfl,f1',f2',f3',f4'⟩⟩⟩
 .show([AV.agg i,AV.agg cs1,I q.1].mapM (Go.Ix.frz Q.get 5)).map AV.tup=_;have h1:Go.Ix.frz Q.get 5 (.agg i)=some (FB E O ba pa A s p w c):=(by show(i.mapM (Go.Ix.frz Q.get 4)).map AV.agg=_;rw[show i.mapM (Go.Ix.frz Q.get 4)=_ from f0];rfl);have h2:Go.Ix.frz Q.get 5 (.agg cs1)=some (FB E O ba pa A s' p' w' c'):=(by show(cs1.mapM (Go.Ix.frz Q.get 4)).map AV.agg=_;rw[show cs1.mapM (Go.Ix.frz Q.get 4)=_ from f0'];rfl);rw[eI,h1,eI,h2];rfl
 .exact FBk.one ⟨_,_,_,_,rfl,f1,f2,f3,f4⟩
 .exact FBk.one ⟨_,_,_,_,rfl,f1',f2',f3',f4'⟩
def x70(d:Nat){a:AV}{L:List Ent}(h:SmO ba pa A W J C a L)(f:L.length<=20\/40<L.length){x:Ent}(i:x.tx.length<=1000) :
    ∃v,xm E O ba pa A W J C L x v/\∀m,aI (aH (d+27)) R0 [.agg [I E,I O,ba,pa,A],a,.agg x.c] m=some (v,m):=by
 have g:[AV.agg [I E,I O,ba,pa,A],a,.agg x.c].all bB=true:=(by have:[I E,I O,ba,pa,A].all aP=true:=(by simp[h.b.aP,h.p.aP,h.e.aP]);rw[dP,rS,this,dP,h.a.bB];rfl);exact zK g (x88 d h f i)
open Go.Proofs
def ClE(u:Nat)(m:Mem)(r:AV)(S:List Ent):Prop:=(S=[]/\(r=nilS\/r=.aN [] 0 true))\/(S≠[]/\r=.sref (u,5,7) 0 0 S.length 2 true/\m.get (u,5,7)=some (.row (S.flatMap Ent.c) 0 false))
def xzl(d:Nat){a:AV}{S:List Ent}(h:Sl Ent.c a S)(n:S.length<=1000)(u:Nat):∃r g,aH (d+1) [] Q0 [a] ⟨[],u⟩=some (r,g)/\ClE u g r S/\g.next=u+1:=by
 rw[x46];unfold jt bW RB;have m:cH S.length 32:=(by unfold cH;omega);rcases h with ⟨rfl,rfl⟩|⟨b,rfl⟩
 .refine⟨nilS,⟨[],u+1⟩,?_,.inl ⟨rfl,.inl rfl⟩,rfl⟩;have:bY prog .eql oN (.tmp 3) (.const (.slice none 0 0)) nilS nilS=some (B true):=(by kernel_rfl);simp only[this,aG,aT]
 .have:bY prog .eql oN (.tmp 3) (.const (.slice none 0 0)) (.aN (S.flatMap Ent.c) S.length b) nilS=some (B false):=(by kernel_rfl);simp only[this,aG,aV,EB];rcases F8 Ent.len (Sl.lit S b) m (u,0+5,7) (⟨[],u+1⟩:Mem)with ⟨rfl,j⟩|⟨l,j⟩
  .have i:=j (λf e=>some (f,e));exact⟨_,_,i,.inl ⟨rfl,.inr rfl⟩,rfl⟩
  .have i:=j (λf e=>some (f,e));exact⟨_,_,i,.inr ⟨l,rfl,by simp⟩,rfl⟩
def x7z(d:Nat){a:AV}{S:List Ent}(h:Sl Ent.c a S)(f:S.length<=1000)(m:Mem):∃r M,vM (aH (d+1)) Q0 [a] m=some (r,M)/\ClE m.next M r S/\M.next=m.next+1/\∀j:Id,j.1<m.next->M.get j=m.get j:=by
 obtain⟨r,t,g,b,i⟩:=xzl d h f m.next
 obtain⟨M,n,o,e⟩:=xgq (m:=m) (l:=[a]) (by
  rcases h with ⟨rfl,-⟩|⟨y,rfl⟩<;>rfl) g
 refine⟨r,M,n,?_,by rw[o,i],λj p=>by rw[e,aB (by omega)]⟩;rcases b with b|⟨hne,rfl,hg⟩
 .exact .inl b
 .exact .inr ⟨hne,rfl,by rw[e,aF (bO _)];exact hg⟩
def ClE.app{u:Nat}{m:Mem}{r:AV}{S:List Ent}(h:ClE u m r S)(C:S.length<=1000)(x:Ent)(id:Id):∃d i,(∀{R:Type} (K:AV->Mem->Option R),cJ 2 32 id (some (x.c,1)) r m K=K d i)/\∃j,Go.Ix.frz i.get 5 d=some j/\Sl Ent.c j (S++[x]):=by
 have b:∀n,n<=1001->cH n 32:=λn D=>by unfold cH;omega
 have one:∀{R:Type} (K:AV->Mem->Option R) (r:AV),(r=nilS\/r=.aN [] 0 true)->cJ 2 32 id (some (x.c,1)) r m K=K (.sref id 0 0 1 2 true) (m.new id (.row x.c 0 false)):=λK r a=>by
  rcases a with rfl|rfl
  .simp only[cJ];rw[aB (by decide),aF (b 1 (by omega))]
  .simp only[cJ];rw[aF (by decide),aB (by decide),aF (b _ (by omega))];rfl
 rcases h with ⟨rfl,w⟩|⟨y,rfl,A⟩
 .refine⟨_,_,λK=>one K r w,_,U1 (k:=3) (l:=[x]) Ent.len Ent.stl (by
   rw[Mem.dH,aF rfl]
   show _=some (Ob.row (x.c++[]) 0 false)
   rw[iH]),Sl.lit [x] false⟩
 .have t:=gG Ent.len S;refine⟨.sref (u,5,7) 1 0 (S.length+1) 2 true,m.set (u,5,7) (.row (S.flatMap Ent.c++x.c) 1 false),λK=>?_,.aN ((S++[x]).flatMap Ent.c) (S++[x]).length false,?_,Sl.lit _ false⟩
  .simp only[cJ,A];rw[aF ⟨trivial,trivial,by omega,b _ (by omega)⟩,aB (by decide),aB (by rw[t];omega),bC,dM (by omega)]
  .have e:(S++[x]).flatMap Ent.c=S.flatMap Ent.c++x.c:=(by rw[vC,dT,xif,iH]);have o:((S++[x]).flatMap Ent.c).length=(S.length+1)*2:=(by rw[gG Ent.len,eA];rfl);have p:((S++[x]).flatMap Ent.c).take ((S.length+1)*2)=(S++[x]).flatMap Ent.c:=dM (by omega);have g:(m.set (u,5,7) (.row (S.flatMap Ent.c++x.c) 1 false)).get (u,5,7)=some (.row ((S++[x]).flatMap Ent.c) 1 false):=by rw[Mem.cP,aF rfl,e]
   have:=pI (aC:=(m.set (u,5,7) (.row (S.flatMap Ent.c++x.c) 1 false)).get) (id:=(u,5,7)) (cs:=(S++[x]).flatMap Ent.c) (ver:=1) (off:=0) (n:=S.length+1) (z:=2) (k:=3) (f:=false) (x:=true) g (by omega) (by
    rw[bC,p];exact oD Ent.stl _)
   rw[bC,p]at this;rw[this,eA];rfl
def xl7(d:Nat){a:AV}{L:List Ent}(h:SmO ba pa A W J C a L)(i:L.length<=20\/40<L.length){x:Ent}(hx:x.tx.length<=1000) :
    ∃r,(∀m,aI (aH (d+28)) R7 [.agg [I E,I O,ba,pa,A],a,.agg x.c] m=some (.tup [r,I (pQ E O W J C L x)],m))/\(pQ E O W J C L x=0->Sl Ent.c r (L++[x])):=by
 have j:[AV.agg [I E,I O,ba,pa,A],a,.agg x.c].all bB=true:=(by have:[I E,I O,ba,pa,A].all aP=true:=(by simp[h.b.aP,h.p.aP,h.e.aP]);rw[dP,rS,this,dP,h.a.bB];rfl);have w:RetF (λv=>∃r,v=.tup [r,I (pQ E O W J C L x)]/\(pQ E O W J C L x=0->Sl Ent.c r (L++[x]))) (aH (d+28) [] R7 [.agg [I E,I O,ba,pa,A],a,.agg x.c] mem0):=by
  rw[x6x];unfold nz fC UH;have l:(AV.agg [I E,I O,ba,pa,A]).cells.all AV.one=true:=(by show([I E,I O,ba,pa,A]:List AV).all AV.one=true;simp[h.b.one,h.p.one,h.e.one]);obtain⟨M1,n1,g1,k1,X⟩:=kR (x:=.agg [I E,I O,ba,pa,A]) l (0,0,3) ⟨[],0+1⟩;obtain⟨t,n2,g2,k2,Y⟩:=kR (x:=.agg x.c) rfl (0,1,5) M1;have D:t.get (0,0,3)=some (.row [I E,I O,ba,pa,A] 0 false):=(by rw[k2 _ (by decide)];exact g1);have n:t.get (0,1,5)=some (.row x.c 0 false):=g2;have l5:aA true 5 (.ptr (0,0,3) 0 0) t=some (.agg [I E,I O,ba,pa,A]):=(by rw[aQ D];rfl);have lx:∀{M:Mem},M.get (0,1,5)=some (.row x.c 0 false)->aA true 2 (.ptr (0,1,5) 0 0) M=some (.agg x.c):=λh=>by rw[aQ h];rfl
  obtain⟨v,⟨b1,b2,rfl,⟨cs1,rfl,c1,o1,-⟩,⟨cx,rfl,c2,o2,-⟩,-⟩,Z⟩:=x70 d (E:=E) (O:=O) h i hx;obtain⟨M4,f⟩:∃M:Mem,M=(t.new (0,12,8) (.row gQ 0 false)).new (0,13,9) (.row gQ 0 false):=⟨_,rfl⟩;have F:M4.get (0,12,8)=some (.row [AV.sc (.pointer none),nilS,nilS,nilS,nilS] 0 false):=(by rw[f,Mem.dH,aB (by decide),Mem.dH,aF rfl,J4]);have H:M4.get (0,13,9)=some (.row [AV.sc (.pointer none),nilS,nilS,nilS,nilS] 0 false):=(by rw[f,Mem.dH,aF rfl,J4]);have K:M4.get (0,1,5)=some (.row x.c 0 false):=(by rw[f,Mem.dH,aB (by decide),Mem.dH,aB (by decide)];exact n);obtain⟨M5,w1,w2,w3,w4⟩:=oT (z:=5) (x:=.agg cs1) F c1 rfl o1;have N:M5.get (0,13,9)=some (.row [AV.sc (.pointer none),nilS,nilS,nilS,nilS] 0 false):=(by rw[w3 _ (by decide)];exact H);obtain⟨u,v1,v2,v3,v4⟩:=oT (z:=5) (x:=.agg cx) N c2 rfl o2;have P:u.get (0,1,5)=some (.row x.c 0 false):=(by rw[v3 _ (by decide),w3 _ (by decide)];exact K);have Q:u.next=1:=(by rw[v2,w2,f];show t.next=1;rw[n2,n1]);simp only[mem0,X,Y,l5,lx n,aG,Z,kU,jU,jV,kK,bR,<-f,w4,v4,gC];by_cases g:pQ E O W J C L x=0;case neg=>simp only[eY g,cF,aT];exact RetF.tup rfl ⟨_,rfl,λh=>absurd h g⟩
  have o:L.length<=1000:=by
   have c0:(bM E O W J C L).2.1=0:=by
    unfold pQ at g;split at g
    .rename_i c;exact absurd g c
    .rename_i c;exact Classical.byContradiction c
   have:=(xY c0).2.1;omega
  obtain⟨r,M7,e1,e2,e3,e4⟩:=x7z (d+26) h.a o u;have R:M7.get (0,1,5)=some (.row x.c 0 false):=(by rw[e4 _ (by rw[Q];decide)];exact P);obtain⟨r',M8,e5,a',e6,e7⟩:=e2.app o x (0,23,26);have mk:bU 1 [a]=2:=(by rcases h.a with ⟨rfl,-⟩|⟨y,rfl⟩<;>rfl);simp only[eX g,cN,aV,e1,aG,lx R,JY,x16,e5,mk,LD (id:=(0,1,5)) (show 0<u.next by rw[Q];decide),x3h (id:=(0,22,25)) (show 0<u.next by rw[Q];decide),gD,bD];refine RetF.mk (a':=.tup [a',I 0]) ?_ ⟨_,by rw[g],λ_=>e7⟩;show([r',I 0].mapM (Go.Ix.frz M8.get 5)).map AV.tup=_;rw[eI,e6];rfl
 obtain⟨v,⟨r,rfl,h1⟩,h2⟩:=zK j w;exact⟨r,h2,h1⟩
def x8y{L:List Ent}{x:Ent}(h:pQ E O W J C L x=0)(g:L.length<=39):(bM E O W J C L).2.1=0/\(bM E O W J C (L++[x])).2.1=0:=by
 unfold pQ at h;split at h
 .rename_i c;exact absurd h c
 rename_i c;have a:(bM E O W J C L).2.1=0:=Classical.byContradiction c;refine⟨a,?_⟩;obtain⟨d,i,e,f⟩:=xY a;rw[f]at h;rw[xcb d (by rw[eA];show L.length+1<=40;omega),xce L [x] 0 [] X0 e];simp only[eT];rw[aB (λb=>b h)]
end Go.Ix
namespace Go.Ix
open Go.Proofs
variable{W bl':List Bd}{J:List Pn}{C:List Pe}{E O:Int}{X:St10}
def xcd:∀(L:List Ent) (k:Nat) (F:List (List UInt8)) (X:St10),InvF W k F X->(∀x∈L,x.tx.length<=1000)->(eT O E W J C k L F X).2.1=0->InvF W (k+L.length) (eT O E W J C k L F X).2.2.1 (eT O E W J C k L F X).2.2.2
 |[],_,_,_,h,_,_=>h
 |x::r,k,F,X,h,d,a=>by
  have Z:=xfr (O:=O) (E:=E) (J:=J) (C:=C) h (by_:=⟨x.by_.toArray⟩) (d x (by simp));simp only[eT]at a ⊢;by_cases c:(jL O E W J C F X ⟨x.by_.toArray⟩ x.tx).1=0
  .rw[aB (λh=>h c)]at a ⊢;rcases Z with ⟨b,-⟩|⟨-,b⟩
   .exact absurd c b
   .have:=xcd r (k+1) _ _ b (λy e=>d y (eE _ e)) a;rw[dN,show k+(r.length+1)=k+1+r.length by omega];exact this
  .rw[aF c]at a;exact absurd a c
def x19:((aH 40 [] ZG [] mem0).map (λp=>p.1))=some (B true):=by kernel_rfl
def xkr(m:Mem):aI (aH 40) ZG [] m=some (B true,m):=by have h:=x19;rw[cE]at h;obtain⟨⟨r,b⟩,a,rfl⟩:=h;exact gA rfl a rfl
end Go.Ix
namespace Go.Ix
open Go.Proofs
variable{ba pa A:AV}{W:List Bd}{J:List Pn}{C:List Pe}{E O:Int}{X:St10}
def GkS(m:Mem)(a:AV)(l:List Ent):Prop:=(a=nilS/\l=[])\/∃id d b,a=.sref id d 0 l.length 2 true/\m.get id=some (.row (l.flatMap Ent.c) d b)
def GkS.frz{m:Mem}{a:AV}{l:List Ent}(h:GkS m a l):∃e,Sl Ent.c e l/\Go.Ix.frz m.get bI a=some e:=by
 rcases h with ⟨rfl,rfl⟩|⟨id,d,b,rfl,g⟩
 .exact⟨nilS,Or.inl ⟨rfl,rfl⟩,rfl⟩
 .have i:=gG Ent.len l;refine⟨.aN (l.flatMap Ent.c) l.length false,Sl.lit l false,?_⟩
  have:=pI (aC:=m.get) (id:=id) (cs:=l.flatMap Ent.c) (ver:=d) (off:=0) (n:=l.length) (z:=2) (k:=4) (f:=b) (x:=true) g (by omega) (by
   rw[bC,dM (by omega)];exact oD Ent.stl l)
  rw[bC,dM (by omega)]at this;exact this
def GkS.shut{m:Mem}{a:AV}{l:List Ent}(h:GkS m a l)(d:List Id):GkS ⟨lH d m.hp,m.next⟩ a l:=by
 rcases h with h|⟨id,ver,b,h1,hg⟩
 .exact .inl h
 .obtain⟨e,f⟩:=xaq (ids:=d) hg;exact .inr ⟨id,ver,e,h1,f⟩
def xxx{L:List Scene}{Q:List OPr}:(fP L Q).length<=L.length:=by
 unfold fP;split
 .unfold xM;cases decide (lZ L (Q.map OPr.q) (Q.map OPr.f) (on10 Q.length) (kP Q)=0)
  .simp
  .simp[BC]
 .simp
def xxy{L:List Scene}{Q:List OPr}:(yN L Q).length<=Q.length:=by
 unfold yN;split
 .unfold vK;generalize (decide (rR L (Q.map OPr.q) (Q.map OPr.f) (on10 Q.length)=0)&&wi (kP Q) 0 ((L.length:Int)-1))=b;cases b
  .simp
  .refine iQ (FT _ _) ?_;simp[freshM]
 .simp
def xn0(h:lI E O W J C=0){i:Nat}(a:i<C.length):nmOK C[i].nm=true/\idxQ (nmQ Pe.nm C[i].nm) 0 C=i:=by
 unfold lI at h;split at h;case isFalse=>cases h
 split at h
 .cases h
 obtain⟨m,h⟩:=lM h;split at h
 .cases h
 obtain⟨n,h⟩:=lM h;split at h
 .cases h
 split at h
 .cases h
 have b:=EV h i a;unfold xX at b;obtain⟨e,f⟩:=JS (lM b).1;refine⟨e,?_⟩
 rw[KI (q:=nmQ Pe.nm C[i].nm) (l:=C) (i:=i) 0 a (by unfold nmQ iB;simp) (λj g d=>by
  refine f C[j].nm (MA _ (fF.mpr ⟨C[j],?_,rfl⟩))
  rw[vB]
  exact⟨j,by rw[oH];omega,by rw[V8]⟩)]
 omega
def xyg{P:List AV}(hP:P=[I E,I O,ba,pa,A])(h1:Sl Bd.c ba W)(X:Sl Pn.c pa J)(h3:Sl Pe.c A C){t u w F b7 n:AV}{d:List Bd}{L fr:List Ent}(ha:Sl Ent.c F L)(hcs:∀m,aI (aH 40) sC [.agg P] m=some (.agg [I E,I O,t,u,w],m))(hcl:∀m,aI (aH 40) sD [F] m=some (b7,m))(hS:SmO t u w d J C b7 L)(Z:(bM E O d J C L).2.1=0)(hcf:∀a,Sl Ent.c a fr->∃b,(∀m,aI (aH 40) sD [a] m=some (b,m))/\SmO t u w d J C b fr)(hf:(bM E O d J C fr).2.1=0)(H:(bM E O d J C fr).2.2.2.L=(bM E O d J C L).2.2.2.L)(K:(bM E O d J C fr).2.2.2.S=(bM E O d J C L).2.2.2.S)(hln:J.length<=1000) :
    ∀(r:List Pn) (i j:Nat) (m:Mem) (Y:Nat),J.drop i=r->r.length<j->0<m.next->(∃f,m.get (0,0,3)=some (.row P 0 f))->GkS m n fr ->
     ∃m',W4 (aH 40) [] 0 j (.ptr (0,0,3) 0 0) F n (I (i:Int)) m Y=some (B true,m'):=by
 subst hP;obtain⟨hO,-,-,hX⟩:=hS.ok Z;have hN:=XY (xY Z).1;have q1:eM ba=true:=(by rcases h1 with ⟨rfl,-⟩|⟨y,rfl⟩<;>rfl);have q2:eM pa=true:=(by rcases X with ⟨rfl,-⟩|⟨y,rfl⟩<;>rfl);have q3:eM A=true:=(by rcases h3 with ⟨rfl,-⟩|⟨y,rfl⟩<;>rfl);have mk1:bU 0 [.agg [I E,I O,ba,pa,A]]=2:=(by rw[C5,show([.agg [I E,I O,ba,pa,A]]:List AV).all clean=true by simp[clean,q1,q2,q3]];rfl);have mk2:bU 0 [F]=2:=by
  rw[C5,show([F]:List AV).all clean=true by
   rcases ha with ⟨rfl,-⟩|⟨y,rfl⟩<;>rfl];rfl
 have l3:∀{m:Mem} {f:Bool},m.get (0,0,3)=some (.row [I E,I O,ba,pa,A] 0 f)->aA false 1 (.ptr (0,0,3) 0 3) m=some pa:=λh=>by rw[aQ h];rfl
 have l5:∀{m:Mem} {f:Bool},m.get (0,0,3)=some (.row [I E,I O,ba,pa,A] 0 f)->aA true 5 (.ptr (0,0,3) 0 0) m=some (.agg [I E,I O,ba,pa,A]):=λh=>by rw[aQ h];rfl
 intro r;induction r with
 |nil=>intro i j m Y hd hj D e hG;obtain⟨f,e⟩:=e;obtain⟨j,rfl⟩:=dQ hj;have hk:¬((i:Int)<(J.length:Int)):=(by have:=gZ.mp hd;omega);simp only[W4];unfold NR px;simp only[cX,bR,l3 e,aG,X.len qE,bV,hk,bP,aV];exact⟨_,rfl⟩
 |cons x r ih=>
  intro i j m Y hd hj D e hG;obtain⟨f,e⟩:=e;obtain⟨j,rfl⟩:=dQ hj;obtain⟨hi,he,hd1⟩:=gW hd;have hk':((i:Int)<(J.length:Int)):=(by omega);have hw:=iJ i (by omega);obtain⟨g,ix⟩:∃g,aR 4 pa (I (i:Int))=some (.aE (T J[i].nm::g)):=⟨_,by rw[X.ix Pn.len hi,fX hi,dT];rfl⟩;have fa0:aD 0 (.aE (T J[i].nm::g))=some (.aE (T J[i].nm::g)):=rfl;have ld0:∀m,aA false 1 (.aE (T J[i].nm::g)) m=some (T J[i].nm):=λm=>rfl
  obtain⟨p,o,e1,-,e2⟩:=zi 12 (E:=E) (O:=O) hS J[i].nm;obtain⟨a',s1,s2⟩:=hG.frz;obtain⟨b,s3,s4⟩:=hcf a' s1;obtain⟨p',o',e3,-,e4⟩:=zi 12 (E:=E) (O:=O) s4 J[i].nm;have N:=(hN.p i hi).2;have hlk:wE E O d J C fr J[i].nm=wE E O d J C L J[i].nm:=(by unfold wE;rw[hf,Z,H,K]);rw[hlk]at e3;rw[H,K]at e4;obtain⟨p1,p2⟩:=e2 Z (by omega);obtain⟨p3,p4⟩:=e4 hf (by omega);have R:=de (m:=m) (l:=[n]) (l':=[a']) (by rw[eI,s2];rfl) (by rw[dP,s1.bB];rfl) s3;obtain⟨M,hM⟩:∃M:Mem,M=⟨lH ([n].flatMap (Go.Ix.reach m.get bI)) m.hp,m.next⟩:=⟨_,rfl⟩;rw[<-hM]at R;obtain⟨f',g3⟩:=xaq (ids:=[n].flatMap (Go.Ix.reach m.get bI)) e;have hG':=hG.shut ([n].flatMap (Go.Ix.reach m.get bI));rw[<-hM]at g3 hG';have hn':0<M.next:=(by rw[hM];exact D);have i1:∀m,aI (aH 40) yK [p,p'] m=some (B true,m):=λm=>by
   have:=zj 39 p1 p3 (by
    have:=xxx (L:=(bM E O d J C L).2.2.2.L) (Q:=ofPt (idxQ (nmQ Pn.nm J[i].nm) 0 J) (bM E O d J C L).2.2.2.S)
    have:=hX.L
    omega) m
   rw[this,eX rfl]
  have i2:∀m,aI (aH 40) yK [o,o'] m=some (B true,m):=λm=>by
   have:=zj 39 p2 p4 (by
    have:=xxy (L:=(bM E O d J C L).2.2.2.L) (Q:=ofPt (idxQ (nmQ Pn.nm J[i].nm) 0 J) (bM E O d J C L).2.2.2.S)
    have h9:=hX.Q i
    rw[N]at this
    rw[N]
    omega) m
   rw[this,eX rfl]
  simp only[W4];unfold NR;simp only[cX,bR,l3 e,aG,X.len qE,bV,hk',bG,aT,l5 e,hcs,hcl,ix,fa0,ld0,e1,kU,jU,jV,mk1,mk2,LD (id:=(0,0,3)) D,xgh,show Nat.ble 1 2=true from rfl,gD,bD,R,l3 g3,e3,gC,bG,cN,gR,gS,dZ,dX,cF,i1,i2,gE,cW,cZ,aV,dY,hw];exact ih (i+1) j M _ hd1 (by simp at hj;omega) hn' ⟨f',g3⟩ hG'
def xc4{R:Type}(a b:List UInt8)(id:Id)(m:Mem)(K:AV->Mem->Option R):cQ nW [(0,2,.agg [Tx a,Tx b])] 1 2 id m K=K (.aN [Tx a,Tx b] 1 true) m:=JY ⟨a,b⟩ id m K
theorem xfu(d:Id->Option Ob)(a b:List UInt8):elems d 2 (.aN [Tx a,Tx b] 1 true)=some ([Tx a,Tx b],1):=rfl
theorem xzc:(AV.sc (.string ⟨#[115,99,101,110,101,32]⟩))=Tx (kwS++[32]):=rfl
theorem xzd:(AV.sc (.string ⟨#[112,97,105,114,32]⟩))=Tx (kwP++[32]):=rfl
theorem xdw:(AV.sc (.string ⟨#[32]⟩))=Tx [32]:=rfl
def uG(j:Id):Prop:=j.2.2=137\/j.2.2=217
structure Me (P Q:List AV) (i9:Id) (m:Mem):Prop where
 n:0<m.next
 s:m.get (0,0,3)=some (.row P 0 false)
 x:m.get i9=some (.row Q 0 false)
def Me.mv{P Q:List AV}{a:Id}{m m':Mem}(h:Me P Q a m)(d:a.2.2=9)(e:m'.next=m.next)(b:∀j:Id,j.2.2=3\/j.2.2=9->m'.get j=m.get j):Me P Q a m':=
 ⟨by rw[e];exact h.n,by rw[b _ (.inl rfl)];exact h.s,by rw[b _ (.inr d)];exact h.x⟩
def xye{R:Option (AV×Mem)->Prop}{P:List AV}{s p v c t7:AV}{g:Id}(h9:g.2.2=9){a:List UInt8}(o:Sl Scene.c s X.L)(C:InvSP J X)(hQ:∀(b:AV) (m:Mem) (Y:Nat),Me P [s,p,v,c] g m->Gk 2 Ent.c uG m b (X.L.map (lJ a))->R (NL (aH 40) [] 0 (.ptr (0,0,3) 0 0) t7 (.ptr g 0 0) (Tx a) b m Y)) :
    ∀(f:List Scene) (i j:Nat) (b:AV) (m:Mem) (Y:Nat),X.L.drop i=f->f.length<j->Me P [s,p,v,c] g m->Gk 2 Ent.c uG m b ((X.L.take i).map (lJ a)) ->
     R (W3 (aH 40) [] 0 j (.ptr (0,0,3) 0 0) t7 (.ptr g 0 0) (Tx a) b (I (i:Int)) m Y):=by
 intro f;induction f with
 |nil=>intro i j b m Y D d t A;obtain⟨j,rfl⟩:=dQ d;have E:=gZ.mp D;have hk:¬((i:Int)<(X.L.length:Int)):=(by omega);have F:aA false 1 (.ptr g 0 0) m=some s:=(by rw[aQ t.x];rfl);simp only[W3];unfold NK;simp only[cX,bR,F,aG,o.len lF,bV,hk,bP,aV];rw[dM E]at A;exact hQ _ _ _ t A
 |cons x f ih=>
  intro i j b m Y D d t A;obtain⟨j,rfl⟩:=dQ d;obtain⟨y,Z,hd1⟩:=gW D;have hn:=C.Ln;have hk':((i:Int)<(X.L.length:Int)):=(by omega);have hw:=iJ i (by omega);have F:∀{m:Mem},Me P [s,p,v,c] g m->aA false 1 (.ptr g 0 0) m=some s:=λh=>by rw[aQ h.x];rfl
  have ix:=o.ix Scene.len y;have ld:∀m,aA true 3 (.aE ((X.L.drop i).flatMap Scene.c)) m=some (.agg X.L[i].c):=λm=>jF (m:=m) Scene.len (by omega) y
  rw[Z]at ld;obtain⟨M,n1,g1,k1,hM1⟩:=kY (z:=3) (cs:=mV) (x:=.agg x.c) rfl rfl (by rw[AF];rfl) (0,Y+10,16) m;have g1':M.get (0,Y+10,16)=some (.row [T x.nm,I x.day,I x.bl] 0 false):=g1;have u:∀j:Id,j.2.2≠16->M.get j=m.get j:=λj d=>k1 j λh=>d (by rw[h])
  have hM':=t.mv (m':=M) h9 n1 λj d=>u j (by rcases d with e|e<;>rw[e]<;>decide)
  have hG':Gk 2 Ent.c uG M b ((X.L.take i).map (lJ a)):=A.frame λj d=>u j (by rcases d with e|e<;>rw[e]<;>decide)
  have l0:aA false 1 (.ptr (0,Y+10,16) 0 0) M=some (Tx x.nm.data.toList):=(by rw[aQ g1',<-FK];rfl);have l1:aA false 1 (.ptr (0,Y+10,16) 0 1) M=some (I x.day):=(by rw[aQ g1'];rfl);have l2:aA false 1 (.ptr (0,Y+10,16) 0 2) M=some (I x.bl):=(by rw[aQ g1'];rfl);have H:=(qU (C.idx y).1).2;obtain⟨r1,r2⟩:=C.rng y;rw[Z]at H r1 r2;have d1:=λm=>WV 38 (n:=x.day) (by omega) (by omega) m
  have d2:=λm=>WV 38 (n:=x.bl) (by omega) (by omega) m
  have z1:=F3 x.day;have z2:=F3 x.bl;have w:kwS.length=5:=rfl;have a1:=λp q=>mY p q (l:=kwS++[32]) (k:=x.nm.data.toList) (by simp only[eA,dN,gY,w];omega)
  have a2:=λp q=>mY p q (l:=kwS++[32]++x.nm.data.toList) (k:=[32]) (by simp only[eA,dN,gY,w];omega)
  have a3:=λp q=>mY p q (l:=kwS++[32]++x.nm.data.toList++[32]) (k:=dI x.day) (by simp only[eA,dN,gY,w];omega)
  have a4:=λp q=>mY p q (l:=kwS++[32]++x.nm.data.toList++[32]++dI x.day) (k:=[32]) (by simp only[eA,dN,gY,w];omega)
  have a5:=λp q=>mY p q (l:=kwS++[32]++x.nm.data.toList++[32]++dI x.day++[32]) (k:=dI x.bl) (by simp only[eA,dN,gY,w];omega)
  have K:kwS++[32]++x.nm.data.toList++[32]++dI x.day++[32]++dI x.bl=mA x:=(by unfold mA;simp);rw[K]at a5;have htl:((X.L.take i).map (lJ a)).length=i:=(by rw[lU,oH];omega);obtain⟨v',M2,A5,G5,-,-,n5,f5⟩:=Gk.app (ok:=uG) (l:=(X.L.take i).map (lJ a)) (bytes:=32) (id0:=(0,Y+29,137)) Ent.len (by omega) (.inl rfl) (by unfold cH;omega) hG' (lJ a x);have A5':∀{R:Type} (k:AV->Mem->Option R),cJ 2 32 (0,Y+29,137) (some ([Tx a,Tx (mA x)],1)) b M k=k v' M2:=λk=>A5 k
  have N:=hM'.mv (m':=M2) h9 n5 λj d=>f5 j (λr=>by unfold uG at r;rcases d with e|e<;>rw[e]at r<;>rcases r with r|r<;>cases r)
  have O:(X.L.take (i+1)).map (lJ a)=(X.L.take i).map (lJ a)++[lJ a x]:=(by rw[List.take_add_one,eJ y,Z];simp);rw[<-O]at G5;have Q:∀x:Int,bU 0 [I x]=2:=λ_=>rfl
  have W:(0,Y+10,16).1<M.next:=hM'.n;simp only[W3];unfold NK;simp only[cX,bR,F t,aG,o.len lF,bV,hk',bG,aT,ix,ld,hM1,xzc,xdw,l0,l1,l2,a1,a2,a3,a4,a5,d1,d2,xg6,xc4,xfu,A5',Q,xgy,LD (id:=(0,Y+10,16)) W,show Nat.ble 1 2=true from rfl,gD,bD,dY,hw];exact ih (i+1) j v' M2 _ hd1 (by simp at d;omega) N G5
def xyh{R:Option (AV×Mem)->Prop}{P:List AV}(hP:P=[I E,I O,ba,pa,A])(h2:Sl Pn.c pa J)(hpl:J.length<=1000)(hpn:∀y∈J,nmOK y.nm=true){s p v c t7 t13:AV}{r:Id}(h9:r.2.2=9){d:List UInt8}(ht13:t13=Tx d)(K:Sl Scene.c s X.L)(N:Sl OPr.c p X.S)(hI:InvSP J X)(hS:X.S.length<=1000)(Q:∀m,R (some (B true,m)))(hQ:∀(o:AV) (m:Mem) (Y:Nat),(∀q∈X.S,-100000<=q.f/\q.f<=100000)->Me P [s,p,v,c] r m->Gk 2 Ent.c uG m o (sP d J X)->R (NO (aH 40) [] 0 (.ptr (0,0,3) 0 0) t7 o m Y)) :
    ∀(u:List OPr) (i j:Nat) (o:AV) (m:Mem) (Y:Nat),X.S.drop i=u->u.length<j->(∀q∈X.S.take i,-100000<=q.f/\q.f<=100000)->Me P [s,p,v,c] r m->Gk 2 Ent.c uG m o (X.L.map (lJ d)++(X.S.take i).map (qR d J X.L)) ->
     R (H3 (aH 40) [] 0 j (.ptr (0,0,3) 0 0) t7 (.ptr r 0 0) t13 o (I (i:Int)) m Y):=by
 subst hP;subst ht13;intro u;induction u with
 |nil=>intro i j o m Y hd t hf hM hG;obtain⟨j,rfl⟩:=dQ t;have hle:=gZ.mp hd;have hk:¬((i:Int)<(X.S.length:Int)):=(by omega);have ls:aA false 1 (.ptr r 0 1) m=some p:=(by rw[aQ hM.x];rfl);simp only[H3];unfold GF;simp only[cX,bR,ls,aG,N.len vJ,bV,hk,bP,aV];rw[dM hle]at hG hf;exact hQ _ _ _ hf hM hG
 |cons x u ih=>
  intro i j o m Y hd t hf hM hG;obtain⟨j,rfl⟩:=dQ t;obtain⟨hi,he,hd1⟩:=gW hd;have hn:=hI.Ln;have hk':((i:Int)<(X.S.length:Int)):=(by omega);have hw:=iJ i (by omega);obtain⟨⟨b1,b2,b3,b4,b5⟩,-⟩:=hI.S i hi;rw[he]at b1 b2 b3 b4 b5;obtain⟨w,hkp⟩:=Int.eq_ofNat_of_zero_le b1;obtain⟨F,hka⟩:=Int.eq_ofNat_of_zero_le b3;obtain⟨H,hkb⟩:∃k:Nat,x.b=(k:Int):=Int.eq_ofNat_of_zero_le (by omega);have ep:w<J.length:=(by omega);have ea':F<X.L.length:=(by omega);have eb:H<X.L.length:=(by omega);have ls0:∀{m:Mem},Me [I E,I O,ba,pa,A] [s,p,v,c] r m->aA false 1 (.ptr r 0 0) m=some s:=λh=>by rw[aQ h.x];rfl
  have ls1:∀{m:Mem},Me [I E,I O,ba,pa,A] [s,p,v,c] r m->aA false 1 (.ptr r 0 1) m=some p:=λh=>by rw[aQ h.x];rfl
  have l33:∀{m:Mem},Me [I E,I O,ba,pa,A] [s,p,v,c] r m->aA false 1 (.ptr (0,0,3) 0 3) m=some pa:=λh=>by rw[aQ h.s];rfl
  have ix:=N.ix OPr.len hi;have ld:∀m,aA true 4 (.aE ((X.S.drop i).flatMap OPr.c)) m=some (.agg X.S[i].c):=λm=>jF (m:=m) OPr.len (by omega) hi
  rw[he]at ld;obtain⟨M,n1,g1,k1,hM1⟩:=kY (z:=4) (cs:=pX) (x:=.agg x.c) rfl rfl xo (0,Y+10,18) m;have g1':M.get (0,Y+10,18)=some (.row [I w,I F,I H,I x.f] 0 false):=(by rw[g1];show some (Ob.row [I x.pt,I x.a,I x.b,I x.f] 0 false)=_;rw[hkp,hka,hkb]);have hkk:∀j:Id,j.2.2≠18->M.get j=m.get j:=λj t=>k1 j λh=>t (by rw[h])
  have hM':=hM.mv (m':=M) h9 n1 λj t=>hkk j (by rcases t with e|e<;>rw[e]<;>decide)
  have hG':Gk 2 Ent.c uG M o (X.L.map (lJ d)++(X.S.take i).map (qR d J X.L)):=hG.frame λj t=>hkk j (by rcases t with e|e<;>rw[e]<;>decide)
  have l0:aA false 1 (.ptr (0,Y+10,18) 0 0) M=some (I (w:Int)):=(by rw[aQ g1'];rfl);have l1:aA false 1 (.ptr (0,Y+10,18) 0 1) M=some (I (F:Int)):=(by rw[aQ g1'];rfl);have l2:aA false 1 (.ptr (0,Y+10,18) 0 2) M=some (I (H:Int)):=(by rw[aQ g1'];rfl);have l3:aA false 1 (.ptr (0,Y+10,18) 0 3) M=some (I x.f):=(by rw[aQ g1'];rfl);have wp:cG ((J.length:Int)-1)=(J.length:Int)-1:=bQ;have wl:cG ((X.L.length:Int)-1)=(X.L.length:Int)-1:=bQ;have wi1:wi (w:Int) 0 ((J.length:Int)-1)=true:=wi_iff.mpr ⟨by omega,by omega⟩;have wi2:wi (F:Int) 0 ((X.L.length:Int)-1)=true:=wi_iff.mpr ⟨by omega,by omega⟩;have wi3:wi (H:Int) 0 ((X.L.length:Int)-1)=true:=wi_iff.mpr ⟨by omega,by omega⟩;have hwi:=λa b c m=>xlh 39 a b c m
  have hu:H3 (aH 40) [] 0 (j+1) (.ptr (0,0,3) 0 0) t7 (.ptr r 0 0) (Tx d) o (I (i:Int)) m Y=GF (aH 40) [] 0 (H3 (aH 40) [] 0 j) (.ptr (0,0,3) 0 0) t7 (.ptr r 0 0) (Tx d) o (I (i:Int)) m Y:=rfl;rw[hu];unfold GF;simp only[cX,bR,ls1 hM,aG,N.len vJ,bV,hk',bG,aT,ix,ld,hM1,l0,l1,l2,l3,l33 hM',ls0 hM',h2.len qE,K.len lF,nX,wp,wl,hwi,wi1,wi2,wi3,gE,cN,dZ,gS,dX,cF,bD,cW,cZ,aV];cases c5:wi x.f (-100000) 100000
  .simp only[cF,aT];exact Q _
  have hfx:=xJ c5;obtain⟨rp,ixp⟩:∃g,aR 4 pa (I (w:Int))=some (.aE (T J[w].nm::g)):=⟨_,by rw[h2.ix Pn.len ep,fX ep,dT];rfl⟩;obtain⟨ra,ixa⟩:∃g,aR 3 s (I (F:Int))=some (.aE (T X.L[F].nm::g)):=⟨_,by rw[K.ix Scene.len ea',fX ea',dT];rfl⟩;obtain⟨rb,ixb⟩:∃g,aR 3 s (I (H:Int))=some (.aE (T X.L[H].nm::g)):=⟨_,by rw[K.ix Scene.len eb,fX eb,dT];rfl⟩;have fa0:∀(y:AV) g,aD 0 (.aE (y::g))=some (.aE (y::g)):=λ_ _=>rfl
  have C:∀(y:ByteArray) g m,aA false 1 (.aE (T y::g)) m=some (Tx y.data.toList):=λy _ _=>by rw[<-FK];rfl
  have hp1:=(qU (hpn J[w] (fG ep))).2;have hp2:=(qU (hI.idx ea').1).2;have hp3:=(qU (hI.idx eb).1).2;have d1:=λm=>WV 38 (n:=x.f) (by omega) (by omega) m
  have z1:=F3 x.f;have Z:kwP.length=4:=rfl;generalize hna:J[w].nm.data.toList=D at hp1 C;generalize hnb:X.L[F].nm.data.toList=nb at hp2;generalize hnc:X.L[H].nm.data.toList=nc at hp3;have e1:∀m,aA false 1 (.aE (T J[w].nm::rp)) m=some (Tx D):=λm=>by rw[C,hna]
  have e2:∀m,aA false 1 (.aE (T X.L[F].nm::ra)) m=some (Tx nb):=λm=>by rw[C,hnb]
  have e3:∀m,aA false 1 (.aE (T X.L[H].nm::rb)) m=some (Tx nc):=λm=>by rw[C,hnc]
  have a1:=λp q=>mY p q (l:=kwP++[32]) (k:=D) (by simp only[eA,dN,gY,Z];omega)
  have a2:=λp q=>mY p q (l:=kwP++[32]++D) (k:=[32]) (by simp only[eA,dN,gY,Z];omega)
  have a3:=λp q=>mY p q (l:=kwP++[32]++D++[32]) (k:=nb) (by simp only[eA,dN,gY,Z];omega)
  have a4:=λp q=>mY p q (l:=kwP++[32]++D++[32]++nb) (k:=[32]) (by simp only[eA,dN,gY,Z];omega)
  have a5:=λp q=>mY p q (l:=kwP++[32]++D++[32]++nb++[32]) (k:=nc) (by simp only[eA,dN,gY,Z];omega)
  have a6:=λp q=>mY p q (l:=kwP++[32]++D++[32]++nb++[32]++nc) (k:=[32]) (by simp only[eA,dN,gY,Z];omega)
  have a7:=λp q=>mY p q (l:=kwP++[32]++D++[32]++nb++[32]++nc++[32]) (k:=dI x.f) (by simp only[eA,dN,gY,Z];omega)
  have hsc:kwP++[32]++D++[32]++nb++[32]++nc++[32]++dI x.f=uC J X.L x:=(by unfold uC;rw[hkp,hka,hkb,hJ,hJ,hJ,eJ ep,eJ ea',eJ eb,Option.map_some,Option.map_some,Option.map_some,Option.getD_some,Option.getD_some,Option.getD_some,hna,hnb,hnc];simp);rw[hsc]at a7;have htl:(X.L.map (lJ d)++(X.S.take i).map (qR d J X.L)).length<=1012:=(by rw[eA,lU,lU,oH];omega);obtain⟨v',M2,A5,G5,-,-,n5,f5⟩:=Gk.app (ok:=uG) (l:=X.L.map (lJ d)++(X.S.take i).map (qR d J X.L)) (bytes:=32) (id0:=(0,Y+79,217)) Ent.len (by omega) (.inr rfl) (by unfold cH;omega) hG' (qR d J X.L x);have A5':∀{R:Type} (k:AV->Mem->Option R),cJ 2 32 (0,Y+79,217) (some ([Tx d,Tx (uC J X.L x)],1)) o M k=k v' M2:=λk=>A5 k
  have hM2:=hM'.mv (m':=M2) h9 n5 λj t=>f5 j (λhh=>by unfold uG at hh;rcases t with e|e<;>rw[e]at hh<;>rcases hh with hh|hh<;>cases hh)
  have htk:X.L.map (lJ d)++(X.S.take (i+1)).map (qR d J X.L)=X.L.map (lJ d)++(X.S.take i).map (qR d J X.L)++[qR d J X.L x]:=(by rw[List.take_add_one,eJ hi,he];simp);rw[<-htk]at G5;have mkI:∀x:Int,bU 0 [I x]=2:=λ_=>rfl
  simp only[cN,aV,l33 hM',ls0 hM',aG,ixp,ixa,ixb,fa0,e1,e2,e3,cX,bR,l0,l1,l2,l3,xzd,xdw,a1,a2,a3,a4,a5,a6,a7,d1,xg6,xc4,xfu,A5',mkI,xgy,show Nat.ble 1 2=true from rfl,gD,bD,dY,hw]
  exact ih (i+1) j v' M2 _ hd1 (by simp at t;omega) (λq W=>by
   rw[List.take_add_one,eJ hi,he]at W
   rcases iF.mp W with W|W
   .exact hf q W
   .simp at W;rw[W];exact hfx) hM2 G5
def ChO(C:List Pe)(c:Int):Prop:=c=-1\/∃(k:Nat) (h:k<C.length),c=(k:Int)/\C[k].role=3
def xy4{R:Option (AV×Mem)->Prop}{P Q:List AV}(D:P=[I E,I O,ba,pa,A])(g:Sl Pe.c A C)(F:C.length<=1000){u d:AV}{h:Id}{m:Mem}(H:Me P Q h m)(J:∀(c:Int) (Y:Nat),ChO C c->R (NJ (aH 40) [] 0 (.ptr (0,0,3) 0 0) u (.ptr h 0 0) d (I c) m Y)) :
    ∀(b:List Pe) (i j:Nat) (c:Int) (Y:Nat),C.drop i=b->b.length<j->ChO C c->R (W2 (aH 40) [] 0 j (.ptr (0,0,3) 0 0) u (.ptr h 0 0) d (I c) (I (i:Int)) m Y):=by
 subst D;have w:aA false 1 (.ptr (0,0,3) 0 4) m=some A:=(by rw[aQ H.s];rfl);intro b;induction b with
 |nil=>intro i j c Y l e n;obtain⟨j,rfl⟩:=dQ e;have K:=gZ.mp l;have L:¬((i:Int)<(C.length:Int)):=(by omega);simp only[W2];unfold NQ;simp only[cX,bR,w,aG,g.len vI,bV,L,bP,aV];exact J _ _ n
 |cons x b y=>
  intro i j c Y l e n;obtain⟨j,rfl⟩:=dQ e;obtain⟨r,N,f⟩:=gW l;have hk':((i:Int)<(C.length:Int)):=(by omega);have M:=iJ i (by omega);obtain⟨a,ix⟩:∃a,aR 2 A (I (i:Int))=some (.aE (T C[i].nm::I C[i].role::a)):=⟨_,by rw[g.ix Pe.len r,fX r,dT];rfl⟩;have o:aD 1 (.aE (T C[i].nm::I C[i].role::a))=some (.aE (I C[i].role::a)):=rfl;have p:∀m,aA false 1 (.aE (I C[i].role::a)) m=some (I C[i].role):=λm=>rfl
  simp only[W2];unfold NQ pu NI;simp only[cX,bR,w,aG,g.len vI,bV,hk',bG,aT,ix,o,p,iD,dY,M];by_cases t:C[i].role=3
  .simp only[eX t,aT];exact y (i+1) j _ _ f (by simp at e;omega) (.inr ⟨i,r,rfl,t⟩)
  .simp only[eY t,aV];exact y (i+1) j _ _ f (by simp at e;omega) n
def x0y(d:InvSP J X)(g:∀y∈J,nmOK y.nm=true){j:List UInt8}:∀e∈sP j J X,e.tx.length<=1000:=by
 intro e n;unfold sP at n;rcases iF.mp n with h|h
 .obtain⟨s,Z,rfl⟩:=fF.mp h;obtain⟨i,m,rfl⟩:=vB.mp Z;have r:=(qU (d.idx m).1).2;have t:=F3 X.L[i].day;have w:=F3 X.L[i].bl;show(mA X.L[i]).length<=1000;unfold mA;have l:kwS.length=5:=rfl;simp only[eA,dN,l];omega
 .obtain⟨q,u,rfl⟩:=fF.mp h;obtain⟨i,m,rfl⟩:=vB.mp u;obtain⟨⟨D,E,F,H,K⟩,-⟩:=d.S i m;have o:X.S[i].pt.toNat<J.length:=(by omega);have A:X.S[i].a.toNat<X.L.length:=(by omega);have p:X.S[i].b.toNat<X.L.length:=(by omega);have r:=(qU (g J[X.S[i].pt.toNat] (fG o))).2;have x:=(qU (d.idx A).1).2;have C:=(qU (d.idx p).1).2;have t:=F3 X.S[i].f;show(uC J X.L X.S[i]).length<=1000;unfold uC;have l:kwP.length=4:=rfl;rw[eJ o,eJ A,eJ p,Option.map_some,Option.map_some,Option.map_some,Option.getD_some,Option.getD_some,Option.getD_some];simp only[eA,dN,l];omega
def law_TopReprocessedAnew(Z:Sl Bd.c ba W)(P:Sl Pn.c pa J)(t:Sl Pe.c A C)(E O:Int){a:AV}{L:List Ent}(ha:Sl Ent.c a L)(hmax:L.length<=9223372036854775807)(x:Ent):∃u,aH 41 [] JT [.agg [I E,I O,ba,pa,A],a,.agg x.c] mem0=some (B true,u):=by
 rw[x3m];unfold ft fC NP;have ho:(AV.agg [I E,I O,ba,pa,A]).cells.all AV.one=true:=(by rw[pM];simp[Z.one,P.one,t.one]);obtain⟨M1,n1,g1,k1,hM1⟩:=kR (x:=.agg [I E,I O,ba,pa,A]) ho (0,0,3) ⟨[],0+1⟩;obtain⟨l,n2,g2,k2,hM2⟩:=kR (x:=.agg x.c) rfl (0,0+1,5) M1;have g1':l.get (0,0,3)=some (.row [I E,I O,ba,pa,A] 0 false):=(by rw[k2 _ (by decide)];exact g1);have g2':l.get (0,0+1,5)=some (.row x.c 0 false):=g2;have hm0:0<l.next:=(by rw[n2,n1];decide);have l5:aA true 5 (.ptr (0,0,3) 0 0) l=some (.agg [I E,I O,ba,pa,A]):=(by rw[aQ g1'];rfl);have l2:aA true 2 (.ptr (0,0+1,5) 0 0) l=some (.agg x.c):=(by rw[aQ g2'];rfl);have hsl:aI (aH 40) R8 [.agg [I E,I O,ba,pa,A]] l=some (B (xO W J C),l):=xll 39 Z P t l;have hb:=λm=>zp 39 ha hmax m
 have hx1:Sl Ent.c (.aN x.c 1 true) [x]:=Or.inr ⟨true,by simp⟩;have g:=λm=>zp 39 hx1 (by simp) m
 simp only[mem0,hM1,hM2,xkr,aG,gE,cN,aV,l5,hsl];cases c1:xO W J C
 .simp only[cF,gR,dZ,gS,dX,cN,cZ,aG,cW,bD,aT];exact⟨_,rfl⟩
 obtain⟨hbn,hp,he,hnb,hnp,hne⟩:=XV c1;cases c2:(wT L&&(decide (L.length<=20)||(decide (40<L.length)&&decide (L.length<=42))))
 .rw[c2]at hb;simp only[cN,gR,dZ,gS,dX,cF,bD,aG,hb,gE,cW,cZ,aT];exact⟨_,rfl⟩
 rw[c2]at hb;obtain⟨hL,hl⟩:=xg2 c2;have hLn:L.length<=20\/40<L.length:=(by rw[cI,lD,cI,mR,mR,mR]at c2;omega);cases N:(wT [x]&&(decide ([x].length<=20)||(decide (40 < [x].length)&&decide ([x].length<=42))))
 .rw[N]at g;simp only[cN,gR,dZ,gS,dX,cF,bD,aG,hb,l2,JY,g,gE,cW,cZ,aT];exact⟨_,rfl⟩
 rw[N]at g;have hx:x.tx.length<=1000:=((xg2 N).1 x (by simp)).2;obtain⟨ba',pa',ea',e,w,D,F,H,K⟩:=x7v 39 Z P t c1 E O;obtain⟨b,b1,hcl⟩:=di 39 ha (by omega);have hS:SmO ba' pa' ea' e J C b L:=SmO.mk10 w D F H c1 b1 (by omega) (λx hx=>(hL x hx).2);obtain⟨r,r1,r2⟩:=xl7 12 (E:=E) (O:=O) hS hLn hx;have q1:eM ba=true:=(by rcases Z with ⟨rfl,-⟩|⟨y,rfl⟩<;>rfl);have q2:eM pa=true:=(by rcases P with ⟨rfl,-⟩|⟨y,rfl⟩<;>rfl);have q3:eM A=true:=(by rcases t with ⟨rfl,-⟩|⟨y,rfl⟩<;>rfl);have mk1:bU 0 [.agg [I E,I O,ba,pa,A]]=2:=(by rw[C5,show([.agg [I E,I O,ba,pa,A]]:List AV).all clean=true by simp[clean,q1,q2,q3]];rfl);have mk2:bU 0 [a]=2:=by
  rw[C5,show([a]:List AV).all clean=true by
   rcases ha with ⟨rfl,-⟩|⟨y,rfl⟩<;>rfl];rfl
 simp only[cN,gR,dZ,gS,dX,cF,bD,aG,hb,l2,JY,g,gE,cW,cZ,aV,l5,K,hcl,r1,kU,jU,jV,mk1,mk2,LD (id:=(0,0+1,5)) hm0,show Nat.ble 1 2=true from rfl,gD,gC];by_cases M:pQ E O e J C L x=0;case neg=>simp only[eY M,cF,aT];exact⟨_,rfl⟩
 have hr:=r2 M;have hl20:L.length<=20:=by
  have c0:(bM E O e J C L).2.1=0:=by
   unfold pQ at M;split at M
   .rename_i h;exact absurd M h
   .rename_i h;exact Classical.byContradiction h
  have:=(xY c0).2.1;omega
 have j:=(x8y M (by omega)).2;have hln:(L++[x]).length<=21:=(by rw[eA,MC];omega);have htx:∀z∈L++[x],z.tx.length<=1000:=λz Q=>by
  rcases iF.mp Q with Q|Q
  .exact(hL z Q).2
  .simp at Q;rw[Q];exact hx
 obtain⟨b2,b3,o⟩:=di 39 hr (by omega);have hS2:SmO ba' pa' ea' e J C b2 (L++[x]):=SmO.mk10 w D F H c1 b3 (by omega) htx;obtain⟨st,s1,-,s2⟩:=xlj 13 (E:=E) (O:=O) hS2;obtain⟨s,p,v,c,rfl,t1,t2,t3,t4⟩:=s2 j;obtain⟨o1,o2,o3,o4⟩:=xY j;have hI:InvSP J (bM E O e J C (L++[x])).2.2.2:=xux (L++[x]);have hF:=(xcd (L++[x]) 0 [] X0 InvF.zero htx o3).x;rw[<-o4]at hF;have hLS:=hF.LS;have hN:=XY o1;have hpn:∀y∈J,nmOK y.nm=true:=λy hy=>by obtain⟨i,hi,rfl⟩:=vB.mp hy;exact(hN.p i hi).1
 rw[j]at s1;generalize hX:(bM E O e J C (L++[x])).2.2.2=X at *
 have hL12:=hI.Ln;have o5:([s,p,v,c]:List AV).all AV.one=true:=(by simp[t1.one,t2.one,t3.one,Sl.one t4]);obtain⟨M3,n3,g3,k3,hM3⟩:=kY (z:=4) (cs:=rO) (x:=.agg [s,p,v,c]) o5 rfl (by rw[xz];rfl) (0,0+40,9) l;have f:Me [I E,I O,ba,pa,A] [s,p,v,c] (0,0+40,9) M3:=⟨by rw[n3];exact hm0,by rw[k3 _ (by decide)];exact g1',g3⟩;have lS:aA false 1 (.ptr (0,0+40,9) 0 0) M3=some s:=(by rw[aQ f.x];rfl);have lP:aA false 1 (.ptr (0,0+40,9) 0 1) M3=some p:=(by rw[aQ f.x];rfl);have l4:aA false 1 (.ptr (0,0,3) 0 4) M3=some A:=(by rw[aQ f.s];rfl);simp only[eX M,cN,aV,l5,aG,K,o,s1,kU,jU,jV,hM3];unfold pw;refine xy4 (R:=λr=>∃u,r=some (B true,u)) rfl t (by omega) f (λch Y hch=>?_) C 0 NN (-1) _ rfl (by rw[dF];omega) (.inl rfl);have c12:¬((X.L.length:Int) > 12):=(by omega);have c40:¬((X.S.length:Int) > 40):=(by omega);have w1:cG ((X.L.length:Int)+(X.S.length:Int))=(X.L.length:Int)+(X.S.length:Int):=bQ;have c41:¬((X.L.length:Int)+(X.S.length:Int) > 40):=(by omega);unfold NJ;simp only[gC,bG,cN,dZ,dX,cF,bD,cX,bR,lS,lP,aG,t1.len lF,t2.len vJ,iC,eY c12,eY c40,cW,cZ,aV,bV];rcases hch with rfl|⟨k,hk,rfl,hrole⟩
 .simp only[show decide ((-1:Int)<0)=true from rfl,cN,cZ,aG,cW,bD,aT];exact⟨_,rfl⟩
 have ck:¬((k:Int)<0):=(by omega);obtain⟨d,ix⟩:∃d,aR 2 A (I (k:Int))=some (.aE (T C[k].nm::d)):=⟨_,by rw[t.ix Pe.len hk,fX hk,dT];rfl⟩;have fa0:aD 0 (.aE (T C[k].nm::d))=some (.aE (T C[k].nm::d)):=rfl;have ld0:∀m,aA false 1 (.aE (T C[k].nm::d)) m=some (Tx C[k].nm.data.toList):=λm=>by rw[<-FK];rfl
 simp only[eY ck,cF,bD,lS,lP,aG,t1.len lF,t2.len vJ,dY,w1,iC,eY c41,cW,cZ,aV,l4,ix,fa0,ld0];unfold pv;refine xye (R:=λr=>∃u,r=some (B true,u)) (X:=X) rfl t1 hI (λt14 m Y hM hG=>?_) X.L 0 NN nilS M3 _ rfl (by rw[dF];omega) f (by rw[jM];exact Gk.nil);unfold NL;refine xyh (R:=λr=>∃u,r=some (B true,u)) (X:=X) rfl P (by omega) hpn rfl rfl t1 t2 hI (by omega) (λm=>⟨_,rfl⟩) (λt14 m Y hf hM hG=>?_) X.S 0 NN t14 m _ rfl (by rw[dF];omega) (λq hq=>by simp at hq) hM (by rw[jM,lB,iH];exact hG);obtain⟨f1,f2⟩:=x0z (O:=O) (E:=E) (W:=e) (J:=J) hI o1 (by omega) hf (by_:=C[k].nm.data.toList) hk (by rw[FD];exact(xn0 o1 hk).2) hrole;have hfl:(sP C[k].nm.data.toList J X).length<=21:=(by unfold sP;rw[eA,lU,lU];omega);unfold NO
 exact xyg rfl Z P t hr K o hS2 j (fr:=sP C[k].nm.data.toList J X) (λa' ha'=>by
  obtain⟨b',b4,hcl'⟩:=di 39 ha' (by omega)
  exact⟨b',hcl',SmO.mk10 w D F H c1 b4 (by omega) (x0y hI hpn)⟩) f1 (by rw[f2,hX]) (by rw[f2,hX]) (by omega) J 0 NN m _ rfl (by rw[dF];omega) hM.n ⟨_,hM.s⟩ (by
   rcases hG with h|⟨id,ver,-,e1,e2⟩
   .exact .inl h
   .exact .inr ⟨id,ver,false,e1,e2⟩)
end Go.Ix
