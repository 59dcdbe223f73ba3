import Derived.Test.YtjngclcijnpooaaGreatDoorWg0
import Derived.ProofKit
set_option maxRecDepth 10000
set_option linter.all false
open Go.Proofs.Tryz
namespace Go.Ix
open Go.Proofs
def xx1{a:Id->Option Ob}{id:Id}(h:id.2.2=0):mD a id=true:=by unfold mD;rw[h];rfl
def xz5{a:aJ}{id:Id}{h:List AV->Mem->Option Mem}{Z:FHs}{b:Nat}{l:List AV}{m:Mem}(d:id.2.2=0):fL a ((id,h)::Z) b (.yld id) l m=(h l m).map λe=>(B true,e):=by simp[fL,sQ,xx1 d]
theorem Edge.aP(e:Edge):e.c.all Go.Ix.aP=true:=rfl
def xwe(x y:Operand)(a b:Bool):bY prog .neq xI x y (B a) (B b)=some (B (a != b)):=by cases a<;>cases b<;>kernel_rfl
abbrev Pr:=Int×Int
def Pr.c(x:Pr):List AV:=[I x.1,I x.2]
theorem Pr.len(x:Pr):(Pr.c x).length=2:=rfl
theorem Pr.bB(x:Pr):(Pr.c x).all Go.Ix.aP=true:=rfl
def xb9(a b:Int):∀o∈[0,1],bT prog (part eB #[.int .i64 a,.int .i64 b] o)=some (.int .i64 ([a,b].getD o 0)):=by intro o d;simp only[dW,wY,or_false]at d;rcases d with rfl|rfl<;>kernel_rfl
end Go.Ix
namespace Go.Ix
open Go.Proofs
def Pl.v(p:Pl):Value:=.agg [.int .i64 p.x,.int .i64 p.y].toArray
def Pl.same(p q:Pl):Bool:=decide (p.x=q.x)&&decide (p.y=q.y)
def nG(L:List Pl):List (Value×AV):=L.map λp=>(p.v,B true)
def IS(p q:Pl):gO p.v q.v=p.same q:=by unfold gO Pl.v Pl.same;simp[xP];by_cases h:p.x=q.x<;>by_cases a:p.y=q.y<;>simp[h,a]
def x1e(L:List Pl)(p:Pl):findKey p.v (nG L)=if L.any (Pl.same p)=true then some (B true)else none:=by
 induction L with
 |nil=>rfl
 |cons x r a=>
  unfold nG at a ⊢;simp only[fY,findKey,IS,W1];by_cases Z:p.same x=true
  .simp[Z]
  .have hs':p.same x=false:=(by simpa using Z);rw[aB Z,a];simp[hs']
def xn5(L:List Pl)(p:Pl)(h:L.any (Pl.same p)=false):setKey p.v (B true) (nG L)=nG (L++[p]):=by
 induction L with
 |nil=>rfl
 |cons x r a=>rw[W1,Bool.or_eq_false_iff]at h;unfold nG at a ⊢;simp only[fY,iY,setKey,IS,h.1,fH,cT,a h.2]
def x3f(p:Pl):(bT prog (Instr.checkKey true 10000 oO p.v)).isSome=true:=by kernel_rfl
def x3g(p:Pl):(bT prog (Instr.checkKey false 10000 oO p.v)).isSome=true:=by kernel_rfl
def x1v(p q:Pl):bT prog (Op.equal oO p.v q.v)=some (p.same q):=by
 obtain⟨f,g,t⟩:=p;obtain⟨h,i,u⟩:=q;have o:prog.underlying oO=some (.array 2 eB):=(by kernel_rfl);have r:bT prog (sizeOf eB)=some 1:=(by kernel_rfl);have j:=xb9 f g;have l:=xb9 h i;have b:=j 0 (by simp);have a:=j 1 (by simp);have d:=l 0 (by simp);have e:=l 1 (by simp);simp only[xid,List.getD_cons_succ]at b a d e;show bT prog (Op.equalIn 10000 oO (.agg #[.int .i64 f,.int .i64 g]) (.agg #[.int .i64 h,.int .i64 i]))=_;rw[show(10000:Nat)=9998+1+1 from rfl,Op.equalIn];simp only[uB,YY o,aG,r];simp only[Std.Legacy.Range.forIn_eq_forIn_range',Std.Legacy.Range.size,Nat.sub_zero,xh0,Nat.div_one,List.range'_succ,List.range'_zero,List.forIn_cons,List.forIn_nil,uB,bR,nS];simp only[b,d,aG,JJ _ _ _ _ _ _ IG];unfold Pl.same;by_cases m:f=h
 .subst m;by_cases n:g=i
  .subst n;simp[BU,uB,a,JJ _ _ _ _ _ _ IG]
  .simp[BU,uB,a,e,n,JJ _ _ _ _ _ _ IG]
 .simp[BU,m]
def n':prog.underlying oO=some (.array 2 eB):=by kernel_rfl
def j':prog.underlying AO=some (.map oO xI):=by kernel_rfl
def xdy(L:List Pl)(p:Pl):sJ prog oO (.array 2 eB) p.v (nG L)=true:=by
 have d:IJ prog oO (.array 2 eB) p.v (nG L)=true:=by
  show(gO p.v p.v&&((bT prog (Instr.checkKey true 10000 oO p.v)).isSome&&(bT prog (Instr.checkKey false 10000 oO p.v)).isSome) &&
   (nG L).all λe=>match e.1,bT prog (Op.equal oO p.v e.1)with
    | .agg _,some b=>b == gO p.v e.1
    |_,_=>false)=true
  rw[x3f,x3g,IS,show p.same p=true by simp[Pl.same]];simp only[gD,iG,dJ];intro e a;unfold nG at a;obtain⟨x,-,rfl⟩:=fF.mp a;rw[x1v,IS];show(p.same x == p.same x)=true;simp
 unfold sJ;rw[d,pk]
def xjh:J3 prog xI=some (B false):=by kernel_rfl
def xxv{id:Id}{L:List Pl}(p:Pl){m:Mem}(h:m.get id=some (.map (nG L))):xR prog AO (.mp id) p.k false m=some (B (L.any (Pl.same p))):=by unfold xR;have e:dO p.k=some p.v:=rfl;simp only[j',e,n',xjh,sG,h];rw[aF (xdy L p),x1e];cases L.any (Pl.same p)<;>rfl
def xl9{R:Type}{id:Id}{L:List Pl}(p:Pl){m:Mem}(h:m.get id=some (.map (nG L)))(a:L.any (Pl.same p)=false)(k:Mem->Option R):tW prog AO (.mp id) p.k (B true) m k=k (m.set id (.map (nG (L++[p])))):=by unfold tW;have e:dO p.k=some p.v:=rfl;simp only[j',e,n',h];rw[aF (xdy L p),xn5 L p a]
def pl0:Pl:=⟨0,0,0⟩
def gP(l:List Pl)(k:Nat):Pl:=l.getD k pl0
def yV{l:List Pl}{k:Nat}(h:k<l.length):gP l k=l[k]:=by simp[gP,h]
def v6(l:List Pl)(k:Nat):Pl×Pl:=(gP l k,gP l ((k+1) % l.length))
def nB(l:List Pl):List (Pl×Pl):=(List.range l.length).map (v6 l)
def XW(l:List Pl):(nB l).length=l.length:=by simp[nB]
def IH:prog.underlying pZ=some (.slice tI):=by kernel_rfl
def J8:prog.underlying f9=some (.slice HS):=by kernel_rfl
def WC:xH=[I 0,I 0,I 0]:=by kernel_rfl
def xj9:HJ=[I 0,I 0]:=by kernel_rfl
def AE:rN=[I 0,I 0,I 0,I 0]:=by kernel_rfl
def x74(x y:Int):cY HJ [(0,1,I x),(1,1,I y)]=some (.agg [I x,I y]):=by rw[xj9];simp[cY,jC,cS]
def x73(a b c d:Int):cY rN [(0,2,.agg [I a,I b]),(2,2,.agg [I c,I d])]=some (.agg [I a,I b,I c,I d]):=by rw[AE];simp[cY,jC,cS]
def xw5{R:Type}{a b c d:Int}{id:Id}{m:Mem}{k:AV->Mem->Option R}:cQ rN [(0,4,.agg [I a,I b,I c,I d])] 1 4 id m k=k (.aN [I a,I b,I c,I d] 1 true) m:=by rw[AE];simp[cQ,jC,eN,rL,cS]
def uE{u s t:Nat}{m:Mem}{z cs:List AV}{n:Nat}(a:z.length=n)(b:cs.length=n)(e:cs.all AV.one=true):∃M:Mem,(∀{R:Type} (K:Mem->Option R),aU n (.ptr (u,s,t) 0 0) (.agg cs) (m.new (u,s,t) (.row z 0 false)) K=K M)/\M.get (u,s,t)=some (.row cs 0 false)/\M.next=m.next/\∀j:Id,¬(j.1=u/\j.2.2=t)->M.get j=m.get j:=by
 refine⟨(m.new (u,s,t) (.row z 0 false)).set (u,s,t) (.row cs 0 false),λK=>?_,Mem.uQ _ _ _,rfl,λj d=>?_⟩
 .rw[lY (off:=0) (z:=n) (x:=.agg cs) (k:=K) (Mem.kM _ _ _) b (by rw[a];omega) e];congr 3;simp[cS,a,b]
 .rw[Mem.cP,aB (by rintro rfl;exact d ⟨rfl,rfl⟩),Mem.dH,aB (by rintro rfl;exact d ⟨rfl,rfl⟩)]
def ZC:Id->Prop:=λid=>id.1=0/\id.2.2=45
def xyd(o:aJ)(Z:FHs){a:AV}{l:List Pl}(h:Sl Pl.c a l)(hl:l.length<=1000)(r:∀p∈l,jW p):∀(n k j:Nat) (v:AV) (m:Mem) (Y:Nat),k+n=l.length->n<j->Gk 4 fB ZC m v ((List.range k).map (v6 l)) ->
    ∃w Q,Z2 o Z 0 j a (I 1) v a (I l.length) (I k) m Y=some (w,Q)/\Gk 4 fB ZC Q w (nB l):=by
 intro n;induction n with
 |zero=>intro k j v m Y hk F H;obtain⟨j,rfl⟩:∃i,j=i+1:=⟨j-1,by omega⟩;obtain rfl:k=l.length:=(by omega);refine⟨v,m,?_,H⟩;simp only[Z2];unfold UU vy;simp
 |succ n ih=>
  intro k j v m Y hk F H;obtain⟨j,rfl⟩:∃i,j=i+1:=⟨j-1,by omega⟩;have f:k<l.length:=(by omega);have g:(k+1) % l.length<l.length:=G7 _ (by omega);have hk':(k:Int)<(l.length:Int):=(by omega);have J:=h.ix Pl.len f;have K:=h.ix Pl.len g;have C:=λm=>jF (m:=m) Pl.len (by omega) f
  have D:=λm=>jF (m:=m) Pl.len (by omega) g
  rw[<-yV f]at C;rw[<-yV g]at D;have L:=r (gP l k) (by rw[yV f];exact fG f);have N:=r (gP l ((k+1) % l.length)) (by rw[yV g];exact fG g);obtain⟨M1,s1,g1,n1,f1⟩:=uE (u:=0) (s:=Y+4) (t:=7) (m:=m) (z:=xH) (cs:=(gP l k).c) (n:=3) (by rw[WC];rfl) rfl rfl;obtain⟨E,s2,g2,n2,W⟩:=uE (u:=0) (s:=Y+15) (t:=8) (m:=M1) (z:=xH) (cs:=(gP l ((k+1) % l.length)).c) (n:=3) (by rw[WC];rfl) rfl rfl;have g1':E.get (0,Y+4,7)=some (.row [I (gP l k).x,I (gP l k).y,I (gP l k).z] 0 false):=(by rw[W _ (by simp)];exact g1);have g2':E.get (0,Y+15,8)=some (.row [I (gP l ((k+1) % l.length)).x,I (gP l ((k+1) % l.length)).y,I (gP l ((k+1) % l.length)).z] 0 false):=g2;have G2:Gk 4 fB ZC E v ((List.range k).map (v6 l)):=H.frame λj F=>by have h45:=F.2;rw[W j (by omega),f1 j (by omega)]
  obtain⟨w,X,A,G3,-,-,n3,f3⟩:=G2.app rU (by omega) (bytes:=32) (id0:=(0,Y+38,45)) ⟨rfl,rfl⟩ (by unfold cH;simp;omega) (v6 l k);have e:(List.range k).map (v6 l)++[v6 l k]=(List.range (k+1)).map (v6 l):=(by rw[rL,nU];rfl);rw[e]at G3;obtain⟨v2,m4,r4,G4⟩:=ih (k+1) j w X (Y+42) (by omega) (by omega) G3;refine⟨v2,m4,?_,G4⟩;rw[<-r4];obtain⟨a1,a2⟩:=L;obtain⟨b1,b2⟩:=N;have q1:cG (1*(gP l k).x)=(gP l k).x:=(by rw[fm,bQ]);have q2:cG (1*(gP l k).y)=(gP l k).y:=(by rw[fm,bQ]);have q3:cG (1*(gP l ((k+1) % l.length)).x)=(gP l ((k+1) % l.length)).x:=(by rw[fm,bQ]);have q4:cG (1*(gP l ((k+1) % l.length)).y)=(gP l ((k+1) % l.length)).y:=(by rw[fm,bQ]);have hw:=iJ k (by omega);have hr:xQ (I ((k+1:Nat):Int)) (I (l.length:Int))=some (I (((k+1) % l.length:Nat):Int)):=(by rw[xa2 (by omega)];congr 2);have O:∀(M:Mem) (a b c d:Int),elems M.get 4 (.aN [I a,I b,I c,I d] 1 true)=some ([I a,I b,I c,I d],1):=λ_ _ _ _ _=>rfl
  have A':∀{R:Type} (P:AV->Mem->Option R),cJ 4 32 (0,Y+38,45) (some ([I (gP l k).x,I (gP l k).y,I (gP l ((k+1) % l.length)).x,I (gP l ((k+1) % l.length)).y],1)) v E P=P w X:=A;simp only[Z2];unfold UU;simp only[bV,hk',bG,aG,aT,J,C,kK,s1,dY,hw,h.len IH,hr,K,D,s2,cX,aQ g1',aQ g2',bR,dE,bC,dR,YC,q1,q2,q3,q4,x74,x73,xw5,O,A']
def yu(d:Nat){a:AV}{l:List Pl}(h:Sl Pl.c a l)(i:l.length<=1000)(b:∀p∈l,jW p)(m:Mem):∃s,Sl fB s (nB l)/\aI (aH (d+1)) C3 [a,I 1] m=some (s,m):=by have e:RetF (λs=>Sl fB s (nB l)) (aH (d+1) [] C3 [a,I 1] mem0):=(by rw[x66];unfold ol bA UT vw;obtain⟨v,j,r,G⟩:=xyd (aH d) [] h i b l.length 0 NN nilS ⟨[],1⟩ (0+2+3) (by omega) (by rw[dF];omega) Gk.nil;simp only[mem0,h.len IH,aG];rw[show I ((0:Nat):Int)=I 0 from rfl]at r;rw[r];obtain⟨n,f,g⟩:=G.frz (k:=4) rU xn6;exact RetF.mk g f);obtain⟨s,f,g⟩:=rI (by simp[h.bB]) e m;exact⟨s,f,g⟩
def zI(S:List (Pl×Pl))(i k:Nat):Bool:=
 let s:=S.getD i (pl0,pl0);let o:=S.getD k (pl0,pl0)
 if i=k+1 then lQ s.1 s.2 o.1||lQ o.1 o.2 s.2
 else if k=0/\i+1=S.length then lQ s.1 s.2 o.2||lQ o.1 o.2 s.1
 else ZN s.1 s.2 o.1 o.2
def zJ(S:List (Pl×Pl)):Bool:=(List.range S.length).any λi=>(List.range i).any (zI S i)
def Z6(s:Pl×Pl):Prop:=jW s.1/\jW s.2
def x0c:∃i,prog.info? HS=some i/\i.size=4:=by have:((prog.info? HS).map λi=>i.size)=some 4:=(by kernel_rfl);rw[cE]at this;exact this
def xns{a:AV}{l:List (Pl×Pl)}(h:Sl fB a l){k:Nat}(d:k<=l.length)(e:l≠[]):∃b,Sl fB b (l.take k)/\eK prog f9 a none (some (I k))=some b:=by
 rcases h with ⟨_,rfl⟩|⟨x,rfl⟩
 .exact absurd rfl e
 obtain⟨i,n,Z⟩:=x0c;have p:=gG rU l;refine⟨.aN ((l.take k).flatMap fB) (l.take k).length (x&&decide ((k:Int)=(l.length:Int))),Sl.lit _ _,?_⟩;have f:dO (.aN (l.flatMap fB) l.length x)=none:=_root_.id rfl;have g:dL (I (k:Int))=some (k:Int):=rfl;have j:dL (I 0)=some 0:=rfl;unfold eK;simp only[f,J8,n,Option.getD_some,Option.getD_none,g,j,Z,Int.sub_zero,hJ,Int.toNat_zero,wW,bC];rw[aF ⟨by omega,by omega,by omega,by omega⟩,oH,xhx d];have m:∀(l:List (Pl×Pl)) (k:Nat),(l.flatMap fB).take (k*4)=(l.take k).flatMap fB:=by
  intro l;induction l with
  |nil=>intro k;simp
  |cons x r o=>
   intro k;cases k with
   |zero=>simp
   |succ k=>rw[dT,lA,dT,lT,ef,<-rU x,ej,rU,o]
 rw[m]
def xy2(d:Nat)(Z:FHs){sv f:AV}{S:List (Pl×Pl)}(h:Sl fB sv S)(hS:S.length<=1000)(l:∀s∈S,Z6 s)(a:cB){i:Nat}(W:i<S.length)(N:Sl fB f (S.take i)){id9:Id}(h9:id9.1=0/\id9.2.2=9)(Q:O2->Prop)(o:∀m:Mem,(List.range i).any (zI S i)=true->Q (some (I 13,m)))(O:∀(m:Mem) (Y:Nat),(List.range i).any (zI S i)=false->Q (a sv sv (I S.length) (I (i+1:Nat)) m Y)) :
    ∀(n k j:Nat) (m:Mem) (Y:Nat),k+n=i->n<j->m.get id9=some (.row (fB S[i]) 0 false)->(∀q,q<k->zI S i q=false) ->
    Q (I4 (aH (d+4)) Z 0 a j sv (I i) (.ptr id9 0 0) sv (I S.length) (I i) f (I i) (I k) m Y):=by
 have hlen:(S.take i).length=i:=(by simp;omega);intro n;induction n with
 |zero=>intro k j m Y hk hj X P;obtain⟨j,rfl⟩:∃i,j=i+1:=⟨j-1,by omega⟩;obtain rfl:k=i:=(by omega);have E:=iJ k (by omega);simp only[I4];unfold VF xc;simp only[bV,Int.lt_irrefl,bP,aG,aV,dY,E];refine O m _ ?_;rw[GA];intro q p;rw[P q (iR.mp p)];simp
 |succ n ih=>
  intro k j m Y hk hj X P;obtain⟨j,rfl⟩:∃i,j=i+1:=⟨j-1,by omega⟩;have R:k<i:=(by omega);have hk':(k:Int)<(i:Int):=(by omega);have r:k<S.length:=(by omega);have w:k<(S.take i).length:=(by omega);have ix:=N.ix rU w;have ld:=λm=>jF (m:=m) rU (by omega) w
  have et:(S.take i)[k]=S[k]:=(by simp);rw[et]at ld;obtain⟨M,s1,g1,n1,f1⟩:=uE (u:=0) (s:=Y+1+3) (t:=11) (m:=m) (z:=rN) (cs:=fB S[k]) (n:=4) (by rw[AE];rfl) rfl rfl;have hM:M.get id9=some (.row (fB S[i]) 0 false):=(by rw[f1 id9 (by omega)];exact X);obtain⟨H,J⟩:=l S[i] (fG W);obtain⟨K,L⟩:=l S[k] (fG r);have E:=iJ k (by omega);have A:cG ((S.length:Int)-1)=(S.length:Int)-1:=bQ;have gi:S.getD i (pl0,pl0)=S[i]:=(by simp[W]);have gk:S.getD k (pl0,pl0)=S[k]:=(by simp[r]);have stop:∀Y,Q (AC (aH (d+4)) Z 0 a (I4 (aH (d+4)) Z 0 a j) sv (I i) (.ptr id9 0 0) (B (zI S i k)) sv (I S.length) (I i) f (I i) (I k) M Y):=λY=>by
   unfold AC;cases hc:zI S i k with
   |true=>simp only[aT];exact o M (H2.mpr ⟨k,iR.mpr R,hc⟩)
   |false=>
    simp only[aV];unfold xa;simp only[dY,E,aG];refine ih (k+1) j M _ (by omega) (by omega) hM λq p=>?_
    by_cases e:q=k
    .subst e;exact hc
    .exact P q (by omega)
  unfold zI at stop;simp only[gi,gk]at stop;have hM':M.get id9=some (.row [I S[i].1.x,I S[i].1.y,I S[i].2.x,I S[i].2.y] 0 false):=hM;have g1':M.get (0,Y+1+3,11)=some (.row [I S[k].1.x,I S[k].1.y,I S[k].2.x,I S[k].2.y] 0 false):=g1;simp only[I4];unfold VF wy;simp only[bV,hk',bG,aG,aT,ix,ld,kK,s1];unfold wz;simp only[dY,E,aG,iD];by_cases c1:i=k+1
  .have c1':((i:Int)=((k+1:Nat):Int)):=(by omega);rw[aF c1]at stop;have b:=vG (d+1) H J K;have C:=vG (d+1) K L J;simp only[Pl.k,fB]at b C;have d1:decide ((i:Int)=((k+1:Nat):Int))=true:=eX c1';simp only[d1,aT,aQ hM',aQ g1',cX,bR,bC,rd,cM,dN,gY,lA,jM,bO,show(2:Nat)<=4 from by decide,aG,b];cases D:lQ S[i].1 S[i].2 S[k].1
   .simp only[dZ,gS,dX,cF,bD,aQ hM',bR,bC,dR,rd,cM,dN,gY,lA,jM,bO,aG,C,cW,cZ];rw[D,GE]at stop;exact stop _
   .simp only[dZ,gS,dX,cN,cZ,aG,cW,bD];rw[D,NG]at stop;exact stop _
  .have c1':¬((i:Int)=((k+1:Nat):Int)):=(by omega);rw[aB c1]at stop;simp only[c1',bP,aV];by_cases c2:k=0/\i+1=S.length
   .rw[aF c2]at stop;have g:((k:Int)=0):=(by omega);have F:((i:Int)=(S.length:Int)-1):=(by omega);have b:=vG (d+1) H J L;have C:=vG (d+1) K L H;simp only[Pl.k,fB]at b C;simp only[g,bG,gR,dZ,gS,iS,bD,aG,h.len J8,nX,A,iD,F,cW,aT,aQ hM',aQ g1',cX,bR,bC,dR,rd,cM,dN,gY,lA,jM,bO,b];rw[g]at stop;rw[F]at stop;cases D:lQ S[i].1 S[i].2 S[k].2
    .simp only[dX,cF,bD,aQ hM',bR,bC,rd,cM,dN,gY,lA,jM,aG,C,cZ,show(2:Nat)<=4 from by decide];rw[D,GE]at stop;exact stop _
    .simp only[dX,cN,cZ,aG,bD];rw[D,NG]at stop;exact stop _
   .rw[aB c2]at stop;have b:=xkw d H J K L;simp only[fB]at b;by_cases g:(k:Int)=0
    .have F:¬((i:Int)=(S.length:Int)-1):=(by omega);simp only[g,bG,gR,dZ,gS,iS,bD,aG,h.len J8,nX,A,iD,F,bP,cW,aV,aQ hM',aQ g1',bR,bC,rd,cM,dN,gY,lA,jM,bO,b];rw[g]at stop;exact stop _
    .simp only[g,bP,gR,dZ,gS,iS,cZ,aG,cW,aV,aQ hM',aQ g1',bR,bC,rd,cM,dN,gY,lA,jM,bO,b];exact stop _
def xy3(d:Nat)(Z:FHs){sv:AV}{S:List (Pl×Pl)}(h:Sl fB sv S)(A:S.length<=1000)(p:∀s∈S,Z6 s):∀(n i j:Nat) (m:Mem) (Y:Nat),i+n=S.length->n<j->(∀q,q<i->(List.range q).any (zI S q)=false) ->
    ∃a,I5 (aH (d+4)) Z 0 j sv sv (I S.length) (I i) m Y=some (I (if zJ S=true then 13 else 0),a):=by
 intro n;induction n with
 |zero=>intro i j m Y E F l;obtain⟨j,rfl⟩:∃i,j=i+1:=⟨j-1,by omega⟩;obtain rfl:i=S.length:=(by omega);have e:zJ S=false:=(by unfold zJ;rw[GA];intro q b;rw[l q (iR.mp b)];simp);simp only[I5];unfold VE xd;simp only[bV,Int.lt_irrefl,bP,aG,aV,e];exact⟨m,rfl⟩
 |succ n L=>
  intro i j m Y E F l;obtain⟨j,rfl⟩:∃i,j=i+1:=⟨j-1,by omega⟩;have o:i<S.length:=(by omega);have hi':(i:Int)<(S.length:Int):=(by omega);have ix:=h.ix rU o;have ld:=λm=>jF (m:=m) rU (by omega) o
  obtain⟨H,g,x⟩:=xns h (k:=i) (by omega) (List.ne_nil_of_length_pos (by omega));have f:(S.take i).length=i:=(by simp;omega);obtain⟨M,J,K,N,O⟩:=uE (u:=0) (s:=Y+1+3) (t:=9) (m:=m) (z:=rN) (cs:=fB S[i]) (n:=4) (by rw[AE];rfl) rfl rfl;simp only[I5];unfold VE wx;have y:=g.len J8;rw[f]at y;simp only[bV,hi',bG,aG,aT,ix,ld,kK,J,x,y];refine xy2 d Z h A p (I5 (aH (d+4)) Z 0 j) o g (id9:=(0,Y+1+3,9)) ⟨rfl,rfl⟩ (λr=>∃a,r=some (I (if zJ S=true then 13 else 0),a)) (λa C=>?_) (λa w D=>?_) i 0 NN M _ (by omega) (by rw[dF];omega) K (λq l=>by omega)
  .have e:zJ S=true:=H2.mpr ⟨i,iR.mpr o,C⟩;rw[aF e];exact⟨a,rfl⟩
  .refine L (i+1) j a w (by omega) (by omega) λq b=>?_
   by_cases e:q=i
   .subst e;exact D
   .exact l q (by omega)
def nO(l:List Pl):Nat->List Pl->Int
 |_,[]=>0
 |k,p::r=>if isPl p=true then(if(l.take k).any (Pl.same p)=true then 28 else nO l (k+1) r)else 2
theorem x2y(l:List Pl)(k:Nat)(p:Pl)(r:List Pl):nO l k (p::r)=if isPl p=true then(if(l.take k).any (Pl.same p)=true then 28 else nO l (k+1) r)else 2:=rfl
def KY(l:List Pl):∀(a:List Pl) (k:Nat),nO l k a=0->∀p∈a,isPl p=true
 |[],_,_=>λp b=>by cases b
 |x::r,k,h=>by
  unfold nO at h;split at h
  .rename_i d;split at h
   .cases h
   .intro p b;rcases dW.mp b with rfl|b
    .exact d
    .exact KY l r (k+1) h p b
  .cases h
def polyE(l:List Pl):Int:=if l.length<3 then 10 else if 20<l.length then 8 else if nO l 0 l=0 then(if zJ (nB l)=true then 13 else 0)else nO l 0 l
def xyz(d:Nat)(Z:FHs){a:AV}{l:List Pl}(h:Sl Pl.c a l)(P:l.length<=1000){id3:Id}(H:¬(id3.1=0/\id3.2.2=5))(Q:O2->Prop)(f:∀(m:Mem),nO l 0 l≠0->Q (some (I (nO l 0 l),m)))(w:∀(m:Mem) (Y:Nat),nO l 0 l=0->Q (VI (aH (d+3)) Z 0 a m Y)) :
    ∀(e:List Pl) (k j:Nat) (m:Mem) (Y:Nat),l.drop k=e->e.length<j->nO l 0 l=nO l k e->m.get id3=some (.map (nG (l.take k))) ->
    Q (Z4 (aH (d+3)) Z 0 j a (.mp id3) a (I l.length) (I k) m Y):=by
 intro e;induction e with
 |nil=>intro k j m Y x o b D;obtain⟨j,rfl⟩:=dQ o;have g:¬((k:Int)<(l.length:Int)):=(by have:=gZ.mp x;omega);simp only[Z4];unfold VH;simp only[bV,g,bP,aG,aV];exact w m _ (by rw[b];rfl)
 |cons p r O=>
  intro k j m Y x o b D;obtain⟨j,rfl⟩:=dQ o;obtain⟨g,F,A⟩:=gW x;have hk':(k:Int)<(l.length:Int):=(by omega);have ix:=h.ix Pl.len g;have ld:=λm=>jF (m:=m) Pl.len (by omega) g
  rw[F]at ld;obtain⟨M,K,L,R,N⟩:=uE (u:=0) (s:=Y+3) (t:=5) (m:=m) (z:=xH) (cs:=p.c) (n:=3) (by rw[WC];rfl) rfl rfl;have E:M.get id3=some (.map (nG (l.take k))):=(by rw[N id3 H];exact D);have i:aA true 3 (.ptr (0,Y+3,5) 0 0) M=some (.agg p.c):=(by rw[aQ L];rfl);have J:=iJ k (by omega);simp only[Z4];unfold VH;simp only[bV,hk',bG,aG,aT,ix,ld,kK,K,i,zh d p,gC];rw[x2y]at b;by_cases c:isPl p=true
  .rw[aF c]at b;simp only[c,cM,bG,cN,aV,i,zf (d+2) p,aG,xxv p E];cases C:(l.take k).any (Pl.same p)
   .rw[C,aB (by simp)]at b;have y:l.take k++[p]=l.take (k+1):=(by rw[mI g,F]);simp only[aV,aG,xl9 p E C,dY,J];refine O (k+1) j _ _ A (by simp at o;omega) b ?_;rw[Mem.uQ,y]
   .rw[C,aF rfl]at b;simp only[aT];have:=f M (by rw[b];decide);rw[b]at this;exact this
  .rw[aB c]at b;have:=f M (by rw[b];decide);rw[b]at this;simp only[c,cT,show(!decide ((2:Int)=0))=true from rfl,aT,fH];exact this
def zo(d:Nat){a:AV}{l:List Pl}(h:Sl Pl.c a l)(m:Mem)(w:l.length<=9000000000000000000):aI (aH (d+5)) S7 [a] m=some (I (polyE l),m):=by
 refine eZ (by simp[h.bB]) ?_ m;rw[x7f];unfold oz bW VG polyE;simp only[mem0,h.len IH,aG,bV];by_cases c:l.length<3
 .simp only[show((l.length:Int)<3) by omega,bG,aT,c,cM];exact RetF.st rfl rfl
 simp only[show ¬((l.length:Int)<3) by omega,bP,aV,c,cT,aG,iC];by_cases o:20<l.length
 .simp only[show((20:Int)<(l.length:Int)) by omega,bG,aT,o,cM];exact RetF.st rfl rfl
 simp only[show ¬((20:Int)<(l.length:Int)) by omega,bP,aV,o,cT];unfold BM xb;simp only[h.len IH,aG];refine xyz (d+1) [] h (by omega) (id3:=(0,0+9,21)) (by simp) (λr=>RetF (λv=>v=I (if nO l 0 l=0 then(if zJ (nB l)=true then 13 else 0)else nO l 0 l)) r) (λm g=>?_) (λm Y g=>?_) l 0 NN _ _ rfl (by rw[dF];omega) rfl (by simp[nG])
 .rw[aB g];exact RetF.st rfl rfl
 .rw[aF g];have j:=KY l l 0 g;have b:∀p∈l,jW p:=λp t=>EM (j p t)
  obtain⟨s,f,n⟩:=yu (d+3) h (by omega) b m;have u:∀s∈nB l,Z6 s:=λs Z=>by
   unfold nB at Z;obtain⟨k,i,rfl⟩:=fF.mp Z;have i:=iR.mp i;have e:(k+1) % l.length<l.length:=G7 _ (by omega);refine⟨?_,?_⟩
   .show jW (gP l k);rw[yV i];exact b _ (fG i)
   .show jW (gP l ((k+1) % l.length));rw[yV e];exact b _ (fG e)
  unfold VI ww;simp only[n,aG,f.len J8];obtain⟨y,r⟩:=xy3 d [] f (by rw[XW];omega) u (nB l).length 0 NN m (Y+3+3) (by omega) (by rw[dF,XW];omega) (λq x=>by omega);rw[show I ((0:Nat):Int)=I 0 from rfl]at r;rw[r];exact RetF.st rfl rfl
def yR(S:List (Pl×Pl))(p:Pl):Bool->List (Pl×Pl)->Bool
 |t,[]=>t
 |t,s::r=>if lQ s.1 s.2 p=true then true else yR S p (if xbt s.1 s.2 p=true then !t else t) r
def xyr(d:Nat)(Z:FHs){sv:AV}{S:List (Pl×Pl)}(h:Sl fB sv S)(hS:S.length<=1000)(E:∀s∈S,Z6 s){p:Pl}(L:jW p){id3:Id}(h3:¬(id3.1=0/\id3.2.2=7)):∀(a:List (Pl×Pl)) (k j:Nat) (t:Bool) (m:Mem) (Y:Nat),S.drop k=a->a.length<j->m.get id3=some (.row [I p.x,I p.y] 0 false) ->
    ∃i,xC (aH (d+3)) Z 0 j (.ptr id3 0 0) (B t) sv (I S.length) (I k) m Y=some (B (yR S p t a),i):=by
 intro a;induction a with
 |nil=>intro k j t m Y F A N;obtain⟨j,rfl⟩:=dQ A;have l:¬((k:Int)<(S.length:Int)):=(by have:=gZ.mp F;omega);simp only[xC];unfold UY wk;simp only[bV,l,bP,aG,aV,yR];exact⟨m,rfl⟩
 |cons s r ih=>
  intro k j t m Y F A N;obtain⟨j,rfl⟩:=dQ A;obtain⟨l,R,K⟩:=gW F;have hk':(k:Int)<(S.length:Int):=(by omega);have ix:=h.ix rU l;have ld:=λm=>jF (m:=m) rU (by omega) l
  rw[R]at ld;obtain⟨W,X⟩:=E s (R▸fG l);obtain⟨M,s1,g1,n1,f1⟩:=uE (u:=0) (s:=Y+1+2) (t:=7) (m:=m) (z:=rN) (cs:=fB s) (n:=4) (by rw[AE];rfl) rfl rfl;have C:M.get id3=some (.row [I p.x,I p.y] 0 false):=(by rw[f1 id3 h3];exact N);have g1':M.get (0,Y+1+2,7)=some (.row [I s.1.x,I s.1.y,I s.2.x,I s.2.y] 0 false):=g1;have O:=vG d W X L;have P:=J6 (d+1) W X L;simp only[Pl.k,fB]at O P;have hw:=iJ k (by omega);have next:∀(w:Bool) (Y:Nat),∃i,AB (aH (d+3)) Z 0 (xC (aH (d+3)) Z 0 j) (.ptr id3 0 0) (B w) sv (I S.length) (I k) M Y=some (B (yR S p w r),i):=λw Y=>by unfold AB;simp only[dY,hw,aG];exact ih (k+1) j w M _ K (by simp at A;omega) C
  simp only[xC];unfold UY wb;simp only[bV,hk',bG,aG,aT,ix,ld,kK,s1,aQ C,aQ g1',bR,bC,rd,cM,dN,gY,lA,jM,bO,O];unfold yR;cases c:lQ s.1 s.2 p
  .simp only[aV,fH,cT,cX,aG,bR];have Q:∀id e f,tY 2 1 (.ptr id e f) (I 1)=some (.ptr id e (f+1)):=λid e f=>by simp[tY,dL]
   simp only[Q,aG,bR,aQ C,aQ g1',bC,dR,rd,fH,cT,List.head?_cons,iC,xwe];unfold wd xbt;by_cases D:decide (p.y<s.1.y)=decide (p.y<s.2.y)
   .have H:(decide (p.y<s.1.y) != decide (p.y<s.2.y))=false:=(by rw[D];simp);have J:¬(decide (s.1.y > p.y)≠decide (s.2.y > p.y)):=λhn=>hn D
    rw[H];simp only[aV];unfold wg;rw[eY J];simp only[pU,fH,cT];exact next t _
   .have H:(decide (p.y<s.1.y) != decide (p.y<s.2.y))=true:=(by simpa using D);have J:(decide (s.1.y > p.y)≠decide (s.2.y > p.y)):=D;rw[H,eX J];simp only[aT,iG];unfold wh wj;simp only[cX,Q,aG,bR,aQ g1',bC,dR,rd,fH,cT,List.head?_cons,bV];have b:∀(up:Int) (g:Nat),∃i,HB (aH (d+3)) Z 0 (xC (aH (d+3)) Z 0 j) (.ptr id3 0 0) (B t) (.ptr (0,Y+1+2,7) 0 0) (I up) sv (I S.length) (I k) M g=some (B (yR S p (if decide (oQ s.1 s.2 p=up)=true then !t else t) r),i):=λup g=>by
     unfold HB;simp only[aQ C,aQ g1',bR,bC,rd,cM,dN,gY,lA,jM,bO,aG,P,iD];by_cases o:oQ s.1 s.2 p=up
     .simp only[o,bG,aT,gE,aG,cM];exact next _ _
     .simp only[o,bP,aV,fH,cT];exact next _ _
    by_cases o:s.2.y<s.1.y
    .simp only[o,bG,aT,cM];exact b (-1) _
    .simp only[o,bP,aV,cT];exact b 1 _
  .simp only[aT,cM];exact⟨M,rfl⟩
def KG(l:List Pl)(p:Pl):Bool:=yR (nB l) p false (nB l)
def xys(a:aJ)(Z:FHs)(u:Nat)(x y:Int)(m:Mem)(Y:Nat):GB a Z u NN (.aN [I x,I y] 2 true) (I 2) (I 0) m Y=some (I (if x≠0 then x else if y≠0 then y else 0),m):=by
 obtain⟨k,l⟩:∃k,NN=k+3:=⟨NN-3,by have:=dF;omega⟩;rw[l];simp only[GB];unfold wo wq;have b:aR 1 (.aN [I x,I y] 2 true) (I 0)=some (.aE [I x,I y]):=rfl;have f:aR 1 (.aN [I x,I y] 2 true) (I 1)=some (.aE [I y]):=rfl;have g:cG ((0:Int)+1)=1:=rfl;have i:cG ((1:Int)+1)=2:=rfl;have d:((0:Int)<2):=(by decide);have h:((1:Int)<2):=(by decide);have j:¬((2:Int)<2):=(by decide);by_cases c:x=0
 .subst c;by_cases e:y=0
  .subst e;simp only[bV,d,h,j,bG,bP,aG,aT,aV,b,f,w6,dE,gC,bG,cN,dY,g,i];rfl
  .simp only[bV,d,h,bG,aG,aT,aV,b,f,w6,dE,gC,e,bG,bP,cN,cF,dY,g];simp[e]
 .simp only[bV,d,bG,aG,aT,b,w6,dE,gC,c,bP,cF];simp[c]
def xb3{l:List Pl}(h:polyE l=0):l.length<=20/\3<=l.length/\nO l 0 l=0/\zJ (nB l)=false:=by
 unfold polyE at h;split at h
 .cases h
 .split at h
  .cases h
  .split at h
   .rename_i a;split at h
    .cases h
    .rename_i b;exact⟨by omega,by omega,a,by simpa using b⟩
   .rename_i a;exact absurd h a
def xnt{l:List Pl}(h:polyE l=0):∀s∈nB l,Z6 s:=by
 obtain⟨f,g,e,-⟩:=xb3 h;have a:=KY l l 0 e;intro s Z;unfold nB at Z;obtain⟨k,d,rfl⟩:=fF.mp Z;have d:=iR.mp d;have b:(k+1) % l.length<l.length:=G7 _ (by omega);refine⟨?_,?_⟩
 .show jW (gP l k);rw[yV d];exact EM (a _ (fG d))
 .show jW (gP l ((k+1) % l.length));rw[yV b];exact EM (a _ (fG b))
def ZL{R:Type}{x y:Int}{id:Id}{m:Mem}{k:AV->Mem->Option R}:cQ pY [(0,1,I x),(1,1,I y)] 2 1 id m k=k (.aN [I x,I y] 2 true) m:=by rw[show pY=[I 0] by kernel_rfl];simp[cQ,jC,eN,rL,cS]
def xmg:prog.underlying AN=some (.slice ym):=by kernel_rfl
def xk4(d:Nat)(x y:Int)(m:Mem):aI (aH (d+1)) DW [.aN [I x,I y] 2 true] m=some (I (if x≠0 then x else if y≠0 then y else 0),m):=by refine eZ rfl ?_ m;rw[x7b];unfold ou bW UZ wn;have a:aM prog AN (.aN [I x,I y] 2 true)=some (I 2):=rfl;simp only[mem0,a,aG];rw[xys];exact RetF.st rfl rfl
def xk2(d:Nat){sv:AV}{S:List (Pl×Pl)}(h:Sl fB sv S)(b:S.length<=1000)(a:∀s∈S,Z6 s){p:Pl}(e:jW p)(m:Mem):aI (aH (d+4)) DV [sv,p.k] m=some (B (yR S p false S),m):=by refine eZ (by simp[h.bB,Pl.k]) ?_ m;rw[x7a];unfold ot bA;show RetF _ (HC _ _ _ _ _ _ _);unfold HC vz;simp only[Pl.k,mem0,jD,pM,dP,mT,vU,gD,bD,h.len J8,aG];obtain⟨f,r⟩:=xyr d [] h b a e (id3:=(0,0,3)) (by simp) S 0 NN false ((⟨[],1⟩:Mem).new (0,0,3) (.row [I p.x,I p.y] 0 false)) 6 rfl (by rw[dF];omega) (Mem.kM _ _ _);rw[show I ((0:Nat):Int)=I 0 from rfl]at r;show RetF _ (xC (aH (d+3)) [] 0 NN (AV.ptr (0,0,3) 0 0) (B false) sv (I S.length) (I 0) ((⟨[],1⟩:Mem).new (0,0,3) (.row [I p.x,I p.y] 0 false)) 6);rw[r];exact RetF.st rfl rfl
def xlp(d:Nat){a:AV}{l:List Pl}(h:Sl Pl.c a l)(f:polyE l=0){p:Pl}(r:isPl p=true)(m:Mem):aI (aH (d+6)) DZ [a,.agg p.c] m=some (.tup [B (KG l p),I 0],m):=by
 obtain⟨F,H,E,-⟩:=xb3 f;have b:∀q∈l,jW q:=λq w=>EM (KY l l 0 E q w)
 refine eZ (by simp[h.bB,Pl.c]) ?_ m;rw[x7e];unfold oy bA VD;obtain⟨M,j⟩:∃M:Mem,M=((⟨[],1⟩:Mem).new (0,0,3) (.row p.c 0 false)):=⟨_,rfl⟩;have g:M.get (0,0,3)=some (.row p.c 0 false):=(by rw[j];simp);have x:M.next=1:=(by rw[j];rfl);have y:p.c.all AV.one=true:=rfl;simp only[mem0,jD,pM,y,bD];rw[<-j];have e:aA true 3 (.ptr (0,0,3) 0 0) M=some (.agg p.c):=(by rw[aQ g];rfl);obtain⟨s,n,o⟩:=yu (d+4) h (by omega) b M;have i:clean a=true:=h.clean;have t:=zo d h M (by omega);rw[f]at t;have u:=zh (d+2) p M;rw[aF r]at u;have A:=zf (d+4) p M;have C:=xk2 (d+1) n (by rw[XW];omega) (xnt f) (EM r) M;have D:=xk4 (d+4) 0 0 M;simp only[t,aG,e,u,ZL,D];simp[cU,tR,bU,x,i,o,e,A,C];exact RetF.tup rfl rfl
structure Ps where
 nm:ByteArray
 fr:Int
 to:Int
 va:Int
 da:Int
def Ps.c(x:Ps):List AV:=[T x.nm,I x.fr,I x.to,I x.va,I x.da]
theorem Ps.len(x:Ps):x.c.length=5:=rfl
structure Lk where
 at_:Int
 da:Int
def Lk.c(x:Lk):List AV:=[I x.at_,I x.da]
theorem Lk.len(x:Lk):x.c.length=2:=rfl
def lkBad(l:List Lk)(x:Lk):Int:=bif !wi x.at_ 0 1000000000||!wi x.da 0 1000000 then 2
    else bif(match l.getLast? with|some y=>decide (x.at_<=y.at_)|none=>false)then 9 else 0
def pw2(l:List Ps)(x:Ps):Int:=
 bif !wi x.fr 0 1000000000||!wi x.to 0 1000000000||!wi x.va 0 1000000||!wi x.da 0 1000000 then 2
 else bif decide (x.to<=x.fr)then 26
 else bif(match l.getLast? with|some y=>decide (x.to<y.to)|none=>false)then 9 else 0
def pwErr(l:List Ps)(x:Ps):Int:=bif decide (namedM x.nm (l.map Ps.nm)≠0)then namedM x.nm (l.map Ps.nm)else pw2 l x
def YX(l:List Ps):Nat->List Ps->Int×Int
 |_,[]=>(0,0)
 |k,x::r=>bif decide (pwErr (l.take k) x≠0)then((k:Int),pwErr (l.take k) x)else YX l (k+1) r
def xue(b:Int×Int)(l:List Ps)(k:Nat)(a:List Ps):Int×Int:=bif decide ((YX l k a).2≠0)then YX l k a else b
def ZS(l:List Lk):Nat->List Lk->Int×Int
 |_,[]=>(0,0)
 |k,x::r=>bif decide (lkBad (l.take k) x≠0)then((k:Int),lkBad (l.take k) x)else ZS l (k+1) r
def xx0(b:Int×Int)(l:List Lk)(k:Nat)(a:List Lk):Int×Int:=bif decide ((ZS l k a).2≠0)then ZS l k a else b
def planM(a:List Ps)(b:List Lk)(d e:Int):Int×Int:=
 bif decide (40<a.length)then(0,8)
 else xue (bif decide (20<b.length)then(0,8)else xx0 (0,bif wi d 0 1000000&&wi e 0 1000000 then 0 else 2) b 0 b) a 0 a
def wS{a:aJ}{f:FuncId}{l b:List AV}{m d:Mem}{r:AV}(e:l.mapM (Go.Ix.frz m.get bI)=some b)(h:a [] f b mem0=some (r,d))(g:qS r=true):eO a f l m=some (r,m):=by unfold eO;rw[e];simp only[h,g,cM]
def rG{a:Id->Option Ob}{id:Id}{b cs':List AV}{fr:Bool}{k:Nat}(h:a id=some (.row b 0 fr))(Z:b.mapM (Go.Ix.frz a k)=some cs'):Go.Ix.frz a (k+1) (.ptr id 0 0)=some (.aE cs'):=by have e:Go.Ix.frz a (k+1) (.ptr id 0 0)=((b.drop 0).mapM (Go.Ix.frz a k)).map .aE:=(by simp only[Go.Ix.frz,h,cM]);rw[e,bC,Z];rfl
structure RPlan (l:List Ps) (kl:List Lk) (gap sto:Int):Prop where
 ok:(planM l kl gap sto).2=0
 len:l.length<=40
 klen:kl.length<=20
 gap0:0<=gap/\gap<=1000000
 sto0:0<=sto/\sto<=1000000
 ps:∀(k:Nat) (h:k<l.length),pwErr (l.take k) l[k]=0
 ls:∀(k:Nat) (h:k<kl.length),lkBad (kl.take k) kl[k]=0
def xua{l:List Ps}{x:Ps}(h:pwErr l x=0):(0<=x.fr/\x.fr<=1000000000)/\(0<=x.to/\x.to<=1000000000)/\(0<=x.va/\x.va<=1000000)/\(0<=x.da/\x.da<=1000000)/\x.fr<x.to/\∀y,l.getLast?=some y->y.to<=x.to:=by
 unfold pwErr at h;by_cases a:namedM x.nm (l.map Ps.nm)=0
 .rw[a]at h;simp only[ne_eq,not_true,bP,cZ,pw2]at h;cases d:wi x.fr 0 1000000000<;>cases e:wi x.to 0 1000000000<;>cases f:wi x.va 0 1000000<;>cases g:wi x.da 0 1000000<;>simp[d,e,f,g]at h;by_cases b:x.to<=x.fr
  .simp[b]at h
  .simp only[b,bP,cZ]at h;simp only[wi,mR]at d e f g;refine⟨by omega,by omega,by omega,by omega,by omega,λy i=>?_⟩;rw[i]at h;by_cases j:x.to<y.to
   .simp[j]at h
   .omega
 .simp[a]at h
def RPlan.at{l:List Ps}{d:List Lk}{a b:Int}(R:RPlan l d a b){x:Ps}(e:x∈l):(0<=x.fr/\x.fr<=1000000000)/\(0<=x.to/\x.to<=1000000000)/\(0<=x.va/\x.va<=1000000)/\(0<=x.da/\x.da<=1000000)/\x.fr<x.to:=by obtain⟨k,g,rfl⟩:=xib e;have:=xua (R.ps k g);exact⟨this.1,this.2.1,this.2.2.1,this.2.2.2.1,this.2.2.2.2.1⟩
def F8{α:Type}{d:α->List AV}{z b:Nat}(j:∀x,(d x).length=z){a:AV}{l:List α}(h:Sl d a l)(g:cH l.length b)(id:Id)(m:Mem) :
    (l=[]/\∀{R:Type} (k:AV->Mem->Option R),cJ z b id (elems m.get z a) (.aN [] 0 true) m k=k (.aN [] 0 true) m) \/
    (l≠[]/\∀{R:Type} (k:AV->Mem->Option R),cJ z b id (elems m.get z a) (.aN [] 0 true) m k=k (.sref id 0 0 l.length z true) (m.new id (.row (l.flatMap d) 0 false))):=by
 have i:=h.elems j m.get;by_cases f:l.length=0
 .refine .inl ⟨rM.mp f,λk=>?_⟩;rw[i,LO g,eX f];rfl
 .refine .inr ⟨λe=>f (by rw[e];rfl),λk=>?_⟩;rw[i,LO g,eY f];rfl
def U1{α:Type}{b:α->List AV}{z k:Nat}(d:∀x,(b x).length=z)(Z:∀x,(b x).all aP=true){a:Id->Option Ob}{id:Id}{l:List α}{x:Bool}(e:a id=some (.row (l.flatMap b) 0 false)) :
    frz a (k+2) (.sref id 0 0 l.length z x)=some (.aN (l.flatMap b) l.length false):=by
 have g:=gG d l
 have:=pI (aC:=a) (id:=id) (cs:=l.flatMap b) (ver:=0) (off:=0) (n:=l.length) (z:=z) (k:=k) (f:=false) (x:=x) e (by omega) (by
  rw[bC,dM (by omega)];exact oD Z l)
 rw[bC,dM (by omega)]at this;exact this
def tE(s:ByteArray):List AV:=[T s]
theorem K8(s:ByteArray):(tE s).length=1:=rfl
theorem XP(s:ByteArray):(tE s).all aP=true:=rfl
def VZ:oM=[T ⟨#[]⟩]:=by kernel_rfl
structure Bd where
 nm:ByteArray
 ca:AV
 cs:List Pl
 th:Int
 ok:Sl Pl.c ca cs
def Bd.c(b:Bd):List AV:=[T b.nm,b.ca,I b.th]
theorem Bd.len(b:Bd):b.c.length=3:=rfl
def Bd.bB(b:Bd):b.c.all aP=true:=by simp[Bd.c,b.ok.aP]
def Bd.one(b:Bd):b.c.all AV.one=true:=by simp[Bd.c,b.ok.one];rfl
structure Pn where
 nm:ByteArray
 at_:Pl
def Pn.c(b:Pn):List AV:=[T b.nm,I b.at_.x,I b.at_.y,I b.at_.z]
theorem Pn.len(b:Pn):b.c.length=4:=rfl
theorem Pn.bB(b:Pn):b.c.all aP=true:=rfl
structure Pe where
 nm:ByteArray
 role:Int
def Pe.c(b:Pe):List AV:=[T b.nm,I b.role]
theorem Pe.len(b:Pe):b.c.length=2:=rfl
theorem Pe.bB(b:Pe):b.c.all aP=true:=rfl
def K5:prog.underlying qB=some (.slice o0):=by kernel_rfl
def qE:prog.underlying qA=some (.slice n8):=by kernel_rfl
def vI:prog.underlying rP=some (.slice n9):=by kernel_rfl
def iN(a b:Int):Int:=if a=0 then b else a
def jK{α:Type}(f:List ByteArray->α->Int)(nm:α->ByteArray):List ByteArray->List α->Int
 |_,[]=>0
 |a,x::r=>iN (f a x) (jK f nm (a++[nm x]) r)
def rgE(b:Bool):Int:=bif b then 0 else 2
def wU(a:List ByteArray)(b:Bd):Int:=iN (namedM b.nm a) (iN (polyE b.cs) (rgE (wi b.th 0 1000000)))
def rZ(a:List ByteArray)(b:Pn):Int:=iN (namedM b.nm a) (rgE (isPl b.at_))
def xX(a:List ByteArray)(b:Pe):Int:=iN (namedM b.nm a) (rgE (wi b.role 1 3))
def lI(E O:Int)(W:List Bd)(J:List Pn)(C:List Pe):Int:=
 if(wi E 1 10000&&wi O 0 2048)=true then
  if 6<W.length then 8 else iN (jK wU Bd.nm [] W)
   (if 8<J.length then 8 else iN (jK rZ Pn.nm [] J)
    (if C.length=0 then 10 else if 10<C.length then 8 else jK xX Pe.nm [] C))
 else 2
def dh(d:Nat){f:FuncId}{b:List AV}(j:b.all aP=true){ns:List ByteArray}(H:ns.length<=1000){x:ByteArray}(p:x.size<=1000){k:Nat}(J:k<=ns.length){m:Mem}{id:Id}(r:m.get id=some (.row b 0 false))(g:∀(i:Nat) (t:i<ns.length) (m:Mem),∃h,fL (aH (d+2)) [] 2 (.clo f [.aE b]) [I i] m=some (T ns[i],h)):eO (aH (d+3)) qY [T x,.clo f [.ptr id 0 0],I k] m=some (I (namedM x (ns.take k)),m):=by
 have n:(ns.take k).length=k:=(by simp;omega);obtain⟨h,o⟩:=xhn (d+1) (s:=x) (fv:=.clo f [.aE b]) (l:=ns.take k) p (by omega) λi t m=>by have hi':i<ns.length:=(by omega);obtain⟨h,e⟩:=g i hi' m;refine⟨h,?_⟩;have w:(ns.take k)[i]=ns[i]:=(by simp);rw[w];exact e
 rw[n]at o;have y:aH (d+3) [] qY [T x,.clo f [.aE b],I k] mem0=some (I (namedM x (ns.take k)),h):=o;clear o;refine wS ?_ y rfl;have A:b.mapM (Go.Ix.frz m.get 4)=some b:=sF λa u=>uR m.get 3 (dJ.mp j a u)
 have C:Go.Ix.frz m.get 5 (.ptr id 0 0)=some (.aE b):=rG r A;have D:Go.Ix.frz m.get bI (.clo f [.ptr id 0 0])=some (.clo f [.aE b]):=(by show([AV.ptr id 0 0].mapM (Go.Ix.frz m.get 5)).map (AV.clo f)=_;simp only[eI,gX,C];rfl);have E:Go.Ix.frz m.get bI (T x)=some (T x):=kN _ 4 rfl;have F:Go.Ix.frz m.get bI (I k)=some (I k):=kN _ 4 rfl;simp only[eI,gX,D,E,F];rfl
variable{ba pa A:AV}{W:List Bd}{J:List Pn}{C:List Pe}{E O:Int}
def xz8(d:Nat)(h:Sl Bd.c ba W)(i:Nat)(b:i<(W.map Bd.nm).length)(m:Mem):∃a,fL (aH (d+1)) [] 2 (.clo R5 [.aE [I E,I O,ba,pa,A]]) [I i] m=some (T (W.map Bd.nm)[i],a):=by
 have hi':i<W.length:=(by simpa using b);have ix:=h.ix Bd.len hi';show ∃a,aH (d+1) [] R5 ([I i]++[.aE [I E,I O,ba,pa,A]]) m=_;rw[iY,iW,x6v];unfold nw bA UF;refine⟨⟨m.hp,m.next+1⟩,?_⟩;have e:aD 2 (.aE [I E,I O,ba,pa,A])=some (.aE [ba,pa,A]):=rfl;have f:∀m,aA false 1 (.aE [ba,pa,A]) m=some ba:=λ_=>rfl
 have g:aD 0 (.aE ((W.drop i).flatMap Bd.c))=some (.aE ((W.drop i).flatMap Bd.c)):=rfl;have j:∀m,aA false 1 (.aE ((W.drop i).flatMap Bd.c)) m=some (T W[i].nm):=λm=>by rw[fX hi',dT];rfl
 simp only[e,f,ix,g,j,aG,G9]
def xz6(d:Nat)(h:Sl Pn.c pa J)(i:Nat)(b:i<(J.map Pn.nm).length)(m:Mem):∃a,fL (aH (d+1)) [] 2 (.clo C0 [.aE [I E,I O,ba,pa,A]]) [I i] m=some (T (J.map Pn.nm)[i],a):=by
 have hi':i<J.length:=(by simpa using b);have ix:=h.ix Pn.len hi';show ∃a,aH (d+1) [] C0 ([I i]++[.aE [I E,I O,ba,pa,A]]) m=_;rw[iY,iW,x6u];unfold nv bA UE;refine⟨⟨m.hp,m.next+1⟩,?_⟩;have e:aD 3 (.aE [I E,I O,ba,pa,A])=some (.aE [pa,A]):=rfl;have f:∀m,aA false 1 (.aE [pa,A]) m=some pa:=λ_=>rfl
 have g:aD 0 (.aE ((J.drop i).flatMap Pn.c))=some (.aE ((J.drop i).flatMap Pn.c)):=rfl;have j:∀m,aA false 1 (.aE ((J.drop i).flatMap Pn.c)) m=some (T J[i].nm):=λm=>by rw[fX hi',dT];rfl
 simp only[e,f,ix,g,j,aG,G9]
def xz7(d:Nat)(h:Sl Pe.c A C)(i:Nat)(b:i<(C.map Pe.nm).length)(m:Mem):∃a,fL (aH (d+1)) [] 2 (.clo R4 [.aE [I E,I O,ba,pa,A]]) [I i] m=some (T (C.map Pe.nm)[i],a):=by
 have hi':i<C.length:=(by simpa using b);have ix:=h.ix Pe.len hi';show ∃a,aH (d+1) [] R4 ([I i]++[.aE [I E,I O,ba,pa,A]]) m=_;rw[iY,iW,x6t];unfold nu bA UC;refine⟨⟨m.hp,m.next+1⟩,?_⟩;have e:aD 4 (.aE [I E,I O,ba,pa,A])=some (.aE [A]):=rfl;have f:∀m,aA false 1 (.aE [A]) m=some A:=λ_=>rfl
 have g:aD 0 (.aE ((C.drop i).flatMap Pe.c))=some (.aE ((C.drop i).flatMap Pe.c)):=rfl;have j:∀m,aA false 1 (.aE ((C.drop i).flatMap Pe.c)) m=some (T C[i].nm):=λm=>by rw[fX hi',dT];rfl
 simp only[e,f,ix,g,j,aG,G9]
def fstE:List Int->Int
 |[]=>0
 |x::r=>iN x (fstE r)
def xyj(d:aJ)(Z:FHs)(u:Nat){a:AV}{l:List Int}(h:Sl intE a l)(w:l.length<=1000):∀(b:List Int) (k j:Nat) (m:Mem) (Y:Nat),l.drop k=b->b.length<j ->
    Y4 d Z u j a (I l.length) (I k) m Y=some (I (fstE b),m):=by
 intro b;induction b with
 |nil=>intro k j m Y i f;obtain⟨j,rfl⟩:=dQ f;have g:¬((k:Int)<(l.length:Int)):=(by have:=gZ.mp i;omega);simp only[Y4];unfold SY uh;simp only[bV,g,bP,aG,aV,fstE]
 |cons e r t=>
  intro k j m Y i f;obtain⟨j,rfl⟩:=dQ f;obtain⟨g,p,n⟩:=gW i;have hk':(k:Int)<(l.length:Int):=(by omega);have ix:=h.ix fR g;have ld:∀m,aA false 1 (.aE ((l.drop k).flatMap intE)) m=some (I e):=λm=>by rw[fX g,dT,p];rfl
  have o:=iJ k (by omega);simp only[Y4];unfold SY fstE iN;simp only[bV,hk',bG,aG,aT,ix,ld,gC];by_cases c:e=0
  .simp only[c,bG,cN,aV,dY,o,aG,cM];exact t (k+1) j m _ n (by simp at f;omega)
  .simp only[c,bP,cF,aT,cT]
def IB(d:Nat){a:AV}{l:List Int}(h:Sl intE a l)(b:l.length<=1000)(m:Mem):aI (aH (d+1)) uK [a] m=some (I (fstE l),m):=by refine eZ (by simp[h.bB]) ?_ m;rw[x57];unfold md bW SX ug;have r:=xyj (aH d) [] 0 h b l 0 NN ⟨[],1⟩ (0+1+3) rfl (by rw[dF];omega);have e:aM prog AN a=some (I l.length):=h.len xmg;rw[show I ((0:Nat):Int)=I 0 from rfl]at r;simp only[mem0,e,aG];exact r▸RetF.st rfl rfl
def xw6{R:Type}{x y z:Int}{id:Id}{m:Mem}{k:AV->Mem->Option R}:cQ pY [(0,1,I x),(1,1,I y),(2,1,I z)] 3 1 id m k=k (.aN [I x,I y,I z] 3 true) m:=by rw[show pY=[I 0] by kernel_rfl];simp[cQ,jC,eN,rL,cS]
def xkn(d:Nat)(n:Int)(m:Mem):aI (aH (d+2)) qW [I n,I 100000000] m=some (B (decide (-100000000<=n)&&decide (n<=100000000)),m):=by refine eZ rfl ?_ m;rw[xgn];unfold NA bA GS;simp[mem0,tK,wi];exact RetF.st rfl rfl
def xyx(d:Nat)(h:Sl Pe.c A C)(y:[I E,I O,ba,pa,A].all aP=true)(Q:C.length<=1000)(R:∀x∈C,x.nm.size<=1000):∀(f:List Pe) (k j:Nat) (m:Mem) (Y:Nat),C.drop k=f->f.length<j->m.get (0,0,1)=some (.row [I E,I O,ba,pa,A] 0 false) ->
    ∃W,Y7 (aH (d+3)) [] 0 j (.ptr (0,0,1) 0 0) A (I C.length) (I k) m Y=some (I (jK xX Pe.nm ((C.take k).map Pe.nm) f),W):=by
 intro f;induction f with
 |nil=>intro k j m Y D w N;obtain⟨j,rfl⟩:=dQ w;have i:¬((k:Int)<(C.length:Int)):=(by have:=gZ.mp D;omega);simp only[Y7];unfold UG vi;simp only[bV,i,bP,aG,aV,jK];exact⟨m,rfl⟩
 |cons e r ih=>
  intro k j m Y D w N;obtain⟨j,rfl⟩:=dQ w;obtain⟨i,K,L⟩:=gW D;have hk':(k:Int)<(C.length:Int):=(by omega);have ix:=h.ix Pe.len i;have ld:=λm=>jF (m:=m) Pe.len (by omega) i
  rw[K]at ld;obtain⟨M,s1,X,n1,f1⟩:=uE (u:=0) (s:=Y+4) (t:=11) (m:=m) (z:=WG) (cs:=e.c) (n:=2) (by kernel_rfl) rfl rfl;have P:M.get (0,0,1)=some (.row [I E,I O,ba,pa,A] 0 false):=(by rw[f1 _ (by simp)];exact N);have g1':M.get (0,Y+4,11)=some (.row [T e.nm,I e.role] 0 false):=X;have Z:=iJ k (by omega);have o:=dh d y (ns:=C.map Pe.nm) (by simpa using Q) (x:=e.nm) (R e (K▸fG i)) (k:=k) (by simp;omega) P (xz7 (d+1) h);have g:=IB (d+2) (a:=.aN [I (namedM e.nm ((C.map Pe.nm).take k)),I (rgE (wi e.role 1 3))] 2 true) (l:=[namedM e.nm ((C.map Pe.nm).take k),rgE (wi e.role 1 3)]) (Or.inr ⟨true,rfl⟩) (by simp);have F:(C.map Pe.nm).take k=(C.take k).map Pe.nm:=(by rw[MB]);have p:(C.take (k+1)).map Pe.nm=(C.take k).map Pe.nm++[e.nm]:=(by rw[mI i,K,nU];rfl);have H:∀b m,aI (aH (d+3)) pB [B b] m=some (I (rgE b),m):=λb m=>IA (d+2) b m
  rw[F]at o g;have J:fstE [namedM e.nm ((C.take k).map Pe.nm),rgE (wi e.role 1 3)]=xX ((C.take k).map Pe.nm) e:=by
   unfold xX fstE fstE fstE iN;repeat' split
   all_goals first|rfl|omega
  rw[J]at g;simp only[Y7];unfold UG;simp only[bV,hk',bG,aG,aT,ix,ld,kK,s1,cX,aQ g1',bR,bC,dR,dE,o,tK (d+2),H,ZL,g,gC,jK];by_cases c:xX ((C.take k).map Pe.nm) e=0
  .simp only[c,bG,cN,aV,dY,Z,aG,iN,cM];rw[<-p];exact ih (k+1) j M _ L (by simp at w;omega) P
  .simp only[c,bP,cF,aT,iN,cT];exact⟨M,rfl⟩
def xyw(d:Nat)(h:Sl Pn.c pa J)(P:[I E,I O,ba,pa,A].all aP=true)(hl:J.length<=1000)(hn:∀x∈J,x.nm.size<=1000){i:Int}(hB:∀m Y,m.get (0,0,1)=some (.row [I E,I O,ba,pa,A] 0 false)->∃F,UD (aH (d+3)) [] 0 (.ptr (0,0,1) 0 0) m Y=some (I i,F)):∀(f:List Pn) (k j:Nat) (m:Mem) (Y:Nat),J.drop k=f->f.length<j->m.get (0,0,1)=some (.row [I E,I O,ba,pa,A] 0 false) ->
    ∃F,I3 (aH (d+3)) [] 0 j (.ptr (0,0,1) 0 0) pa (I J.length) (I k) m Y=some (I (iN (jK rZ Pn.nm ((J.take k).map Pn.nm) f) i),F):=by
 intro f;induction f with
 |nil=>intro k j m Y Z L hm;obtain⟨j,rfl⟩:=dQ L;have w:¬((k:Int)<(J.length:Int)):=(by have:=gZ.mp Z;omega);simp only[I3];unfold UB;simp only[bV,w,bP,aG,aV,jK,iN,cM];exact hB m _ hm
 |cons e r ih=>
  intro k j m Y Z L hm;obtain⟨j,rfl⟩:=dQ L;obtain⟨w,he,hd1⟩:=gW Z;have hk':(k:Int)<(J.length:Int):=(by omega);have ix:=h.ix Pn.len w;have ld:=λm=>jF (m:=m) Pn.len (by omega) w
  rw[he]at ld;obtain⟨M,s1,g1,n1,f1⟩:=uE (u:=0) (s:=Y+4) (t:=7) (m:=m) (z:=AM) (cs:=e.c) (n:=4) (by kernel_rfl) rfl rfl;have hM:M.get (0,0,1)=some (.row [I E,I O,ba,pa,A] 0 false):=(by rw[f1 _ (by simp)];exact hm);have g1':M.get (0,Y+4,7)=some (.row [T e.nm,I e.at_.x,I e.at_.y,I e.at_.z] 0 false):=g1;have hw:=iJ k (by omega);have H:=dh d P (ns:=J.map Pn.nm) (by simpa using hl) (x:=e.nm) (hn e (he▸fG w)) (k:=k) (by simp;omega) hM (xz6 (d+1) h);have o:=IB (d+2) (a:=.aN [I (namedM e.nm ((J.map Pn.nm).take k)),I (rgE (isPl e.at_))] 2 true) (l:=[namedM e.nm ((J.map Pn.nm).take k),rgE (isPl e.at_)]) (Or.inr ⟨true,rfl⟩) (by simp);have htk:(J.map Pn.nm).take k=(J.take k).map Pn.nm:=(by rw[MB]);have K:(J.take (k+1)).map Pn.nm=(J.take k).map Pn.nm++[e.nm]:=(by rw[mI w,he,nU];rfl);have hrg:∀b m,aI (aH (d+3)) pB [B b] m=some (I (rgE b),m):=λb m=>IA (d+2) b m
  have p:=λn m=>xkn (d+1) n m
  rw[htk]at H o;have hfe:fstE [namedM e.nm ((J.take k).map Pn.nm),rgE (isPl e.at_)]=rZ ((J.take k).map Pn.nm) e:=by
   unfold rZ fstE fstE fstE iN;repeat' split
   all_goals first|rfl|omega
  rw[hfe]at o
  have tail:∀Y,(∃F,(eO (aH (d+3)) qY [T e.nm,.clo C0 [.ptr (0,0,1) 0 0],I k] M).bind (λC=>
   (aI (aH (d+3)) pB [B (isPl e.at_)] C.2).bind λD=>
   cQ pY [(0,1,C.1),(1,1,D.1)] 2 1 (0,Y+31,90) D.2 λQ R=>
   (aI (aH (d+3)) uK [Q] R).bind λg=>
   (eF g.1 (I 0)).bind λW=>
   aK W (some (g.1,g.2)) ((bJ (I k) (I 1)).bind λX=>
    I3 (aH (d+3)) [] 0 j (.ptr (0,0,1) 0 0) pa (I J.length) X g.2 (Y+38)))=some (I (iN (jK rZ Pn.nm ((J.take k).map Pn.nm) (e::r)) i),F)):=λY=>by
   simp only[H,aG,hrg,ZL,o,gC,jK]
   by_cases c:rZ ((J.take k).map Pn.nm) e=0
   .simp only[c,bG,cN,aV,dY,hw,aG]
    rw[show iN 0 (jK rZ Pn.nm ((J.take k).map Pn.nm++[e.nm]) r)=jK rZ Pn.nm ((J.take k).map Pn.nm++[e.nm]) r from rfl,<-K]
    exact ih (k+1) j M _ hd1 (by simp at L;omega) hM
   .simp only[c,bP,cF,aT,iN,cT]
    exact⟨M,rfl⟩
  simp only[I3];unfold UB;simp only[bV,hk',bG,aG,aT,ix,ld,kK,s1,cX,aQ g1',bR,bC,dR,dE,p];unfold isPl at tail;cases x1:(decide (-100000000<=e.at_.x)&&decide (e.at_.x<=100000000))
  .rw[x1]at tail;simp only[dZ,gS,iS,cZ,aG,cW,aQ g1',bC,dE];exact tail Y
  .cases N:(decide (-100000000<=e.at_.y)&&decide (e.at_.y<=100000000))
   .rw[x1,N]at tail;simp only[dZ,gS,iS,bD,cZ,aG,cW,aQ g1',cX,bC,dR,dE,p,N];exact tail Y
   .rw[x1,N]at tail;simp only[dZ,gS,iS,bD,aG,cW,aQ g1',cX,bC,dR,dE,p,N];exact tail Y
def xyy(d:Nat)(h:Sl Bd.c ba W)(D:[I E,I O,ba,pa,A].all aP=true)(hl:W.length<=1000)(hn:∀x∈W,x.nm.size<=1000/\x.cs.length<=1000){res:Int}(hB:∀m Y,m.get (0,0,1)=some (.row [I E,I O,ba,pa,A] 0 false)->∃F,UA (aH (d+5)) [] 0 (.ptr (0,0,1) 0 0) m Y=some (I res,F)):∀(f:List Bd) (k j:Nat) (m:Mem) (Y:Nat),W.drop k=f->f.length<j->m.next=1->m.get (0,0,1)=some (.row [I E,I O,ba,pa,A] 0 false) ->
    ∃F,Y6 (aH (d+5)) [] 0 j (.ptr (0,0,1) 0 0) ba (I W.length) (I k) m Y=some (I (iN (jK wU Bd.nm ((W.take k).map Bd.nm) f) res),F):=by
 intro f;induction f with
 |nil=>intro k j m Y H C g J;obtain⟨j,rfl⟩:=dQ C;have o:¬((k:Int)<(W.length:Int)):=(by have:=gZ.mp H;omega);simp only[Y6];unfold TZ;simp only[bV,o,bP,aG,aV,jK,iN,cM];exact hB m _ J
 |cons e r ih=>
  intro k j m Y H C g J;obtain⟨j,rfl⟩:=dQ C;obtain⟨o,Z,hd1⟩:=gW H;have hk':(k:Int)<(W.length:Int):=(by omega);have ix:=h.ix Bd.len o;have ld:=λm=>jF (m:=m) Bd.len (by omega) o
  rw[Z]at ld;have K:=hn e (Z▸fG o);obtain⟨M,s1,g1,n1,f1⟩:=uE (u:=0) (s:=Y+4) (t:=4) (m:=m) (z:=WH) (cs:=e.c) (n:=3) (by kernel_rfl) rfl e.one;have hM:M.get (0,0,1)=some (.row [I E,I O,ba,pa,A] 0 false):=(by rw[f1 _ (by simp)];exact J);have g1':M.get (0,Y+4,4)=some (.row [T e.nm,e.ca,I e.th] 0 false):=g1;have hw:=iJ k (by omega);have p:=dh (d+2) D (ns:=W.map Bd.nm) (by simpa using hl) (x:=e.nm) K.1 (k:=k) (by simp;omega) hM (xz8 (d+3) h);have L:=zo d e.ok M (by omega);have i:=IB (d+4) (a:=.aN [I (namedM e.nm ((W.map Bd.nm).take k)),I (polyE e.cs),I (rgE (wi e.th 0 1000000))] 3 true) (l:=[namedM e.nm ((W.map Bd.nm).take k),polyE e.cs,rgE (wi e.th 0 1000000)]) (Or.inr ⟨true,rfl⟩) (by simp);have N:(W.map Bd.nm).take k=(W.take k).map Bd.nm:=(by rw[MB]);have w:(W.take (k+1)).map Bd.nm=(W.take k).map Bd.nm++[e.nm]:=(by rw[mI o,Z,nU];rfl);have P:∀b m,aI (aH (d+5)) pB [B b] m=some (I (rgE b),m):=λb m=>IA (d+4) b m
  rw[N]at p i;have Q:fstE [namedM e.nm ((W.take k).map Bd.nm),polyE e.cs,rgE (wi e.th 0 1000000)]=wU ((W.take k).map Bd.nm) e:=by
   unfold wU fstE fstE fstE fstE iN;repeat' split
   all_goals first|rfl|omega
  rw[Q]at i;have R:clean e.ca=true:=e.ok.clean;have y:((Nat.ble 1 (bU 0 [e.ca])&&true)&&(cU (some M.next) (tR (.ptr (0,Y+4,4) 0 (0+2))) (bU 0 [e.ca])&&true))=true:=(by have X:M.next=1:=(by rw[n1,g]);simp[bU,cU,tR,R,X]);simp only[Y6];unfold TZ;simp only[bR]at y;simp only[bV,hk',bG,aG,aT,ix,ld,kK,s1,cX,aQ g1',bR,bC,dR,dE,p,L,tK (d+4),P,xw6,i,y,bD,gC,jK];by_cases c:wU ((W.take k).map Bd.nm) e=0
  .simp only[c,bG,cN,aV,dY,hw,aG];rw[show iN 0 (jK wU Bd.nm ((W.take k).map Bd.nm++[e.nm]) r)=jK wU Bd.nm ((W.take k).map Bd.nm++[e.nm]) r from rfl,<-w];exact ih (k+1) j M _ hd1 (by simp at C;omega) (by rw[n1,g]) hM
  .simp only[c,bP,cF,aT,iN,cT];exact⟨M,rfl⟩
def xl4(d:Nat)(e:Sl Bd.c ba W)(f:Sl Pn.c pa J)(g:Sl Pe.c A C)(y:W.length<=1000)(D:J.length<=1000)(F:C.length<=1000)(i:∀x∈W,x.nm.size<=1000/\x.cs.length<=1000)(j:∀x∈J,x.nm.size<=1000)(l:∀x∈C,x.nm.size<=1000)(m:Mem) :
    aI (aH (d+6)) R6 [.agg [I E,I O,ba,pa,A]] m=some (I (lI E O W J C),m):=by
 have b:[I E,I O,ba,pa,A].all aP=true:=(by simp[e.aP,f.aP,g.aP]);refine eZ (by simp[e.aP,f.aP,g.aP]) ?_ m;rw[x6w];unfold ny bW TY;have H:[I E,I O,ba,pa,A].all AV.one=true:=(by simp[e.one,f.one,g.one]);simp only[mem0,jD,pM,H,bD];generalize h:Mem.new _ _ _=m1;have a:m1.get (0,0,1)=some (.row [I E,I O,ba,pa,A] 0 false):=(by rw[<-h,Mem.kM]);have n:m1.next=1:=(by rw[<-h];rfl);unfold lI;simp only[cX,aG,aQ a,bR,bC,dE,tK (d+4),gE];cases L:wi E 1 10000
 .simp only[cF,dZ,gS,dX,cN,cZ,aG,cW,bD,aT,pU,fH,cT];exact RetF.st rfl rfl
 cases w:wi O 0 2048
 .simp only[cN,dZ,gS,dX,cF,bD,aG,aQ a,bC,dR,dE,tK (d+4),w,gE,cW,cZ,aT,Bool.and_false,fH,cT];exact RetF.st rfl rfl
 simp only[cN,dZ,gS,dX,cF,bD,aG,aQ a,bC,dR,dE,tK (d+4),w,gE,cW,cZ,aV,gD,cM,e.len K5,iC];by_cases o:6<W.length
 .simp only[show((6:Int)<(W.length:Int)) by omega,bG,aT,o,cM];exact RetF.st rfl rfl
 simp only[show ¬((6:Int)<(W.length:Int)) by omega,bP,aV,o,cT];unfold vf;simp only[cX,aG,aQ a,bR,bC,dR,dE,e.len K5];have r:=xyy d e b y i (res:=(if 8<J.length then 8 else iN (jK rZ Pn.nm [] J) (if C.length=0 then 10 else if 10<C.length then 8 else jK xX Pe.nm [] C))) (λm Y a=>?_) W 0 NN m1 (0+18+4) rfl (by rw[dF];omega) n a
 .obtain⟨K,r⟩:=r;rw[show I ((0:Nat):Int)=I 0 from rfl]at r;rw[r];exact RetF.st rfl rfl
 .unfold UA;simp only[cX,aG,aQ a,bR,bC,dR,dE,f.len qE,iC];by_cases p:8<J.length
  .simp only[show((8:Int)<(J.length:Int)) by omega,bG,aT,p,cM];exact⟨_,rfl⟩
  simp only[show ¬((8:Int)<(J.length:Int)) by omega,bP,aV,p,cT];unfold vg;simp only[cX,aG,aQ a,bR,bC,dR,dE,f.len qE];refine xyw (d+2) f b D j (λm Y a=>?_) J 0 NN m _ rfl (by rw[dF];omega) a;unfold UD;simp only[cX,aG,aQ a,bR,bC,dR,dE,g.len vI,iD];by_cases t:C.length=0
  .simp only[t,cM];exact⟨_,rfl⟩
  simp only[show ¬((C.length:Int)=0) by omega,bP,aV,t,cT,aG,iC];by_cases u:10<C.length
  .simp only[show((10:Int)<(C.length:Int)) by omega,bG,aT,u,cM];exact⟨_,rfl⟩
  simp only[show ¬((10:Int)<(C.length:Int)) by omega,bP,aV,u,cT];unfold vh;simp only[cX,aG,aQ a,bR,bC,dR,dE,g.len vI];exact xyx (d+2) g b F l C 0 NN m _ rfl (by rw[dF];omega) a
end Go.Ix
namespace Go.Proofs.YtjngclcijnpooaaGreatDoor
open Go.ChangeShapes Go.WideShapes Go.ChangeAt Go.RowKit Go.Ix
def KX:prog.cellsOf eB=1:=by kernel_rfl
def cv:prog.cellsOf bK=1:=by kernel_rfl
def cw:prog.cellsOf tI=3:=by kernel_rfl
def EU{t:TypeId}{b:Array Go.Field}{l:List (TypeId×Nat)}{r:List AV}(d:b.toList.map (λf=>(f.type,f.offset))=l)(a:∀f∈b.toList,Sh prog f.type ((r.drop f.offset).take (prog.cellsOf f.type))):∀p∈l,Sh prog p.1 ((r.drop p.2).take (prog.cellsOf p.1)):=by subst d;intro p e;obtain⟨f,g,rfl⟩:=fF.mp e;exact a f g
def xb5{r:List AV}(b:r.length=prog.cellsOf tI)(j:Sh prog tI r):∃x:Pl,r=x.c:=by
 obtain⟨w,m,n⟩:=D8 (t:=tI) (l:=[(eB,0),(eB,1),(eB,2)]) (by kernel_rfl);obtain⟨-,a⟩:=Sh.s9 m j;rw[cw]at b;match r,b with
 |[x,y,z],_=>have:=EU (t:=eB) n a;have d:=this (eB,0) (by simp);have e:=this (eB,1) (by simp);have f:=this (eB,2) (by simp);simp only[KX,bC,lA,jM,dR]at d e f;obtain⟨o,g⟩:=u9 d;obtain⟨p,h⟩:=u9 e;obtain⟨u,i⟩:=u9 f;simp at g h i;exact⟨⟨o,p,u⟩,by rw[g,h,i];rfl⟩
def x72{r:List AV}(a:r.length=prog.cellsOf o0)(b:Sh prog o0 r):∃x:Bd,r=x.c:=by
 obtain⟨A,o,p⟩:=D8 (t:=o0) (l:=[(bK,0),(pZ,1),(eB,2)]) (by kernel_rfl);obtain⟨-,f⟩:=Sh.s9 o b;have n:prog.cellsOf o0=3:=(by kernel_rfl);have d:prog.cellsOf pZ=1:=(by kernel_rfl);rw[n]at a;match r,a with
 |[x,y,z],_=>have:=EU (t:=eB) p f;have g:=this (bK,0) (by simp);have h:=this (pZ,1) (by simp);have i:=this (eB,2) (by simp);simp only[KX,cv,d,bC,lA,jM,dR]at g h i;obtain⟨s,j⟩:=BJ g;obtain⟨l,u,-⟩:=BE (e:=tI) (by kernel_rfl) (λr a b=>xb5 a b) h;obtain⟨w,m⟩:=u9 i;simp at j m;exact⟨⟨s,y,l,w,u⟩,by rw[j,m];rfl⟩
def xuo{r:List AV}(d:r.length=prog.cellsOf n8)(h:Sh prog n8 r):∃x:Pn,r=x.c:=by
 obtain⟨n,j,m⟩:=D8 (t:=n8) (l:=[(bK,0),(tI,1)]) (by kernel_rfl);obtain⟨-,b⟩:=Sh.s9 j h;have i:prog.cellsOf n8=4:=(by kernel_rfl);rw[i]at d;match r,d with
 |[x,y,z,w],_=>have:=EU (t:=eB) m b;have e:=this (bK,0) (by simp);have f:=this (tI,1) (by simp);simp only[cv,cw,bC,lA,jM,dR]at e f;obtain⟨s,g⟩:=BJ e;obtain⟨p,a⟩:=xb5 (by rw[cw];rfl) f;simp[Pl.c]at g a;exact⟨⟨s,p⟩,by rw[g,a.1,a.2.1,a.2.2];rfl⟩
def xur{r:List AV}(b:r.length=prog.cellsOf n9)(h:Sh prog n9 r):∃x:Pe,r=x.c:=by
 obtain⟨n,j,m⟩:=D8 (t:=n9) (l:=[(bK,0),(eB,1)]) (by kernel_rfl);obtain⟨-,a⟩:=Sh.s9 j h;have i:prog.cellsOf n9=2:=(by kernel_rfl);rw[i]at b;match r,b with
 |[x,y],_=>have:=EU (t:=eB) m a;have d:=this (bK,0) (by simp);have e:=this (eB,1) (by simp);simp only[cv,KX,bC,lA,jM,dR]at d e;obtain⟨s,f⟩:=BJ d;obtain⟨p,g⟩:=u9 e;simp at f g;exact⟨⟨s,p⟩,by rw[f,g];rfl⟩
def setup_inO{a:AV}(h:ArgSh prog AP a):∃E O m n A W J C,a=.agg [I E,I O,m,n,A]/\Sl Bd.c m W/\Sl Pn.c n J/\Sl Pe.c A C:=by
 obtain⟨fs,H,N⟩:=D8 (t:=AP) (l:=[(eB,0),(eB,1),(qB,2),(qA,3),(rP,4)]) (by kernel_rfl);obtain⟨q,rfl,P⟩:=h.struct H;obtain⟨b,j⟩:=Sh.s9 H P;have M:prog.cellsOf AP=5:=(by kernel_rfl);have f:prog.cellsOf qB=1:=(by kernel_rfl);have g:prog.cellsOf qA=1:=(by kernel_rfl);have i:prog.cellsOf rP=1:=(by kernel_rfl);rw[M]at b;match q,b with
 |[x,y,v,w,z],_=>have:=EU (t:=eB) N j;have o:=this (eB,0) (by simp);have p:=this (eB,1) (by simp);have u:=this (qB,2) (by simp);have D:=this (qA,3) (by simp);have F:=this (rP,4) (by simp);simp only[KX,f,g,i,bC,lA,jM,dR]at o p u D F;obtain⟨Q,K⟩:=u9 o;obtain⟨R,L⟩:=u9 p;obtain⟨W,X,-⟩:=BE (e:=o0) (by kernel_rfl) (λr b d=>x72 b d) u;obtain⟨J,Y,-⟩:=BE (e:=n8) (by kernel_rfl) (λr b d=>xuo b d) D;obtain⟨C,Z,-⟩:=BE (e:=n9) (by kernel_rfl) (λr b d=>xur b d) F;simp at K L;subst K L;exact⟨Q,R,v,w,z,W,J,C,rfl,X,Y,Z⟩
def ent_in{a:AV}(h:ArgSh prog tJ a):∃x:Ent,a=.agg x.c:=by obtain⟨f,b,g⟩:=D8 (t:=tJ) (l:=[(bK,0),(bK,1)]) (by kernel_rfl);obtain⟨q,rfl,d⟩:=h.struct b;obtain⟨e,-⟩:=Sh.s9 b d;obtain⟨x,rfl⟩:=xfs e d;exact⟨x,rfl⟩
end Go.Proofs.YtjngclcijnpooaaGreatDoor
namespace Go.Ix
open Go.Proofs
def ZE(l:List UInt8):Bool:=nmOK ⟨l.toArray⟩
def xl1(d:Nat)(l:List UInt8)(c:UInt8)(m:Mem):aI (aH (d+5)) N3 [Tx l,Tx [c]] m=some (B (decide (c∈l)),m):=by
 refine Ans.gA (m:=m) ?_ rfl rfl;unfold Ans;rw[x3u];unfold gg bA OA;have h:decide (0<=Lib.indexByte l c)=decide (c∈l):=by
  rcases EO c l with ⟨a,b⟩|⟨i,a,b,f,e⟩
  .rw[a];simp[b]
  .have:c∈l:=LZ (by rw[e];exact eP);rw[a];simp[this]
 simp only[zk,aG,vL,h];exact⟨_,rfl⟩
def Br10(x:Ent):Prop:=x.by_.length<=1000/\x.tx.length<=1000
def Br10.sh{x:Ent}(h:Br10 x):x9f x:=⟨by have:=h.1;omega,by have:=h.2;omega⟩
def xlz(d:Nat){a:AV}{L:List Ent}(i:Sl Ent.c a L)(n:L.length<=1000000)(m:Mem):∃b,Sl Ent.c b L/\aI (aH (d+1)) sD [a] m=some (b,m):=by
 refine rI (by simp[i.bB]) ?_ m;rw[x5h];unfold kg bW RO;have h:∀(s t:Nat) (m:Mem),∃b f g,Sl Ent.c g L/\Go.Ix.frz f.get bI b=some g/\∀{R:Type} (k:AV->Mem->Option R),cJ 2 32 (0,s,t) (elems m.get 2 a) (.aN [] 0 true) m k=k b f:=by
  intro s t m;rcases F8 Ent.len i (by unfold cH;omega:cH L.length 32) (0,s,t) m with ⟨rfl,e⟩|⟨o,e⟩
  .exact⟨.aN [] 0 true,m,.aN [] 0 true,Sl.lit [] true,rfl,e⟩
  .exact⟨_,_,.aN (L.flatMap Ent.c) L.length false,Sl.lit L false,U1 (k:=4) Ent.len Ent.stl (by simp),e⟩
 obtain⟨b,f,g,e,j,l⟩:=h 3 5 (⟨[],1⟩:Mem);simp[mem0,l];exact RetF.mk j e
def wT(L:List Ent):Bool:=L.all λx=>decide (x.by_.length<=20)&&decide (x.tx.length<=220)
def xdv(b:aJ)(Z:FHs)(u:Nat){a:AV}{L:List Ent}(f:Sl Ent.c a L):∀(d:List Ent) (k j:Nat) (m:Mem) (Y:Nat),L.drop k=d->d.length<j->L.length<=9223372036854775807 ->
    Z1 b Z u j a (I k) m Y=some (B (wT d&&(decide (L.length<=20)||(decide (40<L.length)&&decide (L.length<=42)))),m)
 |[],k,j,m,Y,h,i,w=>by
  obtain⟨j,rfl⟩:=dQ i;have g:¬((k:Int)<(L.length:Int)):=(by have:=gZ.mp h;omega);simp only[Z1];unfold UO vt;simp only[f.len K4,bV,g,bP,aG,aV,IU,gR,dZ,dX];have x:decide ((L.length:Int)<=20)=decide (L.length<=20):=decide_eq_decide.2 (by omega);have y:decide ((40:Int)<(L.length:Int))=decide (40<L.length):=decide_eq_decide.2 (by omega);have A:decide ((L.length:Int)<=42)=decide (L.length<=42):=decide_eq_decide.2 (by omega);rw[x];cases l:decide (L.length<=20)
  .simp only[cF,bD,aG,f.len K4,iC,y,iS];cases n:decide (40<L.length)
   .simp only[cZ,aG,cW,wT,mT,iG,pU,Bool.or_self]
   .simp only[bD,aG,f.len K4,IU,A,cW,wT,mT,iG,GE,cZ]
  .simp only[cN,cZ,aG,cW,bD,wT,mT,iG,NG,show sW U true=false from rfl]
 |e::r,k,j,m,Y,h,i,w=>by
  obtain⟨j,rfl⟩:=dQ i;obtain⟨g,D,h⟩:=gW h;have hk':(k:Int)<(L.length:Int):=(by omega);have ix:=f.ix Ent.len g;have o:=λm=>xds (enc:=Ent.c) (m:=m) g 0 rfl
  have p:=λm=>xds (enc:=Ent.c) (m:=m) g 1 rfl
  simp only[D]at o p;have C:=iJ k (by omega);have t:=xdv b Z u f r (k+1) j m (Y+23) h (by simp at i;omega) w;simp only[Z1];unfold UO;simp only[f.len K4,bV,hk',bG,aT,aG,ix,xa7,o,mX,iC,gR,dZ,dX];simp only[wT,dP]at t ⊢;by_cases l:e.by_.length<=20
  .have c1':¬(20:Int)<(e.by_.length:Int):=(by omega);simp only[l,c1',bP,bG,cF,bD,aG,ix,xa7,p,mX,iC,cW,cZ,iG];by_cases n:e.tx.length<=220
   .have c2':¬(220:Int)<(e.tx.length:Int):=(by omega);simp only[n,c2',bP,bG,aV,dY,aG,C,iG];exact t
   .have c2':(220:Int)<(e.tx.length:Int):=(by omega);simp only[n,c2',bP,bG,aT,pU]
  .have c1':(20:Int)<(e.by_.length:Int):=(by omega);simp only[l,c1',bP,bG,cN,cZ,aG,cW,bD,aT,pU]
def de{a:aJ}{f:FuncId}{l l':List AV}{m:Mem}{r:AV}(j:l.mapM (Go.Ix.frz m.get bI)=some l')(d:l'.all bB=true)(h:∀m,aI a f l' m=some (r,m)) :
    aI a f l m=some (r,⟨lH (l.flatMap (reach m.get bI)) m.hp,m.next⟩):=by
 have b:=h mem0;have e:l'.mapM (Go.Ix.frz mem0.get bI)=some l':=yW _ d;unfold aI at b ⊢;rw[e]at b;rw[j];dsimp only at b ⊢;cases g:a [] f l' mem0 with
 |none=>rw[g]at b;cases b
 |some p=>
  rw[g]at b;dsimp only at b ⊢;cases i:Go.Ix.frz p.2.get bI p.1 with
  |none=>rw[i]at b;cases b
  |some r0=>rw[i]at b;have:=congrArg Prod.fst (pR b);dsimp only at this;subst this;rfl
def xnw{a:List Id}{j:Id}{m:Mem}(b:j∉a):(⟨lH a m.hp,m.next⟩:Mem).get j=m.get j:=by show fK (lH a m.hp) j=_;rw[congrFun (L1 a m.hp) j];unfold shut;rw[aB b];rfl
def xaq{ids:List Id}{j:Id}{m:Mem}{a:List AV}{v:Nat}{b:Bool}(h:m.get j=some (.row a v b)):∃d,(⟨lH ids m.hp,m.next⟩:Mem).get j=some (.row a v d):=by
 show ∃d,fK (lH ids m.hp) j=_;rw[congrFun (L1 ids m.hp) j];unfold shut;have h':fK m.hp j=some (.row a v b):=h;split
 .rw[h'];exact⟨true,rfl⟩
 .exact⟨b,h'⟩
def xbr{m:Mem}{id:Id}{f d n z v k:Nat}{x b:Bool}{e:List AV}(g:m.get id=some (.row e v b))(Z:e.all aP=true):Go.Ix.reach m.get (k+2) (.sref id f d n z x)=[id]:=by
 show(match m.get id with
  |some (.row e _ _)=>id::((e.drop d).take (n*z)).flatMap (Go.Ix.reach m.get (k+1))
  |_=>[id])=[id]
 rw[g];show id::((e.drop d).take (n*z)).flatMap (Go.Ix.reach m.get (k+1))=[id];congr 1;rw[W0];exact λa h=>vO m.get k (dJ.mp Z a (LZ (FQ h)))
def GkL{α:Type}(z:Nat)(b:α->List AV)(ok:Id->Prop)(m:Mem)(a:AV)(l:List α):Prop:=
 a=.aN (l.flatMap b) l.length true\/∃id d,ok id/\a=.sref id d 0 l.length z true/\m.get id=some (.row (l.flatMap b) d false)
def GkL.frame{α:Type}{z:Nat}{b:α->List AV}{a:AV}{l:List α}{ok:Id->Prop}{m m':Mem}(h:GkL z b ok m a l)(d:∀id,ok id->m'.get id=m.get id):GkL z b ok m' a l:=by
 rcases h with h|⟨id,ver,h0,h1,h2⟩
 .exact Or.inl h
 .exact Or.inr ⟨id,ver,h0,h1,by rw[d _ h0];exact h2⟩
def GkL.app{α:Type}{z:Nat}{b:α->List AV}{a:AV}{l:List α}(n:∀x,(b x).length=z)(p:0<z){bytes:Nat}{ok:Id->Prop}{id0:Id}{m:Mem}(f:ok id0)(g:cH (l.length+1) bytes)(h:GkL z b ok m a l)(x:α) :
    ∃i d,(∀{R:Type} (k:AV->Mem->Option R),cJ z bytes id0 (some (b x,1)) a m k=k i d)/\GkL z b ok d i (l++[x])/\d.next=m.next/\∀j:Id,¬ok j->d.get j=m.get j:=by
 have o:=gG n l;rcases h with rfl|⟨id,ver,h1,rfl,hg⟩
 .refine⟨.sref id0 0 0 (l.length+1) z true,m.new id0 (.row (l.flatMap b++b x) 0 false),λk=>?_,Or.inr ⟨id0,0,f,by simp,by simp⟩,rfl,λj e=>?_⟩
  .simp only[cJ];rw[aF (by omega),aB (by omega),aF g,dM (by omega)]
  .rw[Mem.dH,aB (by rintro rfl;exact e f)]
 .refine⟨.sref id (ver+1) 0 (l.length+1) z true,m.set id (.row (l.flatMap b++b x) (ver+1) false),λk=>?_,Or.inr ⟨id,ver+1,h1,by simp,by simp⟩,rfl,λj e=>?_⟩
  .simp only[cJ,hg];rw[aF ⟨trivial,trivial,by omega,g⟩,aB (by omega),aB (by rw[o,lT];omega),bC,dM (by omega)]
  .rw[Mem.cP,aB (by rintro rfl;exact e h1)]
def GkL.frz{α:Type}{z:Nat}{b:α->List AV}{a:AV}{l:List α}(e:∀x,(b x).length=z)(Z:∀x,(b x).all aP=true){ok:Id->Prop}{k:Nat}{m:Mem}(h:GkL z b ok m a l):∃d,Sl b d l/\Go.Ix.frz m.get (k+2) a=some d:=by
 have j:=gG e l;rcases h with rfl|⟨id,ver,_,rfl,hg⟩
 .have g:Sl b (.aN (l.flatMap b) l.length true) l:=Or.inr ⟨true,rfl⟩;have i:bB (.aN (l.flatMap b) l.length true)=true:=(by simp[bB]);exact⟨_,g,kN m.get k i⟩
 .refine⟨.aN (l.flatMap b) l.length false,Sl.lit l false,?_⟩
  have:=pI (aC:=m.get) (id:=id) (cs:=l.flatMap b) (ver:=ver) (off:=0) (n:=l.length) (z:=z) (k:=k) (f:=false) (x:=true) hg (by omega) (by
   rw[bC,dM (by omega)];exact oD Z l)
  rw[bC,dM (by omega)]at this;exact this
def MS(n:Int):Prop:=-9223372036854775808<=n/\n<=9223372036854775807
def Edge.i64(e:Edge):Prop:=MS e.fr/\MS e.to/\MS e.jump/\MS e.wt
def cm:∀(k u:Nat),(eW k u).length<=k
 |0,u=>bO _
 |k+1,u=>by
  unfold eW;split
  .simp
  .have:=cm k (u / 10);simp;omega
def F3(n:Int):(dI n).length<=21:=by
 unfold dI;split
 .have:=cm 20 n.natAbs;simp;omega
 .have:=cm 20 n.toNat;omega
def cA:List UInt8->List UInt8×List UInt8×Bool
 |[]=>([],[],false)
 |x::r=>if x=32 then([],r,true)else((x::(cA r).1),(cA r).2.1,(cA r).2.2)
def ct:∀{l:List UInt8},(32:UInt8)∉l->cA l=(l,[],false)
 |[],_=>rfl
 |x::r,h=>by unfold cA;rw[aB (λe=>h (by rw[e];exact eP)),ct λe=>h (eE _ e)]
def U6:∀{l:List UInt8} (k:List UInt8),(32:UInt8)∉l->cA (l++32::k)=(l,k,true)
 |[],k,_=>by show cA (32::k)=_;rw[cA,aF rfl]
 |x::r,k,h=>by rw[iY,cA,aB (λe=>h (by rw[e];exact eP)),U6 k λe=>h (eE _ e)]
def x2w(l:List UInt8):((32:UInt8)∉l/\cA l=(l,[],false))\/∃a b,(32:UInt8)∉a/\l=a++32::b/\cA l=(a,b,true):=by
 rcases EO 32 l with ⟨g,d⟩|⟨i,g,d,e,f⟩
 .exact .inl ⟨d,ct d⟩
 .refine .inr ⟨l.take i,l.drop (i+1),e,?_,?_⟩
  .rw[<-f,G8]
  .conv=>lhs;rw[<-G8 i l,f]
   exact U6 _ e
def F4(l:List UInt8):(cA l).1.length<=l.length/\(cA l).2.1.length<=l.length:=by
 rcases x2w l with ⟨h,e⟩|⟨a,b,h,d,e⟩
 .rw[e];simp
 .rw[e,d];simp;omega
def ID(d:Nat)(l:List UInt8)(t:l.length<=100000)(m:Mem):aI (aH (d+5)) sB [Tx l,Tx [32]] m=some (.tup [Tx (cA l).1,Tx (cA l).2.1,B (cA l).2.2],m):=by
 have h:∀m,aI (aH (d+3)) C1 [Tx l,Tx [32]] m=some (I (Lib.indexByte l 32),m):=by
  intro m;refine Ans.gA (m:=m) ?_ rfl rfl;unfold Ans;rw[xgo];unfold NC bA GZ;have e:kJ prog bK (Tx [32]) (I 0)=some (U8 (32:UInt8).toNat):=WR (k:=0) (l:=[32]) (by simp);have a:fZ (Tx [32])=some (I 1):=mX [32];simp only[mem0,a,aG,iD,gR,dZ,show decide ((1:Int)=0)=false from rfl,dX,cF,bD,oP,cW,cZ];by_cases g:[32]=l
  .subst g;have:Lib.indexByte [32] 32=0:=(by simp[Lib.indexByte]);rw[this];simp only[bG,aT];exact⟨_,rfl⟩
  .simp only[g,bP,aV,e,aG,zl];exact⟨_,rfl⟩
 have b:∀m,aI (aH (d+4)) DR [Tx l,Tx [32]] m=some (.tup [Tx (cA l).1,Tx (cA l).2.1,B (cA l).2.2],m):=by
  intro m;refine Ans.sZ (m:=m) ?_ rfl rfl;unfold Ans;rw[x64];unfold oi bA UR;rw[show(AV.sc (.string ⟨#[]⟩))=Tx []from rfl];simp only[mem0,h,aG,vL];rcases EO 32 l with ⟨f,b⟩|⟨i,f,b,p,r⟩
  .rw[f,ct b];simp only[show decide ((0:Int)<=-1)=false from rfl,aV];exact⟨_,rfl⟩
  .rw[f];have j:cA l=(l.take i,l.drop (i+1),true):=by
    conv=>lhs;rw[<-G8 i l,r]
    exact U6 _ p
   have n:(0:Int)<=(i:Int):=(by omega);have a:fZ (Tx [32])=some (I 1):=mX [32];have o:=iJ i (by omega);simp only[n,bG,aT,HW (show i<=l.length by omega),aG,a,dY,o,WQ (show i+1<=l.length by omega),j];exact⟨_,rfl⟩
 refine Ans.sZ (m:=m) ?_ rfl rfl;unfold Ans;rw[x3s];unfold ge bA NY;dsimp only
 simp only[b,aG,kU,jU,jV];exact⟨_,rfl⟩
def JY{R:Type}(x:Ent)(id:Id)(m:Mem)(K:AV->Mem->Option R):cQ nW [(0,2,.agg x.c)] 1 2 id m K=K (.aN x.c 1 true) m:=by rw[WE];rfl
def xg6(a b:List UInt8):cY nW [(0,1,Tx a),(1,1,Tx b)]=some (.agg [Tx a,Tx b]):=by rw[WE];rfl
theorem x16(a:Id->Option Ob)(x:Ent):elems a 2 (.aN x.c 1 true)=some (x.c,1):=rfl
def co:∀(K u k:Nat),u<10 ^ k->1<=k->(eW K u).length<=k
 |0,u,k,_,_=>by simp[eW]
 |K+1,u,k,h,d=>by
  unfold eW;split
  .simp;omega
  .rename_i c;obtain⟨k,rfl⟩:∃q,k=q+1:=⟨k-1,by omega⟩;have b:u / 10<10 ^ k:=(by rw[Nat.pow_succ]at h;omega);have a:1<=k:=by
    rcases Nat.eq_zero_or_pos k with rfl|h3
    .simp at h;omega
    .exact h3
   have:=co K (u / 10) k b a;simp;omega
def xwg{n:Int}{d:Nat}(a:1<=d)(b:-9223372036854775808<=n/\n<=9223372036854775807)(h:n.natAbs<10 ^ d):kF (dI n) d=some n:=by
 rw[JR b.1 b.2,aF];unfold lW dI;by_cases c:n<0
 .rw[aF c];have:=co 20 n.natAbs d h a;simpa using this
 .rw[aB c];have:=co 20 n.toNat d (by rw[show n.toNat=n.natAbs by omega];exact h) a;split
  .simp;omega
  .exact this
end Go.Ix
namespace Go.Ix
open Go.Proofs
variable{pid rid:Id}{pre:List AV}
end Go.Ix
namespace Go.Ix
open Go.Proofs
variable{ba pa A:AV}{W:List Bd}{J:List Pn}{C:List Pe}{E O:Int}
def ZJ{R:Type}{s:ByteArray}{id:Id}{m:Mem}{k:AV->Mem->Option R}:cQ oM [(0,1,T s)] 1 1 id m k=k (.aN [T s] 1 true) m:=by rw[VZ];exact ZK rfl rfl rfl
end Go.Ix
namespace Go.Ix
open Go.Proofs
variable{ba pa A:AV}{W:List Bd}{J:List Pn}{C:List Pe}{E O:Int}
def Bd.core(b:Bd):ByteArray×List Pl×Int:=(b.nm,b.cs,b.th)
def CpC(Y:Nat)(m:Mem)(a:AV)(b:List Pl):Prop:=(a=.aN [] 0 true/\b=[])\/∃s,s<Y/\a=.sref (0,s,26) 0 0 b.length 3 true/\m.get (0,s,26)=some (.row (b.flatMap Pl.c) 0 false)
def CpC.mono{Y b:Nat}{m d:Mem}{a:AV}{e:List Pl}(h:CpC Y m a e)(g:Y<=b)(f:∀s,s<Y->d.get (0,s,26)=m.get (0,s,26)):CpC b d a e:=by
 rcases h with h|⟨s,h1,h2,h3⟩
 .exact .inl h
 .exact .inr ⟨s,by omega,h2,by rw[f s h1];exact h3⟩
def CpC.one{Y:Nat}{m:Mem}{a:AV}{b:List Pl}(h:CpC Y m a b):a.one=true/\a.cells=[a]:=by rcases h with ⟨rfl,-⟩|⟨s,-,rfl,-⟩<;>exact⟨rfl,rfl⟩
def CpC.frz{Y k:Nat}{m:Mem}{a:AV}{b:List Pl}(h:CpC Y m a b):∃d,Sl Pl.c d b/\Go.Ix.frz m.get (k+2) a=some d:=by
 rcases h with ⟨rfl,rfl⟩|⟨s,-,rfl,e⟩
 .exact⟨.aN [] 0 true,Or.inr ⟨true,rfl⟩,rfl⟩
 .exact⟨_,Sl.lit b false,U1 Pl.len Pl.bB e⟩
def pN(x:Bd×AV):List AV:=[T x.1.nm,x.2,I x.1.th]
theorem LK(x:Bd×AV):(pN x).length=3:=rfl
def x8f(l:List Bd):l.flatMap Bd.c=(l.map λb=>(b,b.ca)).flatMap pN:=by
 induction l with
 |nil=>rfl
 |cons b r a=>rw[dT,fY,dT,a];rfl
def xnj(L:List (Bd×AV))(k:Nat)(a:k<L.length)(v:AV):cS (L.flatMap pN) (k*3+1) [v]=(L.set k (L[k].1,v)).flatMap pN:=by
 induction L generalizing k with
 |nil=>simp at a
 |cons x r d=>
  cases k with
  |zero=>simp[cS,pN]
  |succ k=>have b:=d k (by simpa using a);simp only[cS,eo,dT,List.getElem_cons_succ]at b ⊢;rw[show(k+1)*3+1=(pN x).length+(k*3+1) by rw[LK];omega,ej,oI,oG,H1,lV (by omega),iW];rw[show(pN x).length+(k*3+1+[v].length)-(pN x).length=k*3+1+[v].length by omega,b]
def xy:d9=[I 0,I 0,nilS,nilS,nilS]:=by kernel_rfl
def EB{R:Type}{z:List AV}{size:Nat}{id:Id}{m:Mem}{k:AV->Mem->Option R}:cQ z [] 0 size id m k=k (.aN [] 0 true) m:=xc6
def CpL(Y:Nat)(m:Mem)(L:List (Bd×AV))(i:Nat):Prop:=∀(j:Nat) (h:j<L.length),if j<i then CpC Y m L[j].2 L[j].1.cs else L[j].2=L[j].1.ca
def xe4{k:Nat}{m:Mem}{Y:Nat}:∀{L:List (Bd×AV)},(∀x∈L,CpC Y m x.2 x.1.cs)->∃a:List Bd,a.map Bd.core=L.map (λx=>x.1.core)/\(L.flatMap pN).mapM (Go.Ix.frz m.get (k+2))=some (a.flatMap Bd.c)
 |[],_=>⟨[],rfl,rfl⟩
 |x::r,h=>by
  obtain⟨a,f,g⟩:=xe4 (k:=k) (L:=r) λy b=>h y (by simp[b])
  obtain⟨i,j,l⟩:=(h x (by simp)).frz (k:=k);refine⟨⟨x.1.nm,i,x.1.cs,x.1.th,j⟩::a,by rw[fY,fY,f];rfl,?_⟩;rw[dT,dT];have d:Go.Ix.frz m.get (k+2) (T x.1.nm)=some (T x.1.nm):=rfl;have e:Go.Ix.frz m.get (k+2) (I x.1.th)=some (I x.1.th):=rfl;show([T x.1.nm,x.2,I x.1.th]++r.flatMap pN).mapM _=_;simp only[iY,iW,eI,d,e,l,g,Bd.c];rfl
def x0w{a:Id->Option Ob}{id:Id}{d b:List AV}{n z k:Nat}{f x:Bool}(h:a id=some (.row d 0 f))(e:d.length=n*z)(Z:d.mapM (Go.Ix.frz a k)=some b):Go.Ix.frz a (k+1) (.sref id 0 0 n z x)=some (.aN b n false):=by simp only[Go.Ix.frz,h];rw[aF ⟨trivial,by omega⟩,bC,dM (by omega),Z];rfl
def BA(m:Mem)(v:AV)(L:List (Bd×AV)):Prop:=(v=.aN [] 0 true/\L=[])\/(v=.sref (0,5,7) 0 0 L.length 3 true/\m.get (0,5,7)=some (.row (L.flatMap pN) 0 false))
def BA.frame{m m':Mem}{v:AV}{L:List (Bd×AV)}(h:BA m v L)(a:m'.get (0,5,7)=m.get (0,5,7)):BA m' v L:=by
 rcases h with h|⟨h1,h2⟩
 .exact .inl h
 .exact .inr ⟨h1,by rw[a];exact h2⟩
def BA.len{m:Mem}{v:AV}{L:List (Bd×AV)}(h:BA m v L):aM prog qB v=some (I L.length):=by rcases h with ⟨rfl,rfl⟩|⟨rfl,-⟩<;>rfl
def BA.one{m:Mem}{v:AV}{L:List (Bd×AV)}(h:BA m v L):v.one=true/\v.cells=[v]:=by rcases h with ⟨rfl,rfl⟩|⟨rfl,-⟩<;>exact⟨rfl,rfl⟩
def BA.frz{k:Nat}{m:Mem}{Y:Nat}{v:AV}{L:List (Bd×AV)}(h:BA m v L)(e:∀x∈L,CpC Y m x.2 x.1.cs):∃b a,Sl Bd.c b a/\a.map Bd.core=L.map (λx=>x.1.core)/\Go.Ix.frz m.get (k+3) v=some b:=by
 rcases h with ⟨rfl,rfl⟩|⟨rfl,i⟩
 .exact⟨.aN [] 0 true,[],Or.inr ⟨true,rfl⟩,rfl,rfl⟩
 .obtain⟨a,d,g⟩:=xe4 (k:=k) e;have f:a.length=L.length:=(by simpa using congrArg List.length d);refine⟨.aN (a.flatMap Bd.c) L.length false,a,Or.inr ⟨false,by rw[f]⟩,d,?_⟩;exact x0w i (gG LK L) g
def IN{m:Mem}{id:Id}{d:List AV}{a:Nat}{v:AV}(e:m.get id=some (.row d 0 false))(b:v.one=true/\v.cells=[v])(f:a<d.length):∀{R:Type} (K:Mem->Option R),aU 1 (.ptr id 0 a) v m K=K (m.set id (.row (cS d a [v]) 0 false)):=λK=>by rw[lY (off:=a) (z:=1) (x:=v) (k:=K) e (by rw[b.2];rfl) (by omega) (by rw[b.2];simp[b.1]),b.2]
def pi(E O:Int)(W:List Bd)(J:List Pn)(C:List Pe)(r:AV):Prop:=∃a b d e,r=.agg [I E,I O,a,b,d]/\Sl Bd.c a e/\e.map Bd.core=W.map Bd.core/\Sl Pn.c b J/\Sl Pe.c d C
def xk9(t:aJ){v:AV}{L:List (Bd×AV)}{Y:Nat}{m:Mem}(Q:Sl Pn.c pa J)(h3:Sl Pe.c A C)(hp:J.length<=1000000)(he:C.length<=1000000)(hL:L.map (·.1)=W)(u:BA m v L)(hc:∀x∈L,CpC Y m x.2 x.1.cs)(X:m.get (0,0,1)=some (.row [I E,I O,v,pa,A] 0 false))(g2:m.get (0,1,2)=some (.row d9 0 false)):RetF (pi E O W J C) (RN t [] 0 (.ptr (0,0,1) 0 0) (.ptr (0,1,2) 0 0) m Y):=by
 have hr:cH J.length 40:=(by unfold cH;omega);have H:cH C.length 24:=(by unfold cH;omega);have a1:=λm=>F8 Pn.len Q hr (0,Y+3,32) m
 have a2:=λm=>F8 Pe.len h3 H (0,Y+7,36) m
 have F:=Q.tX;obtain⟨a,l,A1,o1,N,z1⟩:∃a l,(∀{R:Type} (k:AV->Mem->Option R),cJ 4 40 (0,Y+3,32) (elems m.get 4 pa) (.aN [] 0 true) m k=k a l)/\(a.one=true/\a.cells=[a])/\(∀j:Id,j≠(0,Y+3,32)->l.get j=m.get j)/\(∀i:Mem,i.get (0,Y+3,32)=l.get (0,Y+3,32)->∃f,Sl Pn.c f J/\Go.Ix.frz i.get 5 a=some f):=by
  rcases a1 m with ⟨rfl,p⟩|⟨h0,p⟩
  .exact⟨_,m,p,⟨rfl,rfl⟩,λ_ _=>rfl,λi _=>⟨.aN [] 0 true,Or.inr ⟨true,rfl⟩,rfl⟩⟩
  .refine⟨_,_,p,⟨rfl,rfl⟩,λj y=>Mem.yT y,λi D=>⟨_,Sl.lit J false,U1 (k:=3) Pn.len Pn.bB ?_⟩⟩;rw[D,Mem.kM]
 obtain⟨ev,o,A2,o2,w,z2⟩:∃ev o,(∀{R:Type} (k:AV->Mem->Option R),cJ 2 24 (0,Y+7,36) (elems l.get 2 A) (.aN [] 0 true) l k=k ev o)/\(ev.one=true/\ev.cells=[ev])/\(∀j:Id,j≠(0,Y+7,36)->o.get j=l.get j)/\(∀i:Mem,i.get (0,Y+7,36)=o.get (0,Y+7,36)->∃g,Sl Pe.c g C/\Go.Ix.frz i.get 5 ev=some g):=by
  rcases a2 l with ⟨rfl,p⟩|⟨h0,p⟩
  .exact⟨_,l,p,⟨rfl,rfl⟩,λ_ _=>rfl,λi _=>⟨.aN [] 0 true,Or.inr ⟨true,rfl⟩,rfl⟩⟩
  .refine⟨_,_,p,⟨rfl,rfl⟩,λj y=>Mem.yT y,λi D=>⟨_,Sl.lit C false,U1 (k:=3) Pe.len Pe.bB ?_⟩⟩;rw[D,Mem.kM]
 have k1:l.get (0,0,1)=some (.row [I E,I O,v,pa,A] 0 false):=(by rw[N _ (by simp)];exact X);have k2:o.get (0,0,1)=some (.row [I E,I O,v,pa,A] 0 false):=(by rw[w _ (by simp)];exact k1);obtain⟨r,b⟩:∃r:Mem,r=o.set (0,0,1) (.row [I E,I O,v,a,A] 0 false):=⟨_,rfl⟩;have S3:∀{R:Type} (K:Mem->Option R),aU 1 (.ptr (0,0,1) 0 3) a o K=K r:=λK=>by rw[IN k2 o1 (by simp),b];rfl
 have k3:r.get (0,0,1)=some (.row [I E,I O,v,a,A] 0 false):=(by rw[b,Mem.uQ]);obtain⟨n,d⟩:∃n:Mem,n=r.set (0,0,1) (.row [I E,I O,v,a,ev] 0 false):=⟨_,rfl⟩;have S4:∀{R:Type} (K:Mem->Option R),aU 1 (.ptr (0,0,1) 0 4) ev r K=K n:=λK=>by rw[IN k3 o2 (by simp),d];rfl
 have k4:n.get (0,0,1)=some (.row [I E,I O,v,a,ev] 0 false):=(by rw[d,Mem.uQ]);have q4:n.get (0,1,2)=some (.row d9 0 false):=(by rw[d,Mem.nK (by simp),b,Mem.nK (by simp),w _ (by simp),N _ (by simp)];exact g2);have L4:aA true 5 (.ptr (0,0,1) 0 0) n=some (.agg [I E,I O,v,a,ev]):=(by rw[aQ k4];rfl);obtain⟨e,h⟩:∃e:Mem,e=n.set (0,1,2) (.row [I E,I O,v,a,ev] 0 false):=⟨_,rfl⟩;have ho:=u.one;have S5:∀{R:Type} (K:Mem->Option R),aU 5 (.ptr (0,1,2) 0 0) (.agg [I E,I O,v,a,ev]) n K=K e:=λK=>by rw[lY (off:=0) (z:=5) (x:=.agg [I E,I O,v,a,ev]) (k:=K) q4 rfl (by rw[xy];exact bO _) (by simp[ho.1,o1.1,o2.1]),h,xy];rfl
 have k5:e.get (0,1,2)=some (.row [I E,I O,v,a,ev] 0 false):=(by rw[h,Mem.uQ]);have L5:fO true 5 (.ptr (0,1,2) 0 0) e=some (.agg [I E,I O,v,a,ev]):=(by show aA true 5 (.ptr (0,1,2) 0 0) e=_;rw[aQ k5];rfl);have back:∀j:Id,j≠(0,0,1)->j≠(0,1,2)->j≠(0,Y+3,32)->j≠(0,Y+7,36)->e.get j=m.get j:=λj Z n2 n3 n4=>by rw[h,Mem.nK n2,d,Mem.nK Z,b,Mem.nK Z,w j n4,N j n3]
 obtain⟨f,y1,y2⟩:=z1 e (by rw[h,Mem.nK (by simp),d,Mem.nK (by simp),b,Mem.nK (by simp),w _ (by simp)]);obtain⟨g,y3,y4⟩:=z2 e (by rw[h,Mem.nK (by simp),d,Mem.nK (by simp),b,Mem.nK (by simp)]);obtain⟨v',P,w1,w2,w3⟩:=(u.frame (m':=e) (back _ (by simp) (by simp) (by simp) (by simp))).frz (k:=2) (Y:=Y) (λx F=>(hc x F).mono (bO _) λs _=>back _ (by simp) (by simp) (by simp) (by simp));unfold RN;simp only[EB,cX,aG,bR,aQ X,dE,dR,bC,A1,aQ k1,A2,S3,S4,F];have M:(aW (some [],some [(0,Y,29)]) (tR (.ptr (0,0,1) 0 3))&&(aW (some [],some [(0,Y,29)]) (some [],some [(0,Y+4,33)])&&(aW (tR (.ptr (0,0,1) 0 3)) (some [],some [(0,Y+4,33)])&&(aW (some [],tA (0,Y+3,32) (.aN [] 0 true)) (some [],some [(0,Y+4,33)])&&(aW (some [],some [(0,Y,29)]) (tR (.ptr (0,0,1) 0 4))&&(aW (some [],tA (0,Y+3,32) (.aN [] 0 true)) (tR (.ptr (0,0,1) 0 4))&&(aW (some [],some [(0,Y+4,33)]) (tR (.ptr (0,0,1) 0 4))&&true)))))))=true:=(by simp[aW,tR,tA,kX]);simp only[M,bD,L4,S5,L5,aG];refine RetF.mk (a':=.agg [I E,I O,v',f,g]) ?_ ⟨v',f,g,P,rfl,w1,by rw[w2,<-hL,List.map_map];rfl,y1,y3⟩;show([I E,I O,v,a,ev].mapM (Go.Ix.frz e.get 5)).map AV.agg=_;have hi:∀z:Int,Go.Ix.frz e.get 5 (I z)=some (I z):=λ_=>rfl
 simp only[eI,gX,hi,w3,y2,y4];rfl
def xy0(h:aJ)(h2:Sl Pn.c pa J)(h3:Sl Pe.c A C)(hp:J.length<=1000000)(he:C.length<=1000000)(M:∀b∈W,b.cs.length<=1000000)(hbl:W.length<=1000000):∀(n i j:Nat) (v:AV) (L:List (Bd×AV)) (m:Mem) (Y:Nat),i+n=L.length->n<j->L.map (·.1)=W->BA m v L->CpL Y m L i ->
    m.get (0,0,1)=some (.row [I E,I O,v,pa,A] 0 false)->m.get (0,1,2)=some (.row d9 0 false)->RetF (pi E O W J C) (Y0 h [] 0 j (.ptr (0,0,1) 0 0) (.ptr (0,1,2) 0 0) (I i) m Y):=by
 intro n;induction n with
 |zero=>intro i j v L m Y hi N t f H u P;obtain⟨j,rfl⟩:∃i,j=i+1:=⟨j-1,by omega⟩;have o:¬((i:Int)<(L.length:Int)):=(by omega);simp only[Y0];unfold RM;simp only[cX,aG,bR,aQ u,dE,dR,bC,f.len,bV,o,bP,aV];refine xk9 h h2 h3 hp he t f (λx hx=>?_) u P;obtain⟨q,F,rfl⟩:=xib hx;have:=H q F;rw[aF (by omega)]at this;exact this.mono (by omega) λ_ _=>rfl
 |succ n ih=>
  intro i j v L m Y hi N t f H u P;obtain⟨j,rfl⟩:∃i,j=i+1:=⟨j-1,by omega⟩;have a:i<L.length:=(by omega);have hLl:L.length=W.length:=(by rw[<-t,lU]);have o:((i:Int)<(L.length:Int)):=(by omega);rcases f with ⟨-,rfl⟩|⟨rfl,hg⟩
  .simp at a
  have w:=H i a;rw[aB (by omega)]at w;have Q:L[i].1∈W:=(by rw[<-t];exact ew (fG a));have hw:=iJ i (by omega);have ix:aR 3 (.sref (0,5,7) 0 0 L.length 3 true) (I i)=some (.ptr (0,5,7) 0 (i*3)):=(by simp[aR,dL,a]);have ld:aA false 1 (.ptr (0,5,7) 0 (i*3+1)) m=some L[i].1.ca:=(by rw[aQ hg,<-xig,yY LK,fX a,dT,<-w];rfl);have hr:cH L[i].1.cs.length 24:=(by unfold cH;have:=M _ Q;omega);obtain⟨d,l,A1,o1,f1,z1⟩:∃d l,(∀{R:Type} (k:AV->Mem->Option R),cJ 3 24 (0,Y+15,26) (elems m.get 3 L[i].1.ca) (.aN [] 0 true) m k=k d l)/\(d.one=true/\d.cells=[d])/\(∀j:Id,j≠(0,Y+15,26)->l.get j=m.get j)/\CpC (Y+22) l d L[i].1.cs:=by
   rcases F8 Pl.len L[i].1.ok hr (0,Y+15,26) m with ⟨h0,D⟩|⟨h0,D⟩
   .exact⟨_,m,D,⟨rfl,rfl⟩,λ_ _=>rfl,.inl ⟨rfl,h0⟩⟩
   .exact⟨_,_,D,⟨rfl,rfl⟩,λj N=>Mem.yT N,.inr ⟨Y+15,by omega,rfl,by rw[Mem.kM]⟩⟩
  have X:l.get (0,5,7)=some (.row (L.flatMap pN) 0 false):=(by rw[f1 _ (by simp)];exact hg);obtain⟨r,g⟩:∃r:Mem,r=l.set (0,5,7) (.row ((L.set i (L[i].1,d)).flatMap pN) 0 false):=⟨_,rfl⟩;have S1:∀{R:Type} (K:Mem->Option R),aU 1 (.ptr (0,5,7) 0 (i*3+1)) d l K=K r:=λK=>by rw[IN X o1 (by rw[gG LK];omega),xnj L i a,g]
  have p:∀j:Id,j≠(0,5,7)->j≠(0,Y+15,26)->r.get j=m.get j:=λj n1 n2=>by rw[g,Mem.nK n1,f1 j n2]
  simp only[Y0];unfold RM;have hxt:=L[i].1.ok.tX;have hap:(aW (tR (.ptr (0,0,1) 0 2)) (some [],some [(0,Y+8,19)])&&(aW (some [],some [(0,Y+8,19)]) (tR (.ptr (0,0,1) 0 2))&&(aW (some [],some [(0,Y+8,19)]) (tR (.ptr (0,5,7) 0 (i*3+1)))&&(aW (tR (.ptr (0,0,1) 0 2)) (tX L[i].1.ca,tA (0,Y+15,26) (.aN [] 0 true))&&true))))=true:=(by simp[aW,tR,tA,kX,hxt]);have y:aM prog qB (.sref (0,5,7) 0 0 L.length 3 true)=some (I L.length):=rfl;simp only[cX,aG,bR,aQ u,dE,dR,bC,y,bV,o,bG,aT,EB,ix,ld,A1,S1,hap,bD,dY,hw];have rE:(L.set i (L[i].1,d)).map (·.1)=W:=by
   rw[List.map_set,<-t];refine FY (by simp) λq D h2=>?_
   rw[List.getElem_set];split
   .rename_i e;subst e;simp
   .rfl
  refine ih (i+1) j (.sref (0,5,7) 0 0 L.length 3 true) (L.set i (L[i].1,d)) r (Y+22) (by simp;omega) (by omega) rE (.inr ⟨by simp,by rw[g,Mem.uQ]⟩) (λq F=>?_) ?_ ?_
  .rw[mS]at F;by_cases e:i=q
   .subst e;rw[aF (by omega)];simp only[List.getElem_set_self];exact z1.mono (bO _) λs _=>by rw[g,Mem.nK (by simp)]
   .have:=H q F;rw[ME e];by_cases c:q<i
    .rw[aF c]at this;rw[aF (by omega)];exact this.mono (by omega) λs Z=>p _ (by simp) (by simp;omega)
    .rw[aB c]at this;rw[aB (by omega)];exact this
  .rw[p _ (by simp) (by simp)];exact u
  .rw[p _ (by simp) (by simp)];exact P
def xly(d:Nat)(t:Sl Bd.c ba W)(u:Sl Pn.c pa J)(w:Sl Pe.c A C)(M:W.length<=1000000)(N:J.length<=1000000)(P:C.length<=1000000)(x:∀b∈W,b.cs.length<=1000000)(m:Mem) :
    ∃a e f g,Sl Bd.c a g/\g.map Bd.core=W.map Bd.core/\Sl Pn.c e J/\Sl Pe.c f C/\aI (aH (d+1)) sC [.agg [I E,I O,ba,pa,A]] m=some (.agg [I E,I O,a,e,f],m):=by
 have y:RetF (pi E O W J C) (aH (d+1) [] sC [.agg [I E,I O,ba,pa,A]] mem0):=by
  rw[x5g];unfold kf bW RL;have X:[I E,I O,ba,pa,A].all AV.one=true:=(by simp[t.one,u.one,w.one]);simp only[mem0,jD,pM,X,bD,kK];obtain⟨i,o⟩:∃i:Mem,i=((⟨[],0+1⟩:Mem).new (0,0,1) (.row [I E,I O,ba,pa,A] 0 false)).new (0,0+1,2) (.row d9 0 false):=⟨_,rfl⟩;rw[<-o];have F:i.get (0,0,1)=some (.row [I E,I O,ba,pa,A] 0 false):=(by rw[o];simp);have Y:i.get (0,1,2)=some (.row d9 0 false):=(by rw[o];simp);have Z:cH W.length 48:=(by unfold cH;omega);obtain⟨v,n,A1,o1,H,z1⟩:∃v n,(∀{R:Type} (k:AV->Mem->Option R),cJ 3 48 (0,5,7) (elems i.get 3 ba) (.aN [] 0 true) i k=k v n)/\(v.one=true/\v.cells=[v])/\(∀j:Id,j≠(0,5,7)->n.get j=i.get j)/\BA n v (W.map λb=>(b,b.ca)):=by
   rcases F8 Bd.len t Z (0,5,7) i with ⟨rfl,L⟩|⟨L,D⟩
   .exact⟨_,i,L,⟨rfl,rfl⟩,λ_ _=>rfl,.inl ⟨rfl,rfl⟩⟩
   .exact⟨_,_,D,⟨rfl,rfl⟩,λj Q=>Mem.yT Q,.inr ⟨by rw[lU],by rw[Mem.kM,x8f]⟩⟩
  have k2:n.get (0,0,1)=some (.row [I E,I O,ba,pa,A] 0 false):=(by rw[H _ (by simp)];exact F);obtain⟨p,l⟩:∃p:Mem,p=n.set (0,0,1) (.row [I E,I O,v,pa,A] 0 false):=⟨_,rfl⟩;have S3:∀{R:Type} (K:Mem->Option R),aU 1 (.ptr (0,0,1) 0 2) v n K=K p:=λK=>by rw[IN k2 o1 (by simp),l];rfl
  simp only[EB,cX,aG,bR,aQ F,dE,dR,bC,A1,S3];unfold td;exact xy0 (aH d) (W:=W) u w N P x M W.length 0 NN v (W.map λb=>(b,b.ca)) p _ (by simp) (by rw[dF];omega) (by rw[List.map_map];exact List.map_id' W) (z1.frame (by rw[l,Mem.nK (by simp)])) (λq hq=>by rw[aB (by omega)];simp) (by rw[l,Mem.uQ]) (by rw[l,Mem.nK (by simp),H _ (by simp)];exact Y)
 obtain⟨r,⟨a,e,f,g,rfl,h⟩,hc⟩:=rI (by simp[t.aP,u.aP,w.aP]) y m;exact⟨a,e,f,g,h.1,h.2.1,h.2.2.1,h.2.2.2,hc⟩
def xz:rO=[nilS,nilS,nilS,nilS]:=by kernel_rfl
variable{ba pa A:AV}{W:List Bd}{J:List Pn}{C:List Pe}{E O:Int}
def D1(b:Bd)(p:Pn):Bool:=KG b.cs p.at_
def xyq{n1 n2 n3 n4:AV}(d:Nat)(id:Id)(N:id.2.2=0)(h:List AV->Mem->Option Mem)(Z:FHs)(u:Nat)(h1:Sl Bd.c ba W)(h2:Sl Pn.c pa J)(hl:J.length<=1000){i:Nat}(hi:i<W.length)(hz:polyE W[i].cs=0)(hp:∀p∈J,isPl p.at_=true)(a:Nat->Mem->Prop)(C:∀k m f,a k m->(∀j:Id,¬(j.1=u/\j.2.2=5)->f.get j=m.get j)->f.next=m.next->a k f)(P:∀k (g:k<J.length) m,D1 W[i] J[k]=false->a k m->a (k+1) m)(D:∀k (g:k<J.length) m,D1 W[i] J[k]=true->a k m->∃f,h [I k] m=some f/\a (k+1) f) :
    ∀(l:List Pn) (k j:Nat) (m:Mem) (Y:Nat),J.drop k=l->l.length<j->k<=J.length->a k m ->
    ∃f,Y5 (aH (d+6)) ((id,h)::Z) u j (.yld id) (.aE [.aE [I E,I O,ba,pa,A],n1,n2,n3,n4]) (.aE [I i]) pa (I J.length) (I k) m Y=some (.tup [],f)/\a J.length f:=by
 intro l;induction l with
 |nil=>intro k j m Y Q F R X;obtain⟨j,rfl⟩:=dQ F;have hk0:=gZ.mp Q;have g:¬((k:Int)<(J.length:Int)):=(by omega);simp only[Y5];unfold TO;simp only[bV,g,bP,aG,aV];have hkl:k=J.length:=(by omega);exact⟨m,rfl,hkl▸X⟩
 |cons e r ih=>
  intro k j m Y Q F R X;obtain⟨j,rfl⟩:=dQ F;obtain⟨g,L,K⟩:=gW Q;have hk':(k:Int)<(J.length:Int):=(by omega);have ix:=h2.ix Pn.len g;have ld:=λm=>jF (m:=m) Pn.len (by omega) g
  rw[L]at ld;obtain⟨M,s1,g1,nn1,f1⟩:=uE (u:=u) (s:=Y+4) (t:=5) (m:=m) (z:=AM) (cs:=e.c) (n:=4) (by kernel_rfl) rfl rfl;have H:a k M:=C k m M X f1 nn1;have g1':M.get (u,Y+4,5)=some (.row [T e.nm,I e.at_.x,I e.at_.y,I e.at_.z] 0 false):=g1;have hw:=iJ k (by omega);have q1:aD 0 (.aE [.aE [I E,I O,ba,pa,A],n1,n2,n3,n4])=some (.aE [.aE [I E,I O,ba,pa,A],n1,n2,n3,n4]):=rfl;have q2:∀m,aA false 1 (.aE [.aE [I E,I O,ba,pa,A],n1,n2,n3,n4]) m=some (.aE [I E,I O,ba,pa,A]):=λ_=>rfl
  have q3:bZ (.aE [I E,I O,ba,pa,A])=some (.aE [I E,I O,ba,pa,A]):=rfl;have q4:aD 2 (.aE [I E,I O,ba,pa,A])=some (.aE [ba,pa,A]):=rfl;have q5:∀m,aA false 1 (.aE [ba,pa,A]) m=some ba:=λ_=>rfl
  have q6:∀m,aA false 1 (.aE [I i]) m=some (I i):=λ_=>rfl
  have ixb:=h1.ix Bd.len hi;have x1:aD 1 (.aE ((W.drop i).flatMap Bd.c))=some (.aE (((W.drop i).flatMap Bd.c).drop 1)):=rfl;have x2:∀m,aA false 1 (.aE (((W.drop i).flatMap Bd.c).drop 1)) m=some W[i].ca:=λm=>by rw[fX hi,dT];rfl
  have l3:∀{m:Mem},m.get (u,Y+4,5)=some (.row [T e.nm,I e.at_.x,I e.at_.y,I e.at_.z] 0 false)->aA true 3 (.ptr (u,Y+4,5) 0 1) m=some (.agg e.at_.c):=λhg=>by rw[aQ hg];rfl
  have hin:=λm=>xlp d (W[i].ok) hz (p:=e.at_) (hp e (L▸fG g)) m
  have y0:∀b:Bool,cO (.tup [B b,I 0]) 0=some (B b):=λ_=>rfl
  have y1:∀b:Bool,cO (.tup [B b,I 0]) 1=some (I 0):=λ_=>rfl
  simp only[Y5];unfold TO;simp only[bV,hk',bG,aT,aG,ix,ld,kK,s1,q1,q2,q3,q4,q5,q6,ixb,x1,x2,cX,bR,l3 g1',hin,y0,y1];cases c:D1 W[i] e
  .have o:=P k g M (by rw[L];exact c) H;obtain⟨f,r,w⟩:=ih (k+1) j M (Y+33) K (by simp at F;omega) g o;have c':KG W[i].cs e.at_=false:=c;simp only[c',gR,dZ,gS,iS,cZ,aG,cW,aV,dY,hw,r];exact⟨f,rfl,w⟩
  .obtain⟨m2,e2,o⟩:=D k g M (by rw[L];exact c) H;obtain⟨f,r,w⟩:=ih (k+1) j m2 (Y+33) K (by simp at F;omega) g o;have c':KG W[i].cs e.at_=true:=c;simp only[c',gR,dZ,gS,iS,bD,aG,xz5 N,e2,Option.map_some,gE,cN,cW,aV,dY,hw,r];exact⟨f,rfl,w⟩
def xny{i j:Id}{a:List AV}{v:Nat}:∀{h:Hp} {b:Bool},fK h i=some (.row a v b)->∃e,fK (BI h j) i=some (.row a v e):=by
 intro h b d;have:=congrFun (L1 [j] h) i;rw[show lH [j] h=BI h j from rfl]at this;rw[this];unfold shut;split
 .rw[d];exact⟨_,rfl⟩
 .exact⟨b,d⟩
def xar{i:Id}{e:List AV}{v:Nat}:∀(a:List Id) {h:Hp} {b:Bool},fK h i=some (.row e v b)->∃f,fK (lH a h) i=some (.row e v f)
 |[],h,b,d=>⟨b,d⟩
 |j::r,h,b,d=>by obtain⟨f,g⟩:=xny (j:=j) d;exact xar r g
def x7m{a:aJ}{f:FuncId}{l g:List AV}{m j:Mem}{r n:AV}(o:l.mapM (Go.Ix.frz m.get bI)=some g)(h:a [] f g mem0=some (r,j))(p:Go.Ix.frz j.get bI r=some n) :
    ∃e:Mem,aI a f l m=some (n,e)/\e.next=m.next/\∀i d v b,m.get i=some (.row d v b)->∃u,e.get i=some (.row d v u):=by
 refine⟨⟨lH (l.flatMap (reach m.get bI)) m.hp,m.next⟩,?_,rfl,λi d v b t=>xar _ t⟩;unfold aI;rw[o];simp only[h,p];rfl
structure Scene where
 nm:ByteArray
 day:Int
 bl:Int
def Scene.c(s:Scene):List AV:=[T s.nm,I s.day,I s.bl]
theorem Scene.len(s:Scene):s.c.length=3:=rfl
def lF:prog.underlying jN=some (.slice HT):=by kernel_rfl
def xel:∃i,prog.info? HT=some i/\i.size=3:=by have:(prog.info? HT).map (·.size)=some 3:=(by kernel_rfl);rw[cE]at this;exact this
def AF:mV=[T ⟨#[]⟩,I 0,I 0]:=by kernel_rfl
@[simp] theorem yap(s:ByteArray):(T s).cells=[T s]:=rfl
@[simp] theorem yab(s:ByteArray):(T s).one=true:=rfl
def xn8{a:AV}{l:List Scene}(h:Sl Scene.c a l){k:Nat}(d:k<=l.length)(e:l≠[]):∃b,Sl Scene.c b (l.take k)/\eK prog jN a none (some (I k))=some b:=by
 rcases h with ⟨_,rfl⟩|⟨x,rfl⟩
 .exact absurd rfl e
 obtain⟨i,n,Z⟩:=xel;have p:=gG Scene.len l;refine⟨.aN ((l.take k).flatMap Scene.c) (l.take k).length (x&&decide ((k:Int)=(l.length:Int))),Sl.lit _ _,?_⟩;have f:dO (.aN (l.flatMap Scene.c) l.length x)=none:=_root_.id rfl;have g:dL (I (k:Int))=some (k:Int):=rfl;have j:dL (I 0)=some 0:=rfl;unfold eK;simp only[f,lF,n,Option.getD_some,Option.getD_none,g,j,Z,Int.sub_zero,hJ,Int.toNat_zero,wW,bC];rw[aF ⟨by omega,by omega,by omega,by omega⟩,oH,xhx d];have m:∀(l:List Scene) (k:Nat),(l.flatMap Scene.c).take (k*3)=(l.take k).flatMap Scene.c:=by
  intro l;induction l with
  |nil=>intro k;simp
  |cons x r o=>
   intro k;cases k with
   |zero=>simp
   |succ k=>rw[dT,lA,dT,lT,show k*3+3=x.c.length+k*3 by rw[Scene.len];omega,ej,o]
 rw[m]
def yZ(nm:ByteArray):Int->List Scene->Int
 |_,[]=>-1
 |k,x::r=>bif iB x.nm nm then k else yZ nm (k+1) r
def xfg(nm:ByteArray):∀(l:List Scene) (k:Int),0<=k->decide (0<=yZ nm k l)=l.any λy=>iB y.nm nm
 |[],k,_=>by simp[yZ]
 |x::r,k,a=>by
  rw[yZ,W1];cases iB x.nm nm with
  |true=>simp[a]
  |false=>simpa using xfg nm r (k+1) (by omega)
def x83(d:Nat)(Z:FHs)(x y:Scene)(m:Mem):∃a,aH (d+1) Z nE [.agg x.c,.aE y.c] m=some (B (iB x.nm y.nm),a):=by rw[x4c];unfold ik bA PI;simp[Scene.c,xL]
def xy9(d:Nat)(Z:FHs){a:AV}{l:List Scene}{y:Scene}(h:Sl Scene.c a l)(C:l.length<1000000)(u:Nat):∀(b:List Scene) (k j:Nat) (m:Mem) (Y:Nat),l.drop k=b->b.length<j ->
    ∃o,H9 (aH (d+1)) Z u j a (.clo nE [.aE y.c]) (I l.length) (I k) m Y=some (I (yZ y.nm k b),o):=by
 intro b;induction b with
 |nil=>intro k j m Y f i;obtain⟨j,rfl⟩:=dQ i;have n:¬((k:Int)<(l.length:Int)):=(by have:=gZ.mp f;omega);simp only[H9];unfold QJ;simp[n,sm,yZ]
 |cons e r A=>
  intro k j m Y f i;obtain⟨j,rfl⟩:=dQ i;obtain⟨n,t,f⟩:=gW f;have hk':(k:Int)<(l.length:Int):=(by omega);have ix:=h.ix Scene.len n;have ld:=jF (m:=m) Scene.len (by omega) n;rw[t]at ld;obtain⟨p,w⟩:=x83 d Z e y m;have g:fL (aH (d+1)) Z 2 (.clo nE [.aE y.c]) [.agg e.c] m=some (B (iB e.nm y.nm),p):=w;simp only[H9];unfold QJ;simp only[bV,hk',bG,aT,aG,ix,ld,g,yZ];cases D:iB e.nm y.nm with
  |true=>simp
  |false=>obtain⟨o,x⟩:=A (k+1) j p (Y+11) f (by simp at i;omega);simp(disch:=omega) [bQ];exact⟨o,by simpa using x⟩
def x9c(d:Nat){a:AV}{l:List Scene}{y:Scene}(h:Sl Scene.c a l)(f:l.length<1000000) :
    ∃b,aH (d+3) [] CU [a,.clo nE [.aE y.c]] mem0=some (B (l.any λx=>iB x.nm y.nm),b):=by
 obtain⟨b,i⟩:=xy9 d [] (y:=y) h f 0 l 0 NN ⟨[],1⟩ 4 rfl (by rw[dF];omega);have g:aH (d+2) [] A8 [a,.clo nE [.aE y.c]] mem0=some (I (yZ y.nm 0 l),b):=(by rw[xgj];unfold MX bA GO QI;simp[h.len lF,mem0];exact i);have e:=λm:Mem=>LF (m:=m) (call:=aH (d+2)) (l:=[a,.clo nE [.aE y.c]]) (by simp only[dP,mT,h.bB,iG,xF];rfl) g rfl
 rw[x40];unfold jn bA QV;simp[e,mem0,<-xfg y.nm l 0 (by omega)]
def tU(l:List Scene):Nat->List Scene->Int×Int
 |_,[]=>(0,0)
 |k,x::r=>
  bif !(nmOK x.nm)then((k:Int),4)
  else bif(l.take k).any (λy=>iB y.nm x.nm)then((k:Int),5)
  else bif !(wi x.day 0 100000)||!(wi x.bl (-100000) 100000)then((k:Int),2)
  else tU l (k+1) r
def rV(l:List Scene):Int×Int:=bif decide (60<l.length)then(0,8)else tU l 0 l
def xy5(d:Nat)(u:Nat){a:AV}{l:List Scene}(h:Sl Scene.c a l)(Z:l.length<=60):∀(f:List Scene) (k j:Nat) (m:Mem) (Y:Nat),l.drop k=f->f.length<j ->
    ∃i,H6 (aH (d+3)) [] u j a a (I l.length) (I k) m Y=some (.tup [I (tU l k f).1,I (tU l k f).2],i):=by
 intro f;induction f with
 |nil=>intro k j m Y n w;obtain⟨j,rfl⟩:=dQ w;have o:¬((k:Int)<(l.length:Int)):=(by have:=gZ.mp n;omega);simp only[H6];unfold PJ;simp[o,rf,tU]
 |cons e r X=>
  intro k j m Y n w;obtain⟨j,rfl⟩:=dQ w;obtain⟨o,P,n⟩:=gW n;have hk':(k:Int)<(l.length:Int):=(by omega);have ix:=h.ix Scene.len o;have ld:=jF (m:=m) Scene.len (by omega) o;rw[P]at ld;obtain⟨A,g,D⟩:=xn8 h (k:=k) (by omega) (by rintro rfl;simp at o);have next:∀m Y,∃i,H6 (aH (d+3)) [] u j a a (I l.length) (I ((k:Int)+1)) m Y=some (.tup [I (tU l (k+1) r).1,I (tU l (k+1) r).2],i):=λm Y=>X (k+1) j m Y n (by simp at w;omega)
  simp only[H6];unfold PJ;simp only[bV,hk',bG,aT,aG,ix,ld,kK,AF,tU];simp[Scene.c,xk1];cases hn:nmOK e.nm with
  |false=>simp
  |true=>
   simp[D];generalize H:Mem.set _ _ _=m1;have K:m1.get (u,Y+4,5)=some (.row e.c 0 false):=(by rw[<-H];simp[Scene.c]);obtain⟨mc,E⟩:=x9c d (y:=e) g (by rw[oH];omega);have C:[A,AV.clo nE [.ptr (u,Y+4,5) 0 0]].mapM (Go.Ix.frz m1.get bI)=some [A,.clo nE [.aE e.c]]:=by
    have M:Go.Ix.frz m1.get bI A=some A:=kN _ 4 g.bB
    have h3:e.c.mapM (Go.Ix.frz m1.get 4)=some e.c:=sF λb J=>uR _ 3 (by
     simp[Scene.c]at J;rcases J with rfl|rfl|rfl<;>rfl)
    have N:Go.Ix.frz m1.get 5 (.ptr (u,Y+4,5) 0 0)=some (.aE e.c):=(by simp only[Go.Ix.frz,K,cM,bC];rfl);have O:Go.Ix.frz m1.get bI (.clo nE [.ptr (u,Y+4,5) 0 0])=some (.clo nE [.aE e.c]):=(by show([AV.ptr (u,Y+4,5) 0 0].mapM (Go.Ix.frz m1.get 5)).map (AV.clo nE)=_;simp only[eI,gX,N];rfl);simp only[eI,gX,M,O];rfl
   obtain⟨Q,F,_,p⟩:=x7m C E rfl;obtain⟨b',t⟩:=p _ _ _ _ K;simp only[F,aG];cases L:(l.take k).any λx=>iB x.nm e.nm with
   |true=>simp
   |false=>
    simp[t,Scene.c,J5];cases hw:wi e.day 0 100000 with
    |false=>simp
    |true=>
     simp(disch:=omega) [t,Scene.c,yr];cases W:wi e.bl (-100000) 100000 with
     |false=>simp
     |true=>obtain⟨i,R⟩:=next Q (Y+31);simp;exact⟨i,R⟩
def xlf(d:Nat){a:AV}{l:List Scene}(h:Sl Scene.c a l)(m:Mem):aI (aH (d+4)) O5 [a] m=some (.tup [I (rV l).1,I (rV l).2],m):=by
 obtain⟨b,e⟩:∃b,aH (d+4) [] O5 [a] mem0=some (.tup [I (rV l).1,I (rV l).2],b):=by
  rw[x4d];unfold il bW PH re rV;by_cases f:60<l.length
  .simp[h.len lF,f,show(60:Int)<l.length by omega]
  .obtain⟨b,e⟩:=xy5 d 0 h (by omega) l 0 NN ⟨[],1⟩ 8 rfl (by rw[dF];omega);simp[h.len lF,f,show ¬((60:Int)<l.length) by omega,mem0];exact⟨b,e⟩
 exact sZ (by simp[h.bB]) e rfl
structure Pq where
 a:Int
 b:Int
def Pq.c(p:Pq):List AV:=[I p.a,I p.b]
theorem Pq.len(p:Pq):p.c.length=2:=rfl
theorem Pq.bB(p:Pq):p.c.all aP=true:=rfl
def J9:prog.underlying l8=some (.slice kT):=by kernel_rfl
def d7:xG=[I 0,I 0]:=by kernel_rfl
def Pq.same(p q:Pq):Bool:=decide (p.a=q.a)&&decide (p.b=q.b)
def Pq.same_iff{a b:Pq}:a.same b=true↔a=b:=by cases a;cases b;simp[Pq.same]
def Pq.same_self(a:Pq):a.same a=true:=Pq.same_iff.2 rfl
def xb8(a b:Int):∀o∈[0,1],bT prog (part eB #[.int .i64 a,.int .i64 b] o)=some (.int .i64 ([a,b].getD o 0)):=by intro o d;simp only[dW,wY,or_false]at d;rcases d with rfl|rfl<;>kernel_rfl
def xug(p q:Pq):bT prog (Op.equalIn 10000 kT (.agg [.int .i64 p.a,.int .i64 p.b].toArray) (.agg [.int .i64 q.a,.int .i64 q.b].toArray))=some (p.same q):=by refine(x10 (offs:=[0,1]) (ga:=λo=>[p.a,p.b].getD o 0) (gb:=λo=>[q.a,q.b].getD o 0) (by kernel_rfl) (by kernel_rfl) (by kernel_rfl) λo d=>⟨xb8 _ _ o d,xb8 _ _ o d⟩).trans ?_;simp[Pq.same,List.getD];by_cases e:p.a=q.a<;>by_cases f:p.b=q.b<;>simp[e,f]
def InB(l:List Scene):Prop:=∀s∈l,(0<=s.day/\s.day<=100000)/\(-100000<=s.bl/\s.bl<=100000)
def xax{l:List Scene}:∀(b:List Scene) (k:Nat),(tU l k b).2=0->InB b
 |[],_,_=>λs h=>by cases h
 |x::r,k,h=>by
  simp only[tU]at h;cases d:nmOK x.nm with
  |false=>simp[d]at h
  |true=>
   cases e:(l.take k).any λy=>iB y.nm x.nm with
   |true=>simp[d,e]at h
   |false=>
    cases f:wi x.day 0 100000 with
    |false=>simp[d,e,f]at h
    |true=>
     cases a:wi x.bl (-100000) 100000 with
     |false=>simp[d,e,f,a]at h
     |true=>
      simp[d,e,f,a]at h;have g:=xax r (k+1) h;intro s Z;rcases dW.mp Z with rfl|Z
      .exact⟨xJ f,xJ a⟩
      .exact g s Z
def xaw{l:List Scene}(h:(rV l).2=0):l.length<=60/\InB l:=by
 unfold rV at h;by_cases a:60<l.length
 .simp[a]at h
 .simp[a]at h;exact⟨by omega,xax l 0 h⟩
def InB.get{l:List Scene}(h:InB l){k:Nat}(a:k<l.length):(0<=l[k].day/\l[k].day<=100000)/\(-100000<=l[k].bl/\l[k].bl<=100000):=h _ (fG a)
def Pq.v(p:Pq):Value:=.agg [.int .i64 p.a,.int .i64 p.b].toArray
def nF(E:List (Pq×AV)):List (Value×AV):=E.map λx=>(x.1.v,x.2)
def mO:List (Pq×AV)->Pq->Option AV
 |[],_=>none
 |x::r,p=>if p.same x.1=true then some x.2 else mO r p
def IR(p q:Pq):gO p.v q.v=p.same q:=by unfold gO Pq.v Pq.same;simp[xP];by_cases h:p.a=q.a<;>by_cases d:p.b=q.b<;>simp[h,d]
def x1d(E:List (Pq×AV))(p:Pq):findKey p.v (nF E)=mO E p:=by
 induction E with
 |nil=>rfl
 |cons x r a=>unfold nF at a ⊢;simp only[fY,findKey,mO,IR];rw[a]
def xn4(E:List (Pq×AV))(p:Pq)(v:AV)(h:mO E p=none):setKey p.v v (nF E)=nF (E++[(p,v)]):=by
 induction E with
 |nil=>rfl
 |cons x r a=>
  simp only[mO]at h;unfold nF at a ⊢;simp only[fY,iY,setKey,IR];by_cases c:p.same x.1=true
  .rw[aF c]at h;cases h
  .rw[aB c]at h;rw[aB c,a h]
def x3d(p:Pq):(bT prog (Instr.checkKey true 10000 kT p.v)).isSome=true:=by kernel_rfl
def x3e(p:Pq):(bT prog (Instr.checkKey false 10000 kT p.v)).isSome=true:=by kernel_rfl
def x1u(p q:Pq):bT prog (Op.equal kT p.v q.v)=some (p.same q):=xug p q
def xdx{d:TypeDesc}(g:prog.underlying kT=some d)(E:List (Pq×AV))(p:Pq):sJ prog kT d p.v (nF E)=true:=by
 obtain⟨a,i⟩:∃a,d=.struct a:=(by have:((prog.underlying kT).bind λd=>match d with | .struct a=>some ()|_=>none)=some ():=(by kernel_rfl);rw[g]at this;cases d<;>first|exact⟨_,rfl⟩|cases this);subst i;have h:IJ prog kT (.struct a) p.v (nF E)=true:=by
  show(gO p.v p.v&&((bT prog (Instr.checkKey true 10000 kT p.v)).isSome&&(bT prog (Instr.checkKey false 10000 kT p.v)).isSome) &&
   (nF E).all λe=>match e.1,bT prog (Op.equal kT p.v e.1)with
    | .agg _,some b=>b == gO p.v e.1
    |_,_=>false)=true
  rw[x3d,x3e,IR,Pq.same_self];simp only[gD,iG,dJ];intro e f;unfold nF at f;obtain⟨x,-,rfl⟩:=fF.mp f;rw[x1u,IR];show(p.same x.1 == p.same x.1)=true;simp
 unfold sJ;rw[h,pk]
theorem S'(p:Pq):dO (.agg p.c)=some p.v:=rfl
def zy:∃d,prog.underlying kT=some d:=by obtain⟨d,h⟩:∃d,(prog.underlying kT).isSome=d:=⟨_,rfl⟩;have:(prog.underlying kT).isSome=true:=(by kernel_rfl);exact LU.mp this
def xxu{t a:TypeId}{z:AV}(e:prog.underlying t=some (.map kT a))(f:J3 prog a=some z)(id:Id)(E:List (Pq×AV))(p:Pq)(ok:Bool)(m:Mem)(h:m.get id=some (.map (nF E))) :
    xR prog t (.mp id) (.agg p.c) ok m=some (if ok then .tup [(mO E p).getD z,B (mO E p).isSome]else(mO E p).getD z):=by
 obtain⟨d,b⟩:=zy;unfold xR;simp only[e,S',b,f,sG,h];rw[aF (xdx b E p),x1d]
def xl8{R:Type}{t b:TypeId}(e:prog.underlying t=some (.map kT b))(id:Id)(E:List (Pq×AV))(p:Pq)(v:AV)(m:Mem)(k:Mem->Option R)(h:m.get id=some (.map (nF E)))(f:mO E p=none) :
    tW prog t (.mp id) (.agg p.c) v m k=k (m.set id (.map (nF (E++[(p,v)])))):=by
 obtain⟨d,a⟩:=zy;unfold tW;simp only[e,S',a,h];rw[aF (xdx a E p),xn4 E p v f]
def xxz(E:List (Pq×AV))(p q:Pq)(v:AV)(h:mO E p=none):mO (E++[(p,v)]) q=if q.same p=true then some v else mO E q:=by
 induction E with
 |nil=>simp[mO]
 |cons x r b=>
  simp only[mO,iY]at h ⊢;by_cases c:p.same x.1=true
  .rw[aF c]at h;cases h
  .rw[aB c]at h;rw[b h];by_cases e:q.same x.1=true
   .rw[aF e,aB,aF e];intro a;rw[Pq.same_iff]at e a c;exact c (by rw[<-a,e])
   .rw[aB e,aB e]
def y5(n:Int)(P:List Pq):Nat->List Pq->Int×Int
 |_,[]=>(0,0)
 |k,p::r=>
  bif !(wi p.a 0 (n-1))||!(wi p.b 0 (n-1))then((k:Int),6)
  else bif decide (p.b<=p.a)then((k:Int),9)
  else bif(P.take k).any (λq=>q.same p)then((k:Int),28)
  else y5 n P (k+1) r
def uH(l:List Scene)(P:List Pq):Int×Int:=bif !decide ((rV l).2=0)then rV l else bif decide (200<P.length)then(0,8)else y5 l.length P 0 P
def xji:J3 prog xI=some (B false):=by kernel_rfl
def zz:prog.underlying WO=some (.map kT xI):=by kernel_rfl
def xmy{P:List Pq}{k:Nat}(a:k<P.length)(q:Pq):(P.take (k+1)).any (λx=>x.same q)=((P.take k).any (λx=>x.same q)||P[k].same q):=by rw[mI a,List.any_append];simp
def xn9{p q:Pq}:p.same q=q.same p:=by rw[NH,Pq.same_iff,Pq.same_iff];exact eq_comm
def xhu(P:List Pq)(k:Nat)(E:List (Pq×AV)):Prop:=∀q,mO E q=bif(P.take k).any (λx=>x.same q)then some (B true)else none
def xzb(d g:Nat){s p:AV}{l:List Scene}{P:List Pq}(Z:Sl Scene.c s l)(F:Sl Pq.c p P)(L:l.length<=60)(M:P.length<=200){T:Int×Int} :
    ∀(n k:Nat) (x:Unit) (m:Mem) (Y:Nat),k<=P.length->P.length<n+k->(m.get (0,0,1)=some (.row [s,p] 0 false)/\(∃E,m.get (0,g,24)=some (.map (nF E))/\xhu P k E)/\y5 l.length P k (P.drop k)=T) ->
    RetF (λv=>v=.tup [I T.1,I T.2]) (H7 (aH (d+2)) [] 0 n (.ptr (0,0,1) 0 0) (.mp (0,g,24)) p (I P.length) (I k) m Y):=by
 refine nH (λn k _ m Y=>H7 (aH (d+2)) [] 0 n (.ptr (0,0,1) 0 0) (.mp (0,g,24)) p (I P.length) (I k) m Y)
  (λk _ m=>m.get (0,0,1)=some (.row [s,p] 0 false)/\(∃E,m.get (0,g,24)=some (.map (nF E))/\xhu P k E)/\y5 l.length P k (P.drop k)=T) _ ?_ ?_
 .rintro n k-m Y j ⟨t,⟨E,H,A⟩,f⟩ next;have hk':(k:Int)<(P.length:Int):=(by omega);have ix:=F.ix Pq.len j;have ld:=jF (m:=m) Pq.len (by omega) j;rw[fX j]at f;have o:=xmy j;generalize P[k]=e at ld f o;simp only[H7];unfold PR;simp only[bV,hk',bG,aT,aG,ix,ld,kK,d7,qM,Mem.dH,cM,AZ];simp(disch:=omega) [Pq.c];generalize i:Mem.set _ _ _=m1;have J:m1.get (0,0,1)=some (.row [s,p] 0 false):=(by rw[<-i];simp[t]);have K:m1.get (0,Y+4,8)=some (.row [I e.a,I e.b] 0 false):=(by rw[<-i];simp);have r:m1.get (0,g,24)=some (.map (nF E)):=(by rw[<-i];simp[H]);have u:=xxu zz xji (0,g,24) E e false m1 r;have h:=A e;simp[t,Z.len lF];rw[bQ];simp[J5];simp only[y5]at f;cases y:wi e.a 0 ((l.length:Int)-1)with
  |false=>simp[y]at f ⊢;exact RetF.tup rfl (by rw[<-f])
  |true=>
   simp[K,J5];cases C:wi e.b 0 ((l.length:Int)-1)with
   |false=>simp[y,C]at f ⊢;exact RetF.tup rfl (by rw[<-f])
   |true=>
    simp[y,C]at f;simp;by_cases w:e.b<=e.a
    .simp[w]at f ⊢;exact RetF.tup rfl (by rw[<-f])
    .simp[w]at f;simp[w];rw[show AV.agg [I e.a,I e.b]=.agg e.c from rfl,u,h];cases D:(P.take k).any λx=>x.same e with
     |true=>simp[D]at f ⊢;exact RetF.tup rfl (by rw[<-f])
     |false=>rw[D]at f h;simp;rw[xl8 zz (0,g,24) E e (B true) m1 _ r h];refine next () _ _ ⟨by simp[J],⟨E++[(e,B true)],by simp,λq=>?_⟩,f⟩;rw[xxz E e q _ h,o q,A q,xn9 (p:=e)];cases q.same e<;>cases(P.take k).any λx=>x.same q<;>rfl
 .rintro n-m Y ⟨t,-,f⟩;have j:¬((P.length:Int)<(P.length:Int)):=(by omega);simp only[H7];unfold PR ro;rw[lV (bO _)]at f;simp[j];exact RetF.tup rfl (by rw[<-f];rfl)
def xl5(d:Nat){s p:AV}{l:List Scene}{P:List Pq}(Z:Sl Scene.c s l)(b:Sl Pq.c p P)(m:Mem):aI (aH (d+5)) CM [.agg [s,p]] m=some (.tup [I (uH l P).1,I (uH l P).2],m):=by
 refine eZ (by simp[Z.aP,b.aP]) ?_ m;rw[x4i];unfold iu bW PQ uH;simp[Z.one,b.one,mem0,xlf d Z];by_cases f:(rV l).2=0
 .obtain⟨g,-⟩:=xaw f;simp[f,b.len J9];by_cases a:200<P.length
  .have e:(200:Int)<(P.length:Int):=(by omega);simp[a,e];exact RetF.tup rfl rfl
  .have e:¬(200:Int)<(P.length:Int):=(by omega);simp[a,e,BM];unfold rn;simp[b.len J9];exact xzb (d+2) 17 Z b g (by omega) NN 0 () _ _ (by omega) (by rw[dF];omega) ⟨by simp,⟨[],by simp;rfl,λq=>by simp[mO]⟩,by simp⟩
 .simp[f];exact RetF.tup rfl rfl
def xks(d:Nat){s p:AV}{l:List Scene}{P:List Pq}(Z:Sl Scene.c s l)(a:Sl Pq.c p P)(m:Mem):aI (aH (d+6)) CF [.agg [s,p]] m=some (I (uH l P).2,m):=by refine eZ (by simp[Z.aP,a.aP]) ?_ m;rw[x30];unfold gq bW OJ;simp[Z.one,a.one,mem0,xl5 d Z a];exact RetF.st rfl rfl
def dm{α:Type}{d:α->List AV}{z b:Nat}(j:∀x,(d x).length=z){a:AV}{l:List α}(h:Sl d a l)(g:cH l.length b)(id:Id)(m:Mem) :
    (l=[]/\∀{R:Type} (k:AV->Mem->Option R),cJ z b id (elems m.get z a) (.aN [] 0 true) m k=k (.aN [] 0 true) m) \/
    (l≠[]/\∀{R:Type} (k:AV->Mem->Option R),cJ z b id (elems m.get z a) (.aN [] 0 true) m k=k (.sref id 0 0 l.length z true) (m.new id (.row (l.flatMap d) 0 false))):=by
 have i:=h.elems j m.get;by_cases f:l.length=0
 .refine .inl ⟨rM.mp f,λk=>?_⟩;rw[i,LO g,eX f];rfl
 .refine .inr ⟨λe=>f (by rw[e];rfl),λk=>?_⟩;rw[i,LO g,eY f];rfl
def bi{α:Type}{b:α->List AV}{z k:Nat}(d:∀x,(b x).length=z)(Z:∀x,(b x).all aP=true){a:Id->Option Ob}{id:Id}{l:List α}{x:Bool}(e:a id=some (.row (l.flatMap b) 0 false)) :
    frz a (k+2) (.sref id 0 0 l.length z x)=some (.aN (l.flatMap b) l.length false):=by
 have g:=gG d l
 have:=pI (aC:=a) (id:=id) (cs:=l.flatMap b) (ver:=0) (off:=0) (n:=l.length) (z:=z) (k:=k) (f:=false) (x:=x) e (by omega) (by
  rw[bC,dM (by omega)];exact oD Z l)
 rw[bC,dM (by omega)]at this;exact this
structure Sp where
 p:Int
 s:Int
def Sp.c(x:Sp):List AV:=[I x.p,I x.s]
theorem Sp.len(x:Sp):x.c.length=2:=rfl
theorem Sp.bB(x:Sp):x.c.all aP=true:=rfl
def cK(P:List Pq)(i:Int):Pq:=P.getD i.toNat ⟨0,0⟩
def eR(P:List Pq)(x:Sp):Int:=if x.s<0 then(cK P x.p).b else(cK P x.p).a
def dA(P:List Pq)(x:Sp):Int:=if x.s<0 then(cK P x.p).a else(cK P x.p).b
def Wk(P:List Pq):List Sp->Int->Int->Prop
 |[],a,b=>a=b
 |x::r,a,b=>eR P x=a/\Wk P r (dA P x) b
variable{P:List Pq}{F:List Int}
def Wk.app:∀{v w:List Sp} {a b c:Int},Wk P v a b->Wk P w b c->Wk P (v++w) a c
 |[],_,_,_,_,h,d=>by cases h;exact d
 |x::r,_,_,_,_,h,d=>⟨h.1,h.2.app d⟩
def Wk.split:∀{v w:List Sp} {a c:Int},Wk P (v++w) a c->∃b,Wk P v a b/\Wk P w b c
 |[],_,a,_,h=>⟨a,rfl,h⟩
 |x::r,_,_,_,h=>by obtain⟨b,d,e⟩:=Wk.split (v:=r) h.2;exact⟨b,⟨h.1,d⟩,e⟩
def jZ(F:List Int)(x:Sp):Prop:=x.p∈F/\(x.s=1\/x.s=-1)
def AllF(F:List Int)(w:List Sp):Prop:=∀x∈w,jZ F x
def AllF.tail{x:Sp}{r:List Sp}(h:AllF F (x::r)):AllF F r:=λy a=>h y (eE _ a)
def AllF.head{x:Sp}{r:List Sp}(h:AllF F (x::r)):jZ F x:=h x (eP ..)
def AllF.app{v w:List Sp}(h:AllF F v)(b:AllF F w):AllF F (v++w):=λy a=>by
 rcases iF.mp a with a|a
 .exact h y a
 .exact b y a
def yX(x:Sp):Sp:=⟨x.p,-x.s⟩
def x1b{x:Sp}(h:jZ F x):eR P (yX x)=dA P x:=by unfold eR dA yX;rcases h.2 with e|e<;>rw[e]<;>simp
def x09{x:Sp}(h:jZ F x):dA P (yX x)=eR P x:=by unfold eR dA yX;rcases h.2 with e|e<;>rw[e]<;>simp
def x1a{x:Sp}(h:jZ F x):jZ F (yX x):=by refine⟨h.1,?_⟩;unfold yX;rcases h.2 with e|e<;>rw[e]<;>simp
def Wk.back:∀{w:List Sp} {a b:Int},Wk P w a b->AllF F w->∃v,Wk P v b a/\AllF F v
 |[],_,_,h,_=>⟨[],h.symm,λ_ h=>by cases h⟩
 |x::r,_,_,h,d=>by
  obtain⟨v,f,g⟩:=Wk.back h.2 d.tail;refine⟨v++[yX x],f.app ⟨x1b d.head,?_⟩,g.app ?_⟩
  .show dA P (yX x)=_;rw[x09 d.head];exact h.1
  .intro y e;simp at e;subst e;exact x1a d.head
def GD(P:List Pq)(F:List Int):Prop:=∀i∈F,∃s:Int->Bool,s (cK P i).a≠s (cK P i).b/\∀j∈F,j≠i->s (cK P j).a=s (cK P j).b
def XX{i:Int}{s:Int->Bool}(h:∀j∈F,j≠i->s (cK P j).a=s (cK P j).b):∀{w:List Sp} {a b:Int},Wk P w a b->AllF F w->i∉w.map Sp.p->s a=s b
 |[],_,_,d,_,_=>by cases d;rfl
 |x::r,a,b,d,f,e=>by simp only[fY,dW,not_or]at e;have g:=h x.p f.head.1 (Ne.symm e.1);have l:=XX h d.2 f.tail e.2;rw[<-l,<-d.1];unfold eR dA;split<;>simp[g]
def xnv{i:Int}{s:Int->Bool}(h:s (cK P i).a≠s (cK P i).b){x y:Sp}(e:x.p=i)(f:y.p=i)(d:s (eR P y)=s (dA P x)):eR P y=dA P x/\dA P y=eR P x:=by
 unfold eR dA at *
 rw[e,f]at *
 by_cases g:x.s<0<;>by_cases j:y.s<0<;>simp only[g,j,cM,cT]at*<;> first|exact⟨trivial,trivial⟩|exact⟨rfl,rfl⟩|exact absurd d h|exact absurd d (Ne.symm h)
def xnu{i:Int}{s:Int->Bool}(h:s (cK P i).a≠s (cK P i).b){x:Sp}(d:x.p=i):s (eR P x)≠s (dA P x):=by
 unfold eR dA;rw[d];split
 .exact h.symm
 .exact h
def xv8(e:GD P F){x:Sp}{r:List Sp}{a:Int}(b:Wk P (x::r) a a)(d:AllF F (x::r))(f:x.p∉r.map Sp.p):False:=by obtain⟨s,h,i⟩:=e x.p d.head.1;have g:=XX i b.2 d.tail f;exact xnu h rfl (by rw[b.1,g])
def NB(P:List Pq):List Sp->Prop
 |[]=>True
 |[_]=>True
 |x::y::r=>dA P y≠eR P x/\NB P (y::r)
def NB.tail{x:Sp}{r:List Sp}(h:NB P (x::r)):NB P r:=by
 cases r with
 |nil=>trivial
 |cons y r=>exact h.2
def xcv(j:GD P F):∀{w:List Sp} {a b:Int},Wk P w a b->AllF F w->NB P w->(w.map Sp.p).Nodup
 |[],_,_,_,_,_=>List.nodup_nil
 |x::r,a,b,t,n,u=>by
  have f:=xcv j t.2 n.tail u.tail;rw[fY,zR];refine⟨λA=>?_,f⟩;obtain⟨y,D,h⟩:=fF.mp A;obtain⟨i,L,rfl⟩:=List.append_of_mem D;obtain⟨c,m,o⟩:=t.2.split;obtain⟨s,E,H⟩:=j x.p n.head.1;have l:x.p∉i.map Sp.p:=(by rw[nU,zS]at f;intro d;exact f.2.2 _ d y.p (by simp) h.symm);have g:AllF F i:=λz C=>n.tail z (zT _ C)
  have e:=XX H m g l;obtain⟨J,K⟩:=xnv E (x:=x) (y:=y) rfl h (by rw[o.1,e]);cases i with
  |nil=>exact u.1 K
  |cons z i=>
   refine xv8 (r:=i) (x:=z) (a:=dA P x) j ?_ g ?_
   .have:c=dA P x:=(by rw[<-J];exact o.1.symm);rw[this]at m;exact m
   .rw[nU,zS]at f;have:=f.1;rw[fY,zR]at this;exact this.1
def xcx:∀{w:List Sp} {a b:Int},Wk P w a b->AllF F w->∃v,Wk P v a b/\AllF F v/\NB P v
 |[],_,_,h,d=>⟨[],h,d,trivial⟩
 |x::r,a,b,h,d=>by
  obtain⟨v,f,i,j⟩:=xcx h.2 d.tail;cases v with
  |nil=>exact⟨[x],⟨h.1,f⟩,λy g=>by simp at g;subst g;exact d.head,trivial⟩
  |cons y v=>
   by_cases c:dA P y=eR P x
   .refine⟨v,?_,i.tail,j.tail⟩;have:=f.2;rw[c,h.1]at this;exact this
   .refine⟨x::y::v,⟨h.1,f⟩,λz e=>?_,c,j⟩;rcases dW.mp e with rfl|e
    .exact d.head
    .exact i z e
def qH(F:List Int):List Sp:=F.flatMap λi=>[⟨i,1⟩,⟨i,-1⟩]
def mem_stepsOf{F:List Int}{x:Sp}:x∈qH F↔jZ F x:=by
 unfold qH jZ;rw[mK];constructor
 .rintro⟨i,a,b⟩;simp only[dW,wY,or_false]at b;rcases b with rfl|rfl
  .exact⟨a,Or.inl rfl⟩
  .exact⟨a,Or.inr rfl⟩
 .rintro⟨d,f⟩;refine⟨x.p,d,?_⟩;cases x;rcases f with e|e<;>simp at e<;>subst e<;>simp
def ZD{l k:List Int}(a:l.Nodup)(h:∀x∈l,x∈k):l.length<=k.length:=by
 induction l generalizing k with
 |nil=>simp
 |cons x r e=>
  rw[zR]at a;have d:=h x (eP ..);have:=e (k:=k.erase x) a.2 λy b=>by rw[List.mem_erase_of_ne (by rintro rfl;exact a.1 b)];exact h y (eE _ b)
  rw[List.length_erase_of_mem d]at this;have f:0<k.length:=List.length_pos_of_mem d;simp only[dN];omega
def xwi(e:GD P F){w:List Sp}{a b:Int}(f:Wk P w a b)(d:AllF F w)(g:NB P w):w.length<=F.length:=by
 have:=ZD (xcv e f d g) (k:=F) λi h=>by obtain⟨x,j,rfl⟩:=fF.mp h;exact(d x j).1
 simpa using this
def mn(x y:Int):Int:=if y<x then y else x
def jG(u:List Int)(p:Pq):List Int:=u.map λx=>if x=at0 u p.a.toNat\/x=at0 u p.b.toNat then mn (at0 u p.a.toNat) (at0 u p.b.toNat)else x
def joinsM(u:List Int)(l:List Pq):List Int:=l.foldl jG u
def freshM(n:Nat):List Int:=(List.range n).map λ(i:Nat)=>(i:Int)
def PqIn(n:Nat)(p:Pq):Prop:=0<=p.a/\p.a<p.b/\p.b<n
structure Lab (n:Nat) (u:List Int):Prop where
 len:u.length=n
 ok:∀v,v<n->0<=at0 u v/\at0 u v<=v/\at0 u (at0 u v).toNat=at0 u v
def af(u:List Int)(p:Pq):(jG u p).length=u.length:=by unfold jG;simp
def yP{u:List Int}{p:Pq}{v:Nat}(h:v<u.length):at0 (jG u p) v=if at0 u v=at0 u p.a.toNat\/at0 u v=at0 u p.b.toNat then mn (at0 u p.a.toNat) (at0 u p.b.toNat)else at0 u v:=by rw[fD (by rw[af];exact h),fD h];unfold jG;rw[G9]
def ZH(a b:Int):mn a b=a/\a<=b\/mn a b=b/\b<a:=by
 unfold mn;split
 .right;exact⟨rfl,by assumption⟩
 .left;exact⟨rfl,by omega⟩
def Lab.fresh(n:Nat):Lab n (freshM n):=by
 refine⟨by simp[freshM],λv a=>?_⟩;have:∀w,w<n->at0 (freshM n) w=w:=λw b=>by rw[fD (by simpa[freshM]using b)];simp[freshM]
 rw[this v a];refine⟨by omega,by omega,?_⟩;rw[hJ,this v a]
def Lab.EQ{n v:Nat}(h:v<n):at0 (freshM n) v=v:=by rw[fD (by simpa[freshM]using h)];simp[freshM]
def Lab.lt{n:Nat}{u:List Int}(h:Lab n u){v:Nat}(a:v<n):(at0 u v).toNat<n:=by have:=h.ok v a;omega
def Lab.join{n:Nat}{u:List Int}(h:Lab n u){p:Pq}(i:PqIn n p):Lab n (jG u p):=by
 obtain⟨l,o,r⟩:=i;have A:=h.ok p.a.toNat (by omega);have j:=h.ok p.b.toNat (by omega);refine⟨by rw[af];exact h.len,λv f=>?_⟩;have ev:=h.ok v f;rw[yP (by rw[h.len];exact f)];obtain⟨m,g⟩:∃m,m=mn (at0 u p.a.toNat) (at0 u p.b.toNat):=⟨_,rfl⟩;have d:=ZH (at0 u p.a.toNat) (at0 u p.b.toNat);rw[<-g]at d ⊢;by_cases c:at0 u v=at0 u p.a.toNat\/at0 u v=at0 u p.b.toNat
 .rw[aF c];refine⟨by omega,by omega,?_⟩;rw[yP (by rw[h.len];omega),<-g];have:at0 u m.toNat=at0 u p.a.toNat\/at0 u m.toNat=at0 u p.b.toNat:=by
   rcases d with ⟨e,-⟩|⟨e,-⟩
   .rw[e,A.2.2];exact Or.inl rfl
   .rw[e,j.2.2];exact Or.inr rfl
  rw[aF this]
 .rw[aB c];refine⟨ev.1,ev.2.1,?_⟩;rw[yP (by rw[h.len];omega),ev.2.2,aB c]
def Lab.joins{n:Nat}:∀{l:List Pq} {u:List Int},Lab n u->(∀p∈l,PqIn n p)->Lab n (joinsM u l)
 |[],_,h,_=>h
 |p::l,u,h,a=>Lab.joins (l:=l) (h.join (a p (eP ..))) λq b=>a q (eE _ b)
def Sm(u:List Int)(v w:Nat):Prop:=at0 u v=at0 u w
def xzt(x y a b m:Int)(f:m=a/\a<=b\/m=b/\b<a):((if x=a\/x=b then m else x)=(if y=a\/y=b then m else y))↔(x=y\/(x=a/\y=b)\/(x=b/\y=a)):=by by_cases d:x=a\/x=b<;>by_cases e:y=a\/y=b<;>(first|rw[aF d]|rw[aB d])<;>(first|rw[aF e]|rw[aB e])<;>omega
def ab{n:Nat}{u:List Int}{p:Pq}(h:Lab n u){v w:Nat}(d:v<n)(e:w<n) :
    Sm (jG u p) v w↔Sm u v w\/(Sm u v p.a.toNat/\Sm u w p.b.toNat)\/(Sm u v p.b.toNat/\Sm u w p.a.toNat):=by
 unfold Sm;rw[yP (by rw[h.len];exact d),yP (by rw[h.len];exact e)];exact xzt _ _ _ _ _ (ZH _ _)
def xd4(u:List Int)(l k:List Pq):joinsM u (l++k)=joinsM (joinsM u l) k:=by unfold joinsM;rw[fa]
def xzr{n:Nat}{u:List Int}{p:Pq}(h:Lab n u){v w:Nat}(a:v<n)(b:w<n)(e:Sm u v w):Sm (jG u p) v w:=(ab h a b).mpr (Or.inl e)
def xd1{n:Nat}:∀{l:List Pq} {u:List Int},Lab n u->(∀p∈l,PqIn n p)->∀{v w:Nat},v<n->w<n->Sm u v w->Sm (joinsM u l) v w
 |[],_,_,_,_,_,_,_,e=>e
 |p::l,u,h,a,v,w,b,d,e=>xd1 (l:=l) (h.join (a p (eP ..))) (λq f=>a q (eE _ f)) b d (xzr h b d e)
def xzs{n:Nat}{u:List Int}{p:Pq}(h:Lab n u)(d:PqIn n p):Sm (jG u p) p.a.toNat p.b.toNat:=by obtain⟨e,f,g⟩:=d;exact(ab h (by omega) (by omega)).mpr (Or.inr (Or.inl ⟨rfl,rfl⟩))
def C8{n:Nat}:∀{l:List Pq} {u:List Int},Lab n u->(∀p∈l,PqIn n p)->∀p∈l,Sm (joinsM u l) p.a.toNat p.b.toNat
 |[],_,_,_,p,d=>by cases d
 |q::l,u,h,d,p,f=>by
  have e:=d q (eP ..);have g:∀p∈l,PqIn n p:=λp h=>d p (eE _ h)
  rcases dW.mp f with rfl|f
  .have:PqIn n p:=e;obtain⟨i,j,m⟩:=e;exact xd1 (l:=l) (h.join this) g (by omega) (by omega) (xzs h this)
  .exact C8 (h.join e) g p f
def aa{n:Nat}{R:Nat->Nat->Prop}(Z:∀{a b},R a b->R b a)(f:∀{a b c},R a b->R b c->R a c):∀{l:List Pq} {u:List Int},Lab n u->(∀p∈l,PqIn n p)->(∀p∈l,R p.a.toNat p.b.toNat)->(∀v w,v<n->w<n->Sm u v w->R v w)->∀v w,v<n->w<n->Sm (joinsM u l) v w->R v w
 |[],_,_,_,_,h=>h
 |p::l,u,h,o,r,g=>by
  have d:=o p (eP ..);refine aa (R:=R) Z f (l:=l) (h.join d) (λq d=>o q (eE _ d)) (λq d=>r q (eE _ d)) λv w i j e=>?_
  obtain⟨t,x,y⟩:=d;have m:=r p (eP ..);rcases(ab h i j).mp e with e|⟨e1,e2⟩|⟨e1,e2⟩
  .exact g v w i j e
  .exact f (g v _ i (by omega) e1) (f m (Z (g w _ j (by omega) e2)))
  .exact f (g v _ i (by omega) e1) (f (Z m) (Z (g w _ j (by omega) e2)))
def Lab.ext{n:Nat}{u t:List Int}(h:Lab n u)(k:Lab n t)(e:∀v w,v<n->w<n->(Sm u v w↔Sm t v w)):u=t:=by
 apply FY
 .rw[h.len,k.len]
 .intro v d f;rw[h.len]at d;rw[<-fD,<-fD];have a:=h.ok v d;have b:=k.ok v d;have g:at0 t (at0 u v).toNat=at0 t v:=(e _ v (by omega) d).mp (by unfold Sm;exact a.2.2);have i:at0 u (at0 t v).toNat=at0 u v:=(e _ v (by omega) d).mpr (by unfold Sm;exact b.2.2);have j:=k.ok (at0 u v).toNat (by omega);have l:=h.ok (at0 t v).toNat (by omega);omega
def Indep(u:List Int):List Pq->Prop
 |[]=>True
 |p::l=>¬Sm u p.a.toNat p.b.toNat/\Indep (jG u p) l
def Indep.app{u:List Int}:∀{l k:List Pq} ,Indep u (l++k)↔Indep u l/\Indep (joinsM u l) k:=by
 intro l;induction l generalizing u with
 |nil=>intro k;simp[Indep,joinsM]
 |cons p l a=>intro k;simp only[iY,Indep];rw[a];simp[joinsM,and_assoc]
def qO(n:Nat)(u:List Int):Nat:=((List.range n).filter λ(v:Nat)=>decide (at0 u v=(v:Int))).length
def x2z{n:Nat}{p q:Nat->Bool}{w:Nat}(g:w<n)(b:p w=true)(d:q w=false)(h:∀v,v<n->v≠w->p v=q v):((List.range n).filter p).length=((List.range n).filter q).length+1:=by
 induction n with
 |zero=>omega
 |succ n f=>
  rw[rL,xA,xA,eA,eA];by_cases c:w=n
  .subst c;have e:(List.range w).filter p=(List.range w).filter q:=(by apply List.filter_congr;intro v a;have:=iR.mp a;exact h v (by omega) (by omega));rw[e];simp[b,d]
  .have:=f (by omega) λv a=>h v (by omega)
   have e:=h n (by omega) (by omega);simp only[fb,e,List.filter_nil];omega
def ad{n:Nat}{u:List Int}{p:Pq}(h:Lab n u)(j:PqIn n p)(g:¬Sm u p.a.toNat p.b.toNat):qO n u=qO n (jG u p)+1:=by
 have hp':=j;obtain⟨r,t,x⟩:=j;have A:=h.ok p.a.toNat (by omega);have f:=h.ok p.b.toNat (by omega);unfold Sm at g;have i:=ZH (at0 u p.a.toNat) (at0 u p.b.toNat);obtain⟨w,m⟩:∃w:Int,w=if at0 u p.b.toNat<at0 u p.a.toNat then at0 u p.a.toNat else at0 u p.b.toNat:=⟨_,rfl⟩
 have d:w=at0 u p.a.toNat/\at0 u p.b.toNat<at0 u p.a.toNat\/w=at0 u p.b.toNat/\at0 u p.a.toNat<at0 u p.b.toNat:=(by rw[m];split<;>omega);unfold qO;refine x2z (w:=w.toNat) (by omega) ?_ ?_ λv o l=>?_
 .rw[cq];rcases d with ⟨e,-⟩|⟨e,-⟩
  .rw[e,A.2.2];omega
  .rw[e,f.2.2];omega
 .rw[decide_eq_false_iff_not,yP (by rw[h.len];omega)];have:at0 u w.toNat=w:=by
   rcases d with ⟨e,-⟩|⟨e,-⟩
   .rw[e];exact A.2.2
   .rw[e];exact f.2.2
  rw[this,aF (by omega)];omega
 .rw[NH,cq,cq,yP (by rw[h.len];omega)];by_cases c:at0 u v=at0 u p.a.toNat\/at0 u v=at0 u p.b.toNat
  .rw[aF c];constructor
   .intro e;omega
   .intro e;rcases i with ⟨q,-⟩|⟨q,-⟩
    .rw[q]at e;rw[e]at A;have:=A.2.2;simpa using this
    .rw[q]at e;rw[e]at f;have:=f.2.2;simpa using this
  .rw[aB c]
def KF{n:Nat}:∀{l:List Pq} {u:List Int},Lab n u->(∀p∈l,PqIn n p)->Indep u l->qO n u=qO n (joinsM u l)+l.length
 |[],_,_,_,_=>rfl
 |p::l,u,h,b,d=>by have a:=b p (eP ..);have:=KF (h.join a) (λq a=>b q (eE _ a)) d.2;have f:=ad h a d.1;have e:joinsM u (p::l)=joinsM (jG u p) l:=rfl;rw[e,dN];omega
def xbn(n:Nat):qO n (freshM n)=n:=by unfold qO;have:(List.range n).filter (λ(v:Nat)=>decide (at0 (freshM n) v=(v:Int)))=List.range n:=(by rw[FX];intro v a;rw[Lab.EQ (iR.mp a)];simp);rw[this,List.length_range]
variable{P:List Pq}
def prs(P:List Pq)(F:List Int):List Pq:=F.map (cK P)
structure For (n:Nat) (P:List Pq) (F:List Int):Prop where
 rng:∀i∈F,0<=i/\i<P.length
 nod:F.Nodup
 ind:Indep (freshM n) (prs P F)
def JL{n:Nat}(a:∀p∈P,PqIn n p){i:Int}(h:0<=i/\i<P.length):PqIn n (cK P i):=by unfold cK;have:i.toNat<P.length:=(by omega);rw[fU,eJ this];exact a _ (fG this)
def oW{n:Nat}(a:∀p∈P,PqIn n p){F:List Int}(h:∀i∈F,0<=i/\i<P.length):∀p∈prs P F,PqIn n p:=λp b=>by obtain⟨i,d,rfl⟩:=fF.mp b;exact JL a (h i d)
def For.take{n:Nat}{F G:List Int}(h:For n P (F++G)):For n P F:=by refine⟨λi a=>h.rng i (zT _ a),(zS.mp h.nod).1,?_⟩;have:=h.ind;unfold prs at this;rw[nU]at this;exact(Indep.app.mp this).1
def For.cut{n:Nat}(A:∀p∈P,PqIn n p){F:List Int}(h:For n P F):GD P F:=by
 have o:∀(k:Nat) (F:List Int),F.length=k->For n P F->GD P F:=by
  intro k;induction k with
  |zero=>intro F r _ i m;rw[rM.mp r]at m;cases m
  |succ k D=>
   intro F r h;obtain⟨G,q,rfl⟩:∃G q,F=G++[q]:=(by have f:F≠[]:=(by rintro rfl;simp at r);exact⟨F.dropLast,F.getLast f,(fe f).symm⟩);have w:=h.take;have C:=D G (by simpa using r) w;obtain⟨u,x⟩:∃u,u=joinsM (freshM n) (prs P G):=⟨_,rfl⟩;have l:=h.ind;unfold prs at l;rw[nU]at l;have f:¬Sm u (cK P q).a.toNat (cK P q).b.toNat:=(by have:=(Indep.app.mp l).2;rw[show List.map (cK P) [q]=[cK P q]from rfl]at this;rw[x];exact this.1);have e:∀j∈G,Sm u (cK P j).a.toNat (cK P j).b.toNat:=λj d=>by rw[x];exact C8 (Lab.fresh n) (oW A w.rng) _ (fF.mpr ⟨j,d,rfl⟩)
   unfold Sm at f e;intro i m;rcases iF.mp m with m|m
   .obtain⟨s,t,y⟩:=C i m;by_cases c:s (cK P q).a=s (cK P q).b
    .refine⟨s,t,λj d g=>?_⟩;rcases iF.mp d with d|d
     .exact y j d g
     .simp at d;subst d;exact c
    .refine⟨λv=>if at0 u v.toNat=at0 u (cK P q).b.toNat then !(s v)else s v,?_,λj d g=>?_⟩
     .have:=e i m;simp only
      rw[this];split
      .simpa using t
      .exact t
     .simp only
      rcases iF.mp d with d|d
      .have:=e j d;rw[this,y j d g]
      .simp at d;subst d;rw[aB f,aF rfl];cases E:s (cK P j).a<;>cases H:s (cK P j).b<;>simp_all
   .simp at m;subst m;refine⟨λv=>decide (at0 u v.toNat=at0 u (cK P i).a.toNat),?_,λj d g=>?_⟩
    .simp[Ne.symm f]
    .rcases iF.mp d with d|d
     .simp only;rw[e j d]
     .simp at d;exact absurd d g
 exact o _ F rfl h
def xd5{n:Nat}(u:∀p∈P,PqIn n p){F:List Int}(y:∀i∈F,0<=i/\i<P.length):∀{v w:Nat},v<n->w<n->Sm (joinsM (freshM n) (prs P F)) v w->∃l,Wk P l v w/\AllF F l:=by
 intro v w o r Z;let R:Nat->Nat->Prop:=λv w=>∃l,Wk P l v w/\AllF F l
 have d:∀{a b},R a b->R b a:=λ⟨l,f,g⟩=>(by obtain⟨v,j,m⟩:=f.back g;exact⟨v,j,m⟩);have t:∀{a b c},R a b->R b c->R a c:=λ⟨l,f,g⟩ ⟨k,j,m⟩=>⟨l++k,f.app j,g.app m⟩;refine aa (R:=R) d t (Lab.fresh n) (oW u y) (λp D=>?_) (λv w o r e=>?_) v w o r Z
 .obtain⟨i,C,rfl⟩:=fF.mp D;have E:=JL u (y i C);obtain⟨H,f,g⟩:=E;refine⟨[⟨i,1⟩],⟨?_,?_⟩,λx A=>?_⟩
  .unfold eR;simp;omega
  .show dA P ⟨i,1⟩=_;unfold dA;simp;omega
  .simp at A;subst A;exact⟨C,Or.inl rfl⟩
 .unfold Sm at e;rw[Lab.EQ o,Lab.EQ r]at e;exact⟨[],by show(v:Int)=w;exact e,λ_ h=>by cases h⟩
def For.len{n:Nat}(a:∀p∈P,PqIn n p){F:List Int}(h:For n P F):F.length<=n:=by have:=KF (Lab.fresh n) (oW a h.rng) h.ind;rw[xbn]at this;have e:(prs P F).length=F.length:=(by unfold prs;simp);omega
def Gk.len{α:Type}{z:Nat}{b:α->List AV}{l:List α}{a:AV}{ok:Id->Prop}{m:Mem}{y e:TypeId}(d:prog.underlying y=some (.slice e))(h:Gk z b ok m a l):aM prog y a=some (I l.length):=by
 rcases h with ⟨rfl,rfl⟩|⟨id,f,_,rfl,g⟩
 .exact EI d
 .rfl
def Gk.at{a:AV}{l:List Int}{ok:Id->Prop}{m:Mem}(h:Gk 1 intE ok m a l){k:Int}(p:0<=k)(n:k<l.length) :
    ∃q,aR 1 a (I k)=some q/\aA false 1 q m=some (I (at0 l k.toNat))/\∀v:Int,∃g,(∀{R:Type} (K:Mem->Option R),aU 1 q (I v) m K=K g)/\Gk 1 intE ok g a (l.set k.toNat v)/\g.next=m.next/\∀j,¬ok j->g.get j=m.get j:=by
 rcases h with ⟨rfl,rfl⟩|⟨id,d,e,rfl,o⟩
 .simp at n;omega
 .have b:k.toNat<l.length:=(by omega);refine⟨.ptr id d k.toNat,?_,?_,λv=>⟨m.set id (.row ((l.set k.toNat v).flatMap intE) d false),λK=>?_,Or.inr ⟨id,d,e,by simp,by simp⟩,rfl,λj r=>?_⟩⟩
  .simp[aR,dL,p,n]
  .rw[aQ o,rd,aB (by simp),T7,<-List.map_drop,fX b,fD b];rfl
  .rw[lY (z:=1) (x:=I v) (k:=K) o rfl (by rw[D0];omega) rfl];congr 3;simp only[T7,cS,cz];rw[List.map_set,em,aF (by simpa using b)];simp
  .rw[Mem.cP,aB (by rintro rfl;exact r e)]
def xxh{l X:List Int}(b:X.length=l.length){k:Nat}(a:k<l.length):at0 (X.take k++l.drop k) k=at0 l k:=by rw[fD (by simp;omega),fD a,MF (by simp;omega)];simp[b,xhx (Nat.le_of_lt a)]
def xxe{l X:List Int}(d:X.length=l.length){k:Nat}(a:k<l.length):(X.take k++l.drop k).set k (at0 X k)=X.take (k+1)++l.drop (k+1):=by have b:(X.take k).length=k:=(by simp;omega);rw[List.set_append,aB (by omega),b,LV,fX a,List.set_cons_zero,mI (by omega),fD (by omega),oI];rfl
def xxg{l X:List Int}(b:X.length=l.length){k:Nat}(a:k<l.length)(h:at0 X k=at0 l k):X.take k++l.drop k=X.take (k+1)++l.drop (k+1):=by rw[fX a,mI (by omega),<-fD (show k<X.length by omega),h,fD a];simp
def xxf{l X:List Int}(a:X.length=l.length){k:Nat}(b:k<=l.length):(X.take k++l.drop k).length=l.length:=by simp;omega
def xmd:prog.underlying yf=some (.slice eB):=by kernel_rfl
def fk(ok:Id->Prop)(m a:Mem):Prop:=∀j:Id,¬ok j->j.1<m.next->a.get j=m.get j
def xgt(d:Nat)(Z:FHs){ok:Id->Prop}{m:Mem}{a:AV}{l:List Int}{p:Pq}(W:Gk 1 intE ok m a l)(F:∀j,ok j->j.1<m.next)(hp:PqIn l.length p)(hl:l.length<=1000) :
    ∃f,aH (d+1) Z N5 [a,.agg [I p.a,I p.b]] m=some (B (!decide (at0 l p.a.toNat=at0 l p.b.toNat)),f)/\Gk 1 intE ok f a (jG l p)/\f.next=m.next+1/\fk ok m f:=by
 obtain⟨p0,p1,p2⟩:=hp;rw[x3w];unfold gj bA OC;obtain⟨t,i⟩:∃t,t=(⟨m.hp,m.next+1⟩:Mem).new (m.next,0,3) (.row [I p.a,I p.b] 0 false):=⟨_,rfl⟩;have C:∀j:Id,j.1<m.next->t.get j=m.get j:=λj e=>by rw[i,Mem.dH,aB (by rintro rfl;exact Nat.lt_irrefl _ e)];rfl
 have J:t.next=m.next+1:=(by rw[i];rfl);have hg:t.get (m.next,0,3)=some (.row [I p.a,I p.b] 0 false):=(by rw[i];simp);have g:Gk 1 intE ok t a l:=W.frame λj e=>C j (F j e)
 obtain⟨q1,i1,l1,-⟩:=g.at (k:=p.a) p0 (by omega);obtain⟨q2,i2,l2,-⟩:=g.at (k:=p.b) (by omega) p2;simp only[jD,pM,dP,mT,vU,gD,bD,<-i];simp[hg,i1,l1,i2,l2];unfold qa;simp[g.len xmd];have E:(jG l p).length=l.length:=af l p;refine nH (N:=l.length) (σ:=Unit) (λn k _ f Y=>W6 (aH d) Z m.next n a (I (at0 l p.a.toNat)) (I (at0 l p.b.toNat)) a (I l.length) (I k) f Y)
  (λk _ f=>Gk 1 intE ok f a ((jG l p).take k++l.drop k)/\f.next=m.next+1/\fk ok m f)
  (λr=>∃f,r=some (B (!decide (at0 l p.a.toNat=at0 l p.b.toNat)),f)/\Gk 1 intE ok f a (jG l p)/\f.next=m.next+1/\fk ok m f) ?_ ?_ NN 0 () t _ (by omega) (by rw[dF];omega) ⟨by simpa using g,J,λj _ e=>C j e⟩
 .rintro n k-P Y w ⟨y,H,A⟩ next;have hk':(k:Int)<(l.length:Int):=(by omega);have hml:=xxf (l:=l) (X:=jG l p) E (k:=k) (by omega);obtain⟨q,L,D,st⟩:=y.at (k:=(k:Int)) (by omega) (by omega);rw[hJ,xxh E w]at D;have e:=yP (u:=l) (p:=p) w;simp only[W6];unfold OD qb OE;by_cases c:at0 l k=at0 l p.a.toNat\/at0 l k=at0 l p.b.toNat
  .rw[aF c]at e;obtain⟨Q,M,O,e3,R⟩:=st (mn (at0 l p.a.toNat) (at0 l p.b.toNat));rw[hJ,<-e,xxe E w]at O;unfold mn at M;by_cases x:at0 l k=at0 l p.a.toNat
   .simp(disch:=omega) [hk',L,D,x,bQ];rw[M];exact next () Q _ ⟨O,by omega,λj e o=>by rw[R j e];exact A j e o⟩
   .have K:at0 l k=at0 l p.b.toNat:=c.resolve_left x;rw[K]at D x;simp(disch:=omega) [hk',L,D,x,bQ];rw[M];exact next () Q _ ⟨O,by omega,λj e o=>by rw[R j e];exact A j e o⟩
  .rw[aB c]at e;have x:¬at0 l k=at0 l p.a.toNat:=λh=>c (Or.inl h)
   have K:¬at0 l k=at0 l p.b.toNat:=λh=>c (Or.inr h)
   simp(disch:=omega) [hk',L,D,x,K,bQ];exact next () P _ ⟨by rw[<-xxg E w e];exact y,H,A⟩
 .rintro n-P Y ⟨y,H,A⟩;have w:¬((l.length:Int)<(l.length:Int)):=(by omega);simp only[W6];unfold OD qc;simp[w];rw[lV (bO _),dM (by omega),iH]at y;exact⟨y,H,A⟩
def KN{n k:Nat}(h:k<n):(freshM n).take k++[(k:Int)]=(freshM n).take (k+1):=by rw[mI (by simpa[freshM]using h)];simp[freshM]
def yx(d:Nat){n:Nat}(D:n<=1000)(m:Mem):∃a M,vM (aH (d+1)) z7 [I n] m=some (a,M)/\Gk 1 intE (λid=>id.1=m.next) M a (freshM n)/\M.next=m.next+1/\∀j:Id,j.1<m.next->M.get j=m.get j:=by
 obtain⟨a,b,t,u,E⟩:∃a b,aH (d+1) [] z7 [I n] ⟨[],m.next⟩=some (a,b)/\Gk 1 intE (λid=>id.1=m.next) b a (freshM n)/\b.next=m.next+1:=by
  rw[x3z];unfold gp bW OH qd;refine nH (N:=n) (λj k a b Y=>W7 (aH d) [] m.next j a (I n) (I k) b Y) (λk a b=>Gk 1 intE (λid=>id.1=m.next) b a ((freshM n).take k)/\b.next=m.next+1)
   (λr=>∃a b,r=some (a,b)/\Gk 1 intE (λid=>id.1=m.next) b a (freshM n)/\b.next=m.next+1) ?_ ?_ NN 0 nilS _ _ (by omega) (by rw[dF];omega) ⟨by simpa using Gk.nil,rfl⟩
  .rintro j k a g Y h ⟨e,i⟩ next;have hk':(k:Int)<(n:Int):=(by omega);have f:((freshM n).take k).length=k:=(by simp[freshM];omega);obtain⟨w,x,y,A,-,-,F,-⟩:=Gk.app (ok:=λid=>id.1=m.next) (bytes:=8) (id0:=(m.next,Y+6,12)) fR (by omega) rfl (by unfold cH;omega) e (k:Int);simp only[W7];unfold OI;simp(disch:=omega) [hk',mU,bQ];rw[show elems g.get 1 (.aN [I (k:Int)] 1 true)=some ([I (k:Int)],1)from rfl];rw[show[I (k:Int)]=intE k from rfl,y];exact next w x _ ⟨by rw[<-KN h];exact A,by omega⟩
  .rintro j a g Y ⟨e,i⟩;have h:¬((n:Int)<(n:Int)):=(by omega);simp only[W7];unfold OI qe;simp[h];exact⟨a,g,⟨rfl,rfl⟩,by rw[dM (by simp[freshM])]at e;exact e,i⟩
 obtain⟨M,C,H,o⟩:=xgq (l:=[I n]) rfl t;refine⟨a,M,C,u.frame λj p=>?_,by omega,λj f=>?_⟩
 .rw[o j,aF (by omega)]
 .rw[o j,aB (by omega)]
def qL(l:List Scene)(i:Int):Scene:=l.getD i.toNat ⟨⟨#[]⟩,0,0⟩
def lenP(l:List Scene)(p:Pq):Int:=(((qL l p.a).day-(qL l p.b).day).natAbs:Int)+(((qL l p.a).bl-(qL l p.b).bl).natAbs:Int)
def xay{l:List Scene}{i:Int}(h:i.toNat<l.length):qL l i=l[i.toNat]:=by unfold qL;rw[fU,eJ h];rfl
def JK{P:List Pq}{i:Int}(h:i.toNat<P.length):cK P i=P[i.toNat]:=by unfold cK;rw[fU,eJ h];rfl
def IQ{l:List Scene}(a:InB l){i:Int}(b:0<=i)(h:i<l.length):(0<=(qL l i).day/\(qL l i).day<=100000)/\(-100000<=(qL l i).bl/\(qL l i).bl<=100000):=by rw[xay (by omega)];exact a.get (by omega)
def xdq{l:List Scene}(d:InB l){p:Pq}(e:PqIn l.length p):0<=lenP l p/\lenP l p<=300000:=by obtain⟨f,h,g⟩:=e;have a:=IQ d (i:=p.a) f (by omega);have b:=IQ d (i:=p.b) (by omega) g;unfold lenP;omega
def Sl.ixz{α:Type}{b:α->List AV}{z:Nat}{a:AV}{l:List α}(d:∀x,(b x).length=z)(h:Sl b a l){k:Int}(e:0<=k)(f:k<l.length):aR z a (I k)=some (.aE ((l.drop k.toNat).flatMap b)):=by have:=h.ix d (k:=k.toNat) (by omega);rwa[I8 e]at this
def yz(d:Nat){s p:AV}{l:List Scene}{P:List Pq}(Z:Sl Scene.c s l)(f:Sl Pq.c p P)(n:InB l){i:Int}(o:0<=i/\i<P.length)(u:PqIn l.length (cK P i))(m:Mem) :
    aI (aH (d+2)) O1 [.agg [s,p],I i] m=some (I (lenP l (cK P i)),m):=by
 refine eZ (by simp[Z.aP,f.aP]) ?_ m;obtain⟨r,F,t⟩:=u;have D:=IQ n (i:=(cK P i).a) r (by omega);have E:=IQ n (i:=(cK P i).b) (by omega) t;have w:=f.ixz Pq.len o.1 o.2;have g:=λm=>jF (m:=m) (enc:=Pq.c) Pq.len (by omega) (show i.toNat<P.length by omega)
 rw[<-JK (by omega)]at g;have A:=Z.ixz Scene.len r (show(cK P i).a<l.length by omega);have C:=Z.ixz Scene.len (show 0<=(cK P i).b by omega) t;have h:=λm=>jF (m:=m) (enc:=Scene.c) Scene.len (by omega) (show(cK P i).a.toNat<l.length by omega)
 have j:=λm=>jF (m:=m) (enc:=Scene.c) Scene.len (by omega) (show(cK P i).b.toNat<l.length by omega)
 rw[<-xay (by omega)]at h j;unfold lenP;rw[x37];unfold gz bA OZ;generalize qL l (cK P i).a=x at *
 generalize qL l (cK P i).b=y at *
 generalize cK P i=e at *
 simp only[Pq.c]at g;simp only[Scene.c]at h j;simp(disch:=omega) [mem0,Z.one,f.one,w,g,A,C,h,j,d7,AF,tR,tS,aW,kX,bQ,xko,cU,show Nat.blt 0 1=true from rfl];refine RetF.st ?_ ?_<;>rfl
def Rng(n:Nat)(P:List Pq)(F:List Int):Prop:=∀i∈F,(0<=i/\i<P.length)/\PqIn n (cK P i)
def Rng.get{n:Nat}{P:List Pq}{F:List Int}(h:Rng n P F){k:Nat}(a:k<F.length):(0<=at0 F k/\at0 F k<P.length)/\PqIn n (cK P (at0 F k)):=by rw[fD a];exact h _ (fG a)
end Go.Ix
namespace Go.Ix
variable{P:List Pq}
def ae{u:List Int}{p:Pq}(h:at0 u p.a.toNat=at0 u p.b.toNat):jG u p=u:=by
 unfold jG;conv=>rhs;rw[<-List.map_id u]
 apply xh9;intro x _;show _=x;rw[h];by_cases c:x=at0 u p.b.toNat
 .rw[aF (Or.inl c),c];unfold mn;simp
 .rw[aB (by simp[c])]
def jP(P:List Pq):List Int->List Int->List Int
 |_,[]=>[]
 |u,i::r=>if at0 u (cK P i).a.toNat=at0 u (cK P i).b.toNat then jP P u r else i::jP P (jG u (cK P i)) r
def XM:∀(l u:List Int),Indep u (prs P (jP P u l))
 |[],_=>trivial
 |i::r,u=>by
  rw[jP];by_cases c:at0 u (cK P i).a.toNat=at0 u (cK P i).b.toNat
  .rw[aF c];exact XM r u
  .rw[aB c];exact⟨c,XM r _⟩
def AY:∀(l u:List Int),(jP P u l).Sublist l
 |[],_=>List.Sublist.slnil
 |i::r,u=>by
  rw[jP];by_cases c:at0 u (cK P i).a.toNat=at0 u (cK P i).b.toNat
  .rw[aF c];exact(AY r u).cons i
  .rw[aB c];exact(AY r _).cons_cons i
def XN:∀(l k u:List Int),jP P u (l++k)=jP P u l++jP P (joinsM u (prs P l)) k
 |[],_,_=>rfl
 |i::r,k,u=>by
  rw[iY,jP,jP];by_cases c:at0 u (cK P i).a.toNat=at0 u (cK P i).b.toNat
  .rw[aF c,aF c,XN r k u];show _=jP P u r++jP P (joinsM (jG u (cK P i)) (prs P r)) k;rw[ae c]
  .rw[aB c,aB c,XN r k _];rfl
def xmx(l u:List Int)(i:Int):jP P u (l++[i])=jP P u l++(if at0 (joinsM u (prs P l)) (cK P i).a.toNat=at0 (joinsM u (prs P l)) (cK P i).b.toNat then[]else[i]):=by rw[XN];congr 1
def XS{α:Type}{R:α->α->Prop}(i:∀a,¬R a a)(j:∀a b,R a b->R b a->False):∀{l k:List α},l.Pairwise R->k.Pairwise R->(∀x,x∈l↔x∈k)->l=k
 |[],[],_,_,_=>rfl
 |[],y::k,_,_,h=>by have:=(h y).mpr (eP ..);cases this
 |x::l,[],_,_,h=>by have:=(h x).mp (eP ..);cases this
 |x::l,y::k,f,g,h=>by
  rw[vA]at f g;have e:x=y:=by
   rcases dW.mp ((h x).mp (eP ..))with e|e
   .exact e
   .rcases dW.mp ((h y).mpr (eP ..))with e2|e2
    .exact e2.symm
    .exact(j _ _ (g.1 x e) (f.1 y e2)).elim
  subst e;have:=XS i j f.2 g.2 λz=>by
   constructor
   .intro d;rcases dW.mp ((h z).mp (eE _ d))with e|e
    .rw[e]at d;exact(i _ (f.1 _ d)).elim
    .exact e
   .intro d;rcases dW.mp ((h z).mpr (eE _ d))with e|e
    .rw[e]at d;exact(i _ (g.1 _ d)).elim
    .exact e
  rw[this]
def xbw{α:Type}{R:α->α->Prop}(d:∀a,¬R a a){l:List α}(h:l.Pairwise R):l.Nodup:=List.Pairwise.imp (S:=λa b=>a≠b) (λ{a b} hr (e:a=b)=>d a (by rw[<-e]at hr;exact hr)) h
def lx(f:Int->Int)(i j:Int):Prop:=f i<f j\/(f i=f j/\i<j)
def xdh{f:Int->Int}(i:Int):¬lx f i i:=by unfold lx;omega
def xdi{f:Int->Int}(i j:Int)(h:lx f i j)(a:lx f j i):False:=by unfold lx at *;omega
def xdg{f:Int->Int}{i j k:Int}(h:lx f i j)(a:lx f j k):lx f i k:=by unfold lx at *;omega
def xxt{f:Int->Int}{i j:Int}(h:i≠j):lx f i j\/lx f j i:=by unfold lx;omega
def Ordd(f:Int->Int)(N:Nat)(L:List Int):Prop:=L.Pairwise (lx f)/\∀x,x∈L↔(0<=x/\x<N)
def Ordd.one{f:Int->Int}{N:Nat}{L K:List Int}(h:Ordd f N L)(k:Ordd f N K):L=K:=XS xdh xdi h.1 k.1 λx=>(h.2 x).trans (k.2 x).symm
def Ordd.nodup{f:Int->Int}{N:Nat}{L:List Int}(h:Ordd f N L):L.Nodup:=xbw xdh h.1
def Asc(F:List Int):Prop:=F.Pairwise (· < ·)
def Asc.one{F G:List Int}(h:Asc F)(k:Asc G)(e:∀x,x∈F↔x∈G):F=G:=XS (λa=>by omega) (λa b=>by omega) h k e
def Asc.nodup{F:List Int}(h:Asc F):F.Nodup:=xbw (λa=>by omega) h
def xaz{l k:List Int}(b:l.Nodup)(d:k.Nodup)(h:∀x,x∈l↔x∈k):l.length=k.length:=by
 have:=ZD b λx a=>(h x).mp a
 have:=ZD d λx a=>(h x).mpr a
 omega
def fresh_mem{N:Nat}{x:Int}:x∈freshM N↔(0<=x/\x<N):=by
 unfold freshM;rw[fF];constructor
 .rintro⟨i,a,rfl⟩;have:=iR.mp a;omega
 .rintro⟨b,d⟩;exact⟨x.toNat,iR.mpr (by omega),by omega⟩
def bq(N:Nat):Asc (freshM N):=by unfold Asc freshM;rw[List.pairwise_map];exact xh4.imp λh=>by omega
def Asc.filter{F:List Int}(h:Asc F)(p:Int->Bool):Asc (F.filter p):=List.Pairwise.filter p h
variable{n:Nat}
def xd2{t:List Int}{l:List Pq}(d:∀p∈l,PqIn n p)(h:∀p∈l,Sm t p.a.toNat p.b.toNat){v w:Nat}(f:v<n)(g:w<n)(Z:Sm (joinsM (freshM n) l) v w):Sm t v w:=by refine aa (R:=Sm t) (λh=>h.symm) (λi j=>i.trans j) (Lab.fresh n) d h (λa b m o e=>?_) v w f g Z;unfold Sm at e;rw[Lab.EQ m,Lab.EQ o]at e;have:a=b:=(by omega);rw[this];rfl
def xd3{l k:List Pq}(d:∀p∈l,PqIn n p)(e:∀p∈k,PqIn n p)(h:∀p∈l,Sm (joinsM (freshM n) k) p.a.toNat p.b.toNat)(i:∀p∈k,Sm (joinsM (freshM n) l) p.a.toNat p.b.toNat):joinsM (freshM n) l=joinsM (freshM n) k:=
 ((Lab.fresh n).joins d).ext ((Lab.fresh n).joins e) λv w f g=>⟨xd2 d h f g,xd2 e i f g⟩
def xzq{l k:List Pq}(b:∀p∈l,PqIn n p)(d:∀p∈k,PqIn n p)(h:∀p,p∈l↔p∈k):joinsM (freshM n) l=joinsM (freshM n) k:=
 xd3 b d (λp a=>C8 (Lab.fresh n) d p ((h p).mp a)) (λp a=>C8 (Lab.fresh n) b p ((h p).mpr a))
def xbm:∀{l:List Pq} {u:List Int},Lab n u->(∀p∈l,PqIn n p)->qO n u<=qO n (joinsM u l)+l.length
 |[],_,_,_=>bO _
 |p::l,u,h,f=>by
  have d:=f p (eP ..);have g:=xbm (h.join d) λq d=>f q (eE _ d)
  have e:joinsM u (p::l)=joinsM (jG u p) l:=rfl;rw[e,dN];by_cases c:Sm u p.a.toNat p.b.toNat
  .rw[ae c]at g ⊢;omega
  .have:=ad h d c;omega
def xem:∀{l:List Pq} {u:List Int},Lab n u->(∀p∈l,PqIn n p)->qO n (joinsM u l)+l.length<=qO n u->Indep u l
 |[],_,_,_,_=>trivial
 |p::l,u,h,g,i=>by
  have d:=g p (eP ..);have f:∀q∈l,PqIn n q:=λq d=>g q (eE _ d)
  have e:joinsM u (p::l)=joinsM (jG u p) l:=rfl;rw[e,dN]at i;by_cases c:Sm u p.a.toNat p.b.toNat
  .have:=xbm (h.join d) f;rw[ae c]at this i;omega
  .have:=ad h d c;exact⟨c,xem (h.join d) f (by omega)⟩
def For.perm(d:∀p∈P,PqIn n p){F G:List Int}(h:For n P F)(g:G.Nodup)(e:∀x,x∈F↔x∈G):For n P G:=by
 have f:∀i∈G,0<=i/\i<P.length:=λi j=>h.rng i ((e i).mpr j)
 refine⟨f,g,xem (Lab.fresh n) (oW d f) ?_⟩;have m:=KF (Lab.fresh n) (oW d h.rng) h.ind;have l:joinsM (freshM n) (prs P G)=joinsM (freshM n) (prs P F):=xzq (oW d f) (oW d h.rng) λp=>by unfold prs;rw[fF,fF];exact⟨λ⟨i,a,b⟩=>⟨i,(e i).mpr a,b⟩,λ⟨i,a,b⟩=>⟨i,(e i).mp a,b⟩⟩
 have o:=xaz h.nod g e;rw[l];have r:(prs P F).length=F.length:=(by unfold prs;simp);have t:(prs P G).length=G.length:=(by unfold prs;simp);omega
def For.sub(d:∀p∈P,PqIn n p){F G:List Int}(h:For n P F)(f:G.Nodup)(Z:∀x∈G,x∈F):For n P G:=by
 refine(h.perm (G:=G++F.filter λx=>!(G.contains x)) d ?_ λx=>?_).take
 .rw[zS];refine⟨f,h.nod.filter _,λa g b i e=>?_⟩;subst e;have:=(iX.mp i).2;simp at this;exact this g
 .rw[iF,iX];by_cases c:x∈G
  .simp[c,Z x c]
  .simp[c]
def xuf:prs P (freshM P.length)=P:=by
 apply FY
 .simp[prs,freshM]
 .intro k d a;have b:k<P.length:=a;simp[prs,freshM,cK,fU,b]
structure Tree (n:Nat) (P:List Pq) (F:List Int):Prop where
 fo:For n P F
 asc:Asc F
 all:∀p∈P,Sm (joinsM (freshM n) (prs P F)) p.a.toNat p.b.toNat
def xxl{a:List Int}(d:∀i∈a,0<=i/\i<P.length):∀p∈prs P a,p∈P:=by intro p e;obtain⟨i,f,rfl⟩:=fF.mp e;have:=d i f;have b:i.toNat<P.length:=(by omega);unfold cK;rw[fU,eJ b];exact fG b
def Tree.uni(a:∀p∈P,PqIn n p){F:List Int}(h:Tree n P F):joinsM (freshM n) (prs P F)=joinsM (freshM n) P:=
 xd3 (oW a h.fo.rng) a (λp b=>C8 (Lab.fresh n) a p (xxl h.fo.rng p b)) h.all
def Tree.len(a:∀p∈P,PqIn n p){F:List Int}(h:Tree n P F):n=qO n (joinsM (freshM n) P)+F.length:=by have:=KF (Lab.fresh n) (oW a h.fo.rng) h.fo.ind;rw[xbn,h.uni a]at this;have e:(prs P F).length=F.length:=(by unfold prs;simp);omega
def uP(f:Int->Int)(x:Int):List Int->List Int
 |[]=>[x]
 |y::r=>if f x<f y\/(f x=f y/\x<y)then x::y::r else y::uP f x r
def ins_mem{f:Int->Int}{x z:Int}:∀{l:List Int},z∈uP f x l↔z=x\/z∈l
 |[]=>by simp[uP]
 |y::r=>by
  rw[uP];split
  .simp
  .rw[dW,ins_mem,dW];constructor
   .rintro(h|h|h)<;>simp[h]
   .rintro(h|h|h)<;>simp[h]
def xek{f:Int->Int}{x:Int}:∀{l:List Int},l.Pairwise (lx f)->x∉l->(uP f x l).Pairwise (lx f)
 |[],_,_=>by simp[uP]
 |y::r,h,b=>by
  rw[uP];rw[vA]at h;split
  .rename_i c;rw[vA];refine⟨λz a=>?_,vA.mpr h⟩;rcases dW.mp a with rfl|a
   .exact c
   .exact xdg c (h.1 z a)
  .rename_i c;rw[vA];refine⟨λz a=>?_,xek h.2 λd=>b (eE _ d)⟩;rcases ins_mem.mp a with rfl|a
   .rcases xxt (f:=f) (i:=z) (j:=y) (λe=>b (by rw[e];exact eP ..))with e|e
    .exact absurd e c
    .exact e
   .exact h.1 z a
def eG(f:Int->Int)(N:Nat):List Int:=(freshM N).foldr (uP f) []
def y8(f:Int->Int)(N:Nat):Ordd f N (eG f N):=by
 have a:∀l:List Int,l.Nodup->(l.foldr (uP f) []).Pairwise (lx f)/\∀x,x∈l.foldr (uP f) []↔x∈l:=by
  intro l;induction l with
  |nil=>intro _;simp
  |cons y r g=>intro h;rw[zR]at h;obtain⟨d,b⟩:=g h.2;rw[xie];exact⟨xek d λe=>h.1 ((b y).mp e),λx=>by rw[ins_mem,b,dW]⟩
 obtain⟨d,b⟩:=a (freshM N) (bq N).nodup;exact⟨d,λx=>(b x).trans fresh_mem⟩
def yO(f:Int->Int)(n:Nat)(P:List Pq):List Int:=jP P (freshM n) (eG f P.length)
def jS(f:Int->Int)(n:Nat)(P:List Pq):List Int:=(freshM P.length).filter λi=>(yO f n P).contains i
def xdn{f:Int->Int}{x:Int}(h:x∈yO f n P):0<=x/\x<P.length:=((y8 f P.length).2 x).mp ((AY _ _).subset h)
def xdo(f:Int->Int):(yO f n P).Nodup:=(AY _ _).nodup (y8 f P.length).nodup
def light_mem{f:Int->Int}{x:Int}:x∈jS f n P↔x∈yO f n P:=by
 unfold jS;rw[iX,fresh_mem];constructor
 .rintro⟨_,h⟩;simpa using h
 .intro h;exact⟨xdn h,by simpa using h⟩
def xdm(f:Int->Int):Asc (jS f n P):=(bq _).filter _
def xdp(b:∀p∈P,PqIn n p)(f:Int->Int):For n P (yO f n P):=⟨λi a=>xdn a,xdo f,XM _ _⟩
def xdl(a:∀p∈P,PqIn n p)(f:Int->Int):For n P (jS f n P):=(xdp a f).perm a (xdm f).nodup λx=>light_mem.symm
def Ordd.split{f:Int->Int}{N:Nat}{L:List Int}(h:Ordd f N L)(c:Int):L=L.filter (λi=>decide (f i<=c))++L.filter (λi=>!decide (f i<=c)):=by
 refine h.one ⟨?_,λx=>?_⟩
 .rw[V7];refine⟨h.1.filter _,h.1.filter _,λa d b e=>?_⟩;have g:=(iX.mp d).2;have l:=(iX.mp e).2;simp at g l;unfold lx;omega
 .rw[<-h.2,iF,iX,iX];cases decide (f x<=c)<;>simp
def nP(lt:Int->Int->Bool):Nat->List Int->List Int
 |0,L=>L
 |j+1,L=>if lt (at0 L (j+1)) (at0 L j)=true then nP lt j ((L.set (j+1) (at0 L j)).set j (at0 L (j+1)))else L
def xg0(lt:Int->Int->Bool):∀(j:Nat) (L:List Int),(nP lt j L).length=L.length
 |0,_=>rfl
 |j+1,L=>by
  rw[nP];split
  .rw[xg0 lt j];simp
  .rfl
def x76{R:Int->Int->Prop}(o:∀{a b c},R a b->R b c->R a c){lt:Int->Int->Bool}{x:Int}:∀(A B:List Int),A.Pairwise R->(∀v∈A,(lt x v=true->R x v)/\(lt x v=false->R v x)) ->
    ∃C,nP lt A.length (A++x::B)=C++B/\C.Pairwise R/\C.Perm (A++[x]):=by
 intro A;generalize i:A.length=n;induction n generalizing A with
 |zero=>intro B _ _;have:=rM.mp i;subst this;exact⟨[x],rfl,by simp,fg _⟩
 |succ n F=>
  intro B g j;obtain⟨e,y,rfl⟩:∃e y,A=e++[y]:=(by have h:A≠[]:=(by rintro rfl;simp at i);exact⟨A.dropLast,A.getLast h,(fe h).symm⟩);have hn':e.length=n:=(by simpa using i);have r:e++[y]++x::B=e++y::x::B:=(by simp);have t:at0 (e++y::x::B) (n+1)=x:=(by rw[fD (by simp;omega),MF (by omega)];simp[hn']);have u:at0 (e++y::x::B) n=y:=(by rw[fD (by simp;omega),MF (by omega)];simp[hn']);have Z:((e++y::x::B).set (n+1) y).set n x=e++x::y::B:=(by rw[xh1 _ _ (by omega),xh1 _ _ (by omega)];simp[hn']);rw[V7]at g;obtain⟨w,l⟩:=j y (by simp);rw[r,nP,t,u,Z];by_cases c:lt x y=true
  .rw[aF c];obtain⟨C,D,E,m⟩:=F e hn' (y::B) g.1 λv p=>j v (by simp[p])
   refine⟨C++[y],by rw[D];simp,?_,?_⟩
   .rw[V7];refine⟨E,by simp,λa d b f=>?_⟩;simp at f;subst f;rcases iF.mp (m.mem_iff.mp d)with d|d
    .exact g.2.2 a d b (by simp)
    .simp at d;subst d;exact w c
   .refine(m.append_right [y]).trans ?_;rw[oI,oI];exact List.Perm.append_left e (List.Perm.swap y x [])
  .rw[aB c];have c':lt x y=false:=(by simpa using c);refine⟨e++[y]++[x],by simp,?_,fg _⟩;rw[V7];refine⟨V7.mpr g,by simp,λa d b f=>?_⟩;simp at f;subst f;rcases iF.mp d with d|d
   .exact o (g.2.2 a d y (by simp)) (l c')
   .simp at d;subst d;exact l c'
def iE(lt:Int->Int->Bool)(k:Nat)(L:List Int):List Int:=(List.range' 1 k).foldl (λL i=>nP lt i L) L
def EL(lt:Int->Int->Bool)(k:Nat)(L:List Int):iE lt (k+1) L=nP lt (k+1) (iE lt k L):=by unfold iE;rw[List.range'_concat,fa];simp[ef]
def xeb(lt:Int->Int->Bool)(k:Nat)(L:List Int):(iE lt k L).length=L.length:=by
 induction k with
 |zero=>rfl
 |succ k a=>rw[EL,xg0,a]
def xzy{R:Int->Int->Prop}(j:∀{a b c},R a b->R b c->R a c){lt:Int->Int->Bool}{L:List Int}(h:∀(i:Nat) (u:i<L.length),∀v∈L.take i,(lt L[i] v=true->R L[i] v)/\(lt L[i] v=false->R v L[i])) :
    ∀k,k<L.length->∃C,iE lt k L=C++L.drop (k+1)/\C.Pairwise R/\C.Perm (L.take (k+1)):=by
 intro k;induction k with
 |zero=>
  intro e;refine⟨L.take 1,?_,?_,fg _⟩
  .exact(G8 1 L).symm
  .cases L with
   |nil=>simp
   |cons a l=>simp
 |succ k t=>
  intro e;obtain⟨C,n,o,f⟩:=t (by omega);have d:C.length=k+1:=(by rw[f.length_eq];simp;omega);rw[EL,n,fX e];obtain⟨D,g,p,r⟩:=x76 (R:=R) j (lt:=lt) (x:=L[k+1]) C (L.drop (k+1+1)) o λv m=>h (k+1) e v (f.mem_iff.mp m)
  rw[d]at g;refine⟨D,g,p,r.trans ?_⟩;rw[mI e];exact f.append_right _
def aj{R:Int->Int->Prop}(g:∀{a b c},R a b->R b c->R a c){lt:Int->Int->Bool}{L:List Int}(h:∀(i:Nat) (m:i<L.length),∀v∈L.take i,(lt L[i] v=true->R L[i] v)/\(lt L[i] v=false->R v L[i])) :
    (iE lt (L.length-1) L).Pairwise R/\(iE lt (L.length-1) L).Perm L:=by
 by_cases l:L.length=0
 .have:=rM.mp l;subst this;exact⟨List.Pairwise.nil,fg _⟩
 .obtain⟨C,d,j,f⟩:=xzy (R:=R) (lt:=lt) (L:=L) g h (L.length-1) (by omega);have e:L.length-1+1=L.length:=(by omega);rw[e,lV (bO _),iH]at d;rw[e,dM (bO _)]at f;rw[d];exact⟨j,f⟩
def xfa{N i:Nat}(h:i<(freshM N).length):(freshM N)[i]=i:=by simp[freshM]
def xzx(f:Int->Int)(N:Nat):iE (λx y=>decide (f x<f y)) ((freshM N).length-1) (freshM N)=eG f N:=by
 obtain⟨d,e⟩:=aj (R:=lx f) xdg (lt:=λx y=>decide (f x<f y)) (L:=freshM N) λi a v b=>by
  rw[xfa a];obtain⟨j,g,rfl⟩:=vB.mp b;rw[V8,xfa];simp at g;constructor
  .intro h;simp at h;exact .inl h
  .intro h;simp at h;unfold lx;omega
 exact Ordd.one ⟨d,λx=>by rw[e.mem_iff,fresh_mem]⟩ (y8 f N)
def xzz{L:List Int}(d:L.Nodup):Asc (iE (λx y=>decide (x<y)) (L.length-1) L)/\∀x,x∈iE (λx y=>decide (x<y)) (L.length-1) L↔x∈L:=by
 obtain⟨m,n⟩:=aj (R:=λa b:Int=>a<b) (λh k=>by omega) (lt:=λx y=>decide (x<y)) (L:=L) λi f v g=>by
  have l:v≠L[i]:=(by rintro rfl;obtain⟨j,o,e⟩:=vB.mp g;rw[V8]at e;simp at o;have:=x9i.mp d j i (by omega) f (by omega);exact this e);constructor
  .intro h;simpa using h
  .intro h;simp at h;omega
 exact⟨m,λx=>n.mem_iff⟩
open Go.Proofs
def uX(ok:Id->Prop)(m a:Mem):Prop:=∀j:Id,¬ok j->a.get j=m.get j
def NF(a:aJ)(f:AV)(b:Id)(o:Ob)(n:Nat)(c:Int->Int->Int):Prop:=∀(Z:FHs) (x y:Int) (m:Mem),0<=x->x<n->0<=y->y<n->m.get b=some o->∃d,m.next<=d/\fL a Z 2 f [I x,I y] m=some (I (c x y),⟨m.hp,d⟩)
def InN(n:Nat)(L:List Int):Prop:=∀x∈L,0<=x/\x<n
def InN.get{n:Nat}{L:List Int}(h:InN n L){k:Nat}(a:k<L.length):0<=at0 L k/\at0 L k<n:=by rw[fD a];exact h _ (fG a)
def InN.set{n:Nat}{L:List Int}(h:InN n L){k:Nat}{x:Int}(b:0<=x/\x<n):InN n (L.set k x):=λy a=>by
 rcases xh5 a with a|rfl
 .exact h y a
 .exact b
def xy7(d:aJ)(Z:FHs)(u:Nat){a f:AV}{b:Id}{o:Ob}{n:Nat}{c:Int->Int->Int}(hf:NF d f b o n c){ok:Id->Prop}(hb:¬ok b)(e:AV->AV->AV->AV->AV->Mem->Nat->O2)(E:Int)(R:AV)(Q:O2->Prop){m0:Mem}{LL:Nat}(hLL:LL<=1000)(h8:0<=E/\E<=1000)(F:List Int)(W:∀m Y,Gk 1 intE ok m a F->(∀j,¬ok j->m.get j=m0.get j)->m0.next<=m.next->Q (e a (I 0) R f (I (E+1)) m Y)) :
    ∀(j k:Nat) (L:List Int) (m:Mem) (Y:Nat),L.length=LL->j<L.length->j<k->InN n L->nP (λx y=>decide (c x y<0)) j L=F->Gk 1 intE ok m a L->(∀i,¬ok i->m.get i=m0.get i)->m0.next<=m.next->m0.get b=some o ->
    Q (X7 d Z u e k a (I 0) R f (I E) (I j) m Y):=by
 intro j;induction j with
 |zero=>intro k L m Y X hj hk H g t w A h;obtain⟨k,rfl⟩:∃i,k=i+1:=⟨k-1,by omega⟩;simp only[X7];unfold PY PZ;simp(disch:=omega) [bQ];rw[nP]at g;subst g;exact W m _ t w A
 |succ j ih=>
  intro k L m Y X hj hk H g t w A h;obtain⟨k,rfl⟩:∃i,k=i+1:=⟨k-1,by omega⟩;obtain⟨q1,C,l1,-⟩:=t.at (k:=((j+1:Nat):Int)) (by omega) (by omega);obtain⟨q0,D,l0,-⟩:=t.at (k:=(j:Int)) (by omega) (by omega);rw[hJ]at l1 l0;have l:=H.get (k:=j+1) (by omega);have p:=H.get (k:=j) (by omega);obtain⟨N,hn',hc⟩:=hf Z (at0 L (j+1)) (at0 L j) m l.1 l.2 p.1 p.2 (by rw[w b hb];exact h);have K:((j+1:Nat):Int)-1=(j:Int):=(by omega);have M:(0:Int)<((j+1:Nat):Int):=(by omega);have hG':Gk 1 intE ok (⟨m.hp,N⟩:Mem) a L:=t.frame λid _=>rfl
  obtain⟨p1,j1,r1,-⟩:=hG'.at (k:=((j+1:Nat):Int)) (by omega) (by omega);obtain⟨p0,j0,r0,-⟩:=hG'.at (k:=(j:Int)) (by omega) (by omega);rw[hJ]at r1 r0;obtain⟨p2,j2,-,O⟩:=hG'.at (k:=((j+1:Nat):Int)) (by omega) (by omega);obtain⟨m2,e1,e2,e3,e4⟩:=O (at0 L j);rw[hJ]at e2;obtain⟨p3,j3,-,P⟩:=e2.at (k:=(j:Int)) (by omega) (by simp;omega);obtain⟨m3,f1,f2,f3,f4⟩:=P (at0 L (j+1));rw[hJ]at f2;obtain rfl:p1=q1:=(by rw[j1]at C;cases C;rfl);obtain rfl:p0=q0:=(by rw[j0]at D;cases D;rfl);obtain rfl:p2=p1:=(by rw[j2]at C;cases C;rfl);obtain rfl:p3=p0:=(by rw[j3]at D;cases D;rfl);rw[nP]at g;simp only[X7];unfold PY;simp only[gR,dZ,gS,iC,M,bG,bD,iS,aG,C,l1,nX];rw[bQ,K];simp only[bD,aG,l0,hc,bV,cW,D,r0,r1];by_cases J:c (at0 L (j+1)) (at0 L j)<0
  .rw[aF (by simpa using J)]at g;simp only[J,bG,aT,e1,f1];exact ih k _ m3 _ (by simpa using X) (by simp;omega) (by omega) ((H.set p).set l) g f2 (λi r=>by rw[f4 i r,e4 i r];exact w i r) (by rw[f3,e3];show m0.next<=N;omega) h
  .rw[aB (by simpa using J)]at g;subst g;simp only[J,bP,aV];unfold PZ;simp(disch:=omega) [bQ];exact W _ _ hG' (λi r=>by rw[<-w i r];rfl) (by show m0.next<=N;omega)
def xg1{n:Nat}{lt:Int->Int->Bool}:∀(j:Nat) (L:List Int),j<L.length->InN n L->InN n (nP lt j L)
 |0,_,_,h=>h
 |j+1,L,a,h=>by
  rw[nP];split
  .exact xg1 j _ (by simp;omega) ((h.set (h.get (by omega))).set (h.get (by omega)))
  .exact h
def x7s(d:Nat)(Z:FHs){a f:AV}{b:Id}{o:Ob}{n:Nat}{c:Int->Int->Int}(J:NF (aH d) f b o n c){ok:Id->Prop}(A:¬ok b){L:List Int}{m:Mem}(K:L.length<=1000)(M:InN n L)(C:Gk 1 intE ok m a L)(i:m.get b=some o) :
    ∃e,aH (d+1) Z P1 [a,I 0,I L.length,f] m=some (.tup [],e)/\Gk 1 intE ok e a (iE (λx y=>decide (c x y<0)) (L.length-1) L)/\m.next<=e.next/\uX ok m e:=by
 rw[x4m];unfold iz zA PX;simp(disch:=omega) [bQ];have H:iE (λx y=>decide (c x y<0)) 0 L=L:=rfl;by_cases R:L.length=0
 .obtain⟨E,w⟩:∃E,NN=E+1:=⟨NN-1,by have:=dF;omega⟩;rw[w];simp only[zX];unfold GM;have:¬((1:Int)<(L.length:Int)):=(by omega);simp[R];exact⟨C.frame λ_ _=>rfl,λj _=>rfl⟩
 .refine nH (N:=L.length-1) (σ:=Unit) (λj k _ e Y=>zX (aH d) Z m.next j a (I 0) (I L.length) f (I ((k+1:Nat):Int)) e Y)
   (λk _ e=>Gk 1 intE ok e a (iE (λx y=>decide (c x y<0)) k L)/\InN n (iE (λx y=>decide (c x y<0)) k L)/\m.next<=e.next/\uX ok m e)
   (λr=>∃e,r=some (.tup [],e)/\Gk 1 intE ok e a (iE (λx y=>decide (c x y<0)) (L.length-1) L)/\m.next<=e.next/\uX ok m e) ?_ ?_ NN 0 () _ _ (by omega) (by rw[dF];omega) ⟨C.frame λ_ _=>rfl,M,by show m.next<=m.next+1;omega,λj _=>rfl⟩
  .rintro j k-g Y X ⟨p,t,F,h⟩ next;have hk':(((k+1:Nat):Int))<(L.length:Int):=(by omega);simp only[zX];unfold GM sd;simp only[bV,hk',bG,aT,aG];have u:=xeb (λx y=>decide (c x y<0)) k L;refine xy7 (aH d) Z m.next J A (zX (aH d) Z m.next j) ((k+1:Nat):Int) (I L.length) (λr=>∃e,r=some (.tup [],e)/\Gk 1 intE ok e a (iE (λx y=>decide (c x y<0)) (L.length-1) L)/\m.next<=e.next/\uX ok m e) (m0:=g) (LL:=L.length) K (by omega) (iE (λx y=>decide (c x y<0)) (k+1) L) (λO l P Q W=>?_) (k+1) NN (iE (λx y=>decide (c x y<0)) k L) g _ u (by omega) (by rw[dF];omega) t (EL _ k L).symm p (λ_ _=>rfl) (bO _) (by rw[h b A];exact i);exact next () O l ⟨P,by rw[EL];exact xg1 _ _ (by omega) t,by omega,λj D=>by rw[Q j D,h j D]⟩
  .rintro j-g Y ⟨p,t,F,h⟩;have hk':¬(((L.length-1+1:Nat):Int))<(L.length:Int):=(by omega);simp only[zX];unfold GM;simp only[bV,hk',bP,aV,aG];exact⟨g,rfl,p,F,h⟩
def x71(d:Nat)(Z:FHs){a f:AV}{b:Id}{o:Ob}{n:Nat}{c:Int->Int->Int}(r:NF (aH d) f b o n c){ok:Id->Prop}(t:¬ok b){L:List Int}{m:Mem}(F:L.length<20)(u:InN n L)(p:Gk 1 intE ok m a L)(i:m.get b=some o) :
    ∃g,aH (d+3) Z CO [a,f] m=some (.tup [],g)/\Gk 1 intE ok g a (iE (λx y=>decide (c x y<0)) (L.length-1) L)/\m.next<=g.next/\uX ok m g:=by
 rw[x4o];unfold jb bA QB;simp[p.len jA];rw[x4j];unfold iv fC PS;obtain⟨h,e⟩:∃h,NN=h+1:=⟨NN-1,by have:=dF;omega⟩;rw[e];simp only[MI];have l:¬(20:Int)<=(L.length:Int):=(by omega);have h20':¬(20:Int)<(L.length:Int):=(by omega);obtain⟨g,A,C,D,E⟩:=x7s d Z r t (m:=⟨m.hp,m.next+1+1⟩) (by omega) u (p.frame λ_ _=>rfl) (by rw[<-i];rfl);unfold rq rr;simp[l,A];obtain⟨h,e⟩:∃h,NN=h+1:=⟨NN-1,by have:=dF;omega⟩;rw[e];simp only[MJ];unfold rt;simp[h20'];exact⟨C,by have:m.next+1+1<=g.next:=D;omega,λj w=>by rw[E j w];rfl⟩
def xln(d:Nat)(x y:Int)(m:Mem):aI (aH (d+2)) S9 [I x,I y] m=some (B (decide (x<y)),m):=by
 have a:∀(x:Int) (m:Mem),aI (aH (d+1)) S8 [I x] m=some (B false,m):=λx m=>by refine eZ rfl ?_ m;rw[x7g];unfold pb bW VJ;simp[mem0];exact RetF.st rfl rfl
 refine eZ rfl ?_ m;rw[x7h];unfold pc bA VK;simp[mem0,a];exact RetF.st rfl rfl
def xy6(d:Nat)(Z:FHs)(u:Nat){a:AV}{ok:Id->Prop}(e:AV->AV->AV->AV->Mem->Nat->O2)(h:Int)(D:AV)(Q:O2->Prop){m0:Mem}{LL:Nat}(N:LL<=1000)(h8:0<=h/\h<=1000)(F:List Int)(E:∀m Y,Gk 1 intE ok m a F->(∀j,¬ok j->m.get j=m0.get j)->m.next=m0.next->Q (e a (I 0) D (I (h+1)) m Y)) :
    ∀(j k:Nat) (L:List Int) (m:Mem) (Y:Nat),L.length=LL->j<L.length->j<k->nP (λx y=>decide (x<y)) j L=F->Gk 1 intE ok m a L->(∀i,¬ok i->m.get i=m0.get i)->m.next=m0.next ->
    Q (X6 (aH (d+2)) Z u e k a (I 0) D (I h) (I j) m Y):=by
 intro j;induction j with
 |zero=>intro k L m Y H O P f g l b;obtain⟨k,rfl⟩:∃i,k=i+1:=⟨k-1,by omega⟩;simp only[X6];unfold PV PW;simp(disch:=omega) [bQ];rw[nP]at f;subst f;exact E m _ g l b
 |succ j ih=>
  intro k L m Y H O P f g l b;obtain⟨k,rfl⟩:∃i,k=i+1:=⟨k-1,by omega⟩;obtain⟨q1,R,t,w⟩:=g.at (k:=((j+1:Nat):Int)) (by omega) (by omega);obtain⟨W,A,J,-⟩:=g.at (k:=(j:Int)) (by omega) (by omega);rw[hJ]at t J;have p:((j+1:Nat):Int)-1=(j:Int):=(by omega);have r:(0:Int)<((j+1:Nat):Int):=(by omega);obtain⟨m2,X,K,e3,e4⟩:=w (at0 L j);rw[hJ]at K;obtain⟨p3,j3,-,C⟩:=K.at (k:=(j:Int)) (by omega) (by simp;omega);obtain⟨m3,f1,M,f3,f4⟩:=C (at0 L (j+1));rw[hJ]at M;obtain rfl:p3=W:=(by rw[j3]at A;cases A;rfl);rw[nP]at f;simp only[X6];unfold PV;simp only[gR,dZ,gS,iC,r,bG,bD,iS,aG,R,t,nX];rw[bQ,p];simp only[bD,aG,A,J,xln d,cW,t];by_cases n:at0 L (j+1)<at0 L j
  .rw[aF (by simpa using n)]at f;simp only[n,bG,aT,X,f1];exact ih k _ m3 _ (by simpa using H) (by simp;omega) (by omega) f M (λi o=>by rw[f4 i o,e4 i o];exact l i o) (by rw[f3,e3];exact b)
  .rw[aB (by simpa using n)]at f;subst f;simp only[n,bP,aV];unfold PW;simp(disch:=omega) [bQ];exact E _ _ g l b
def x7r(d:Nat)(Z:FHs){a:AV}{ok:Id->Prop}{L:List Int}{m:Mem}(u:L.length<=1000)(n:Gk 1 intE ok m a L) :
    ∃b,aH (d+3) Z CN [a,I 0,I L.length] m=some (.tup [],b)/\Gk 1 intE ok b a (iE (λx y=>decide (x<y)) (L.length-1) L)/\b.next=m.next+1/\uX ok m b:=by
 rw[x4l];unfold iy fC PU;simp(disch:=omega) [bQ];by_cases D:L.length=0
 .obtain⟨p,l⟩:∃p,NN=p+1:=⟨NN-1,by have:=dF;omega⟩;rw[l];simp only[zW];unfold GL;simp[D];exact⟨n.frame λ_ _=>rfl,λj _=>rfl⟩
 .refine nH (N:=L.length-1) (σ:=Unit) (λj k _ b Y=>zW (aH (d+2)) Z m.next j a (I 0) (I L.length) (I ((k+1:Nat):Int)) b Y)
   (λk _ b=>Gk 1 intE ok b a (iE (λx y=>decide (x<y)) k L)/\b.next=m.next+1/\uX ok m b)
   (λr=>∃b,r=some (.tup [],b)/\Gk 1 intE ok b a (iE (λx y=>decide (x<y)) (L.length-1) L)/\b.next=m.next+1/\uX ok m b) ?_ ?_ NN 0 () _ _ (by omega) (by rw[dF];omega) ⟨n.frame λ_ _=>rfl,rfl,λj _=>rfl⟩
  .rintro j k-e Y F ⟨g,t,h⟩ next;have hk':(((k+1:Nat):Int))<(L.length:Int):=(by omega);simp only[zW];unfold GL sb;simp only[bV,hk',bG,aT,aG];have i:=xeb (λx y=>decide (x<y)) k L;refine xy6 d Z m.next (zW (aH (d+2)) Z m.next j) ((k+1:Nat):Int) (I L.length) (λr=>∃b,r=some (.tup [],b)/\Gk 1 intE ok b a (iE (λx y=>decide (x<y)) (L.length-1) L)/\b.next=m.next+1/\uX ok m b) (m0:=e) (LL:=L.length) u (by omega) (iE (λx y=>decide (x<y)) (k+1) L) (λw f A C E=>?_) (k+1) NN (iE (λx y=>decide (x<y)) k L) e _ i (by omega) (by rw[dF];omega) (EL _ k L).symm g (λ_ _=>rfl) rfl;exact next () w f ⟨A,by omega,λj o=>by rw[C j o,h j o]⟩
  .rintro j-e Y ⟨g,t,h⟩;have hk':¬(((L.length-1+1:Nat):Int))<(L.length:Int):=(by omega);simp only[zW];unfold GL;simp only[bV,hk',bP,aV,aG];exact⟨e,rfl,g,t,h⟩
end Go.Ix
