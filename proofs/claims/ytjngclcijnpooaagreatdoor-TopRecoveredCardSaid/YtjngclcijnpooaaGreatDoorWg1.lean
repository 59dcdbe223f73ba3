import Derived.Test.YtjngclcijnpooaaGreatDoorWg0
import Derived.ProofKit
set_option maxRecDepth 10000
set_option linter.all false
open Go.Proofs.Tryz
namespace Go.Ix
open Go.Proofs
def xo9(d:Nat){x y:Int}(e:0<y)(g:y<=1000000000000)(m:Mem):aI (aG (d+1)) GD [I x,I y] m=some (I (x % y),m):=by
 refine Ans.eR ?_ rfl rfl;unfold Ans;rw[ycq];unfold tg aU YA xai;have f:x.tmod y=if 0<=x\/y ∣ x then x % y else x % y-y:=by have:=Int.tmod_eq_emod (a:=x) (b:=y);rw[this];split<;>omega
 have i:=Int.emod_nonneg x (show y≠0 by omega);have j:=Int.emod_lt_of_pos x e;simp[mem0,aa (show y≠0 by omega)];rw[f];split
 .rename_i h;simp[JI,show ¬(x % y<0) by omega]
 .rename_i h;have:x % y-y<0:=(by omega);simp(disch:=omega) [JI,this]
def yd6{l:List Int}{x:Int}{k:Nat}:at0 (l++[x]) k=if k<l.length then at0 l k else if k=l.length then x else 0:=by
 unfold at0;simp only[fP];by_cases h:k<l.length
 .rw[aF h,n8 h]
 .rw[aB h,Y1 (by omega)];by_cases a:k=l.length
  .rw[aF a,a];simp
  .rw[aB a,HU (by simp;omega)];rfl
def OutIn(k:Int)(a:List Int):Prop:=∀i,-(2048*k)<=at0 a i/\at0 a i<=2048*k
def OutIn.app{k:Nat}{a:List Int}(h:OutIn k a){x:Int}(b:-(2048*((k+1:Nat):Int))<=x)(d:x<=2048*((k+1:Nat):Int)):OutIn ((k+1:Nat):Int) (a++[x]):=by
 intro i;rw[yd6];have:=h i;split
 .omega
 .split<;>omega
def x3x(d:Nat)(Z:FHs){a b:AV}{l k:List Int}(p:Ints a l)(D:Ints b k)(K:l.length=k.length)(L:l.length<=1000000):∀(f e:List Int) (i j:Nat) (m:Mem) (Y:Nat),l.drop i=f->k.drop i=e->f.length<j ->
    ∃t,BB (aG d) Z 0 j a b (I i) m Y=some (B (decide (f=e)),t):=by
 intro f;induction f with
 |nil=>intro e i j m Y h u n;obtain⟨j,rfl⟩:=dD n;have E:=gF.mp h;have w:e=[]:=(by rw[<-u];exact gF.mpr (by omega));have o:¬((i:Int)<(l.length:Int)):=(by omega);simp only[BB];unfold YC;simp[p.len jH,o,xak,w]
 |cons x r J=>
  intro e i j m Y h u n;obtain⟨j,rfl⟩:=dD n;obtain⟨o,C,h⟩:=gB h;have g:i<k.length:=(by omega);have y:e=at0 k i::k.drop (i+1):=(by rw[<-u,gV g,fH g]);have hi':(i:Int)<(l.length:Int):=(by omega);have ix:=p.ix fL o;have A:=D.ix fL g;have F:at0 l i=x:=(by rw[fH o,C]);simp only[BB];unfold YC;simp(disch:=omega) [p.len jH,hi',ix,A,oB,F,y];by_cases c:x=at0 k i
  .obtain⟨t,H⟩:=J _ (i+1) j m (Y+16) h rfl (by simp at n;omega);simp(disch:=omega) [c];exact⟨t,H⟩
  .simp[c]
def xpd(d:Nat){a b:AV}{l k:List Int}(f:Ints a l)(g:Ints b k)(j:l.length<=1000000)(m:Mem):aI (aG (d+1)) GE [a,b] m=some (B (decide (l=k)),m):=by
 refine Ans.eR ?_ (by simp[f.bD,g.bD]) rfl;unfold Ans;rw[ycr];unfold tj aU YB xaj;by_cases i:l.length=k.length
 .obtain⟨n,o⟩:=x3x d [] f g i j l k 0 NN ⟨[],1⟩ 7 rfl rfl (by rw[dB];omega);simp[mem0,f.len jH,g.len jH,i];exact⟨n,o⟩
 .have:¬(l=k):=λe=>i (by rw[e])
  have h:¬((l.length:Int)=(k.length:Int)):=(by omega);simp[mem0,f.len jH,g.len jH,h,this]
def Edge.same(a b:Edge):Bool:=decide (a.fr=b.fr)&&(decide (a.to=b.to)&&(decide (a.jump=b.jump)&&decide (a.wt=b.wt)))
def Edge.same_iff{a b:Edge}:a.same b=true↔a=b:=by cases a;cases b;simp[Edge.same]
def x2m{a:Id->Option Ob}{id:Id}(h:id.2.2=0):jW a id=true:=by unfold jW;rw[h];rfl
def x4s{a:aJ}{id:Id}{h:List AV->Mem->Option Mem}{Z:FHs}{b:Nat}{l:List AV}{m:Mem}(d:id.2.2=0):fD a ((id,h)::Z) b (.yld id) l m=(h l m).map λe=>(B true,e):=by simp[fD,oF,x2m d]
theorem Edge.aP(e:Edge):e.c.all Go.Ix.aP=true:=rfl
def x0y(x y:Operand)(a b:Bool):bP prog .neq xY x y (B a) (B b)=some (B (a != b)):=by cases a<;>cases b<;>kernel_rfl
abbrev Pr:=Int×Int
def Pr.c(x:Pr):List AV:=[I x.1,I x.2]
theorem Pr.len(x:Pr):(Pr.c x).length=2:=rfl
theorem Pr.bD(x:Pr):(Pr.c x).all Go.Ix.aP=true:=rfl
def xez(a b:Int):∀o∈[0,1],bJ prog (part dP #[.int .i64 a,.int .i64 b] o)=some (.int .i64 ([a,b].getD o 0)):=by intro o d;simp only[dV,xN,or_false]at d;rcases d with rfl|rfl<;>kernel_rfl
end Go.Ix
namespace Go.Ix
open Go.Proofs
def Pl.v(p:Pl):Value:=.agg [.int .i64 p.x,.int .i64 p.y].toArray
def Pl.same(p q:Pl):Bool:=decide (p.x=q.x)&&decide (p.y=q.y)
def nY(L:List Pl):List (Value×AV):=L.map λp=>(p.v,B true)
def LB(p q:Pl):gU p.v q.v=p.same q:=by unfold gU Pl.v Pl.same;simp[yK];by_cases h:p.x=q.x<;>by_cases a:p.y=q.y<;>simp[h,a]
def x54(L:List Pl)(p:Pl):findKey p.v (nY L)=if L.any (Pl.same p)=true then some (B true)else none:=by
 induction L with
 |nil=>rfl
 |cons x r a=>
  unfold nY at a ⊢;simp only[eN,findKey,LB,Y4];by_cases Z:p.same x=true
  .simp[Z]
  .have hs':p.same x=false:=(by simpa using Z);rw[aB Z,a];simp[hs']
def xr3(L:List Pl)(p:Pl)(h:L.any (Pl.same p)=false):setKey p.v (B true) (nY L)=nY (L++[p]):=by
 induction L with
 |nil=>rfl
 |cons x r a=>rw[Y4,Bool.or_eq_false_iff]at h;unfold nY at a ⊢;simp only[eN,iO,setKey,LB,h.1,fQ,cU,a h.2]
def x73(p:Pl):(bJ prog (Instr.checkKey true 10000 pJ p.v)).isSome=true:=by kernel_rfl
def x74(p:Pl):(bJ prog (Instr.checkKey false 10000 pJ p.v)).isSome=true:=by kernel_rfl
def x6j(p q:Pl):bJ prog (Op.equal pJ p.v q.v)=some (p.same q):=by
 obtain⟨f,g,t⟩:=p;obtain⟨h,i,u⟩:=q;have o:prog.underlying pJ=some (.array 2 dP):=(by kernel_rfl);have r:bJ prog (sizeOf dP)=some 1:=(by kernel_rfl);have j:=xez f g;have l:=xez h i;have b:=j 0 (by simp);have a:=j 1 (by simp);have d:=l 0 (by simp);have e:=l 1 (by simp);simp only[xlh,List.getD_cons_succ]at b a d e;show bJ prog (Op.equalIn 10000 pJ (.agg #[.int .i64 f,.int .i64 g]) (.agg #[.int .i64 h,.int .i64 i]))=_;rw[show(10000:Nat)=9998+1+1 from rfl,Op.equalIn];simp only[lR,DC o,aC,r];simp only[Std.Legacy.Range.forIn_eq_forIn_range',Std.Legacy.Range.size,Nat.sub_zero,xk5,Nat.div_one,List.range'_succ,List.range'_zero,List.forIn_cons,List.forIn_nil,lR,bW,oN];simp only[b,d,aC,DD _ _ _ _ _ _ BW];unfold Pl.same;by_cases m:f=h
 .subst m;by_cases n:g=i
  .subst n;simp[sK,lR,a,DD _ _ _ _ _ _ BW]
  .simp[sK,lR,a,e,n,DD _ _ _ _ _ _ BW]
 .simp[sK,m]
def xcc:prog.underlying pJ=some (.array 2 dP):=by kernel_rfl
def xcb:prog.underlying BQ=some (.map pJ xY):=by kernel_rfl
def xgy(L:List Pl)(p:Pl):sU prog pJ (.array 2 dP) p.v (nY L)=true:=by
 have d:KQ prog pJ (.array 2 dP) p.v (nY L)=true:=by
  show(gU p.v p.v&&((bJ prog (Instr.checkKey true 10000 pJ p.v)).isSome&&(bJ prog (Instr.checkKey false 10000 pJ p.v)).isSome) &&
   (nY L).all λe=>match e.1,bJ prog (Op.equal pJ p.v e.1)with
    | .agg _,some b=>b == gU p.v e.1
    |_,_=>false)=true
  rw[x73,x74,LB,show p.same p=true by simp[Pl.same]];simp only[iL,gW,dG];intro e a;unfold nY at a;obtain⟨x,-,rfl⟩:=fR.mp a;rw[x6j,LB];show(p.same x == p.same x)=true;simp
 unfold sU;rw[d,tn]
def xmo:K8 prog xY=some (B false):=by kernel_rfl
def x2i{id:Id}{L:List Pl}(p:Pl){m:Mem}(h:m.get id=some (.map (nY L))):yL prog BQ (.mp id) p.k false m=some (B (L.any (Pl.same p))):=by unfold yL;have e:dL p.k=some p.v:=rfl;simp only[xcb,e,xcc,xmo,sQ,h];rw[aF (xgy L p),x54];cases L.any (Pl.same p)<;>rfl
def xp2{R:Type}{id:Id}{L:List Pl}(p:Pl){m:Mem}(h:m.get id=some (.map (nY L)))(a:L.any (Pl.same p)=false)(k:Mem->Option R):uG prog BQ (.mp id) p.k (B true) m k=k (m.set id (.map (nY (L++[p])))):=by unfold uG;have e:dL p.k=some p.v:=rfl;simp only[xcb,e,xcc,h];rw[aF (xgy L p),xr3 L p a]
def pl0:Pl:=⟨0,0,0⟩
def gP(l:List Pl)(k:Nat):Pl:=l.getD k pl0
def zM{l:List Pl}{k:Nat}(h:k<l.length):gP l k=l[k]:=by simp[gP,h]
def B0(l:List Pl)(k:Nat):Pl×Pl:=(gP l k,gP l ((k+1) % l.length))
def nU(l:List Pl):List (Pl×Pl):=(List.range l.length).map (B0 l)
def ZU(l:List Pl):(nU l).length=l.length:=by simp[nU]
def KK:prog.underlying pI=some (.slice tT):=by kernel_rfl
def L8:prog.underlying w6=some (.slice KB):=by kernel_rfl
def YM:vL=[I 0,I 0,I 0]:=by kernel_rfl
def xnj:JR=[I 0,I 0]:=by kernel_rfl
def BJ:rX=[I 0,I 0,I 0,I 0]:=by kernel_rfl
def ydf(x y:Int):dA JR [(0,1,I x),(1,1,I y)]=some (.agg [I x,I y]):=by rw[xnj];simp[dA,iM,cH]
def yde(a b c d:Int):dA rX [(0,2,.agg [I a,I b]),(2,2,.agg [I c,I d])]=some (.agg [I a,I b,I c,I d]):=by rw[BJ];simp[dA,iM,cH]
def x1s{R:Type}{a b c d:Int}{id:Id}{m:Mem}{k:AV->Mem->Option R}:cV rX [(0,4,.agg [I a,I b,I c,I d])] 1 4 id m k=k (.aN [I a,I b,I c,I d] 1 true) m:=by rw[BJ];simp[cV,iM,eQ,rU,cH]
def uN{u s t:Nat}{m:Mem}{z cs:List AV}{n:Nat}(a:z.length=n)(b:cs.length=n)(e:cs.all AV.one=true):∃M:Mem,(∀{R:Type} (K:Mem->Option R),bA n (.ptr (u,s,t) 0 0) (.agg cs) (m.new (u,s,t) (.row z 0 false)) K=K M)/\M.get (u,s,t)=some (.row cs 0 false)/\M.next=m.next/\∀j:Id,¬(j.1=u/\j.2.2=t)->M.get j=m.get j:=by
 refine⟨(m.new (u,s,t) (.row z 0 false)).set (u,s,t) (.row cs 0 false),λK=>?_,Mem.uY _ _ _,rfl,λj d=>?_⟩
 .rw[iB (off:=0) (z:=n) (x:=.agg cs) (k:=K) (Mem.lF _ _ _) b (by rw[a];omega) e];congr 3;simp[cH,a,b]
 .rw[Mem.bG,aB (by rintro rfl;exact d ⟨rfl,rfl⟩),Mem.dI,aB (by rintro rfl;exact d ⟨rfl,rfl⟩)]
def br:Id->Prop:=λid=>id.1=0/\id.2.2=45
def x21(o:aJ)(Z:FHs){a:AV}{l:List Pl}(h:Sl Pl.c a l)(hl:l.length<=1000)(r:∀p∈l,kB p):∀(n k j:Nat) (v:AV) (m:Mem) (Y:Nat),k+n=l.length->n<j->Gk 4 fF br m v ((List.range k).map (B0 l)) ->
    ∃w Q,AX o Z 0 j a (I 1) v a (I l.length) (I k) m Y=some (w,Q)/\Gk 4 fF br Q w (nU l):=by
 intro n;induction n with
 |zero=>intro k j v m Y hk F H;obtain⟨j,rfl⟩:∃i,j=i+1:=⟨j-1,by omega⟩;obtain rfl:k=l.length:=(by omega);refine⟨v,m,?_,H⟩;simp only[AX];unfold XI J';simp
 |succ n ih=>
  intro k j v m Y hk F H;obtain⟨j,rfl⟩:∃i,j=i+1:=⟨j-1,by omega⟩;have f:k<l.length:=(by omega);have g:(k+1) % l.length<l.length:=xK _ (by omega);have hk':(k:Int)<(l.length:Int):=(by omega);have J:=h.ix Pl.len f;have K:=h.ix Pl.len g;have C:=λm=>iH (m:=m) Pl.len (by omega) f
  have D:=λm=>iH (m:=m) Pl.len (by omega) g
  rw[<-zM f]at C;rw[<-zM g]at D;have L:=r (gP l k) (by rw[zM f];exact eU f);have N:=r (gP l ((k+1) % l.length)) (by rw[zM g];exact eU g);obtain⟨M1,s1,g1,n1,f1⟩:=uN (u:=0) (s:=Y+4) (t:=7) (m:=m) (z:=vL) (cs:=(gP l k).c) (n:=3) (by rw[YM];rfl) rfl rfl;obtain⟨E,s2,g2,n2,W⟩:=uN (u:=0) (s:=Y+15) (t:=8) (m:=M1) (z:=vL) (cs:=(gP l ((k+1) % l.length)).c) (n:=3) (by rw[YM];rfl) rfl rfl;have g1':E.get (0,Y+4,7)=some (.row [I (gP l k).x,I (gP l k).y,I (gP l k).z] 0 false):=(by rw[W _ (by simp)];exact g1);have g2':E.get (0,Y+15,8)=some (.row [I (gP l ((k+1) % l.length)).x,I (gP l ((k+1) % l.length)).y,I (gP l ((k+1) % l.length)).z] 0 false):=g2;have G2:Gk 4 fF br E v ((List.range k).map (B0 l)):=H.frame λj F=>by have h45:=F.2;rw[W j (by omega),f1 j (by omega)]
  obtain⟨w,X,A,G3,-,-,n3,f3⟩:=G2.app sD (by omega) (bytes:=32) (id0:=(0,Y+38,45)) ⟨rfl,rfl⟩ (by unfold cF;simp;omega) (B0 l k);have e:(List.range k).map (B0 l)++[B0 l k]=(List.range (k+1)).map (B0 l):=(by rw[rU,nN];rfl);rw[e]at G3;obtain⟨v2,m4,r4,G4⟩:=ih (k+1) j w X (Y+42) (by omega) (by omega) G3;refine⟨v2,m4,?_,G4⟩;rw[<-r4];obtain⟨a1,a2⟩:=L;obtain⟨b1,b2⟩:=N;have q1:cJ (1*(gP l k).x)=(gP l k).x:=(by rw[jx,bU]);have q2:cJ (1*(gP l k).y)=(gP l k).y:=(by rw[jx,bU]);have q3:cJ (1*(gP l ((k+1) % l.length)).x)=(gP l ((k+1) % l.length)).x:=(by rw[jx,bU]);have q4:cJ (1*(gP l ((k+1) % l.length)).y)=(gP l ((k+1) % l.length)).y:=(by rw[jx,bU]);have hw:=gJ k (by omega);have hr:vU (I ((k+1:Nat):Int)) (I (l.length:Int))=some (I (((k+1) % l.length:Nat):Int)):=(by rw[aa (by omega)];congr 2);have O:∀(M:Mem) (a b c d:Int),elems M.get 4 (.aN [I a,I b,I c,I d] 1 true)=some ([I a,I b,I c,I d],1):=λ_ _ _ _ _=>rfl
  have A':∀{R:Type} (P:AV->Mem->Option R),cK 4 32 (0,Y+38,45) (some ([I (gP l k).x,I (gP l k).y,I (gP l ((k+1) % l.length)).x,I (gP l ((k+1) % l.length)).y],1)) v E P=P w X:=A;simp only[AX];unfold XI;simp only[bV,hk',bB,aC,aS,J,C,lQ,s1,dS,hw,h.len KK,hr,K,D,s2,cW,aQ g1',aQ g2',bW,dE,bF,dR,LD,q1,q2,q3,q4,ydf,yde,x1s,O,A']
def xbh(d:Nat){a:AV}{l:List Pl}(h:Sl Pl.c a l)(i:l.length<=1000)(b:∀p∈l,kB p)(m:Mem):∃s,Sl fF s (nU l)/\aI (aG (d+1)) F0 [a,I 1] m=some (s,m):=by have e:RetF (λs=>Sl fF s (nU l)) (aG (d+1) [] F0 [a,I 1] mem0):=(by rw[yce];unfold sn aU XH I';obtain⟨v,j,r,G⟩:=x21 (aG d) [] h i b l.length 0 NN nilS ⟨[],1⟩ (0+2+3) (by omega) (by rw[dB];omega) Gk.nil;simp only[mem0,h.len KK,aC];rw[show I ((0:Nat):Int)=I 0 from rfl]at r;rw[r];obtain⟨n,f,g⟩:=G.frz (k:=4) sD xr7;exact RetF.mk g f);obtain⟨s,f,g⟩:=rS (by simp[h.bD]) e m;exact⟨s,f,g⟩
def zU(S:List (Pl×Pl))(i k:Nat):Bool:=
 let s:=S.getD i (pl0,pl0);let o:=S.getD k (pl0,pl0)
 if i=k+1 then mB s.1 s.2 o.1||mB o.1 o.2 s.2
 else if k=0/\i+1=S.length then mB s.1 s.2 o.2||mB o.1 o.2 s.1
 else cj s.1 s.2 o.1 o.2
def zV(S:List (Pl×Pl)):Bool:=(List.range S.length).any λi=>(List.range i).any (zU S i)
def BC(s:Pl×Pl):Prop:=kB s.1/\kB s.2
def x4z:∃i,prog.info? KB=some i/\i.size=4:=by have:((prog.info? KB).map λi=>i.size)=some 4:=(by kernel_rfl);rw[cM]at this;exact this
def xrp{a:AV}{l:List (Pl×Pl)}(h:Sl fF a l){k:Nat}(d:k<=l.length)(e:l≠[]):∃b,Sl fF b (l.take k)/\dZ prog w6 a none (some (I k))=some b:=by
 rcases h with ⟨_,rfl⟩|⟨x,rfl⟩
 .exact absurd rfl e
 obtain⟨i,n,Z⟩:=x4z;have p:=fN sD l;refine⟨.aN ((l.take k).flatMap fF) (l.take k).length (x&&decide ((k:Int)=(l.length:Int))),Sl.lit _ _,?_⟩;have f:dL (.aN (l.flatMap fF) l.length x)=none:=_root_.id rfl;have g:dF (I (k:Int))=some (k:Int):=rfl;have j:dF (I 0)=some 0:=rfl;unfold dZ;simp only[f,L8,n,Option.getD_some,Option.getD_none,g,j,Z,Int.sub_zero,jF,Int.toNat_zero,xI,bF];rw[aF ⟨by omega,by omega,by omega,by omega⟩,lV,iz d];have m:∀(l:List (Pl×Pl)) (k:Nat),(l.flatMap fF).take (k*4)=(l.take k).flatMap fF:=by
  intro l;induction l with
  |nil=>intro k;simp
  |cons x r o=>
   intro k;cases k with
   |zero=>simp
   |succ k=>rw[dK,jR,dK,lU,ja,<-sD x,HM,sD,o]
 rw[m]
def x3o(d:Nat)(Z:FHs){sv f:AV}{S:List (Pl×Pl)}(h:Sl fF sv S)(hS:S.length<=1000)(l:∀s∈S,BC s)(a:cB){i:Nat}(W:i<S.length)(N:Sl fF f (S.take i)){id9:Id}(h9:id9.1=0/\id9.2.2=9)(Q:O2->Prop)(o:∀m:Mem,(List.range i).any (zU S i)=true->Q (some (I 13,m)))(O:∀(m:Mem) (Y:Nat),(List.range i).any (zU S i)=false->Q (a sv sv (I S.length) (I (i+1:Nat)) m Y)) :
    ∀(n k j:Nat) (m:Mem) (Y:Nat),k+n=i->n<j->m.get id9=some (.row (fF S[i]) 0 false)->(∀q,q<k->zU S i q=false) ->
    Q (J6 (aG (d+4)) Z 0 a j sv (I i) (.ptr id9 0 0) sv (I S.length) (I i) f (I i) (I k) m Y):=by
 have hlen:(S.take i).length=i:=(by simp;omega);intro n;induction n with
 |zero=>intro k j m Y hk hj X P;obtain⟨j,rfl⟩:∃i,j=i+1:=⟨j-1,by omega⟩;obtain rfl:k=i:=(by omega);have E:=gJ k (by omega);simp only[J6];unfold XU xag;simp only[bV,Int.lt_irrefl,bO,aC,aT,dS,E];refine O m _ ?_;rw[HX];intro q p;rw[P q (iY.mp p)];simp
 |succ n ih=>
  intro k j m Y hk hj X P;obtain⟨j,rfl⟩:∃i,j=i+1:=⟨j-1,by omega⟩;have R:k<i:=(by omega);have hk':(k:Int)<(i:Int):=(by omega);have r:k<S.length:=(by omega);have w:k<(S.take i).length:=(by omega);have ix:=N.ix sD w;have ld:=λm=>iH (m:=m) sD (by omega) w
  have et:(S.take i)[k]=S[k]:=(by simp);rw[et]at ld;obtain⟨M,s1,g1,n1,f1⟩:=uN (u:=0) (s:=Y+1+3) (t:=11) (m:=m) (z:=rX) (cs:=fF S[k]) (n:=4) (by rw[BJ];rfl) rfl rfl;have hM:M.get id9=some (.row (fF S[i]) 0 false):=(by rw[f1 id9 (by omega)];exact X);obtain⟨H,J⟩:=l S[i] (eU W);obtain⟨K,L⟩:=l S[k] (eU r);have E:=gJ k (by omega);have A:cJ ((S.length:Int)-1)=(S.length:Int)-1:=bU;have gi:S.getD i (pl0,pl0)=S[i]:=(by simp[W]);have gk:S.getD k (pl0,pl0)=S[k]:=(by simp[r]);have stop:∀Y,Q (BI (aG (d+4)) Z 0 a (J6 (aG (d+4)) Z 0 a j) sv (I i) (.ptr id9 0 0) (B (zU S i k)) sv (I S.length) (I i) f (I i) (I k) M Y):=λY=>by
   unfold BI;cases hc:zU S i k with
   |true=>simp only[aS];exact o M (I3.mpr ⟨k,iY.mpr R,hc⟩)
   |false=>
    simp only[aT];unfold xae;simp only[dS,E,aC];refine ih (k+1) j M _ (by omega) (by omega) hM λq p=>?_
    by_cases e:q=k
    .subst e;exact hc
    .exact P q (by omega)
  unfold zU at stop;simp only[gi,gk]at stop;have hM':M.get id9=some (.row [I S[i].1.x,I S[i].1.y,I S[i].2.x,I S[i].2.y] 0 false):=hM;have g1':M.get (0,Y+1+3,11)=some (.row [I S[k].1.x,I S[k].1.y,I S[k].2.x,I S[k].2.y] 0 false):=g1;simp only[J6];unfold XU xac;simp only[bV,hk',bB,aC,aS,ix,ld,lQ,s1];unfold xad;simp only[dS,E,aC,iD];by_cases c1:i=k+1
  .have c1':((i:Int)=((k+1:Nat):Int)):=(by omega);rw[aF c1]at stop;have b:=vN (d+1) H J K;have C:=vN (d+1) K L J;simp only[Pl.k,fF]at b C;have d1:decide ((i:Int)=((k+1:Nat):Int))=true:=eX c1';simp only[d1,aS,aQ hM',aQ g1',cW,bW,bF,rd,cI,dW,jA,jR,kF,bS,show(2:Nat)<=4 from by decide,aC,b];cases D:mB S[i].1 S[i].2 S[k].1
   .simp only[dO,fI,dQ,cC,bC,aQ hM',bW,bF,dR,rd,cI,dW,jA,jR,kF,bS,aC,C,cS,cT];rw[D,IB]at stop;exact stop _
   .simp only[dO,fI,dQ,cE,cT,aC,cS,bC];rw[D,PC]at stop;exact stop _
  .have c1':¬((i:Int)=((k+1:Nat):Int)):=(by omega);rw[aB c1]at stop;simp only[c1',bO,aT];by_cases c2:k=0/\i+1=S.length
   .rw[aF c2]at stop;have g:((k:Int)=0):=(by omega);have F:((i:Int)=(S.length:Int)-1):=(by omega);have b:=vN (d+1) H J L;have C:=vN (d+1) K L H;simp only[Pl.k,fF]at b C;simp only[g,bB,fA,dO,fI,iC,bC,aC,h.len L8,mZ,A,iD,F,cS,aS,aQ hM',aQ g1',cW,bW,bF,dR,rd,cI,dW,jA,jR,kF,bS,b];rw[g]at stop;rw[F]at stop;cases D:mB S[i].1 S[i].2 S[k].2
    .simp only[dQ,cC,bC,aQ hM',bW,bF,rd,cI,dW,jA,jR,kF,aC,C,cT,show(2:Nat)<=4 from by decide];rw[D,IB]at stop;exact stop _
    .simp only[dQ,cE,cT,aC,bC];rw[D,PC]at stop;exact stop _
   .rw[aB c2]at stop;have b:=xoc d H J K L;simp only[fF]at b;by_cases g:(k:Int)=0
    .have F:¬((i:Int)=(S.length:Int)-1):=(by omega);simp only[g,bB,fA,dO,fI,iC,bC,aC,h.len L8,mZ,A,iD,F,bO,cS,aT,aQ hM',aQ g1',bW,bF,rd,cI,dW,jA,jR,kF,bS,b];rw[g]at stop;exact stop _
    .simp only[g,bO,fA,dO,fI,iC,cT,aC,cS,aT,aQ hM',aQ g1',bW,bF,rd,cI,dW,jA,jR,kF,bS,b];exact stop _
def x3p(d:Nat)(Z:FHs){sv:AV}{S:List (Pl×Pl)}(h:Sl fF sv S)(A:S.length<=1000)(p:∀s∈S,BC s):∀(n i j:Nat) (m:Mem) (Y:Nat),i+n=S.length->n<j->(∀q,q<i->(List.range q).any (zU S q)=false) ->
    ∃a,J7 (aG (d+4)) Z 0 j sv sv (I S.length) (I i) m Y=some (I (if zV S=true then 13 else 0),a):=by
 intro n;induction n with
 |zero=>intro i j m Y E F l;obtain⟨j,rfl⟩:∃i,j=i+1:=⟨j-1,by omega⟩;obtain rfl:i=S.length:=(by omega);have e:zV S=false:=(by unfold zV;rw[HX];intro q b;rw[l q (iY.mp b)];simp);simp only[J7];unfold XT xah;simp only[bV,Int.lt_irrefl,bO,aC,aT,e];exact⟨m,rfl⟩
 |succ n L=>
  intro i j m Y E F l;obtain⟨j,rfl⟩:∃i,j=i+1:=⟨j-1,by omega⟩;have o:i<S.length:=(by omega);have hi':(i:Int)<(S.length:Int):=(by omega);have ix:=h.ix sD o;have ld:=λm=>iH (m:=m) sD (by omega) o
  obtain⟨H,g,x⟩:=xrp h (k:=i) (by omega) (List.ne_nil_of_length_pos (by omega));have f:(S.take i).length=i:=(by simp;omega);obtain⟨M,J,K,N,O⟩:=uN (u:=0) (s:=Y+1+3) (t:=9) (m:=m) (z:=rX) (cs:=fF S[i]) (n:=4) (by rw[BJ];rfl) rfl rfl;simp only[J7];unfold XT xab;have y:=g.len L8;rw[f]at y;simp only[bV,hi',bB,aC,aS,ix,ld,lQ,J,x,y];refine x3o d Z h A p (J7 (aG (d+4)) Z 0 j) o g (id9:=(0,Y+1+3,9)) ⟨rfl,rfl⟩ (λr=>∃a,r=some (I (if zV S=true then 13 else 0),a)) (λa C=>?_) (λa w D=>?_) i 0 NN M _ (by omega) (by rw[dB];omega) K (λq l=>by omega)
  .have e:zV S=true:=I3.mpr ⟨i,iY.mpr o,C⟩;rw[aF e];exact⟨a,rfl⟩
  .refine L (i+1) j a w (by omega) (by omega) λq b=>?_
   by_cases e:q=i
   .subst e;exact D
   .exact l q (by omega)
def oH(l:List Pl):Nat->List Pl->Int
 |_,[]=>0
 |k,p::r=>if isPl p=true then(if(l.take k).any (Pl.same p)=true then 28 else oH l (k+1) r)else 2
theorem x7n(l:List Pl)(k:Nat)(p:Pl)(r:List Pl):oH l k (p::r)=if isPl p=true then(if(l.take k).any (Pl.same p)=true then 28 else oH l (k+1) r)else 2:=rfl
def NC(l:List Pl):∀(a:List Pl) (k:Nat),oH l k a=0->∀p∈a,isPl p=true
 |[],_,_=>λp b=>by cases b
 |x::r,k,h=>by
  unfold oH at h;split at h
  .rename_i d;split at h
   .cases h
   .intro p b;rcases dV.mp b with rfl|b
    .exact d
    .exact NC l r (k+1) h p b
  .cases h
def polyE(l:List Pl):Int:=if l.length<3 then 10 else if 20<l.length then 8 else if oH l 0 l=0 then(if zV (nU l)=true then 13 else 0)else oH l 0 l
def x3l(d:Nat)(Z:FHs){a:AV}{l:List Pl}(h:Sl Pl.c a l)(P:l.length<=1000){id3:Id}(H:¬(id3.1=0/\id3.2.2=5))(Q:O2->Prop)(f:∀(m:Mem),oH l 0 l≠0->Q (some (I (oH l 0 l),m)))(w:∀(m:Mem) (Y:Nat),oH l 0 l=0->Q (XX (aG (d+3)) Z 0 a m Y)) :
    ∀(e:List Pl) (k j:Nat) (m:Mem) (Y:Nat),l.drop k=e->e.length<j->oH l 0 l=oH l k e->m.get id3=some (.map (nY (l.take k))) ->
    Q (AZ (aG (d+3)) Z 0 j a (.mp id3) a (I l.length) (I k) m Y):=by
 intro e;induction e with
 |nil=>intro k j m Y x o b D;obtain⟨j,rfl⟩:=dD o;have g:¬((k:Int)<(l.length:Int)):=(by have:=gF.mp x;omega);simp only[AZ];unfold XW;simp only[bV,g,bO,aC,aT];exact w m _ (by rw[b];rfl)
 |cons p r O=>
  intro k j m Y x o b D;obtain⟨j,rfl⟩:=dD o;obtain⟨g,F,A⟩:=gB x;have hk':(k:Int)<(l.length:Int):=(by omega);have ix:=h.ix Pl.len g;have ld:=λm=>iH (m:=m) Pl.len (by omega) g
  rw[F]at ld;obtain⟨M,K,L,R,N⟩:=uN (u:=0) (s:=Y+3) (t:=5) (m:=m) (z:=vL) (cs:=p.c) (n:=3) (by rw[YM];rfl) rfl rfl;have E:M.get id3=some (.map (nY (l.take k))):=(by rw[N id3 H];exact D);have i:aA true 3 (.ptr (0,Y+3,5) 0 0) M=some (.agg p.c):=(by rw[aQ L];rfl);have J:=gJ k (by omega);simp only[AZ];unfold XW;simp only[bV,hk',bB,aC,aS,ix,ld,lQ,K,i,xbu d p,fS];rw[x7n]at b;by_cases c:isPl p=true
  .rw[aF c]at b;simp only[c,cI,bB,cE,aT,i,xbs (d+2) p,aC,x2i p E];cases C:(l.take k).any (Pl.same p)
   .rw[C,aB (by simp)]at b;have y:l.take k++[p]=l.take (k+1):=(by rw[mS g,F]);simp only[aT,aC,xp2 p E C,dS,J];refine O (k+1) j _ _ A (by simp at o;omega) b ?_;rw[Mem.uY,y]
   .rw[C,aF rfl]at b;simp only[aS];have:=f M (by rw[b];decide);rw[b]at this;exact this
  .rw[aB c]at b;have:=f M (by rw[b];decide);rw[b]at this;simp only[c,cU,show(!decide ((2:Int)=0))=true from rfl,aS,fQ];exact this
def xb1(d:Nat){a:AV}{l:List Pl}(h:Sl Pl.c a l)(m:Mem)(w:l.length<=9000000000000000000):aI (aG (d+5)) U1 [a] m=some (I (polyE l),m):=by
 refine eY (by simp[h.bD]) ?_ m;rw[ycn];unfold tc bQ XV polyE;simp only[mem0,h.len KK,aC,bV];by_cases c:l.length<3
 .simp only[show((l.length:Int)<3) by omega,bB,aS,c,cI];exact RetF.st rfl rfl
 simp only[show ¬((l.length:Int)<3) by omega,bO,aT,c,cU,aC,fT];by_cases o:20<l.length
 .simp only[show((20:Int)<(l.length:Int)) by omega,bB,aS,o,cI];exact RetF.st rfl rfl
 simp only[show ¬((20:Int)<(l.length:Int)) by omega,bO,aT,o,cU];unfold CP xaf;simp only[h.len KK,aC];refine x3l (d+1) [] h (by omega) (id3:=(0,0+9,21)) (by simp) (λr=>RetF (λv=>v=I (if oH l 0 l=0 then(if zV (nU l)=true then 13 else 0)else oH l 0 l)) r) (λm g=>?_) (λm Y g=>?_) l 0 NN _ _ rfl (by rw[dB];omega) rfl (by simp[nY])
 .rw[aB g];exact RetF.st rfl rfl
 .rw[aF g];have j:=NC l l 0 g;have b:∀p∈l,kB p:=λp t=>GO (j p t)
  obtain⟨s,f,n⟩:=xbh (d+3) h (by omega) b m;have u:∀s∈nU l,BC s:=λs Z=>by
   unfold nU at Z;obtain⟨k,i,rfl⟩:=fR.mp Z;have i:=iY.mp i;have e:(k+1) % l.length<l.length:=xK _ (by omega);refine⟨?_,?_⟩
   .show kB (gP l k);rw[zM i];exact b _ (eU i)
   .show kB (gP l ((k+1) % l.length));rw[zM e];exact b _ (eU e)
  unfold XX xaa;simp only[n,aC,f.len L8];obtain⟨y,r⟩:=x3p d [] f (by rw[ZU];omega) u (nU l).length 0 NN m (Y+3+3) (by omega) (by rw[dB,ZU];omega) (λq x=>by omega);rw[show I ((0:Nat):Int)=I 0 from rfl]at r;rw[r];exact RetF.st rfl rfl
def zJ(S:List (Pl×Pl))(p:Pl):Bool->List (Pl×Pl)->Bool
 |t,[]=>t
 |t,s::r=>if mB s.1 s.2 p=true then true else zJ S p (if xeg s.1 s.2 p=true then !t else t) r
def x3d(d:Nat)(Z:FHs){sv:AV}{S:List (Pl×Pl)}(h:Sl fF sv S)(hS:S.length<=1000)(E:∀s∈S,BC s){p:Pl}(L:kB p){id3:Id}(h3:¬(id3.1=0/\id3.2.2=7)):∀(a:List (Pl×Pl)) (k j:Nat) (t:Bool) (m:Mem) (Y:Nat),S.drop k=a->a.length<j->m.get id3=some (.row [I p.x,I p.y] 0 false) ->
    ∃i,xS (aG (d+3)) Z 0 j (.ptr id3 0 0) (B t) sv (I S.length) (I k) m Y=some (B (zJ S p t a),i):=by
 intro a;induction a with
 |nil=>intro k j t m Y F A N;obtain⟨j,rfl⟩:=dD A;have l:¬((k:Int)<(S.length:Int)):=(by have:=gF.mp F;omega);simp only[xS];unfold XN S';simp only[bV,l,bO,aC,aT,zJ];exact⟨m,rfl⟩
 |cons s r ih=>
  intro k j t m Y F A N;obtain⟨j,rfl⟩:=dD A;obtain⟨l,R,K⟩:=gB F;have hk':(k:Int)<(S.length:Int):=(by omega);have ix:=h.ix sD l;have ld:=λm=>iH (m:=m) sD (by omega) l
  rw[R]at ld;obtain⟨W,X⟩:=E s (R▸eU l);obtain⟨M,s1,g1,n1,f1⟩:=uN (u:=0) (s:=Y+1+2) (t:=7) (m:=m) (z:=rX) (cs:=fF s) (n:=4) (by rw[BJ];rfl) rfl rfl;have C:M.get id3=some (.row [I p.x,I p.y] 0 false):=(by rw[f1 id3 h3];exact N);have g1':M.get (0,Y+1+2,7)=some (.row [I s.1.x,I s.1.y,I s.2.x,I s.2.y] 0 false):=g1;have O:=vN d W X L;have P:=L3 (d+1) W X L;simp only[Pl.k,fF]at O P;have hw:=gJ k (by omega);have next:∀(w:Bool) (Y:Nat),∃i,BH (aG (d+3)) Z 0 (xS (aG (d+3)) Z 0 j) (.ptr id3 0 0) (B w) sv (I S.length) (I k) M Y=some (B (zJ S p w r),i):=λw Y=>by unfold BH;simp only[dS,hw,aC];exact ih (k+1) j w M _ K (by simp at A;omega) C
  simp only[xS];unfold XN N';simp only[bV,hk',bB,aC,aS,ix,ld,lQ,s1,aQ C,aQ g1',bW,bF,rd,cI,dW,jA,jR,kF,bS,O];unfold zJ;cases c:mB s.1 s.2 p
  .simp only[aT,fQ,cU,cW,aC,bW];have Q:∀id e f,uH 2 1 (.ptr id e f) (I 1)=some (.ptr id e (f+1)):=λid e f=>by simp[uH,dF]
   simp only[Q,aC,bW,aQ C,aQ g1',bF,dR,rd,fQ,cU,List.head?_cons,fT,x0y];unfold O' xeg;by_cases D:decide (p.y<s.1.y)=decide (p.y<s.2.y)
   .have H:(decide (p.y<s.1.y) != decide (p.y<s.2.y))=false:=(by rw[D];simp);have J:¬(decide (s.1.y > p.y)≠decide (s.2.y > p.y)):=λhn=>hn D
    rw[H];simp only[aT];unfold P';rw[fU J];simp only[qM,fQ,cU];exact next t _
   .have H:(decide (p.y<s.1.y) != decide (p.y<s.2.y))=true:=(by simpa using D);have J:(decide (s.1.y > p.y)≠decide (s.2.y > p.y)):=D;rw[H,eX J];simp only[aS,gW];unfold Q' R';simp only[cW,Q,aC,bW,aQ g1',bF,dR,rd,fQ,cU,List.head?_cons,bV];have b:∀(up:Int) (g:Nat),∃i,JG (aG (d+3)) Z 0 (xS (aG (d+3)) Z 0 j) (.ptr id3 0 0) (B t) (.ptr (0,Y+1+2,7) 0 0) (I up) sv (I S.length) (I k) M g=some (B (zJ S p (if decide (pK s.1 s.2 p=up)=true then !t else t) r),i):=λup g=>by
     unfold JG;simp only[aQ C,aQ g1',bW,bF,rd,cI,dW,jA,jR,kF,bS,aC,P,iD];by_cases o:pK s.1 s.2 p=up
     .simp only[o,bB,aS,eG,aC,cI];exact next _ _
     .simp only[o,bO,aT,fQ,cU];exact next _ _
    by_cases o:s.2.y<s.1.y
    .simp only[o,bB,aS,cI];exact b (-1) _
    .simp only[o,bO,aT,cU];exact b 1 _
  .simp only[aS,cI];exact⟨M,rfl⟩
def MM(l:List Pl)(p:Pl):Bool:=zJ (nU l) p false (nU l)
def x3e(a:aJ)(Z:FHs)(u:Nat)(x y:Int)(m:Mem)(Y:Nat):HY a Z u NN (.aN [I x,I y] 2 true) (I 2) (I 0) m Y=some (I (if x≠0 then x else if y≠0 then y else 0),m):=by
 obtain⟨k,l⟩:∃k,NN=k+3:=⟨NN-3,by have:=dB;omega⟩;rw[l];simp only[HY];unfold U' V';have b:aV 1 (.aN [I x,I y] 2 true) (I 0)=some (.aH [I x,I y]):=rfl;have f:aV 1 (.aN [I x,I y] 2 true) (I 1)=some (.aH [I y]):=rfl;have g:cJ ((0:Int)+1)=1:=rfl;have i:cJ ((1:Int)+1)=2:=rfl;have d:((0:Int)<2):=(by decide);have h:((1:Int)<2):=(by decide);have j:¬((2:Int)<2):=(by decide);by_cases c:x=0
 .subst c;by_cases e:y=0
  .subst e;simp only[bV,d,h,j,bB,bO,aC,aS,aT,b,f,B3,dE,fS,bB,cE,dS,g,i];rfl
  .simp only[bV,d,h,bB,aC,aS,aT,b,f,B3,dE,fS,e,bB,bO,cE,cC,dS,g];simp[e]
 .simp only[bV,d,bB,aC,aS,b,B3,dE,fS,c,bO,cC];simp[c]
def xer{l:List Pl}(h:polyE l=0):l.length<=20/\3<=l.length/\oH l 0 l=0/\zV (nU l)=false:=by
 unfold polyE at h;split at h
 .cases h
 .split at h
  .cases h
  .split at h
   .rename_i a;split at h
    .cases h
    .rename_i b;exact⟨by omega,by omega,a,by simpa using b⟩
   .rename_i a;exact absurd h a
def xrq{l:List Pl}(h:polyE l=0):∀s∈nU l,BC s:=by
 obtain⟨f,g,e,-⟩:=xer h;have a:=NC l l 0 e;intro s Z;unfold nU at Z;obtain⟨k,d,rfl⟩:=fR.mp Z;have d:=iY.mp d;have b:(k+1) % l.length<l.length:=xK _ (by omega);refine⟨?_,?_⟩
 .show kB (gP l k);rw[zM d];exact GO (a _ (eU d))
 .show kB (gP l ((k+1) % l.length));rw[zM b];exact GO (a _ (eU b))
def ch{R:Type}{x y:Int}{id:Id}{m:Mem}{k:AV->Mem->Option R}:cV qP [(0,1,I x),(1,1,I y)] 2 1 id m k=k (.aN [I x,I y] 2 true) m:=by rw[show qP=[I 0] by kernel_rfl];simp[cV,iM,eQ,rU,cH]
def xp9:prog.underlying BP=some (.slice xbd):=by kernel_rfl
def xoi(d:Nat)(x y:Int)(m:Mem):aI (aG (d+1)) FZ [.aN [I x,I y] 2 true] m=some (I (if x≠0 then x else if y≠0 then y else 0),m):=by refine eY rfl ?_ m;rw[ycj];unfold su bQ XO T';have a:aM prog BP (.aN [I x,I y] 2 true)=some (I 2):=rfl;simp only[mem0,a,aC];rw[x3e];exact RetF.st rfl rfl
def xog(d:Nat){sv:AV}{S:List (Pl×Pl)}(h:Sl fF sv S)(b:S.length<=1000)(a:∀s∈S,BC s){p:Pl}(e:kB p)(m:Mem):aI (aG (d+4)) FY [sv,p.k] m=some (B (zJ S p false S),m):=by refine eY (by simp[h.bD,Pl.k]) ?_ m;rw[yci];unfold ss aU;show RetF _ (JH _ _ _ _ _ _ _);unfold JH M';simp only[Pl.k,mem0,iE,nH,dY,nP,vZ,iL,bC,h.len L8,aC];obtain⟨f,r⟩:=x3d d [] h b a e (id3:=(0,0,3)) (by simp) S 0 NN false ((⟨[],1⟩:Mem).new (0,0,3) (.row [I p.x,I p.y] 0 false)) 6 rfl (by rw[dB];omega) (Mem.lF _ _ _);rw[show I ((0:Nat):Int)=I 0 from rfl]at r;show RetF _ (xS (aG (d+3)) [] 0 NN (AV.ptr (0,0,3) 0 0) (B false) sv (I S.length) (I 0) ((⟨[],1⟩:Mem).new (0,0,3) (.row [I p.x,I p.y] 0 false)) 6);rw[r];exact RetF.st rfl rfl
def xpe(d:Nat){a:AV}{l:List Pl}(h:Sl Pl.c a l)(f:polyE l=0){p:Pl}(r:isPl p=true)(m:Mem):aI (aG (d+6)) GC [a,.agg p.c] m=some (.tup [B (MM l p),I 0],m):=by
 obtain⟨F,H,E,-⟩:=xer f;have b:∀q∈l,kB q:=λq w=>GO (NC l l 0 E q w)
 refine eY (by simp[h.bD,Pl.c]) ?_ m;rw[ycm];unfold sy aU XS;obtain⟨M,j⟩:∃M:Mem,M=((⟨[],1⟩:Mem).new (0,0,3) (.row p.c 0 false)):=⟨_,rfl⟩;have g:M.get (0,0,3)=some (.row p.c 0 false):=(by rw[j];simp);have x:M.next=1:=(by rw[j];rfl);have y:p.c.all AV.one=true:=rfl;simp only[mem0,iE,nH,y,bC];rw[<-j];have e:aA true 3 (.ptr (0,0,3) 0 0) M=some (.agg p.c):=(by rw[aQ g];rfl);obtain⟨s,n,o⟩:=xbh (d+4) h (by omega) b M;have i:clean a=true:=h.clean;have t:=xb1 d h M (by omega);rw[f]at t;have u:=xbu (d+2) p M;rw[aF r]at u;have A:=xbs (d+4) p M;have C:=xog (d+1) n (by rw[ZU];omega) (xrq f) (GO r) M;have D:=xoi (d+4) 0 0 M;simp only[t,aC,e,u,ch,D];simp[dJ,tR,cY,x,i,o,e,A,C];exact RetF.tup rfl rfl
structure Ps where
 nm:ByteArray
 fr:Int
 to:Int
 va:Int
 da:Int
def Ps.c(x:Ps):List AV:=[T x.nm,I x.fr,I x.to,I x.va,I x.da]
theorem Ps.len(x:Ps):x.c.length=5:=rfl
structure Lk where
 at_:Int
 da:Int
def Lk.c(x:Lk):List AV:=[I x.at_,I x.da]
theorem Lk.len(x:Lk):x.c.length=2:=rfl
def lkBad(l:List Lk)(x:Lk):Int:=bif !wi x.at_ 0 1000000000||!wi x.da 0 1000000 then 2
    else bif(match l.getLast? with|some y=>decide (x.at_<=y.at_)|none=>false)then 9 else 0
def pw2(l:List Ps)(x:Ps):Int:=
 bif !wi x.fr 0 1000000000||!wi x.to 0 1000000000||!wi x.va 0 1000000||!wi x.da 0 1000000 then 2
 else bif decide (x.to<=x.fr)then 26
 else bif(match l.getLast? with|some y=>decide (x.to<y.to)|none=>false)then 9 else 0
def pwErr(l:List Ps)(x:Ps):Int:=bif decide (jL x.nm (l.map Ps.nm)≠0)then jL x.nm (l.map Ps.nm)else pw2 l x
def bh(l:List Ps):Nat->List Ps->Int×Int
 |_,[]=>(0,0)
 |k,x::r=>bif decide (pwErr (l.take k) x≠0)then((k:Int),pwErr (l.take k) x)else bh l (k+1) r
def xyu(b:Int×Int)(l:List Ps)(k:Nat)(a:List Ps):Int×Int:=bif decide ((bh l k a).2≠0)then bh l k a else b
def cr(l:List Lk):Nat->List Lk->Int×Int
 |_,[]=>(0,0)
 |k,x::r=>bif decide (lkBad (l.take k) x≠0)then((k:Int),lkBad (l.take k) x)else cr l (k+1) r
def x2l(b:Int×Int)(l:List Lk)(k:Nat)(a:List Lk):Int×Int:=bif decide ((cr l k a).2≠0)then cr l k a else b
def planM(a:List Ps)(b:List Lk)(d e:Int):Int×Int:=
 bif decide (40<a.length)then(0,8)
 else xyu (bif decide (20<b.length)then(0,8)else x2l (0,bif wi d 0 1000000&&wi e 0 1000000 then 0 else 2) b 0 b) a 0 a
def xD{a:aJ}{f:FuncId}{l b:List AV}{m d:Mem}{r:AV}(e:l.mapM (Go.Ix.frz m.get bR)=some b)(h:a [] f b mem0=some (r,d))(g:rF r=true):fC a f l m=some (r,m):=by unfold fC;rw[e];simp only[h,g,cI]
def rQ{a:Id->Option Ob}{id:Id}{b cs':List AV}{fr:Bool}{k:Nat}(h:a id=some (.row b 0 fr))(Z:b.mapM (Go.Ix.frz a k)=some cs'):Go.Ix.frz a (k+1) (.ptr id 0 0)=some (.aH cs'):=by have e:Go.Ix.frz a (k+1) (.ptr id 0 0)=((b.drop 0).mapM (Go.Ix.frz a k)).map .aH:=(by simp only[Go.Ix.frz,h,cI]);rw[e,bF,Z];rfl
structure RPlan (l:List Ps) (kl:List Lk) (gap sto:Int):Prop where
 ok:(planM l kl gap sto).2=0
 len:l.length<=40
 klen:kl.length<=20
 gap0:0<=gap/\gap<=1000000
 sto0:0<=sto/\sto<=1000000
 ps:∀(k:Nat) (h:k<l.length),pwErr (l.take k) l[k]=0
 ls:∀(k:Nat) (h:k<kl.length),lkBad (kl.take k) kl[k]=0
def xyq{l:List Ps}{x:Ps}(h:pwErr l x=0):(0<=x.fr/\x.fr<=1000000000)/\(0<=x.to/\x.to<=1000000000)/\(0<=x.va/\x.va<=1000000)/\(0<=x.da/\x.da<=1000000)/\x.fr<x.to/\∀y,l.getLast?=some y->y.to<=x.to:=by
 unfold pwErr at h;by_cases a:jL x.nm (l.map Ps.nm)=0
 .rw[a]at h;simp only[ne_eq,not_true,bO,cT,pw2]at h;cases d:wi x.fr 0 1000000000<;>cases e:wi x.to 0 1000000000<;>cases f:wi x.va 0 1000000<;>cases g:wi x.da 0 1000000<;>simp[d,e,f,g]at h;by_cases b:x.to<=x.fr
  .simp[b]at h
  .simp only[b,bO,cT]at h;simp only[wi,mP]at d e f g;refine⟨by omega,by omega,by omega,by omega,by omega,λy i=>?_⟩;rw[i]at h;by_cases j:x.to<y.to
   .simp[j]at h
   .omega
 .simp[a]at h
def RPlan.at{l:List Ps}{d:List Lk}{a b:Int}(R:RPlan l d a b){x:Ps}(e:x∈l):(0<=x.fr/\x.fr<=1000000000)/\(0<=x.to/\x.to<=1000000000)/\(0<=x.va/\x.va<=1000000)/\(0<=x.da/\x.da<=1000000)/\x.fr<x.to:=by obtain⟨k,g,rfl⟩:=xlf e;have:=xyq (R.ps k g);exact⟨this.1,this.2.1,this.2.2.1,this.2.2.2.1,this.2.2.2.2.1⟩
def zY{α:Type}{d:α->List AV}{z b:Nat}(j:∀x,(d x).length=z){a:AV}{l:List α}(h:Sl d a l)(g:cF l.length b)(id:Id)(m:Mem) :
    (l=[]/\∀{R:Type} (k:AV->Mem->Option R),cK z b id (elems m.get z a) (.aN [] 0 true) m k=k (.aN [] 0 true) m) \/
    (l≠[]/\∀{R:Type} (k:AV->Mem->Option R),cK z b id (elems m.get z a) (.aN [] 0 true) m k=k (.sref id 0 0 l.length z true) (m.new id (.row (l.flatMap d) 0 false))):=by
 have i:=h.elems j m.get;by_cases f:l.length=0
 .refine .inl ⟨rV.mp f,λk=>?_⟩;rw[i,NP g,eX f];rfl
 .refine .inr ⟨λe=>f (by rw[e];rfl),λk=>?_⟩;rw[i,NP g,fU f];rfl
def G7{α:Type}{b:α->List AV}{z k:Nat}(d:∀x,(b x).length=z)(Z:∀x,(b x).all aP=true){a:Id->Option Ob}{id:Id}{l:List α}{x:Bool}(e:a id=some (.row (l.flatMap b) 0 false)) :
    frz a (k+2) (.sref id 0 0 l.length z x)=some (.aN (l.flatMap b) l.length false):=by
 have g:=fN d l
 have:=rP (aD:=a) (id:=id) (cs:=l.flatMap b) (ver:=0) (off:=0) (n:=l.length) (z:=z) (k:=k) (f:=false) (x:=x) e (by omega) (by
  rw[bF,dT (by omega)];exact pC Z l)
 rw[bF,dT (by omega)]at this;exact this
def tE(s:ByteArray):List AV:=[T s]
theorem M8(s:ByteArray):(tE s).length=1:=rfl
theorem ZN(s:ByteArray):(tE s).all aP=true:=rfl
def YJ:pG=[T ⟨#[]⟩]:=by kernel_rfl
structure Bd where
 nm:ByteArray
 ca:AV
 cs:List Pl
 th:Int
 ok:Sl Pl.c ca cs
def Bd.c(b:Bd):List AV:=[T b.nm,b.ca,I b.th]
theorem Bd.len(b:Bd):b.c.length=3:=rfl
def Bd.bD(b:Bd):b.c.all aP=true:=by simp[Bd.c,b.ok.aP]
def Bd.one(b:Bd):b.c.all AV.one=true:=by simp[Bd.c,b.ok.one];rfl
structure Pn where
 nm:ByteArray
 at_:Pl
def Pn.c(b:Pn):List AV:=[T b.nm,I b.at_.x,I b.at_.y,I b.at_.z]
theorem Pn.len(b:Pn):b.c.length=4:=rfl
theorem Pn.bD(b:Pn):b.c.all aP=true:=rfl
structure Pe where
 nm:ByteArray
 role:Int
def Pe.c(b:Pe):List AV:=[T b.nm,I b.role]
theorem Pe.len(b:Pe):b.c.length=2:=rfl
theorem Pe.bD(b:Pe):b.c.all aP=true:=rfl
def yC:prog.underlying lK=some (.slice w9):=by kernel_rfl
def vP:prog.underlying rY=some (.slice w7):=by kernel_rfl
def y9:prog.underlying rZ=some (.slice w8):=by kernel_rfl
def iT(a b:Int):Int:=if a=0 then b else a
def iV{α:Type}(f:List ByteArray->α->Int)(nm:α->ByteArray):List ByteArray->List α->Int
 |_,[]=>0
 |a,x::r=>iT (f a x) (iV f nm (a++[nm x]) r)
def kP(b:Bool):Int:=bif b then 0 else 2
def qG(a:List ByteArray)(b:Bd):Int:=iT (jL b.nm a) (iT (polyE b.cs) (kP (wi b.th 0 1000000)))
def sM(a:List ByteArray)(b:Pn):Int:=iT (jL b.nm a) (kP (isPl b.at_))
def C0(a:List ByteArray)(b:Pe):Int:=iT (jL b.nm a) (kP (wi b.role 1 3))
def kN(E O:Int)(W:List Bd)(J:List Pn)(C:List Pe):Int:=
 if(wi E 1 10000&&wi O 0 2048)=true then
  if 6<W.length then 8 else iT (iV qG Bd.nm [] W)
   (if 8<J.length then 8 else iT (iV sM Pn.nm [] J)
    (if C.length=0 then 10 else if 10<C.length then 8 else iV C0 Pe.nm [] C))
 else 2
def gt(d:Nat){f:FuncId}{b:List AV}(j:b.all aP=true){ns:List ByteArray}(H:ns.length<=1000){x:ByteArray}(p:x.size<=1000){k:Nat}(J:k<=ns.length){m:Mem}{id:Id}(r:m.get id=some (.row b 0 false))(g:∀(i:Nat) (t:i<ns.length) (m:Mem),∃h,fD (aG (d+2)) [] 2 (.clo f [.aH b]) [I i] m=some (T ns[i],h)):fC (aG (d+3)) rK [T x,.clo f [.ptr id 0 0],I k] m=some (I (jL x (ns.take k)),m):=by
 have n:(ns.take k).length=k:=(by simp;omega);obtain⟨h,o⟩:=xks (d+1) (s:=x) (fv:=.clo f [.aH b]) (l:=ns.take k) p (by omega) λi t m=>by have hi':i<ns.length:=(by omega);obtain⟨h,e⟩:=g i hi' m;refine⟨h,?_⟩;have w:(ns.take k)[i]=ns[i]:=(by simp);rw[w];exact e
 rw[n]at o;have y:aG (d+3) [] rK [T x,.clo f [.aH b],I k] mem0=some (I (jL x (ns.take k)),h):=o;clear o;refine xD ?_ y rfl;have A:b.mapM (Go.Ix.frz m.get 4)=some b:=sP λa u=>uZ m.get 3 (dG.mp j a u)
 have C:Go.Ix.frz m.get 5 (.ptr id 0 0)=some (.aH b):=rQ r A;have D:Go.Ix.frz m.get bR (.clo f [.ptr id 0 0])=some (.clo f [.aH b]):=(by show([AV.ptr id 0 0].mapM (Go.Ix.frz m.get 5)).map (AV.clo f)=_;simp only[eO,gS,C];rfl);have E:Go.Ix.frz m.get bR (T x)=some (T x):=kA _ 4 rfl;have F:Go.Ix.frz m.get bR (I k)=some (I k):=kA _ 4 rfl;simp only[eO,gS,D,E,F];rfl
variable{A pa ea:AV}{W:List Bd}{J:List Pn}{C:List Pe}{E O:Int}
def x4v(d:Nat)(h:Sl Bd.c A W)(i:Nat)(b:i<(W.map Bd.nm).length)(m:Mem):∃a,fD (aG (d+1)) [] 2 (.clo T8 [.aH [I E,I O,A,pa,ea]]) [I i] m=some (T (W.map Bd.nm)[i],a):=by
 have hi':i<W.length:=(by simpa using b);have ix:=h.ix Bd.len hi';show ∃a,aG (d+1) [] T8 ([I i]++[.aH [I E,I O,A,pa,ea]]) m=_;rw[iO,iX,yb1];unfold rt aU WR;refine⟨⟨m.hp,m.next+1⟩,?_⟩;have e:aE 2 (.aH [I E,I O,A,pa,ea])=some (.aH [A,pa,ea]):=rfl;have f:∀m,aA false 1 (.aH [A,pa,ea]) m=some A:=λ_=>rfl
 have g:aE 0 (.aH ((W.drop i).flatMap Bd.c))=some (.aH ((W.drop i).flatMap Bd.c)):=rfl;have j:∀m,aA false 1 (.aH ((W.drop i).flatMap Bd.c)) m=some (T W[i].nm):=λm=>by rw[gV hi',dK];rfl
 simp only[e,f,ix,g,j,aC,Y0]
def x4t(d:Nat)(h:Sl Pn.c pa J)(i:Nat)(b:i<(J.map Pn.nm).length)(m:Mem):∃a,fD (aG (d+1)) [] 2 (.clo E6 [.aH [I E,I O,A,pa,ea]]) [I i] m=some (T (J.map Pn.nm)[i],a):=by
 have hi':i<J.length:=(by simpa using b);have ix:=h.ix Pn.len hi';show ∃a,aG (d+1) [] E6 ([I i]++[.aH [I E,I O,A,pa,ea]]) m=_;rw[iO,iX,yb0];unfold rr aU WQ;refine⟨⟨m.hp,m.next+1⟩,?_⟩;have e:aE 3 (.aH [I E,I O,A,pa,ea])=some (.aH [pa,ea]):=rfl;have f:∀m,aA false 1 (.aH [pa,ea]) m=some pa:=λ_=>rfl
 have g:aE 0 (.aH ((J.drop i).flatMap Pn.c))=some (.aH ((J.drop i).flatMap Pn.c)):=rfl;have j:∀m,aA false 1 (.aH ((J.drop i).flatMap Pn.c)) m=some (T J[i].nm):=λm=>by rw[gV hi',dK];rfl
 simp only[e,f,ix,g,j,aC,Y0]
def x4u(d:Nat)(h:Sl Pe.c ea C)(i:Nat)(b:i<(C.map Pe.nm).length)(m:Mem):∃a,fD (aG (d+1)) [] 2 (.clo T7 [.aH [I E,I O,A,pa,ea]]) [I i] m=some (T (C.map Pe.nm)[i],a):=by
 have hi':i<C.length:=(by simpa using b);have ix:=h.ix Pe.len hi';show ∃a,aG (d+1) [] T7 ([I i]++[.aH [I E,I O,A,pa,ea]]) m=_;rw[iO,iX,ybz];unfold rq aU WO;refine⟨⟨m.hp,m.next+1⟩,?_⟩;have e:aE 4 (.aH [I E,I O,A,pa,ea])=some (.aH [ea]):=rfl;have f:∀m,aA false 1 (.aH [ea]) m=some ea:=λ_=>rfl
 have g:aE 0 (.aH ((C.drop i).flatMap Pe.c))=some (.aH ((C.drop i).flatMap Pe.c)):=rfl;have j:∀m,aA false 1 (.aH ((C.drop i).flatMap Pe.c)) m=some (T C[i].nm):=λm=>by rw[gV hi',dK];rfl
 simp only[e,f,ix,g,j,aC,Y0]
def jZ:List Int->Int
 |[]=>0
 |x::r=>iT x (jZ r)
def x25(d:aJ)(Z:FHs)(u:Nat){a:AV}{l:List Int}(h:Sl intE a l)(w:l.length<=1000):∀(b:List Int) (k j:Nat) (m:Mem) (Y:Nat),l.drop k=b->b.length<j ->
    AM d Z u j a (I l.length) (I k) m Y=some (I (jZ b),m):=by
 intro b;induction b with
 |nil=>intro k j m Y i f;obtain⟨j,rfl⟩:=dD f;have g:¬((k:Int)<(l.length:Int)):=(by have:=gF.mp i;omega);simp only[AM];unfold VD yj;simp only[bV,g,bO,aC,aT,jZ]
 |cons e r t=>
  intro k j m Y i f;obtain⟨j,rfl⟩:=dD f;obtain⟨g,p,n⟩:=gB i;have hk':(k:Int)<(l.length:Int):=(by omega);have ix:=h.ix fL g;have ld:∀m,aA false 1 (.aH ((l.drop k).flatMap intE)) m=some (I e):=λm=>by rw[gV g,dK,p];rfl
  have o:=gJ k (by omega);simp only[AM];unfold VD jZ iT;simp only[bV,hk',bB,aC,aS,ix,ld,fS];by_cases c:e=0
  .simp only[c,bB,cE,aT,dS,o,aC,cI];exact t (k+1) j m _ n (by simp at f;omega)
  .simp only[c,bO,cC,aS,cU]
def KG(d:Nat){a:AV}{l:List Int}(h:Sl intE a l)(b:l.length<=1000)(m:Mem):aI (aG (d+1)) uT [a] m=some (I (jZ l),m):=by refine eY (by simp[h.bD]) ?_ m;rw[ya9];unfold ql bQ VC yi;have r:=x25 (aG d) [] 0 h b l 0 NN ⟨[],1⟩ (0+1+3) rfl (by rw[dB];omega);have e:aM prog BP a=some (I l.length):=h.len xp9;rw[show I ((0:Nat):Int)=I 0 from rfl]at r;simp only[mem0,e,aC];exact r▸RetF.st rfl rfl
def x1t{R:Type}{x y z:Int}{id:Id}{m:Mem}{k:AV->Mem->Option R}:cV qP [(0,1,I x),(1,1,I y),(2,1,I z)] 3 1 id m k=k (.aN [I x,I y,I z] 3 true) m:=by rw[show qP=[I 0] by kernel_rfl];simp[cV,iM,eQ,rU,cH]
def xn2(d:Nat)(n:Int)(m:Mem):aI (aG (d+2)) rJ [I n,I 100000000] m=some (B (decide (-100000000<=n)&&decide (n<=100000000)),m):=by refine eY rfl ?_ m;rw[xjt];unfold OX aU IS;simp[mem0,tU,wi];exact RetF.st rfl rfl
def x3j(d:Nat)(h:Sl Pe.c ea C)(y:[I E,I O,A,pa,ea].all aP=true)(Q:C.length<=1000)(R:∀x∈C,x.nm.size<=1000):∀(f:List Pe) (k j:Nat) (m:Mem) (Y:Nat),C.drop k=f->f.length<j->m.get (0,0,1)=some (.row [I E,I O,A,pa,ea] 0 false) ->
    ∃W,AR (aG (d+3)) [] 0 j (.ptr (0,0,1) 0 0) ea (I C.length) (I k) m Y=some (I (iV C0 Pe.nm ((C.take k).map Pe.nm) f),W):=by
 intro f;induction f with
 |nil=>intro k j m Y D w N;obtain⟨j,rfl⟩:=dD w;have i:¬((k:Int)<(C.length:Int)):=(by have:=gF.mp D;omega);simp only[AR];unfold WS zt;simp only[bV,i,bO,aC,aT,iV];exact⟨m,rfl⟩
 |cons e r ih=>
  intro k j m Y D w N;obtain⟨j,rfl⟩:=dD w;obtain⟨i,K,L⟩:=gB D;have hk':(k:Int)<(C.length:Int):=(by omega);have ix:=h.ix Pe.len i;have ld:=λm=>iH (m:=m) Pe.len (by omega) i
  rw[K]at ld;obtain⟨M,s1,X,n1,f1⟩:=uN (u:=0) (s:=Y+4) (t:=11) (m:=m) (z:=JU) (cs:=e.c) (n:=2) (by kernel_rfl) rfl rfl;have P:M.get (0,0,1)=some (.row [I E,I O,A,pa,ea] 0 false):=(by rw[f1 _ (by simp)];exact N);have g1':M.get (0,Y+4,11)=some (.row [T e.nm,I e.role] 0 false):=X;have Z:=gJ k (by omega);have o:=gt d y (ns:=C.map Pe.nm) (by simpa using Q) (x:=e.nm) (R e (K▸eU i)) (k:=k) (by simp;omega) P (x4u (d+1) h);have g:=KG (d+2) (a:=.aN [I (jL e.nm ((C.map Pe.nm).take k)),I (kP (wi e.role 1 3))] 2 true) (l:=[jL e.nm ((C.map Pe.nm).take k),kP (wi e.role 1 3)]) (Or.inr ⟨true,rfl⟩) (by simp);have F:(C.map Pe.nm).take k=(C.take k).map Pe.nm:=(by rw[jk]);have p:(C.take (k+1)).map Pe.nm=(C.take k).map Pe.nm++[e.nm]:=(by rw[mS i,K,nN];rfl);have H:∀b m,aI (aG (d+3)) pS [B b] m=some (I (kP b),m):=λb m=>KF (d+2) b m
  rw[F]at o g;have J:jZ [jL e.nm ((C.take k).map Pe.nm),kP (wi e.role 1 3)]=C0 ((C.take k).map Pe.nm) e:=by
   unfold C0 jZ jZ jZ iT;repeat' split
   all_goals first|rfl|omega
  rw[J]at g;simp only[AR];unfold WS;simp only[bV,hk',bB,aC,aS,ix,ld,lQ,s1,cW,aQ g1',bW,bF,dR,dE,o,tU (d+2),H,ch,g,fS,iV];by_cases c:C0 ((C.take k).map Pe.nm) e=0
  .simp only[c,bB,cE,aT,dS,Z,aC,iT,cI];rw[<-p];exact ih (k+1) j M _ L (by simp at w;omega) P
  .simp only[c,bO,cC,aS,iT,cU];exact⟨M,rfl⟩
def x3i(d:Nat)(h:Sl Pn.c pa J)(P:[I E,I O,A,pa,ea].all aP=true)(hl:J.length<=1000)(hn:∀x∈J,x.nm.size<=1000){i:Int}(hB:∀m Y,m.get (0,0,1)=some (.row [I E,I O,A,pa,ea] 0 false)->∃F,WP (aG (d+3)) [] 0 (.ptr (0,0,1) 0 0) m Y=some (I i,F)):∀(f:List Pn) (k j:Nat) (m:Mem) (Y:Nat),J.drop k=f->f.length<j->m.get (0,0,1)=some (.row [I E,I O,A,pa,ea] 0 false) ->
    ∃F,J5 (aG (d+3)) [] 0 j (.ptr (0,0,1) 0 0) pa (I J.length) (I k) m Y=some (I (iT (iV sM Pn.nm ((J.take k).map Pn.nm) f) i),F):=by
 intro f;induction f with
 |nil=>intro k j m Y Z L hm;obtain⟨j,rfl⟩:=dD L;have w:¬((k:Int)<(J.length:Int)):=(by have:=gF.mp Z;omega);simp only[J5];unfold WN;simp only[bV,w,bO,aC,aT,iV,iT,cI];exact hB m _ hm
 |cons e r ih=>
  intro k j m Y Z L hm;obtain⟨j,rfl⟩:=dD L;obtain⟨w,he,hd1⟩:=gB Z;have hk':(k:Int)<(J.length:Int):=(by omega);have ix:=h.ix Pn.len w;have ld:=λm=>iH (m:=m) Pn.len (by omega) w
  rw[he]at ld;obtain⟨M,s1,g1,n1,f1⟩:=uN (u:=0) (s:=Y+4) (t:=7) (m:=m) (z:=L1) (cs:=e.c) (n:=4) (by kernel_rfl) rfl rfl;have hM:M.get (0,0,1)=some (.row [I E,I O,A,pa,ea] 0 false):=(by rw[f1 _ (by simp)];exact hm);have g1':M.get (0,Y+4,7)=some (.row [T e.nm,I e.at_.x,I e.at_.y,I e.at_.z] 0 false):=g1;have hw:=gJ k (by omega);have H:=gt d P (ns:=J.map Pn.nm) (by simpa using hl) (x:=e.nm) (hn e (he▸eU w)) (k:=k) (by simp;omega) hM (x4t (d+1) h);have o:=KG (d+2) (a:=.aN [I (jL e.nm ((J.map Pn.nm).take k)),I (kP (isPl e.at_))] 2 true) (l:=[jL e.nm ((J.map Pn.nm).take k),kP (isPl e.at_)]) (Or.inr ⟨true,rfl⟩) (by simp);have htk:(J.map Pn.nm).take k=(J.take k).map Pn.nm:=(by rw[jk]);have K:(J.take (k+1)).map Pn.nm=(J.take k).map Pn.nm++[e.nm]:=(by rw[mS w,he,nN];rfl);have hrg:∀b m,aI (aG (d+3)) pS [B b] m=some (I (kP b),m):=λb m=>KF (d+2) b m
  have p:=λn m=>xn2 (d+1) n m
  rw[htk]at H o;have hfe:jZ [jL e.nm ((J.take k).map Pn.nm),kP (isPl e.at_)]=sM ((J.take k).map Pn.nm) e:=by
   unfold sM jZ jZ jZ iT;repeat' split
   all_goals first|rfl|omega
  rw[hfe]at o
  have tail:∀Y,(∃F,(fC (aG (d+3)) rK [T e.nm,.clo E6 [.ptr (0,0,1) 0 0],I k] M).bind (λC=>
   (aI (aG (d+3)) pS [B (isPl e.at_)] C.2).bind λD=>
   cV qP [(0,1,C.1),(1,1,D.1)] 2 1 (0,Y+31,90) D.2 λQ R=>
   (aI (aG (d+3)) uT [Q] R).bind λg=>
   (eA g.1 (I 0)).bind λW=>
   aK W (some (g.1,g.2)) ((bM (I k) (I 1)).bind λX=>
    J5 (aG (d+3)) [] 0 j (.ptr (0,0,1) 0 0) pa (I J.length) X g.2 (Y+38)))=some (I (iT (iV sM Pn.nm ((J.take k).map Pn.nm) (e::r)) i),F)):=λY=>by
   simp only[H,aC,hrg,ch,o,fS,iV]
   by_cases c:sM ((J.take k).map Pn.nm) e=0
   .simp only[c,bB,cE,aT,dS,hw,aC]
    rw[show iT 0 (iV sM Pn.nm ((J.take k).map Pn.nm++[e.nm]) r)=iV sM Pn.nm ((J.take k).map Pn.nm++[e.nm]) r from rfl,<-K]
    exact ih (k+1) j M _ hd1 (by simp at L;omega) hM
   .simp only[c,bO,cC,aS,iT,cU]
    exact⟨M,rfl⟩
  simp only[J5];unfold WN;simp only[bV,hk',bB,aC,aS,ix,ld,lQ,s1,cW,aQ g1',bW,bF,dR,dE,p];unfold isPl at tail;cases x1:(decide (-100000000<=e.at_.x)&&decide (e.at_.x<=100000000))
  .rw[x1]at tail;simp only[dO,fI,iC,cT,aC,cS,aQ g1',bF,dE];exact tail Y
  .cases N:(decide (-100000000<=e.at_.y)&&decide (e.at_.y<=100000000))
   .rw[x1,N]at tail;simp only[dO,fI,iC,bC,cT,aC,cS,aQ g1',cW,bF,dR,dE,p,N];exact tail Y
   .rw[x1,N]at tail;simp only[dO,fI,iC,bC,aC,cS,aQ g1',cW,bF,dR,dE,p,N];exact tail Y
def x3k(d:Nat)(h:Sl Bd.c A W)(D:[I E,I O,A,pa,ea].all aP=true)(hl:W.length<=1000)(hn:∀x∈W,x.nm.size<=1000/\x.cs.length<=1000){res:Int}(hB:∀m Y,m.get (0,0,1)=some (.row [I E,I O,A,pa,ea] 0 false)->∃F,WL (aG (d+5)) [] 0 (.ptr (0,0,1) 0 0) m Y=some (I res,F)):∀(f:List Bd) (k j:Nat) (m:Mem) (Y:Nat),W.drop k=f->f.length<j->m.next=1->m.get (0,0,1)=some (.row [I E,I O,A,pa,ea] 0 false) ->
    ∃F,AQ (aG (d+5)) [] 0 j (.ptr (0,0,1) 0 0) A (I W.length) (I k) m Y=some (I (iT (iV qG Bd.nm ((W.take k).map Bd.nm) f) res),F):=by
 intro f;induction f with
 |nil=>intro k j m Y H C g J;obtain⟨j,rfl⟩:=dD C;have o:¬((k:Int)<(W.length:Int)):=(by have:=gF.mp H;omega);simp only[AQ];unfold WK;simp only[bV,o,bO,aC,aT,iV,iT,cI];exact hB m _ J
 |cons e r ih=>
  intro k j m Y H C g J;obtain⟨j,rfl⟩:=dD C;obtain⟨o,Z,hd1⟩:=gB H;have hk':(k:Int)<(W.length:Int):=(by omega);have ix:=h.ix Bd.len o;have ld:=λm=>iH (m:=m) Bd.len (by omega) o
  rw[Z]at ld;have K:=hn e (Z▸eU o);obtain⟨M,s1,g1,n1,f1⟩:=uN (u:=0) (s:=Y+4) (t:=4) (m:=m) (z:=JV) (cs:=e.c) (n:=3) (by kernel_rfl) rfl e.one;have hM:M.get (0,0,1)=some (.row [I E,I O,A,pa,ea] 0 false):=(by rw[f1 _ (by simp)];exact J);have g1':M.get (0,Y+4,4)=some (.row [T e.nm,e.ca,I e.th] 0 false):=g1;have hw:=gJ k (by omega);have p:=gt (d+2) D (ns:=W.map Bd.nm) (by simpa using hl) (x:=e.nm) K.1 (k:=k) (by simp;omega) hM (x4v (d+3) h);have L:=xb1 d e.ok M (by omega);have i:=KG (d+4) (a:=.aN [I (jL e.nm ((W.map Bd.nm).take k)),I (polyE e.cs),I (kP (wi e.th 0 1000000))] 3 true) (l:=[jL e.nm ((W.map Bd.nm).take k),polyE e.cs,kP (wi e.th 0 1000000)]) (Or.inr ⟨true,rfl⟩) (by simp);have N:(W.map Bd.nm).take k=(W.take k).map Bd.nm:=(by rw[jk]);have w:(W.take (k+1)).map Bd.nm=(W.take k).map Bd.nm++[e.nm]:=(by rw[mS o,Z,nN];rfl);have P:∀b m,aI (aG (d+5)) pS [B b] m=some (I (kP b),m):=λb m=>KF (d+4) b m
  rw[N]at p i;have Q:jZ [jL e.nm ((W.take k).map Bd.nm),polyE e.cs,kP (wi e.th 0 1000000)]=qG ((W.take k).map Bd.nm) e:=by
   unfold qG jZ jZ jZ jZ iT;repeat' split
   all_goals first|rfl|omega
  rw[Q]at i;have R:clean e.ca=true:=e.ok.clean;have y:((Nat.ble 1 (cY 0 [e.ca])&&true)&&(dJ (some M.next) (tR (.ptr (0,Y+4,4) 0 (0+2))) (cY 0 [e.ca])&&true))=true:=(by have X:M.next=1:=(by rw[n1,g]);simp[cY,dJ,tR,R,X]);simp only[AQ];unfold WK;simp only[bW]at y;simp only[bV,hk',bB,aC,aS,ix,ld,lQ,s1,cW,aQ g1',bW,bF,dR,dE,p,L,tU (d+4),P,x1t,i,y,bC,fS,iV];by_cases c:qG ((W.take k).map Bd.nm) e=0
  .simp only[c,bB,cE,aT,dS,hw,aC];rw[show iT 0 (iV qG Bd.nm ((W.take k).map Bd.nm++[e.nm]) r)=iV qG Bd.nm ((W.take k).map Bd.nm++[e.nm]) r from rfl,<-w];exact ih (k+1) j M _ hd1 (by simp at C;omega) (by rw[n1,g]) hM
  .simp only[c,bO,cC,aS,iT,cU];exact⟨M,rfl⟩
def xb0(d:Nat)(e:Sl Bd.c A W)(f:Sl Pn.c pa J)(g:Sl Pe.c ea C)(y:W.length<=1000)(D:J.length<=1000)(F:C.length<=1000)(i:∀x∈W,x.nm.size<=1000/\x.cs.length<=1000)(j:∀x∈J,x.nm.size<=1000)(l:∀x∈C,x.nm.size<=1000)(m:Mem) :
    aI (aG (d+6)) zB [.agg [I E,I O,A,pa,ea]] m=some (I (kN E O W J C),m):=by
 have b:[I E,I O,A,pa,ea].all aP=true:=(by simp[e.aP,f.aP,g.aP]);refine eY (by simp[e.aP,f.aP,g.aP]) ?_ m;rw[yb2];unfold ru bQ WJ;have H:[I E,I O,A,pa,ea].all AV.one=true:=(by simp[e.one,f.one,g.one]);simp only[mem0,iE,nH,H,bC];generalize h:Mem.new _ _ _=m1;have a:m1.get (0,0,1)=some (.row [I E,I O,A,pa,ea] 0 false):=(by rw[<-h,Mem.lF]);have n:m1.next=1:=(by rw[<-h];rfl);unfold kN;simp only[cW,aC,aQ a,bW,bF,dE,tU (d+4),eG];cases L:wi E 1 10000
 .simp only[cC,dO,fI,dQ,cE,cT,aC,cS,bC,aS,qM,fQ,cU];exact RetF.st rfl rfl
 cases w:wi O 0 2048
 .simp only[cE,dO,fI,dQ,cC,bC,aC,aQ a,bF,dR,dE,tU (d+4),w,eG,cS,cT,aS,Bool.and_false,fQ,cU];exact RetF.st rfl rfl
 simp only[cE,dO,fI,dQ,cC,bC,aC,aQ a,bF,dR,dE,tU (d+4),w,eG,cS,cT,aT,iL,cI,e.len yC,fT];by_cases o:6<W.length
 .simp only[show((6:Int)<(W.length:Int)) by omega,bB,aS,o,cI];exact RetF.st rfl rfl
 simp only[show ¬((6:Int)<(W.length:Int)) by omega,bO,aT,o,cU];unfold zp;simp only[cW,aC,aQ a,bW,bF,dR,dE,e.len yC];have r:=x3k d e b y i (res:=(if 8<J.length then 8 else iT (iV sM Pn.nm [] J) (if C.length=0 then 10 else if 10<C.length then 8 else iV C0 Pe.nm [] C))) (λm Y a=>?_) W 0 NN m1 (0+18+4) rfl (by rw[dB];omega) n a
 .obtain⟨K,r⟩:=r;rw[show I ((0:Nat):Int)=I 0 from rfl]at r;rw[r];exact RetF.st rfl rfl
 .unfold WL;simp only[cW,aC,aQ a,bW,bF,dR,dE,f.len vP,fT];by_cases p:8<J.length
  .simp only[show((8:Int)<(J.length:Int)) by omega,bB,aS,p,cI];exact⟨_,rfl⟩
  simp only[show ¬((8:Int)<(J.length:Int)) by omega,bO,aT,p,cU];unfold zq;simp only[cW,aC,aQ a,bW,bF,dR,dE,f.len vP];refine x3i (d+2) f b D j (λm Y a=>?_) J 0 NN m _ rfl (by rw[dB];omega) a;unfold WP;simp only[cW,aC,aQ a,bW,bF,dR,dE,g.len y9,iD];by_cases t:C.length=0
  .simp only[t,cI];exact⟨_,rfl⟩
  simp only[show ¬((C.length:Int)=0) by omega,bO,aT,t,cU,aC,fT];by_cases u:10<C.length
  .simp only[show((10:Int)<(C.length:Int)) by omega,bB,aS,u,cI];exact⟨_,rfl⟩
  simp only[show ¬((10:Int)<(C.length:Int)) by omega,bO,aT,u,cU];unfold zr;simp only[cW,aC,aQ a,bW,bF,dR,dE,g.len y9];exact x3j (d+2) g b F l C 0 NN m _ rfl (by rw[dB];omega) a
end Go.Ix
namespace Go.Proofs.YtjngclcijnpooaaGreatDoor
open Go.ChangeShapes Go.WideShapes Go.ChangeAt Go.RowKit Go.Ix
def NA:prog.cellsOf dP=1:=by kernel_rfl
def fw:prog.cellsOf bN=1:=by kernel_rfl
def fx:prog.cellsOf tT=3:=by kernel_rfl
def GU{t:TypeId}{b:Array Go.Field}{l:List (TypeId×Nat)}{r:List AV}(d:b.toList.map (λf=>(f.type,f.offset))=l)(a:∀f∈b.toList,Sh prog f.type ((r.drop f.offset).take (prog.cellsOf f.type))):∀p∈l,Sh prog p.1 ((r.drop p.2).take (prog.cellsOf p.1)):=by subst d;intro p e;obtain⟨f,g,rfl⟩:=fR.mp e;exact a f g
def xet{r:List AV}(b:r.length=prog.cellsOf tT)(j:Sh prog tT r):∃x:Pl,r=x.c:=by
 obtain⟨w,m,n⟩:=V7 (t:=tT) (l:=[(dP,0),(dP,1),(dP,2)]) (by kernel_rfl);obtain⟨-,a⟩:=Sh.M9 m j;rw[fx]at b;match r,b with
 |[x,y,z],_=>have:=GU (t:=dP) n a;have d:=this (dP,0) (by simp);have e:=this (dP,1) (by simp);have f:=this (dP,2) (by simp);simp only[NA,bF,jR,kF,dR]at d e f;obtain⟨o,g⟩:=A8 d;obtain⟨p,h⟩:=A8 e;obtain⟨u,i⟩:=A8 f;simp at g h i;exact⟨⟨o,p,u⟩,by rw[g,h,i];rfl⟩
def ydd{r:List AV}(a:r.length=prog.cellsOf w9)(b:Sh prog w9 r):∃x:Bd,r=x.c:=by
 obtain⟨A,o,p⟩:=V7 (t:=w9) (l:=[(bN,0),(pI,1),(dP,2)]) (by kernel_rfl);obtain⟨-,f⟩:=Sh.M9 o b;have n:prog.cellsOf w9=3:=(by kernel_rfl);have d:prog.cellsOf pI=1:=(by kernel_rfl);rw[n]at a;match r,a with
 |[x,y,z],_=>have:=GU (t:=dP) p f;have g:=this (bN,0) (by simp);have h:=this (pI,1) (by simp);have i:=this (dP,2) (by simp);simp only[NA,fw,d,bF,jR,kF,dR]at g h i;obtain⟨s,j⟩:=CM g;obtain⟨l,u,-⟩:=CG (e:=tT) (by kernel_rfl) (λr a b=>xet a b) h;obtain⟨w,m⟩:=A8 i;simp at j m;exact⟨⟨s,y,l,w,u⟩,by rw[j,m];rfl⟩
def xy7{r:List AV}(d:r.length=prog.cellsOf w7)(h:Sh prog w7 r):∃x:Pn,r=x.c:=by
 obtain⟨n,j,m⟩:=V7 (t:=w7) (l:=[(bN,0),(tT,1)]) (by kernel_rfl);obtain⟨-,b⟩:=Sh.M9 j h;have i:prog.cellsOf w7=4:=(by kernel_rfl);rw[i]at d;match r,d with
 |[x,y,z,w],_=>have:=GU (t:=dP) m b;have e:=this (bN,0) (by simp);have f:=this (tT,1) (by simp);simp only[fw,fx,bF,jR,kF,dR]at e f;obtain⟨s,g⟩:=CM e;obtain⟨p,a⟩:=xet (by rw[fx];rfl) f;simp[Pl.c]at g a;exact⟨⟨s,p⟩,by rw[g,a.1,a.2.1,a.2.2];rfl⟩
def xza{r:List AV}(b:r.length=prog.cellsOf w8)(h:Sh prog w8 r):∃x:Pe,r=x.c:=by
 obtain⟨n,j,m⟩:=V7 (t:=w8) (l:=[(bN,0),(dP,1)]) (by kernel_rfl);obtain⟨-,a⟩:=Sh.M9 j h;have i:prog.cellsOf w8=2:=(by kernel_rfl);rw[i]at b;match r,b with
 |[x,y],_=>have:=GU (t:=dP) m a;have d:=this (bN,0) (by simp);have e:=this (dP,1) (by simp);simp only[fw,NA,bF,jR,kF,dR]at d e;obtain⟨s,f⟩:=CM d;obtain⟨p,g⟩:=A8 e;simp at f g;exact⟨⟨s,p⟩,by rw[f,g];rfl⟩
def setup_inO{a:AV}(h:ArgSh prog BR a):∃E O A m n W J C,a=.agg [I E,I O,A,m,n]/\Sl Bd.c A W/\Sl Pn.c m J/\Sl Pe.c n C:=by
 obtain⟨fs,H,N⟩:=V7 (t:=BR) (l:=[(dP,0),(dP,1),(lK,2),(rY,3),(rZ,4)]) (by kernel_rfl);obtain⟨q,rfl,P⟩:=h.struct H;obtain⟨b,j⟩:=Sh.M9 H P;have M:prog.cellsOf BR=5:=(by kernel_rfl);have f:prog.cellsOf lK=1:=(by kernel_rfl);have g:prog.cellsOf rY=1:=(by kernel_rfl);have i:prog.cellsOf rZ=1:=(by kernel_rfl);rw[M]at b;match q,b with
 |[x,y,v,w,z],_=>have:=GU (t:=dP) N j;have o:=this (dP,0) (by simp);have p:=this (dP,1) (by simp);have u:=this (lK,2) (by simp);have D:=this (rY,3) (by simp);have F:=this (rZ,4) (by simp);simp only[NA,f,g,i,bF,jR,kF,dR]at o p u D F;obtain⟨Q,K⟩:=A8 o;obtain⟨R,L⟩:=A8 p;obtain⟨W,X,-⟩:=CG (e:=w9) (by kernel_rfl) (λr b d=>ydd b d) u;obtain⟨J,Y,-⟩:=CG (e:=w7) (by kernel_rfl) (λr b d=>xy7 b d) D;obtain⟨C,Z,-⟩:=CG (e:=w8) (by kernel_rfl) (λr b d=>xza b d) F;simp at K L;subst K L;exact⟨Q,R,v,w,z,W,J,C,rfl,X,Y,Z⟩
end Go.Proofs.YtjngclcijnpooaaGreatDoor
namespace Go.Ix
open Go.Proofs
def nmL(l:List UInt8):Bool:=nmOK ⟨l.toArray⟩
def b9:List Ent->Int
 |[]=>0
 |x::r=>if nmL x.by_=false then 4 else if 200<x.tx.length then 8 else if(10:UInt8)∈x.tx then 7 else b9 r
def wZ(L:List Ent):Int:=if 40<L.length then 8 else b9 L
def xby(d:Nat)(l:List UInt8)(c:UInt8)(m:Mem):aI (aG (d+5)) C4 [Tx l,Tx [c]] m=some (B (decide (c∈l)),m):=by
 refine Ans.eR (m:=m) ?_ rfl rfl;unfold Ans;rw[x8o];unfold kr aU PR;have h:decide (0<=Lib.indexByte l c)=decide (c∈l):=by
  rcases V5 c l with ⟨a,b⟩|⟨i,a,b,f,e⟩
  .rw[a];simp[b]
  .have:c∈l:=NY (by rw[e];exact eS);rw[a];simp[this]
 simp only[xbw,aC,sG,h];exact⟨_,rfl⟩
def xbk(d:Nat){l:List UInt8}(a:l.length<=1000)(m:Mem):aI (aG (d+1)) wE [Tx l] m=some (B (nmL l),m):=
 xbp d ⟨l.toArray⟩ m (by rw[tZ];exact a)
def Br10(x:Ent):Prop:=x.by_.length<=1000/\x.tx.length<=1000
def Br10.sh{x:Ent}(h:Br10 x):iv x:=⟨by have:=h.1;omega,by have:=h.2;omega⟩
def xgs(d:Nat)(u:Nat){a:AV}{L:List Ent}(y:Sl Ent.c a L)(A:∀x∈L,Br10 x)(H:L.length<=100000):∀(b:List Ent) (k j:Nat) (m:Mem) (Y:Nat),L.drop k=b->b.length<j ->
    ∃J,AO (aG (d+5)) [] u j a (I L.length) (I k) m Y=some (I (b9 b),J)
 |[],k,j,m,Y,h,o=>by obtain⟨j,rfl⟩:=dD o;have g:¬((k:Int)<(L.length:Int)):=(by have:=gF.mp h;omega);simp only[AO];unfold WB zi;simp only[bV,g,bO,aC,aT];exact⟨m,rfl⟩
 |e::r,k,j,m,Y,h,o=>by
  obtain⟨j,rfl⟩:=dD o;obtain⟨g,E,h⟩:=gB h;have hk':(k:Int)<(L.length:Int):=(by omega);have ix:=y.ix Ent.len g;have ld:=cu (m:=m) g;rw[E]at ld;have p:=A e (by rw[<-E];exact eU g);have K:=gJ k (by omega);obtain⟨n,i⟩:∃n:Mem,n=m.new (u,Y+3,4) (.row [Tx [],Tx []] 0 false):=⟨_,rfl⟩;have M:n.get (u,Y+3,4)=some (.row [Tx [],Tx []] 0 false):=(by rw[i,Mem.dI,aF rfl]);obtain⟨f,l⟩:∃f:Mem,f=n.set (u,Y+3,4) (.row (cH [Tx [],Tx []] 0 (AV.agg e.c).cells) 0 false):=⟨_,rfl⟩;have C:f.get (u,Y+3,4)=some (.row e.c 0 false):=(by rw[l,Mem.bG,aF rfl];rfl);have N:aA false 1 (.ptr (u,Y+3,4) 0 0) f=some (Tx e.by_):=(by rw[aQ C];rfl);have O:aA false 1 (.ptr (u,Y+3,4) 0 1) f=some (Tx e.tx):=(by rw[aQ C];rfl);obtain⟨P,Q⟩:=xgs d u y A H r (k+1) j f (Y+21) h (by simp at o;omega);have t:=λm=>xbk (d+4) p.1 m
  simp only[AO];unfold WB;simp only[bV,hk',bB,aS,aC,ix,ld,lQ,K9];rw[<-i,iB (z:=2) (x:=.agg e.c) M rfl (by simp) rfl,<-l,show(AV.sc (.string ⟨#[10]⟩))=Tx [10]from rfl];simp only[cW,bW,nK,N,O,aC,t,eG,hZ,fT];unfold b9;cases R:nmL e.by_ with
  |false=>simp only[cC,aS,cI];exact⟨_,rfl⟩
  |true=>
   simp only[cE,aT,Bool.true_eq_false,cU];by_cases D:200<e.tx.length
   .have h2':(200:Int)<(e.tx.length:Int):=(by omega);simp only[D,h2',bB,aS,cI];exact⟨_,rfl⟩
   .have h2':¬(200:Int)<(e.tx.length:Int):=(by omega);have w:=λm=>xby d e.tx 10 m
    simp only[D,h2',bO,aT,cU,w,aC];by_cases F:(10:UInt8)∈e.tx
    .simp only[F,bB,aS,cI];exact⟨_,rfl⟩
    .simp only[F,bO,aT,cU,dS,aC,K];exact⟨P,Q⟩
def xoy(d:Nat){a:AV}{L:List Ent}(b:Sl Ent.c a L)(e:∀x∈L,Br10 x)(f:L.length<=100000)(m:Mem):aI (aG (d+6)) FJ [a] m=some (I (wZ L),m):=by
 refine Ans.eR (m:=m) ?_ (by simp[b.bD]) rfl;unfold Ans;rw[ybs];unfold rj bQ WA;dsimp only
 simp only[b.len lM,aC,fT];unfold wZ;by_cases h:40<L.length
 .have h':(40:Int)<(L.length:Int):=(by omega);simp only[h,h',bB,aS,cI];exact⟨_,rfl⟩
 .have h':¬(40:Int)<(L.length:Int):=(by omega);simp only[h,h',bO,aT,cU];unfold zh;simp only[b.len lM,aC];exact xgs d _ b e f L 0 NN _ _ rfl (by rw[dB];omega)
def xpt(d:Nat){a:AV}{L:List Ent}(i:Sl Ent.c a L)(n:L.length<=1000000)(m:Mem):∃b,Sl Ent.c b L/\aI (aG (d+1)) wD [a] m=some (b,m):=by
 refine rS (by simp[i.bD]) ?_ m;rw[yai];unfold pd bQ TR;have h:∀(s t:Nat) (m:Mem),∃b f g,Sl Ent.c g L/\Go.Ix.frz f.get bR b=some g/\∀{R:Type} (k:AV->Mem->Option R),cK 2 32 (0,s,t) (elems m.get 2 a) (.aN [] 0 true) m k=k b f:=by
  intro s t m;rcases zY Ent.len i (by unfold cF;omega:cF L.length 32) (0,s,t) m with ⟨rfl,e⟩|⟨o,e⟩
  .exact⟨.aN [] 0 true,m,.aN [] 0 true,Sl.lit [] true,rfl,e⟩
  .exact⟨_,_,.aN (L.flatMap Ent.c) L.length false,Sl.lit L false,G7 (k:=4) Ent.len Ent.stl (by simp),e⟩
 obtain⟨b,f,g,e,j,l⟩:=h 3 5 (⟨[],1⟩:Mem);simp[mem0,l];exact RetF.mk j e
def xyz(d:Nat)(t:TypeId)(s:ByteArray)(h:prog.underlying t=some .string):bJ prog (Op.equalIn (d+1) t (.string s) (.string s))=some true:=by simp[Op.equalIn,lR,DC h,sK];first|exact b s|(cases s with|mk a=>show(a == a)=true;simp)|exact eX rfl
def x04(X Y:Operand)(x:Ent):bP prog .neq lL X Y (.agg x.c) (.agg x.c)=some (B false):=by
 obtain⟨a,b⟩:=x;generalize Z:(⟨a.toArray⟩:ByteArray)=s;generalize C:(⟨b.toArray⟩:ByteArray)=t;have i:prog.underlying lL=some (.struct (prog.fieldsOf lL)):=(by kernel_rfl);have j:prog.stoodInHeld lL=false:=(by kernel_rfl);have d:((prog.fieldsOf lL).toList.map λf=>(f.type,f.offset,decide (f.name = "_")))=[(bN,0,false),(bN,1,false)]:=(by kernel_rfl);have l:bJ prog (part bN #[.string s,.string t] 0)=some (.string s):=(by kernel_rfl);have m:bJ prog (part bN #[.string s,.string t] 1)=some (.string t):=(by kernel_rfl);have e:bJ prog (Op.equalIn 10000 lL (.agg #[.string s,.string t]) (.agg #[.string s,.string t]))=some true:=by
  rw[show(10000:Nat)=9998+1+1 from rfl,bj _ _ _ _ i j];generalize (prog.fieldsOf lL).toList=D at d;have g:=congrArg List.length d;simp only[qK,dW,jA]at g;match D,g with
  |[E,F],_=>
   simp only[eN,kT,OD,bK,and_true,decide_eq_false_iff_not]at d;obtain⟨⟨n,o,p⟩,u,w,A⟩:=d;have h:∀s:ByteArray,bJ prog (Op.equalIn 9999 bN (.string s) (.string s))=some true:=λs=>xyz 9998 _ s (by kernel_rfl)
   simp only[Op.eqFields,p,A,ne_eq,not_false_eq_true,cI,n,u,o,w,lR,l,aC,h];simp[sK,lR,m,h]
 have:=CU (P:=prog) (t:=lL) (r:=true) (x:=X) (y:=Y) (xs:=[.string s,.string t]) (ys:=[.string s,.string t]) (by kernel_rfl) e ⟨[T s,T t],rfl⟩ [T s,T t] [T s,T t] rfl rfl;subst Z C;exact this
def xgu(d:aJ)(Z:FHs)(u:Nat){a b:AV}{L:List Ent}(i:Sl Ent.c a L)(o:Sl Ent.c b L)(p:L.length<1000000):∀(f:List Ent) (k j:Nat) (m:Mem) (Y:Nat),L.drop k=f->f.length<j ->
    AD d Z u j a b (I k) m Y=some (B true,m)
 |[],k,j,m,Y,h,l=>by obtain⟨j,rfl⟩:=dD l;have g:¬((k:Int)<(L.length:Int)):=(by have:=gF.mp h;omega);simp only[AD];unfold TN xn;simp only[i.len lM,bV,g,bO,aC,aT]
 |e::r,k,j,m,Y,h,l=>by obtain⟨j,rfl⟩:=dD l;obtain⟨g,x,h⟩:=gB h;have hk':(k:Int)<(L.length:Int):=(by omega);have ix:=i.ix Ent.len g;have n:=o.ix Ent.len g;have ld:=cu (m:=m) g;have t:=gJ k (by omega);have w:=xgu d Z u i o p r (k+1) j m (Y+16) h (by simp at l;omega);simp only[AD];unfold TN;simp only[i.len lM,bV,hk',bB,aS,aC,ix,n,ld,x04,aT,dS,t];exact w
def xo6(d:Nat){a b:AV}{L:List Ent}(e:Sl Ent.c a L)(f:Sl Ent.c b L)(g:L.length<1000000)(m:Mem):aI (aG (d+1)) EV [a,b] m=some (B true,m):=by
 refine Ans.eR (m:=m) ?_ (by simp[e.bD,f.bD]) rfl;unfold Ans;rw[yag];unfold pb aU TM xm;dsimp only
 simp only[e.len lM,f.len lM,aC,fS,bB,cE,aT];exact⟨_,xgu _ _ _ e f g L 0 NN _ _ rfl (by rw[dB];omega)⟩
def zX(L:List Ent):Bool:=L.all λx=>decide (x.by_.length<=20)&&decide (x.tx.length<=220)
def xgw(b:aJ)(Z:FHs)(u:Nat){a:AV}{L:List Ent}(f:Sl Ent.c a L):∀(d:List Ent) (k j:Nat) (m:Mem) (Y:Nat),L.drop k=d->d.length<j->L.length<=9223372036854775807 ->
    AW b Z u j a (I k) m Y=some (B (zX d&&(decide (L.length<=20)||(decide (40<L.length)&&decide (L.length<=42)))),m)
 |[],k,j,m,Y,h,i,w=>by
  obtain⟨j,rfl⟩:=dD i;have g:¬((k:Int)<(L.length:Int)):=(by have:=gF.mp h;omega);simp only[AW];unfold XA D';simp only[f.len lM,bV,g,bO,aC,aT,LE,fA,dO,dQ];have x:decide ((L.length:Int)<=20)=decide (L.length<=20):=decide_eq_decide.2 (by omega);have y:decide ((40:Int)<(L.length:Int))=decide (40<L.length):=decide_eq_decide.2 (by omega);have A:decide ((L.length:Int)<=42)=decide (L.length<=42):=decide_eq_decide.2 (by omega);rw[x];cases l:decide (L.length<=20)
  .simp only[cC,bC,aC,f.len lM,fT,y,iC];cases n:decide (40<L.length)
   .simp only[cT,aC,cS,zX,nP,gW,qM,Bool.or_self]
   .simp only[bC,aC,f.len lM,LE,A,cS,zX,nP,gW,IB,cT]
  .simp only[cE,cT,aC,cS,bC,zX,nP,gW,PC,show sW U true=false from rfl]
 |e::r,k,j,m,Y,h,i,w=>by
  obtain⟨j,rfl⟩:=dD i;obtain⟨g,D,h⟩:=gB h;have hk':(k:Int)<(L.length:Int):=(by omega);have ix:=f.ix Ent.len g;have o:=λm=>xgp (enc:=Ent.c) (m:=m) g 0 rfl
  have p:=λm=>xgp (enc:=Ent.c) (m:=m) g 1 rfl
  simp only[D]at o p;have C:=gJ k (by omega);have t:=xgw b Z u f r (k+1) j m (Y+23) h (by simp at i;omega) w;simp only[AW];unfold XA;simp only[f.len lM,bV,hk',bB,aS,aC,ix,xdp,o,hZ,fT,fA,dO,dQ];simp only[zX,dY]at t ⊢;by_cases l:e.by_.length<=20
  .have c1':¬(20:Int)<(e.by_.length:Int):=(by omega);simp only[l,c1',bO,bB,cC,bC,aC,ix,xdp,p,hZ,fT,cS,cT,gW];by_cases n:e.tx.length<=220
   .have c2':¬(220:Int)<(e.tx.length:Int):=(by omega);simp only[n,c2',bO,bB,aT,dS,aC,C,gW];exact t
   .have c2':(220:Int)<(e.tx.length:Int):=(by omega);simp only[n,c2',bO,bB,aS,qM]
  .have c1':(20:Int)<(e.by_.length:Int):=(by omega);simp only[l,c1',bO,bB,cE,cT,aC,cS,bC,aS,qM]
def gn{a:aJ}{f:FuncId}{l d:List AV}{m:Mem}{r:AV}(n:l.mapM (Go.Ix.frz m.get bR)=some d)(e:d.all bD=true)(h:∀m,aI a f d m=some (r,m)) :
    aI a f l m=some (r,⟨mJ (l.flatMap (reach m.get bR)) m.hp,m.next⟩):=by
 have b:=h mem0;have g:d.mapM (Go.Ix.frz mem0.get bR)=some d:=zN _ e;unfold aI at b ⊢;rw[g]at b;rw[n];dsimp only at b ⊢;cases i:a [] f d mem0 with
 |none=>rw[i]at b;cases b
 |some p=>
  rw[i]at b;dsimp only at b ⊢;cases j:Go.Ix.frz p.2.get bR p.1 with
  |none=>rw[j]at b;cases b
  |some r0=>rw[j]at b;have:=congrArg Prod.fst (oM b);dsimp only at this;subst this;rfl
def xru{a:List Id}{j:Id}{m:Mem}(b:j∉a):(⟨mJ a m.hp,m.next⟩:Mem).get j=m.get j:=by show fK (mJ a m.hp) j=_;rw[congrFun (N2 a m.hp) j];unfold shut;rw[aB b];rfl
def xrt{ids:List Id}{j:Id}{m:Mem}{a:List AV}{v:Nat}{b:Bool}(h:m.get j=some (.row a v b)):∃d,(⟨mJ ids m.hp,m.next⟩:Mem).get j=some (.row a v d):=by
 show ∃d,fK (mJ ids m.hp) j=_;rw[congrFun (N2 ids m.hp) j];unfold shut;have h':fK m.hp j=some (.row a v b):=h;split
 .rw[h'];exact⟨true,rfl⟩
 .exact⟨b,h'⟩
def xed{m:Mem}{id:Id}{f d n z v k:Nat}{x b:Bool}{e:List AV}(g:m.get id=some (.row e v b))(Z:e.all aP=true):Go.Ix.reach m.get (k+2) (.sref id f d n z x)=[id]:=by
 show(match m.get id with
  |some (.row e _ _)=>id::((e.drop d).take (n*z)).flatMap (Go.Ix.reach m.get (k+1))
  |_=>[id])=[id]
 rw[g];show id::((e.drop d).take (n*z)).flatMap (Go.Ix.reach m.get (k+1))=[id];congr 1;rw[Y2];exact λa h=>vV m.get k (dG.mp Z a (NY (tK h)))
def GkL{α:Type}(z:Nat)(b:α->List AV)(ok:Id->Prop)(m:Mem)(a:AV)(l:List α):Prop:=
 a=.aN (l.flatMap b) l.length true\/∃id d,ok id/\a=.sref id d 0 l.length z true/\m.get id=some (.row (l.flatMap b) d false)
def GkL.frame{α:Type}{z:Nat}{b:α->List AV}{a:AV}{l:List α}{ok:Id->Prop}{m m':Mem}(h:GkL z b ok m a l)(d:∀id,ok id->m'.get id=m.get id):GkL z b ok m' a l:=by
 rcases h with h|⟨id,ver,h0,h1,h2⟩
 .exact Or.inl h
 .exact Or.inr ⟨id,ver,h0,h1,by rw[d _ h0];exact h2⟩
def GkL.app{α:Type}{z:Nat}{b:α->List AV}{a:AV}{l:List α}(n:∀x,(b x).length=z)(p:0<z){bytes:Nat}{ok:Id->Prop}{id0:Id}{m:Mem}(f:ok id0)(g:cF (l.length+1) bytes)(h:GkL z b ok m a l)(x:α) :
    ∃i d,(∀{R:Type} (k:AV->Mem->Option R),cK z bytes id0 (some (b x,1)) a m k=k i d)/\GkL z b ok d i (l++[x])/\d.next=m.next/\∀j:Id,¬ok j->d.get j=m.get j:=by
 have o:=fN n l;rcases h with rfl|⟨id,ver,h1,rfl,hg⟩
 .refine⟨.sref id0 0 0 (l.length+1) z true,m.new id0 (.row (l.flatMap b++b x) 0 false),λk=>?_,Or.inr ⟨id0,0,f,by simp,by simp⟩,rfl,λj e=>?_⟩
  .simp only[cK];rw[aF (by omega),aB (by omega),aF g,dT (by omega)]
  .rw[Mem.dI,aB (by rintro rfl;exact e f)]
 .refine⟨.sref id (ver+1) 0 (l.length+1) z true,m.set id (.row (l.flatMap b++b x) (ver+1) false),λk=>?_,Or.inr ⟨id,ver+1,h1,by simp,by simp⟩,rfl,λj e=>?_⟩
  .simp only[cK,hg];rw[aF ⟨trivial,trivial,by omega,g⟩,aB (by omega),aB (by rw[o,lU];omega),bF,dT (by omega)]
  .rw[Mem.bG,aB (by rintro rfl;exact e h1)]
def GkL.frz{α:Type}{z:Nat}{b:α->List AV}{a:AV}{l:List α}(e:∀x,(b x).length=z)(Z:∀x,(b x).all aP=true){ok:Id->Prop}{k:Nat}{m:Mem}(h:GkL z b ok m a l):∃d,Sl b d l/\Go.Ix.frz m.get (k+2) a=some d:=by
 have j:=fN e l;rcases h with rfl|⟨id,ver,_,rfl,hg⟩
 .have g:Sl b (.aN (l.flatMap b) l.length true) l:=Or.inr ⟨true,rfl⟩;have i:bD (.aN (l.flatMap b) l.length true)=true:=(by simp[bD]);exact⟨_,g,kA m.get k i⟩
 .refine⟨.aN (l.flatMap b) l.length false,Sl.lit l false,?_⟩
  have:=rP (aD:=m.get) (id:=id) (cs:=l.flatMap b) (ver:=ver) (off:=0) (n:=l.length) (z:=z) (k:=k) (f:=false) (x:=true) hg (by omega) (by
   rw[bF,dT (by omega)];exact pC Z l)
  rw[bF,dT (by omega)]at this;exact this
def OO(n:Int):Prop:=-9223372036854775808<=n/\n<=9223372036854775807
def Edge.i64(e:Edge):Prop:=OO e.fr/\OO e.to/\OO e.jump/\OO e.wt
def fj:∀(k u:Nat),(gC k u).length<=k
 |0,u=>bS _
 |k+1,u=>by
  unfold gC;split
  .simp
  .have:=fj k (u / 10);simp;omega
def fp(n:Int):(jC n).length<=21:=by
 unfold jC;split
 .have:=fj 20 n.natAbs;simp;omega
 .have:=fj 20 n.toNat;omega
def yct(d:Nat)(Z:FHs){a:Id}{T s:List UInt8}{m:Mem}(h:m.get a=some (.bld mF eI T))(b:T.length+s.length<=1099511627776) :
    aG (d+1) Z DQ [.ptr a 0 0,Tx s] m=some (.tup [I s.length,.sc .nilIface],m.set a (.bld mF eI (T++s))):=by
 have e:aG (d+1) Z DQ [.ptr a 0 0,Tx s] m=(vR mF eI m.get [.ptr a 0 0,Tx s]).map λp=>(p.1,m.set p.2.1 p.2.2):=by kernel_rfl
 have f:vR mF eI m.get [.ptr a 0 0,Tx s]=(match m.get a with
  |some (.bld g i l)=>if g=mF/\i=eI/\l.length+(⟨s.toArray⟩:ByteArray).size<=1099511627776 then some (.tup [.sc (.int .i64 (⟨s.toArray⟩:ByteArray).size),.sc .nilIface],a,.bld mF eI (l++s))else none
  |_=>none):=rfl
 rw[e,f,h];simp only
 rw[aF ⟨trivial,trivial,by rw[tZ];exact b⟩,tZ];rfl
def yc9(d:Nat)(Z:FHs){a:Id}{T:List UInt8}{m:Mem}(h:m.get a=some (.bld mF eI T))(b:T.length<=1099511627776) :
    aG (d+1) Z DR [.ptr a 0 0] m=some (Tx T,⟨[],m.next⟩):=by
 have e:aG (d+1) Z DR [.ptr a 0 0] m=(vS mF eI m.get [.ptr a 0 0]).map λv=>(v,⟨[],m.next⟩):=by kernel_rfl
 have f:vS mF eI m.get [.ptr a 0 0]=(match m.get a with
  |some (.bld g i l)=>if g=mF/\i=eI/\l.length<=1099511627776 then some (Tx l)else none
  |_=>none):=rfl
 rw[e,f,h];simp only
 rw[aF ⟨trivial,trivial,b⟩];rfl
theorem x1q(n:Int):cY 0 [I n]=2:=rfl
def x75{n:Nat}{id:Id}{v o:Nat}(h:id.1<n):dJ (some n) (tR (.ptr id v o)) 2=true:=by simp[dJ,tR,h]
def wY(n:Nat)(x:Ent):List UInt8:=jC (iS n x)++[32]++x.by_++[32]++x.tx++[10]
def iI:Nat->List Ent->List UInt8
 |_,[]=>[]
 |n,x::r=>wY n x++iI (iS n x) r
def xiv(n:Nat){x:Ent}(h:Br10 x):(wY n x).length<=2100:=by have:=fp (iS n x);obtain⟨a,b⟩:=h;unfold wY;simp;omega
def xg0:∀(L:List Ent) (n:Nat),(∀x∈L,Br10 x)->(iI n L).length<=2100*L.length
 |[],n,_=>by simp[iI]
 |x::r,n,h=>by
  have b:=xiv n (h x (by simp));have d:=xg0 r (iS n x) λy a=>h y (dU _ a)
  unfold iI;rw[eT,dW];omega
def xgv(d:Nat){bid:Id}(h:bid.2.2=5){a:AV}{L:List Ent}(K:Sl Ent.c a L)(M:∀x∈L,Br10 x)(Q:L.length<=1000):∀(i:List Ent) (k j n:Nat) (T:List UInt8) (m:Mem) (Y:Nat),L.drop k=i->i.length<j->n<998244353->T.length<=2100*k->k<=L.length->0<m.next->m.get bid=some (.bld mF eI T) ->
    ∃w,AP (aG (d+2)) [] 0 j (.ptr bid 0 0) (I n) a (I L.length) (I k) m Y=some (.tup [Tx (T++iI n i),I 0],w)
 |[],k,j,n,T,m,Y,l,u,E,hT,F,H,J=>by obtain⟨j,rfl⟩:=dD u;have o:¬((k:Int)<(L.length:Int)):=(by have:=gF.mp l;omega);simp only[AP];unfold WG zo;simp only[bV,o,bO,aC,aT,yc9 (d+1) [] J (by omega)];exact⟨_,by rw[iI,hW]⟩
 |e::r,k,j,n,T,m,Y,l,u,E,hT,F,H,J=>by
  obtain⟨j,rfl⟩:=dD u;obtain⟨o,N,l⟩:=gB l;have hk':(k:Int)<(L.length:Int):=(by omega);have ix:=K.ix Ent.len o;have ld:=cu (m:=m) o;rw[N]at ld;have y:=M e (by rw[<-N];exact eU o);have R:=gJ k (by omega);obtain⟨t,f⟩:∃t:Mem,t=m.new (0,Y+3,8) (.row [Tx [],Tx []] 0 false):=⟨_,rfl⟩;have W:t.get (0,Y+3,8)=some (.row [Tx [],Tx []] 0 false):=(by rw[f,Mem.dI,aF rfl]);obtain⟨b,g⟩:∃b:Mem,b=t.set (0,Y+3,8) (.row (cH [Tx [],Tx []] 0 (AV.agg e.c).cells) 0 false):=⟨_,rfl⟩;have A:b.get (0,Y+3,8)=some (.row e.c 0 false):=(by rw[g,Mem.bG,aF rfl];rfl);have p:bid≠(0,Y+3,8):=(by rintro rfl;cases h);have X:b.get bid=some (.bld mF eI T):=(by rw[g,Mem.bG,aB p,f,Mem.dI,aB p];exact J);have n2:b.next=m.next:=(by rw[g,f];rfl);have Z:aA true 2 (.ptr (0,Y+3,8) 0 0) b=some (.agg e.c):=(by rw[aQ A];rfl);have l0:aA false 1 (.ptr (0,Y+3,8) 0 0) b=some (Tx e.by_):=(by rw[aQ A];rfl);have l1:aA false 1 (.ptr (0,Y+3,8) 0 1) b=some (Tx e.tx):=(by rw[aQ A];rfl);have C:=A9 E e;have D:=λm=>YZ (d+1) (n:=(iS n e:Nat)) (by omega) (by omega) m
  have l:=l;have hdl:=fp (iS n e);obtain⟨O,P⟩:=y;have hel:=xiv n (x:=e) ⟨O,P⟩;simp only[AP];unfold WG;simp only[bV,hk',bB,aS,aC,ix,ld,lQ,K9];rw[<-f,iB (z:=2) (x:=.agg e.c) W rfl (by simp) rfl,<-g,show(AV.sc (.string ⟨#[10]⟩))=Tx [10]from rfl,show(AV.sc (.string ⟨#[32]⟩))=Tx [32]from rfl];simp only[Z,aC,xbi (d+1) E (Br10.sh (x:=e) ⟨O,P⟩),D,cW,bW,nK,l0,l1];rw[yB _ _ (by(try simp only[dW,jA]);omega)];simp only[aC];rw[yB _ _ (by(try simp only[eT,dW,jA]);omega)];simp only[aC];rw[yB _ _ (by(try simp only[eT,dW,jA]);omega)];simp only[aC];rw[yB _ _ (by(try simp only[eT,dW,jA]);omega)];simp only[aC];rw[yB _ _ (by(try simp only[eT,dW,jA]);omega)];simp only[aC];rw[show jC (iS n e)++[32]++e.by_++[32]++e.tx++[10]=wY n e from rfl,yct (d+1) [] X (by omega)];simp only[aC,x1q,x75 (n:=b.next) (id:=(0,Y+3,8)) (by show 0<b.next;omega),show Nat.ble 1 2=true from rfl,xV,bC,dS,R];obtain⟨w,h'⟩:=xgv d h K M Q r (k+1) j (iS n e) (T++wY n e) (b.set bid (.bld mF eI (T++wY n e))) (Y+23) l (by simp at u;omega) C (by rw[eT];omega) (by omega) (by show 0<b.next;omega) (by rw[Mem.bG,aF rfl]);refine⟨w,?_⟩;rw[h',iI,kU]
def xpc(d:Nat){a:AV}{L:List Ent}(b:Sl Ent.c a L)(e:∀x∈L,Br10 x)(g:L.length<=1000)(m:Mem):aI (aG (d+7)) FK [a] m=some (.tup [Tx (if wZ L=0 then iI 1 L else[]),I (wZ L)],m):=by
 refine Ans.rT (m:=m) ?_ (by simp[b.bD]) rfl;unfold Ans;rw[ybw];unfold rn bQ WF;dsimp only
 simp only[mem0,xoy d b e (by omega),aC,fS];by_cases f:wZ L=0
 .simp only[f,bB,cE,aT,cI];unfold zn ae;simp only[b.len lM,aC];exact xgv (d+4) (bid:=(0,0+7,5)) rfl b e g L 0 NN 1 [] _ _ rfl (by rw[dB];omega) (by omega) (by simp) (by omega) (by show 0<0+1;omega) (by rw[Mem.dI,aF rfl];rfl)
 .simp only[f,bO,cC,aS,cU];exact⟨_,rfl⟩
def bH:List UInt8->List UInt8×List UInt8×Bool
 |[]=>([],[],false)
 |x::r=>if x=32 then([],r,true)else((x::(bH r).1),(bH r).2.1,(bH r).2.2)
def ft:∀{l:List UInt8},(32:UInt8)∉l->bH l=(l,[],false)
 |[],_=>rfl
 |x::r,h=>by unfold bH;rw[aB (λe=>h (by rw[e];exact eS)),ft λe=>h (dU _ e)]
def W8:∀{l:List UInt8} (k:List UInt8),(32:UInt8)∉l->bH (l++32::k)=(l,k,true)
 |[],k,_=>by show bH (32::k)=_;rw[bH,aF rfl]
 |x::r,k,h=>by rw[iO,bH,aB (λe=>h (by rw[e];exact eS)),W8 k λe=>h (dU _ e)]
def x7l(l:List UInt8):((32:UInt8)∉l/\bH l=(l,[],false))\/∃a b,(32:UInt8)∉a/\l=a++32::b/\bH l=(a,b,true):=by
 rcases V5 32 l with ⟨g,d⟩|⟨i,g,d,e,f⟩
 .exact .inl ⟨d,ft d⟩
 .refine .inr ⟨l.take i,l.drop (i+1),e,?_,?_⟩
  .rw[<-f,vH]
  .conv=>lhs;rw[<-vH i l,f]
   exact W8 _ e
def tD(l:List UInt8):(bH l).1.length<=l.length/\(bH l).2.1.length<=l.length:=by
 rcases x7l l with ⟨h,e⟩|⟨a,b,h,d,e⟩
 .rw[e];simp
 .rw[e,d];simp;omega
def L6(d:Nat)(l:List UInt8)(t:l.length<=100000)(m:Mem):aI (aG (d+5)) pR [Tx l,Tx [32]] m=some (.tup [Tx (bH l).1,Tx (bH l).2.1,B (bH l).2.2],m):=by
 have h:∀m,aI (aG (d+3)) E8 [Tx l,Tx [32]] m=some (I (Lib.indexByte l 32),m):=by
  intro m;refine Ans.eR (m:=m) ?_ rfl rfl;unfold Ans;rw[xjv];unfold OZ aU JE;have e:kZ prog bN (Tx [32]) (I 0)=some (U8 (32:UInt8).toNat):=YV (k:=0) (l:=[32]) (by simp);have a:eD (Tx [32])=some (I 1):=hZ [32];simp only[mem0,a,aC,iD,fA,dO,show decide ((1:Int)=0)=false from rfl,dQ,cC,bC,oT,cS,cT];by_cases g:[32]=l
  .subst g;have:Lib.indexByte [32] 32=0:=(by simp[Lib.indexByte]);rw[this];simp only[bB,aS];exact⟨_,rfl⟩
  .simp only[g,bO,aT,e,aC,ZA];exact⟨_,rfl⟩
 have b:∀m,aI (aG (d+4)) FV [Tx l,Tx [32]] m=some (.tup [Tx (bH l).1,Tx (bH l).2.1,B (bH l).2.2],m):=by
  intro m;refine Ans.rT (m:=m) ?_ rfl rfl;unfold Ans;rw[ycc];unfold sk aU XE;rw[show(AV.sc (.string ⟨#[]⟩))=Tx []from rfl];simp only[mem0,h,aC,sG];rcases V5 32 l with ⟨f,b⟩|⟨i,f,b,p,r⟩
  .rw[f,ft b];simp only[show decide ((0:Int)<=-1)=false from rfl,aT];exact⟨_,rfl⟩
  .rw[f];have j:bH l=(l.take i,l.drop (i+1),true):=by
    conv=>lhs;rw[<-vH i l,r]
    exact W8 _ p
   have n:(0:Int)<=(i:Int):=(by omega);have a:eD (Tx [32])=some (I 1):=hZ [32];have o:=gJ i (by omega);simp only[n,bB,aS,y5 (show i<=l.length by omega),aC,a,dS,o,BT (show i+1<=l.length by omega),j];exact⟨_,rfl⟩
 refine Ans.rT (m:=m) ?_ rfl rfl;unfold Ans;rw[x8m];unfold ko aU PO;dsimp only
 simp only[b,aC,lY,kG,kH];exact⟨_,rfl⟩
def gA(p:List UInt8):Ent:=⟨(bH (bH p).2.1).1,(bH (bH p).2.1).2.1⟩
def oZ(n:Nat)(p:List UInt8):Bool:=(bH p).2.2&&(bH (bH p).2.1).2.2&&nmL (gA p).by_&&decide ((gA p).tx.length<=200)&&decide ((bH p).1=jC (iS n (gA p)))
def x6u{p:List UInt8}(h:p.length<=1000):Br10 (gA p):=by have a:=tD p;have b:=tD (bH p).2.1;exact⟨by show(bH (bH p).2.1).1.length<=1000;omega,by show(bH (bH p).2.1).2.1.length<=1000;omega⟩
abbrev StR:=Nat×List Ent×Nat
def kD(q:StR)(l:List UInt8):Option StR:=if nG l&&oZ q.1 l.dropLast&&!decide (q.2.1.length=40)then some (iS q.1 (gA l.dropLast),q.2.1++[gA l.dropLast],q.2.2+l.length)else none
def pB:StR->List (List UInt8)->StR
 |q,[]=>q
 |q,l::r=>match kD q l with
  |some a=>pB a r
  |none=>q
def sJ:StR->List (List UInt8)->Option StR
 |q,[]=>some q
 |q,l::r=>match kD q l with
  |some a=>sJ a r
  |none=>none
def dz:∀(b:List (List UInt8)) {q d:StR} (a:List (List UInt8)),sJ q b=some d->pB q (b++a)=pB d a
 |[],q,d,a,h=>by cases h;rfl
 |l::r,q,d,a,h=>by
  unfold sJ at h;rw[iO];conv=>lhs;unfold pB
  cases Z:kD q l with
  |none=>rw[Z]at h;cases h
  |some e=>rw[Z]at h;exact dz r a h
def xef:∀(b:List (List UInt8)) {q d e:StR} {l:List UInt8},sJ q b=some d->kD d l=some e->sJ q (b++[l])=some e
 |[],q,d,e,l,h,f=>by cases h;rw[iX];unfold sJ;rw[f];rfl
 |a::r,q,d,e,l,h,f=>by
  unfold sJ at h;rw[iO];unfold sJ;cases Z:kD q a with
  |none=>rw[Z]at h;cases h
  |some g=>rw[Z]at h;exact xef r h f
def xrb{q b:StR}{l:List UInt8}(h:kD q l=some b):nG l=true/\oZ q.1 l.dropLast=true/\q.2.1.length≠40/\b=(iS q.1 (gA l.dropLast),q.2.1++[gA l.dropLast],q.2.2+l.length):=by
 unfold kD at h;split at h
 .rename_i a;simp only[cR,PD,decide_eq_false_iff_not]at a;exact⟨a.1.1,a.1.2,a.2,(oM h).symm⟩
 .cases h
structure RdI (q:StR) (k:Nat):Prop where
 n:q.1<998244353
 l:q.2.1.length=k
 t:q.2.2<=1001*k
def ba:∀(a:List (List UInt8)) {q b:StR} {k:Nat},RdI q k->(∀l∈a,l.length<=1001)->sJ q a=some b->RdI b (k+a.length)
 |[],q,b,k,h,_,e=>by cases e;exact h
 |l::r,q,b,k,h,d,e=>by
  unfold sJ at e;cases Z:kD q l with
  |none=>rw[Z]at e;cases e
  |some i=>rw[Z]at e;obtain⟨-,-,-,rfl⟩:=xrb Z;have g:=d l (by simp);have:=ba r (k:=k+1) ⟨A9 h.n _,by show(q.2.1++[gA l.dropLast]).length=k+1;rw[eT,h.l];rfl,by show q.2.2+l.length<=1001*(k+1);have:=h.t;omega⟩ (λx f=>d x (dU _ f)) e;rw[dW,show k+(r.length+1)=k+1+r.length by omega];exact this
def U9{m:Mem}{id:Id}{x:AV}(h:m.get id=some (.row [x] 0 false))(a:x.one=true):aA false 1 (.ptr id 0 0) m=some x:=by simp[h]
def okR:Id->Prop:=λid=>id.2.2=81
structure MR (lid:Id) (q:StR) (m:Mem):Prop where
 o:∃v,m.get (0,6,5)=some (.row [v] 0 false)/\Gk 2 Ent.c okR m v q.2.1
 s:m.get (0,7,6)=some (.row [I q.1] 0 false)
 t:m.get (0,8,7)=some (.row [I q.2.2] 0 false)
 nx:2<=m.next
def xfx{R:Type}(x:Ent)(id:Id)(m:Mem)(K:AV->Mem->Option R):cV oR [(0,2,.agg x.c)] 1 2 id m K=K (.aN x.c 1 true) m:=by rw[K9];rfl
def yef{R:Type}(id:Id)(m:Mem)(K:AV->Mem->Option R):dH oR id m K=K (.ptr id 0 0) (m.new id (.row [Tx [],Tx []] 0 false)):=by rw[K9];rfl
def ydt(a b:List UInt8):dA oR [(0,1,Tx a),(1,1,Tx b)]=some (.agg [Tx a,Tx b]):=by rw[K9];rfl
theorem xix(a:Id->Option Ob)(x:Ent):elems a 2 (.aN x.c 1 true)=some (x.c,1):=rfl
def x48(d:Nat)(u:Nat)(hu:1<=u){f:Id}(h0:f.2.2=1)(h00:f.1=0){w:List UInt8}(hw:w.length<=1001){q:StR}{k:Nat}(hk:k<=70000)(hi:RdI q k){m:Mem}(h:MR f q m)(hlp:m.get f=some (.lp none)) :
    ∃g,JA (aG (d+8)) [] u f (.ptr (0,6,5) 0 0) (.ptr (0,7,6) 0 0) (.ptr (0,8,7) 0 0) (Tx w) m 0=some g /\
     (match kD q w with
      |some q'=>MR f q' g/\g.get f=some (.lp none)/\g.get (1,0,1)=m.get (1,0,1)
      |none=>MR f q g/\g.get f=some (.lp (some (.exit 0)))):=by
 obtain⟨⟨v,ho,hG⟩,Z,ht,nx⟩:=h;obtain⟨hn,hl,htk⟩:=hi;have hlpn:kX f m=some m:=(by unfold kX wK;rw[hlp];rfl);have i:∀j:Id,j.2.2≠1->j≠f:=λj F e=>F (by rw[e];exact h0)
 have hcs:=λm=>xpp (d+5) (l:=w) (by omega) m
 obtain⟨p,hp⟩:∃p,p=if nG w=true then w.dropLast else w:=⟨_,rfl⟩
 have hpl:p.length<=1001:=by
  rw[hp];split
  .rw[List.length_dropLast];omega
  .exact hw
 simp only[<-hp]at hcs;have hc1:=λm=>L6 (d+3) p (by omega) m
 have hcl:=tD p;have hcl2:=tD (bH p).2.1;have hc2:=λm=>L6 (d+3) (bH p).2.1 (by omega) m
 have hsh:iv (gA p):=⟨by show(bH (bH p).2.1).1.length<=60005;omega,by show(bH (bH p).2.1).2.1.length<=60005;omega⟩;have hsd:=λm=>xbi (d+7) hn hsh m
 have hlt:=A9 hn (gA p);have Q:=λm=>YZ (d+7) (n:=(iS q.1 (gA p):Nat)) (by omega) (by omega) m
 obtain⟨m1,J⟩:∃m1:Mem,m1=m.new (u,29,16) (.row [Tx [],Tx []] 0 false):=⟨_,rfl⟩;have g1:m1.get (u,29,16)=some (.row [Tx [],Tx []] 0 false):=(by rw[J,Mem.dI,aF rfl]);obtain⟨g,L⟩:∃g:Mem,g=m1.set (u,29,16) (.row (cH [Tx [],Tx []] 0 (AV.agg (gA p).c).cells) 0 false):=⟨_,rfl⟩;have g2:g.get (u,29,16)=some (.row (gA p).c 0 false):=(by rw[L,Mem.bG,aF rfl];rfl);have f2:∀j:Id,j≠(u,29,16)->g.get j=m.get j:=λj F=>by rw[L,Mem.bG,aB F,J,Mem.dI,aB F]
 have W:g.get (0,6,5)=some (.row [v] 0 false):=(by rw[f2 _ (by simp)];exact ho);have X:g.get (0,7,6)=some (.row [I q.1] 0 false):=(by rw[f2 _ (by simp)];exact Z);have Y:g.get (0,8,7)=some (.row [I q.2.2] 0 false):=(by rw[f2 _ (by simp)];exact ht);have hl2:g.get f=some (.lp none):=(by rw[f2 _ (i _ (by simp)).symm];exact hlp);have hb2:g.get (1,0,1)=m.get (1,0,1):=f2 _ (by simp);have H:Gk 2 Ent.c okR g v q.2.1:=hG.frame λj F=>f2 j (by rintro rfl;cases F)
 have hn2:g.next=m.next:=(by rw[L,J];rfl);have lo:aA false 1 (.ptr (0,6,5) 0 0) g=some v:=U9 W hG.one.2;have ls:aA false 1 (.ptr (0,7,6) 0 0) g=some (I q.1):=U9 X rfl;have lt:aA false 1 (.ptr (0,8,7) 0 0) g=some (I q.2.2):=U9 Y rfl;have lx:aA true 2 (.ptr (u,29,16) 0 0) g=some (.agg (gA p).c):=(by rw[aQ g2];rfl);have N:aM prog gX v=some (I q.2.1.length):=by
  rcases H with ⟨h1,h2⟩|⟨id,ver,_,h1,_⟩
  .rw[h1,h2];exact U7 lM
  .rw[h1];rfl
 have r:kD q w=none->∃A,lN f (.exit 0) g=some A/\(match kD q w with
  |some q'=>MR f q' A/\A.get f=some (.lp none)/\A.get (1,0,1)=m.get (1,0,1)
  |none=>MR f q A/\A.get f=some (.lp (some (.exit 0)))):=λP=>by
  rw[P]
  refine⟨g.set f (.lp (some (.exit 0))),by unfold lN wK;rw[hl2];rfl,⟨⟨v,by rw[Mem.bG,aB (i _ (by simp))];exact W,H.frame λj F=>by rw[Mem.bG,aB (i _ (by rw[F];decide))]⟩,by rw[Mem.bG,aB (i _ (by simp))];exact X,by rw[Mem.bG,aB (i _ (by simp))];exact Y,by show 2<=g.next;omega⟩,by rw[Mem.bG,aF rfl]⟩
 unfold JA zl;rw[show(AV.sc (.string ⟨#[10]⟩))=Tx [10]from rfl,show(AV.sc (.string ⟨#[32]⟩))=Tx [32]from rfl];simp only[hlpn,aC,hcs,lY,kG,kH,hc1,hc2,ydt,yef,Nat.reduceAdd];rw[<-J,show(AV.agg [Tx (bH (bH p).2.1).1,Tx (bH (bH p).2.1).2.1])=AV.agg (gA p).c from rfl,iB (z:=2) (x:=.agg (gA p).c) g1 rfl (by simp) rfl,<-L];simp only[ls,lx,aC,hsd,eG];have hst0:nG w=false->kD q w=none:=λe=>by unfold kD;rw[e];rfl
 cases he:nG w with
 |false=>simp only[cC,fA,dO,fI,dQ,cE,cT,aC,cS,bC,aS];exact r (hst0 he)
 |true=>
  have hpe:p=w.dropLast:=(by rw[hp,aF he]);have t:kD q w=if oZ q.1 p&&!decide (q.2.1.length=40)then some (iS q.1 (gA p),q.2.1++[gA p],q.2.2+w.length)else none:=by unfold kD;rw[he,<-hpe,gW]
  have o:oZ q.1 p=false->kD q w=none:=λe=>by rw[t,e];rfl
  have y:(gA p).by_.length<=1000->∀m,aI (aG (d+8)) wE [Tx (bH (bH p).2.1).1] m=some (B (nmL (gA p).by_),m):=λhb m=>xbk (d+7) hb m
  have hnl:=x6u (p:=p) (by rw[hpe,List.length_dropLast];omega);have y:=y hnl.1;cases o1:(bH p).2.2 with
  |false=>simp only[cE,cC,fA,dO,fI,dQ,cT,aC,cS,bC,aS,eG];exact r (o (by unfold oZ;rw[o1];rfl))
  |true=>
   cases o2:(bH (bH p).2.1).2.2 with
   |false=>simp only[cE,cC,fA,dO,fI,dQ,cT,aC,cS,bC,aS,eG];exact r (o (by unfold oZ;rw[o1,o2];rfl))
   |true=>
    cases M:nmL (gA p).by_ with
    |false=>simp only[cE,cC,fA,dO,fI,dQ,cT,aC,cS,bC,aS,eG,y,M];exact r (o (by unfold oZ;rw[o1,o2,M];rfl))
    |true=>
     by_cases c4:(gA p).tx.length<=200
     .have c4':¬(200:Int)<((bH (bH p).2.1).2.1.length:Int):=(by have:(bH (bH p).2.1).2.1.length<=200:=c4;omega);by_cases c5:(bH p).1=jC (iS q.1 (gA p))
      .have hok:oZ q.1 p=true:=(by unfold oZ;rw[o1,o2,M,eX c4,eX c5];rfl);by_cases c6:q.2.1.length=40
       .have c6':((q.2.1.length:Int)=40):=(by omega);simp only[cE,cC,fA,dO,fI,dQ,cT,aC,cS,bC,aS,eG,y,M,hZ,fT,c4',bO,Q,BU,c5,bB,lo,N,iD,c6'];exact r (by rw[t,hok,eX c6];rfl)
       .have c6':¬((q.2.1.length:Int)=40):=(by omega);have P:kD q w=some (iS q.1 (gA p),q.2.1++[gA p],q.2.2+w.length):=(by rw[t,hok,fU c6];rfl);obtain⟨v',O,A5,G5,p1,p2,n5,f5⟩:=Gk.app (ok:=okR) (l:=q.2.1) (bytes:=32) (id0:=(u,69,81)) Ent.len (by omega) rfl (by unfold cF;omega) H (gA p);have ho5:O.get (0,6,5)=some (.row [v] 0 false):=(by rw[f5 _ (by unfold okR;simp)];exact W);have hs5:O.get (0,7,6)=some (.row [I q.1] 0 false):=(by rw[f5 _ (by unfold okR;simp)];exact X);have ht5:O.get (0,8,7)=some (.row [I q.2.2] 0 false):=(by rw[f5 _ (by unfold okR;simp)];exact Y);have lt5:aA false 1 (.ptr (0,8,7) 0 0) O=some (I q.2.2):=U9 ht5 rfl;have w1:cJ ((q.2.2:Int)+(w.length:Int))=((q.2.2+w.length:Nat):Int):=(by rw[bU];omega);obtain⟨m6,C⟩:∃m6:Mem,m6=O.set (0,6,5) (.row [v'] 0 false):=⟨_,rfl⟩;obtain⟨m7,D⟩:∃m7:Mem,m7=m6.set (0,7,6) (.row [I (iS q.1 (gA p))] 0 false):=⟨_,rfl⟩;obtain⟨m8,E⟩:∃m8:Mem,m8=m7.set (0,8,7) (.row [I (q.2.2+w.length:Nat)] 0 false):=⟨_,rfl⟩;have s6:∀{R:Type} (K:Mem->Option R),bA 1 (.ptr (0,6,5) 0 0) v' O K=K m6:=λK=>by rw[iB (z:=1) (x:=v') ho5 (by rw[p1];rfl) (by simp) (by rw[p1];simp[p2]),p1,C];rfl
        have s7:∀{R:Type} (K:Mem->Option R),bA 1 (.ptr (0,7,6) 0 0) (I (iS q.1 (gA p))) m6 K=K m7:=λK=>by rw[iB (z:=1) (x:=I (iS q.1 (gA p))) (m:=m6) (by rw[C,Mem.bG,aB (by simp)];exact hs5) rfl (by simp) rfl,D];rfl
        have s8:∀{R:Type} (K:Mem->Option R),bA 1 (.ptr (0,8,7) 0 0) (I (q.2.2+w.length:Nat)) m7 K=K m8:=λK=>by rw[iB (z:=1) (x:=I (q.2.2+w.length:Nat)) (m:=m7) (by rw[D,Mem.bG,aB (by simp),C,Mem.bG,aB (by simp)];exact ht5) rfl (by simp) rfl,E];rfl
        have f8:∀j:Id,j≠(0,6,5)->j≠(0,7,6)->j≠(0,8,7)->m8.get j=O.get j:=λj a b c=>by rw[E,Mem.bG,aB c,D,Mem.bG,aB b,C,Mem.bG,aB a]
        have hl8:m8.get f=some (.lp none):=(by rw[f8 _ (i _ (by simp)).symm (i _ (by simp)).symm (i _ (by simp)).symm,f5 _ (by unfold okR;rw[h0];decide)];exact hl2);have ap1:aZ (tR (.ptr (0,6,5) 0 0)) (some [],some [(u,68,80)])=true:=(by simp[tR,aZ,jP]);have ap2:aZ (some [],some [(u,68,80)]) (tR (.ptr (0,8,7) 0 0))=true:=(by simp[tR,aZ,jP]);have ap3:aZ (tX (.aN (gA p).c 1 true),tA (u,69,81) v) (tR (.ptr (0,8,7) 0 0))=true:=by
         rcases H with ⟨rfl,_⟩|⟨id,ver,hid,rfl,_⟩
         .simp[tX,tA,tR,aZ,jP]
         .have:((0,8,7):Id)≠id:=(by rintro rfl;cases hid);simp[tX,tA,tR,aZ,jP,this]
        have ap4:aZ (tR (.ptr (0,8,7) 0 0)) (tS (.ptr (0,6,5) 0 0))=true:=(by simp[tR,tS,aZ,jP]);have ap5:aZ (tR (.ptr (0,8,7) 0 0)) (tS (.ptr (0,7,6) 0 0))=true:=(by simp[tR,tS,aZ,jP]);rw[P];simp only[cE,cC,fA,dO,fI,dQ,cT,aC,cS,bC,aT,eG,y,M,hZ,fT,c4',bO,Q,BU,c5,bB,lo,N,iD,c6',lx];simp only[xfx,xix,A5,lt5,aC,dS,w1,s6,s7,s8,ap1,ap2,ap3,ap4,ap5,iL,bC];refine⟨m8,by unfold kX wK;rw[hl8];rfl,⟨⟨v',by rw[E,Mem.bG,aB (by simp),D,Mem.bG,aB (by simp),C,Mem.bG,aF rfl],G5.frame λj F=>f8 j (by rintro rfl;cases F) (by rintro rfl;cases F) (by rintro rfl;cases F)⟩,by rw[E,Mem.bG,aB (by simp),D,Mem.bG,aF rfl],by rw[E,Mem.bG,aF rfl],by rw[E,D,C];show 2<=O.next;omega⟩,hl8,?_⟩;rw[f8 _ (by simp) (by simp) (by simp),f5 _ (by unfold okR;simp)];exact hb2
      .simp only[cE,cC,fA,dO,fI,dQ,cT,aC,cS,bC,aS,eG,y,M,hZ,fT,c4',bO,Q,BU,c5];exact r (o (by unfold oZ;rw[o1,o2,M,eX c4,fU c5];rfl))
     .have c4':(200:Int)<((bH (bH p).2.1).2.1.length:Int):=(by have:¬(bH (bH p).2.1).2.1.length<=200:=c4;omega);simp only[cE,cC,fA,dO,fI,dQ,cT,aC,cS,bC,aS,eG,y,M,hZ,fT,c4',bB];exact r (o (by unfold oZ;rw[o1,o2,M,fU c4];rfl))
end Go.Ix
namespace Go.Ix
open Go.Proofs
variable{pid rid:Id}{pre:List AV}
end Go.Ix
namespace Go.Ix
open Go.Proofs
variable{A pa ea:AV}{W:List Bd}{J:List Pn}{C:List Pe}{E O:Int}
def cg{R:Type}{s:ByteArray}{id:Id}{m:Mem}{k:AV->Mem->Option R}:cV pG [(0,1,T s)] 1 1 id m k=k (.aN [T s] 1 true) m:=by rw[YJ];exact xfz rfl rfl rfl
end Go.Ix
namespace Go.Ix
open Go.Proofs
variable{A pa ea:AV}{W:List Bd}{J:List Pn}{C:List Pe}{E O:Int}
def Bd.core(b:Bd):ByteArray×List Pl×Int:=(b.nm,b.cs,b.th)
def CpC(Y:Nat)(m:Mem)(a:AV)(b:List Pl):Prop:=(a=.aN [] 0 true/\b=[])\/∃s,s<Y/\a=.sref (0,s,26) 0 0 b.length 3 true/\m.get (0,s,26)=some (.row (b.flatMap Pl.c) 0 false)
def CpC.mono{Y b:Nat}{m d:Mem}{a:AV}{e:List Pl}(h:CpC Y m a e)(g:Y<=b)(f:∀s,s<Y->d.get (0,s,26)=m.get (0,s,26)):CpC b d a e:=by
 rcases h with h|⟨s,h1,h2,h3⟩
 .exact .inl h
 .exact .inr ⟨s,by omega,h2,by rw[f s h1];exact h3⟩
def CpC.one{Y:Nat}{m:Mem}{a:AV}{b:List Pl}(h:CpC Y m a b):a.one=true/\a.cells=[a]:=by rcases h with ⟨rfl,-⟩|⟨s,-,rfl,-⟩<;>exact⟨rfl,rfl⟩
def CpC.frz{Y k:Nat}{m:Mem}{a:AV}{b:List Pl}(h:CpC Y m a b):∃d,Sl Pl.c d b/\Go.Ix.frz m.get (k+2) a=some d:=by
 rcases h with ⟨rfl,rfl⟩|⟨s,-,rfl,e⟩
 .exact⟨.aN [] 0 true,Or.inr ⟨true,rfl⟩,rfl⟩
 .exact⟨_,Sl.lit b false,G7 Pl.len Pl.bD e⟩
def qF(x:Bd×AV):List AV:=[T x.1.nm,x.2,I x.1.th]
theorem NO(x:Bd×AV):(qF x).length=3:=rfl
def ydx(l:List Bd):l.flatMap Bd.c=(l.map λb=>(b,b.ca)).flatMap qF:=by
 induction l with
 |nil=>rfl
 |cons b r a=>rw[dK,eN,dK,a];rfl
def xrg(L:List (Bd×AV))(k:Nat)(a:k<L.length)(v:AV):cH (L.flatMap qF) (k*3+1) [v]=(L.set k (L[k].1,v)).flatMap qF:=by
 induction L generalizing k with
 |nil=>simp at a
 |cons x r d=>
  cases k with
  |zero=>simp[cH,qF]
  |succ k=>have b:=d k (by simpa using a);simp only[cH,jg,dK,List.getElem_cons_succ]at b ⊢;rw[show(k+1)*3+1=(qF x).length+(k*3+1) by rw[NO];omega,HM,kU,oP,n9,mE (by omega),iX];rw[show(qF x).length+(k*3+1+[v].length)-(qF x).length=k*3+1+[v].length by omega,b]
def xa1:v8=[I 0,I 0,nilS,nilS,nilS]:=by kernel_rfl
def U5{R:Type}{z:List AV}{size:Nat}{id:Id}{m:Mem}{k:AV->Mem->Option R}:cV z [] 0 size id m k=k (.aN [] 0 true) m:=xf0
def CpL(Y:Nat)(m:Mem)(L:List (Bd×AV))(i:Nat):Prop:=∀(j:Nat) (h:j<L.length),if j<i then CpC Y m L[j].2 L[j].1.cs else L[j].2=L[j].1.ca
def xh7{k:Nat}{m:Mem}{Y:Nat}:∀{L:List (Bd×AV)},(∀x∈L,CpC Y m x.2 x.1.cs)->∃a:List Bd,a.map Bd.core=L.map (λx=>x.1.core)/\(L.flatMap qF).mapM (Go.Ix.frz m.get (k+2))=some (a.flatMap Bd.c)
 |[],_=>⟨[],rfl,rfl⟩
 |x::r,h=>by
  obtain⟨a,f,g⟩:=xh7 (k:=k) (L:=r) λy b=>h y (by simp[b])
  obtain⟨i,j,l⟩:=(h x (by simp)).frz (k:=k);refine⟨⟨x.1.nm,i,x.1.cs,x.1.th,j⟩::a,by rw[eN,eN,f];rfl,?_⟩;rw[dK,dK];have d:Go.Ix.frz m.get (k+2) (T x.1.nm)=some (T x.1.nm):=rfl;have e:Go.Ix.frz m.get (k+2) (I x.1.th)=some (I x.1.th):=rfl;show([T x.1.nm,x.2,I x.1.th]++r.flatMap qF).mapM _=_;simp only[iO,iX,eO,d,e,l,g,Bd.c];rfl
def x5n{a:Id->Option Ob}{id:Id}{d b:List AV}{n z k:Nat}{f x:Bool}(h:a id=some (.row d 0 f))(e:d.length=n*z)(Z:d.mapM (Go.Ix.frz a k)=some b):Go.Ix.frz a (k+1) (.sref id 0 0 n z x)=some (.aN b n false):=by simp only[Go.Ix.frz,h];rw[aF ⟨trivial,by omega⟩,bF,dT (by omega),Z];rfl
def BA(m:Mem)(v:AV)(L:List (Bd×AV)):Prop:=(v=.aN [] 0 true/\L=[])\/(v=.sref (0,5,7) 0 0 L.length 3 true/\m.get (0,5,7)=some (.row (L.flatMap qF) 0 false))
def BA.frame{m m':Mem}{v:AV}{L:List (Bd×AV)}(h:BA m v L)(a:m'.get (0,5,7)=m.get (0,5,7)):BA m' v L:=by
 rcases h with h|⟨h1,h2⟩
 .exact .inl h
 .exact .inr ⟨h1,by rw[a];exact h2⟩
def BA.len{m:Mem}{v:AV}{L:List (Bd×AV)}(h:BA m v L):aM prog lK v=some (I L.length):=by rcases h with ⟨rfl,rfl⟩|⟨rfl,-⟩<;>rfl
def BA.one{m:Mem}{v:AV}{L:List (Bd×AV)}(h:BA m v L):v.one=true/\v.cells=[v]:=by rcases h with ⟨rfl,rfl⟩|⟨rfl,-⟩<;>exact⟨rfl,rfl⟩
def BA.frz{k:Nat}{m:Mem}{Y:Nat}{v:AV}{L:List (Bd×AV)}(h:BA m v L)(e:∀x∈L,CpC Y m x.2 x.1.cs):∃b a,Sl Bd.c b a/\a.map Bd.core=L.map (λx=>x.1.core)/\Go.Ix.frz m.get (k+3) v=some b:=by
 rcases h with ⟨rfl,rfl⟩|⟨rfl,i⟩
 .exact⟨.aN [] 0 true,[],Or.inr ⟨true,rfl⟩,rfl,rfl⟩
 .obtain⟨a,d,g⟩:=xh7 (k:=k) e;have f:a.length=L.length:=(by simpa using congrArg List.length d);refine⟨.aN (a.flatMap Bd.c) L.length false,a,Or.inr ⟨false,by rw[f]⟩,d,?_⟩;exact x5n i (fN NO L) g
def KT{m:Mem}{id:Id}{d:List AV}{a:Nat}{v:AV}(e:m.get id=some (.row d 0 false))(b:v.one=true/\v.cells=[v])(f:a<d.length):∀{R:Type} (K:Mem->Option R),bA 1 (.ptr id 0 a) v m K=K (m.set id (.row (cH d a [v]) 0 false)):=λK=>by rw[iB (off:=a) (z:=1) (x:=v) (k:=K) e (by rw[b.2];rfl) (by omega) (by rw[b.2];simp[b.1]),b.2]
def tk(E O:Int)(W:List Bd)(J:List Pn)(C:List Pe)(r:AV):Prop:=∃a b d e,r=.agg [I E,I O,a,b,d]/\Sl Bd.c a e/\e.map Bd.core=W.map Bd.core/\Sl Pn.c b J/\Sl Pe.c d C
def xon(t:aJ){v:AV}{L:List (Bd×AV)}{Y:Nat}{m:Mem}(P:Sl Pn.c pa J)(h3:Sl Pe.c ea C)(hp:J.length<=1000000)(he:C.length<=1000000)(hL:L.map (·.1)=W)(u:BA m v L)(hc:∀x∈L,CpC Y m x.2 x.1.cs)(Q:m.get (0,0,1)=some (.row [I E,I O,v,pa,ea] 0 false))(g2:m.get (0,1,2)=some (.row v8 0 false)):RetF (tk E O W J C) (TQ t [] 0 (.ptr (0,0,1) 0 0) (.ptr (0,1,2) 0 0) m Y):=by
 have hr:cF J.length 40:=(by unfold cF;omega);have F:cF C.length 24:=(by unfold cF;omega);have a1:=λm=>zY Pn.len P hr (0,Y+3,32) m
 have a2:=λm=>zY Pe.len h3 F (0,Y+7,36) m
 have D:=P.tX;obtain⟨a,l,A1,o1,M,z1⟩:∃a l,(∀{R:Type} (k:AV->Mem->Option R),cK 4 40 (0,Y+3,32) (elems m.get 4 pa) (.aN [] 0 true) m k=k a l)/\(a.one=true/\a.cells=[a])/\(∀j:Id,j≠(0,Y+3,32)->l.get j=m.get j)/\(∀i:Mem,i.get (0,Y+3,32)=l.get (0,Y+3,32)->∃f,Sl Pn.c f J/\Go.Ix.frz i.get 5 a=some f):=by
  rcases a1 m with ⟨rfl,p⟩|⟨h0,p⟩
  .exact⟨_,m,p,⟨rfl,rfl⟩,λ_ _=>rfl,λi _=>⟨.aN [] 0 true,Or.inr ⟨true,rfl⟩,rfl⟩⟩
  .refine⟨_,_,p,⟨rfl,rfl⟩,λj y=>Mem.zL y,λi A=>⟨_,Sl.lit J false,G7 (k:=3) Pn.len Pn.bD ?_⟩⟩;rw[A,Mem.lF]
 obtain⟨ev,o,A2,o2,w,z2⟩:∃ev o,(∀{R:Type} (k:AV->Mem->Option R),cK 2 24 (0,Y+7,36) (elems l.get 2 ea) (.aN [] 0 true) l k=k ev o)/\(ev.one=true/\ev.cells=[ev])/\(∀j:Id,j≠(0,Y+7,36)->o.get j=l.get j)/\(∀i:Mem,i.get (0,Y+7,36)=o.get (0,Y+7,36)->∃g,Sl Pe.c g C/\Go.Ix.frz i.get 5 ev=some g):=by
  rcases a2 l with ⟨rfl,p⟩|⟨h0,p⟩
  .exact⟨_,l,p,⟨rfl,rfl⟩,λ_ _=>rfl,λi _=>⟨.aN [] 0 true,Or.inr ⟨true,rfl⟩,rfl⟩⟩
  .refine⟨_,_,p,⟨rfl,rfl⟩,λj y=>Mem.zL y,λi A=>⟨_,Sl.lit C false,G7 (k:=3) Pe.len Pe.bD ?_⟩⟩;rw[A,Mem.lF]
 have Z:l.get (0,0,1)=some (.row [I E,I O,v,pa,ea] 0 false):=(by rw[M _ (by simp)];exact Q);have k2:o.get (0,0,1)=some (.row [I E,I O,v,pa,ea] 0 false):=(by rw[w _ (by simp)];exact Z);obtain⟨r,b⟩:∃r:Mem,r=o.set (0,0,1) (.row [I E,I O,v,a,ea] 0 false):=⟨_,rfl⟩;have S3:∀{R:Type} (K:Mem->Option R),bA 1 (.ptr (0,0,1) 0 3) a o K=K r:=λK=>by rw[KT k2 o1 (by simp),b];rfl
 have k3:r.get (0,0,1)=some (.row [I E,I O,v,a,ea] 0 false):=(by rw[b,Mem.uY]);obtain⟨n,d⟩:∃n:Mem,n=r.set (0,0,1) (.row [I E,I O,v,a,ev] 0 false):=⟨_,rfl⟩;have S4:∀{R:Type} (K:Mem->Option R),bA 1 (.ptr (0,0,1) 0 4) ev r K=K n:=λK=>by rw[KT k3 o2 (by simp),d];rfl
 have k4:n.get (0,0,1)=some (.row [I E,I O,v,a,ev] 0 false):=(by rw[d,Mem.uY]);have q4:n.get (0,1,2)=some (.row v8 0 false):=(by rw[d,Mem.oE (by simp),b,Mem.oE (by simp),w _ (by simp),M _ (by simp)];exact g2);have L4:aA true 5 (.ptr (0,0,1) 0 0) n=some (.agg [I E,I O,v,a,ev]):=(by rw[aQ k4];rfl);obtain⟨e,h⟩:∃e:Mem,e=n.set (0,1,2) (.row [I E,I O,v,a,ev] 0 false):=⟨_,rfl⟩;have ho:=u.one;have S5:∀{R:Type} (K:Mem->Option R),bA 5 (.ptr (0,1,2) 0 0) (.agg [I E,I O,v,a,ev]) n K=K e:=λK=>by rw[iB (off:=0) (z:=5) (x:=.agg [I E,I O,v,a,ev]) (k:=K) q4 rfl (by rw[xa1];exact bS _) (by simp[ho.1,o1.1,o2.1]),h,xa1];rfl
 have k5:e.get (0,1,2)=some (.row [I E,I O,v,a,ev] 0 false):=(by rw[h,Mem.uY]);have L5:kY true 5 (.ptr (0,1,2) 0 0) e=some (.agg [I E,I O,v,a,ev]):=(by show aA true 5 (.ptr (0,1,2) 0 0) e=_;rw[aQ k5];rfl);have back:∀j:Id,j≠(0,0,1)->j≠(0,1,2)->j≠(0,Y+3,32)->j≠(0,Y+7,36)->e.get j=m.get j:=λj X n2 n3 n4=>by rw[h,Mem.oE n2,d,Mem.oE X,b,Mem.oE X,w j n4,M j n3]
 obtain⟨f,y1,y2⟩:=z1 e (by rw[h,Mem.oE (by simp),d,Mem.oE (by simp),b,Mem.oE (by simp),w _ (by simp)]);obtain⟨g,y3,y4⟩:=z2 e (by rw[h,Mem.oE (by simp),d,Mem.oE (by simp),b,Mem.oE (by simp)]);obtain⟨v',N,w1,w2,w3⟩:=(u.frame (m':=e) (back _ (by simp) (by simp) (by simp) (by simp))).frz (k:=2) (Y:=Y) (λx D=>(hc x D).mono (bS _) λs _=>back _ (by simp) (by simp) (by simp) (by simp));unfold TQ;simp only[U5,cW,aC,bW,aQ Q,dE,dR,bF,A1,aQ Z,A2,S3,S4,D];have H:(aZ (some [],some [(0,Y,29)]) (tR (.ptr (0,0,1) 0 3))&&(aZ (some [],some [(0,Y,29)]) (some [],some [(0,Y+4,33)])&&(aZ (tR (.ptr (0,0,1) 0 3)) (some [],some [(0,Y+4,33)])&&(aZ (some [],tA (0,Y+3,32) (.aN [] 0 true)) (some [],some [(0,Y+4,33)])&&(aZ (some [],some [(0,Y,29)]) (tR (.ptr (0,0,1) 0 4))&&(aZ (some [],tA (0,Y+3,32) (.aN [] 0 true)) (tR (.ptr (0,0,1) 0 4))&&(aZ (some [],some [(0,Y+4,33)]) (tR (.ptr (0,0,1) 0 4))&&true)))))))=true:=(by simp[aZ,tR,tA,jP]);simp only[H,bC,L4,S5,L5,aC];refine RetF.mk (a':=.agg [I E,I O,v',f,g]) ?_ ⟨v',f,g,N,rfl,w1,by rw[w2,<-hL,List.map_map];rfl,y1,y3⟩;show([I E,I O,v,a,ev].mapM (Go.Ix.frz e.get 5)).map AV.agg=_;have hi:∀z:Int,Go.Ix.frz e.get 5 (I z)=some (I z):=λ_=>rfl
 simp only[eO,gS,hi,w3,y2,y4];rfl
def x3m(h:aJ)(h2:Sl Pn.c pa J)(h3:Sl Pe.c ea C)(hp:J.length<=1000000)(he:C.length<=1000000)(H:∀b∈W,b.cs.length<=1000000)(hbl:W.length<=1000000):∀(n i j:Nat) (v:AV) (L:List (Bd×AV)) (m:Mem) (Y:Nat),i+n=L.length->n<j->L.map (·.1)=W->BA m v L->CpL Y m L i ->
    m.get (0,0,1)=some (.row [I E,I O,v,pa,ea] 0 false)->m.get (0,1,2)=some (.row v8 0 false)->RetF (tk E O W J C) (AE h [] 0 j (.ptr (0,0,1) 0 0) (.ptr (0,1,2) 0 0) (I i) m Y):=by
 intro n;induction n with
 |zero=>intro i j v L m Y hi M t f F u N;obtain⟨j,rfl⟩:∃i,j=i+1:=⟨j-1,by omega⟩;have o:¬((i:Int)<(L.length:Int)):=(by omega);simp only[AE];unfold TP;simp only[cW,aC,bW,aQ u,dE,dR,bF,f.len,bV,o,bO,aT];refine xon h h2 h3 hp he t f (λx hx=>?_) u N;obtain⟨q,D,rfl⟩:=xlf hx;have:=F q D;rw[aF (by omega)]at this;exact this.mono (by omega) λ_ _=>rfl
 |succ n ih=>
  intro i j v L m Y hi M t f F u N;obtain⟨j,rfl⟩:∃i,j=i+1:=⟨j-1,by omega⟩;have a:i<L.length:=(by omega);have hLl:L.length=W.length:=(by rw[<-t,qK]);have o:((i:Int)<(L.length:Int)):=(by omega);rcases f with ⟨-,rfl⟩|⟨rfl,hg⟩
  .simp at a
  have w:=F i a;rw[aB (by omega)]at w;have P:L[i].1∈W:=(by rw[<-t];exact ji (eU a));have hw:=gJ i (by omega);have ix:aV 3 (.sref (0,5,7) 0 0 L.length 3 true) (I i)=some (.ptr (0,5,7) 0 (i*3)):=(by simp[aV,dF,a]);have ld:aA false 1 (.ptr (0,5,7) 0 (i*3+1)) m=some L[i].1.ca:=(by rw[aQ hg,<-xlk,wV NO,gV a,dK,<-w];rfl);have hr:cF L[i].1.cs.length 24:=(by unfold cF;have:=H _ P;omega);obtain⟨d,l,A1,o1,f1,z1⟩:∃d l,(∀{R:Type} (k:AV->Mem->Option R),cK 3 24 (0,Y+15,26) (elems m.get 3 L[i].1.ca) (.aN [] 0 true) m k=k d l)/\(d.one=true/\d.cells=[d])/\(∀j:Id,j≠(0,Y+15,26)->l.get j=m.get j)/\CpC (Y+22) l d L[i].1.cs:=by
   rcases zY Pl.len L[i].1.ok hr (0,Y+15,26) m with ⟨h0,A⟩|⟨h0,A⟩
   .exact⟨_,m,A,⟨rfl,rfl⟩,λ_ _=>rfl,.inl ⟨rfl,h0⟩⟩
   .exact⟨_,_,A,⟨rfl,rfl⟩,λj M=>Mem.zL M,.inr ⟨Y+15,by omega,rfl,by rw[Mem.lF]⟩⟩
  have Q:l.get (0,5,7)=some (.row (L.flatMap qF) 0 false):=(by rw[f1 _ (by simp)];exact hg);obtain⟨r,g⟩:∃r:Mem,r=l.set (0,5,7) (.row ((L.set i (L[i].1,d)).flatMap qF) 0 false):=⟨_,rfl⟩;have S1:∀{R:Type} (K:Mem->Option R),bA 1 (.ptr (0,5,7) 0 (i*3+1)) d l K=K r:=λK=>by rw[KT Q o1 (by rw[fN NO];omega),xrg L i a,g]
  have p:∀j:Id,j≠(0,5,7)->j≠(0,Y+15,26)->r.get j=m.get j:=λj n1 n2=>by rw[g,Mem.oE n1,f1 j n2]
  simp only[AE];unfold TP;have X:=L[i].1.ok.tX;have hap:(aZ (tR (.ptr (0,0,1) 0 2)) (some [],some [(0,Y+8,19)])&&(aZ (some [],some [(0,Y+8,19)]) (tR (.ptr (0,0,1) 0 2))&&(aZ (some [],some [(0,Y+8,19)]) (tR (.ptr (0,5,7) 0 (i*3+1)))&&(aZ (tR (.ptr (0,0,1) 0 2)) (tX L[i].1.ca,tA (0,Y+15,26) (.aN [] 0 true))&&true))))=true:=(by simp[aZ,tR,tA,jP,X]);have y:aM prog lK (.sref (0,5,7) 0 0 L.length 3 true)=some (I L.length):=rfl;simp only[cW,aC,bW,aQ u,dE,dR,bF,y,bV,o,bB,aS,U5,ix,ld,A1,S1,hap,bC,dS,hw];have hset:(L.set i (L[i].1,d)).map (·.1)=W:=by
   rw[List.map_set,<-t];refine HW (by simp) λq A h2=>?_
   rw[List.getElem_set];split
   .rename_i e;subst e;simp
   .rfl
  refine ih (i+1) j (.sref (0,5,7) 0 0 L.length 3 true) (L.set i (L[i].1,d)) r (Y+22) (by simp;omega) (by omega) hset (.inr ⟨by simp,by rw[g,Mem.uY]⟩) (λq D=>?_) ?_ ?_
  .rw[nO]at D;by_cases e:i=q
   .subst e;rw[aF (by omega)];simp only[List.getElem_set_self];exact z1.mono (bS _) λs _=>by rw[g,Mem.oE (by simp)]
   .have:=F q D;rw[OB e];by_cases c:q<i
    .rw[aF c]at this;rw[aF (by omega)];exact this.mono (by omega) λs Z=>p _ (by simp) (by simp;omega)
    .rw[aB c]at this;rw[aB (by omega)];exact this
  .rw[p _ (by simp) (by simp)];exact u
  .rw[p _ (by simp) (by simp)];exact N
def xps(d:Nat)(t:Sl Bd.c A W)(u:Sl Pn.c pa J)(w:Sl Pe.c ea C)(M:W.length<=1000000)(N:J.length<=1000000)(P:C.length<=1000000)(x:∀b∈W,b.cs.length<=1000000)(m:Mem) :
    ∃a e f g,Sl Bd.c a g/\g.map Bd.core=W.map Bd.core/\Sl Pn.c e J/\Sl Pe.c f C/\aI (aG (d+1)) sN [.agg [I E,I O,A,pa,ea]] m=some (.agg [I E,I O,a,e,f],m):=by
 have y:RetF (tk E O W J C) (aG (d+1) [] sN [.agg [I E,I O,A,pa,ea]] mem0):=by
  rw[yah];unfold pc bQ TO;have X:[I E,I O,A,pa,ea].all AV.one=true:=(by simp[t.one,u.one,w.one]);simp only[mem0,iE,nH,X,bC,lQ];obtain⟨i,o⟩:∃i:Mem,i=((⟨[],0+1⟩:Mem).new (0,0,1) (.row [I E,I O,A,pa,ea] 0 false)).new (0,0+1,2) (.row v8 0 false):=⟨_,rfl⟩;rw[<-o];have F:i.get (0,0,1)=some (.row [I E,I O,A,pa,ea] 0 false):=(by rw[o];simp);have Y:i.get (0,1,2)=some (.row v8 0 false):=(by rw[o];simp);have Z:cF W.length 48:=(by unfold cF;omega);obtain⟨v,n,A1,o1,H,z1⟩:∃v n,(∀{R:Type} (k:AV->Mem->Option R),cK 3 48 (0,5,7) (elems i.get 3 A) (.aN [] 0 true) i k=k v n)/\(v.one=true/\v.cells=[v])/\(∀j:Id,j≠(0,5,7)->n.get j=i.get j)/\BA n v (W.map λb=>(b,b.ca)):=by
   rcases zY Bd.len t Z (0,5,7) i with ⟨rfl,L⟩|⟨L,D⟩
   .exact⟨_,i,L,⟨rfl,rfl⟩,λ_ _=>rfl,.inl ⟨rfl,rfl⟩⟩
   .exact⟨_,_,D,⟨rfl,rfl⟩,λj Q=>Mem.zL Q,.inr ⟨by rw[qK],by rw[Mem.lF,ydx]⟩⟩
  have k2:n.get (0,0,1)=some (.row [I E,I O,A,pa,ea] 0 false):=(by rw[H _ (by simp)];exact F);obtain⟨p,l⟩:∃p:Mem,p=n.set (0,0,1) (.row [I E,I O,v,pa,ea] 0 false):=⟨_,rfl⟩;have S3:∀{R:Type} (K:Mem->Option R),bA 1 (.ptr (0,0,1) 0 2) v n K=K p:=λK=>by rw[KT k2 o1 (by simp),l];rfl
  simp only[U5,cW,aC,bW,aQ F,dE,dR,bF,A1,S3];unfold xo;exact x3m (aG d) (W:=W) u w N P x M W.length 0 NN v (W.map λb=>(b,b.ca)) p _ (by simp) (by rw[dB];omega) (by rw[List.map_map];exact List.map_id' W) (z1.frame (by rw[l,Mem.oE (by simp)])) (λq hq=>by rw[aB (by omega)];simp) (by rw[l,Mem.uY]) (by rw[l,Mem.oE (by simp),H _ (by simp)];exact Y)
 obtain⟨r,⟨a,e,f,g,rfl,h⟩,hc⟩:=rS (by simp[t.aP,u.aP,w.aP]) y m;exact⟨a,e,f,g,h.1,h.2.1,h.2.2.1,h.2.2.2,hc⟩
def x6h{W a:List Bd}:∀{ns:List ByteArray},a.map Bd.core=W.map Bd.core->iV qG Bd.nm ns a=iV qG Bd.nm ns W:=by
 induction W generalizing a with
 |nil=>intro ns h;simp at h;subst h;rfl
 |cons b r d=>
  intro ns h;cases a with
  |nil=>simp at h
  |cons f g=>rw[eN,eN]at h;injection h with h1 h2;have e:=d (ns:=ns++[b.nm]) h2;unfold Bd.core at h1;simp only[bK]at h1;unfold iV qG;rw[h1.1,h1.2.1,h1.2.2];unfold qG at e;rw[e]
def xrz{W a:List Bd}(h:a.map Bd.core=W.map Bd.core):kN E O a J C=kN E O W J C:=by have b:a.length=W.length:=(by simpa using congrArg List.length h);unfold kN;rw[b,x6h h]
def xnk:tO=[.sc (.pointer none),nilS,nilS,nilS,nilS]:=by kernel_rfl
def xnf:JQ=[.sc (.pointer none),nilS,.sc (.pointer none),nilS,nilS,nilS,nilS]:=by kernel_rfl
def JP:oQ=[nilS,nilS,nilS,nilS]:=by kernel_rfl
variable{A pa ea:AV}{W:List Bd}{J:List Pn}{C:List Pe}{E O:Int}
def F8(x:ByteArray):Int->List Bd->Int
 |_,[]=>-1
 |k,b::r=>bif gY b.nm x then k else F8 x (k+1) r
def uX(b:Bd)(p:Pn):Bool:=MM b.cs p.at_
def x3c{n1 n2 n3 n4:AV}(d:Nat)(id:Id)(N:id.2.2=0)(h:List AV->Mem->Option Mem)(Z:FHs)(u:Nat)(h1:Sl Bd.c A W)(h2:Sl Pn.c pa J)(hl:J.length<=1000){i:Nat}(hi:i<W.length)(hz:polyE W[i].cs=0)(hp:∀p∈J,isPl p.at_=true)(a:Nat->Mem->Prop)(C:∀k m f,a k m->(∀j:Id,¬(j.1=u/\j.2.2=5)->f.get j=m.get j)->f.next=m.next->a k f)(P:∀k (g:k<J.length) m,uX W[i] J[k]=false->a k m->a (k+1) m)(D:∀k (g:k<J.length) m,uX W[i] J[k]=true->a k m->∃f,h [I k] m=some f/\a (k+1) f) :
    ∀(l:List Pn) (k j:Nat) (m:Mem) (Y:Nat),J.drop k=l->l.length<j->k<=J.length->a k m ->
    ∃f,AN (aG (d+6)) ((id,h)::Z) u j (.yld id) (.aH [.aH [I E,I O,A,pa,ea],n1,n2,n3,n4]) (.aH [I i]) pa (I J.length) (I k) m Y=some (.tup [],f)/\a J.length f:=by
 intro l;induction l with
 |nil=>intro k j m Y Q F R X;obtain⟨j,rfl⟩:=dD F;have hk0:=gF.mp Q;have g:¬((k:Int)<(J.length:Int)):=(by omega);simp only[AN];unfold VT;simp only[bV,g,bO,aC,aT];have hkl:k=J.length:=(by omega);exact⟨m,rfl,hkl▸X⟩
 |cons e r ih=>
  intro k j m Y Q F R X;obtain⟨j,rfl⟩:=dD F;obtain⟨g,L,K⟩:=gB Q;have hk':(k:Int)<(J.length:Int):=(by omega);have ix:=h2.ix Pn.len g;have ld:=λm=>iH (m:=m) Pn.len (by omega) g
  rw[L]at ld;obtain⟨M,s1,g1,nn1,f1⟩:=uN (u:=u) (s:=Y+4) (t:=5) (m:=m) (z:=L1) (cs:=e.c) (n:=4) (by kernel_rfl) rfl rfl;have H:a k M:=C k m M X f1 nn1;have g1':M.get (u,Y+4,5)=some (.row [T e.nm,I e.at_.x,I e.at_.y,I e.at_.z] 0 false):=g1;have hw:=gJ k (by omega);have q1:aE 0 (.aH [.aH [I E,I O,A,pa,ea],n1,n2,n3,n4])=some (.aH [.aH [I E,I O,A,pa,ea],n1,n2,n3,n4]):=rfl;have q2:∀m,aA false 1 (.aH [.aH [I E,I O,A,pa,ea],n1,n2,n3,n4]) m=some (.aH [I E,I O,A,pa,ea]):=λ_=>rfl
  have q3:cD (.aH [I E,I O,A,pa,ea])=some (.aH [I E,I O,A,pa,ea]):=rfl;have q4:aE 2 (.aH [I E,I O,A,pa,ea])=some (.aH [A,pa,ea]):=rfl;have q5:∀m,aA false 1 (.aH [A,pa,ea]) m=some A:=λ_=>rfl
  have q6:∀m,aA false 1 (.aH [I i]) m=some (I i):=λ_=>rfl
  have ixb:=h1.ix Bd.len hi;have x1:aE 1 (.aH ((W.drop i).flatMap Bd.c))=some (.aH (((W.drop i).flatMap Bd.c).drop 1)):=rfl;have x2:∀m,aA false 1 (.aH (((W.drop i).flatMap Bd.c).drop 1)) m=some W[i].ca:=λm=>by rw[gV hi,dK];rfl
  have l3:∀{m:Mem},m.get (u,Y+4,5)=some (.row [T e.nm,I e.at_.x,I e.at_.y,I e.at_.z] 0 false)->aA true 3 (.ptr (u,Y+4,5) 0 1) m=some (.agg e.at_.c):=λhg=>by rw[aQ hg];rfl
  have hin:=λm=>xpe d (W[i].ok) hz (p:=e.at_) (hp e (L▸eU g)) m
  have y0:∀b:Bool,cN (.tup [B b,I 0]) 0=some (B b):=λ_=>rfl
  have y1:∀b:Bool,cN (.tup [B b,I 0]) 1=some (I 0):=λ_=>rfl
  simp only[AN];unfold VT;simp only[bV,hk',bB,aS,aC,ix,ld,lQ,s1,q1,q2,q3,q4,q5,q6,ixb,x1,x2,cW,bW,l3 g1',hin,y0,y1];cases c:uX W[i] e
  .have o:=P k g M (by rw[L];exact c) H;obtain⟨f,r,w⟩:=ih (k+1) j M (Y+33) K (by simp at F;omega) g o;have c':MM W[i].cs e.at_=false:=c;simp only[c',fA,dO,fI,iC,cT,aC,cS,aT,dS,hw,r];exact⟨f,rfl,w⟩
  .obtain⟨m2,e2,o⟩:=D k g M (by rw[L];exact c) H;obtain⟨f,r,w⟩:=ih (k+1) j m2 (Y+33) K (by simp at F;omega) g o;have c':MM W[i].cs e.at_=true:=c;simp only[c',fA,dO,fI,iC,bC,aC,x4s N,e2,Option.map_some,eG,cE,cS,aT,dS,hw,r];exact⟨f,rfl,w⟩
def x46(d:Nat)(Z:FHs)(id:Id)(m:Mem):aG (d+1) Z D3 [.ptr id 0 0] m=some (.ptr (m.next,6,8) 0 0,(⟨m.hp,m.next+1⟩:Mem).new (m.next,6,8) (.row [.ptr id 0 0,nilS,.ptr id 0 0,nilS,nilS,nilS,nilS] 0 false)):=by rw[xju];unfold OY bQ IU;have a:dA oQ []=some (.agg [nilS,nilS,nilS,nilS]):=(by rw[JP];rfl);have b:dA tO [(0,1,.ptr id 0 0),(1,4,.agg [nilS,nilS,nilS,nilS])]=some (.agg [.ptr id 0 0,nilS,nilS,nilS,nilS]):=(by rw[xnk];rfl);have e:dA JQ [(0,1,.ptr id 0 0),(2,5,.agg [.ptr id 0 0,nilS,nilS,nilS,nilS])]=some (.agg [.ptr id 0 0,nilS,.ptr id 0 0,nilS,nilS,nilS,nilS]):=(by rw[xnf];rfl);simp only[a,b,e,aC,iE];rfl
def xrw{i j:Id}{a:List AV}{v:Nat}:∀{h:Hp} {b:Bool},fK h i=some (.row a v b)->∃e,fK (CK h j) i=some (.row a v e):=by
 intro h b d;have:=congrFun (N2 [j] h) i;rw[show mJ [j] h=CK h j from rfl]at this;rw[this];unfold shut;split
 .rw[d];exact⟨_,rfl⟩
 .exact⟨b,d⟩
def xc9{i:Id}{e:List AV}{v:Nat}:∀(a:List Id) {h:Hp} {b:Bool},fK h i=some (.row e v b)->∃f,fK (mJ a h) i=some (.row e v f)
 |[],h,b,d=>⟨b,d⟩
 |j::r,h,b,d=>by obtain⟨f,g⟩:=xrw (j:=j) d;exact xc9 r g
def ycs{a:aJ}{f:FuncId}{l g:List AV}{m j:Mem}{r n:AV}(o:l.mapM (Go.Ix.frz m.get bR)=some g)(h:a [] f g mem0=some (r,j))(p:Go.Ix.frz j.get bR r=some n) :
    ∃e:Mem,aI a f l m=some (n,e)/\e.next=m.next/\∀i d v b,m.get i=some (.row d v b)->∃u,e.get i=some (.row d v u):=by
 refine⟨⟨mJ (l.flatMap (reach m.get bR)) m.hp,m.next⟩,?_,rfl,λi d v b t=>xc9 _ t⟩;unfold aI;rw[o];simp only[h,p];rfl
structure Scene where
 nm:ByteArray
 day:Int
 bl:Int
def Scene.c(s:Scene):List AV:=[T s.nm,I s.day,I s.bl]
theorem Scene.len(s:Scene):s.c.length=3:=rfl
def mG:prog.underlying kJ=some (.slice qR):=by kernel_rfl
def xhk:∃i,prog.info? qR=some i/\i.size=3:=by have:(prog.info? qR).map (·.size)=some 3:=(by kernel_rfl);rw[cM]at this;exact this
def JO:pH=[T ⟨#[]⟩,I 0,I 0]:=by kernel_rfl
@[simp] theorem yf9(s:ByteArray):(T s).cells=[T s]:=rfl
@[simp] theorem yfv(s:ByteArray):(T s).one=true:=rfl
def xr9{a:AV}{l:List Scene}(h:Sl Scene.c a l){k:Nat}(d:k<=l.length)(e:l≠[]):∃b,Sl Scene.c b (l.take k)/\dZ prog kJ a none (some (I k))=some b:=by
 rcases h with ⟨_,rfl⟩|⟨x,rfl⟩
 .exact absurd rfl e
 obtain⟨i,n,Z⟩:=xhk;have p:=fN Scene.len l;refine⟨.aN ((l.take k).flatMap Scene.c) (l.take k).length (x&&decide ((k:Int)=(l.length:Int))),Sl.lit _ _,?_⟩;have f:dL (.aN (l.flatMap Scene.c) l.length x)=none:=_root_.id rfl;have g:dF (I (k:Int))=some (k:Int):=rfl;have j:dF (I 0)=some 0:=rfl;unfold dZ;simp only[f,mG,n,Option.getD_some,Option.getD_none,g,j,Z,Int.sub_zero,jF,Int.toNat_zero,xI,bF];rw[aF ⟨by omega,by omega,by omega,by omega⟩,lV,iz d];have m:∀(l:List Scene) (k:Nat),(l.flatMap Scene.c).take (k*3)=(l.take k).flatMap Scene.c:=by
  intro l;induction l with
  |nil=>intro k;simp
  |cons x r o=>
   intro k;cases k with
   |zero=>simp
   |succ k=>rw[dK,jR,dK,lU,show k*3+3=x.c.length+k*3 by rw[Scene.len];omega,HM,o]
 rw[m]
def zP(nm:ByteArray):Int->List Scene->Int
 |_,[]=>-1
 |k,x::r=>bif gY x.nm nm then k else zP nm (k+1) r
def xij(nm:ByteArray):∀(l:List Scene) (k:Int),0<=k->decide (0<=zP nm k l)=l.any λy=>gY y.nm nm
 |[],k,_=>by simp[zP]
 |x::r,k,a=>by
  rw[zP,Y4];cases gY x.nm nm with
  |true=>simp[a]
  |false=>simpa using xij nm r (k+1) (by omega)
def yel(d:Nat)(Z:FHs)(x y:Scene)(m:Mem):∃a,aG (d+1) Z nW [.agg x.c,.aH y.c] m=some (B (gY x.nm y.nm),a):=by rw[x86];unfold md aU QY;simp[Scene.c,yE]
def x3y(d:Nat)(Z:FHs){a:AV}{l:List Scene}{y:Scene}(h:Sl Scene.c a l)(C:l.length<1000000)(u:Nat):∀(b:List Scene) (k j:Nat) (m:Mem) (Y:Nat),l.drop k=b->b.length<j ->
    ∃o,J0 (aG (d+1)) Z u j a (.clo nW [.aH y.c]) (I l.length) (I k) m Y=some (I (zP y.nm k b),o):=by
 intro b;induction b with
 |nil=>intro k j m Y f i;obtain⟨j,rfl⟩:=dD i;have n:¬((k:Int)<(l.length:Int)):=(by have:=gF.mp f;omega);simp only[J0];unfold RZ;simp[n,wx,zP]
 |cons e r A=>
  intro k j m Y f i;obtain⟨j,rfl⟩:=dD i;obtain⟨n,t,f⟩:=gB f;have hk':(k:Int)<(l.length:Int):=(by omega);have ix:=h.ix Scene.len n;have ld:=iH (m:=m) Scene.len (by omega) n;rw[t]at ld;obtain⟨p,w⟩:=yel d Z e y m;have g:fD (aG (d+1)) Z 2 (.clo nW [.aH y.c]) [.agg e.c] m=some (B (gY e.nm y.nm),p):=w;simp only[J0];unfold RZ;simp only[bV,hk',bB,aS,aC,ix,ld,g,zP];cases D:gY e.nm y.nm with
  |true=>simp
  |false=>obtain⟨o,x⟩:=A (k+1) j p (Y+11) f (by simp at i;omega);simp(disch:=omega) [bU];exact⟨o,by simpa using x⟩
def yew(d:Nat){a:AV}{l:List Scene}{y:Scene}(h:Sl Scene.c a l)(f:l.length<1000000) :
    ∃b,aG (d+3) [] EH [a,.clo nW [.aH y.c]] mem0=some (B (l.any λx=>gY x.nm y.nm),b):=by
 obtain⟨b,i⟩:=x3y d [] (y:=y) h f 0 l 0 NN ⟨[],1⟩ 4 rfl (by rw[dB];omega);have g:aG (d+2) [] D0 [a,.clo nW [.aH y.c]] mem0=some (I (zP y.nm 0 l),b):=(by rw[xjp];unfold OU aU IN RY;simp[h.len mG,mem0];exact i);have e:=λm:Mem=>gj (m:=m) (call:=aG (d+2)) (l:=[a,.clo nW [.aH y.c]]) (by simp only[dY,nP,h.bD,gW,xV];rfl) g rfl
 rw[x9u];unfold nw aU SN;simp[e,mem0,<-xij y.nm l 0 (by omega)]
def uF(l:List Scene):Nat->List Scene->Int×Int
 |_,[]=>(0,0)
 |k,x::r=>
  bif !(nmOK x.nm)then((k:Int),4)
  else bif(l.take k).any (λy=>gY y.nm x.nm)then((k:Int),5)
  else bif !(wi x.day 0 100000)||!(wi x.bl (-100000) 100000)then((k:Int),2)
  else uF l (k+1) r
def sE(l:List Scene):Int×Int:=bif decide (60<l.length)then(0,8)else uF l 0 l
def x3q(d:Nat)(u:Nat){a:AV}{l:List Scene}(h:Sl Scene.c a l)(Z:l.length<=60):∀(f:List Scene) (k j:Nat) (m:Mem) (Y:Nat),l.drop k=f->f.length<j ->
    ∃i,I7 (aG (d+3)) [] u j a a (I l.length) (I k) m Y=some (.tup [I (uF l k f).1,I (uF l k f).2],i):=by
 intro f;induction f with
 |nil=>intro k j m Y n w;obtain⟨j,rfl⟩:=dD w;have o:¬((k:Int)<(l.length:Int)):=(by have:=gF.mp n;omega);simp only[I7];unfold QZ;simp[o,vn,uF]
 |cons e r X=>
  intro k j m Y n w;obtain⟨j,rfl⟩:=dD w;obtain⟨o,P,n⟩:=gB n;have hk':(k:Int)<(l.length:Int):=(by omega);have ix:=h.ix Scene.len o;have ld:=iH (m:=m) Scene.len (by omega) o;rw[P]at ld;obtain⟨A,g,D⟩:=xr9 h (k:=k) (by omega) (by rintro rfl;simp at o);have next:∀m Y,∃i,I7 (aG (d+3)) [] u j a a (I l.length) (I ((k:Int)+1)) m Y=some (.tup [I (uF l (k+1) r).1,I (uF l (k+1) r).2],i):=λm Y=>X (k+1) j m Y n (by simp at w;omega)
  simp only[I7];unfold QZ;simp only[bV,hk',bB,aS,aC,ix,ld,lQ,JO,uF];simp[Scene.c,xof];cases hn:nmOK e.nm with
  |false=>simp
  |true=>
   simp[D];generalize H:Mem.set _ _ _=m1;have K:m1.get (u,Y+4,5)=some (.row e.c 0 false):=(by rw[<-H];simp[Scene.c]);obtain⟨mc,E⟩:=yew d (y:=e) g (by rw[lV];omega);have C:[A,AV.clo nW [.ptr (u,Y+4,5) 0 0]].mapM (Go.Ix.frz m1.get bR)=some [A,.clo nW [.aH e.c]]:=by
    have M:Go.Ix.frz m1.get bR A=some A:=kA _ 4 g.bD
    have h3:e.c.mapM (Go.Ix.frz m1.get 4)=some e.c:=sP λb J=>uZ _ 3 (by
     simp[Scene.c]at J;rcases J with rfl|rfl|rfl<;>rfl)
    have N:Go.Ix.frz m1.get 5 (.ptr (u,Y+4,5) 0 0)=some (.aH e.c):=(by simp only[Go.Ix.frz,K,cI,bF];rfl);have O:Go.Ix.frz m1.get bR (.clo nW [.ptr (u,Y+4,5) 0 0])=some (.clo nW [.aH e.c]):=(by show([AV.ptr (u,Y+4,5) 0 0].mapM (Go.Ix.frz m1.get 5)).map (AV.clo nW)=_;simp only[eO,gS,N];rfl);simp only[eO,gS,M,O];rfl
   obtain⟨Q,F,_,p⟩:=ycs C E rfl;obtain⟨b',t⟩:=p _ _ _ _ K;simp only[F,aC];cases L:(l.take k).any λx=>gY x.nm e.nm with
   |true=>simp
   |false=>
    simp[t,Scene.c,L2];cases hw:wi e.day 0 100000 with
    |false=>simp
    |true=>
     simp(disch:=omega) [t,Scene.c,xbg];cases W:wi e.bl (-100000) 100000 with
     |false=>simp
     |true=>obtain⟨i,R⟩:=next Q (Y+31);simp;exact⟨i,R⟩
def xow(d:Nat){a:AV}{l:List Scene}(h:Sl Scene.c a l)(m:Mem):aI (aG (d+4)) Q1 [a] m=some (.tup [I (sE l).1,I (sE l).2],m):=by
 obtain⟨b,e⟩:∃b,aG (d+4) [] Q1 [a] mem0=some (.tup [I (sE l).1,I (sE l).2],b):=by
  rw[x87];unfold mf bQ QX vm sE;by_cases f:60<l.length
  .simp[h.len mG,f,show(60:Int)<l.length by omega]
  .obtain⟨b,e⟩:=x3q d 0 h (by omega) l 0 NN ⟨[],1⟩ 8 rfl (by rw[dB];omega);simp[h.len mG,f,show ¬((60:Int)<l.length) by omega,mem0];exact⟨b,e⟩
 exact rT (by simp[h.bD]) e rfl
structure Pq where
 a:Int
 b:Int
def Pq.c(p:Pq):List AV:=[I p.a,I p.b]
theorem Pq.len(p:Pq):p.c.length=2:=rfl
theorem Pq.bD(p:Pq):p.c.all aP=true:=rfl
def tW:prog.underlying tQ=some (.slice kK):=by kernel_rfl
def v6:xX=[I 0,I 0]:=by kernel_rfl
def Pq.same(p q:Pq):Bool:=decide (p.a=q.a)&&decide (p.b=q.b)
def Pq.same_iff{a b:Pq}:a.same b=true↔a=b:=by cases a;cases b;simp[Pq.same]
def Pq.same_self(a:Pq):a.same a=true:=Pq.same_iff.2 rfl
def xey(a b:Int):∀o∈[0,1],bJ prog (part dP #[.int .i64 a,.int .i64 b] o)=some (.int .i64 ([a,b].getD o 0)):=by intro o d;simp only[dV,xN,or_false]at d;rcases d with rfl|rfl<;>kernel_rfl
def xen(p q:Pq):bJ prog (Op.equalIn 10000 kK (.agg [.int .i64 p.a,.int .i64 p.b].toArray) (.agg [.int .i64 q.a,.int .i64 q.b].toArray))=some (p.same q):=by refine(fe (offs:=[0,1]) (ga:=λo=>[p.a,p.b].getD o 0) (gb:=λo=>[q.a,q.b].getD o 0) (by kernel_rfl) (by kernel_rfl) (by kernel_rfl) λo d=>⟨xey _ _ o d,xey _ _ o d⟩).trans ?_;simp[Pq.same,List.getD];by_cases e:p.a=q.a<;>by_cases f:p.b=q.b<;>simp[e,f]
def x01(x y:Operand)(p q:Pq):bP prog .neq kK x y (.agg p.c) (.agg q.c)=some (B (!(p.same q))):=
 CU (xs:=[.int .i64 p.a,.int .i64 p.b]) (ys:=[.int .i64 q.a,.int .i64 q.b]) (by kernel_rfl) (xen p q) ⟨p.c,rfl⟩ _ _ rfl rfl
def x3u(f:aJ)(Z:FHs)(u:Nat){a b:AV}{l:List Pq}(n:Sl Pq.c a l)(p:Sl Pq.c b l)(w:l.length<1000000):∀(d:List Pq) (k j:Nat) (m:Mem) (Y:Nat),l.drop k=d->d.length<j ->
    AF f Z u j a b (I k) m Y=some (B true,m):=by
 intro d;induction d with
 |nil=>intro k j m Y g i;obtain⟨j,rfl⟩:=dD i;have h:¬((k:Int)<(l.length:Int)):=(by have:=gF.mp g;omega);simp only[AF];unfold TT;simp[n.len tW,h,xq]
 |cons e r t=>intro k j m Y g i;obtain⟨j,rfl⟩:=dD i;obtain⟨h,x,g⟩:=gB g;have hk':(k:Int)<(l.length:Int):=(by omega);have ix:=n.ix Pq.len h;have o:=p.ix Pq.len h;have ld:=iH (m:=m) Pq.len (by omega) h;have h':=t (k+1) j m (Y+16) g (by simp at i;omega);simp only[AF];unfold TT;simp only[n.len tW,aC,bV,hk',bB,aS,ix,o,ld,x01,Pq.same_self,cE,aT];simp(disch:=omega) [bU];simpa using h'
def xo4(d:Nat){a b:AV}{l:List Pq}(e:Sl Pq.c a l)(f:Sl Pq.c b l)(g:l.length<1000000)(m:Mem):aI (aG (d+1)) EW [a,b] m=some (B true,m):=by refine eR (by simp[e.bD,f.bD]) (m':=⟨[],1⟩) ?_ rfl;rw[yaj];have:=x3u (aG d) [] 0 e f g l 0 NN ⟨[],1⟩ 7 rfl (by rw[dB];omega);unfold pe aU TS xp;simp[e.len tW,f.len tW,mem0];exact this
def InB(l:List Scene):Prop:=∀s∈l,(0<=s.day/\s.day<=100000)/\(-100000<=s.bl/\s.bl<=100000)
def xdg{l:List Scene}:∀(b:List Scene) (k:Nat),(uF l k b).2=0->InB b
 |[],_,_=>λs h=>by cases h
 |x::r,k,h=>by
  simp only[uF]at h;cases d:nmOK x.nm with
  |false=>simp[d]at h
  |true=>
   cases e:(l.take k).any λy=>gY y.nm x.nm with
   |true=>simp[d,e]at h
   |false=>
    cases f:wi x.day 0 100000 with
    |false=>simp[d,e,f]at h
    |true=>
     cases a:wi x.bl (-100000) 100000 with
     |false=>simp[d,e,f,a]at h
     |true=>
      simp[d,e,f,a]at h;have g:=xdg r (k+1) h;intro s Z;rcases dV.mp Z with rfl|Z
      .exact⟨y6 f,y6 a⟩
      .exact g s Z
def xdf{l:List Scene}(h:(sE l).2=0):l.length<=60/\InB l:=by
 unfold sE at h;by_cases a:60<l.length
 .simp[a]at h
 .simp[a]at h;exact⟨by omega,xdg l 0 h⟩
def InB.get{l:List Scene}(h:InB l){k:Nat}(a:k<l.length):(0<=l[k].day/\l[k].day<=100000)/\(-100000<=l[k].bl/\l[k].bl<=100000):=h _ (eU a)
def Pq.v(p:Pq):Value:=.agg [.int .i64 p.a,.int .i64 p.b].toArray
def nX(E:List (Pq×AV)):List (Value×AV):=E.map λx=>(x.1.v,x.2)
def nD:List (Pq×AV)->Pq->Option AV
 |[],_=>none
 |x::r,p=>if p.same x.1=true then some x.2 else nD r p
def LA(p q:Pq):gU p.v q.v=p.same q:=by unfold gU Pq.v Pq.same;simp[yK];by_cases h:p.a=q.a<;>by_cases d:p.b=q.b<;>simp[h,d]
def x53(E:List (Pq×AV))(p:Pq):findKey p.v (nX E)=nD E p:=by
 induction E with
 |nil=>rfl
 |cons x r a=>unfold nX at a ⊢;simp only[eN,findKey,nD,LA];rw[a]
def xr2(E:List (Pq×AV))(p:Pq)(v:AV)(h:nD E p=none):setKey p.v v (nX E)=nX (E++[(p,v)]):=by
 induction E with
 |nil=>rfl
 |cons x r a=>
  simp only[nD]at h;unfold nX at a ⊢;simp only[eN,iO,setKey,LA];by_cases c:p.same x.1=true
  .rw[aF c]at h;cases h
  .rw[aB c]at h;rw[aB c,a h]
def x71(p:Pq):(bJ prog (Instr.checkKey true 10000 kK p.v)).isSome=true:=by kernel_rfl
def x72(p:Pq):(bJ prog (Instr.checkKey false 10000 kK p.v)).isSome=true:=by kernel_rfl
def x6i(p q:Pq):bJ prog (Op.equal kK p.v q.v)=some (p.same q):=xen p q
def xgx{d:TypeDesc}(g:prog.underlying kK=some d)(E:List (Pq×AV))(p:Pq):sU prog kK d p.v (nX E)=true:=by
 obtain⟨a,i⟩:∃a,d=.struct a:=(by have:((prog.underlying kK).bind λd=>match d with | .struct a=>some ()|_=>none)=some ():=(by kernel_rfl);rw[g]at this;cases d<;>first|exact⟨_,rfl⟩|cases this);subst i;have h:KQ prog kK (.struct a) p.v (nX E)=true:=by
  show(gU p.v p.v&&((bJ prog (Instr.checkKey true 10000 kK p.v)).isSome&&(bJ prog (Instr.checkKey false 10000 kK p.v)).isSome) &&
   (nX E).all λe=>match e.1,bJ prog (Op.equal kK p.v e.1)with
    | .agg _,some b=>b == gU p.v e.1
    |_,_=>false)=true
  rw[x71,x72,LA,Pq.same_self];simp only[iL,gW,dG];intro e f;unfold nX at f;obtain⟨x,-,rfl⟩:=fR.mp f;rw[x6i,LA];show(p.same x.1 == p.same x.1)=true;simp
 unfold sU;rw[h,tn]
theorem xcp(p:Pq):dL (.agg p.c)=some p.v:=rfl
def xb8:∃d,prog.underlying kK=some d:=by obtain⟨d,h⟩:∃d,(prog.underlying kK).isSome=d:=⟨_,rfl⟩;have:(prog.underlying kK).isSome=true:=(by kernel_rfl);exact NV.mp this
def x2h{t a:TypeId}{z:AV}(e:prog.underlying t=some (.map kK a))(f:K8 prog a=some z)(id:Id)(E:List (Pq×AV))(p:Pq)(ok:Bool)(m:Mem)(h:m.get id=some (.map (nX E))) :
    yL prog t (.mp id) (.agg p.c) ok m=some (if ok then .tup [(nD E p).getD z,B (nD E p).isSome]else(nD E p).getD z):=by
 obtain⟨d,b⟩:=xb8;unfold yL;simp only[e,xcp,b,f,sQ,h];rw[aF (xgx b E p),x53]
def xp1{R:Type}{t b:TypeId}(e:prog.underlying t=some (.map kK b))(id:Id)(E:List (Pq×AV))(p:Pq)(v:AV)(m:Mem)(k:Mem->Option R)(h:m.get id=some (.map (nX E)))(f:nD E p=none) :
    uG prog t (.mp id) (.agg p.c) v m k=k (m.set id (.map (nX (E++[(p,v)])))):=by
 obtain⟨d,a⟩:=xb8;unfold uG;simp only[e,xcp,a,h];rw[aF (xgx a E p),xr2 E p v f]
def x2k(E:List (Pq×AV))(p q:Pq)(v:AV)(h:nD E p=none):nD (E++[(p,v)]) q=if q.same p=true then some v else nD E q:=by
 induction E with
 |nil=>simp[nD]
 |cons x r b=>
  simp only[nD,iO]at h ⊢;by_cases c:p.same x.1=true
  .rw[aF c]at h;cases h
  .rw[aB c]at h;rw[b h];by_cases e:q.same x.1=true
   .rw[aF e,aB,aF e];intro a;rw[Pq.same_iff]at e a c;exact c (by rw[<-a,e])
   .rw[aB e,aB e]
def B7(n:Int)(P:List Pq):Nat->List Pq->Int×Int
 |_,[]=>(0,0)
 |k,p::r=>
  bif !(wi p.a 0 (n-1))||!(wi p.b 0 (n-1))then((k:Int),6)
  else bif decide (p.b<=p.a)then((k:Int),9)
  else bif(P.take k).any (λq=>q.same p)then((k:Int),28)
  else B7 n P (k+1) r
def uP(l:List Scene)(P:List Pq):Int×Int:=bif !decide ((sE l).2=0)then sE l else bif decide (200<P.length)then(0,8)else B7 l.length P 0 P
def xmp:K8 prog xY=some (B false):=by kernel_rfl
def xb9:prog.underlying YT=some (.map kK xY):=by kernel_rfl
def xqu{P:List Pq}{k:Nat}(a:k<P.length)(q:Pq):(P.take (k+1)).any (λx=>x.same q)=((P.take k).any (λx=>x.same q)||P[k].same q):=by rw[mS a,List.any_append];simp
def xsa{p q:Pq}:p.same q=q.same p:=by rw[PE,Pq.same_iff,Pq.same_iff];exact eq_comm
def xky(P:List Pq)(k:Nat)(E:List (Pq×AV)):Prop:=∀q,nD E q=bif(P.take k).any (λx=>x.same q)then some (B true)else none
def x30(d g:Nat){s p:AV}{l:List Scene}{P:List Pq}(Z:Sl Scene.c s l)(F:Sl Pq.c p P)(L:l.length<=60)(M:P.length<=200){T:Int×Int} :
    ∀(n k:Nat) (x:Unit) (m:Mem) (Y:Nat),k<=P.length->P.length<n+k->(m.get (0,0,1)=some (.row [s,p] 0 false)/\(∃E,m.get (0,g,24)=some (.map (nX E))/\xky P k E)/\B7 l.length P k (P.drop k)=T) ->
    RetF (λv=>v=.tup [I T.1,I T.2]) (I8 (aG (d+2)) [] 0 n (.ptr (0,0,1) 0 0) (.mp (0,g,24)) p (I P.length) (I k) m Y):=by
 refine nZ (λn k _ m Y=>I8 (aG (d+2)) [] 0 n (.ptr (0,0,1) 0 0) (.mp (0,g,24)) p (I P.length) (I k) m Y)
  (λk _ m=>m.get (0,0,1)=some (.row [s,p] 0 false)/\(∃E,m.get (0,g,24)=some (.map (nX E))/\xky P k E)/\B7 l.length P k (P.drop k)=T) _ ?_ ?_
 .rintro n k-m Y j ⟨t,⟨E,H,A⟩,f⟩ next;have hk':(k:Int)<(P.length:Int):=(by omega);have ix:=F.ix Pq.len j;have ld:=iH (m:=m) Pq.len (by omega) j;rw[gV j]at f;have o:=xqu j;generalize P[k]=e at ld f o;simp only[I8];unfold RH;simp only[bV,hk',bB,aS,aC,ix,ld,lQ,v6,rA,Mem.dI,cI,CD];simp(disch:=omega) [Pq.c];generalize i:Mem.set _ _ _=m1;have J:m1.get (0,0,1)=some (.row [s,p] 0 false):=(by rw[<-i];simp[t]);have K:m1.get (0,Y+4,8)=some (.row [I e.a,I e.b] 0 false):=(by rw[<-i];simp);have r:m1.get (0,g,24)=some (.map (nX E)):=(by rw[<-i];simp[H]);have u:=x2h xb9 xmp (0,g,24) E e false m1 r;have h:=A e;simp[t,Z.len mG];rw[bU];simp[L2];simp only[B7]at f;cases y:wi e.a 0 ((l.length:Int)-1)with
  |false=>simp[y]at f ⊢;exact RetF.tup rfl (by rw[<-f])
  |true=>
   simp[K,L2];cases C:wi e.b 0 ((l.length:Int)-1)with
   |false=>simp[y,C]at f ⊢;exact RetF.tup rfl (by rw[<-f])
   |true=>
    simp[y,C]at f;simp;by_cases w:e.b<=e.a
    .simp[w]at f ⊢;exact RetF.tup rfl (by rw[<-f])
    .simp[w]at f;simp[w];rw[show AV.agg [I e.a,I e.b]=.agg e.c from rfl,u,h];cases D:(P.take k).any λx=>x.same e with
     |true=>simp[D]at f ⊢;exact RetF.tup rfl (by rw[<-f])
     |false=>rw[D]at f h;simp;rw[xp1 xb9 (0,g,24) E e (B true) m1 _ r h];refine next () _ _ ⟨by simp[J],⟨E++[(e,B true)],by simp,λq=>?_⟩,f⟩;rw[x2k E e q _ h,o q,A q,xsa (p:=e)];cases q.same e<;>cases(P.take k).any λx=>x.same q<;>rfl
 .rintro n-m Y ⟨t,-,f⟩;have j:¬((P.length:Int)<(P.length:Int)):=(by omega);simp only[I8];unfold RH vx;rw[mE (bS _)]at f;simp[j];exact RetF.tup rfl (by rw[<-f];rfl)
def xpx(d:Nat){s p:AV}{l:List Scene}{P:List Pq}(Z:Sl Scene.c s l)(b:Sl Pq.c p P)(m:Mem):aI (aG (d+5)) DZ [.agg [s,p]] m=some (.tup [I (uP l P).1,I (uP l P).2],m):=by
 refine eY (by simp[Z.aP,b.aP]) ?_ m;rw[x9c];unfold mo bQ RG uP;simp[Z.one,b.one,mem0,xow d Z];by_cases f:(sE l).2=0
 .obtain⟨g,-⟩:=xdf f;simp[f,b.len tW];by_cases a:200<P.length
  .have e:(200:Int)<(P.length:Int):=(by omega);simp[a,e];exact RetF.tup rfl rfl
  .have e:¬(200:Int)<(P.length:Int):=(by omega);simp[a,e,CP];unfold vw;simp[b.len tW];exact x30 (d+2) 17 Z b g (by omega) NN 0 () _ _ (by omega) (by rw[dB];omega) ⟨by simp,⟨[],by simp;rfl,λq=>by simp[nD]⟩,by simp⟩
 .simp[f];exact RetF.tup rfl rfl
def xn8(d:Nat){s p:AV}{l:List Scene}{P:List Pq}(Z:Sl Scene.c s l)(a:Sl Pq.c p P)(m:Mem):aI (aG (d+6)) DT [.agg [s,p]] m=some (I (uP l P).2,m):=by refine eY (by simp[Z.aP,a.aP]) ?_ m;rw[x8u];unfold kz bQ QA;simp[Z.one,a.one,mem0,xpx d Z a];exact RetF.st rfl rfl
def gz{α:Type}{d:α->List AV}{z b:Nat}(j:∀x,(d x).length=z){a:AV}{l:List α}(h:Sl d a l)(g:cF l.length b)(id:Id)(m:Mem) :
    (l=[]/\∀{R:Type} (k:AV->Mem->Option R),cK z b id (elems m.get z a) (.aN [] 0 true) m k=k (.aN [] 0 true) m) \/
    (l≠[]/\∀{R:Type} (k:AV->Mem->Option R),cK z b id (elems m.get z a) (.aN [] 0 true) m k=k (.sref id 0 0 l.length z true) (m.new id (.row (l.flatMap d) 0 false))):=by
 have i:=h.elems j m.get;by_cases f:l.length=0
 .refine .inl ⟨rV.mp f,λk=>?_⟩;rw[i,NP g,eX f];rfl
 .refine .inr ⟨λe=>f (by rw[e];rfl),λk=>?_⟩;rw[i,NP g,fU f];rfl
def ei{α:Type}{b:α->List AV}{z k:Nat}(d:∀x,(b x).length=z)(Z:∀x,(b x).all aP=true){a:Id->Option Ob}{id:Id}{l:List α}{x:Bool}(e:a id=some (.row (l.flatMap b) 0 false)) :
    frz a (k+2) (.sref id 0 0 l.length z x)=some (.aN (l.flatMap b) l.length false):=by
 have g:=fN d l
 have:=rP (aD:=a) (id:=id) (cs:=l.flatMap b) (ver:=0) (off:=0) (n:=l.length) (z:=z) (k:=k) (f:=false) (x:=x) e (by omega) (by
  rw[bF,dT (by omega)];exact pC Z l)
 rw[bF,dT (by omega)]at this;exact this
structure Sp where
 p:Int
 s:Int
def Sp.c(x:Sp):List AV:=[I x.p,I x.s]
theorem Sp.len(x:Sp):x.c.length=2:=rfl
theorem Sp.bD(x:Sp):x.c.all aP=true:=rfl
def cO(P:List Pq)(i:Int):Pq:=P.getD i.toNat ⟨0,0⟩
def eW(P:List Pq)(x:Sp):Int:=if x.s<0 then(cO P x.p).b else(cO P x.p).a
def cZ(P:List Pq)(x:Sp):Int:=if x.s<0 then(cO P x.p).a else(cO P x.p).b
def Wk(P:List Pq):List Sp->Int->Int->Prop
 |[],a,b=>a=b
 |x::r,a,b=>eW P x=a/\Wk P r (cZ P x) b
variable{P:List Pq}{F:List Int}
def Wk.app:∀{v w:List Sp} {a b c:Int},Wk P v a b->Wk P w b c->Wk P (v++w) a c
 |[],_,_,_,_,h,d=>by cases h;exact d
 |x::r,_,_,_,_,h,d=>⟨h.1,h.2.app d⟩
def Wk.split:∀{v w:List Sp} {a c:Int},Wk P (v++w) a c->∃b,Wk P v a b/\Wk P w b c
 |[],_,a,_,h=>⟨a,rfl,h⟩
 |x::r,_,_,_,h=>by obtain⟨b,d,e⟩:=Wk.split (v:=r) h.2;exact⟨b,⟨h.1,d⟩,e⟩
def kI(F:List Int)(x:Sp):Prop:=x.p∈F/\(x.s=1\/x.s=-1)
def AllF(F:List Int)(w:List Sp):Prop:=∀x∈w,kI F x
def AllF.tail{x:Sp}{r:List Sp}(h:AllF F (x::r)):AllF F r:=λy a=>h y (dU _ a)
def AllF.head{x:Sp}{r:List Sp}(h:AllF F (x::r)):kI F x:=h x (eS ..)
def AllF.app{v w:List Sp}(h:AllF F v)(b:AllF F w):AllF F (v++w):=λy a=>by
 rcases iZ.mp a with a|a
 .exact h y a
 .exact b y a
def zO(x:Sp):Sp:=⟨x.p,-x.s⟩
def x51{x:Sp}(h:kI F x):eW P (zO x)=cZ P x:=by unfold eW cZ zO;rcases h.2 with e|e<;>rw[e]<;>simp
def x5z{x:Sp}(h:kI F x):cZ P (zO x)=eW P x:=by unfold eW cZ zO;rcases h.2 with e|e<;>rw[e]<;>simp
def x50{x:Sp}(h:kI F x):kI F (zO x):=by refine⟨h.1,?_⟩;unfold zO;rcases h.2 with e|e<;>rw[e]<;>simp
def Wk.back:∀{w:List Sp} {a b:Int},Wk P w a b->AllF F w->∃v,Wk P v b a/\AllF F v
 |[],_,_,h,_=>⟨[],h.symm,λ_ h=>by cases h⟩
 |x::r,_,_,h,d=>by
  obtain⟨v,f,g⟩:=Wk.back h.2 d.tail;refine⟨v++[zO x],f.app ⟨x51 d.head,?_⟩,g.app ?_⟩
  .show cZ P (zO x)=_;rw[x5z d.head];exact h.1
  .intro y e;simp at e;subst e;exact x50 d.head
def IA(P:List Pq)(F:List Int):Prop:=∀i∈F,∃s:Int->Bool,s (cO P i).a≠s (cO P i).b/\∀j∈F,j≠i->s (cO P j).a=s (cO P j).b
def ZV{i:Int}{s:Int->Bool}(h:∀j∈F,j≠i->s (cO P j).a=s (cO P j).b):∀{w:List Sp} {a b:Int},Wk P w a b->AllF F w->i∉w.map Sp.p->s a=s b
 |[],_,_,d,_,_=>by cases d;rfl
 |x::r,a,b,d,f,e=>by simp only[eN,dV,not_or]at e;have g:=h x.p f.head.1 (Ne.symm e.1);have l:=ZV h d.2 f.tail e.2;rw[<-l,<-d.1];unfold eW cZ;split<;>simp[g]
def xrs{i:Int}{s:Int->Bool}(h:s (cO P i).a≠s (cO P i).b){x y:Sp}(e:x.p=i)(f:y.p=i)(d:s (eW P y)=s (cZ P x)):eW P y=cZ P x/\cZ P y=eW P x:=by
 unfold eW cZ at *
 rw[e,f]at *
 by_cases g:x.s<0<;>by_cases j:y.s<0<;>simp only[g,j,cI,cU]at*<;> first|exact⟨trivial,trivial⟩|exact⟨rfl,rfl⟩|exact absurd d h|exact absurd d (Ne.symm h)
def xrr{i:Int}{s:Int->Bool}(h:s (cO P i).a≠s (cO P i).b){x:Sp}(d:x.p=i):s (eW P x)≠s (cZ P x):=by
 unfold eW cZ;rw[d];split
 .exact h.symm
 .exact h
def x0t(e:IA P F){x:Sp}{r:List Sp}{a:Int}(b:Wk P (x::r) a a)(d:AllF F (x::r))(f:x.p∉r.map Sp.p):False:=by obtain⟨s,h,i⟩:=e x.p d.head.1;have g:=ZV i b.2 d.tail f;exact xrr h rfl (by rw[b.1,g])
def NB(P:List Pq):List Sp->Prop
 |[]=>True
 |[_]=>True
 |x::y::r=>cZ P y≠eW P x/\NB P (y::r)
def NB.tail{x:Sp}{r:List Sp}(h:NB P (x::r)):NB P r:=by
 cases r with
 |nil=>trivial
 |cons y r=>exact h.2
def xfn(j:IA P F):∀{w:List Sp} {a b:Int},Wk P w a b->AllF F w->NB P w->(w.map Sp.p).Nodup
 |[],_,_,_,_,_=>List.nodup_nil
 |x::r,a,b,t,n,u=>by
  have f:=xfn j t.2 n.tail u.tail;rw[eN,l8];refine⟨λA=>?_,f⟩;obtain⟨y,D,h⟩:=fR.mp A;obtain⟨i,L,rfl⟩:=List.append_of_mem D;obtain⟨c,m,o⟩:=t.2.split;obtain⟨s,E,H⟩:=j x.p n.head.1;have l:x.p∉i.map Sp.p:=(by rw[nN,l9]at f;intro d;exact f.2.2 _ d y.p (by simp) h.symm);have g:AllF F i:=λz C=>n.tail z (xO _ C)
  have e:=ZV H m g l;obtain⟨J,K⟩:=xrs E (x:=x) (y:=y) rfl h (by rw[o.1,e]);cases i with
  |nil=>exact u.1 K
  |cons z i=>
   refine x0t (r:=i) (x:=z) (a:=cZ P x) j ?_ g ?_
   .have:c=cZ P x:=(by rw[<-J];exact o.1.symm);rw[this]at m;exact m
   .rw[nN,l9]at f;have:=f.1;rw[eN,l8]at this;exact this.1
def xfp:∀{w:List Sp} {a b:Int},Wk P w a b->AllF F w->∃v,Wk P v a b/\AllF F v/\NB P v
 |[],_,_,h,d=>⟨[],h,d,trivial⟩
 |x::r,a,b,h,d=>by
  obtain⟨v,f,i,j⟩:=xfp h.2 d.tail;cases v with
  |nil=>exact⟨[x],⟨h.1,f⟩,λy g=>by simp at g;subst g;exact d.head,trivial⟩
  |cons y v=>
   by_cases c:cZ P y=eW P x
   .refine⟨v,?_,i.tail,j.tail⟩;have:=f.2;rw[c,h.1]at this;exact this
   .refine⟨x::y::v,⟨h.1,f⟩,λz e=>?_,c,j⟩;rcases dV.mp e with rfl|e
    .exact d.head
    .exact i z e
def qV(F:List Int):List Sp:=F.flatMap λi=>[⟨i,1⟩,⟨i,-1⟩]
def mem_stepsOf{F:List Int}{x:Sp}:x∈qV F↔kI F x:=by
 unfold qV kI;rw[mU];constructor
 .rintro⟨i,a,b⟩;simp only[dV,xN,or_false]at b;rcases b with rfl|rfl
  .exact⟨a,Or.inl rfl⟩
  .exact⟨a,Or.inr rfl⟩
 .rintro⟨d,f⟩;refine⟨x.p,d,?_⟩;cases x;rcases f with e|e<;>simp at e<;>subst e<;>simp
def bu{l k:List Int}(a:l.Nodup)(h:∀x∈l,x∈k):l.length<=k.length:=by
 induction l generalizing k with
 |nil=>simp
 |cons x r e=>
  rw[l8]at a;have d:=h x (eS ..);have:=e (k:=k.erase x) a.2 λy b=>by rw[List.mem_erase_of_ne (by rintro rfl;exact a.1 b)];exact h y (dU _ b)
  rw[List.length_erase_of_mem d]at this;have f:0<k.length:=List.length_pos_of_mem d;simp only[dW];omega
def x06(e:IA P F){w:List Sp}{a b:Int}(f:Wk P w a b)(d:AllF F w)(g:NB P w):w.length<=F.length:=by
 have:=bu (xfn e f d g) (k:=F) λi h=>by obtain⟨x,j,rfl⟩:=fR.mp h;exact(d x j).1
 simpa using this
def mn(x y:Int):Int:=if y<x then y else x
def jM(u:List Int)(p:Pq):List Int:=u.map λx=>if x=at0 u p.a.toNat\/x=at0 u p.b.toNat then mn (at0 u p.a.toNat) (at0 u p.b.toNat)else x
def joinsM(u:List Int)(l:List Pq):List Int:=l.foldl jM u
def freshM(n:Nat):List Int:=(List.range n).map λ(i:Nat)=>(i:Int)
def PqIn(n:Nat)(p:Pq):Prop:=0<=p.a/\p.a<p.b/\p.b<n
structure Lab (n:Nat) (u:List Int):Prop where
 len:u.length=n
 ok:∀v,v<n->0<=at0 u v/\at0 u v<=v/\at0 u (at0 u v).toNat=at0 u v
def dk(u:List Int)(p:Pq):(jM u p).length=u.length:=by unfold jM;simp
def zH{u:List Int}{p:Pq}{v:Nat}(h:v<u.length):at0 (jM u p) v=if at0 u v=at0 u p.a.toNat\/at0 u v=at0 u p.b.toNat then mn (at0 u p.a.toNat) (at0 u p.b.toNat)else at0 u v:=by rw[fH (by rw[dk];exact h),fH h];unfold jM;rw[Y0]
def bx(a b:Int):mn a b=a/\a<=b\/mn a b=b/\b<a:=by
 unfold mn;split
 .right;exact⟨rfl,by assumption⟩
 .left;exact⟨rfl,by omega⟩
def Lab.fresh(n:Nat):Lab n (freshM n):=by
 refine⟨by simp[freshM],λv a=>?_⟩;have:∀w,w<n->at0 (freshM n) w=w:=λw b=>by rw[fH (by simpa[freshM]using b)];simp[freshM]
 rw[this v a];refine⟨by omega,by omega,?_⟩;rw[jF,this v a]
def Lab.GQ{n v:Nat}(h:v<n):at0 (freshM n) v=v:=by rw[fH (by simpa[freshM]using h)];simp[freshM]
def Lab.lt{n:Nat}{u:List Int}(h:Lab n u){v:Nat}(a:v<n):(at0 u v).toNat<n:=by have:=h.ok v a;omega
def Lab.join{n:Nat}{u:List Int}(h:Lab n u){p:Pq}(i:PqIn n p):Lab n (jM u p):=by
 obtain⟨o,r,t⟩:=i;have j:=h.ok p.a.toNat (by omega);have l:=h.ok p.b.toNat (by omega);refine⟨by rw[dk];exact h.len,λv f=>?_⟩;have ev:=h.ok v f;rw[zH (by rw[h.len];exact f)];obtain⟨m,g⟩:∃m,m=mn (at0 u p.a.toNat) (at0 u p.b.toNat):=⟨_,rfl⟩;have d:=bx (at0 u p.a.toNat) (at0 u p.b.toNat);rw[<-g]at d ⊢;by_cases c:at0 u v=at0 u p.a.toNat\/at0 u v=at0 u p.b.toNat
 .rw[aF c];refine⟨by omega,by omega,?_⟩;rw[zH (by rw[h.len];omega),<-g];have:at0 u m.toNat=at0 u p.a.toNat\/at0 u m.toNat=at0 u p.b.toNat:=by
   rcases d with ⟨e,-⟩|⟨e,-⟩
   .rw[e,j.2.2];exact Or.inl rfl
   .rw[e,l.2.2];exact Or.inr rfl
  rw[aF this]
 .rw[aB c];refine⟨ev.1,ev.2.1,?_⟩;rw[zH (by rw[h.len];omega),ev.2.2,aB c]
def Lab.joins{n:Nat}:∀{l:List Pq} {u:List Int},Lab n u->(∀p∈l,PqIn n p)->Lab n (joinsM u l)
 |[],_,h,_=>h
 |p::l,u,h,a=>Lab.joins (l:=l) (h.join (a p (eS ..))) λq b=>a q (dU _ b)
def Sm(u:List Int)(v w:Nat):Prop:=at0 u v=at0 u w
def x4g(x y a b m:Int)(f:m=a/\a<=b\/m=b/\b<a):((if x=a\/x=b then m else x)=(if y=a\/y=b then m else y))↔(x=y\/(x=a/\y=b)\/(x=b/\y=a)):=by by_cases d:x=a\/x=b<;>by_cases e:y=a\/y=b<;>(first|rw[aF d]|rw[aB d])<;>(first|rw[aF e]|rw[aB e])<;>omega
def dh{n:Nat}{u:List Int}{p:Pq}(h:Lab n u){v w:Nat}(d:v<n)(e:w<n) :
    Sm (jM u p) v w↔Sm u v w\/(Sm u v p.a.toNat/\Sm u w p.b.toNat)\/(Sm u v p.b.toNat/\Sm u w p.a.toNat):=by
 unfold Sm;rw[zH (by rw[h.len];exact d),zH (by rw[h.len];exact e)];exact x4g _ _ _ _ _ (bx _ _)
def xg4(u:List Int)(l k:List Pq):joinsM u (l++k)=joinsM (joinsM u l) k:=by unfold joinsM;rw[jn]
def x4e{n:Nat}{u:List Int}{p:Pq}(h:Lab n u){v w:Nat}(a:v<n)(b:w<n)(e:Sm u v w):Sm (jM u p) v w:=(dh h a b).mpr (Or.inl e)
def xg1{n:Nat}:∀{l:List Pq} {u:List Int},Lab n u->(∀p∈l,PqIn n p)->∀{v w:Nat},v<n->w<n->Sm u v w->Sm (joinsM u l) v w
 |[],_,_,_,_,_,_,_,e=>e
 |p::l,u,h,a,v,w,b,d,e=>xg1 (l:=l) (h.join (a p (eS ..))) (λq f=>a q (dU _ f)) b d (x4e h b d e)
def x4f{n:Nat}{u:List Int}{p:Pq}(h:Lab n u)(d:PqIn n p):Sm (jM u p) p.a.toNat p.b.toNat:=by obtain⟨e,f,g⟩:=d;exact(dh h (by omega) (by omega)).mpr (Or.inr (Or.inl ⟨rfl,rfl⟩))
def F3{n:Nat}:∀{l:List Pq} {u:List Int},Lab n u->(∀p∈l,PqIn n p)->∀p∈l,Sm (joinsM u l) p.a.toNat p.b.toNat
 |[],_,_,_,p,d=>by cases d
 |q::l,u,h,d,p,f=>by
  have e:=d q (eS ..);have g:∀p∈l,PqIn n p:=λp h=>d p (dU _ h)
  rcases dV.mp f with rfl|f
  .have:PqIn n p:=e;obtain⟨i,j,m⟩:=e;exact xg1 (l:=l) (h.join this) g (by omega) (by omega) (x4f h this)
  .exact F3 (h.join e) g p f
def dg{n:Nat}{R:Nat->Nat->Prop}(Z:∀{a b},R a b->R b a)(f:∀{a b c},R a b->R b c->R a c):∀{l:List Pq} {u:List Int},Lab n u->(∀p∈l,PqIn n p)->(∀p∈l,R p.a.toNat p.b.toNat)->(∀v w,v<n->w<n->Sm u v w->R v w)->∀v w,v<n->w<n->Sm (joinsM u l) v w->R v w
 |[],_,_,_,_,h=>h
 |p::l,u,h,o,r,g=>by
  have d:=o p (eS ..);refine dg (R:=R) Z f (l:=l) (h.join d) (λq d=>o q (dU _ d)) (λq d=>r q (dU _ d)) λv w i j e=>?_
  obtain⟨t,x,y⟩:=d;have m:=r p (eS ..);rcases(dh h i j).mp e with e|⟨e1,e2⟩|⟨e1,e2⟩
  .exact g v w i j e
  .exact f (g v _ i (by omega) e1) (f m (Z (g w _ j (by omega) e2)))
  .exact f (g v _ i (by omega) e1) (f (Z m) (Z (g w _ j (by omega) e2)))
def Lab.ext{n:Nat}{u t:List Int}(h:Lab n u)(k:Lab n t)(e:∀v w,v<n->w<n->(Sm u v w↔Sm t v w)):u=t:=by
 apply HW
 .rw[h.len,k.len]
 .intro v d f;rw[h.len]at d;rw[<-fH,<-fH];have a:=h.ok v d;have b:=k.ok v d;have g:at0 t (at0 u v).toNat=at0 t v:=(e _ v (by omega) d).mp (by unfold Sm;exact a.2.2);have i:at0 u (at0 t v).toNat=at0 u v:=(e _ v (by omega) d).mpr (by unfold Sm;exact b.2.2);have j:=k.ok (at0 u v).toNat (by omega);have l:=h.ok (at0 t v).toNat (by omega);omega
def Indep(u:List Int):List Pq->Prop
 |[]=>True
 |p::l=>¬Sm u p.a.toNat p.b.toNat/\Indep (jM u p) l
def Indep.app{u:List Int}:∀{l k:List Pq} ,Indep u (l++k)↔Indep u l/\Indep (joinsM u l) k:=by
 intro l;induction l generalizing u with
 |nil=>intro k;simp[Indep,joinsM]
 |cons p l a=>intro k;simp only[iO,Indep];rw[a];simp[joinsM,and_assoc]
def rC(n:Nat)(u:List Int):Nat:=((List.range n).filter λ(v:Nat)=>decide (at0 u v=(v:Int))).length
def x7o{n:Nat}{p q:Nat->Bool}{w:Nat}(g:w<n)(b:p w=true)(d:q w=false)(h:∀v,v<n->v≠w->p v=q v):((List.range n).filter p).length=((List.range n).filter q).length+1:=by
 induction n with
 |zero=>omega
 |succ n f=>
  rw[rU,xQ,xQ,eT,eT];by_cases c:w=n
  .subst c;have e:(List.range w).filter p=(List.range w).filter q:=(by apply List.filter_congr;intro v a;have:=iY.mp a;exact h v (by omega) (by omega));rw[e];simp[b,d]
  .have:=f (by omega) λv a=>h v (by omega)
   have e:=h n (by omega) (by omega);simp only[List.filter_cons,e,List.filter_nil];omega
def di{n:Nat}{u:List Int}{p:Pq}(h:Lab n u)(l:PqIn n p)(i:¬Sm u p.a.toNat p.b.toNat):rC n u=rC n (jM u p)+1:=by
 have hp':=l;obtain⟨t,x,y⟩:=l;have f:=h.ok p.a.toNat (by omega);have g:=h.ok p.b.toNat (by omega);unfold Sm at i;have j:=bx (at0 u p.a.toNat) (at0 u p.b.toNat);obtain⟨w,o⟩:∃w:Int,w=if at0 u p.b.toNat<at0 u p.a.toNat then at0 u p.a.toNat else at0 u p.b.toNat:=⟨_,rfl⟩
 have d:w=at0 u p.a.toNat/\at0 u p.b.toNat<at0 u p.a.toNat\/w=at0 u p.b.toNat/\at0 u p.a.toNat<at0 u p.b.toNat:=(by rw[o];split<;>omega);unfold rC;refine x7o (w:=w.toNat) (by omega) ?_ ?_ λv r m=>?_
 .rw[fm];rcases d with ⟨e,-⟩|⟨e,-⟩
  .rw[e,f.2.2];omega
  .rw[e,g.2.2];omega
 .rw[decide_eq_false_iff_not,zH (by rw[h.len];omega)];have:at0 u w.toNat=w:=by
   rcases d with ⟨e,-⟩|⟨e,-⟩
   .rw[e];exact f.2.2
   .rw[e];exact g.2.2
  rw[this,aF (by omega)];omega
 .rw[PE,fm,fm,zH (by rw[h.len];omega)];by_cases c:at0 u v=at0 u p.a.toNat\/at0 u v=at0 u p.b.toNat
  .rw[aF c];constructor
   .intro e;omega
   .intro e;rcases j with ⟨q,-⟩|⟨q,-⟩
    .rw[q]at e;rw[e]at f;have:=f.2.2;simpa using this
    .rw[q]at e;rw[e]at g;have:=g.2.2;simpa using this
  .rw[aB c]
def ML{n:Nat}:∀{l:List Pq} {u:List Int},Lab n u->(∀p∈l,PqIn n p)->Indep u l->rC n u=rC n (joinsM u l)+l.length
 |[],_,_,_,_=>rfl
 |p::l,u,h,b,d=>by have a:=b p (eS ..);have:=ML (h.join a) (λq a=>b q (dU _ a)) d.2;have f:=di h a d.1;have e:joinsM u (p::l)=joinsM (jM u p) l:=rfl;rw[e,dW];omega
def xd7(n:Nat):rC n (freshM n)=n:=by unfold rC;have:(List.range n).filter (λ(v:Nat)=>decide (at0 (freshM n) v=(v:Int)))=List.range n:=(by rw[HV];intro v a;rw[Lab.GQ (iY.mp a)];simp);rw[this,List.length_range]
variable{P:List Pq}
def prs(P:List Pq)(F:List Int):List Pq:=F.map (cO P)
structure For (n:Nat) (P:List Pq) (F:List Int):Prop where
 rng:∀i∈F,0<=i/\i<P.length
 nod:F.Nodup
 ind:Indep (freshM n) (prs P F)
def LT{n:Nat}(a:∀p∈P,PqIn n p){i:Int}(h:0<=i/\i<P.length):PqIn n (cO P i):=by unfold cO;have:i.toNat<P.length:=(by omega);rw[fP,gE this];exact a _ (eU this)
def pN{n:Nat}(a:∀p∈P,PqIn n p){F:List Int}(h:∀i∈F,0<=i/\i<P.length):∀p∈prs P F,PqIn n p:=λp b=>by obtain⟨i,d,rfl⟩:=fR.mp b;exact LT a (h i d)
def For.take{n:Nat}{F G:List Int}(h:For n P (F++G)):For n P F:=by refine⟨λi a=>h.rng i (xO _ a),(l9.mp h.nod).1,?_⟩;have:=h.ind;unfold prs at this;rw[nN]at this;exact(Indep.app.mp this).1
def For.cut{n:Nat}(A:∀p∈P,PqIn n p){F:List Int}(h:For n P F):IA P F:=by
 have o:∀(k:Nat) (F:List Int),F.length=k->For n P F->IA P F:=by
  intro k;induction k with
  |zero=>intro F r _ i m;rw[rV.mp r]at m;cases m
  |succ k D=>
   intro F r h;obtain⟨G,q,rfl⟩:∃G q,F=G++[q]:=(by have f:F≠[]:=(by rintro rfl;simp at r);exact⟨F.dropLast,F.getLast f,(jo f).symm⟩);have w:=h.take;have C:=D G (by simpa using r) w;obtain⟨u,x⟩:∃u,u=joinsM (freshM n) (prs P G):=⟨_,rfl⟩;have l:=h.ind;unfold prs at l;rw[nN]at l;have f:¬Sm u (cO P q).a.toNat (cO P q).b.toNat:=(by have:=(Indep.app.mp l).2;rw[show List.map (cO P) [q]=[cO P q]from rfl]at this;rw[x];exact this.1);have e:∀j∈G,Sm u (cO P j).a.toNat (cO P j).b.toNat:=λj d=>by rw[x];exact F3 (Lab.fresh n) (pN A w.rng) _ (fR.mpr ⟨j,d,rfl⟩)
   unfold Sm at f e;intro i m;rcases iZ.mp m with m|m
   .obtain⟨s,t,y⟩:=C i m;by_cases c:s (cO P q).a=s (cO P q).b
    .refine⟨s,t,λj d g=>?_⟩;rcases iZ.mp d with d|d
     .exact y j d g
     .simp at d;subst d;exact c
    .refine⟨λv=>if at0 u v.toNat=at0 u (cO P q).b.toNat then !(s v)else s v,?_,λj d g=>?_⟩
     .have:=e i m;simp only
      rw[this];split
      .simpa using t
      .exact t
     .simp only
      rcases iZ.mp d with d|d
      .have:=e j d;rw[this,y j d g]
      .simp at d;subst d;rw[aB f,aF rfl];cases E:s (cO P j).a<;>cases H:s (cO P j).b<;>simp_all
   .simp at m;subst m;refine⟨λv=>decide (at0 u v.toNat=at0 u (cO P i).a.toNat),?_,λj d g=>?_⟩
    .simp[Ne.symm f]
    .rcases iZ.mp d with d|d
     .simp only;rw[e j d]
     .simp at d;exact absurd d g
 exact o _ F rfl h
def xg5{n:Nat}(u:∀p∈P,PqIn n p){F:List Int}(y:∀i∈F,0<=i/\i<P.length):∀{v w:Nat},v<n->w<n->Sm (joinsM (freshM n) (prs P F)) v w->∃l,Wk P l v w/\AllF F l:=by
 intro v w o r Z;let R:Nat->Nat->Prop:=λv w=>∃l,Wk P l v w/\AllF F l
 have d:∀{a b},R a b->R b a:=λ⟨l,f,g⟩=>(by obtain⟨v,j,m⟩:=f.back g;exact⟨v,j,m⟩);have t:∀{a b c},R a b->R b c->R a c:=λ⟨l,f,g⟩ ⟨k,j,m⟩=>⟨l++k,f.app j,g.app m⟩;refine dg (R:=R) d t (Lab.fresh n) (pN u y) (λp D=>?_) (λv w o r e=>?_) v w o r Z
 .obtain⟨i,C,rfl⟩:=fR.mp D;have E:=LT u (y i C);obtain⟨H,f,g⟩:=E;refine⟨[⟨i,1⟩],⟨?_,?_⟩,λx A=>?_⟩
  .unfold eW;simp;omega
  .show cZ P ⟨i,1⟩=_;unfold cZ;simp;omega
  .simp at A;subst A;exact⟨C,Or.inl rfl⟩
 .unfold Sm at e;rw[Lab.GQ o,Lab.GQ r]at e;exact⟨[],by show(v:Int)=w;exact e,λ_ h=>by cases h⟩
def For.len{n:Nat}(a:∀p∈P,PqIn n p){F:List Int}(h:For n P F):F.length<=n:=by have:=ML (Lab.fresh n) (pN a h.rng) h.ind;rw[xd7]at this;have e:(prs P F).length=F.length:=(by unfold prs;simp);omega
def Gk.len{α:Type}{z:Nat}{enc:α->List AV}{l:List α}{a:AV}{ok:Id->Prop}{m:Mem}{y e:TypeId}(b:prog.underlying y=some (.slice e))(h:Gk z enc ok m a l):aM prog y a=some (I l.length):=by
 rcases h with ⟨rfl,rfl⟩|⟨id,d,_,rfl,f⟩
 .exact U7 b
 .rfl
def Gk.at{a:AV}{l:List Int}{ok:Id->Prop}{m:Mem}(h:Gk 1 intE ok m a l){k:Int}(p:0<=k)(n:k<l.length) :
    ∃q,aV 1 a (I k)=some q/\aA false 1 q m=some (I (at0 l k.toNat))/\∀v:Int,∃g,(∀{R:Type} (K:Mem->Option R),bA 1 q (I v) m K=K g)/\Gk 1 intE ok g a (l.set k.toNat v)/\g.next=m.next/\∀j,¬ok j->g.get j=m.get j:=by
 rcases h with ⟨rfl,rfl⟩|⟨id,d,e,rfl,o⟩
 .simp at n;omega
 .have b:k.toNat<l.length:=(by omega);refine⟨.ptr id d k.toNat,?_,?_,λv=>⟨m.set id (.row ((l.set k.toNat v).flatMap intE) d false),λK=>?_,Or.inr ⟨id,d,e,by simp,by simp⟩,rfl,λj r=>?_⟩⟩
  .simp[aV,dF,p,n]
  .rw[aQ o,rd,aB (by simp),V4,<-List.map_drop,gV b,fH b];rfl
  .rw[iB (z:=1) (x:=I v) (k:=K) o rfl (by rw[F5];omega) rfl];congr 3;simp only[V4,cH,ge];rw[List.map_set,jf,aF (by simpa using b)];simp
  .rw[Mem.bG,aB (by rintro rfl;exact r e)]
def x14{l X:List Int}(b:X.length=l.length){k:Nat}(a:k<l.length):at0 (X.take k++l.drop k) k=at0 l k:=by rw[fH (by simp;omega),fH a,xlg (by simp;omega)];simp[b,iz (Nat.le_of_lt a)]
def x11{l X:List Int}(d:X.length=l.length){k:Nat}(a:k<l.length):(X.take k++l.drop k).set k (at0 X k)=X.take (k+1)++l.drop (k+1):=by have b:(X.take k).length=k:=(by simp;omega);rw[List.set_append,aB (by omega),b,Nat.sub_self,gV a,List.set_cons_zero,mS (by omega),fH (by omega),kU];rfl
def x13{l X:List Int}(b:X.length=l.length){k:Nat}(a:k<l.length)(h:at0 X k=at0 l k):X.take k++l.drop k=X.take (k+1)++l.drop (k+1):=by rw[gV a,mS (by omega),<-fH (show k<X.length by omega),h,fH a];simp
def x12{l X:List Int}(a:X.length=l.length){k:Nat}(b:k<=l.length):(X.take k++l.drop k).length=l.length:=by simp;omega
def xp6:prog.underlying xa6=some (.slice dP):=by kernel_rfl
def ju(ok:Id->Prop)(m a:Mem):Prop:=∀j:Id,¬ok j->j.1<m.next->a.get j=m.get j
def xjz(d:Nat)(Z:FHs){ok:Id->Prop}{m:Mem}{a:AV}{l:List Int}{p:Pq}(W:Gk 1 intE ok m a l)(F:∀j,ok j->j.1<m.next)(hp:PqIn l.length p)(hl:l.length<=1000) :
    ∃f,aG (d+1) Z P2 [a,.agg [I p.a,I p.b]] m=some (B (!decide (at0 l p.a.toNat=at0 l p.b.toNat)),f)/\Gk 1 intE ok f a (jM l p)/\f.next=m.next+1/\ju ok m f:=by
 obtain⟨p0,p1,p2⟩:=hp;rw[x8q];unfold ku aU PT;obtain⟨t,i⟩:∃t,t=(⟨m.hp,m.next+1⟩:Mem).new (m.next,0,3) (.row [I p.a,I p.b] 0 false):=⟨_,rfl⟩;have C:∀j:Id,j.1<m.next->t.get j=m.get j:=λj e=>by rw[i,Mem.dI,aB (by rintro rfl;exact Nat.lt_irrefl _ e)];rfl
 have J:t.next=m.next+1:=(by rw[i];rfl);have hg:t.get (m.next,0,3)=some (.row [I p.a,I p.b] 0 false):=(by rw[i];simp);have g:Gk 1 intE ok t a l:=W.frame λj e=>C j (F j e)
 obtain⟨q1,i1,l1,-⟩:=g.at (k:=p.a) p0 (by omega);obtain⟨q2,i2,l2,-⟩:=g.at (k:=p.b) (by omega) p2;simp only[iE,nH,dY,nP,vZ,iL,bC,<-i];simp[hg,i1,l1,i2,l2];unfold uh;simp[g.len xp6];have E:(jM l p).length=l.length:=dk l p;refine nZ (N:=l.length) (σ:=Unit) (λn k _ f Y=>Y8 (aG d) Z m.next n a (I (at0 l p.a.toNat)) (I (at0 l p.b.toNat)) a (I l.length) (I k) f Y)
  (λk _ f=>Gk 1 intE ok f a ((jM l p).take k++l.drop k)/\f.next=m.next+1/\ju ok m f)
  (λr=>∃f,r=some (B (!decide (at0 l p.a.toNat=at0 l p.b.toNat)),f)/\Gk 1 intE ok f a (jM l p)/\f.next=m.next+1/\ju ok m f) ?_ ?_ NN 0 () t _ (by omega) (by rw[dB];omega) ⟨by simpa using g,J,λj _ e=>C j e⟩
 .rintro n k-P Y w ⟨y,H,A⟩ next;have hk':(k:Int)<(l.length:Int):=(by omega);have hml:=x12 (l:=l) (X:=jM l p) E (k:=k) (by omega);obtain⟨q,L,D,st⟩:=y.at (k:=(k:Int)) (by omega) (by omega);rw[jF,x14 E w]at D;have e:=zH (u:=l) (p:=p) w;simp only[Y8];unfold PU ui PV;by_cases c:at0 l k=at0 l p.a.toNat\/at0 l k=at0 l p.b.toNat
  .rw[aF c]at e;obtain⟨Q,M,O,e3,R⟩:=st (mn (at0 l p.a.toNat) (at0 l p.b.toNat));rw[jF,<-e,x11 E w]at O;unfold mn at M;by_cases x:at0 l k=at0 l p.a.toNat
   .simp(disch:=omega) [hk',L,D,x,bU];rw[M];exact next () Q _ ⟨O,by omega,λj e o=>by rw[R j e];exact A j e o⟩
   .have K:at0 l k=at0 l p.b.toNat:=c.resolve_left x;rw[K]at D x;simp(disch:=omega) [hk',L,D,x,bU];rw[M];exact next () Q _ ⟨O,by omega,λj e o=>by rw[R j e];exact A j e o⟩
  .rw[aB c]at e;have x:¬at0 l k=at0 l p.a.toNat:=λh=>c (Or.inl h)
   have K:¬at0 l k=at0 l p.b.toNat:=λh=>c (Or.inr h)
   simp(disch:=omega) [hk',L,D,x,K,bU];exact next () P _ ⟨by rw[<-x13 E w e];exact y,H,A⟩
 .rintro n-P Y ⟨y,H,A⟩;have w:¬((l.length:Int)<(l.length:Int)):=(by omega);simp only[Y8];unfold PU uj;simp[w];rw[mE (bS _),dT (by omega),hW]at y;exact⟨y,H,A⟩
def MS{n k:Nat}(h:k<n):(freshM n).take k++[(k:Int)]=(freshM n).take (k+1):=by rw[mS (by simpa[freshM]using h)];simp[freshM]
def xbl(d:Nat){n:Nat}(D:n<=1000)(m:Mem):∃a M,sH (aG (d+1)) C6 [I n] m=some (a,M)/\Gk 1 intE (λid=>id.1=m.next) M a (freshM n)/\M.next=m.next+1/\∀j:Id,j.1<m.next->M.get j=m.get j:=by
 obtain⟨a,b,t,u,E⟩:∃a b,aG (d+1) [] C6 [I n] ⟨[],m.next⟩=some (a,b)/\Gk 1 intE (λid=>id.1=m.next) b a (freshM n)/\b.next=m.next+1:=by
  rw[x8t];unfold ky bQ PY uk;refine nZ (N:=n) (λj k a b Y=>Y9 (aG d) [] m.next j a (I n) (I k) b Y) (λk a b=>Gk 1 intE (λid=>id.1=m.next) b a ((freshM n).take k)/\b.next=m.next+1)
   (λr=>∃a b,r=some (a,b)/\Gk 1 intE (λid=>id.1=m.next) b a (freshM n)/\b.next=m.next+1) ?_ ?_ NN 0 nilS _ _ (by omega) (by rw[dB];omega) ⟨by simpa using Gk.nil,rfl⟩
  .rintro j k a g Y h ⟨e,i⟩ next;have hk':(k:Int)<(n:Int):=(by omega);have f:((freshM n).take k).length=k:=(by simp[freshM];omega);obtain⟨w,x,y,A,-,-,F,-⟩:=Gk.app (ok:=λid=>id.1=m.next) (bytes:=8) (id0:=(m.next,Y+6,12)) fL (by omega) rfl (by unfold cF;omega) e (k:Int);simp only[Y9];unfold PZ;simp(disch:=omega) [hk',nQ,bU];rw[show elems g.get 1 (.aN [I (k:Int)] 1 true)=some ([I (k:Int)],1)from rfl];rw[show[I (k:Int)]=intE k from rfl,y];exact next w x _ ⟨by rw[<-MS h];exact A,by omega⟩
  .rintro j a g Y ⟨e,i⟩;have h:¬((n:Int)<(n:Int)):=(by omega);simp only[Y9];unfold PZ ul;simp[h];exact⟨a,g,⟨rfl,rfl⟩,by rw[dT (by simp[freshM])]at e;exact e,i⟩
 obtain⟨M,C,H,o⟩:=gm (l:=[I n]) rfl t;refine⟨a,M,C,u.frame λj p=>?_,by omega,λj f=>?_⟩
 .rw[o j,aF (by omega)]
 .rw[o j,aB (by omega)]
def qZ(l:List Scene)(i:Int):Scene:=l.getD i.toNat ⟨⟨#[]⟩,0,0⟩
def lenP(l:List Scene)(p:Pq):Int:=(((qZ l p.a).day-(qZ l p.b).day).natAbs:Int)+(((qZ l p.a).bl-(qZ l p.b).bl).natAbs:Int)
def xdh{l:List Scene}{i:Int}(h:i.toNat<l.length):qZ l i=l[i.toNat]:=by unfold qZ;rw[fP,gE h];rfl
def LR{P:List Pq}{i:Int}(h:i.toNat<P.length):cO P i=P[i.toNat]:=by unfold cO;rw[fP,gE h];rfl
def KZ{l:List Scene}(a:InB l){i:Int}(b:0<=i)(h:i<l.length):(0<=(qZ l i).day/\(qZ l i).day<=100000)/\(-100000<=(qZ l i).bl/\(qZ l i).bl<=100000):=by rw[xdh (by omega)];exact a.get (by omega)
def xgo{l:List Scene}(d:InB l){p:Pq}(e:PqIn l.length p):0<=lenP l p/\lenP l p<=300000:=by obtain⟨f,h,g⟩:=e;have a:=KZ d (i:=p.a) f (by omega);have b:=KZ d (i:=p.b) (by omega) g;unfold lenP;omega
def Sl.ixz{α:Type}{b:α->List AV}{z:Nat}{a:AV}{l:List α}(d:∀x,(b x).length=z)(h:Sl b a l){k:Int}(e:0<=k)(f:k<l.length):aV z a (I k)=some (.aH ((l.drop k.toNat).flatMap b)):=by have:=h.ix d (k:=k.toNat) (by omega);rwa[J9 e]at this
def xbn(d:Nat){s p:AV}{l:List Scene}{P:List Pq}(Z:Sl Scene.c s l)(f:Sl Pq.c p P)(n:InB l){i:Int}(o:0<=i/\i<P.length)(u:PqIn l.length (cO P i))(m:Mem) :
    aI (aG (d+2)) P8 [.agg [s,p],I i] m=some (I (lenP l (cO P i)),m):=by
 refine eY (by simp[Z.aP,f.aP]) ?_ m;obtain⟨r,F,t⟩:=u;have A:=KZ n (i:=(cO P i).a) r (by omega);have E:=KZ n (i:=(cO P i).b) (by omega) t;have w:=f.ixz Pq.len o.1 o.2;have g:=λm=>iH (m:=m) (enc:=Pq.c) Pq.len (by omega) (show i.toNat<P.length by omega)
 rw[<-LR (by omega)]at g;have C:=Z.ixz Scene.len r (show(cO P i).a<l.length by omega);have D:=Z.ixz Scene.len (show 0<=(cO P i).b by omega) t;have h:=λm=>iH (m:=m) (enc:=Scene.c) Scene.len (by omega) (show(cO P i).a.toNat<l.length by omega)
 have j:=λm=>iH (m:=m) (enc:=Scene.c) Scene.len (by omega) (show(cO P i).b.toNat<l.length by omega)
 rw[<-xdh (by omega)]at h j;unfold lenP;rw[x81];unfold lu aU QP;generalize qZ l (cO P i).a=x at *
 generalize qZ l (cO P i).b=y at *
 generalize cO P i=e at *
 simp only[Pq.c]at g;simp only[Scene.c]at h j;simp(disch:=omega) [mem0,Z.one,f.one,w,g,C,D,h,j,v6,JO,tR,tS,aZ,jP,bU,xn3,dJ,show Nat.blt 0 1=true from rfl];refine RetF.st ?_ ?_<;>rfl
def Rng(n:Nat)(P:List Pq)(F:List Int):Prop:=∀i∈F,(0<=i/\i<P.length)/\PqIn n (cO P i)
def Rng.get{n:Nat}{P:List Pq}{F:List Int}(h:Rng n P F){k:Nat}(a:k<F.length):(0<=at0 F k/\at0 F k<P.length)/\PqIn n (cO P (at0 F k)):=by rw[fH a];exact h _ (eU a)
end Go.Ix
namespace Go.Ix
variable{P:List Pq}
def dj{u:List Int}{p:Pq}(h:at0 u p.a.toNat=at0 u p.b.toNat):jM u p=u:=by
 unfold jM;conv=>rhs;rw[<-List.map_id u]
 apply xle;intro x _;show _=x;rw[h];by_cases c:x=at0 u p.b.toNat
 .rw[aF (Or.inl c),c];unfold mn;simp
 .rw[aB (by simp[c])]
def jT(P:List Pq):List Int->List Int->List Int
 |_,[]=>[]
 |u,i::r=>if at0 u (cO P i).a.toNat=at0 u (cO P i).b.toNat then jT P u r else i::jT P (jM u (cO P i)) r
def ZK:∀(l u:List Int),Indep u (prs P (jT P u l))
 |[],_=>trivial
 |i::r,u=>by
  rw[jT];by_cases c:at0 u (cO P i).a.toNat=at0 u (cO P i).b.toNat
  .rw[aF c];exact ZK r u
  .rw[aB c];exact⟨c,ZK r _⟩
def CC:∀(l u:List Int),(jT P u l).Sublist l
 |[],_=>List.Sublist.slnil
 |i::r,u=>by
  rw[jT];by_cases c:at0 u (cO P i).a.toNat=at0 u (cO P i).b.toNat
  .rw[aF c];exact(CC r u).cons i
  .rw[aB c];exact(CC r _).cons_cons i
def ZL:∀(l k u:List Int),jT P u (l++k)=jT P u l++jT P (joinsM u (prs P l)) k
 |[],_,_=>rfl
 |i::r,k,u=>by
  rw[iO,jT,jT];by_cases c:at0 u (cO P i).a.toNat=at0 u (cO P i).b.toNat
  .rw[aF c,aF c,ZL r k u];show _=jT P u r++jT P (joinsM (jM u (cO P i)) (prs P r)) k;rw[dj c]
  .rw[aB c,aB c,ZL r k _];rfl
def xqt(l u:List Int)(i:Int):jT P u (l++[i])=jT P u l++(if at0 (joinsM u (prs P l)) (cO P i).a.toNat=at0 (joinsM u (prs P l)) (cO P i).b.toNat then[]else[i]):=by rw[ZL];congr 1
def ZR{α:Type}{R:α->α->Prop}(i:∀a,¬R a a)(j:∀a b,R a b->R b a->False):∀{l k:List α},l.Pairwise R->k.Pairwise R->(∀x,x∈l↔x∈k)->l=k
 |[],[],_,_,_=>rfl
 |[],y::k,_,_,h=>by have:=(h y).mpr (eS ..);cases this
 |x::l,[],_,_,h=>by have:=(h x).mp (eS ..);cases this
 |x::l,y::k,f,g,h=>by
  rw[vI]at f g;have e:x=y:=by
   rcases dV.mp ((h x).mp (eS ..))with e|e
   .exact e
   .rcases dV.mp ((h y).mpr (eS ..))with e2|e2
    .exact e2.symm
    .exact(j _ _ (g.1 x e) (f.1 y e2)).elim
  subst e;have:=ZR i j f.2 g.2 λz=>by
   constructor
   .intro d;rcases dV.mp ((h z).mp (dU _ d))with e|e
    .rw[e]at d;exact(i _ (f.1 _ d)).elim
    .exact e
   .intro d;rcases dV.mp ((h z).mpr (dU _ d))with e|e
    .rw[e]at d;exact(i _ (g.1 _ d)).elim
    .exact e
  rw[this]
def xej{α:Type}{R:α->α->Prop}(d:∀a,¬R a a){l:List α}(h:l.Pairwise R):l.Nodup:=List.Pairwise.imp (S:=λa b=>a≠b) (λ{a b} hr (e:a=b)=>d a (by rw[<-e]at hr;exact hr)) h
def lx(f:Int->Int)(i j:Int):Prop:=f i<f j\/(f i=f j/\i<j)
def xgb{f:Int->Int}(i:Int):¬lx f i i:=by unfold lx;omega
def xgc{f:Int->Int}(i j:Int)(h:lx f i j)(a:lx f j i):False:=by unfold lx at *;omega
def xga{f:Int->Int}{i j k:Int}(h:lx f i j)(a:lx f j k):lx f i k:=by unfold lx at *;omega
def x2g{f:Int->Int}{i j:Int}(h:i≠j):lx f i j\/lx f j i:=by unfold lx;omega
def Ordd(f:Int->Int)(N:Nat)(L:List Int):Prop:=L.Pairwise (lx f)/\∀x,x∈L↔(0<=x/\x<N)
def Ordd.one{f:Int->Int}{N:Nat}{L K:List Int}(h:Ordd f N L)(k:Ordd f N K):L=K:=ZR xgb xgc h.1 k.1 λx=>(h.2 x).trans (k.2 x).symm
def Ordd.nodup{f:Int->Int}{N:Nat}{L:List Int}(h:Ordd f N L):L.Nodup:=xej xgb h.1
def Asc(F:List Int):Prop:=F.Pairwise (· < ·)
def Asc.one{F G:List Int}(h:Asc F)(k:Asc G)(e:∀x,x∈F↔x∈G):F=G:=ZR (λa=>by omega) (λa b=>by omega) h k e
def Asc.nodup{F:List Int}(h:Asc F):F.Nodup:=xej (λa=>by omega) h
def xdi{l k:List Int}(b:l.Nodup)(d:k.Nodup)(h:∀x,x∈l↔x∈k):l.length=k.length:=by
 have:=bu b λx a=>(h x).mp a
 have:=bu d λx a=>(h x).mpr a
 omega
def fresh_mem{N:Nat}{x:Int}:x∈freshM N↔(0<=x/\x<N):=by
 unfold freshM;rw[fR];constructor
 .rintro⟨i,a,rfl⟩;have:=iY.mp a;omega
 .rintro⟨b,d⟩;exact⟨x.toNat,iY.mpr (by omega),by omega⟩
def eo(N:Nat):Asc (freshM N):=by unfold Asc freshM;rw[List.pairwise_map];exact xk9.imp λh=>by omega
def Asc.filter{F:List Int}(h:Asc F)(p:Int->Bool):Asc (F.filter p):=List.Pairwise.filter p h
variable{n:Nat}
def xg2{t:List Int}{l:List Pq}(d:∀p∈l,PqIn n p)(h:∀p∈l,Sm t p.a.toNat p.b.toNat){v w:Nat}(f:v<n)(g:w<n)(Z:Sm (joinsM (freshM n) l) v w):Sm t v w:=by refine dg (R:=Sm t) (λh=>h.symm) (λi j=>i.trans j) (Lab.fresh n) d h (λa b m o e=>?_) v w f g Z;unfold Sm at e;rw[Lab.GQ m,Lab.GQ o]at e;have:a=b:=(by omega);rw[this];rfl
def xg3{l k:List Pq}(d:∀p∈l,PqIn n p)(e:∀p∈k,PqIn n p)(h:∀p∈l,Sm (joinsM (freshM n) k) p.a.toNat p.b.toNat)(i:∀p∈k,Sm (joinsM (freshM n) l) p.a.toNat p.b.toNat):joinsM (freshM n) l=joinsM (freshM n) k:=
 ((Lab.fresh n).joins d).ext ((Lab.fresh n).joins e) λv w f g=>⟨xg2 d h f g,xg2 e i f g⟩
def x4d{l k:List Pq}(b:∀p∈l,PqIn n p)(d:∀p∈k,PqIn n p)(h:∀p,p∈l↔p∈k):joinsM (freshM n) l=joinsM (freshM n) k:=
 xg3 b d (λp a=>F3 (Lab.fresh n) d p ((h p).mp a)) (λp a=>F3 (Lab.fresh n) b p ((h p).mpr a))
def xd6:∀{l:List Pq} {u:List Int},Lab n u->(∀p∈l,PqIn n p)->rC n u<=rC n (joinsM u l)+l.length
 |[],_,_,_=>bS _
 |p::l,u,h,f=>by
  have d:=f p (eS ..);have g:=xd6 (h.join d) λq d=>f q (dU _ d)
  have e:joinsM u (p::l)=joinsM (jM u p) l:=rfl;rw[e,dW];by_cases c:Sm u p.a.toNat p.b.toNat
  .rw[dj c]at g ⊢;omega
  .have:=di h d c;omega
def xhl:∀{l:List Pq} {u:List Int},Lab n u->(∀p∈l,PqIn n p)->rC n (joinsM u l)+l.length<=rC n u->Indep u l
 |[],_,_,_,_=>trivial
 |p::l,u,h,g,i=>by
  have d:=g p (eS ..);have f:∀q∈l,PqIn n q:=λq d=>g q (dU _ d)
  have e:joinsM u (p::l)=joinsM (jM u p) l:=rfl;rw[e,dW]at i;by_cases c:Sm u p.a.toNat p.b.toNat
  .have:=xd6 (h.join d) f;rw[dj c]at this i;omega
  .have:=di h d c;exact⟨c,xhl (h.join d) f (by omega)⟩
def For.perm(d:∀p∈P,PqIn n p){F G:List Int}(h:For n P F)(g:G.Nodup)(e:∀x,x∈F↔x∈G):For n P G:=by
 have f:∀i∈G,0<=i/\i<P.length:=λi j=>h.rng i ((e i).mpr j)
 refine⟨f,g,xhl (Lab.fresh n) (pN d f) ?_⟩;have m:=ML (Lab.fresh n) (pN d h.rng) h.ind;have l:joinsM (freshM n) (prs P G)=joinsM (freshM n) (prs P F):=x4d (pN d f) (pN d h.rng) λp=>by unfold prs;rw[fR,fR];exact⟨λ⟨i,a,b⟩=>⟨i,(e i).mpr a,b⟩,λ⟨i,a,b⟩=>⟨i,(e i).mp a,b⟩⟩
 have o:=xdi h.nod g e;rw[l];have r:(prs P F).length=F.length:=(by unfold prs;simp);have t:(prs P G).length=G.length:=(by unfold prs;simp);omega
def For.sub(d:∀p∈P,PqIn n p){F G:List Int}(h:For n P F)(f:G.Nodup)(Z:∀x∈G,x∈F):For n P G:=by
 refine(h.perm (G:=G++F.filter λx=>!(G.contains x)) d ?_ λx=>?_).take
 .rw[l9];refine⟨f,h.nod.filter _,λa g b i e=>?_⟩;subst e;have:=(jE.mp i).2;simp at this;exact this g
 .rw[iZ,jE];by_cases c:x∈G
  .simp[c,Z x c]
  .simp[c]
def xyv:prs P (freshM P.length)=P:=by
 apply HW
 .simp[prs,freshM]
 .intro k d a;have b:k<P.length:=a;simp[prs,freshM,cO,fP,b]
structure Tree (n:Nat) (P:List Pq) (F:List Int):Prop where
 fo:For n P F
 asc:Asc F
 all:∀p∈P,Sm (joinsM (freshM n) (prs P F)) p.a.toNat p.b.toNat
def x18{a:List Int}(d:∀i∈a,0<=i/\i<P.length):∀p∈prs P a,p∈P:=by intro p e;obtain⟨i,f,rfl⟩:=fR.mp e;have:=d i f;have b:i.toNat<P.length:=(by omega);unfold cO;rw[fP,gE b];exact eU b
def Tree.uni(a:∀p∈P,PqIn n p){F:List Int}(h:Tree n P F):joinsM (freshM n) (prs P F)=joinsM (freshM n) P:=
 xg3 (pN a h.fo.rng) a (λp b=>F3 (Lab.fresh n) a p (x18 h.fo.rng p b)) h.all
def Tree.len(a:∀p∈P,PqIn n p){F:List Int}(h:Tree n P F):n=rC n (joinsM (freshM n) P)+F.length:=by have:=ML (Lab.fresh n) (pN a h.fo.rng) h.fo.ind;rw[xd7,h.uni a]at this;have e:(prs P F).length=F.length:=(by unfold prs;simp);omega
def uW(f:Int->Int)(x:Int):List Int->List Int
 |[]=>[x]
 |y::r=>if f x<f y\/(f x=f y/\x<y)then x::y::r else y::uW f x r
def ins_mem{f:Int->Int}{x z:Int}:∀{l:List Int},z∈uW f x l↔z=x\/z∈l
 |[]=>by simp[uW]
 |y::r=>by
  rw[uW];split
  .simp
  .rw[dV,ins_mem,dV];constructor
   .rintro(h|h|h)<;>simp[h]
   .rintro(h|h|h)<;>simp[h]
def xhj{f:Int->Int}{x:Int}:∀{l:List Int},l.Pairwise (lx f)->x∉l->(uW f x l).Pairwise (lx f)
 |[],_,_=>by simp[uW]
 |y::r,h,b=>by
  rw[uW];rw[vI]at h;split
  .rename_i c;rw[vI];refine⟨λz a=>?_,vI.mpr h⟩;rcases dV.mp a with rfl|a
   .exact c
   .exact xga c (h.1 z a)
  .rename_i c;rw[vI];refine⟨λz a=>?_,xhj h.2 λd=>b (dU _ d)⟩;rcases ins_mem.mp a with rfl|a
   .rcases x2g (f:=f) (i:=z) (j:=y) (λe=>b (by rw[e];exact eS ..))with e|e
    .exact absurd e c
    .exact e
   .exact h.1 z a
def eH(f:Int->Int)(N:Nat):List Int:=(freshM N).foldr (uW f) []
def C1(f:Int->Int)(N:Nat):Ordd f N (eH f N):=by
 have a:∀l:List Int,l.Nodup->(l.foldr (uW f) []).Pairwise (lx f)/\∀x,x∈l.foldr (uW f) []↔x∈l:=by
  intro l;induction l with
  |nil=>intro _;simp
  |cons y r g=>intro h;rw[l8]at h;obtain⟨d,b⟩:=g h.2;rw[xli];exact⟨xhj d λe=>h.1 ((b y).mp e),λx=>by rw[ins_mem,b,dV]⟩
 obtain⟨d,b⟩:=a (freshM N) (eo N).nodup;exact⟨d,λx=>(b x).trans fresh_mem⟩
def zG(f:Int->Int)(n:Nat)(P:List Pq):List Int:=jT P (freshM n) (eH f P.length)
def jX(f:Int->Int)(n:Nat)(P:List Pq):List Int:=(freshM P.length).filter λi=>(zG f n P).contains i
def xgl{f:Int->Int}{x:Int}(h:x∈zG f n P):0<=x/\x<P.length:=((C1 f P.length).2 x).mp ((CC _ _).subset h)
def xgm(f:Int->Int):(zG f n P).Nodup:=(CC _ _).nodup (C1 f P.length).nodup
def light_mem{f:Int->Int}{x:Int}:x∈jX f n P↔x∈zG f n P:=by
 unfold jX;rw[jE,fresh_mem];constructor
 .rintro⟨_,h⟩;simpa using h
 .intro h;exact⟨xgl h,by simpa using h⟩
def xgk(f:Int->Int):Asc (jX f n P):=(eo _).filter _
def xgn(b:∀p∈P,PqIn n p)(f:Int->Int):For n P (zG f n P):=⟨λi a=>xgl a,xgm f,ZK _ _⟩
def xgj(a:∀p∈P,PqIn n p)(f:Int->Int):For n P (jX f n P):=(xgn a f).perm a (xgk f).nodup λx=>light_mem.symm
def Ordd.split{f:Int->Int}{N:Nat}{L:List Int}(h:Ordd f N L)(c:Int):L=L.filter (λi=>decide (f i<=c))++L.filter (λi=>!decide (f i<=c)):=by
 refine h.one ⟨?_,λx=>?_⟩
 .rw[X9];refine⟨h.1.filter _,h.1.filter _,λa d b e=>?_⟩;have g:=(jE.mp d).2;have l:=(jE.mp e).2;simp at g l;unfold lx;omega
 .rw[<-h.2,iZ,jE,jE];cases decide (f x<=c)<;>simp
def oI(lt:Int->Int->Bool):Nat->List Int->List Int
 |0,L=>L
 |j+1,L=>if lt (at0 L (j+1)) (at0 L j)=true then oI lt j ((L.set (j+1) (at0 L j)).set j (at0 L (j+1)))else L
def xj6(lt:Int->Int->Bool):∀(j:Nat) (L:List Int),(oI lt j L).length=L.length
 |0,_=>rfl
 |j+1,L=>by
  rw[oI];split
  .rw[xj6 lt j];simp
  .rfl
def ydh{R:Int->Int->Prop}(o:∀{a b c},R a b->R b c->R a c){lt:Int->Int->Bool}{x:Int}:∀(A B:List Int),A.Pairwise R->(∀v∈A,(lt x v=true->R x v)/\(lt x v=false->R v x)) ->
    ∃C,oI lt A.length (A++x::B)=C++B/\C.Pairwise R/\C.Perm (A++[x]):=by
 intro A;generalize i:A.length=n;induction n generalizing A with
 |zero=>intro B _ _;have:=rV.mp i;subst this;exact⟨[x],rfl,by simp,jq _⟩
 |succ n F=>
  intro B g j;obtain⟨e,y,rfl⟩:∃e y,A=e++[y]:=(by have h:A≠[]:=(by rintro rfl;simp at i);exact⟨A.dropLast,A.getLast h,(jo h).symm⟩);have hn':e.length=n:=(by simpa using i);have r:e++[y]++x::B=e++y::x::B:=(by simp);have t:at0 (e++y::x::B) (n+1)=x:=(by rw[fH (by simp;omega),xlg (by omega)];simp[hn']);have u:at0 (e++y::x::B) n=y:=(by rw[fH (by simp;omega),xlg (by omega)];simp[hn']);have Z:((e++y::x::B).set (n+1) y).set n x=e++x::y::B:=(by rw[xk6 _ _ (by omega),xk6 _ _ (by omega)];simp[hn']);rw[X9]at g;obtain⟨w,l⟩:=j y (by simp);rw[r,oI,t,u,Z];by_cases c:lt x y=true
  .rw[aF c];obtain⟨C,D,E,m⟩:=F e hn' (y::B) g.1 λv p=>j v (by simp[p])
   refine⟨C++[y],by rw[D];simp,?_,?_⟩
   .rw[X9];refine⟨E,by simp,λa d b f=>?_⟩;simp at f;subst f;rcases iZ.mp (m.mem_iff.mp d)with d|d
    .exact g.2.2 a d b (by simp)
    .simp at d;subst d;exact w c
   .refine(m.append_right [y]).trans ?_;rw[kU,kU];exact List.Perm.append_left e (List.Perm.swap y x [])
  .rw[aB c];have c':lt x y=false:=(by simpa using c);refine⟨e++[y]++[x],by simp,?_,jq _⟩;rw[X9];refine⟨X9.mpr g,by simp,λa d b f=>?_⟩;simp at f;subst f;rcases iZ.mp d with d|d
   .exact o (g.2.2 a d y (by simp)) (l c')
   .simp at d;subst d;exact l c'
def iJ(lt:Int->Int->Bool)(k:Nat)(L:List Int):List Int:=(List.range' 1 k).foldl (λL i=>oI lt i L) L
def GN(lt:Int->Int->Bool)(k:Nat)(L:List Int):iJ lt (k+1) L=oI lt (k+1) (iJ lt k L):=by unfold iJ;rw[List.range'_concat,jn];simp[ja]
def xhb(lt:Int->Int->Bool)(k:Nat)(L:List Int):(iJ lt k L).length=L.length:=by
 induction k with
 |zero=>rfl
 |succ k a=>rw[GN,xj6,a]
def x4l{R:Int->Int->Prop}(j:∀{a b c},R a b->R b c->R a c){lt:Int->Int->Bool}{L:List Int}(h:∀(i:Nat) (u:i<L.length),∀v∈L.take i,(lt L[i] v=true->R L[i] v)/\(lt L[i] v=false->R v L[i])) :
    ∀k,k<L.length->∃C,iJ lt k L=C++L.drop (k+1)/\C.Pairwise R/\C.Perm (L.take (k+1)):=by
 intro k;induction k with
 |zero=>
  intro e;refine⟨L.take 1,?_,?_,jq _⟩
  .exact(vH 1 L).symm
  .cases L with
   |nil=>simp
   |cons a l=>simp
 |succ k t=>
  intro e;obtain⟨C,n,o,f⟩:=t (by omega);have d:C.length=k+1:=(by rw[f.length_eq];simp;omega);rw[GN,n,gV e];obtain⟨D,g,p,r⟩:=ydh (R:=R) j (lt:=lt) (x:=L[k+1]) C (L.drop (k+1+1)) o λv m=>h (k+1) e v (f.mem_iff.mp m)
  rw[d]at g;refine⟨D,g,p,r.trans ?_⟩;rw[mS e];exact f.append_right _
def dp{R:Int->Int->Prop}(g:∀{a b c},R a b->R b c->R a c){lt:Int->Int->Bool}{L:List Int}(h:∀(i:Nat) (m:i<L.length),∀v∈L.take i,(lt L[i] v=true->R L[i] v)/\(lt L[i] v=false->R v L[i])) :
    (iJ lt (L.length-1) L).Pairwise R/\(iJ lt (L.length-1) L).Perm L:=by
 by_cases l:L.length=0
 .have:=rV.mp l;subst this;exact⟨List.Pairwise.nil,jq _⟩
 .obtain⟨C,d,j,f⟩:=x4l (R:=R) (lt:=lt) (L:=L) g h (L.length-1) (by omega);have e:L.length-1+1=L.length:=(by omega);rw[e,mE (bS _),hW]at d;rw[e,dT (bS _)]at f;rw[d];exact⟨j,f⟩
def xid{N i:Nat}(h:i<(freshM N).length):(freshM N)[i]=i:=by simp[freshM]
def x4k(f:Int->Int)(N:Nat):iJ (λx y=>decide (f x<f y)) ((freshM N).length-1) (freshM N)=eH f N:=by
 obtain⟨d,e⟩:=dp (R:=lx f) xga (lt:=λx y=>decide (f x<f y)) (L:=freshM N) λi a v b=>by
  rw[xid a];obtain⟨j,g,rfl⟩:=HO.mp b;rw[OA,xid];simp at g;constructor
  .intro h;simp at h;exact .inl h
  .intro h;simp at h;unfold lx;omega
 exact Ordd.one ⟨d,λx=>by rw[e.mem_iff,fresh_mem]⟩ (C1 f N)
def x4m{L:List Int}(d:L.Nodup):Asc (iJ (λx y=>decide (x<y)) (L.length-1) L)/\∀x,x∈iJ (λx y=>decide (x<y)) (L.length-1) L↔x∈L:=by
 obtain⟨m,n⟩:=dp (R:=λa b:Int=>a<b) (λh k=>by omega) (lt:=λx y=>decide (x<y)) (L:=L) λi f v g=>by
  have l:v≠L[i]:=(by rintro rfl;obtain⟨j,o,e⟩:=HO.mp g;rw[OA]at e;simp at o;have:=ye2.mp d j i (by omega) f (by omega);exact this e);constructor
  .intro h;simpa using h
  .intro h;simp at h;omega
 exact⟨m,λx=>n.mem_iff⟩
open Go.Proofs
def vG(ok:Id->Prop)(m a:Mem):Prop:=∀j:Id,¬ok j->a.get j=m.get j
def PB(a:aJ)(f:AV)(b:Id)(o:Ob)(n:Nat)(c:Int->Int->Int):Prop:=∀(Z:FHs) (x y:Int) (m:Mem),0<=x->x<n->0<=y->y<n->m.get b=some o->∃d,m.next<=d/\fD a Z 2 f [I x,I y] m=some (I (c x y),⟨m.hp,d⟩)
def InN(n:Nat)(L:List Int):Prop:=∀x∈L,0<=x/\x<n
def InN.get{n:Nat}{L:List Int}(h:InN n L){k:Nat}(a:k<L.length):0<=at0 L k/\at0 L k<n:=by rw[fH a];exact h _ (eU a)
def InN.set{n:Nat}{L:List Int}(h:InN n L){k:Nat}{x:Int}(b:0<=x/\x<n):InN n (L.set k x):=λy a=>by
 rcases xla a with a|rfl
 .exact h y a
 .exact b
def x3s(d:aJ)(Z:FHs)(u:Nat){a f:AV}{b:Id}{o:Ob}{n:Nat}{c:Int->Int->Int}(hf:PB d f b o n c){ok:Id->Prop}(hb:¬ok b)(e:AV->AV->AV->AV->AV->Mem->Nat->O2)(E:Int)(R:AV)(Q:O2->Prop){m0:Mem}{LL:Nat}(hLL:LL<=1000)(h8:0<=E/\E<=1000)(F:List Int)(W:∀m Y,Gk 1 intE ok m a F->(∀j,¬ok j->m.get j=m0.get j)->m0.next<=m.next->Q (e a (I 0) R f (I (E+1)) m Y)) :
    ∀(j k:Nat) (L:List Int) (m:Mem) (Y:Nat),L.length=LL->j<L.length->j<k->InN n L->oI (λx y=>decide (c x y<0)) j L=F->Gk 1 intE ok m a L->(∀i,¬ok i->m.get i=m0.get i)->m0.next<=m.next->m0.get b=some o ->
    Q (Z8 d Z u e k a (I 0) R f (I E) (I j) m Y):=by
 intro j;induction j with
 |zero=>intro k L m Y X hj hk H g t w A h;obtain⟨k,rfl⟩:∃i,k=i+1:=⟨k-1,by omega⟩;simp only[Z8];unfold RO RP;simp(disch:=omega) [bU];rw[oI]at g;subst g;exact W m _ t w A
 |succ j ih=>
  intro k L m Y X hj hk H g t w A h;obtain⟨k,rfl⟩:∃i,k=i+1:=⟨k-1,by omega⟩;obtain⟨q1,C,l1,-⟩:=t.at (k:=((j+1:Nat):Int)) (by omega) (by omega);obtain⟨q0,D,l0,-⟩:=t.at (k:=(j:Int)) (by omega) (by omega);rw[jF]at l1 l0;have l:=H.get (k:=j+1) (by omega);have p:=H.get (k:=j) (by omega);obtain⟨N,hn',hc⟩:=hf Z (at0 L (j+1)) (at0 L j) m l.1 l.2 p.1 p.2 (by rw[w b hb];exact h);have K:((j+1:Nat):Int)-1=(j:Int):=(by omega);have M:(0:Int)<((j+1:Nat):Int):=(by omega);have hG':Gk 1 intE ok (⟨m.hp,N⟩:Mem) a L:=t.frame λid _=>rfl
  obtain⟨p1,j1,r1,-⟩:=hG'.at (k:=((j+1:Nat):Int)) (by omega) (by omega);obtain⟨p0,j0,r0,-⟩:=hG'.at (k:=(j:Int)) (by omega) (by omega);rw[jF]at r1 r0;obtain⟨p2,j2,-,O⟩:=hG'.at (k:=((j+1:Nat):Int)) (by omega) (by omega);obtain⟨m2,e1,e2,e3,e4⟩:=O (at0 L j);rw[jF]at e2;obtain⟨p3,j3,-,P⟩:=e2.at (k:=(j:Int)) (by omega) (by simp;omega);obtain⟨m3,f1,f2,f3,f4⟩:=P (at0 L (j+1));rw[jF]at f2;obtain rfl:p1=q1:=(by rw[j1]at C;cases C;rfl);obtain rfl:p0=q0:=(by rw[j0]at D;cases D;rfl);obtain rfl:p2=p1:=(by rw[j2]at C;cases C;rfl);obtain rfl:p3=p0:=(by rw[j3]at D;cases D;rfl);rw[oI]at g;simp only[Z8];unfold RO;simp only[fA,dO,fI,fT,M,bB,bC,iC,aC,C,l1,mZ];rw[bU,K];simp only[bC,aC,l0,hc,bV,cS,D,r0,r1];by_cases J:c (at0 L (j+1)) (at0 L j)<0
  .rw[aF (by simpa using J)]at g;simp only[J,bB,aS,e1,f1];exact ih k _ m3 _ (by simpa using X) (by simp;omega) (by omega) ((H.set p).set l) g f2 (λi r=>by rw[f4 i r,e4 i r];exact w i r) (by rw[f3,e3];show m0.next<=N;omega) h
  .rw[aB (by simpa using J)]at g;subst g;simp only[J,bO,aT];unfold RP;simp(disch:=omega) [bU];exact W _ _ hG' (λi r=>by rw[<-w i r];rfl) (by show m0.next<=N;omega)
def xj7{n:Nat}{lt:Int->Int->Bool}:∀(j:Nat) (L:List Int),j<L.length->InN n L->InN n (oI lt j L)
 |0,_,_,h=>h
 |j+1,L,a,h=>by
  rw[oI];split
  .exact xj7 j _ (by simp;omega) ((h.set (h.get (by omega))).set (h.get (by omega)))
  .exact h
def yc0(d:Nat)(Z:FHs){a f:AV}{b:Id}{o:Ob}{n:Nat}{c:Int->Int->Int}(J:PB (aG d) f b o n c){ok:Id->Prop}(A:¬ok b){L:List Int}{m:Mem}(K:L.length<=1000)(M:InN n L)(C:Gk 1 intE ok m a L)(i:m.get b=some o) :
    ∃e,aG (d+1) Z Q6 [a,I 0,I L.length,f] m=some (.tup [],e)/\Gk 1 intE ok e a (iJ (λx y=>decide (c x y<0)) (L.length-1) L)/\m.next<=e.next/\vG ok m e:=by
 rw[x9g];unfold mz zR RN;simp(disch:=omega) [bU];have H:iJ (λx y=>decide (c x y<0)) 0 L=L:=rfl;by_cases R:L.length=0
 .obtain⟨E,w⟩:∃E,NN=E+1:=⟨NN-1,by have:=dB;omega⟩;rw[w];simp only[o6];unfold IL;have:¬((1:Int)<(L.length:Int)):=(by omega);simp[R];exact⟨C.frame λ_ _=>rfl,λj _=>rfl⟩
 .refine nZ (N:=L.length-1) (σ:=Unit) (λj k _ e Y=>o6 (aG d) Z m.next j a (I 0) (I L.length) f (I ((k+1:Nat):Int)) e Y)
   (λk _ e=>Gk 1 intE ok e a (iJ (λx y=>decide (c x y<0)) k L)/\InN n (iJ (λx y=>decide (c x y<0)) k L)/\m.next<=e.next/\vG ok m e)
   (λr=>∃e,r=some (.tup [],e)/\Gk 1 intE ok e a (iJ (λx y=>decide (c x y<0)) (L.length-1) L)/\m.next<=e.next/\vG ok m e) ?_ ?_ NN 0 () _ _ (by omega) (by rw[dB];omega) ⟨C.frame λ_ _=>rfl,M,by show m.next<=m.next+1;omega,λj _=>rfl⟩
  .rintro j k-g Y X ⟨p,t,F,h⟩ next;have hk':(((k+1:Nat):Int))<(L.length:Int):=(by omega);simp only[o6];unfold IL wo;simp only[bV,hk',bB,aS,aC];have u:=xhb (λx y=>decide (c x y<0)) k L;refine x3s (aG d) Z m.next J A (o6 (aG d) Z m.next j) ((k+1:Nat):Int) (I L.length) (λr=>∃e,r=some (.tup [],e)/\Gk 1 intE ok e a (iJ (λx y=>decide (c x y<0)) (L.length-1) L)/\m.next<=e.next/\vG ok m e) (m0:=g) (LL:=L.length) K (by omega) (iJ (λx y=>decide (c x y<0)) (k+1) L) (λO l P Q W=>?_) (k+1) NN (iJ (λx y=>decide (c x y<0)) k L) g _ u (by omega) (by rw[dB];omega) t (GN _ k L).symm p (λ_ _=>rfl) (bS _) (by rw[h b A];exact i);exact next () O l ⟨P,by rw[GN];exact xj7 _ _ (by omega) t,by omega,λj D=>by rw[Q j D,h j D]⟩
  .rintro j-g Y ⟨p,t,F,h⟩;have hk':¬(((L.length-1+1:Nat):Int))<(L.length:Int):=(by omega);simp only[o6];unfold IL;simp only[bV,hk',bO,aT,aC];exact⟨g,rfl,p,F,h⟩
def yda(d:Nat)(Z:FHs){a f:AV}{b:Id}{o:Ob}{n:Nat}{c:Int->Int->Int}(r:PB (aG d) f b o n c){ok:Id->Prop}(t:¬ok b){L:List Int}{m:Mem}(F:L.length<20)(u:InN n L)(p:Gk 1 intE ok m a L)(i:m.get b=some o) :
    ∃g,aG (d+3) Z EB [a,f] m=some (.tup [],g)/\Gk 1 intE ok g a (iJ (λx y=>decide (c x y<0)) (L.length-1) L)/\m.next<=g.next/\vG ok m g:=by
 rw[x9i];unfold nc aU RR;simp[p.len jH];rw[x9d];unfold mr hJ RI;obtain⟨h,e⟩:∃h,NN=h+1:=⟨NN-1,by have:=dB;omega⟩;rw[e];simp only[OF];have l:¬(20:Int)<=(L.length:Int):=(by omega);have h20':¬(20:Int)<(L.length:Int):=(by omega);obtain⟨g,A,C,D,E⟩:=yc0 d Z r t (m:=⟨m.hp,m.next+1+1⟩) (by omega) u (p.frame λ_ _=>rfl) (by rw[<-i];rfl);unfold vy vz;simp[l,A];obtain⟨h,e⟩:∃h,NN=h+1:=⟨NN-1,by have:=dB;omega⟩;rw[e];simp only[OG];unfold wb;simp[h20'];exact⟨C,by have:m.next+1+1<=g.next:=D;omega,λj w=>by rw[E j w];rfl⟩
def xpb(d:Nat)(x y:Int)(m:Mem):aI (aG (d+2)) U3 [I x,I y] m=some (B (decide (x<y)),m):=by
 have a:∀(x:Int) (m:Mem),aI (aG (d+1)) U2 [I x] m=some (B false,m):=λx m=>by refine eY rfl ?_ m;rw[yco];unfold td bQ XY;simp[mem0];exact RetF.st rfl rfl
 refine eY rfl ?_ m;rw[ycp];unfold tf aU XZ;simp[mem0,a];exact RetF.st rfl rfl
def x3r(d:Nat)(Z:FHs)(u:Nat){a:AV}{ok:Id->Prop}(e:AV->AV->AV->AV->Mem->Nat->O2)(h:Int)(D:AV)(Q:O2->Prop){m0:Mem}{LL:Nat}(N:LL<=1000)(h8:0<=h/\h<=1000)(F:List Int)(E:∀m Y,Gk 1 intE ok m a F->(∀j,¬ok j->m.get j=m0.get j)->m.next=m0.next->Q (e a (I 0) D (I (h+1)) m Y)) :
    ∀(j k:Nat) (L:List Int) (m:Mem) (Y:Nat),L.length=LL->j<L.length->j<k->oI (λx y=>decide (x<y)) j L=F->Gk 1 intE ok m a L->(∀i,¬ok i->m.get i=m0.get i)->m.next=m0.next ->
    Q (Z7 (aG (d+2)) Z u e k a (I 0) D (I h) (I j) m Y):=by
 intro j;induction j with
 |zero=>intro k L m Y H O P f g l b;obtain⟨k,rfl⟩:∃i,k=i+1:=⟨k-1,by omega⟩;simp only[Z7];unfold RL RM;simp(disch:=omega) [bU];rw[oI]at f;subst f;exact E m _ g l b
 |succ j ih=>
  intro k L m Y H O P f g l b;obtain⟨k,rfl⟩:∃i,k=i+1:=⟨k-1,by omega⟩;obtain⟨q1,R,t,w⟩:=g.at (k:=((j+1:Nat):Int)) (by omega) (by omega);obtain⟨W,A,J,-⟩:=g.at (k:=(j:Int)) (by omega) (by omega);rw[jF]at t J;have p:((j+1:Nat):Int)-1=(j:Int):=(by omega);have r:(0:Int)<((j+1:Nat):Int):=(by omega);obtain⟨m2,X,K,e3,e4⟩:=w (at0 L j);rw[jF]at K;obtain⟨p3,j3,-,C⟩:=K.at (k:=(j:Int)) (by omega) (by simp;omega);obtain⟨m3,f1,M,f3,f4⟩:=C (at0 L (j+1));rw[jF]at M;obtain rfl:p3=W:=(by rw[j3]at A;cases A;rfl);rw[oI]at f;simp only[Z7];unfold RL;simp only[fA,dO,fI,fT,r,bB,bC,iC,aC,R,t,mZ];rw[bU,p];simp only[bC,aC,A,J,xpb d,cS,t];by_cases n:at0 L (j+1)<at0 L j
  .rw[aF (by simpa using n)]at f;simp only[n,bB,aS,X,f1];exact ih k _ m3 _ (by simpa using H) (by simp;omega) (by omega) f M (λi o=>by rw[f4 i o,e4 i o];exact l i o) (by rw[f3,e3];exact b)
  .rw[aB (by simpa using n)]at f;subst f;simp only[n,bO,aT];unfold RM;simp(disch:=omega) [bU];exact E _ _ g l b
def ycz(d:Nat)(Z:FHs){a:AV}{ok:Id->Prop}{L:List Int}{m:Mem}(u:L.length<=1000)(n:Gk 1 intE ok m a L) :
    ∃b,aG (d+3) Z EA [a,I 0,I L.length] m=some (.tup [],b)/\Gk 1 intE ok b a (iJ (λx y=>decide (x<y)) (L.length-1) L)/\b.next=m.next+1/\vG ok m b:=by
 rw[x9f];unfold mw hJ RK;simp(disch:=omega) [bU];by_cases D:L.length=0
 .obtain⟨p,l⟩:∃p,NN=p+1:=⟨NN-1,by have:=dB;omega⟩;rw[l];simp only[o5];unfold IK;simp[D];exact⟨n.frame λ_ _=>rfl,λj _=>rfl⟩
 .refine nZ (N:=L.length-1) (σ:=Unit) (λj k _ b Y=>o5 (aG (d+2)) Z m.next j a (I 0) (I L.length) (I ((k+1:Nat):Int)) b Y)
   (λk _ b=>Gk 1 intE ok b a (iJ (λx y=>decide (x<y)) k L)/\b.next=m.next+1/\vG ok m b)
   (λr=>∃b,r=some (.tup [],b)/\Gk 1 intE ok b a (iJ (λx y=>decide (x<y)) (L.length-1) L)/\b.next=m.next+1/\vG ok m b) ?_ ?_ NN 0 () _ _ (by omega) (by rw[dB];omega) ⟨n.frame λ_ _=>rfl,rfl,λj _=>rfl⟩
  .rintro j k-e Y F ⟨g,t,h⟩ next;have hk':(((k+1:Nat):Int))<(L.length:Int):=(by omega);simp only[o5];unfold IK wn;simp only[bV,hk',bB,aS,aC];have i:=xhb (λx y=>decide (x<y)) k L;refine x3r d Z m.next (o5 (aG (d+2)) Z m.next j) ((k+1:Nat):Int) (I L.length) (λr=>∃b,r=some (.tup [],b)/\Gk 1 intE ok b a (iJ (λx y=>decide (x<y)) (L.length-1) L)/\b.next=m.next+1/\vG ok m b) (m0:=e) (LL:=L.length) u (by omega) (iJ (λx y=>decide (x<y)) (k+1) L) (λw f A C E=>?_) (k+1) NN (iJ (λx y=>decide (x<y)) k L) e _ i (by omega) (by rw[dB];omega) (GN _ k L).symm g (λ_ _=>rfl) rfl;exact next () w f ⟨A,by omega,λj o=>by rw[C j o,h j o]⟩
  .rintro j-e Y ⟨g,t,h⟩;have hk':¬(((L.length-1+1:Nat):Int))<(L.length:Int):=(by omega);simp only[o5];unfold IK;simp only[bV,hk',bO,aT,aC];exact⟨e,rfl,g,t,h⟩
end Go.Ix
