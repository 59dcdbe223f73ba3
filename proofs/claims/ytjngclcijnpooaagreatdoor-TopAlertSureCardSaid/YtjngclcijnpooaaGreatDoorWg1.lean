import Derived.Test.YtjngclcijnpooaaGreatDoorWg0
import Derived.ProofKit
set_option maxRecDepth 10000
set_option linter.all false
open Go.Proofs.Tryz
namespace Go.Ix
open Go.Proofs
def xom(d:Nat){x y:Int}(e:0<y)(g:y<=1000000000000)(m:Mem):aI (aG (d+1)) T7 [I x,I y] m=some (I (x % y),m):=by
 refine Ans.gG ?_ rfl rfl;unfold Ans;rw[ya4];unfold sw XR Z';have f:x.tmod y=if 0<=x\/y ∣ x then x % y else x % y-y:=by have:=Int.tmod_eq_emod (a:=x) (b:=y);rw[this];split<;>omega
 have i:=Int.emod_nonneg x (show y≠0 by omega);have j:=Int.emod_lt_of_pos x e;simp[mem0,KM (show y≠0 by omega)];rw[f];split
 .rename_i h;simp[IT,show ¬(x % y<0) by omega]
 .rename_i h;have:x % y-y<0:=(by omega);simp(disch:=omega) [IT,this]
def ycc{l:List Int}{x:Int}{k:Nat}:at0 (l++[x]) k=if k<l.length then at0 l k else if k=l.length then x else 0:=by
 unfold at0;simp only[eU];by_cases h:k<l.length
 .rw[aH h,zV h]
 .rw[aD h,X9 (by omega)];by_cases a:k=l.length
  .rw[aH a,a];simp
  .rw[aD a,H0 (by simp;omega)];rfl
def OutIn(k:Int)(a:List Int):Prop:=∀i,-(2048*k)<=at0 a i/\at0 a i<=2048*k
def OutIn.app{k:Nat}{a:List Int}(h:OutIn k a){x:Int}(b:-(2048*((k+1:Nat):Int))<=x)(d:x<=2048*((k+1:Nat):Int)):OutIn ((k+1:Nat):Int) (a++[x]):=by
 intro i;rw[ycc];have:=h i;split
 .omega
 .split<;>omega
def Edge.same(a b:Edge):Bool:=decide (a.fr=b.fr)&&(decide (a.to=b.to)&&(decide (a.jump=b.jump)&&decide (a.wt=b.wt)))
def Edge.same_iff{a b:Edge}:a.same b=true↔a=b:=by cases a;cases b;simp[Edge.same]
def x1h{a:Id->Option Ob}{id:Id}(h:id.2.2=0):mE a id=true:=by unfold mE;rw[h];rfl
def x3n{a:aK}{id:Id}{h:List AV->Mem->Option Mem}{Z:FHs}{b:Nat}{l:List AV}{m:Mem}(d:id.2.2=0):fI a ((id,h)::Z) b (.yld id) l m=(h l m).map λe=>(B true,e):=by simp[fI,tG,x1h d]
theorem Edge.aP(e:Edge):e.c.all Go.Ix.aP=true:=rfl
def xe4(x y:Operand)(a b:Bool):cO prog .neq vQ x y (B a) (B b)=some (B (a != b)):=by cases a<;>cases b<;>kernel_rfl
abbrev Pr:=Int×Int
def Pr.c(x:Pr):List AV:=[I x.1,I x.2]
theorem Pr.len(x:Pr):(Pr.c x).length=2:=rfl
theorem Pr.bG(x:Pr):(Pr.c x).all Go.Ix.aP=true:=rfl
def xep(a b:Int):∀o∈[0,1],bY prog (part eE #[.int .i64 a,.int .i64 b] o)=some (.int .i64 ([a,b].getD o 0)):=by intro o d;simp only[eD,X7,or_false]at d;rcases d with rfl|rfl<;>kernel_rfl
end Go.Ix
namespace Go.Ix
open Go.Proofs
def Pl.v(p:Pl):Value:=.agg [.int .i64 p.x,.int .i64 p.y].toArray
def Pl.same(p q:Pl):Bool:=decide (p.x=q.x)&&decide (p.y=q.y)
def nP(L:List Pl):List (Value×AV):=L.map λp=>(p.v,B true)
def KL(p q:Pl):iD p.v q.v=p.same q:=by unfold iD Pl.v Pl.same;simp[yA];by_cases h:p.x=q.x<;>by_cases a:p.y=q.y<;>simp[h,a]
def x4v(L:List Pl)(p:Pl):findKey p.v (nP L)=if L.any (Pl.same p)=true then some (B true)else none:=by
 induction L with
 |nil=>rfl
 |cons x r a=>
  unfold nP at a ⊢;simp only[fY,findKey,KL,H3];by_cases Z:p.same x=true
  .simp[Z]
  .have hs':p.same x=false:=(by simpa using Z);rw[aD Z,a];simp[hs']
def xq5(L:List Pl)(p:Pl)(h:L.any (Pl.same p)=false):setKey p.v (B true) (nP L)=nP (L++[p]):=by
 induction L with
 |nil=>rfl
 |cons x r a=>rw[H3,Bool.or_eq_false_iff]at h;unfold nP at a ⊢;simp only[fY,jM,setKey,KL,h.1,fE,cJ,a h.2]
def x6v(p:Pl):(bY prog (Instr.checkKey true 10000 pH p.v)).isSome=true:=by kernel_rfl
def x6w(p:Pl):(bY prog (Instr.checkKey false 10000 pH p.v)).isSome=true:=by kernel_rfl
def x5c(p q:Pl):bY prog (Op.equal pH p.v q.v)=some (p.same q):=by
 obtain⟨f,g,t⟩:=p;obtain⟨h,i,u⟩:=q;have o:prog.underlying pH=some (.array 2 eE):=(by kernel_rfl);have r:bY prog (sizeOf eE)=some 1:=(by kernel_rfl);have j:=xep f g;have l:=xep h i;have b:=j 0 (by simp);have a:=j 1 (by simp);have d:=l 0 (by simp);have e:=l 1 (by simp);simp only[xk3,List.getD_cons_succ]at b a d e;show bY prog (Op.equalIn 10000 pH (.agg #[.int .i64 f,.int .i64 g]) (.agg #[.int .i64 h,.int .i64 i]))=_;rw[show(10000:Nat)=9998+1+1 from rfl,Op.equalIn];simp only[uN,bc o,aE,r];simp only[Std.Legacy.Range.forIn_eq_forIn_range',Std.Legacy.Range.size,Nat.sub_zero,xkn,Nat.div_one,List.range'_succ,List.range'_zero,List.forIn_cons,List.forIn_nil,uN,bO,oB];simp only[b,d,aE,LD _ _ _ _ _ _ JZ];unfold Pl.same;by_cases m:f=h
 .subst m;by_cases n:g=i
  .subst n;simp[CX,uN,a,LD _ _ _ _ _ _ JZ]
  .simp[CX,uN,a,e,n,LD _ _ _ _ _ _ JZ]
 .simp[CX,m]
def xb3:prog.underlying pH=some (.array 2 eE):=by kernel_rfl
def xb2:prog.underlying BK=some (.map pH vQ):=by kernel_rfl
def xgi(L:List Pl)(p:Pl):sV prog pH (.array 2 eE) p.v (nP L)=true:=by
 have d:KC prog pH (.array 2 eE) p.v (nP L)=true:=by
  show(iD p.v p.v&&((bY prog (Instr.checkKey true 10000 pH p.v)).isSome&&(bY prog (Instr.checkKey false 10000 pH p.v)).isSome) &&
   (nP L).all λe=>match e.1,bY prog (Op.equal pH p.v e.1)with
    | .agg _,some b=>b == iD p.v e.1
    |_,_=>false)=true
  rw[x6v,x6w,KL,show p.same p=true by simp[Pl.same]];simp only[gC,gO,dG];intro e a;unfold nP at a;obtain⟨x,-,rfl⟩:=fK.mp a;rw[x5c,KL];show(p.same x == p.same x)=true;simp
 unfold sV;rw[d,OY]
def xl7:J9 prog vQ=some (B false):=by kernel_rfl
def x1c{id:Id}{L:List Pl}(p:Pl){m:Mem}(h:m.get id=some (.map (nP L))):yC prog BK (.mp id) p.k false m=some (B (L.any (Pl.same p))):=by unfold yC;have e:dM p.k=some p.v:=rfl;simp only[xb2,e,xb3,xl7,sR,h];rw[aH (xgi L p),x4v];cases L.any (Pl.same p)<;>rfl
def xpa{R:Type}{id:Id}{L:List Pl}(p:Pl){m:Mem}(h:m.get id=some (.map (nP L)))(a:L.any (Pl.same p)=false)(k:Mem->Option R):uK prog BK (.mp id) p.k (B true) m k=k (m.set id (.map (nP (L++[p])))):=by unfold uK;have e:dM p.k=some p.v:=rfl;simp only[xb2,e,xb3,h];rw[aH (xgi L p),xq5 L p a]
def pl0:Pl:=⟨0,0,0⟩
def gP(l:List Pl)(k:Nat):Pl:=l.getD k pl0
def oU{l:List Pl}{k:Nat}(h:k<l.length):gP l k=l[k]:=by simp[gP,h]
def rA(l:List Pl)(k:Nat):Pl×Pl:=(gP l k,gP l ((k+1) % l.length))
def jE(l:List Pl):List (Pl×Pl):=(List.range l.length).map (rA l)
def KI(l:List Pl):(jE l).length=l.length:=by simp[jE]
def xqr{l:List Pl}{k:Nat}(h:k<(jE l).length):(jE l)[k]=rA l k:=by simp[jE]
def BO:prog.underlying pF=some (.slice tZ):=by kernel_rfl
def K9:prog.underlying n9=some (.slice JJ):=by kernel_rfl
def YD:xQ=[I 0,I 0,I 0]:=by kernel_rfl
def xm2:JB=[I 0,I 0]:=by kernel_rfl
def AZ:sD=[I 0,I 0,I 0,I 0]:=by kernel_rfl
def ybq(x y:Int):cW JB [(0,1,I x),(1,1,I y)]=some (.agg [I x,I y]):=by rw[xm2];simp[cW,jG,cR]
def ybp(a b c d:Int):cW sD [(0,2,.agg [I a,I b]),(2,2,.agg [I c,I d])]=some (.agg [I a,I b,I c,I d]):=by rw[AZ];simp[cW,jG,cR]
def x0j{R:Type}{a b c d:Int}{id:Id}{m:Mem}{k:AV->Mem->Option R}:dC sD [(0,4,.agg [I a,I b,I c,I d])] 1 4 id m k=k (.aQ [I a,I b,I c,I d] 1 true) m:=by rw[AZ];simp[dC,jG,eV,qK,cR]
def pQ{u s t:Nat}{m:Mem}{z cs:List AV}{n:Nat}(a:z.length=n)(b:cs.length=n)(e:cs.all AV.one=true):∃M:Mem,(∀{R:Type} (K:Mem->Option R),aZ n (.ptr (u,s,t) 0 0) (.agg cs) (m.new (u,s,t) (.row z 0 false)) K=K M)/\M.get (u,s,t)=some (.row cs 0 false)/\M.next=m.next/\∀j:Id,¬(j.1=u/\j.2.2=t)->M.get j=m.get j:=by
 refine⟨(m.new (u,s,t) (.row z 0 false)).set (u,s,t) (.row cs 0 false),λK=>?_,Mem.tB _ _ _,rfl,λj d=>?_⟩
 .rw[mA (off:=0) (z:=n) (x:=.agg cs) (k:=K) (Mem.iB _ _ _) b (by rw[a];omega) e];congr 3;simp[cR,a,b]
 .rw[Mem.cP,aD (by rintro rfl;exact d ⟨rfl,rfl⟩),Mem.dP,aD (by rintro rfl;exact d ⟨rfl,rfl⟩)]
def bi:Id->Prop:=λid=>id.1=0/\id.2.2=45
def x1u(o:aK)(Z:FHs){a:AV}{l:List Pl}(h:Sl Pl.c a l)(hl:l.length<=1000)(r:∀p∈l,eZ p):∀(n k j:Nat) (v:AV) (m:Mem) (Y:Nat),k+n=l.length->n<j->Gk 4 fH bi m v ((List.range k).map (rA l)) ->
    ∃w Q,AM o Z 0 j a (I 1) v a (I l.length) (I k) m Y=some (w,Q)/\Gk 4 fH bi Q w (jE l):=by
 intro n;induction n with
 |zero=>intro k j v m Y hk F H;obtain⟨j,rfl⟩:∃i,j=i+1:=⟨j-1,by omega⟩;obtain rfl:k=l.length:=(by omega);refine⟨v,m,?_,H⟩;simp only[AM];unfold WY i';simp
 |succ n ih=>
  intro k j v m Y hk F H;obtain⟨j,rfl⟩:∃i,j=i+1:=⟨j-1,by omega⟩;have f:k<l.length:=(by omega);have g:(k+1) % l.length<l.length:=tQ _ (by omega);have hk':(k:Int)<(l.length:Int):=(by omega);have J:=h.ix Pl.len f;have K:=h.ix Pl.len g;have C:=λm=>iP (m:=m) Pl.len (by omega) f
  have D:=λm=>iP (m:=m) Pl.len (by omega) g
  rw[<-oU f]at C;rw[<-oU g]at D;have L:=r (gP l k) (by rw[oU f];exact eX f);have N:=r (gP l ((k+1) % l.length)) (by rw[oU g];exact eX g);obtain⟨M1,s1,g1,n1,f1⟩:=pQ (u:=0) (s:=Y+4) (t:=7) (m:=m) (z:=xQ) (cs:=(gP l k).c) (n:=3) (by rw[YD];rfl) rfl rfl;obtain⟨E,s2,g2,n2,W⟩:=pQ (u:=0) (s:=Y+15) (t:=8) (m:=M1) (z:=xQ) (cs:=(gP l ((k+1) % l.length)).c) (n:=3) (by rw[YD];rfl) rfl rfl;have g1':E.get (0,Y+4,7)=some (.row [I (gP l k).x,I (gP l k).y,I (gP l k).z] 0 false):=(by rw[W _ (by simp)];exact g1);have g2':E.get (0,Y+15,8)=some (.row [I (gP l ((k+1) % l.length)).x,I (gP l ((k+1) % l.length)).y,I (gP l ((k+1) % l.length)).z] 0 false):=g2;have G2:Gk 4 fH bi E v ((List.range k).map (rA l)):=H.frame λj F=>by have h45:=F.2;rw[W j (by omega),f1 j (by omega)]
  obtain⟨w,X,A,G3,-,-,n3,f3⟩:=G2.app sH (by omega) (bytes:=32) (id0:=(0,Y+38,45)) ⟨rfl,rfl⟩ (by unfold cQ;simp;omega) (rA l k);have e:(List.range k).map (rA l)++[rA l k]=(List.range (k+1)).map (rA l):=(by rw[qK,kY];rfl);rw[e]at G3;obtain⟨v2,m4,r4,G4⟩:=ih (k+1) j w X (Y+42) (by omega) (by omega) G3;refine⟨v2,m4,?_,G4⟩;rw[<-r4];obtain⟨a1,a2⟩:=L;obtain⟨b1,b2⟩:=N;have q1:bM (1*(gP l k).x)=(gP l k).x:=(by rw[jv,bJ]);have q2:bM (1*(gP l k).y)=(gP l k).y:=(by rw[jv,bJ]);have q3:bM (1*(gP l ((k+1) % l.length)).x)=(gP l ((k+1) % l.length)).x:=(by rw[jv,bJ]);have q4:bM (1*(gP l ((k+1) % l.length)).y)=(gP l ((k+1) % l.length)).y:=(by rw[jv,bJ]);have hw:=gH k (by omega);have hr:oG (I ((k+1:Nat):Int)) (I (l.length:Int))=some (I (((k+1) % l.length:Nat):Int)):=(by rw[KM (by omega)];congr 2);have O:∀(M:Mem) (a b c d:Int),elems M.get 4 (.aQ [I a,I b,I c,I d] 1 true)=some ([I a,I b,I c,I d],1):=λ_ _ _ _ _=>rfl
  have A':∀{R:Type} (P:AV->Mem->Option R),cX 4 32 (0,Y+38,45) (some ([I (gP l k).x,I (gP l k).y,I (gP l ((k+1) % l.length)).x,I (gP l ((k+1) % l.length)).y],1)) v E P=P w X:=A;simp only[AM];unfold WY;simp only[bQ,hk',bC,aE,aR,J,C,kA,s1,dJ,hw,h.len BO,hr,K,D,s2,cM,aM g1',aM g2',bO,cE,bA,cZ,CL,q1,q2,q3,q4,ybq,ybp,x0j,O,A']
def xbc(d:Nat){a:AV}{l:List Pl}(h:Sl Pl.c a l)(i:l.length<=1000)(b:∀p∈l,eZ p)(m:Mem):∃s,Sl fH s (jE l)/\aI (aG (d+1)) C7 [a,I 1] m=some (s,m):=by have e:RetF (λs=>Sl fH s (jE l)) (aG (d+1) [] C7 [a,I 1] mem0):=(by rw[yar];unfold sb WX zz;obtain⟨v,j,r,G⟩:=x1u (aG d) [] h i b l.length 0 NN nilS ⟨[],1⟩ (0+2+3) (by omega) (by rw[cU];omega) Gk.nil;simp only[mem0,h.len BO,aE];rw[show I ((0:Nat):Int)=I 0 from rfl]at r;rw[r];obtain⟨n,f,g⟩:=G.frz (k:=4) sH xq7;exact RetF.mk g f);obtain⟨s,f,g⟩:=qF (by simp[h.bG]) e m;exact⟨s,f,g⟩
def oW(S:List (Pl×Pl))(i k:Nat):Bool:=
 let s:=S.getD i (pl0,pl0);let o:=S.getD k (pl0,pl0)
 if i=k+1 then jJ s.1 s.2 o.1||jJ o.1 o.2 s.2
 else if k=0/\i+1=S.length then jJ s.1 s.2 o.2||jJ o.1 o.2 s.1
 else FN s.1 s.2 o.1 o.2
def tK(S:List (Pl×Pl)):Bool:=(List.range S.length).any λi=>(List.range i).any (oW S i)
def AQ(s:Pl×Pl):Prop:=eZ s.1/\eZ s.2
def x3u:∃i,prog.info? JJ=some i/\i.size=4:=by have:((prog.info? JJ).map λi=>i.size)=some 4:=(by kernel_rfl);rw[cH]at this;exact this
def xqp{a:AV}{l:List (Pl×Pl)}(h:Sl fH a l){k:Nat}(d:k<=l.length)(e:l≠[]):∃b,Sl fH b (l.take k)/\eP prog n9 a none (some (I k))=some b:=by
 rcases h with ⟨_,rfl⟩|⟨x,rfl⟩
 .exact absurd rfl e
 obtain⟨i,n,Z⟩:=x3u;have p:=iE sH l;refine⟨.aQ ((l.take k).flatMap fH) (l.take k).length (x&&decide ((k:Int)=(l.length:Int))),Sl.lit _ _,?_⟩;have f:dM (.aQ (l.flatMap fH) l.length x)=none:=_root_.id rfl;have g:dI (I (k:Int))=some (k:Int):=rfl;have j:dI (I 0)=some 0:=rfl;unfold eP;simp only[f,K9,n,Option.getD_some,Option.getD_none,g,j,Z,Int.sub_zero,gA,Int.toNat_zero,xF,bA];rw[aH ⟨by omega,by omega,by omega,by omega⟩,xH,xkl d];have m:∀(l:List (Pl×Pl)) (k:Nat),(l.flatMap fH).take (k*4)=(l.take k).flatMap fH:=by
  intro l;induction l with
  |nil=>intro k;simp
  |cons x r o=>
   intro k;cases k with
   |zero=>simp
   |succ k=>rw[dN,jW,dN,lR,iz,<-sH x,je,sH,o]
 rw[m]
def x2m(d:Nat)(Z:FHs){sv f:AV}{S:List (Pl×Pl)}(h:Sl fH sv S)(hS:S.length<=1000)(l:∀s∈S,AQ s)(a:bZ){i:Nat}(W:i<S.length)(N:Sl fH f (S.take i)){id9:Id}(h9:id9.1=0/\id9.2.2=9)(Q:O2->Prop)(o:∀m:Mem,(List.range i).any (oW S i)=true->Q (some (I 13,m)))(O:∀(m:Mem) (Y:Nat),(List.range i).any (oW S i)=false->Q (a sv sv (I S.length) (I (i+1:Nat)) m Y)) :
    ∀(n k j:Nat) (m:Mem) (Y:Nat),k+n=i->n<j->m.get id9=some (.row (fH S[i]) 0 false)->(∀q,q<k->oW S i q=false) ->
    Q (I9 (aG (d+4)) Z 0 a j sv (I i) (.ptr id9 0 0) sv (I S.length) (I i) f (I i) (I k) m Y):=by
 have hlen:(S.take i).length=i:=(by simp;omega);intro n;induction n with
 |zero=>intro k j m Y hk hj X P;obtain⟨j,rfl⟩:∃i,j=i+1:=⟨j-1,by omega⟩;obtain rfl:k=i:=(by omega);have E:=gH k (by omega);simp only[I9];unfold XJ V';simp only[bQ,OD,bK,aE,aS,dJ,E];refine O m _ ?_;rw[H2];intro q p;rw[P q (iC.mp p)];simp
 |succ n ih=>
  intro k j m Y hk hj X P;obtain⟨j,rfl⟩:∃i,j=i+1:=⟨j-1,by omega⟩;have R:k<i:=(by omega);have hk':(k:Int)<(i:Int):=(by omega);have r:k<S.length:=(by omega);have w:k<(S.take i).length:=(by omega);have ix:=N.ix sH w;have ld:=λm=>iP (m:=m) sH (by omega) w
  have et:(S.take i)[k]=S[k]:=(by simp);rw[et]at ld;obtain⟨M,s1,g1,n1,f1⟩:=pQ (u:=0) (s:=Y+1+3) (t:=11) (m:=m) (z:=sD) (cs:=fH S[k]) (n:=4) (by rw[AZ];rfl) rfl rfl;have hM:M.get id9=some (.row (fH S[i]) 0 false):=(by rw[f1 id9 (by omega)];exact X);obtain⟨H,J⟩:=l S[i] (eX W);obtain⟨K,L⟩:=l S[k] (eX r);have E:=gH k (by omega);have A:bM ((S.length:Int)-1)=(S.length:Int)-1:=bJ;have gi:S.getD i (pl0,pl0)=S[i]:=(by simp[W]);have gk:S.getD k (pl0,pl0)=S[k]:=(by simp[r]);have stop:∀Y,Q (AW (aG (d+4)) Z 0 a (I9 (aG (d+4)) Z 0 a j) sv (I i) (.ptr id9 0 0) (B (oW S i k)) sv (I S.length) (I i) f (I i) (I k) M Y):=λY=>by
   unfold AW;cases hc:oW S i k with
   |true=>simp only[aR];exact o M (pB.mpr ⟨k,iC.mpr R,hc⟩)
   |false=>
    simp only[aS];unfold T';simp only[dJ,E,aE];refine ih (k+1) j M _ (by omega) (by omega) hM λq p=>?_
    by_cases e:q=k
    .subst e;exact hc
    .exact P q (by omega)
  unfold oW at stop;simp only[gi,gk]at stop;have hM':M.get id9=some (.row [I S[i].1.x,I S[i].1.y,I S[i].2.x,I S[i].2.y] 0 false):=hM;have g1':M.get (0,Y+1+3,11)=some (.row [I S[k].1.x,I S[k].1.y,I S[k].2.x,I S[k].2.y] 0 false):=g1;simp only[I9];unfold XJ R';simp only[bQ,hk',bC,aE,aR,ix,ld,kA,s1];unfold S';simp only[dJ,E,aE,fV];by_cases c1:i=k+1
  .have c1':((i:Int)=((k+1:Nat):Int)):=(by omega);rw[aH c1]at stop;have b:=vR (d+1) H J K;have C:=vR (d+1) K L J;simp only[Pl.k,fH]at b C;have d1:decide ((i:Int)=((k+1:Nat):Int))=true:=fC c1';simp only[d1,aR,aM hM',aM g1',cM,bO,bA,rd,bV,eI,kF,jW,jB,bT,show(2:Nat)<=4 from by decide,aE,b];cases D:jJ S[i].1 S[i].2 S[k].1
   .simp only[dO,hJ,dR,bW,bB,aM hM',bO,bA,cZ,rd,bV,eI,kF,jW,jB,bT,aE,C,cN,cS];rw[D,J4]at stop;exact stop _
   .simp only[dO,hJ,dR,cC,cS,aE,cN,bB];rw[D,OX]at stop;exact stop _
  .have c1':¬((i:Int)=((k+1:Nat):Int)):=(by omega);rw[aD c1]at stop;simp only[c1',bK,aS];by_cases c2:k=0/\i+1=S.length
   .rw[aH c2]at stop;have g:((k:Int)=0):=(by omega);have F:((i:Int)=(S.length:Int)-1):=(by omega);have b:=vR (d+1) H J L;have C:=vR (d+1) K L H;simp only[Pl.k,fH]at b C;simp only[g,bC,gI,dO,hJ,gD,bB,aE,h.len K9,mQ,A,fV,F,cN,aR,aM hM',aM g1',cM,bO,bA,cZ,rd,bV,eI,kF,jW,jB,bT,b];rw[g]at stop;rw[F]at stop;cases D:jJ S[i].1 S[i].2 S[k].2
    .simp only[dR,bW,bB,aM hM',bO,bA,rd,bV,eI,kF,jW,jB,aE,C,cS,show(2:Nat)<=4 from by decide];rw[D,J4]at stop;exact stop _
    .simp only[dR,cC,cS,aE,bB];rw[D,OX]at stop;exact stop _
   .rw[aD c2]at stop;have b:=xnw d H J K L;simp only[fH]at b;by_cases g:(k:Int)=0
    .have F:¬((i:Int)=(S.length:Int)-1):=(by omega);simp only[g,bC,gI,dO,hJ,gD,bB,aE,h.len K9,mQ,A,fV,F,bK,cN,aS,aM hM',aM g1',bO,bA,rd,bV,eI,kF,jW,jB,bT,b];rw[g]at stop;exact stop _
    .simp only[g,bK,gI,dO,hJ,gD,cS,aE,cN,aS,aM hM',aM g1',bO,bA,rd,bV,eI,kF,jW,jB,bT,b];exact stop _
def x2n(d:Nat)(Z:FHs){sv:AV}{S:List (Pl×Pl)}(h:Sl fH sv S)(A:S.length<=1000)(p:∀s∈S,AQ s):∀(n i j:Nat) (m:Mem) (Y:Nat),i+n=S.length->n<j->(∀q,q<i->(List.range q).any (oW S q)=false) ->
    ∃a,J0 (aG (d+4)) Z 0 j sv sv (I S.length) (I i) m Y=some (I (if tK S=true then 13 else 0),a):=by
 intro n;induction n with
 |zero=>intro i j m Y E F l;obtain⟨j,rfl⟩:∃i,j=i+1:=⟨j-1,by omega⟩;obtain rfl:i=S.length:=(by omega);have e:tK S=false:=(by unfold tK;rw[H2];intro q b;rw[l q (iC.mp b)];simp);simp only[J0];unfold XI Y';simp only[bQ,OD,bK,aE,aS,e];exact⟨m,rfl⟩
 |succ n L=>
  intro i j m Y E F l;obtain⟨j,rfl⟩:∃i,j=i+1:=⟨j-1,by omega⟩;have o:i<S.length:=(by omega);have hi':(i:Int)<(S.length:Int):=(by omega);have ix:=h.ix sH o;have ld:=λm=>iP (m:=m) sH (by omega) o
  obtain⟨H,g,x⟩:=xqp h (k:=i) (by omega) (List.ne_nil_of_length_pos (by omega));have f:(S.take i).length=i:=(by simp;omega);obtain⟨M,J,K,N,O⟩:=pQ (u:=0) (s:=Y+1+3) (t:=9) (m:=m) (z:=sD) (cs:=fH S[i]) (n:=4) (by rw[AZ];rfl) rfl rfl;simp only[J0];unfold XI Q';have y:=g.len K9;rw[f]at y;simp only[bQ,hi',bC,aE,aR,ix,ld,kA,J,x,y];refine x2m d Z h A p (J0 (aG (d+4)) Z 0 j) o g (id9:=(0,Y+1+3,9)) ⟨rfl,rfl⟩ (λr=>∃a,r=some (I (if tK S=true then 13 else 0),a)) (λa C=>?_) (λa w D=>?_) i 0 NN M _ (by omega) (by rw[cU];omega) K (λq l=>by omega)
  .have e:tK S=true:=pB.mpr ⟨i,iC.mpr o,C⟩;rw[aH e];exact⟨a,rfl⟩
  .refine L (i+1) j a w (by omega) (by omega) λq b=>?_
   by_cases e:q=i
   .subst e;exact D
   .exact l q (by omega)
def jK(l:List Pl):Nat->List Pl->Int
 |_,[]=>0
 |k,p::r=>if isPl p=true then(if(l.take k).any (Pl.same p)=true then 28 else jK l (k+1) r)else 2
theorem fy(l:List Pl)(k:Nat)(p:Pl)(r:List Pl):jK l k (p::r)=if isPl p=true then(if(l.take k).any (Pl.same p)=true then 28 else jK l (k+1) r)else 2:=rfl
def GJ(l:List Pl):∀(a:List Pl) (k:Nat),jK l k a=0->∀p∈a,isPl p=true
 |[],_,_=>λp b=>by cases b
 |x::r,k,h=>by
  unfold jK at h;split at h
  .rename_i d;split at h
   .cases h
   .intro p b;rcases eD.mp b with rfl|b
    .exact d
    .exact GJ l r (k+1) h p b
  .cases h
def polyE(l:List Pl):Int:=if l.length<3 then 10 else if 20<l.length then 8 else if jK l 0 l=0 then(if tK (jE l)=true then 13 else 0)else jK l 0 l
def x2j(d:Nat)(Z:FHs){a:AV}{l:List Pl}(h:Sl Pl.c a l)(P:l.length<=1000){id3:Id}(H:¬(id3.1=0/\id3.2.2=5))(Q:O2->Prop)(f:∀(m:Mem),jK l 0 l≠0->Q (some (I (jK l 0 l),m)))(w:∀(m:Mem) (Y:Nat),jK l 0 l=0->Q (XN (aG (d+3)) Z 0 a m Y)) :
    ∀(e:List Pl) (k j:Nat) (m:Mem) (Y:Nat),l.drop k=e->e.length<j->jK l 0 l=jK l k e->m.get id3=some (.map (nP (l.take k))) ->
    Q (AO (aG (d+3)) Z 0 j a (.mp id3) a (I l.length) (I k) m Y):=by
 intro e;induction e with
 |nil=>intro k j m Y x o b D;obtain⟨j,rfl⟩:=dF o;have g:¬((k:Int)<(l.length:Int)):=(by have:=gX.mp x;omega);simp only[AO];unfold XM;simp only[bQ,g,bK,aE,aS];exact w m _ (by rw[b];rfl)
 |cons p r O=>
  intro k j m Y x o b D;obtain⟨j,rfl⟩:=dF o;obtain⟨g,F,A⟩:=gK x;have hk':(k:Int)<(l.length:Int):=(by omega);have ix:=h.ix Pl.len g;have ld:=λm=>iP (m:=m) Pl.len (by omega) g
  rw[F]at ld;obtain⟨M,K,L,R,N⟩:=pQ (u:=0) (s:=Y+3) (t:=5) (m:=m) (z:=xQ) (cs:=p.c) (n:=3) (by rw[YD];rfl) rfl rfl;have E:M.get id3=some (.map (nP (l.take k))):=(by rw[N id3 H];exact D);have i:aA true 3 (.ptr (0,Y+3,5) 0 0) M=some (.agg p.c):=(by rw[aM L];rfl);have J:=gH k (by omega);simp only[AO];unfold XM;simp only[bQ,hk',bC,aE,aR,ix,ld,kA,K,i,xbl d p,fQ];rw[fy]at b;by_cases c:isPl p=true
  .rw[aH c]at b;simp only[c,bV,bC,cC,aS,i,xbj (d+2) p,aE,x1c p E];cases C:(l.take k).any (Pl.same p)
   .rw[C,aD (by simp)]at b;have y:l.take k++[p]=l.take (k+1):=(by rw[jV g,F]);simp only[aS,aE,xpa p E C,dJ,J];refine O (k+1) j _ _ A (by simp at o;omega) b ?_;rw[Mem.tB,y]
   .rw[C,aH rfl]at b;simp only[aR];have:=f M (by rw[b];decide);rw[b]at this;exact this
  .rw[aD c]at b;have:=f M (by rw[b];decide);rw[b]at this;simp only[c,cJ,show(!decide ((2:Int)=0))=true from rfl,aR,fE];exact this
def xbs(d:Nat){a:AV}{l:List Pl}(h:Sl Pl.c a l)(m:Mem)(w:l.length<=9000000000000000000):aI (aG (d+5)) T4 [a] m=some (I (polyE l),m):=by
 refine dT (by simp[h.bG]) ?_ m;rw[ya0];unfold sq XL polyE;simp only[mem0,h.len BO,aE,bQ];by_cases c:l.length<3
 .simp only[show((l.length:Int)<3) by omega,bC,aR,c,bV];exact RetF.st rfl rfl
 simp only[show ¬((l.length:Int)<3) by omega,bK,aS,c,cJ,aE,gZ];by_cases o:20<l.length
 .simp only[show((20:Int)<(l.length:Int)) by omega,bC,aR,o,bV];exact RetF.st rfl rfl
 simp only[show ¬((20:Int)<(l.length:Int)) by omega,bK,aS,o,cJ];unfold CM U';simp only[h.len BO,aE];refine x2j (d+1) [] h (by omega) (id3:=(0,0+9,21)) (by simp) (λr=>RetF (λv=>v=I (if jK l 0 l=0 then(if tK (jE l)=true then 13 else 0)else jK l 0 l)) r) (λm g=>?_) (λm Y g=>?_) l 0 NN _ _ rfl (by rw[cU];omega) rfl (by simp[nP])
 .rw[aD g];exact RetF.st rfl rfl
 .rw[aH g];have j:=GJ l l 0 g;have b:∀p∈l,eZ p:=λp t=>U6 (j p t)
  obtain⟨s,f,n⟩:=xbc (d+3) h (by omega) b m;have u:∀s∈jE l,AQ s:=λs Z=>by
   unfold jE at Z;obtain⟨k,i,rfl⟩:=fK.mp Z;have i:=iC.mp i;have e:(k+1) % l.length<l.length:=tQ _ (by omega);refine⟨?_,?_⟩
   .show eZ (gP l k);rw[oU i];exact b _ (eX i)
   .show eZ (gP l ((k+1) % l.length));rw[oU e];exact b _ (eX e)
  unfold XN P';simp only[n,aE,f.len K9];obtain⟨y,r⟩:=x2n d [] f (by rw[KI];omega) u (jE l).length 0 NN m (Y+3+3) (by omega) (by rw[cU,KI];omega) (λq x=>by omega);rw[show I ((0:Nat):Int)=I 0 from rfl]at r;rw[r];exact RetF.st rfl rfl
def zA(S:List (Pl×Pl))(p:Pl):Bool->List (Pl×Pl)->Bool
 |t,[]=>t
 |t,s::r=>if jJ s.1 s.2 p=true then true else zA S p (if xd8 s.1 s.2 p=true then !t else t) r
def x2b(d:Nat)(Z:FHs){sv:AV}{S:List (Pl×Pl)}(h:Sl fH sv S)(hS:S.length<=1000)(E:∀s∈S,AQ s){p:Pl}(L:eZ p){id3:Id}(h3:¬(id3.1=0/\id3.2.2=7)):∀(a:List (Pl×Pl)) (k j:Nat) (t:Bool) (m:Mem) (Y:Nat),S.drop k=a->a.length<j->m.get id3=some (.row [I p.x,I p.y] 0 false) ->
    ∃i,xL (aG (d+3)) Z 0 j (.ptr id3 0 0) (B t) sv (I S.length) (I k) m Y=some (B (zA S p t a),i):=by
 intro a;induction a with
 |nil=>intro k j t m Y F A N;obtain⟨j,rfl⟩:=dF A;have l:¬((k:Int)<(S.length:Int)):=(by have:=gX.mp F;omega);simp only[xL];unfold XC H';simp only[bQ,l,bK,aE,aS,zA];exact⟨m,rfl⟩
 |cons s r ih=>
  intro k j t m Y F A N;obtain⟨j,rfl⟩:=dF A;obtain⟨l,R,K⟩:=gK F;have hk':(k:Int)<(S.length:Int):=(by omega);have ix:=h.ix sH l;have ld:=λm=>iP (m:=m) sH (by omega) l
  rw[R]at ld;obtain⟨W,X⟩:=E s (R▸eX l);obtain⟨M,s1,g1,n1,f1⟩:=pQ (u:=0) (s:=Y+1+2) (t:=7) (m:=m) (z:=sD) (cs:=fH s) (n:=4) (by rw[AZ];rfl) rfl rfl;have C:M.get id3=some (.row [I p.x,I p.y] 0 false):=(by rw[f1 id3 h3];exact N);have g1':M.get (0,Y+1+2,7)=some (.row [I s.1.x,I s.1.y,I s.2.x,I s.2.y] 0 false):=g1;have O:=vR d W X L;have P:=K7 (d+1) W X L;simp only[Pl.k,fH]at O P;have hw:=gH k (by omega);have next:∀(w:Bool) (Y:Nat),∃i,AU (aG (d+3)) Z 0 (xL (aG (d+3)) Z 0 j) (.ptr id3 0 0) (B w) sv (I S.length) (I k) M Y=some (B (zA S p w r),i):=λw Y=>by unfold AU;simp only[dJ,hw,aE];exact ih (k+1) j w M _ K (by simp at A;omega) C
  simp only[xL];unfold XC n';simp only[bQ,hk',bC,aE,aR,ix,ld,kA,s1,aM C,aM g1',bO,bA,rd,bV,eI,kF,jW,jB,bT,O];unfold zA;cases c:jJ s.1 s.2 p
  .simp only[aS,fE,cJ,cM,aE,bO];have Q:∀id e f,oI 2 1 (.ptr id e f) (I 1)=some (.ptr id e (f+1)):=λid e f=>by simp[oI,dI]
   simp only[Q,aE,bO,aM C,aM g1',bA,cZ,rd,fE,cJ,List.head?_cons,gZ,xe4];unfold y' xd8;by_cases D:decide (p.y<s.1.y)=decide (p.y<s.2.y)
   .have H:(decide (p.y<s.1.y) != decide (p.y<s.2.y))=false:=(by rw[D];simp);have J:¬(decide (s.1.y > p.y)≠decide (s.2.y > p.y)):=λhn=>hn D
    rw[H];simp only[aS];unfold B';rw[eT J];simp only[pE,fE,cJ];exact next t _
   .have H:(decide (p.y<s.1.y) != decide (p.y<s.2.y))=true:=(by simpa using D);have J:(decide (s.1.y > p.y)≠decide (s.2.y > p.y)):=D;rw[H,fC J];simp only[aR,gO];unfold C' D';simp only[cM,Q,aE,bO,aM g1',bA,cZ,rd,fE,cJ,List.head?_cons,bQ];have b:∀(up:Int) (g:Nat),∃i,IQ (aG (d+3)) Z 0 (xL (aG (d+3)) Z 0 j) (.ptr id3 0 0) (B t) (.ptr (0,Y+1+2,7) 0 0) (I up) sv (I S.length) (I k) M g=some (B (zA S p (if decide (dS s.1 s.2 p=up)=true then !t else t) r),i):=λup g=>by
     unfold IQ;simp only[aM C,aM g1',bO,bA,rd,bV,eI,kF,jW,jB,bT,aE,P,fV];by_cases o:dS s.1 s.2 p=up
     .simp only[o,bC,aR,fA,aE,bV];exact next _ _
     .simp only[o,bK,aS,fE,cJ];exact next _ _
    by_cases o:s.2.y<s.1.y
    .simp only[o,bC,aR,bV];exact b (-1) _
    .simp only[o,bK,aS,cJ];exact b 1 _
  .simp only[aR,bV];exact⟨M,rfl⟩
def LX(l:List Pl)(p:Pl):Bool:=zA (jE l) p false (jE l)
def x2c(a:aK)(Z:FHs)(u:Nat)(x y:Int)(m:Mem)(Y:Nat):HJ a Z u NN (.aQ [I x,I y] 2 true) (I 2) (I 0) m Y=some (I (if x≠0 then x else if y≠0 then y else 0),m):=by
 obtain⟨k,l⟩:∃k,NN=k+3:=⟨NN-3,by have:=cU;omega⟩;rw[l];simp only[HJ];unfold J' M';have b:aT 1 (.aQ [I x,I y] 2 true) (I 0)=some (.aF [I x,I y]):=rfl;have f:aT 1 (.aQ [I x,I y] 2 true) (I 1)=some (.aF [I y]):=rfl;have g:bM ((0:Int)+1)=1:=rfl;have i:bM ((1:Int)+1)=2:=rfl;have d:((0:Int)<2):=(by decide);have h:((1:Int)<2):=(by decide);have j:¬((2:Int)<2):=(by decide);by_cases c:x=0
 .subst c;by_cases e:y=0
  .subst e;simp only[bQ,d,h,j,bC,bK,aE,aR,aS,b,f,w8,cE,fQ,bC,cC,dJ,g,i];rfl
  .simp only[bQ,d,h,bC,aE,aR,aS,b,f,w8,cE,fQ,e,bC,bK,cC,bW,dJ,g];simp[e]
 .simp only[bQ,d,bC,aE,aR,b,w8,cE,fQ,c,bK,bW];simp[c]
def xej{l:List Pl}(h:polyE l=0):l.length<=20/\3<=l.length/\jK l 0 l=0/\tK (jE l)=false:=by
 unfold polyE at h;split at h
 .cases h
 .split at h
  .cases h
  .split at h
   .rename_i a;split at h
    .cases h
    .rename_i b;exact⟨by omega,by omega,a,by simpa using b⟩
   .rename_i a;exact absurd h a
def xqq{l:List Pl}(h:polyE l=0):∀s∈jE l,AQ s:=by
 obtain⟨f,g,e,-⟩:=xej h;have a:=GJ l l 0 e;intro s Z;unfold jE at Z;obtain⟨k,d,rfl⟩:=fK.mp Z;have d:=iC.mp d;have b:(k+1) % l.length<l.length:=tQ _ (by omega);refine⟨?_,?_⟩
 .show eZ (gP l k);rw[oU d];exact U6 (a _ (eX d))
 .show eZ (gP l ((k+1) % l.length));rw[oU b];exact U6 (a _ (eX b))
def ce{R:Type}{x y:Int}{id:Id}{m:Mem}{k:AV->Mem->Option R}:dC qO [(0,1,I x),(1,1,I y)] 2 1 id m k=k (.aQ [I x,I y] 2 true) m:=by rw[show qO=[I 0] by kernel_rfl];simp[dC,jG,eV,qK,cR]
def xph:prog.underlying BJ=some (.slice xa7):=by kernel_rfl
def xn5(d:Nat)(x y:Int)(m:Mem):aI (aG (d+1)) FG [.aQ [I x,I y] 2 true] m=some (I (if x≠0 then x else if y≠0 then y else 0),m):=by refine dT rfl ?_ m;rw[yaw];unfold sk XD I';have a:aN prog BJ (.aQ [I x,I y] 2 true)=some (I 2):=rfl;simp only[mem0,a,aE];rw[x2c];exact RetF.st rfl rfl
def xn3(d:Nat){sv:AV}{S:List (Pl×Pl)}(h:Sl fH sv S)(b:S.length<=1000)(a:∀s∈S,AQ s){p:Pl}(e:eZ p)(m:Mem):aI (aG (d+4)) FF [sv,p.k] m=some (B (zA S p false S),m):=by refine dT (by simp[h.bG,Pl.k]) ?_ m;rw[yav];unfold sj;show RetF _ (IR _ _ _ _ _ _ _);unfold IR j';simp only[Pl.k,mem0,fN,jT,dQ,lJ,oM,gC,bB,h.len K9,aE];obtain⟨f,r⟩:=x2b d [] h b a e (id3:=(0,0,3)) (by simp) S 0 NN false ((⟨[],1⟩:Mem).new (0,0,3) (.row [I p.x,I p.y] 0 false)) 6 rfl (by rw[cU];omega) (Mem.iB _ _ _);rw[show I ((0:Nat):Int)=I 0 from rfl]at r;show RetF _ (xL (aG (d+3)) [] 0 NN (AV.ptr (0,0,3) 0 0) (B false) sv (I S.length) (I 0) ((⟨[],1⟩:Mem).new (0,0,3) (.row [I p.x,I p.y] 0 false)) 6);rw[r];exact RetF.st rfl rfl
def xop(d:Nat){a:AV}{l:List Pl}(h:Sl Pl.c a l)(f:polyE l=0){p:Pl}(r:isPl p=true)(m:Mem):aI (aG (d+6)) FJ [a,.agg p.c] m=some (.tup [B (LX l p),I 0],m):=by
 obtain⟨F,H,E,-⟩:=xej f;have b:∀q∈l,eZ q:=λq w=>U6 (GJ l l 0 E q w)
 refine dT (by simp[h.bG,Pl.c]) ?_ m;rw[yaz];unfold sp XH;obtain⟨M,j⟩:∃M:Mem,M=((⟨[],1⟩:Mem).new (0,0,3) (.row p.c 0 false)):=⟨_,rfl⟩;have g:M.get (0,0,3)=some (.row p.c 0 false):=(by rw[j];simp);have x:M.next=1:=(by rw[j];rfl);have y:p.c.all AV.one=true:=rfl;simp only[mem0,fN,jT,y,bB];rw[<-j];have e:aA true 3 (.ptr (0,0,3) 0 0) M=some (.agg p.c):=(by rw[aM g];rfl);obtain⟨s,n,o⟩:=xbc (d+4) h (by omega) b M;have i:clean a=true:=h.clean;have t:=xbs d h M (by omega);rw[f]at t;have u:=xbl (d+2) p M;rw[aH r]at u;have A:=xbj (d+4) p M;have C:=xn3 (d+1) n (by rw[KI];omega) (xqq f) (U6 r) M;have D:=xn5 (d+4) 0 0 M;simp only[t,aE,e,u,ce,D];simp[cV,tR,cB,x,i,o,e,A,C];exact RetF.tup rfl rfl
def oP(l:List Pl)(i k:Nat):Bool:=decide (i+2<=k)&&(decide ((k+1) % l.length≠i)&&uY (gP l i) (gP l (i+1)) (gP l k) (gP l ((k+1) % l.length)))
def wZ(l:List Pl)(i:Nat):Bool:=V6 (gP l i) (gP l ((i+1) % l.length)) (gP l ((i+l.length-1) % l.length))
def y7(l:List Pl):Bool:=(List.range l.length).any λi=>wZ l i||(List.range l.length).any (oP l i)
def fx(l:List Pl):∀(a:List Pl) (k:Nat),l.drop k=a->jK l k a=0->∀(i j:Nat),k<=j->j<l.length->i<j->Pl.same (gP l j) (gP l i)=false
 |[],k,d,_=>λi j t f u=>by have:=gX.mp d;omega
 |x::r,k,d,h=>by
  obtain⟨o,p,b⟩:=gK d;rw[fy]at h;split at h
  .split at h
   .cases h
   .rename_i f;intro i j w g m;by_cases e:j=k
    .subst e;have n:gP l i∈l.take j:=(by rw[oU (by omega)];refine zT.mpr ⟨i,by simp;omega,by simp⟩);rw[oU o,p];cases Z:Pl.same x (gP l i)
     .rfl
     .exact absurd (pB.mpr ⟨_,n,Z⟩) f
    .exact fx l r (k+1) b h i j (by omega) g m
  .cases h
def xdd{p q:Pl}(h:Pl.same p q=false):¬(p.x=q.x/\p.y=q.y):=λe=>by simp[Pl.same,e.1,e.2]at h
def MB{l:List Pl}(h:jK l 0 l=0){i j:Nat}(a:i<l.length)(b:j<l.length)(d:i≠j):¬((gP l i).x=(gP l j).x/\(gP l i).y=(gP l j).y):=by
 rcases jU i j with c|c
 .have:=xdd (fx l l 0 rfl h i j (zP _) b c);omega
 .exact xdd (fx l l 0 rfl h j i (zP _) a (by omega))
def C9{a n:Nat}(h:a<n):a % n=a:=Nat.mod_eq_of_lt h
def x6s{l:List Pl}(E:3<=l.length)(h:jK l 0 l=0):tK (jE l)=y7 l:=by
 have x:=KI l;have j:∀{i:Nat},i<l.length->(jE l).getD i (pl0,pl0)=rA l i:=λ{i} g=>(by have:i<(jE l).length:=(by omega);rw[eU,eY this,Option.getD_some,xqr]);have nb:∀k,k+1<l.length->oW (jE l) (k+1) k=wZ l (k+1):=λk f=>by
  unfold oW wZ;rw[j f,j (by omega),aH rfl];unfold rA;have m:(k+1) % l.length=k+1:=C9 f;have n:(k+1+l.length-1) % l.length=k:=(by rw[show k+1+l.length-1=k+l.length by omega,Nat.add_mod_right,C9 (by omega)]);simp only[m,n];have w:(k+1+1) % l.length<l.length:=tQ _ (by omega);have r:(k+1+1) % l.length≠k+1:=by
   rcases jU (k+1+1) l.length with c|c
   .rw[C9 c];omega
   .rw[show k+1+1=l.length by omega,Nat.mod_self];omega
  exact xh4 (a:=gP l k) (b:=gP l (k+1)) (c:=gP l ((k+1+1) % l.length)) (MB h (by omega) f (by omega)) (MB h w f r)
 have o:oW (jE l) (l.length-1) 0=wZ l 0:=(by unfold oW wZ;rw[j (by omega),j (by omega),aD (by omega),aH ⟨rfl,by omega⟩];unfold rA;have m:(l.length-1+1) % l.length=0:=(by rw[show l.length-1+1=l.length by omega,Nat.mod_self]);have n:(0+l.length-1) % l.length=l.length-1:=(by rw[bO,C9 (by omega)]);have D:(0+1) % l.length=1:=C9 (by omega);simp only[m,n,D];rw[Bool.or_comm];exact xh4 (a:=gP l (l.length-1)) (b:=gP l 0) (c:=gP l 1) (MB h (by omega) (by omega) (by omega)) (MB h (by omega) (by omega) (by omega)));have p:∀i k,k<i->i<l.length->i≠k+1->¬(k=0/\i+1=l.length)->oW (jE l) i k=oP l k i:=λi k F w r C=>by
  unfold oW oP;rw[j (by omega),j (by omega),aD r,aD (by rw[x];exact C),x01,x02];unfold rA;have m:(k+1) % l.length=k+1:=C9 (by omega);have n:(i+1) % l.length≠k:=by
   rcases jU (i+1) l.length with c|c
   .rw[C9 c];omega
   .rw[show i+1=l.length by omega,Nat.mod_self];omega
  simp only[m];rw[fC (show k+2<=i by omega),fC n];simp
 unfold tK y7;rw[x,xO];simp only[pB,iC,kT];constructor
 .rintro⟨i,g,k,f,d⟩;by_cases A:i=k+1
  .subst A;rw[nb k g]at d;exact⟨k+1,g,.inl d⟩
  .by_cases u:k=0/\i+1=l.length
   .obtain⟨rfl,u⟩:=u;obtain rfl:i=l.length-1:=(by omega);rw[o]at d;exact⟨0,by omega,.inl d⟩
   .rw[p i k f g A u]at d;exact⟨k,by omega,.inr ⟨i,g,d⟩⟩
 .rintro⟨i,g,d|⟨k,f,d⟩⟩
  .rcases i with _|i
   .exact⟨l.length-1,by omega,0,by omega,by rw[o];exact d⟩
   .exact⟨i+1,g,i,by omega,by rw[nb i g];exact d⟩
  .have t:=d;unfold oP at d;simp only[cK,lF]at d;obtain⟨H,y,-⟩:=d;refine⟨k,f,i,by omega,?_⟩
   rw[p k i (by omega) f (by omega) (by
    rintro⟨rfl,e⟩
    rw[e,Nat.mod_self]at y
    exact y rfl)]
   exact t
def x1y(d:Nat)(Z:FHs){a:AV}{l:List Pl}(h:Sl Pl.c a l)(R:l.length<=1000)(E:∀p∈l,eZ p)(b:dK){i:Nat}(F:i<l.length)(Q:O2->Prop)(w:∀m:Mem,(List.range l.length).any (oP l i)=true->Q (some (I 13,m)))(H:∀(m:Mem) (Y:Nat),(List.range l.length).any (oP l i)=false->Q (b a (I l.length) (I (i+1:Nat)) m Y)) :
    ∀(n k j:Nat) (m:Mem) (Y:Nat),(k+n=l.length\/(n=0/\l.length<k))->n<j->i+2<=k->(∀q,q<k->oP l i q=false) ->
    Q (I2 (aG (d+3)) Z 0 b j a (I l.length) (I i) (I k) m Y):=by
 intro n;have A:=gH i (by omega);induction n with
 |zero=>intro k j m Y N O y f;obtain⟨j,rfl⟩:∃i,j=i+1:=⟨j-1,by omega⟩;have t:¬((k:Int)<(l.length:Int)):=(by omega);simp only[I2];unfold TZ xq;simp only[bQ,t,bK,aE,aS,dJ,A];refine H m _ ?_;rw[H2];intro q x;rw[f q (by have:=iC.mp x;omega)];simp
 |succ n P=>
  intro k j m Y N O y f;obtain⟨j,rfl⟩:∃i,j=i+1:=⟨j-1,by omega⟩;have g:k<l.length:=(by omega);have t:((k:Int)<(l.length:Int)):=(by omega);have u:(k+1) % l.length<l.length:=tQ _ (by omega);have K:=gH k (by omega);have L:oG (I ((k+1:Nat):Int)) (I (l.length:Int))=some (I (((k+1) % l.length:Nat):Int)):=(by rw[KM (by omega)];congr 2);have inn:∀{q:Nat},q<l.length->eZ (gP l q):=λf=>by rw[oU f];exact E _ (eX f)
  have o:∀{q:Nat},q<l.length->aT 3 a (I (q:Int))=some (.aF ((l.drop q).flatMap Pl.c)):=λf=>h.ix Pl.len f
  have r:∀{q:Nat},q<l.length->∀m,aA true 3 (.aF ((l.drop q).flatMap Pl.c)) m=some (.agg (gP l q).c):=λf m=>by rw[oU f];exact iP Pl.len (by omega) f
  have M:∀Y,oP l i k=false->Q (I2 (aG (d+3)) Z 0 b j a (I l.length) (I i) (I (k+1:Nat)) m Y):=λY D=>by
   refine P (k+1) j m Y (by omega) (by omega) (by omega) λq x=>?_
   by_cases e:q=k
   .subst e;exact D
   .exact f q (by omega)
  simp only[I2];unfold TZ;simp only[bQ,t,bC,aE,aR,dJ,K,L,fQ];by_cases c:(k+1) % l.length=i
  .have c':(((k+1) % l.length:Nat):Int)=(i:Int):=(by omega);simp only[c',bC,cC,gI,dO,hJ,gD,cS,aE,cN,aS];exact M _ (by unfold oP;simp[c])
  .have c':¬(((k+1) % l.length:Nat):Int)=(i:Int):=(by omega);have J:=xnx d (inn F) (inn (show i+1<l.length by omega)) (inn g) (inn u) m;have C:oP l i k=uY (gP l i) (gP l (i+1)) (gP l k) (gP l ((k+1) % l.length)):=(by unfold oP;simp[c,y]);simp only[c',bK,bW,gI,dO,hJ,gD,bB,aE,o F,r F,dJ,A,o (show i+1<l.length by omega),r (show i+1<l.length by omega),o g,r g,K,L,o u,r u,J,cN];cases D:uY (gP l i) (gP l (i+1)) (gP l k) (gP l ((k+1) % l.length))
   .simp only[aS];exact M _ (by rw[C,D])
   .simp only[aR];exact w m (pB.mpr ⟨k,iC.mpr g,by rw[C,D]⟩)
def x12(d:Nat)(Z:FHs){a:AV}{l:List Pl}(h:Sl Pl.c a l)(J:l.length<=1000)(w:∀p∈l,eZ p):∀(n i j:Nat) (m:Mem) (Y:Nat),i+n=l.length->n<j->(∀q,q<i->(wZ l q||(List.range l.length).any (oP l q))=false) ->
    ∃f,I3 (aG (d+3)) Z 0 j a (I l.length) (I i) m Y=some (I (if y7 l=true then 13 else 0),f):=by
 intro n;induction n with
 |zero=>intro i j m Y L M b;obtain⟨j,rfl⟩:∃i,j=i+1:=⟨j-1,by omega⟩;obtain rfl:i=l.length:=(by omega);have e:y7 l=false:=(by unfold y7;rw[H2];intro q x;rw[b q (iC.mp x)];simp);simp only[I3];unfold TY xr;simp only[bQ,OD,bK,aE,aS,e];exact⟨m,rfl⟩
 |succ n Q=>
  intro i j m Y L M b;obtain⟨j,rfl⟩:∃i,j=i+1:=⟨j-1,by omega⟩;have y:i<l.length:=(by omega);have hi':(i:Int)<(l.length:Int):=(by omega);have g:(i+1) % l.length<l.length:=tQ _ (by omega);have o:(i+l.length-1) % l.length<l.length:=tQ _ (by omega);have N:=gH i (by omega);have D:bM ((i:Int)+2)=((i+2:Nat):Int):=(by rw[bJ];omega);have E:bM ((i:Int)+(l.length:Int))=(i:Int)+(l.length:Int):=bJ;have F:bM ((i:Int)+(l.length:Int)-1)=((i+l.length-1:Nat):Int):=(by rw[bJ];omega);have O:∀q:Nat,oG (I (q:Int)) (I (l.length:Int))=some (I ((q % l.length:Nat):Int)):=λq=>by rw[KM (by omega)];congr 2
  have inn:∀{q:Nat},q<l.length->eZ (gP l q):=λb=>by rw[oU b];exact w _ (eX b)
  have t:∀{q:Nat},q<l.length->aT 3 a (I (q:Int))=some (.aF ((l.drop q).flatMap Pl.c)):=λb=>h.ix Pl.len b
  have u:∀{q:Nat},q<l.length->∀m,aA true 3 (.aF ((l.drop q).flatMap Pl.c)) m=some (.agg (gP l q).c):=λb m=>by rw[oU b];exact iP Pl.len (by omega) b
  have P:=xn9 (d+1) (inn y) (inn g) (inn o) m;simp only[I3];unfold TY xo;simp only[bQ,hi',bC,aE,aR,t y,u y,dJ,N,O,t g,u g,E,mQ,F,t o,u o,P];have e:V6 (gP l i) (gP l ((i+1) % l.length)) (gP l ((i+l.length-1) % l.length))=wZ l i:=rfl;rw[e];have yes:(wZ l i||(List.range l.length).any (oP l i))=true->y7 l=true:=λA=>pB.mpr ⟨i,iC.mpr y,A⟩
  cases H:wZ l i
  .simp only[aS,D];refine x1y d Z h J w (I3 (aG (d+3)) Z 0 j) y (λr=>∃f,r=some (I (if y7 l=true then 13 else 0),f)) (λf A=>?_) (λf C K=>?_) (l.length-(i+2)) (i+2) NN m _ (by omega) (by rw[cU];omega) (bT _) (λq b=>by unfold oP;rw[eT (by omega)];rfl)
   .rw[aH (yes (by rw[A,OY]))];exact⟨f,rfl⟩
   .refine Q (i+1) j f C (by omega) (by omega) λq x=>?_
    by_cases e:q=i
    .subst e;rw[H,K];rfl
    .exact b q (by omega)
  .simp only[aR];rw[aH (yes (by rw[H];rfl))];exact⟨m,rfl⟩
def x10(o:aK)(Z:FHs)(u:Nat){a:AV}{l:List Pl}(h:Sl Pl.c a l)(R:l.length<=1000)(e:dK){i:Nat}(t:i<l.length)(Q:O2->Prop)(p:∀m:Mem,(l.take i).any (Pl.same l[i])=true->Q (some (I 28,m)))(C:∀(m:Mem) (Y:Nat),(l.take i).any (Pl.same l[i])=false->Q (e a (I l.length) (I (i+1:Nat)) m Y)) :
    ∀(n k j:Nat) (m:Mem) (Y:Nat),k+n=i->n<j->(l.take k).any (Pl.same l[i])=false ->
    Q (Z9 o Z u e j a (I l.length) (I i) (I k) m Y):=by
 intro n;have D:=gH i (by omega);induction n with
 |zero=>intro k j m Y N O d;obtain⟨j,rfl⟩:∃i,j=i+1:=⟨j-1,by omega⟩;obtain rfl:k=i:=(by omega);simp only[Z9];unfold TW xn;simp only[bQ,OD,bK,aE,aS,dJ,D];exact C m _ d
 |succ n L=>
  intro k j m Y N O d;obtain⟨j,rfl⟩:∃i,j=i+1:=⟨j-1,by omega⟩;have b:k<l.length:=(by omega);have E:((k:Int)<(i:Int)):=(by omega);have H:=gH k (by omega);have f:=h.ix Pl.len b;have g:=h.ix Pl.len t;have P:∀q:Nat,aB 0 (.aF ((l.drop q).flatMap Pl.c))=some (.aF ((l.drop q).flatMap Pl.c)):=λ_=>rfl
  have J:∀q:Nat,aB 1 (.aF ((l.drop q).flatMap Pl.c))=some (.aF (((l.drop q).flatMap Pl.c).drop 1)):=λ_=>rfl
  have K:∀{q:Nat} (d:q<l.length) (m:Mem),aA false 1 (.aF ((l.drop q).flatMap Pl.c)) m=some (I l[q].x):=λd m=>by rw[fT d,dN];rfl
  have w:∀{q:Nat} (d:q<l.length) (m:Mem),aA false 1 (.aF (((l.drop q).flatMap Pl.c).drop 1)) m=some (I l[q].y):=λd m=>by rw[fT d,dN];rfl
  have r:(l.take (k+1)).any (Pl.same l[i])=Pl.same l[i] l[k]:=(by rw[jV b,xk8,d];simp);have F:Pl.same l[i] l[k]=(decide (l[k].x=l[i].x)&&decide (l[k].y=l[i].y)):=(by unfold Pl.same;simp[eq_comm]);have yes:Pl.same l[i] l[k]=true->(l.take i).any (Pl.same l[i])=true:=λM=>by refine pB.mpr ⟨l[k],zT.mpr ⟨k,by simp;omega,by simp⟩,M⟩
  simp only[Z9];unfold TW;simp only[bQ,E,bC,aE,aR,f,g,P,K b,K t,fV];by_cases c:l[k].x=l[i].x
  .by_cases A:l[k].y=l[i].y
   .simp only[c,bC,gI,dO,gD,bB,aE,f,g,J,w b,w t,fV,A,cN,aR];exact p m (yes (by rw[F];simp[c,A]))
   .simp only[c,bC,gI,dO,gD,bB,aE,f,g,J,w b,w t,fV,A,bK,cN,aS,dJ,H];exact L (k+1) j m _ (by omega) (by omega) (by rw[r,F];simp[A])
  .simp only[c,bK,gI,dO,gD,cS,aE,cN,aS,dJ,H];exact L (k+1) j m _ (by omega) (by omega) (by rw[r,F];simp[c])
def x11(d:Nat)(Z:FHs){a:AV}{l:List Pl}(h:Sl Pl.c a l)(C:l.length<=1000)(Q:O2->Prop)(f:∀(m:Mem),jK l 0 l≠0->Q (some (I (jK l 0 l),m)))(n:∀(m:Mem) (Y:Nat),jK l 0 l=0->Q (TX (aG (d+3)) Z 0 a (I l.length) m Y)) :
    ∀(e:List Pl) (k j:Nat) (m:Mem) (Y:Nat),l.drop k=e->e.length<j->jK l 0 l=jK l k e ->
    Q (I1 (aG (d+3)) Z 0 j a (I l.length) (I k) m Y):=by
 intro e;induction e with
 |nil=>intro k j m Y u i b;obtain⟨j,rfl⟩:=dF i;have g:¬((k:Int)<(l.length:Int)):=(by have:=gX.mp u;omega);simp only[I1];unfold TV;simp only[bQ,g,bK,aE,aS];exact n m _ (by rw[b];rfl)
 |cons p r D=>
  intro k j m Y u i b;obtain⟨j,rfl⟩:=dF i;obtain⟨g,w,x⟩:=gK u;have hk':(k:Int)<(l.length:Int):=(by omega);have ix:=h.ix Pl.len g;have ld:=λm=>iP (m:=m) Pl.len (by omega) g
  rw[w]at ld;simp only[I1];unfold TV xm;simp only[bQ,hk',bC,aE,aR,ix,ld,xbm d p,fA];rw[fy]at b;cases c:isPl p with
  |true=>
   rw[aH c]at b;simp only[cC,aS];refine x10 (aG (d+3)) Z 0 h C (I1 (aG (d+3)) Z 0 j) g Q (λo y=>?_) (λo t A=>?_) k 0 NN m _ (by omega) (by rw[cU];omega) (by simp)
   .rw[w]at y;rw[aH y]at b;have:=f o (by rw[b];decide);rw[b]at this;exact this
   .rw[w]at A;rw[A,aD (by simp)]at b;exact D (k+1) j o t x (by simp at i;omega) b
  |false=>rw[aD (by simp[c])]at b;have:=f m (by rw[b];decide);rw[b]at this;simp only[bW,aR];exact this
def xno(d:Nat){a:AV}{l:List Pl}(h:Sl Pl.c a l)(m:Mem)(i:l.length<=9000000000000000000):aI (aG (d+4)) EL [a] m=some (I (polyE l),m):=by
 refine dT (by simp[h.bG]) ?_ m;rw[x88];unfold pj UA polyE;simp only[mem0,h.len BO,aE,bQ];by_cases c:l.length<3
 .simp only[show((l.length:Int)<3) by omega,bC,aR,c,bV];exact RetF.st rfl rfl
 simp only[show ¬((l.length:Int)<3) by omega,bK,aS,c,cJ,aE,gZ];by_cases f:20<l.length
 .simp only[show((20:Int)<(l.length:Int)) by omega,bC,aR,f,bV];exact RetF.st rfl rfl
 simp only[show ¬((20:Int)<(l.length:Int)) by omega,bK,aS,f,cJ];unfold xp;refine x11 d [] h (by omega) (λr=>RetF (λv=>v=I (if jK l 0 l=0 then(if tK (jE l)=true then 13 else 0)else jK l 0 l)) r) (λm b=>?_) (λm Y b=>?_) l 0 NN _ _ rfl (by rw[cU];omega) rfl
 .rw[aD b];exact RetF.st rfl rfl
 .rw[aH b];have e:=GJ l l 0 b;unfold TX;obtain⟨n,r⟩:=x12 d [] h (by omega) (λp g=>U6 (e p g)) l.length 0 NN m (Y+1) (by omega) (by rw[cU];omega) (λq j=>by omega);rw[show I ((0:Nat):Int)=I 0 from rfl]at r;rw[r,x6s (by omega) b];exact RetF.st rfl rfl
structure Ps where
 nm:ByteArray
 fr:Int
 to:Int
 va:Int
 da:Int
def Ps.c(x:Ps):List AV:=[T x.nm,I x.fr,I x.to,I x.va,I x.da]
theorem Ps.len(x:Ps):x.c.length=5:=rfl
structure Lk where
 at_:Int
 da:Int
def Lk.c(x:Lk):List AV:=[I x.at_,I x.da]
theorem Lk.len(x:Lk):x.c.length=2:=rfl
def lkBad(l:List Lk)(x:Lk):Int:=bif !wi x.at_ 0 1000000000||!wi x.da 0 1000000 then 2
    else bif(match l.getLast? with|some y=>decide (x.at_<=y.at_)|none=>false)then 9 else 0
def pw2(l:List Ps)(x:Ps):Int:=
 bif !wi x.fr 0 1000000000||!wi x.to 0 1000000000||!wi x.va 0 1000000||!wi x.da 0 1000000 then 2
 else bif decide (x.to<=x.fr)then 26
 else bif(match l.getLast? with|some y=>decide (x.to<y.to)|none=>false)then 9 else 0
def pwErr(l:List Ps)(x:Ps):Int:=bif decide (iI x.nm (l.map Ps.nm)≠0)then iI x.nm (l.map Ps.nm)else pw2 l x
def az(l:List Ps):Nat->List Ps->Int×Int
 |_,[]=>(0,0)
 |k,x::r=>bif decide (pwErr (l.take k) x≠0)then((k:Int),pwErr (l.take k) x)else az l (k+1) r
def xxo(b:Int×Int)(l:List Ps)(k:Nat)(a:List Ps):Int×Int:=bif decide ((az l k a).2≠0)then az l k a else b
def cq(l:List Lk):Nat->List Lk->Int×Int
 |_,[]=>(0,0)
 |k,x::r=>bif decide (lkBad (l.take k) x≠0)then((k:Int),lkBad (l.take k) x)else cq l (k+1) r
def x1f(b:Int×Int)(l:List Lk)(k:Nat)(a:List Lk):Int×Int:=bif decide ((cq l k a).2≠0)then cq l k a else b
def planM(a:List Ps)(b:List Lk)(d e:Int):Int×Int:=
 bif decide (40<a.length)then(0,8)
 else xxo (bif decide (20<b.length)then(0,8)else x1f (0,bif wi d 0 1000000&&wi e 0 1000000 then 0 else 2) b 0 b) a 0 a
def rY{a:aK}{f:FuncId}{l b:List AV}{m d:Mem}{r:AV}(e:l.mapM (Go.Ix.frz m.get bL)=some b)(h:a [] f b mem0=some (r,d))(g:rI r=true):dZ a f l m=some (r,m):=by unfold dZ;rw[e];simp only[h,g,bV]
def mV{a:Id->Option Ob}{id:Id}{b cs':List AV}{fr:Bool}{k:Nat}(h:a id=some (.row b 0 fr))(Z:b.mapM (Go.Ix.frz a k)=some cs'):Go.Ix.frz a (k+1) (.ptr id 0 0)=some (.aF cs'):=by have e:Go.Ix.frz a (k+1) (.ptr id 0 0)=((b.drop 0).mapM (Go.Ix.frz a k)).map .aF:=(by simp only[Go.Ix.frz,h,bV]);rw[e,bA,Z];rfl
structure RPlan (l:List Ps) (kl:List Lk) (gap sto:Int):Prop where
 ok:(planM l kl gap sto).2=0
 len:l.length<=40
 klen:kl.length<=20
 gap0:0<=gap/\gap<=1000000
 sto0:0<=sto/\sto<=1000000
 ps:∀(k:Nat) (h:k<l.length),pwErr (l.take k) l[k]=0
 ls:∀(k:Nat) (h:k<kl.length),lkBad (kl.take k) kl[k]=0
def xxk{l:List Ps}{x:Ps}(h:pwErr l x=0):(0<=x.fr/\x.fr<=1000000000)/\(0<=x.to/\x.to<=1000000000)/\(0<=x.va/\x.va<=1000000)/\(0<=x.da/\x.da<=1000000)/\x.fr<x.to/\∀y,l.getLast?=some y->y.to<=x.to:=by
 unfold pwErr at h;by_cases a:iI x.nm (l.map Ps.nm)=0
 .rw[a]at h;simp only[ne_eq,not_true,bK,cS,pw2]at h;cases d:wi x.fr 0 1000000000<;>cases e:wi x.to 0 1000000000<;>cases f:wi x.va 0 1000000<;>cases g:wi x.da 0 1000000<;>simp[d,e,f,g]at h;by_cases b:x.to<=x.fr
  .simp[b]at h
  .simp only[b,bK,cS]at h;simp only[wi,lF]at d e f g;refine⟨by omega,by omega,by omega,by omega,by omega,λy i=>?_⟩;rw[i]at h;by_cases j:x.to<y.to
   .simp[j]at h
   .omega
 .simp[a]at h
def RPlan.at{l:List Ps}{d:List Lk}{a b:Int}(R:RPlan l d a b){x:Ps}(e:x∈l):(0<=x.fr/\x.fr<=1000000000)/\(0<=x.to/\x.to<=1000000000)/\(0<=x.va/\x.va<=1000000)/\(0<=x.da/\x.da<=1000000)/\x.fr<x.to:=by obtain⟨k,g,rfl⟩:=xk1 e;have:=xxk (R.ps k g);exact⟨this.1,this.2.1,this.2.2.1,this.2.2.2.1,this.2.2.2.2.1⟩
def GP{α:Type}{d:α->List AV}{z b:Nat}(j:∀x,(d x).length=z){a:AV}{l:List α}(h:Sl d a l)(g:cQ l.length b)(id:Id)(m:Mem) :
    (l=[]/\∀{R:Type} (k:AV->Mem->Option R),cX z b id (elems m.get z a) (.aQ [] 0 true) m k=k (.aQ [] 0 true) m) \/
    (l≠[]/\∀{R:Type} (k:AV->Mem->Option R),cX z b id (elems m.get z a) (.aQ [] 0 true) m k=k (.sref id 0 0 l.length z true) (m.new id (.row (l.flatMap d) 0 false))):=by
 have i:=h.elems j m.get;by_cases f:l.length=0
 .refine .inl ⟨sA.mp f,λk=>?_⟩;rw[i,NG g,fC f];rfl
 .refine .inr ⟨λe=>f (by rw[e];rfl),λk=>?_⟩;rw[i,NG g,eT f];rfl
def ME{α:Type}{b:α->List AV}{z k:Nat}(d:∀x,(b x).length=z)(Z:∀x,(b x).all aP=true){a:Id->Option Ob}{id:Id}{l:List α}{x:Bool}(e:a id=some (.row (l.flatMap b) 0 false)) :
    frz a (k+2) (.sref id 0 0 l.length z x)=some (.aQ (l.flatMap b) l.length false):=by
 have g:=iE d l
 have:=vB (aC:=a) (id:=id) (cs:=l.flatMap b) (ver:=0) (off:=0) (n:=l.length) (z:=z) (k:=k) (f:=false) (x:=x) e (by omega) (by
  rw[bA,dU (by omega)];exact rW Z l)
 rw[bA,dU (by omega)]at this;exact this
def tE(s:ByteArray):List AV:=[T s]
theorem oF(s:ByteArray):(tE s).length=1:=rfl
theorem BX(s:ByteArray):(tE s).all aP=true:=rfl
def u4:prog.underlying gR=some (.slice cF):=by kernel_rfl
def XZ:lW=[T ⟨#[]⟩]:=by kernel_rfl
def xgf(d:Nat)(Z:FHs){a:AV}{l:List ByteArray}{x:ByteArray}(h:Sl tE a l)(o:l.length<=1000000)(u:Nat):∀(b:List ByteArray) (k j:Nat) (m:Mem) (Y:Nat),l.drop k=b->b.length<j ->
    AP (aG d) Z u j a (T x) (I k) m Y=some (B (b.any λy=>eS y x),m):=by
 intro b;induction b with
 |nil=>intro k j m Y e f;obtain⟨j,rfl⟩:=dF f;have g:¬((k:Int)<(l.length:Int)):=(by have:=gX.mp e;omega);simp only[AP];unfold XU;simp[h.len u4,g,xad]
 |cons y r n=>
  intro k j m Y e f;obtain⟨j,rfl⟩:=dF f;obtain⟨g,i,e⟩:=gK e;have hk':(k:Int)<(l.length:Int):=(by omega);have ix:=h.ix oF g;have ld:∀m,aA false 1 (.aF ((l.drop k).flatMap tE)) m=some (T y):=λm=>by rw[fT g,dN,i];rfl
  have ih':=n (k+1) j m (Y+13) e (by simp at f;omega);simp only[AP,H3];unfold XU;cases c:eS y x with
  |true=>simp(disch:=omega) [h.len u4,hk',ix,ld,sF,c]
  |false=>simp(disch:=omega) [h.len u4,hk',ix,ld,sF,c];simpa using ih'
def YY(d:Nat){a:AV}{l:List ByteArray}{x:ByteArray}{u t:Nat}{m:Mem}(h:Gr 1 tE u t m a l)(b:l.length<=1000000) :
    dZ (aG (d+1)) uX [a,T x] m=some (B (l.any λy=>eS y x),m):=by
 obtain⟨g,i,j⟩:=h.frz oF BX;have e:aG (d+1) [] uX [g,T x] mem0=some (B (l.any λy=>eS y x),⟨[],1⟩):=(by rw[xje];exact xgf d [] i b 0 l 0 NN ⟨[],1⟩ 2 rfl (by rw[cU];omega));refine rY ?_ e rfl;have f:Go.Ix.frz m.get bL (T x)=some (T x):=kD _ 4 rfl;simp only[eG,fZ,j,f];rfl
structure Bd where
 nm:ByteArray
 ca:AV
 cs:List Pl
 th:Int
 ok:Sl Pl.c ca cs
def Bd.c(b:Bd):List AV:=[T b.nm,b.ca,I b.th]
theorem Bd.len(b:Bd):b.c.length=3:=rfl
def Bd.bG(b:Bd):b.c.all aP=true:=by simp[Bd.c,b.ok.aP]
def Bd.one(b:Bd):b.c.all AV.one=true:=by simp[Bd.c,b.ok.one];rfl
structure Pn where
 nm:ByteArray
 at_:Pl
def Pn.c(b:Pn):List AV:=[T b.nm,I b.at_.x,I b.at_.y,I b.at_.z]
theorem Pn.len(b:Pn):b.c.length=4:=rfl
theorem Pn.bG(b:Pn):b.c.all aP=true:=rfl
structure Pe where
 nm:ByteArray
 role:Int
def Pe.c(b:Pe):List AV:=[T b.nm,I b.role]
theorem Pe.len(b:Pe):b.c.length=2:=rfl
theorem Pe.bG(b:Pe):b.c.all aP=true:=rfl
def qT:prog.underlying nC=some (.slice o7):=by kernel_rfl
def pL:prog.underlying qP=some (.slice o5):=by kernel_rfl
def uC:prog.underlying pG=some (.slice o6):=by kernel_rfl
def eK(a b:Int):Int:=if a=0 then b else a
def eW{α:Type}(f:List ByteArray->α->Int)(nm:α->ByteArray):List ByteArray->List α->Int
 |_,[]=>0
 |a,x::r=>eK (f a x) (eW f nm (a++[nm x]) r)
def hW(b:Bool):Int:=bif b then 0 else 2
def mJ(a:List ByteArray)(b:Bd):Int:=eK (iI b.nm a) (eK (polyE b.cs) (hW (wi b.th 0 1000000)))
def nI(a:List ByteArray)(b:Pn):Int:=eK (iI b.nm a) (hW (isPl b.at_))
def uP(a:List ByteArray)(b:Pe):Int:=eK (iI b.nm a) (hW (wi b.role 1 3))
def iG(E O:Int)(W:List Bd)(J:List Pn)(C:List Pe):Int:=
 if(wi E 1 10000&&wi O 0 2048)=true then
  if 6<W.length then 8 else eK (eW mJ Bd.nm [] W)
   (if 8<J.length then 8 else eK (eW nI Pn.nm [] J)
    (if C.length=0 then 10 else if 10<C.length then 8 else eW uP Pe.nm [] C))
 else 2
def gu(d:Nat){f:FuncId}{b:List AV}(j:b.all aP=true){ns:List ByteArray}(H:ns.length<=1000){x:ByteArray}(p:x.size<=1000){k:Nat}(J:k<=ns.length){m:Mem}{id:Id}(r:m.get id=some (.row b 0 false))(g:∀(i:Nat) (t:i<ns.length) (m:Mem),∃h,fI (aG (d+2)) [] 2 (.clo f [.aF b]) [I i] m=some (T ns[i],h)):dZ (aG (d+3)) rO [T x,.clo f [.ptr id 0 0],I k] m=some (I (iI x (ns.take k)),m):=by
 have n:(ns.take k).length=k:=(by simp;omega);obtain⟨h,o⟩:=xj8 (d+1) (s:=x) (fv:=.clo f [.aF b]) (l:=ns.take k) p (by omega) λi t m=>by have hi':i<ns.length:=(by omega);obtain⟨h,e⟩:=g i hi' m;refine⟨h,?_⟩;have w:(ns.take k)[i]=ns[i]:=(by simp);rw[w];exact e
 rw[n]at o;have y:aG (d+3) [] rO [T x,.clo f [.aF b],I k] mem0=some (I (iI x (ns.take k)),h):=o;clear o;refine rY ?_ y rfl;have A:b.mapM (Go.Ix.frz m.get 4)=some b:=pX λa u=>tF m.get 3 (dG.mp j a u)
 have C:Go.Ix.frz m.get 5 (.ptr id 0 0)=some (.aF b):=mV r A;have D:Go.Ix.frz m.get bL (.clo f [.ptr id 0 0])=some (.clo f [.aF b]):=(by show([AV.ptr id 0 0].mapM (Go.Ix.frz m.get 5)).map (AV.clo f)=_;simp only[eG,fZ,C];rfl);have E:Go.Ix.frz m.get bL (T x)=some (T x):=kD _ 4 rfl;have F:Go.Ix.frz m.get bL (I k)=some (I k):=kD _ 4 rfl;simp only[eG,fZ,D,E,F];rfl
variable{ba pa ea:AV}{W:List Bd}{J:List Pn}{C:List Pe}{E O:Int}
def x3q(d:Nat)(h:Sl Bd.c ba W)(i:Nat)(b:i<(W.map Bd.nm).length)(m:Mem):∃a,fI (aG (d+1)) [] 2 (.clo S9 [.aF [I E,I O,ba,pa,ea]]) [I i] m=some (T (W.map Bd.nm)[i],a):=by
 have hi':i<W.length:=(by simpa using b);have ix:=h.ix Bd.len hi';show ∃a,aG (d+1) [] S9 ([I i]++[.aF [I E,I O,ba,pa,ea]]) m=_;rw[jM,iX,yag];unfold rn WI;refine⟨⟨m.hp,m.next+1⟩,?_⟩;have e:aB 2 (.aF [I E,I O,ba,pa,ea])=some (.aF [ba,pa,ea]):=rfl;have f:∀m,aA false 1 (.aF [ba,pa,ea]) m=some ba:=λ_=>rfl
 have g:aB 0 (.aF ((W.drop i).flatMap Bd.c))=some (.aF ((W.drop i).flatMap Bd.c)):=rfl;have j:∀m,aA false 1 (.aF ((W.drop i).flatMap Bd.c)) m=some (T W[i].nm):=λm=>by rw[fT hi',dN];rfl
 simp only[e,f,ix,g,j,aE,X8]
def x3o(d:Nat)(h:Sl Pn.c pa J)(i:Nat)(b:i<(J.map Pn.nm).length)(m:Mem):∃a,fI (aG (d+1)) [] 2 (.clo C4 [.aF [I E,I O,ba,pa,ea]]) [I i] m=some (T (J.map Pn.nm)[i],a):=by
 have hi':i<J.length:=(by simpa using b);have ix:=h.ix Pn.len hi';show ∃a,aG (d+1) [] C4 ([I i]++[.aF [I E,I O,ba,pa,ea]]) m=_;rw[jM,iX,yaf];unfold rm WH;refine⟨⟨m.hp,m.next+1⟩,?_⟩;have e:aB 3 (.aF [I E,I O,ba,pa,ea])=some (.aF [pa,ea]):=rfl;have f:∀m,aA false 1 (.aF [pa,ea]) m=some pa:=λ_=>rfl
 have g:aB 0 (.aF ((J.drop i).flatMap Pn.c))=some (.aF ((J.drop i).flatMap Pn.c)):=rfl;have j:∀m,aA false 1 (.aF ((J.drop i).flatMap Pn.c)) m=some (T J[i].nm):=λm=>by rw[fT hi',dN];rfl
 simp only[e,f,ix,g,j,aE,X8]
def x3p(d:Nat)(h:Sl Pe.c ea C)(i:Nat)(b:i<(C.map Pe.nm).length)(m:Mem):∃a,fI (aG (d+1)) [] 2 (.clo S8 [.aF [I E,I O,ba,pa,ea]]) [I i] m=some (T (C.map Pe.nm)[i],a):=by
 have hi':i<C.length:=(by simpa using b);have ix:=h.ix Pe.len hi';show ∃a,aG (d+1) [] S8 ([I i]++[.aF [I E,I O,ba,pa,ea]]) m=_;rw[jM,iX,yae];unfold rl WF;refine⟨⟨m.hp,m.next+1⟩,?_⟩;have e:aB 4 (.aF [I E,I O,ba,pa,ea])=some (.aF [ea]):=rfl;have f:∀m,aA false 1 (.aF [ea]) m=some ea:=λ_=>rfl
 have g:aB 0 (.aF ((C.drop i).flatMap Pe.c))=some (.aF ((C.drop i).flatMap Pe.c)):=rfl;have j:∀m,aA false 1 (.aF ((C.drop i).flatMap Pe.c)) m=some (T C[i].nm):=λm=>by rw[fT hi',dN];rfl
 simp only[e,f,ix,g,j,aE,X8]
def jS:List Int->Int
 |[]=>0
 |x::r=>eK x (jS r)
def x14(d:aK)(Z:FHs)(u:Nat){a:AV}{l:List Int}(h:Sl intE a l)(w:l.length<=1000):∀(b:List Int) (k j:Nat) (m:Mem) (Y:Nat),l.drop k=b->b.length<j ->
    AD d Z u j a (I l.length) (I k) m Y=some (I (jS b),m):=by
 intro b;induction b with
 |nil=>intro k j m Y i f;obtain⟨j,rfl⟩:=dF f;have g:¬((k:Int)<(l.length:Int)):=(by have:=gX.mp i;omega);simp only[AD];unfold VG yh;simp only[bQ,g,bK,aE,aS,jS]
 |cons e r t=>
  intro k j m Y i f;obtain⟨j,rfl⟩:=dF f;obtain⟨g,p,n⟩:=gK i;have hk':(k:Int)<(l.length:Int):=(by omega);have ix:=h.ix gE g;have ld:∀m,aA false 1 (.aF ((l.drop k).flatMap intE)) m=some (I e):=λm=>by rw[fT g,dN,p];rfl
  have o:=gH k (by omega);simp only[AD];unfold VG jS eK;simp only[bQ,hk',bC,aE,aR,ix,ld,fQ];by_cases c:e=0
  .simp only[c,bC,cC,aS,dJ,o,aE,bV];exact t (k+1) j m _ n (by simp at f;omega)
  .simp only[c,bK,bW,aR,cJ]
def JU(d:Nat){a:AV}{l:List Int}(h:Sl intE a l)(b:l.length<=1000)(m:Mem):aI (aG (d+1)) uV [a] m=some (I (jS l),m):=by refine dT (by simp[h.bG]) ?_ m;rw[x9x];unfold qp VF yg;have r:=x14 (aG d) [] 0 h b l 0 NN ⟨[],1⟩ (0+1+3) rfl (by rw[cU];omega);have e:aN prog BJ a=some (I l.length):=h.len xph;rw[show I ((0:Nat):Int)=I 0 from rfl]at r;simp only[mem0,e,aE];exact r▸RetF.st rfl rfl
def x0k{R:Type}{x y z:Int}{id:Id}{m:Mem}{k:AV->Mem->Option R}:dC qO [(0,1,I x),(1,1,I y),(2,1,I z)] 3 1 id m k=k (.aQ [I x,I y,I z] 3 true) m:=by rw[show qO=[I 0] by kernel_rfl];simp[dC,jG,eV,qK,cR]
def xng(d:Nat)(n:Int)(m:Mem):aI (aG (d+2)) rN [I n,I 100000000] m=some (B (decide (-100000000<=n)&&decide (n<=100000000)),m):=by refine dT rfl ?_ m;rw[xi5];unfold OM IA;simp[mem0,uA,wi];exact RetF.st rfl rfl
def x2h(d:Nat)(h:Sl Pe.c ea C)(y:[I E,I O,ba,pa,ea].all aP=true)(P:C.length<=1000)(Q:∀x∈C,x.nm.size<=1000):∀(f:List Pe) (k j:Nat) (m:Mem) (Y:Nat),C.drop k=f->f.length<j->m.get (0,0,1)=some (.row [I E,I O,ba,pa,ea] 0 false) ->
    ∃R,AG (aG (d+3)) [] 0 j (.ptr (0,0,1) 0 0) ea (I C.length) (I k) m Y=some (I (eW uP Pe.nm ((C.take k).map Pe.nm) f),R):=by
 intro f;induction f with
 |nil=>intro k j m Y A w L;obtain⟨j,rfl⟩:=dF w;have i:¬((k:Int)<(C.length:Int)):=(by have:=gX.mp A;omega);simp only[AG];unfold WJ zl;simp only[bQ,i,bK,aE,aS,eW];exact⟨m,rfl⟩
 |cons e r ih=>
  intro k j m Y A w L;obtain⟨j,rfl⟩:=dF w;obtain⟨i,J,K⟩:=gK A;have hk':(k:Int)<(C.length:Int):=(by omega);have ix:=h.ix Pe.len i;have ld:=λm=>iP (m:=m) Pe.len (by omega) i
  rw[J]at ld;obtain⟨M,Z,W,n1,f1⟩:=pQ (u:=0) (s:=Y+4) (t:=11) (m:=m) (z:=YH) (cs:=e.c) (n:=2) (by kernel_rfl) rfl rfl;have N:M.get (0,0,1)=some (.row [I E,I O,ba,pa,ea] 0 false):=(by rw[f1 _ (by simp)];exact L);have g1':M.get (0,Y+4,11)=some (.row [T e.nm,I e.role] 0 false):=W;have X:=gH k (by omega);have o:=gu d y (ns:=C.map Pe.nm) (by simpa using P) (x:=e.nm) (Q e (J▸eX i)) (k:=k) (by simp;omega) N (x3p (d+1) h);have g:=JU (d+2) (a:=.aQ [I (iI e.nm ((C.map Pe.nm).take k)),I (hW (wi e.role 1 3))] 2 true) (l:=[iI e.nm ((C.map Pe.nm).take k),hW (wi e.role 1 3)]) (Or.inr ⟨true,rfl⟩) (by simp);have D:(C.map Pe.nm).take k=(C.take k).map Pe.nm:=(by rw[jj]);have p:(C.take (k+1)).map Pe.nm=(C.take k).map Pe.nm++[e.nm]:=(by rw[jV i,J,kY];rfl);have F:∀b m,aI (aG (d+3)) pS [B b] m=some (I (hW b),m):=λb m=>JS (d+2) b m
  rw[D]at o g;have H:jS [iI e.nm ((C.take k).map Pe.nm),hW (wi e.role 1 3)]=uP ((C.take k).map Pe.nm) e:=by
   unfold uP jS jS jS eK;repeat' split
   all_goals first|rfl|omega
  rw[H]at g;simp only[AG];unfold WJ;simp only[bQ,hk',bC,aE,aR,ix,ld,kA,Z,cM,aM g1',bO,bA,cZ,cE,o,uA (d+2),F,ce,g,fQ,eW];by_cases c:uP ((C.take k).map Pe.nm) e=0
  .simp only[c,bC,cC,aS,dJ,X,aE,eK,bV];rw[<-p];exact ih (k+1) j M _ K (by simp at w;omega) N
  .simp only[c,bK,bW,aR,eK,cJ];exact⟨M,rfl⟩
def x2g(d:Nat)(h:Sl Pn.c pa J)(N:[I E,I O,ba,pa,ea].all aP=true)(hl:J.length<=1000)(hn:∀x∈J,x.nm.size<=1000){i:Int}(hB:∀m Y,m.get (0,0,1)=some (.row [I E,I O,ba,pa,ea] 0 false)->∃D,WG (aG (d+3)) [] 0 (.ptr (0,0,1) 0 0) m Y=some (I i,D)):∀(f:List Pn) (k j:Nat) (m:Mem) (Y:Nat),J.drop k=f->f.length<j->m.get (0,0,1)=some (.row [I E,I O,ba,pa,ea] 0 false) ->
    ∃D,I8 (aG (d+3)) [] 0 j (.ptr (0,0,1) 0 0) pa (I J.length) (I k) m Y=some (I (eK (eW nI Pn.nm ((J.take k).map Pn.nm) f) i),D):=by
 intro f;induction f with
 |nil=>intro k j m Y X K Z;obtain⟨j,rfl⟩:=dF K;have w:¬((k:Int)<(J.length:Int)):=(by have:=gX.mp X;omega);simp only[I8];unfold WE;simp only[bQ,w,bK,aE,aS,eW,eK,bV];exact hB m _ Z
 |cons e r ih=>
  intro k j m Y X K Z;obtain⟨j,rfl⟩:=dF K;obtain⟨w,he,hd1⟩:=gK X;have hk':(k:Int)<(J.length:Int):=(by omega);have ix:=h.ix Pn.len w;have ld:=λm=>iP (m:=m) Pn.len (by omega) w
  rw[he]at ld;obtain⟨M,s1,g1,n1,f1⟩:=pQ (u:=0) (s:=Y+4) (t:=7) (m:=m) (z:=l9) (cs:=e.c) (n:=4) (by kernel_rfl) rfl rfl;have hM:M.get (0,0,1)=some (.row [I E,I O,ba,pa,ea] 0 false):=(by rw[f1 _ (by simp)];exact Z);have g1':M.get (0,Y+4,7)=some (.row [T e.nm,I e.at_.x,I e.at_.y,I e.at_.z] 0 false):=g1;have hw:=gH k (by omega);have F:=gu d N (ns:=J.map Pn.nm) (by simpa using hl) (x:=e.nm) (hn e (he▸eX w)) (k:=k) (by simp;omega) hM (x3o (d+1) h);have o:=JU (d+2) (a:=.aQ [I (iI e.nm ((J.map Pn.nm).take k)),I (hW (isPl e.at_))] 2 true) (l:=[iI e.nm ((J.map Pn.nm).take k),hW (isPl e.at_)]) (Or.inr ⟨true,rfl⟩) (by simp);have htk:(J.map Pn.nm).take k=(J.take k).map Pn.nm:=(by rw[jj]);have H:(J.take (k+1)).map Pn.nm=(J.take k).map Pn.nm++[e.nm]:=(by rw[jV w,he,kY];rfl);have hrg:∀b m,aI (aG (d+3)) pS [B b] m=some (I (hW b),m):=λb m=>JS (d+2) b m
  have p:=λn m=>xng (d+1) n m
  rw[htk]at F o;have hfe:jS [iI e.nm ((J.take k).map Pn.nm),hW (isPl e.at_)]=nI ((J.take k).map Pn.nm) e:=by
   unfold nI jS jS jS eK;repeat' split
   all_goals first|rfl|omega
  rw[hfe]at o
  have tail:∀Y,(∃D,(dZ (aG (d+3)) rO [T e.nm,.clo C4 [.ptr (0,0,1) 0 0],I k] M).bind (λA=>
   (aI (aG (d+3)) pS [B (isPl e.at_)] A.2).bind λC=>
   dC qO [(0,1,A.1),(1,1,C.1)] 2 1 (0,Y+31,90) C.2 λP Q=>
   (aI (aG (d+3)) uV [P] Q).bind λg=>
   (eC g.1 (I 0)).bind λR=>
   aL R (some (g.1,g.2)) ((bI (I k) (I 1)).bind λW=>
    I8 (aG (d+3)) [] 0 j (.ptr (0,0,1) 0 0) pa (I J.length) W g.2 (Y+38)))=some (I (eK (eW nI Pn.nm ((J.take k).map Pn.nm) (e::r)) i),D)):=λY=>by
   simp only[F,aE,hrg,ce,o,fQ,eW]
   by_cases c:nI ((J.take k).map Pn.nm) e=0
   .simp only[c,bC,cC,aS,dJ,hw,aE]
    rw[show eK 0 (eW nI Pn.nm ((J.take k).map Pn.nm++[e.nm]) r)=eW nI Pn.nm ((J.take k).map Pn.nm++[e.nm]) r from rfl,<-H]
    exact ih (k+1) j M _ hd1 (by simp at K;omega) hM
   .simp only[c,bK,bW,aR,eK,cJ]
    exact⟨M,rfl⟩
  simp only[I8];unfold WE;simp only[bQ,hk',bC,aE,aR,ix,ld,kA,s1,cM,aM g1',bO,bA,cZ,cE,p];unfold isPl at tail;cases x1:(decide (-100000000<=e.at_.x)&&decide (e.at_.x<=100000000))
  .rw[x1]at tail;simp only[dO,hJ,gD,cS,aE,cN,aM g1',bA,cE];exact tail Y
  .cases L:(decide (-100000000<=e.at_.y)&&decide (e.at_.y<=100000000))
   .rw[x1,L]at tail;simp only[dO,hJ,gD,bB,cS,aE,cN,aM g1',cM,bA,cZ,cE,p,L];exact tail Y
   .rw[x1,L]at tail;simp only[dO,hJ,gD,bB,aE,cN,aM g1',cM,bA,cZ,cE,p,L];exact tail Y
def x2i(d:Nat)(h:Sl Bd.c ba W)(C:[I E,I O,ba,pa,ea].all aP=true)(hl:W.length<=1000)(hn:∀x∈W,x.nm.size<=1000/\x.cs.length<=1000){res:Int}(hB:∀m Y,m.get (0,0,1)=some (.row [I E,I O,ba,pa,ea] 0 false)->∃D,WD (aG (d+5)) [] 0 (.ptr (0,0,1) 0 0) m Y=some (I res,D)):∀(f:List Bd) (k j:Nat) (m:Mem) (Y:Nat),W.drop k=f->f.length<j->m.next=1->m.get (0,0,1)=some (.row [I E,I O,ba,pa,ea] 0 false) ->
    ∃D,AF (aG (d+5)) [] 0 j (.ptr (0,0,1) 0 0) ba (I W.length) (I k) m Y=some (I (eK (eW mJ Bd.nm ((W.take k).map Bd.nm) f) res),D):=by
 intro f;induction f with
 |nil=>intro k j m Y F A g H;obtain⟨j,rfl⟩:=dF A;have o:¬((k:Int)<(W.length:Int)):=(by have:=gX.mp F;omega);simp only[AF];unfold WC;simp only[bQ,o,bK,aE,aS,eW,eK,bV];exact hB m _ H
 |cons e r ih=>
  intro k j m Y F A g H;obtain⟨j,rfl⟩:=dF A;obtain⟨o,X,Z⟩:=gK F;have hk':(k:Int)<(W.length:Int):=(by omega);have ix:=h.ix Bd.len o;have ld:=λm=>iP (m:=m) Bd.len (by omega) o
  rw[X]at ld;have J:=hn e (X▸eX o);obtain⟨M,s1,g1,n1,f1⟩:=pQ (u:=0) (s:=Y+4) (t:=4) (m:=m) (z:=BI) (cs:=e.c) (n:=3) (by kernel_rfl) rfl e.one;have hM:M.get (0,0,1)=some (.row [I E,I O,ba,pa,ea] 0 false):=(by rw[f1 _ (by simp)];exact H);have g1':M.get (0,Y+4,4)=some (.row [T e.nm,e.ca,I e.th] 0 false):=g1;have hw:=gH k (by omega);have p:=gu (d+2) C (ns:=W.map Bd.nm) (by simpa using hl) (x:=e.nm) J.1 (k:=k) (by simp;omega) hM (x3q (d+3) h);have K:=xbs d e.ok M (by omega);have i:=JU (d+4) (a:=.aQ [I (iI e.nm ((W.map Bd.nm).take k)),I (polyE e.cs),I (hW (wi e.th 0 1000000))] 3 true) (l:=[iI e.nm ((W.map Bd.nm).take k),polyE e.cs,hW (wi e.th 0 1000000)]) (Or.inr ⟨true,rfl⟩) (by simp);have L:(W.map Bd.nm).take k=(W.take k).map Bd.nm:=(by rw[jj]);have w:(W.take (k+1)).map Bd.nm=(W.take k).map Bd.nm++[e.nm]:=(by rw[jV o,X,kY];rfl);have N:∀b m,aI (aG (d+5)) pS [B b] m=some (I (hW b),m):=λb m=>JS (d+4) b m
  rw[L]at p i;have P:jS [iI e.nm ((W.take k).map Bd.nm),polyE e.cs,hW (wi e.th 0 1000000)]=mJ ((W.take k).map Bd.nm) e:=by
   unfold mJ jS jS jS jS eK;repeat' split
   all_goals first|rfl|omega
  rw[P]at i;have Q:clean e.ca=true:=e.ok.clean;have y:((Nat.ble 1 (cB 0 [e.ca])&&true)&&(cV (some M.next) (tR (.ptr (0,Y+4,4) 0 (0+2))) (cB 0 [e.ca])&&true))=true:=(by have R:M.next=1:=(by rw[n1,g]);simp[cB,cV,tR,Q,R]);simp only[AF];unfold WC;simp only[bO]at y;simp only[bQ,hk',bC,aE,aR,ix,ld,kA,s1,cM,aM g1',bO,bA,cZ,cE,p,K,uA (d+4),N,x0k,i,y,bB,fQ,eW];by_cases c:mJ ((W.take k).map Bd.nm) e=0
  .simp only[c,bC,cC,aS,dJ,hw,aE];rw[show eK 0 (eW mJ Bd.nm ((W.take k).map Bd.nm++[e.nm]) r)=eW mJ Bd.nm ((W.take k).map Bd.nm++[e.nm]) r from rfl,<-w];exact ih (k+1) j M _ Z (by simp at A;omega) (by rw[n1,g]) hM
  .simp only[c,bK,bW,aR,eK,cJ];exact⟨M,rfl⟩
def xbr(d:Nat)(e:Sl Bd.c ba W)(f:Sl Pn.c pa J)(g:Sl Pe.c ea C)(y:W.length<=1000)(A:J.length<=1000)(D:C.length<=1000)(i:∀x∈W,x.nm.size<=1000/\x.cs.length<=1000)(j:∀x∈J,x.nm.size<=1000)(l:∀x∈C,x.nm.size<=1000)(m:Mem) :
    aI (aG (d+6)) yR [.agg [I E,I O,ba,pa,ea]] m=some (I (iG E O W J C),m):=by
 have b:[I E,I O,ba,pa,ea].all aP=true:=(by simp[e.aP,f.aP,g.aP]);refine dT (by simp[e.aP,f.aP,g.aP]) ?_ m;rw[yah];unfold ro WB;have F:[I E,I O,ba,pa,ea].all AV.one=true:=(by simp[e.one,f.one,g.one]);simp only[mem0,fN,jT,F,bB];generalize h:Mem.new _ _ _=m1;have a:m1.get (0,0,1)=some (.row [I E,I O,ba,pa,ea] 0 false):=(by rw[<-h,Mem.iB]);have n:m1.next=1:=(by rw[<-h];rfl);unfold iG;simp only[cM,aE,aM a,bO,bA,cE,uA (d+4),fA];cases K:wi E 1 10000
 .simp only[bW,dO,hJ,dR,cC,cS,aE,cN,bB,aR,pE,fE,cJ];exact RetF.st rfl rfl
 cases w:wi O 0 2048
 .simp only[cC,dO,hJ,dR,bW,bB,aE,aM a,bA,cZ,cE,uA (d+4),w,fA,cN,cS,aR,xlh,fE,cJ];exact RetF.st rfl rfl
 simp only[cC,dO,hJ,dR,bW,bB,aE,aM a,bA,cZ,cE,uA (d+4),w,fA,cN,cS,aS,gC,bV,e.len qT,gZ];by_cases o:6<W.length
 .simp only[show((6:Int)<(W.length:Int)) by omega,bC,aR,o,bV];exact RetF.st rfl rfl
 simp only[show ¬((6:Int)<(W.length:Int)) by omega,bK,aS,o,cJ];unfold zi;simp only[cM,aE,aM a,bO,bA,cZ,cE,e.len qT];have r:=x2i d e b y i (res:=(if 8<J.length then 8 else eK (eW nI Pn.nm [] J) (if C.length=0 then 10 else if 10<C.length then 8 else eW uP Pe.nm [] C))) (λm Y a=>?_) W 0 NN m1 (0+18+4) rfl (by rw[cU];omega) n a
 .obtain⟨H,r⟩:=r;rw[show I ((0:Nat):Int)=I 0 from rfl]at r;rw[r];exact RetF.st rfl rfl
 .unfold WD;simp only[cM,aE,aM a,bO,bA,cZ,cE,f.len pL,gZ];by_cases p:8<J.length
  .simp only[show((8:Int)<(J.length:Int)) by omega,bC,aR,p,bV];exact⟨_,rfl⟩
  simp only[show ¬((8:Int)<(J.length:Int)) by omega,bK,aS,p,cJ];unfold zj;simp only[cM,aE,aM a,bO,bA,cZ,cE,f.len pL];refine x2g (d+2) f b A j (λm Y a=>?_) J 0 NN m _ rfl (by rw[cU];omega) a;unfold WG;simp only[cM,aE,aM a,bO,bA,cZ,cE,g.len uC,fV];by_cases t:C.length=0
  .simp only[t,bV];exact⟨_,rfl⟩
  simp only[show ¬((C.length:Int)=0) by omega,bK,aS,t,cJ,aE,gZ];by_cases u:10<C.length
  .simp only[show((10:Int)<(C.length:Int)) by omega,bC,aR,u,bV];exact⟨_,rfl⟩
  simp only[show ¬((10:Int)<(C.length:Int)) by omega,bK,aS,u,cJ];unfold zk;simp only[cM,aE,aM a,bO,bA,cZ,cE,g.len uC];exact x2h (d+2) g b D l C 0 NN m _ rfl (by rw[cU];omega) a
end Go.Ix
namespace Go.Proofs.YtjngclcijnpooaaGreatDoor
open Go.ChangeShapes Go.WideShapes Go.ChangeAt Go.RowKit Go.Ix
def MT:prog.cellsOf eE=1:=by kernel_rfl
def fu:prog.cellsOf cF=1:=by kernel_rfl
def fw:prog.cellsOf tZ=3:=by kernel_rfl
def GF{t:TypeId}{b:Array Go.Field}{l:List (TypeId×Nat)}{r:List AV}(d:b.toList.map (λf=>(f.type,f.offset))=l)(a:∀f∈b.toList,Sh prog f.type ((r.drop f.offset).take (prog.cellsOf f.type))):∀p∈l,Sh prog p.1 ((r.drop p.2).take (prog.cellsOf p.1)):=by subst d;intro p e;obtain⟨f,g,rfl⟩:=fK.mp e;exact a f g
def xel{r:List AV}(b:r.length=prog.cellsOf tZ)(j:Sh prog tZ r):∃x:Pl,r=x.c:=by
 obtain⟨w,m,n⟩:=V4 (t:=tZ) (l:=[(eE,0),(eE,1),(eE,2)]) (by kernel_rfl);obtain⟨-,a⟩:=Sh.L3 m j;rw[fw]at b;match r,b with
 |[x,y,z],_=>have:=GF (t:=eE) n a;have d:=this (eE,0) (by simp);have e:=this (eE,1) (by simp);have f:=this (eE,2) (by simp);simp only[MT,bA,jW,jB,cZ]at d e f;obtain⟨o,g⟩:=vU d;obtain⟨p,h⟩:=vU e;obtain⟨u,i⟩:=vU f;simp at g h i;exact⟨⟨o,p,u⟩,by rw[g,h,i];rfl⟩
def ybo{r:List AV}(a:r.length=prog.cellsOf o7)(b:Sh prog o7 r):∃x:Bd,r=x.c:=by
 obtain⟨A,o,p⟩:=V4 (t:=o7) (l:=[(cF,0),(pF,1),(eE,2)]) (by kernel_rfl);obtain⟨-,f⟩:=Sh.L3 o b;have n:prog.cellsOf o7=3:=(by kernel_rfl);have d:prog.cellsOf pF=1:=(by kernel_rfl);rw[n]at a;match r,a with
 |[x,y,z],_=>have:=GF (t:=eE) p f;have g:=this (cF,0) (by simp);have h:=this (pF,1) (by simp);have i:=this (eE,2) (by simp);simp only[MT,fu,d,bA,jW,jB,cZ]at g h i;obtain⟨s,j⟩:=CJ g;obtain⟨l,u,-⟩:=CE (e:=tZ) (by kernel_rfl) (λr a b=>xel a b) h;obtain⟨w,m⟩:=vU i;simp at j m;exact⟨⟨s,y,l,w,u⟩,by rw[j,m];rfl⟩
def xxy{r:List AV}(d:r.length=prog.cellsOf o5)(h:Sh prog o5 r):∃x:Pn,r=x.c:=by
 obtain⟨n,j,m⟩:=V4 (t:=o5) (l:=[(cF,0),(tZ,1)]) (by kernel_rfl);obtain⟨-,b⟩:=Sh.L3 j h;have i:prog.cellsOf o5=4:=(by kernel_rfl);rw[i]at d;match r,d with
 |[x,y,z,w],_=>have:=GF (t:=eE) m b;have e:=this (cF,0) (by simp);have f:=this (tZ,1) (by simp);simp only[fu,fw,bA,jW,jB,cZ]at e f;obtain⟨s,g⟩:=CJ e;obtain⟨p,a⟩:=xel (by rw[fw];rfl) f;simp[Pl.c]at g a;exact⟨⟨s,p⟩,by rw[g,a.1,a.2.1,a.2.2];rfl⟩
def xx1{r:List AV}(b:r.length=prog.cellsOf o6)(h:Sh prog o6 r):∃x:Pe,r=x.c:=by
 obtain⟨n,j,m⟩:=V4 (t:=o6) (l:=[(cF,0),(eE,1)]) (by kernel_rfl);obtain⟨-,a⟩:=Sh.L3 j h;have i:prog.cellsOf o6=2:=(by kernel_rfl);rw[i]at b;match r,b with
 |[x,y],_=>have:=GF (t:=eE) m a;have d:=this (cF,0) (by simp);have e:=this (eE,1) (by simp);simp only[fu,MT,bA,jW,jB,cZ]at d e;obtain⟨s,f⟩:=CJ d;obtain⟨p,g⟩:=vU e;simp at f g;exact⟨⟨s,p⟩,by rw[f,g];rfl⟩
def setup_inO{a:AV}(h:ArgSh prog BL a):∃E O m n o W J C,a=.agg [I E,I O,m,n,o]/\Sl Bd.c m W/\Sl Pn.c n J/\Sl Pe.c o C:=by
 obtain⟨fs,H,N⟩:=V4 (t:=BL) (l:=[(eE,0),(eE,1),(nC,2),(qP,3),(pG,4)]) (by kernel_rfl);obtain⟨q,rfl,P⟩:=h.struct H;obtain⟨b,j⟩:=Sh.L3 H P;have M:prog.cellsOf BL=5:=(by kernel_rfl);have f:prog.cellsOf nC=1:=(by kernel_rfl);have g:prog.cellsOf qP=1:=(by kernel_rfl);have i:prog.cellsOf pG=1:=(by kernel_rfl);rw[M]at b;match q,b with
 |[x,y,v,w,z],_=>have:=GF (t:=eE) N j;have p:=this (eE,0) (by simp);have u:=this (eE,1) (by simp);have A:=this (nC,2) (by simp);have D:=this (qP,3) (by simp);have F:=this (pG,4) (by simp);simp only[MT,f,g,i,bA,jW,jB,cZ]at p u A D F;obtain⟨Q,K⟩:=vU p;obtain⟨R,L⟩:=vU u;obtain⟨W,X,-⟩:=CE (e:=o7) (by kernel_rfl) (λr b d=>ybo b d) A;obtain⟨J,Y,-⟩:=CE (e:=o5) (by kernel_rfl) (λr b d=>xxy b d) D;obtain⟨C,Z,-⟩:=CE (e:=o6) (by kernel_rfl) (λr b d=>xx1 b d) F;simp at K L;subst K L;exact⟨Q,R,v,w,z,W,J,C,rfl,X,Y,Z⟩
def two10_in{a:AV}(h:ArgSh prog xU a):∃x y,a=.agg [I x,I y]:=by
 have d:prog.underlying xU=some (.array 2 eE):=(by kernel_rfl);obtain⟨l,rfl,Z⟩:=h.array d;have o:prog.cellsOf xU=2:=(by kernel_rfl);have e:prog.cellsOf eE=1:=(by kernel_rfl);cases Z with
 |array b _ m n=>
  rw[d]at b;cases b;rw[o]at m;match l,m with
  |[x,y],_=>have f:=n 0 (by omega);have g:=n 1 (by omega);simp[e]at f g;obtain⟨p,i⟩:=vU f;obtain⟨q,j⟩:=vU g;simp at i j;exact⟨p,q,by rw[i,j]⟩
 |string b=>rw[d]at b;cases b
 |int b=>rw[d]at b;cases b
 |nilS b=>rw[d]at b;cases b
 |slice b=>rw[d]at b;cases b
 |bool b=>rw[d]at b;cases b
 |float b=>rw[d]at b;cases b
 |struct b=>rw[d]at b;cases b
end Go.Proofs.YtjngclcijnpooaaGreatDoor
namespace Go.Ix
open Go.Proofs
def xo2(d:Nat)(l:List UInt8)(c:UInt8)(m:Mem):aI (aG (d+5)) O0 [Tx l,Tx [c]] m=some (B (decide (c∈l)),m):=by
 refine Ans.gG (m:=m) ?_ rfl rfl;unfold Ans;rw[x7a];unfold kr PM;have h:decide (0<=Lib.indexByte l c)=decide (c∈l):=by
  rcases FY c l with ⟨a,b⟩|⟨i,a,b,f,e⟩
  .rw[a];simp[b]
  .have:c∈l:=HA (by rw[e];exact eO);rw[a];simp[this]
 simp only[xbn,aE,vW,h];exact⟨_,rfl⟩
def Br10(x:Ent):Prop:=x.by_.length<=1000/\x.tx.length<=1000
def Br10.sh{x:Ent}(h:Br10 x):yc1 x:=⟨by have:=h.1;omega,by have:=h.2;omega⟩
def xo0(d:Nat){a:AV}{L:List Ent}(i:Sl Ent.c a L)(n:L.length<=1000000)(m:Mem):∃b,Sl Ent.c b L/\aI (aG (d+1)) wG [a] m=some (b,m):=by
 refine qF (by simp[i.bG]) ?_ m;rw[x8z];unfold oy TL;have h:∀(s t:Nat) (m:Mem),∃b f g,Sl Ent.c g L/\Go.Ix.frz f.get bL b=some g/\∀{R:Type} (k:AV->Mem->Option R),cX 2 32 (0,s,t) (elems m.get 2 a) (.aQ [] 0 true) m k=k b f:=by
  intro s t m;rcases GP Ent.len i (by unfold cQ;omega:cQ L.length 32) (0,s,t) m with ⟨rfl,e⟩|⟨o,e⟩
  .exact⟨.aQ [] 0 true,m,.aQ [] 0 true,Sl.lit [] true,rfl,e⟩
  .exact⟨_,_,.aQ (L.flatMap Ent.c) L.length false,Sl.lit L false,ME (k:=4) Ent.len Ent.stl (by simp),e⟩
 obtain⟨b,f,g,e,j,l⟩:=h 3 5 (⟨[],1⟩:Mem);simp[mem0,l];exact RetF.mk j e
def zK(L:List Ent):Bool:=L.all λx=>decide (x.by_.length<=20)&&decide (x.tx.length<=220)
def xgg(b:aK)(Z:FHs)(u:Nat){a:AV}{L:List Ent}(f:Sl Ent.c a L):∀(d:List Ent) (k j:Nat) (m:Mem) (Y:Nat),L.drop k=d->d.length<j->L.length<=9223372036854775807 ->
    AL b Z u j a (I k) m Y=some (B (zK d&&(decide (L.length<=20)||(decide (40<L.length)&&decide (L.length<=42)))),m)
 |[],k,j,m,Y,h,i,w=>by
  obtain⟨j,rfl⟩:=dF i;have g:¬((k:Int)<(L.length:Int)):=(by have:=gX.mp h;omega);simp only[AL];unfold WS zx;simp only[f.len BQ,bQ,g,bK,aE,aS,KP,gI,dO,dR];have x:decide ((L.length:Int)<=20)=decide (L.length<=20):=decide_eq_decide.2 (by omega);have y:decide ((40:Int)<(L.length:Int))=decide (40<L.length):=decide_eq_decide.2 (by omega);have A:decide ((L.length:Int)<=42)=decide (L.length<=42):=decide_eq_decide.2 (by omega);rw[x];cases l:decide (L.length<=20)
  .simp only[bW,bB,aE,f.len BQ,gZ,y,gD];cases n:decide (40<L.length)
   .simp only[cS,aE,cN,zK,lJ,gO,pE,Bool.or_self]
   .simp only[bB,aE,f.len BQ,KP,A,cN,zK,lJ,gO,J4,cS]
  .simp only[cC,cS,aE,cN,bB,zK,lJ,gO,OX,show sW U true=false from rfl]
 |e::r,k,j,m,Y,h,i,w=>by
  obtain⟨j,rfl⟩:=dF i;obtain⟨g,D,h⟩:=gK h;have hk':(k:Int)<(L.length:Int):=(by omega);have ix:=f.ix Ent.len g;have o:=λm=>xgb (enc:=Ent.c) (m:=m) g 0 rfl
  have p:=λm=>xgb (enc:=Ent.c) (m:=m) g 1 rfl
  simp only[D]at o p;have C:=gH k (by omega);have t:=xgg b Z u f r (k+1) j m (Y+23) h (by simp at i;omega) w;simp only[AL];unfold WS;simp only[f.len BQ,bQ,hk',bC,aR,aE,ix,xdm,o,nD,gZ,gI,dO,dR];simp only[zK,dQ]at t ⊢;by_cases l:e.by_.length<=20
  .have c1':¬(20:Int)<(e.by_.length:Int):=(by omega);simp only[l,c1',bK,bC,bW,bB,aE,ix,xdm,p,nD,gZ,cN,cS,gO];by_cases n:e.tx.length<=220
   .have c2':¬(220:Int)<(e.tx.length:Int):=(by omega);simp only[n,c2',bK,bC,aS,dJ,aE,C,gO];exact t
   .have c2':(220:Int)<(e.tx.length:Int):=(by omega);simp only[n,c2',bK,bC,aR,pE]
  .have c1':(20:Int)<(e.by_.length:Int):=(by omega);simp only[l,c1',bK,bC,cC,cS,aE,cN,bB,aR,pE]
def xjf{a:aK}{f:FuncId}{l d:List AV}{m:Mem}{r:AV}(n:l.mapM (Go.Ix.frz m.get bL)=some d)(e:d.all bG=true)(h:∀m,aI a f d m=some (r,m)) :
    aI a f l m=some (r,⟨lL (l.flatMap (reach m.get bL)) m.hp,m.next⟩):=by
 have b:=h mem0;have g:d.mapM (Go.Ix.frz mem0.get bL)=some d:=zE _ e;unfold aI at b ⊢;rw[g]at b;rw[n];dsimp only at b ⊢;cases i:a [] f d mem0 with
 |none=>rw[i]at b;cases b
 |some p=>
  rw[i]at b;dsimp only at b ⊢;cases j:Go.Ix.frz p.2.get bL p.1 with
  |none=>rw[j]at b;cases b
  |some r0=>rw[j]at b;have:=congrArg Prod.fst (qJ b);dsimp only at this;subst this;rfl
def xqu{a:List Id}{j:Id}{m:Mem}(b:j∉a):(⟨lL a m.hp,m.next⟩:Mem).get j=m.get j:=by show fF (lL a m.hp) j=_;rw[congrFun (w5 a m.hp) j];unfold shut;rw[aD b];rfl
def xsl{m:Mem}{id:Id}{f d n z v k:Nat}{x b:Bool}{e:List AV}(g:m.get id=some (.row e v b))(Z:e.all aP=true):Go.Ix.reach m.get (k+2) (.sref id f d n z x)=[id]:=by
 show(match m.get id with
  |some (.row e _ _)=>id::((e.drop d).take (n*z)).flatMap (Go.Ix.reach m.get (k+1))
  |_=>[id])=[id]
 rw[g];show id::((e.drop d).take (n*z)).flatMap (Go.Ix.reach m.get (k+1))=[id];congr 1;rw[zW];exact λa h=>N2 m.get k (dG.mp Z a (HA (GZ h)))
def GkL{α:Type}(z:Nat)(b:α->List AV)(ok:Id->Prop)(m:Mem)(a:AV)(l:List α):Prop:=
 a=.aQ (l.flatMap b) l.length true\/∃id d,ok id/\a=.sref id d 0 l.length z true/\m.get id=some (.row (l.flatMap b) d false)
def GkL.frame{α:Type}{z:Nat}{b:α->List AV}{a:AV}{l:List α}{ok:Id->Prop}{m m':Mem}(h:GkL z b ok m a l)(d:∀id,ok id->m'.get id=m.get id):GkL z b ok m' a l:=by
 rcases h with h|⟨id,ver,h0,h1,h2⟩
 .exact Or.inl h
 .exact Or.inr ⟨id,ver,h0,h1,by rw[d _ h0];exact h2⟩
def GkL.app{α:Type}{z:Nat}{b:α->List AV}{a:AV}{l:List α}(n:∀x,(b x).length=z)(p:0<z){bytes:Nat}{ok:Id->Prop}{id0:Id}{m:Mem}(f:ok id0)(g:cQ (l.length+1) bytes)(h:GkL z b ok m a l)(x:α) :
    ∃i d,(∀{R:Type} (k:AV->Mem->Option R),cX z bytes id0 (some (b x,1)) a m k=k i d)/\GkL z b ok d i (l++[x])/\d.next=m.next/\∀j:Id,¬ok j->d.get j=m.get j:=by
 have o:=iE n l;rcases h with rfl|⟨id,ver,h1,rfl,hg⟩
 .refine⟨.sref id0 0 0 (l.length+1) z true,m.new id0 (.row (l.flatMap b++b x) 0 false),λk=>?_,Or.inr ⟨id0,0,f,by simp,by simp⟩,rfl,λj e=>?_⟩
  .simp only[cX];rw[aH (by omega),aD (by omega),aH g,dU (by omega)]
  .rw[Mem.dP,aD (by rintro rfl;exact e f)]
 .refine⟨.sref id (ver+1) 0 (l.length+1) z true,m.set id (.row (l.flatMap b++b x) (ver+1) false),λk=>?_,Or.inr ⟨id,ver+1,h1,by simp,by simp⟩,rfl,λj e=>?_⟩
  .simp only[cX,hg];rw[aH ⟨trivial,trivial,by omega,g⟩,aD (by omega),aD (by rw[o,lR];omega),bA,dU (by omega)]
  .rw[Mem.cP,aD (by rintro rfl;exact e h1)]
def GkL.frz{α:Type}{z:Nat}{b:α->List AV}{a:AV}{l:List α}(e:∀x,(b x).length=z)(Z:∀x,(b x).all aP=true){ok:Id->Prop}{k:Nat}{m:Mem}(h:GkL z b ok m a l):∃d,Sl b d l/\Go.Ix.frz m.get (k+2) a=some d:=by
 have j:=iE e l;rcases h with rfl|⟨id,ver,_,rfl,hg⟩
 .have g:Sl b (.aQ (l.flatMap b) l.length true) l:=Or.inr ⟨true,rfl⟩;have i:bG (.aQ (l.flatMap b) l.length true)=true:=(by simp[bG]);exact⟨_,g,kD m.get k i⟩
 .refine⟨.aQ (l.flatMap b) l.length false,Sl.lit l false,?_⟩
  have:=vB (aC:=m.get) (id:=id) (cs:=l.flatMap b) (ver:=ver) (off:=0) (n:=l.length) (z:=z) (k:=k) (f:=false) (x:=true) hg (by omega) (by
   rw[bA,dU (by omega)];exact rW Z l)
  rw[bA,dU (by omega)]at this;exact this
def OF(n:Int):Prop:=-9223372036854775808<=n/\n<=9223372036854775807
def Edge.i64(e:Edge):Prop:=OF e.fr/\OF e.to/\OF e.jump/\OF e.wt
def cG:List UInt8->List UInt8×List UInt8×Bool
 |[]=>([],[],false)
 |x::r=>if x=32 then([],r,true)else((x::(cG r).1),(cG r).2.1,(cG r).2.2)
def fk:∀{l:List UInt8},(32:UInt8)∉l->cG l=(l,[],false)
 |[],_=>rfl
 |x::r,h=>by unfold cG;rw[aD (λe=>h (by rw[e];exact eO)),fk λe=>h (eA _ e)]
def fm:∀{l:List UInt8} (k:List UInt8),(32:UInt8)∉l->cG (l++32::k)=(l,k,true)
 |[],k,_=>by show cG (32::k)=_;rw[cG,aH rfl]
 |x::r,k,h=>by rw[jM,cG,aD (λe=>h (by rw[e];exact eO)),fm k λe=>h (eA _ e)]
def x6c(l:List UInt8):((32:UInt8)∉l/\cG l=(l,[],false))\/∃a b,(32:UInt8)∉a/\l=a++32::b/\cG l=(a,b,true):=by
 rcases FY 32 l with ⟨g,d⟩|⟨i,g,d,e,f⟩
 .exact .inl ⟨d,fk d⟩
 .refine .inr ⟨l.take i,l.drop (i+1),e,?_,?_⟩
  .rw[<-f,G7]
  .conv=>lhs;rw[<-G7 i l,f]
   exact fm _ e
def F3(l:List UInt8):(cG l).1.length<=l.length/\(cG l).2.1.length<=l.length:=by
 rcases x6c l with ⟨h,e⟩|⟨a,b,h,d,e⟩
 .rw[e];simp
 .rw[e,d];simp;omega
def JW(d:Nat)(l:List UInt8)(t:l.length<=100000)(m:Mem):aI (aG (d+5)) sO [Tx l,Tx [32]] m=some (.tup [Tx (cG l).1,Tx (cG l).2.1,B (cG l).2.2],m):=by
 have h:∀m,aI (aG (d+3)) C5 [Tx l,Tx [32]] m=some (I (Lib.indexByte l 32),m):=by
  intro m;refine Ans.gG (m:=m) ?_ rfl rfl;unfold Ans;rw[xjb];unfold OT IN;have e:kK prog cF (Tx [32]) (I 0)=some (U8 (32:UInt8).toNat):=YQ (k:=0) (l:=[32]) (by simp);have a:fL (Tx [32])=some (I 1):=nD [32];simp only[mem0,a,aE,fV,gI,dO,show decide ((1:Int)=0)=false from rfl,dR,bW,bB,pI,cN,cS];by_cases g:[32]=l
  .subst g;have:Lib.indexByte [32] 32=0:=(by simp[Lib.indexByte]);rw[this];simp only[bC,aR];exact⟨_,rfl⟩
  .simp only[g,bK,aS,e,aE,xbo];exact⟨_,rfl⟩
 have b:∀m,aI (aG (d+4)) FC [Tx l,Tx [32]] m=some (.tup [Tx (cG l).1,Tx (cG l).2.1,B (cG l).2.2],m):=by
  intro m;refine Ans.tO (m:=m) ?_ rfl rfl;unfold Ans;rw[yap];unfold rz WV;rw[show(AV.sc (.string ⟨#[]⟩))=Tx []from rfl];simp only[mem0,h,aE,vW];rcases FY 32 l with ⟨f,b⟩|⟨i,f,b,p,r⟩
  .rw[f,fk b];simp only[show decide ((0:Int)<=-1)=false from rfl,aS];exact⟨_,rfl⟩
  .rw[f];have j:cG l=(l.take i,l.drop (i+1),true):=by
    conv=>lhs;rw[<-G7 i l,r]
    exact fm _ p
   have n:(0:Int)<=(i:Int):=(by omega);have a:fL (Tx [32])=some (I 1):=nD [32];have o:=gH i (by omega);simp only[n,bC,aR,JN (show i<=l.length by omega),aE,a,dJ,o,YP (show i+1<=l.length by omega),j];exact⟨_,rfl⟩
 refine Ans.tO (m:=m) ?_ rfl rfl;unfold Ans;rw[x68];unfold ko PK;dsimp only
 simp only[b,aE,mB,kZ,lA];exact⟨_,rfl⟩
end Go.Ix
namespace Go.Ix
open Go.Proofs
variable{pid rid:Id}{pre:List AV}
end Go.Ix
namespace Go.Ix
open Go.Proofs
variable{ba pa ea:AV}{W:List Bd}{J:List Pn}{C:List Pe}{E O:Int}
def D0{R:Type}{s:ByteArray}{id:Id}{m:Mem}{k:AV->Mem->Option R}:dC lW [(0,1,T s)] 1 1 id m k=k (.aQ [T s] 1 true) m:=by rw[XZ];exact xfl rfl rfl rfl
theorem MN(M:Mem)(s:ByteArray):elems M.get 1 (.aQ [T s] 1 true)=some (tE s,1):=rfl
def bu{x:ByteArray}{a:List ByteArray}:iI x a=if nmOK x=true then(if(a.any λy=>eS y x)=true then 5 else 0)else 4:=by
 unfold iI;cases nmOK x
 .rfl
 .cases(a.any λy=>eS y x)<;>rfl
def x1w(d:Nat)(h:Sl Pe.c ea C)(W:C.length<=1000):∀(a:List Pe) (k j:Nat) (v:AV) (m:Mem) (Y:Nat),C.drop k=a->a.length<j->Gr 1 tE 0 52 m v ((C.take k).map Pe.nm)->m.get (0,0,1)=some (.row [I E,I O,ba,pa,ea] 0 false) ->
    ∃H,Z5 (aG (d+1)) [] 0 j (.ptr (0,0,1) 0 0) v (I k) m Y=some (I (eW uP Pe.nm ((C.take k).map Pe.nm) a),H):=by
 intro a;induction a with
 |nil=>intro k j v m Y l i n f;obtain⟨j,rfl⟩:=dF i;have g:¬((k:Int)<(C.length:Int)):=(by have:=gX.mp l;omega);simp only[Z5];unfold TC xf;simp only[cM,aE,aM f,bO,bA,cZ,cE,h.len uC,bQ,g,bK,aS,eW];exact⟨m,rfl⟩
 |cons e r R=>
  intro k j v m Y l i n f;obtain⟨j,rfl⟩:=dF i;obtain⟨g,p,t⟩:=gK l;have hk':(k:Int)<(C.length:Int):=(by omega);have ix:=h.ix Pe.len g;have u:aB 0 (.aF ((C.drop k).flatMap Pe.c))=some (.aF ((C.drop k).flatMap Pe.c)):=rfl;have J:aB 1 (.aF ((C.drop k).flatMap Pe.c))=some (.aF (((C.drop k).flatMap Pe.c).drop 1)):=rfl;have w:∀m,aA false 1 (.aF ((C.drop k).flatMap Pe.c)) m=some (T e.nm):=λm=>by rw[fT g,dN,p];rfl
  have K:∀m,aA false 1 (.aF (((C.drop k).flatMap Pe.c).drop 1)) m=some (I e.role):=λm=>by rw[fT g,dN,p];rfl
  have L:=gH k (by omega);have b:(C.take (k+1)).map Pe.nm=(C.take k).map Pe.nm++[e.nm]:=(by rw[jV g,p,kY];rfl);have o:=YY d (x:=e.nm) n (by simp;omega);simp only[Z5];unfold TC;simp only[cM,aE,aM f,bO,bA,cZ,cE,h.len uC,bQ,hk',bC,aR,ix,u,w,YX,fA,eW];rw[show uP ((C.take k).map Pe.nm) e=eK (iI e.nm ((C.take k).map Pe.nm)) (hW (wi e.role 1 3))from rfl,bu];by_cases D:nmOK e.nm=true
  .simp only[D,cC,aS,aE,aM f,bA,cZ,cE,ix,o,bV];cases Z:(((C.take k).map Pe.nm).any λy=>eS y e.nm)
   .simp only[aS,aE,aM f,bA,cZ,cE,ix,J,K,BN,fA];cases c3:wi e.role 1 3
    .simp only[bW,aR];exact⟨m,by simp[eK,hW]⟩
    .obtain⟨M,N,A,F,X,fr⟩:=n.app oF (by omega) (bytes:=16) (s0:=Y+37) (by unfold cQ;simp;omega) e.nm;rw[<-b]at F;obtain⟨P,Q⟩:=R (k+1) j M N (Y+42) t (by simp at i;omega) F (by rw[fr _ (by simp)];exact f);simp only[cC,aS,aE,u,w,D0,MN,A,dJ,L,Q];rw[b];exact⟨P,by simp[eK,hW]⟩
   .simp only[aR];exact⟨m,by simp[eK]⟩
  .have c1':nmOK e.nm=false:=(by simpa using D);simp only[c1',bW,aR];exact⟨m,by simp[eK]⟩
def x1v(d:Nat)(h:Sl Pn.c pa J)(hl:J.length<=1000):∀(a:List Pn) (k j:Nat) (v:AV) (m:Mem) (Y:Nat),J.drop k=a->a.length<j->Gr 1 tE 0 38 m v ((J.take k).map Pn.nm)->m.get (0,0,1)=some (.row [I E,I O,ba,pa,ea] 0 false) ->
    ∃L,Z4 (aG (d+3)) [] 0 j (.ptr (0,0,1) 0 0) v (I k) m Y=some (I (eW nI Pn.nm ((J.take k).map Pn.nm) a),L):=by
 intro a;induction a with
 |nil=>intro k j v m Y l g C i;obtain⟨j,rfl⟩:=dF g;have f:¬((k:Int)<(J.length:Int)):=(by have:=gX.mp l;omega);simp only[Z4];unfold TA xd;simp only[cM,aE,aM i,bO,bA,cZ,cE,h.len pL,bQ,f,bK,aS,eW];exact⟨m,rfl⟩
 |cons e r ih=>
  intro k j v m Y l g C i;obtain⟨j,rfl⟩:=dF g;obtain⟨f,F,w⟩:=gK l;have hk':(k:Int)<(J.length:Int):=(by omega);have ix:=h.ix Pn.len f;have ld:=λm=>iP (m:=m) Pn.len (by omega) f
  rw[F]at ld;obtain⟨M,R,P,W,H⟩:=pQ (u:=0) (s:=Y+10) (t:=5) (m:=m) (z:=l9) (cs:=e.c) (n:=4) (by kernel_rfl) rfl rfl;have N:M.get (0,0,1)=some (.row [I E,I O,ba,pa,ea] 0 false):=(by rw[H _ (by simp)];exact i);have g1':M.get (0,Y+10,5)=some (.row [T e.nm,I e.at_.x,I e.at_.y,I e.at_.z] 0 false):=P;have hG':Gr 1 tE 0 38 M v ((J.take k).map Pn.nm):=C.frame λs=>H _ (by simp)
  have Q:=gH k (by omega);have b:(J.take (k+1)).map Pn.nm=(J.take k).map Pn.nm++[e.nm]:=(by rw[jV f,F,kY];rfl);have o:=YY (d+2) (x:=e.nm) hG' (by simp;omega);have l3:aA true 3 (.ptr (0,Y+10,5) 0 1) M=some (.agg e.at_.c):=(by rw[aM g1'];rfl);have p:=xbm d e.at_ M;simp only[Z4];unfold TA;simp only[cM,aE,aM i,bO,bA,cZ,cE,h.len pL,bQ,hk',bC,aR,ix,ld,kA,R,aM g1',YX,fA,eW];rw[show nI ((J.take k).map Pn.nm) e=eK (iI e.nm ((J.take k).map Pn.nm)) (hW (isPl e.at_))from rfl,bu];have l3':rd true 3 [I e.at_.x,I e.at_.y,I e.at_.z]=some (.agg e.at_.c):=rfl;by_cases D:nmOK e.nm=true
  .simp only[D,cC,aS,aE,aM g1',bA,cZ,o,bV];cases c2:(((J.take k).map Pn.nm).any λy=>eS y e.nm)
   .simp only[aS,aE,l3',aM g1',bA,p,fA];cases c3:isPl e.at_
    .simp only[bW,aR];exact⟨M,by simp[eK,hW]⟩
    .obtain⟨X,Z,A,K,n1,fr⟩:=hG'.app oF (by omega) (bytes:=16) (s0:=Y+28) (by unfold cQ;simp;omega) e.nm;rw[<-b]at K;obtain⟨m2,r2⟩:=ih (k+1) j X Z (Y+33) w (by simp at g;omega) K (by rw[fr _ (by simp)];exact N);simp only[cC,aS,aE,cE,D0,MN,A,dJ,Q,r2];rw[b];exact⟨m2,by simp[eK,hW]⟩
   .simp only[aR];exact⟨M,by simp[eK]⟩
  .have c1':nmOK e.nm=false:=(by simpa using D);simp only[c1',bW,aR];exact⟨M,by simp[eK]⟩
def x1x(d:Nat)(h:Sl Bd.c ba W)(hl:W.length<=1000)(L:∀x∈W,x.cs.length<=1000):∀(a:List Bd) (k j:Nat) (v:AV) (m:Mem) (Y:Nat),W.drop k=a->a.length<j->Gr 1 tE 0 45 m v ((W.take k).map Bd.nm)->m.get (0,0,1)=some (.row [I E,I O,ba,pa,ea] 0 false) ->
    ∃N,Z6 (aG (d+4)) [] 0 j (.ptr (0,0,1) 0 0) v (I k) m Y=some (I (eW mJ Bd.nm ((W.take k).map Bd.nm) a),N):=by
 intro a;induction a with
 |nil=>intro k j v m Y l g F i;obtain⟨j,rfl⟩:=dF g;have f:¬((k:Int)<(W.length:Int)):=(by have:=gX.mp l;omega);simp only[Z6];unfold TE xh;simp only[cM,aE,aM i,bO,bA,cZ,cE,h.len qT,bQ,f,bK,aS,eW];exact⟨m,rfl⟩
 |cons e r ih=>
  intro k j v m Y l g F i;obtain⟨j,rfl⟩:=dF g;obtain⟨f,w,C⟩:=gK l;have hk':(k:Int)<(W.length:Int):=(by omega);have ix:=h.ix Bd.len f;have ld:=λm=>iP (m:=m) Bd.len (by omega) f
  rw[w]at ld;obtain⟨M,Z,Q,nn1,J⟩:=pQ (u:=0) (s:=Y+10) (t:=5) (m:=m) (z:=BI) (cs:=e.c) (n:=3) (by kernel_rfl) rfl e.one;have P:M.get (0,0,1)=some (.row [I E,I O,ba,pa,ea] 0 false):=(by rw[J _ (by simp)];exact i);have g1':M.get (0,Y+10,5)=some (.row [T e.nm,e.ca,I e.th] 0 false):=Q;have hG':Gr 1 tE 0 45 M v ((W.take k).map Bd.nm):=F.frame λs=>J _ (by simp)
  have R:=gH k (by omega);have b:(W.take (k+1)).map Bd.nm=(W.take k).map Bd.nm++[e.nm]:=(by rw[jV f,w,kY];rfl);have o:=YY (d+3) (x:=e.nm) hG' (by simp;omega);have X:=L e (w▸eX f);have p:=xno d e.ok M (by omega);simp only[Z6];unfold TE;simp only[cM,aE,aM i,bO,bA,cZ,cE,h.len qT,bQ,hk',bC,aR,ix,ld,kA,Z,aM g1',YX,fA,eW];rw[show mJ ((W.take k).map Bd.nm) e=eK (iI e.nm ((W.take k).map Bd.nm)) (eK (polyE e.cs) (hW (wi e.th 0 1000000)))from rfl,bu];by_cases H:nmOK e.nm=true
  .simp only[H,cC,aS,aE,aM g1',bA,cZ,cE,o,bV];cases c2:(((W.take k).map Bd.nm).any λy=>eS y e.nm)
   .simp only[aS,aE,aM g1',bA,cZ,cE,p,fQ];by_cases D:polyE e.cs=0
    .simp only[D,bC,cC,aS,aE,aM g1',bA,cE,BN,fA];cases c3:wi e.th 0 1000000
     .simp only[bW,aR];exact⟨M,by simp[eK,hW]⟩
     .obtain⟨v',m1,A,K,n1,fr⟩:=hG'.app oF (by omega) (bytes:=16) (s0:=Y+34) (by unfold cQ;simp;omega) e.nm;rw[<-b]at K;obtain⟨m2,r2⟩:=ih (k+1) j v' m1 (Y+39) C (by simp at g;omega) K (by rw[fr _ (by simp)];exact P);simp only[cC,aS,aE,D0,MN,A,dJ,R,r2];rw[b];exact⟨m2,by simp[eK,hW]⟩
    .simp only[D,bK,bW,aR];exact⟨M,by simp[eK,D]⟩
   .simp only[aR];exact⟨M,by simp[eK]⟩
  .have c1':nmOK e.nm=false:=(by simpa using H);simp only[c1',bW,aR];exact⟨M,by simp[eK]⟩
def xnl(d:Nat)(a:Sl Bd.c ba W)(e:Sl Pn.c pa J)(f:Sl Pe.c ea C)(i:W.length<=1000)(j:∀x∈W,x.cs.length<=1000)(m:Mem):aI (aG (d+5)) EF [.agg [I E,I O,ba,pa,ea]] m=some (I (if 6<W.length then 8 else eW mJ Bd.nm [] W),m):=by
 refine dT (by simp[a.aP,e.aP,f.aP]) ?_ m;rw[x8w];unfold ou TD;have l:[I E,I O,ba,pa,ea].all AV.one=true:=(by simp[a.one,e.one,f.one]);simp only[mem0,fN,jT,l,bB];generalize b:Mem.new _ _ _=m1;have g:m1.get (0,0,1)=some (.row [I E,I O,ba,pa,ea] 0 false):=(by rw[<-b,Mem.iB]);simp only[cM,aE,aM g,bO,bA,cZ,cE,a.len qT,gZ];by_cases h:6<W.length
 .simp only[show((6:Int)<(W.length:Int)) by omega,bC,aR,h,bV];exact RetF.st rfl rfl
 simp only[show ¬((6:Int)<(W.length:Int)) by omega,bK,aS,h,cJ];unfold xg;obtain⟨n,r⟩:=x1x d (E:=E) (O:=O) (pa:=pa) (ea:=ea) a i j W 0 NN nilS m1 (0+7+1) rfl (by rw[cU];omega) (Or.inl ⟨rfl,by simp⟩) g;rw[show I ((0:Nat):Int)=I 0 from rfl]at r;rw[r];exact RetF.st rfl rfl
def xnj(d:Nat)(e:Sl Bd.c ba W)(a:Sl Pn.c pa J)(f:Sl Pe.c ea C)(i:J.length<=1000)(m:Mem):aI (aG (d+4)) EC [.agg [I E,I O,ba,pa,ea]] m=some (I (if 8<J.length then 8 else eW nI Pn.nm [] J),m):=by
 refine dT (by simp[e.aP,a.aP,f.aP]) ?_ m;rw[x8u];unfold oq SZ;have j:[I E,I O,ba,pa,ea].all AV.one=true:=(by simp[e.one,a.one,f.one]);simp only[mem0,fN,jT,j,bB];generalize b:Mem.new _ _ _=m1;have g:m1.get (0,0,1)=some (.row [I E,I O,ba,pa,ea] 0 false):=(by rw[<-b,Mem.iB]);simp only[cM,aE,aM g,bO,bA,cZ,cE,a.len pL,gZ];by_cases h:8<J.length
 .simp only[show((8:Int)<(J.length:Int)) by omega,bC,aR,h,bV];exact RetF.st rfl rfl
 simp only[show ¬((8:Int)<(J.length:Int)) by omega,bK,aS,h,cJ];unfold xc;obtain⟨l,r⟩:=x1v d (E:=E) (O:=O) (ba:=ba) (ea:=ea) a i J 0 NN nilS m1 (0+7+1) rfl (by rw[cU];omega) (Or.inl ⟨rfl,by simp⟩) g;rw[show I ((0:Nat):Int)=I 0 from rfl]at r;rw[r];exact RetF.st rfl rfl
def xnk(d:Nat)(e:Sl Bd.c ba W)(f:Sl Pn.c pa J)(a:Sl Pe.c ea C)(j:C.length<=1000)(m:Mem):aI (aG (d+2)) ED [.agg [I E,I O,ba,pa,ea]] m=some (I (if C.length=0 then 10 else if 10<C.length then 8 else eW uP Pe.nm [] C),m):=by
 refine dT (by simp[e.aP,f.aP,a.aP]) ?_ m;rw[x8v];unfold ot TB;have l:[I E,I O,ba,pa,ea].all AV.one=true:=(by simp[e.one,f.one,a.one]);simp only[mem0,fN,jT,l,bB];generalize b:Mem.new _ _ _=m1;have g:m1.get (0,0,1)=some (.row [I E,I O,ba,pa,ea] 0 false):=(by rw[<-b,Mem.iB]);simp only[cM,aE,aM g,bO,bA,cZ,cE,a.len uC,fV];by_cases h:C.length=0
 .simp only[h,bV];exact RetF.st rfl rfl
 simp only[show ¬((C.length:Int)=0) by omega,bK,aS,h,cJ,aE,gZ];by_cases i:10<C.length
 .simp only[show((10:Int)<(C.length:Int)) by omega,bC,aR,i,bV];exact RetF.st rfl rfl
 simp only[show ¬((10:Int)<(C.length:Int)) by omega,bK,aS,i,cJ];unfold xe;obtain⟨n,r⟩:=x1w d (E:=E) (O:=O) (ba:=ba) (pa:=pa) a j C 0 NN nilS m1 (0+11+1) rfl (by rw[cU];omega) (Or.inl ⟨rfl,by simp⟩) g;rw[show I ((0:Nat):Int)=I 0 from rfl]at r;rw[r];exact RetF.st rfl rfl
def xnn(d:Nat)(a:Sl Bd.c ba W)(b:Sl Pn.c pa J)(e:Sl Pe.c ea C)(p:W.length<=1000)(r:J.length<=1000)(t:C.length<=1000)(u:∀x∈W,x.cs.length<=1000)(m:Mem) :
    aI (aG (d+6)) R3 [.agg [I E,I O,ba,pa,ea]] m=some (I (iG E O W J C),m):=by
 refine dT (by simp[a.aP,b.aP,e.aP]) ?_ m;rw[x80];unfold oz TM;have w:[I E,I O,ba,pa,ea].all AV.one=true:=(by simp[a.one,b.one,e.one]);simp only[mem0,fN,jT,w,bB];generalize h:Mem.new _ _ _=m1;have f:m1.get (0,0,1)=some (.row [I E,I O,ba,pa,ea] 0 false):=(by rw[<-h,Mem.iB]);have y:aA true 5 (.ptr (0,0,1) 0 0) m1=some (.agg [I E,I O,ba,pa,ea]):=(by rw[aM f];rfl);have g:rd true 5 [I E,I O,ba,pa,ea]=some (.agg [I E,I O,ba,pa,ea]):=rfl;unfold iG;simp only[cM,aE,aM f,bO,bA,cE,BN,fA];cases A:wi E 1 10000
 .simp only[bW,dO,hJ,dR,cC,cS,aE,cN,bB,aR,pE,fE,cJ];exact RetF.st rfl rfl
 cases o:wi O 0 2048
 .simp only[cC,dO,hJ,dR,bW,bB,aE,aM f,bA,cZ,cE,BN,o,fA,cN,cS,aR,xlh,fE,cJ];exact RetF.st rfl rfl
 simp only[cC,dO,hJ,dR,bW,bB,aE,aM f,bA,cZ,cE,BN,o,fA,cN,cS,aS,gC,bV,g,xnl d a b e p u,fQ];by_cases l:6<W.length
 .simp only[l,bV,show(!decide ((8:Int)=0))=true from rfl,aR];exact RetF.st rfl rfl
 simp only[l,cJ];by_cases i:eW mJ Bd.nm [] W=0
 .simp only[i,bC,cC,aS,y,aE,xnj (d+1) a b e r,fQ];by_cases n:8<J.length
  .simp only[n,bV,show(!decide ((8:Int)=0))=true from rfl,aR];exact RetF.st rfl rfl
  simp only[n,cJ];by_cases j:eW nI Pn.nm [] J=0
  .simp only[j,bC,cC,aS,aE,xnk (d+3) a b e t];exact RetF.st rfl rfl
  .simp only[j,bK,bW,aR];exact RetF.st rfl (by simp[eK,j])
 .simp only[i,bK,bW,aR];exact RetF.st rfl (by simp[eK,i])
end Go.Ix
namespace Go.Ix
open Go.Proofs
variable{ba pa ea:AV}{W:List Bd}{J:List Pn}{C:List Pe}{E O:Int}
def Bd.core(b:Bd):ByteArray×List Pl×Int:=(b.nm,b.cs,b.th)
def CpC(Y:Nat)(m:Mem)(a:AV)(b:List Pl):Prop:=(a=.aQ [] 0 true/\b=[])\/∃s,s<Y/\a=.sref (0,s,26) 0 0 b.length 3 true/\m.get (0,s,26)=some (.row (b.flatMap Pl.c) 0 false)
def CpC.mono{Y b:Nat}{m d:Mem}{a:AV}{e:List Pl}(h:CpC Y m a e)(g:Y<=b)(f:∀s,s<Y->d.get (0,s,26)=m.get (0,s,26)):CpC b d a e:=by
 rcases h with h|⟨s,h1,h2,h3⟩
 .exact .inl h
 .exact .inr ⟨s,by omega,h2,by rw[f s h1];exact h3⟩
def CpC.one{Y:Nat}{m:Mem}{a:AV}{b:List Pl}(h:CpC Y m a b):a.one=true/\a.cells=[a]:=by rcases h with ⟨rfl,-⟩|⟨s,-,rfl,-⟩<;>exact⟨rfl,rfl⟩
def CpC.frz{Y k:Nat}{m:Mem}{a:AV}{b:List Pl}(h:CpC Y m a b):∃d,Sl Pl.c d b/\Go.Ix.frz m.get (k+2) a=some d:=by
 rcases h with ⟨rfl,rfl⟩|⟨s,-,rfl,e⟩
 .exact⟨.aQ [] 0 true,Or.inr ⟨true,rfl⟩,rfl⟩
 .exact⟨_,Sl.lit b false,ME Pl.len Pl.bG e⟩
def qG(x:Bd×AV):List AV:=[T x.1.nm,x.2,I x.1.th]
theorem NC(x:Bd×AV):(qG x).length=3:=rfl
def yb2(l:List Bd):l.flatMap Bd.c=(l.map λb=>(b,b.ca)).flatMap qG:=by
 induction l with
 |nil=>rfl
 |cons b r a=>rw[dN,fY,dN,a];rfl
def xqg(L:List (Bd×AV))(k:Nat)(a:k<L.length)(v:AV):cR (L.flatMap qG) (k*3+1) [v]=(L.set k (L[k].1,v)).flatMap qG:=by
 induction L generalizing k with
 |nil=>simp at a
 |cons x r d=>
  cases k with
  |zero=>simp[cR,qG]
  |succ k=>have b:=d k (by simpa using a);simp only[cR,NQ,dN,List.getElem_cons_succ]at b ⊢;rw[show(k+1)*3+1=(qG x).length+(k*3+1) by rw[NC];omega,je,sB,pA,H1,lU (by omega),iX];rw[show(qG x).length+(k*3+1+[v].length)-(qG x).length=k*3+1+[v].length by omega,b]
def xav:l8=[I 0,I 0,nilS,nilS,nilS]:=by kernel_rfl
def cg{R:Type}{z:List AV}{size:Nat}{id:Id}{m:Mem}{k:AV->Mem->Option R}:dC z [] 0 size id m k=k (.aQ [] 0 true) m:=xfm
def CpL(Y:Nat)(m:Mem)(L:List (Bd×AV))(i:Nat):Prop:=∀(j:Nat) (h:j<L.length),if j<i then CpC Y m L[j].2 L[j].1.cs else L[j].2=L[j].1.ca
def xhu{k:Nat}{m:Mem}{Y:Nat}:∀{L:List (Bd×AV)},(∀x∈L,CpC Y m x.2 x.1.cs)->∃a:List Bd,a.map Bd.core=L.map (λx=>x.1.core)/\(L.flatMap qG).mapM (Go.Ix.frz m.get (k+2))=some (a.flatMap Bd.c)
 |[],_=>⟨[],rfl,rfl⟩
 |x::r,h=>by
  obtain⟨a,f,g⟩:=xhu (k:=k) (L:=r) λy b=>h y (by simp[b])
  obtain⟨i,j,l⟩:=(h x (by simp)).frz (k:=k);refine⟨⟨x.1.nm,i,x.1.cs,x.1.th,j⟩::a,by rw[fY,fY,f];rfl,?_⟩;rw[dN,dN];have d:Go.Ix.frz m.get (k+2) (T x.1.nm)=some (T x.1.nm):=rfl;have e:Go.Ix.frz m.get (k+2) (I x.1.th)=some (I x.1.th):=rfl;show([T x.1.nm,x.2,I x.1.th]++r.flatMap qG).mapM _=_;simp only[jM,iX,eG,d,e,l,g,Bd.c];rfl
def x4f{a:Id->Option Ob}{id:Id}{d b:List AV}{n z k:Nat}{f x:Bool}(h:a id=some (.row d 0 f))(e:d.length=n*z)(Z:d.mapM (Go.Ix.frz a k)=some b):Go.Ix.frz a (k+1) (.sref id 0 0 n z x)=some (.aQ b n false):=by simp only[Go.Ix.frz,h];rw[aH ⟨trivial,by omega⟩,bA,dU (by omega),Z];rfl
def BA(m:Mem)(v:AV)(L:List (Bd×AV)):Prop:=(v=.aQ [] 0 true/\L=[])\/(v=.sref (0,5,7) 0 0 L.length 3 true/\m.get (0,5,7)=some (.row (L.flatMap qG) 0 false))
def BA.frame{m m':Mem}{v:AV}{L:List (Bd×AV)}(h:BA m v L)(a:m'.get (0,5,7)=m.get (0,5,7)):BA m' v L:=by
 rcases h with h|⟨h1,h2⟩
 .exact .inl h
 .exact .inr ⟨h1,by rw[a];exact h2⟩
def BA.len{m:Mem}{v:AV}{L:List (Bd×AV)}(h:BA m v L):aN prog nC v=some (I L.length):=by rcases h with ⟨rfl,rfl⟩|⟨rfl,-⟩<;>rfl
def BA.one{m:Mem}{v:AV}{L:List (Bd×AV)}(h:BA m v L):v.one=true/\v.cells=[v]:=by rcases h with ⟨rfl,rfl⟩|⟨rfl,-⟩<;>exact⟨rfl,rfl⟩
def BA.frz{k:Nat}{m:Mem}{Y:Nat}{v:AV}{L:List (Bd×AV)}(h:BA m v L)(e:∀x∈L,CpC Y m x.2 x.1.cs):∃b a,Sl Bd.c b a/\a.map Bd.core=L.map (λx=>x.1.core)/\Go.Ix.frz m.get (k+3) v=some b:=by
 rcases h with ⟨rfl,rfl⟩|⟨rfl,i⟩
 .exact⟨.aQ [] 0 true,[],Or.inr ⟨true,rfl⟩,rfl,rfl⟩
 .obtain⟨a,d,g⟩:=xhu (k:=k) e;have f:a.length=L.length:=(by simpa using congrArg List.length d);refine⟨.aQ (a.flatMap Bd.c) L.length false,a,Or.inr ⟨false,by rw[f]⟩,d,?_⟩;exact x4f i (iE NC L) g
def BZ{m:Mem}{id:Id}{d:List AV}{a:Nat}{v:AV}(e:m.get id=some (.row d 0 false))(b:v.one=true/\v.cells=[v])(f:a<d.length):∀{R:Type} (K:Mem->Option R),aZ 1 (.ptr id 0 a) v m K=K (m.set id (.row (cR d a [v]) 0 false)):=λK=>by rw[mA (off:=a) (z:=1) (x:=v) (k:=K) e (by rw[b.2];rfl) (by omega) (by rw[b.2];simp[b.1]),b.2]
def sy(E O:Int)(W:List Bd)(J:List Pn)(C:List Pe)(r:AV):Prop:=∃a b d e,r=.agg [I E,I O,a,b,d]/\Sl Bd.c a e/\e.map Bd.core=W.map Bd.core/\Sl Pn.c b J/\Sl Pe.c d C
def xoc(t:aK){v:AV}{L:List (Bd×AV)}{Y:Nat}{m:Mem}(P:Sl Pn.c pa J)(h3:Sl Pe.c ea C)(hp:J.length<=1000000)(he:C.length<=1000000)(hL:L.map (·.1)=W)(u:BA m v L)(hc:∀x∈L,CpC Y m x.2 x.1.cs)(Q:m.get (0,0,1)=some (.row [I E,I O,v,pa,ea] 0 false))(g2:m.get (0,1,2)=some (.row l8 0 false)):RetF (sy E O W J C) (TK t [] 0 (.ptr (0,0,1) 0 0) (.ptr (0,1,2) 0 0) m Y):=by
 have hr:cQ J.length 40:=(by unfold cQ;omega);have F:cQ C.length 24:=(by unfold cQ;omega);have a1:=λm=>GP Pn.len P hr (0,Y+3,32) m
 have a2:=λm=>GP Pe.len h3 F (0,Y+7,36) m
 have D:=P.tX;obtain⟨a,l,A1,o1,M,z1⟩:∃a l,(∀{R:Type} (k:AV->Mem->Option R),cX 4 40 (0,Y+3,32) (elems m.get 4 pa) (.aQ [] 0 true) m k=k a l)/\(a.one=true/\a.cells=[a])/\(∀j:Id,j≠(0,Y+3,32)->l.get j=m.get j)/\(∀i:Mem,i.get (0,Y+3,32)=l.get (0,Y+3,32)->∃f,Sl Pn.c f J/\Go.Ix.frz i.get 5 a=some f):=by
  rcases a1 m with ⟨rfl,p⟩|⟨h0,p⟩
  .exact⟨_,m,p,⟨rfl,rfl⟩,λ_ _=>rfl,λi _=>⟨.aQ [] 0 true,Or.inr ⟨true,rfl⟩,rfl⟩⟩
  .refine⟨_,_,p,⟨rfl,rfl⟩,λj y=>Mem.qB y,λi A=>⟨_,Sl.lit J false,ME (k:=3) Pn.len Pn.bG ?_⟩⟩;rw[A,Mem.iB]
 obtain⟨ev,o,A2,o2,w,z2⟩:∃ev o,(∀{R:Type} (k:AV->Mem->Option R),cX 2 24 (0,Y+7,36) (elems l.get 2 ea) (.aQ [] 0 true) l k=k ev o)/\(ev.one=true/\ev.cells=[ev])/\(∀j:Id,j≠(0,Y+7,36)->o.get j=l.get j)/\(∀i:Mem,i.get (0,Y+7,36)=o.get (0,Y+7,36)->∃g,Sl Pe.c g C/\Go.Ix.frz i.get 5 ev=some g):=by
  rcases a2 l with ⟨rfl,p⟩|⟨h0,p⟩
  .exact⟨_,l,p,⟨rfl,rfl⟩,λ_ _=>rfl,λi _=>⟨.aQ [] 0 true,Or.inr ⟨true,rfl⟩,rfl⟩⟩
  .refine⟨_,_,p,⟨rfl,rfl⟩,λj y=>Mem.qB y,λi A=>⟨_,Sl.lit C false,ME (k:=3) Pe.len Pe.bG ?_⟩⟩;rw[A,Mem.iB]
 have Z:l.get (0,0,1)=some (.row [I E,I O,v,pa,ea] 0 false):=(by rw[M _ (by simp)];exact Q);have k2:o.get (0,0,1)=some (.row [I E,I O,v,pa,ea] 0 false):=(by rw[w _ (by simp)];exact Z);obtain⟨r,b⟩:∃r:Mem,r=o.set (0,0,1) (.row [I E,I O,v,a,ea] 0 false):=⟨_,rfl⟩;have S3:∀{R:Type} (K:Mem->Option R),aZ 1 (.ptr (0,0,1) 0 3) a o K=K r:=λK=>by rw[BZ k2 o1 (by simp),b];rfl
 have k3:r.get (0,0,1)=some (.row [I E,I O,v,a,ea] 0 false):=(by rw[b,Mem.tB]);obtain⟨n,d⟩:∃n:Mem,n=r.set (0,0,1) (.row [I E,I O,v,a,ev] 0 false):=⟨_,rfl⟩;have S4:∀{R:Type} (K:Mem->Option R),aZ 1 (.ptr (0,0,1) 0 4) ev r K=K n:=λK=>by rw[BZ k3 o2 (by simp),d];rfl
 have k4:n.get (0,0,1)=some (.row [I E,I O,v,a,ev] 0 false):=(by rw[d,Mem.tB]);have q4:n.get (0,1,2)=some (.row l8 0 false):=(by rw[d,Mem.mG (by simp),b,Mem.mG (by simp),w _ (by simp),M _ (by simp)];exact g2);have L4:aA true 5 (.ptr (0,0,1) 0 0) n=some (.agg [I E,I O,v,a,ev]):=(by rw[aM k4];rfl);obtain⟨e,h⟩:∃e:Mem,e=n.set (0,1,2) (.row [I E,I O,v,a,ev] 0 false):=⟨_,rfl⟩;have ho:=u.one;have S5:∀{R:Type} (K:Mem->Option R),aZ 5 (.ptr (0,1,2) 0 0) (.agg [I E,I O,v,a,ev]) n K=K e:=λK=>by rw[mA (off:=0) (z:=5) (x:=.agg [I E,I O,v,a,ev]) (k:=K) q4 rfl (by rw[xav];exact bT _) (by simp[ho.1,o1.1,o2.1]),h,xav];rfl
 have k5:e.get (0,1,2)=some (.row [I E,I O,v,a,ev] 0 false):=(by rw[h,Mem.tB]);have L5:gT true 5 (.ptr (0,1,2) 0 0) e=some (.agg [I E,I O,v,a,ev]):=(by show aA true 5 (.ptr (0,1,2) 0 0) e=_;rw[aM k5];rfl);have back:∀j:Id,j≠(0,0,1)->j≠(0,1,2)->j≠(0,Y+3,32)->j≠(0,Y+7,36)->e.get j=m.get j:=λj X n2 n3 n4=>by rw[h,Mem.mG n2,d,Mem.mG X,b,Mem.mG X,w j n4,M j n3]
 obtain⟨f,y1,y2⟩:=z1 e (by rw[h,Mem.mG (by simp),d,Mem.mG (by simp),b,Mem.mG (by simp),w _ (by simp)]);obtain⟨g,y3,y4⟩:=z2 e (by rw[h,Mem.mG (by simp),d,Mem.mG (by simp),b,Mem.mG (by simp)]);obtain⟨v',N,w1,w2,w3⟩:=(u.frame (m':=e) (back _ (by simp) (by simp) (by simp) (by simp))).frz (k:=2) (Y:=Y) (λx D=>(hc x D).mono (bT _) λs _=>back _ (by simp) (by simp) (by simp) (by simp));unfold TK;simp only[cg,cM,aE,bO,aM Q,cE,cZ,bA,A1,aM Z,A2,S3,S4,D];have H:(aY (some [],some [(0,Y,29)]) (tR (.ptr (0,0,1) 0 3))&&(aY (some [],some [(0,Y,29)]) (some [],some [(0,Y+4,33)])&&(aY (tR (.ptr (0,0,1) 0 3)) (some [],some [(0,Y+4,33)])&&(aY (some [],tA (0,Y+3,32) (.aQ [] 0 true)) (some [],some [(0,Y+4,33)])&&(aY (some [],some [(0,Y,29)]) (tR (.ptr (0,0,1) 0 4))&&(aY (some [],tA (0,Y+3,32) (.aQ [] 0 true)) (tR (.ptr (0,0,1) 0 4))&&(aY (some [],some [(0,Y+4,33)]) (tR (.ptr (0,0,1) 0 4))&&true)))))))=true:=(by simp[aY,tR,tA,kX]);simp only[H,bB,L4,S5,L5,aE];refine RetF.mk (a':=.agg [I E,I O,v',f,g]) ?_ ⟨v',f,g,N,rfl,w1,by rw[w2,<-hL,List.map_map];rfl,y1,y3⟩;show([I E,I O,v,a,ev].mapM (Go.Ix.frz e.get 5)).map AV.agg=_;have hi:∀z:Int,Go.Ix.frz e.get 5 (I z)=some (I z):=λ_=>rfl
 simp only[eG,fZ,hi,w3,y2,y4];rfl
def x2k(h:aK)(h2:Sl Pn.c pa J)(h3:Sl Pe.c ea C)(hp:J.length<=1000000)(he:C.length<=1000000)(H:∀b∈W,b.cs.length<=1000000)(hbl:W.length<=1000000):∀(n i j:Nat) (v:AV) (L:List (Bd×AV)) (m:Mem) (Y:Nat),i+n=L.length->n<j->L.map (·.1)=W->BA m v L->CpL Y m L i ->
    m.get (0,0,1)=some (.row [I E,I O,v,pa,ea] 0 false)->m.get (0,1,2)=some (.row l8 0 false)->RetF (sy E O W J C) (Z8 h [] 0 j (.ptr (0,0,1) 0 0) (.ptr (0,1,2) 0 0) (I i) m Y):=by
 intro n;induction n with
 |zero=>intro i j v L m Y hi M t f F u N;obtain⟨j,rfl⟩:∃i,j=i+1:=⟨j-1,by omega⟩;have o:¬((i:Int)<(L.length:Int)):=(by omega);simp only[Z8];unfold TJ;simp only[cM,aE,bO,aM u,cE,cZ,bA,f.len,bQ,o,bK,aS];refine xoc h h2 h3 hp he t f (λx hx=>?_) u N;obtain⟨q,D,rfl⟩:=xk1 hx;have:=F q D;rw[aH (by omega)]at this;exact this.mono (by omega) λ_ _=>rfl
 |succ n ih=>
  intro i j v L m Y hi M t f F u N;obtain⟨j,rfl⟩:∃i,j=i+1:=⟨j-1,by omega⟩;have a:i<L.length:=(by omega);have hLl:L.length=W.length:=(by rw[<-t,qL]);have o:((i:Int)<(L.length:Int)):=(by omega);rcases f with ⟨-,rfl⟩|⟨rfl,hg⟩
  .simp at a
  have w:=F i a;rw[aD (by omega)]at w;have P:L[i].1∈W:=(by rw[<-t];exact jh (eX a));have hw:=gH i (by omega);have ix:aT 3 (.sref (0,5,7) 0 0 L.length 3 true) (I i)=some (.ptr (0,5,7) 0 (i*3)):=(by simp[aT,dI,a]);have ld:aA false 1 (.ptr (0,5,7) 0 (i*3+1)) m=some L[i].1.ca:=(by rw[aM hg,<-xk6,zG NC,fT a,dN,<-w];rfl);have hr:cQ L[i].1.cs.length 24:=(by unfold cQ;have:=H _ P;omega);obtain⟨d,l,A1,o1,f1,z1⟩:∃d l,(∀{R:Type} (k:AV->Mem->Option R),cX 3 24 (0,Y+15,26) (elems m.get 3 L[i].1.ca) (.aQ [] 0 true) m k=k d l)/\(d.one=true/\d.cells=[d])/\(∀j:Id,j≠(0,Y+15,26)->l.get j=m.get j)/\CpC (Y+22) l d L[i].1.cs:=by
   rcases GP Pl.len L[i].1.ok hr (0,Y+15,26) m with ⟨h0,A⟩|⟨h0,A⟩
   .exact⟨_,m,A,⟨rfl,rfl⟩,λ_ _=>rfl,.inl ⟨rfl,h0⟩⟩
   .exact⟨_,_,A,⟨rfl,rfl⟩,λj M=>Mem.qB M,.inr ⟨Y+15,by omega,rfl,by rw[Mem.iB]⟩⟩
  have Q:l.get (0,5,7)=some (.row (L.flatMap qG) 0 false):=(by rw[f1 _ (by simp)];exact hg);obtain⟨r,g⟩:∃r:Mem,r=l.set (0,5,7) (.row ((L.set i (L[i].1,d)).flatMap qG) 0 false):=⟨_,rfl⟩;have S1:∀{R:Type} (K:Mem->Option R),aZ 1 (.ptr (0,5,7) 0 (i*3+1)) d l K=K r:=λK=>by rw[BZ Q o1 (by rw[iE NC];omega),xqg L i a,g]
  have p:∀j:Id,j≠(0,5,7)->j≠(0,Y+15,26)->r.get j=m.get j:=λj n1 n2=>by rw[g,Mem.mG n1,f1 j n2]
  simp only[Z8];unfold TJ;have X:=L[i].1.ok.tX;have hap:(aY (tR (.ptr (0,0,1) 0 2)) (some [],some [(0,Y+8,19)])&&(aY (some [],some [(0,Y+8,19)]) (tR (.ptr (0,0,1) 0 2))&&(aY (some [],some [(0,Y+8,19)]) (tR (.ptr (0,5,7) 0 (i*3+1)))&&(aY (tR (.ptr (0,0,1) 0 2)) (tX L[i].1.ca,tA (0,Y+15,26) (.aQ [] 0 true))&&true))))=true:=(by simp[aY,tR,tA,kX,X]);have y:aN prog nC (.sref (0,5,7) 0 0 L.length 3 true)=some (I L.length):=rfl;simp only[cM,aE,bO,aM u,cE,cZ,bA,y,bQ,o,bC,aR,cg,ix,ld,A1,S1,hap,bB,dJ,hw];have iR:(L.set i (L[i].1,d)).map (·.1)=W:=by
   rw[List.map_set,<-t];refine HH (by simp) λq A h2=>?_
   rw[List.getElem_set];split
   .rename_i e;subst e;simp
   .rfl
  refine ih (i+1) j (.sref (0,5,7) 0 0 L.length 3 true) (L.set i (L[i].1,d)) r (Y+22) (by simp;omega) (by omega) iR (.inr ⟨by simp,by rw[g,Mem.tB]⟩) (λq D=>?_) ?_ ?_
  .rw[mN]at D;by_cases e:i=q
   .subst e;rw[aH (by omega)];simp only[List.getElem_set_self];exact z1.mono (bT _) λs _=>by rw[g,Mem.mG (by simp)]
   .have:=F q D;rw[NT e];by_cases c:q<i
    .rw[aH c]at this;rw[aH (by omega)];exact this.mono (by omega) λs Z=>p _ (by simp) (by simp;omega)
    .rw[aD c]at this;rw[aD (by omega)];exact this
  .rw[p _ (by simp) (by simp)];exact u
  .rw[p _ (by simp) (by simp)];exact N
def xoz(d:Nat)(t:Sl Bd.c ba W)(u:Sl Pn.c pa J)(w:Sl Pe.c ea C)(L:W.length<=1000000)(M:J.length<=1000000)(N:C.length<=1000000)(x:∀b∈W,b.cs.length<=1000000)(m:Mem) :
    ∃a e f g,Sl Bd.c a g/\g.map Bd.core=W.map Bd.core/\Sl Pn.c e J/\Sl Pe.c f C/\aI (aG (d+1)) sP [.agg [I E,I O,ba,pa,ea]] m=some (.agg [I E,I O,a,e,f],m):=by
 have y:RetF (sy E O W J C) (aG (d+1) [] sP [.agg [I E,I O,ba,pa,ea]] mem0):=by
  rw[x8y];unfold ow TI;have Q:[I E,I O,ba,pa,ea].all AV.one=true:=(by simp[t.one,u.one,w.one]);simp only[mem0,fN,jT,Q,bB,kA];obtain⟨i,o⟩:∃i:Mem,i=((⟨[],0+1⟩:Mem).new (0,0,1) (.row [I E,I O,ba,pa,ea] 0 false)).new (0,0+1,2) (.row l8 0 false):=⟨_,rfl⟩;rw[<-o];have D:i.get (0,0,1)=some (.row [I E,I O,ba,pa,ea] 0 false):=(by rw[o];simp);have X:i.get (0,1,2)=some (.row l8 0 false):=(by rw[o];simp);have Y:cQ W.length 48:=(by unfold cQ;omega);obtain⟨v,n,A1,o1,F,z1⟩:∃v n,(∀{R:Type} (k:AV->Mem->Option R),cX 3 48 (0,5,7) (elems i.get 3 ba) (.aQ [] 0 true) i k=k v n)/\(v.one=true/\v.cells=[v])/\(∀j:Id,j≠(0,5,7)->n.get j=i.get j)/\BA n v (W.map λb=>(b,b.ca)):=by
   rcases GP Bd.len t Y (0,5,7) i with ⟨rfl,H⟩|⟨H,A⟩
   .exact⟨_,i,H,⟨rfl,rfl⟩,λ_ _=>rfl,.inl ⟨rfl,rfl⟩⟩
   .exact⟨_,_,A,⟨rfl,rfl⟩,λj P=>Mem.qB P,.inr ⟨by rw[qL],by rw[Mem.iB,yb2]⟩⟩
  have Z:n.get (0,0,1)=some (.row [I E,I O,ba,pa,ea] 0 false):=(by rw[F _ (by simp)];exact D);obtain⟨p,l⟩:∃p:Mem,p=n.set (0,0,1) (.row [I E,I O,v,pa,ea] 0 false):=⟨_,rfl⟩;have S3:∀{R:Type} (K:Mem->Option R),aZ 1 (.ptr (0,0,1) 0 2) v n K=K p:=λK=>by rw[BZ Z o1 (by simp),l];rfl
  simp only[cg,cM,aE,bO,aM D,cE,cZ,bA,A1,S3];unfold xl;exact x2k (aG d) (W:=W) u w M N x L W.length 0 NN v (W.map λb=>(b,b.ca)) p _ (by simp) (by rw[cU];omega) (by rw[List.map_map];exact List.map_id' W) (z1.frame (by rw[l,Mem.mG (by simp)])) (λq hq=>by rw[aD (by omega)];simp) (by rw[l,Mem.tB]) (by rw[l,Mem.mG (by simp),F _ (by simp)];exact X)
 obtain⟨r,⟨a,e,f,g,rfl,h⟩,hc⟩:=qF (by simp[t.aP,u.aP,w.aP]) y m;exact⟨a,e,f,g,h.1,h.2.1,h.2.2.1,h.2.2.2,hc⟩
def x5a{W a:List Bd}:∀{ns:List ByteArray},a.map Bd.core=W.map Bd.core->eW mJ Bd.nm ns a=eW mJ Bd.nm ns W:=by
 induction W generalizing a with
 |nil=>intro ns h;simp at h;subst h;rfl
 |cons b r d=>
  intro ns h;cases a with
  |nil=>simp at h
  |cons f g=>rw[fY,fY]at h;injection h with h1 h2;have e:=d (ns:=ns++[b.nm]) h2;unfold Bd.core at h1;simp only[bH]at h1;unfold eW mJ;rw[h1.1,h1.2.1,h1.2.2];unfold mJ at e;rw[e]
def xq0{W a:List Bd}(h:a.map Bd.core=W.map Bd.core):iG E O a J C=iG E O W J C:=by have b:a.length=W.length:=(by simpa using congrArg List.length h);unfold iG;rw[b,x5a h]
def xaz:jY=[.sc (.pointer none),nilS,nilS,nilS,nilS]:=by kernel_rfl
def xmu:YB=[nilS]:=by kernel_rfl
def xmy:JA=[.sc (.pointer none),nilS,.sc (.pointer none),nilS,nilS,nilS,nilS]:=by kernel_rfl
def xmx:BH=[nilS,nilS,nilS,nilS]:=by kernel_rfl
variable{ba pa ea:AV}{W:List Bd}{J:List Pn}{C:List Pe}{E O:Int}
def lP(x:ByteArray):Int->List Bd->Int
 |_,[]=>-1
 |k,b::r=>bif eS b.nm x then k else lP x (k+1) r
def xhd(x:ByteArray):∀(l:List Bd) (k:Int),lP x k l=-1\/∃i:Nat,lP x k l=k+i/\i<l.length
 |[],k=>.inl rfl
 |b::r,k=>by
  rw[lP];cases eS b.nm x with
  |true=>exact .inr ⟨0,by simp,by simp⟩
  |false=>
   rcases xhd x r (k+1)with h|⟨i,h,hi⟩
   .exact .inl h
   .exact .inr ⟨i+1,by simp only[cond_false,h];omega,by simp;omega⟩
def x2w(d:Nat){x:ByteArray}(h:Sl Bd.c ba W)(H:W.length<=1000)(u:Nat):∀(a:List Bd) (k j:Nat) (m:Mem) (Y:Nat),W.drop k=a->a.length<j ->
    ∃n,I0 (aG (d+1)) [] u j ba (.clo nN [.aF [T x]]) (I W.length) (I k) m Y=some (I (lP x k a),n):=by
 intro a;induction a with
 |nil=>intro k j m Y o i;obtain⟨j,rfl⟩:=dF i;have l:¬((k:Int)<(W.length:Int)):=(by have:=gX.mp o;omega);simp only[I0];unfold SA ww;simp only[bQ,l,bK,aE,aS,lP];exact⟨m,rfl⟩
 |cons e r F=>
  intro k j m Y o i;obtain⟨j,rfl⟩:=dF i;obtain⟨l,C,w⟩:=gK o;have hk':(k:Int)<(W.length:Int):=(by omega);have ix:=h.ix Bd.len l;have ld:=λm=>iP (m:=m) Bd.len (by omega) l
  rw[C]at ld;have y:=gH k (by omega);obtain⟨f,b⟩:∃f,fI (aG (d+1)) [] 2 (.clo nN [.aF [T x]]) [.agg e.c] m=some (B (eS e.nm x),f):=by
   show ∃f,aG (d+1) [] nN ([.agg e.c]++[.aF [T x]]) m=_;rw[jM,iX,xi9];unfold OQ II;have A:e.c.all AV.one=true:=e.one;have p:(AV.agg e.c).cells.all AV.one=true:=A;simp only[fN,p,bB];generalize E:Mem.new _ _ _=M;have g:M.get (m.next,0,2)=some (.row [T e.nm,e.ca,I e.th] 0 false):=(by rw[<-E,Mem.iB];rfl);have t:∀m,aA false 1 (.aF [T x]) m=some (T x):=λ_=>rfl
   simp only[cM,aE,bO,aM g,bA,cE,t,sF];exact⟨_,rfl⟩
  simp only[I0];unfold SA;simp only[bQ,hk',bC,aR,aE,ix,ld,b,lP];cases J:eS e.nm x with
  |true=>simp only[aR];exact⟨_,rfl⟩
  |false=>obtain⟨n,D⟩:=F (k+1) j f (Y+11) w (by simp at i;omega);simp only[aS,dJ,aE,y,D,cond_false];exact⟨n,rfl⟩
def xhx{m:Mem}{id:Id}{b:Bool}{k:Nat}(e:m.get id=some (.row [I E,I O,ba,pa,ea] 0 b))(d:[I E,I O,ba,pa,ea].all aP=true):Go.Ix.frz m.get (k+3) (.agg [.ptr id 0 0,nilS,nilS,nilS,nilS])=some (.agg [.aF [I E,I O,ba,pa,ea],nilS,nilS,nilS,nilS]):=by
 have g:[I E,I O,ba,pa,ea].mapM (Go.Ix.frz m.get (k+1))=some [I E,I O,ba,pa,ea]:=pX λa f=>tF m.get k (dG.mp d a f)
 have h:=mV e g;have i:Go.Ix.frz m.get (k+2) nilS=some nilS:=rfl;show([AV.ptr id 0 0,nilS,nilS,nilS,nilS].mapM (Go.Ix.frz m.get (k+2))).map AV.agg=_;simp only[eG,fZ,h,i];rfl
def ybl(d:Nat){x:ByteArray}{b:Bool}(h:Sl Bd.c ba W)(o:W.length<=1000)(e:[I E,I O,ba,pa,ea].all aP=true){m:Mem}{id:Id}(p:m.get id=some (.row [I E,I O,ba,pa,ea] 0 b)) :
    dZ (aG (d+3)) oO [.agg [.ptr id 0 0,nilS,nilS,nilS,nilS],T x] m=some (I (lP x 0 W),m):=by
 obtain⟨a,H⟩:∃a,aG (d+2) [] B5 [ba,.clo nN [.aF [T x]]] mem0=some (I (lP x 0 W),a):=(by obtain⟨a,r⟩:=x2w d (x:=x) h o 0 W 0 NN ⟨[],1⟩ 4 rfl (by rw[cU];omega);refine⟨a,?_⟩;rw[xi3];unfold OL HY RZ;simp only[h.len qT,aE,mem0];exact r);have f:∃l,aG (d+3) [] oO [.agg [.aF [I E,I O,ba,pa,ea],nilS,nilS,nilS,nilS],T x] mem0=some (I (lP x 0 W),l):=by
  rw[xja];unfold OR IJ;have t:(AV.agg [.aF [I E,I O,ba,pa,ea],nilS,nilS,nilS,nilS]).cells.all AV.one=true:=rfl;have g:(T x).cells.all AV.one=true:=rfl;simp only[mem0,fN,t,g,bB];generalize n:Mem.new (Mem.new _ _ _) _ _=M;have u:M.get (0,0,2)=some (.row [.aF [I E,I O,ba,pa,ea],nilS,nilS,nilS,nilS] 0 false):=(by rw[<-n,Mem.qB (by simp),Mem.iB];rfl);have w:M.get (0,1,3)=some (.row [T x] 0 false):=(by rw[<-n,Mem.iB];rfl);have y:cA (.aF [I E,I O,ba,pa,ea])=some (.aF [I E,I O,ba,pa,ea]):=rfl;have A:aB 2 (.aF [I E,I O,ba,pa,ea])=some (.aF [ba,pa,ea]):=rfl;have C:∀m,aA false 1 (.aF [ba,pa,ea]) m=some ba:=λ_=>rfl
  have D:dZ (aG (d+2)) B5 [ba,.clo nN [.ptr (0,1,3) 0 0]] M=some (I (lP x 0 W),M):=(by refine rY ?_ H rfl;have i:Go.Ix.frz M.get bL ba=some ba:=kD _ 4 h.bG;have j:Go.Ix.frz M.get 5 (.ptr (0,1,3) 0 0)=some (.aF [T x]):=mV w rfl;have F:Go.Ix.frz M.get bL (.clo nN [.ptr (0,1,3) 0 0])=some (.clo nN [.aF [T x]]):=(by show([AV.ptr (0,1,3) 0 0].mapM (Go.Ix.frz M.get 5)).map (AV.clo nN)=_;simp only[eG,fZ,j];rfl);simp only[eG,fZ,i,F];rfl);simp only[cM,aE,bO,aM u,bA,cE,y,A,C,D];exact⟨_,rfl⟩
 obtain⟨l,J⟩:=f;refine rY ?_ J rfl;have i:Go.Ix.frz m.get bL (.agg [.ptr id 0 0,nilS,nilS,nilS,nilS])=_:=xhx (k:=3) p e;have j:Go.Ix.frz m.get bL (T x)=some (T x):=rfl;simp only[eG,fZ,i,j];rfl
def xqz{i:Id}{a:List AV}{v:Nat}{h:Hp}{b:Bool}(d:fF h i=some (.row a v b)):fF (lL [i] h) i=some (.row a v true):=by rw[congrFun (w5 [i] h) i];unfold shut;simp[d]
def xqx{i j:Id}{h:Hp}(a:j≠i):fF (lL [i] h) j=fF h j:=by rw[congrFun (w5 [i] h) j];unfold shut;simp[a]
def ybb(d:Nat){i:Int}{b:Bool}(e:[I E,I O,ba,pa,ea].all aP=true){m:Mem}{id:Id}(h:m.get id=some (.row [I E,I O,ba,pa,ea] 0 b)) :
    aI (aG (d+1)) wL [.agg [.ptr id 0 0,nilS,nilS,nilS,nilS],I i] m=some (.clo oN [.aF [.aF [I E,I O,ba,pa,ea],nilS,nilS,nilS,nilS],.aF [I i]],⟨lL [id] m.hp,m.next⟩):=by
 unfold aI;have l:Go.Ix.frz m.get bL (.agg [.ptr id 0 0,nilS,nilS,nilS,nilS])=_:=xhx (k:=3) h e;have n:Go.Ix.frz m.get bL (I i)=some (I i):=rfl;have o:[AV.agg [.ptr id 0 0,nilS,nilS,nilS,nilS],I i].mapM (Go.Ix.frz m.get bL)=some [.agg [.aF [I E,I O,ba,pa,ea],nilS,nilS,nilS,nilS],I i]:=(by simp only[eG,fZ,l,n];rfl);have r0:([I E,I O,ba,pa,ea].flatMap (reach m.get 4))=[]:=(by rw[zW];exact λa j=>N2 m.get 3 (dG.mp e a j));have p:reach m.get 5 (.ptr id 0 0)=[id]:=(by show(match m.get id with|some (.row L _ _)=>id::(L.drop 0).flatMap (reach m.get 4)|_=>[id])=_;rw[h];show id::([I E,I O,ba,pa,ea].flatMap (reach m.get 4))=_;rw[r0]);have r:[AV.agg [.ptr id 0 0,nilS,nilS,nilS,nilS],I i].flatMap (reach m.get bL)=[id]:=(by have t:reach m.get bL (.agg [.ptr id 0 0,nilS,nilS,nilS,nilS])=[AV.ptr id 0 0,nilS,nilS,nilS,nilS].flatMap (reach m.get 5):=rfl;have u:reach m.get bL (I i)=[]:=rfl;have w:reach m.get 5 nilS=[]:=rfl;simp only[dN,List.flatMap_nil,t,u,p,w,jX]);have f:∃M:Mem,aG (d+1) [] wL [.agg [.aF [I E,I O,ba,pa,ea],nilS,nilS,nilS,nilS],I i] mem0=some (.clo oN [.ptr (0,0,2) 0 0,.ptr (0,1,3) 0 0],M)/\M.get (0,0,2)=some (.row [.aF [I E,I O,ba,pa,ea],nilS,nilS,nilS,nilS] 0 false)/\M.get (0,1,3)=some (.row [I i] 0 false):=(by rw[xi8];unfold OP IH;have x:(AV.agg [.aF [I E,I O,ba,pa,ea],nilS,nilS,nilS,nilS]).cells.all AV.one=true:=rfl;have g:(I i).cells.all AV.one=true:=rfl;simp only[mem0,fN,x,g,bB];exact⟨_,rfl,by rw[Mem.qB (by simp),Mem.iB];rfl,by rw[Mem.iB];rfl⟩);obtain⟨M,H,J,K⟩:=f
 have y:Go.Ix.frz M.get 5 (.ptr (0,0,2) 0 0)=some (.aF [.aF [I E,I O,ba,pa,ea],nilS,nilS,nilS,nilS]):=mV J (by
  have A:Go.Ix.frz M.get 4 (.aF [I E,I O,ba,pa,ea])=some (.aF [I E,I O,ba,pa,ea]):=rfl
  have C:Go.Ix.frz M.get 4 nilS=some nilS:=rfl
  simp only[eG,fZ,A,C];rfl)
 have D:Go.Ix.frz M.get 5 (.ptr (0,1,3) 0 0)=some (.aF [I i]):=mV K rfl;have F:Go.Ix.frz M.get bL (.clo oN [.ptr (0,0,2) 0 0,.ptr (0,1,3) 0 0])=some (.clo oN [.aF [.aF [I E,I O,ba,pa,ea],nilS,nilS,nilS,nilS],.aF [I i]]):=(by show([AV.ptr (0,0,2) 0 0,.ptr (0,1,3) 0 0].mapM (Go.Ix.frz M.get 5)).map (AV.clo oN)=_;simp only[eG,fZ,y,D];rfl);rw[o,r];simp only[H,F];rfl
def rV(b:Bd)(p:Pn):Bool:=LX b.cs p.at_
def xge{n1 n2 n3 n4:AV}(d:Nat)(id:Id)(L:id.2.2=0)(h:List AV->Mem->Option Mem)(Z:FHs)(u:Nat)(h1:Sl Bd.c ba W)(h2:Sl Pn.c pa J)(hl:J.length<=1000){i:Nat}(hi:i<W.length)(hz:polyE W[i].cs=0)(hp:∀p∈J,isPl p.at_=true)(a:Nat->Mem->Prop)(A:∀k m f,a k m->(∀j:Id,¬(j.1=u/\j.2.2=5)->f.get j=m.get j)->f.next=m.next->a k f)(N:∀k (g:k<J.length) m,rV W[i] J[k]=false->a k m->a (k+1) m)(C:∀k (g:k<J.length) m,rV W[i] J[k]=true->a k m->∃f,h [I k] m=some f/\a (k+1) f) :
    ∀(l:List Pn) (k j:Nat) (m:Mem) (Y:Nat),J.drop k=l->l.length<j->k<=J.length->a k m ->
    ∃f,AE (aG (d+6)) ((id,h)::Z) u j (.yld id) (.aF [.aF [I E,I O,ba,pa,ea],n1,n2,n3,n4]) (.aF [I i]) pa (I J.length) (I k) m Y=some (.tup [],f)/\a J.length f:=by
 intro l;induction l with
 |nil=>intro k j m Y P D Q R;obtain⟨j,rfl⟩:=dF D;have hk0:=gX.mp P;have g:¬((k:Int)<(J.length:Int)):=(by omega);simp only[AE];unfold VV;simp only[bQ,g,bK,aE,aS];have X:k=J.length:=(by omega);exact⟨m,rfl,X▸R⟩
 |cons e r ih=>
  intro k j m Y P D Q R;obtain⟨j,rfl⟩:=dF D;obtain⟨g,K,H⟩:=gK P;have hk':(k:Int)<(J.length:Int):=(by omega);have ix:=h2.ix Pn.len g;have ld:=λm=>iP (m:=m) Pn.len (by omega) g
  rw[K]at ld;obtain⟨M,s1,g1,nn1,f1⟩:=pQ (u:=u) (s:=Y+4) (t:=5) (m:=m) (z:=l9) (cs:=e.c) (n:=4) (by kernel_rfl) rfl rfl;have F:a k M:=A k m M R f1 nn1;have g1':M.get (u,Y+4,5)=some (.row [T e.nm,I e.at_.x,I e.at_.y,I e.at_.z] 0 false):=g1;have hw:=gH k (by omega);have q1:aB 0 (.aF [.aF [I E,I O,ba,pa,ea],n1,n2,n3,n4])=some (.aF [.aF [I E,I O,ba,pa,ea],n1,n2,n3,n4]):=rfl;have q2:∀m,aA false 1 (.aF [.aF [I E,I O,ba,pa,ea],n1,n2,n3,n4]) m=some (.aF [I E,I O,ba,pa,ea]):=λ_=>rfl
  have q3:cA (.aF [I E,I O,ba,pa,ea])=some (.aF [I E,I O,ba,pa,ea]):=rfl;have q4:aB 2 (.aF [I E,I O,ba,pa,ea])=some (.aF [ba,pa,ea]):=rfl;have q5:∀m,aA false 1 (.aF [ba,pa,ea]) m=some ba:=λ_=>rfl
  have q6:∀m,aA false 1 (.aF [I i]) m=some (I i):=λ_=>rfl
  have ixb:=h1.ix Bd.len hi;have x1:aB 1 (.aF ((W.drop i).flatMap Bd.c))=some (.aF (((W.drop i).flatMap Bd.c).drop 1)):=rfl;have x2:∀m,aA false 1 (.aF (((W.drop i).flatMap Bd.c).drop 1)) m=some W[i].ca:=λm=>by rw[fT hi,dN];rfl
  have l3:∀{m:Mem},m.get (u,Y+4,5)=some (.row [T e.nm,I e.at_.x,I e.at_.y,I e.at_.z] 0 false)->aA true 3 (.ptr (u,Y+4,5) 0 1) m=some (.agg e.at_.c):=λhg=>by rw[aM hg];rfl
  have hin:=λm=>xop d (W[i].ok) hz (p:=e.at_) (hp e (K▸eX g)) m
  have y0:∀b:Bool,dB (.tup [B b,I 0]) 0=some (B b):=λ_=>rfl
  have y1:∀b:Bool,dB (.tup [B b,I 0]) 1=some (I 0):=λ_=>rfl
  simp only[AE];unfold VV;simp only[bQ,hk',bC,aR,aE,ix,ld,kA,s1,q1,q2,q3,q4,q5,q6,ixb,x1,x2,cM,bO,l3 g1',hin,y0,y1];cases c:rV W[i] e
  .have o:=N k g M (by rw[K];exact c) F;obtain⟨f,r,w⟩:=ih (k+1) j M (Y+33) H (by simp at D;omega) g o;have c':LX W[i].cs e.at_=false:=c;simp only[c',gI,dO,hJ,gD,cS,aE,cN,aS,dJ,hw,r];exact⟨f,rfl,w⟩
  .obtain⟨m2,e2,o⟩:=C k g M (by rw[K];exact c) F;obtain⟨f,r,w⟩:=ih (k+1) j m2 (Y+33) H (by simp at D;omega) g o;have c':LX W[i].cs e.at_=true:=c;simp only[c',gI,dO,hJ,gD,bB,aE,x3n L,e2,Option.map_some,fA,cC,cN,aS,dJ,hw,r];exact⟨f,rfl,w⟩
def namesP(b:Bd)(J:List Pn):List ByteArray:=(J.filter (rV b)).map Pn.nm
def xzw{b:Bd}{k:Nat}(a:k<J.length)(h:rV b J[k]=true):namesP b (J.take (k+1))=namesP b (J.take k)++[J[k].nm]:=by unfold namesP;rw[jV a,tT,kY];simp[h]
def xzx{b:Bd}{k:Nat}(a:k<J.length)(h:rV b J[k]=false):namesP b (J.take (k+1))=namesP b (J.take k):=by unfold namesP;rw[jV a,tT,kY];simp[h]
def br(b:Bd)(l:List Pn):(namesP b l).length<=l.length:=by unfold namesP;rw[qL];exact HD _ _
def okN(id:Id):Prop:=id.2.2=37
structure PI (wv mg:Int) (ba pa ea:AV) (b:Bd) (pl:List Pn) (k:Nat) (m:Mem):Prop where
 s:∃f,m.get (0,0,2)=some (.row [I wv,I mg,ba,pa,ea] 0 f)
 o:∃v,m.get (0,20,9)=some (.row [v] 0 false)/\Gk 1 tE okN m v (namesP b (pl.take k))
def x30(e:aK)(Z:FHs)(t:Sl Pn.c pa J)(hl:J.length<=1000){b:Bd}(k:Nat)(l:k<J.length)(m:Mem)(u:rV b J[k]=true)(w:PI E O ba pa ea b J k m) :
    ∃o,IM e Z m.next (.ptr (0,0,2) 0 0) (.ptr (0,20,9) 0 0) (I k) ⟨m.hp,m.next+1⟩ 0=some o/\PI E O ba pa ea b J (k+1) o:=by
 obtain⟨⟨f,y⟩,v,C,G⟩:=w;obtain⟨a,g⟩:∃a:Mem,a=⟨m.hp,m.next+1⟩:=⟨_,rfl⟩;have d:∀j,a.get j=m.get j:=λj=>by rw[g];rfl
 have g1':=(d _).trans y;have g2':=(d _).trans C;have G':Gk 1 tE okN a v (namesP b (J.take k)):=G.frame λj _=>d j
 have p:(namesP b (J.take k)).length<=1000:=iW (br b _) (by simp;omega);obtain⟨i,h,A,X,Y,c2,n2,r⟩:=G'.app (bytes:=16) (id0:=(m.next,0+1+8,37)) oF (by omega) (show(37:Nat)=37 from rfl) (by unfold cQ;omega) J[k].nm;have D:h.get (0,20,9)=some (.row [v] 0 false):=(by rw[r _ (by simp[okN])];exact g2');have F:h.get (0,0,2)=some (.row [I E,I O,ba,pa,ea] 0 f):=(by rw[r _ (by simp[okN])];exact g1');have H:aA false 1 (.ptr (0,20,9) 0 0) a=some v:=(by rw[aM g2'];rfl);have L:aB 3 (.ptr (0,0,2) 0 0)=some (.ptr (0,0,2) 0 3):=rfl;have M:aA false 1 (.ptr (0,0,2) 0 3) a=some pa:=(by rw[aM g1'];rfl);have ix:=t.ix Pn.len l;have N:aB 0 (.aF ((J.drop k).flatMap Pn.c))=some (.aF ((J.drop k).flatMap Pn.c)):=rfl;have P:∀m,aA false 1 (.aF ((J.drop k).flatMap Pn.c)) m=some (T J[k].nm):=λm=>by rw[fT l,dN];rfl
 have Q:∀{R:Type} (K:Mem->Option R),aZ 1 (.ptr (0,20,9) 0 0) i h K=K (h.set (0,20,9) (.row [i] 0 false)):=λK=>BZ D ⟨c2,Y⟩ (by simp) K
 have n:(aY (tR (.ptr (0,20,9) 0 0)) (some [],some [(m.next,0+1+7,36)])&&true)=true:=(by simp[aY,tR,kX]);have W:(⟨m.hp,m.next+1⟩:Mem)=a:=g.symm;refine⟨h.set (0,20,9) (.row [i] 0 false),?_,⟨⟨f,by rw[Mem.mG (by simp)];exact F⟩,i,by rw[Mem.tB],?_⟩⟩
 .unfold IM zg;rw[W];simp only[H,aE,L,M,ix,N,P,D0,MN,A,Q,n,bB]
 .rw[xzw l u];exact X.frame λj x=>Mem.mG (by rintro rfl;simp[okN]at x)
def sM(E O:Int)(W:List Bd)(J:List Pn)(C:List Pe)(x:ByteArray):Int:=
 if iG E O W J C≠0 then iG E O W J C else if lP x 0 W<0 then 6 else 0
def yI(E O:Int)(W:List Bd)(J:List Pn)(C:List Pe)(x:ByteArray):List ByteArray:=
 if sM E O W J C x≠0 then[]else match W[(lP x 0 W).toNat]? with
  |some b=>namesP b J
  |none=>[]
def N4{a b:Int}(h:eK a b=0):a=0/\b=0:=by unfold eK at h;split at h<;>omega
def ff{α:Type}{f:List ByteArray->α->Int}{nm:α->ByteArray}:∀{l:List α} {a:List ByteArray},eW f nm a l=0->∀x∈l,∃a,f a x=0
 |[],_,_,x,b=>by simp at b
 |y::r,a,h,x,b=>by
  rw[eW]at h;obtain⟨d,e⟩:=N4 h;rcases eD.mp b with rfl|b
  .exact⟨a,d⟩
  .exact ff e x b
def xsb{b:Bool}(h:hW b=0):b=true:=by cases b<;>simp_all [hW]
def xq1(h:iG E O W J C=0):(∀b∈W,polyE b.cs=0)/\∀p∈J,isPl p.at_=true:=by
 unfold iG at h;split at h
 .split at h
  .omega
  .obtain⟨g,a⟩:=N4 h;split at a
   .omega
   .obtain⟨i,l⟩:=N4 a;refine⟨λb d=>?_,λp f=>?_⟩
    .obtain⟨j,e⟩:=ff g b d;exact(N4 (N4 e).2).1
    .obtain⟨j,e⟩:=ff i p f;exact xsb (N4 e).2
 .omega
def x31(d:Nat)(Z:FHs)(id:Id)(m:Mem):aG (d+1) Z B8 [.ptr id 0 0] m=some (.ptr (m.next,6,8) 0 0,(⟨m.hp,m.next+1⟩:Mem).new (m.next,6,8) (.row [.ptr id 0 0,nilS,.ptr id 0 0,nilS,nilS,nilS,nilS] 0 false)):=by rw[xi6];unfold ON IC;have a:cW BH []=some (.agg [nilS,nilS,nilS,nilS]):=(by rw[xmx];rfl);have b:cW jY [(0,1,.ptr id 0 0),(1,4,.agg [nilS,nilS,nilS,nilS])]=some (.agg [.ptr id 0 0,nilS,nilS,nilS,nilS]):=(by rw[xaz];rfl);have e:cW JA [(0,1,.ptr id 0 0),(2,5,.agg [.ptr id 0 0,nilS,nilS,nilS,nilS])]=some (.agg [.ptr id 0 0,nilS,.ptr id 0 0,nilS,nilS,nilS,nilS]):=(by rw[xmy];rfl);simp only[a,b,e,aE,fN];rfl
def xok(d:Nat)(L:Sl Bd.c ba W)(y:Sl Pn.c pa J)(Y:Sl Pe.c ea C)(M:W.length<=1000)(hp:J.length<=1000)(he:C.length<=1000)(hnb:∀x∈W,x.nm.size<=1000/\x.cs.length<=1000)(hnp:∀x∈J,x.nm.size<=1000)(hne:∀x∈C,x.nm.size<=1000)(x:ByteArray)(m:Mem) :
    ∃a,Sl tE a (yI E O W J C x)/\aI (aG (d+8)) C3 [.agg [I E,I O,ba,pa,ea],T x] m=some (.tup [a,I (sM E O W J C x)],m):=by
 have N:[I E,I O,ba,pa,ea].all aP=true:=(by simp[L.aP,y.aP,Y.aP]);have key:RetF (λr=>∃a,Sl tE a (yI E O W J C x)/\r=.tup [a,I (sM E O W J C x)]) (aG (d+8) [] C3 [.agg [I E,I O,ba,pa,ea],T x] mem0):=by
  rw[yac];unfold rj VZ;have ho:(AV.agg [I E,I O,ba,pa,ea]).cells.all AV.one=true:=(by rw[jT];simp[L.one,y.one,Y.one]);simp only[mem0,fN,ho,bB];generalize R:Mem.new _ _ _=m1;have hg:m1.get (0,0,2)=some (.row [I E,I O,ba,pa,ea] 0 false):=(by rw[<-R,Mem.iB];rfl);have hn1:m1.next=1:=(by rw[<-R];rfl);have l5:aA true 5 (.ptr (0,0,2) 0 0) m1=some (.agg [I E,I O,ba,pa,ea]):=(by rw[aM hg];rfl);have hcs:aI (aG (d+7)) yR [.agg [I E,I O,ba,pa,ea]] m1=some (I (iG E O W J C),m1):=xbr (d+1) L y Y M hp he hnb hnp hne m1;simp only[l5,aE,hcs,fQ];by_cases c:iG E O W J C=0;rotate_left
  .simp only[c,bK,bW,aR];have w:sM E O W J C x=iG E O W J C:=(by unfold sM;rw[aH c]);exact RetF.tup rfl ⟨nilS,by unfold yI;rw[w,aH c];exact Or.inl ⟨rfl,rfl⟩,by rw[w]⟩
  simp only[c,bC,cC,aS,x31,aE];rw[hn1];generalize X:Mem.new _ _ _=m2;have g2:m2.get (0,0,2)=some (.row [I E,I O,ba,pa,ea] 0 false):=(by rw[<-X,Mem.qB (by simp)];exact hg);have g3:m2.get (1,6,8)=some (.row [.ptr (0,0,2) 0 0,nilS,.ptr (0,0,2) 0 0,nilS,nilS,nilS,nilS] 0 false):=(by rw[<-X,Mem.iB]);have e1:cA (.ptr (1,6,8) 0 0)=some (.ptr (1,6,8) 0 0):=rfl;have e2:aB 2 (.ptr (1,6,8) 0 0)=some (.ptr (1,6,8) 0 2):=rfl;have e3:aA true 5 (.ptr (1,6,8) 0 2) m2=some (.agg [.ptr (0,0,2) 0 0,nilS,nilS,nilS,nilS]):=(by rw[aM g3];rfl);obtain⟨m3,s3,g4,n4,f4⟩:=pQ (u:=0) (s:=12) (t:=7) (m:=m2) (z:=jY) (cs:=[.ptr (0,0,2) 0 0,nilS,nilS,nilS,nilS]) (n:=5) (by rw[xaz];rfl) rfl rfl;have g5:m3.get (0,0,2)=some (.row [I E,I O,ba,pa,ea] 0 false):=(by rw[f4 _ (by simp)];exact g2);have e4:aA true 5 (.ptr (0,12,7) 0 0) m3=some (.agg [.ptr (0,0,2) 0 0,nilS,nilS,nilS,nilS]):=(by rw[aM g4];rfl);have e5:=ybl (d+4) (x:=x) L M N g5;have e0:(0:Nat)+12=12:=rfl;simp only[e1,e2,e3,aE,kA,e0,s3,e4,e5,bQ];by_cases c2:lP x 0 W<0
  .have w:sM E O W J C x=6:=(by unfold sM;rw[aD (by simp[c]),aH c2]);simp only[c2,bC,aR];exact RetF.tup rfl ⟨nilS,by unfold yI;rw[w,aH (by decide)];exact Or.inl ⟨rfl,rfl⟩,by rw[w]⟩
  have w:sM E O W J C x=0:=(by unfold sM;rw[aD (by simp[c]),aD c2]);obtain⟨i,P,Q⟩:∃i:Nat,lP x 0 W=i/\i<W.length:=by
   rcases xhd x W 0 with h|⟨i,h,Q⟩
   .omega
   .exact⟨i,by omega,Q⟩
  have eN:yI E O W J C x=namesP W[i] J:=(by unfold yI;rw[w,P,gA,eY Q];rfl);simp only[c2,bK,aS];unfold ze;obtain⟨p,e⟩:∃p:Mem,p=m3.new (0,20,9) (.row YB 0 false):=⟨_,rfl⟩;have k1:p.get (0,0,2)=some (.row [I E,I O,ba,pa,ea] 0 false):=(by rw[e,Mem.qB (by simp)];exact g5);have k2:p.get (0,12,7)=some (.row [.ptr (0,0,2) 0 0,nilS,nilS,nilS,nilS] 0 false):=(by rw[e,Mem.qB (by simp)];exact g4);have k3:p.get (0,20,9)=some (.row [nilS] 0 false):=(by rw[e,Mem.iB,xmu]);have e6:aA true 5 (.ptr (0,12,7) 0 0) p=some (.agg [.ptr (0,0,2) 0 0,nilS,nilS,nilS,nilS]):=(by rw[aM k2];rfl);have e7:=ybb (d+6) (i:=i) N k1;have e8:(0:Nat)+20=20:=rfl;simp only[e8,<-e,e6,aE,P,e7];unfold zf;simp only[rD];obtain⟨b,K⟩:∃b:Mem,b=⟨lL [(0,0,2)] p.hp,p.next⟩:=⟨_,rfl⟩;have j1:b.get (0,0,2)=some (.row [I E,I O,ba,pa,ea] 0 true):=(by rw[K];exact xqz k1);have j2:b.get (0,20,9)=some (.row [nilS] 0 false):=(by rw[K];exact(xqx (by simp)).trans k3);rw[<-K];obtain⟨hE,hN⟩:=xq1 c;have hI0:PI E O ba pa ea W[i] J 0 ⟨b.hp,b.next+1⟩:=⟨⟨true,j1⟩,nilS,j2,by rw[jB];exact Gk.nil⟩;obtain⟨H,hH⟩:∃H:List AV->Mem->Option Mem,H=λl m=>bif Nat.beq l.length 1&&true then IM (aG (d+7)) [] m.next (.ptr (0,0,2) 0 0) (.ptr (0,20,9) 0 0) (l.getD 0 U) ⟨m.hp,m.next+1⟩ 0 else none:=⟨_,rfl⟩
  have D:∀k (Z:k<J.length) m,rV W[i] J[k]=true->PI E O ba pa ea W[i] J k m->∃m',H [I k] m=some m'/\PI E O ba pa ea W[i] J (k+1) m':=λk Z m M A=>by rw[hH];exact x30 (aG (d+7)) [] y hp k Z m M A
  obtain⟨m6,r6,I6⟩:=xge (ea:=ea) (E:=E) (O:=O) d (0,0+21+3,0) rfl H [] b.next L y hp Q (hE _ (eX Q)) hN (PI E O ba pa ea W[i] J)
   (λk m m' A hf hn=>⟨by obtain⟨f,g⟩:=A.s;exact⟨f,by rw[hf _ (by simp)];exact g⟩,by obtain⟨v,g,G⟩:=A.o;exact⟨v,by rw[hf _ (by simp)];exact g,G.frame λj hj=>hf j (by rintro⟨-,h5⟩;rw[show j.2.2=37 from hj]at h5;omega)⟩⟩)
   (λk Z m M A=>⟨A.s,by obtain⟨v,g,G⟩:=A.o;exact⟨v,g,by rw[xzx Z M];exact G⟩⟩) D J 0 NN ⟨b.hp,b.next+1⟩ 7 rfl (by rw[cU];omega) (zP _) hI0
  have F:aG (d+7) [((0,0+21+3,0),H)] oN [.yld (0,0+21+3,0),.aF [.aF [I E,I O,ba,pa,ea],nilS,nilS,nilS,nilS],.aF [I i]] b=some (.tup [],m6):=by
   rw[xi7];unfold OO IG;have q1:aB 0 (.aF [.aF [I E,I O,ba,pa,ea],nilS,nilS,nilS,nilS])=some (.aF [.aF [I E,I O,ba,pa,ea],nilS,nilS,nilS,nilS]):=rfl;have q2:∀m,aA false 1 (.aF [.aF [I E,I O,ba,pa,ea],nilS,nilS,nilS,nilS]) m=some (.aF [I E,I O,ba,pa,ea]):=λ_=>rfl
   have q3:cA (.aF [I E,I O,ba,pa,ea])=some (.aF [I E,I O,ba,pa,ea]):=rfl;have q4:aB 3 (.aF [I E,I O,ba,pa,ea])=some (.aF [pa,ea]):=rfl;have q5:∀m,aA false 1 (.aF [pa,ea]) m=some pa:=λ_=>rfl
   simp only[q1,q2,q3,q4,q5,aE,y.len pL];exact r6
  rw[<-hH,F];obtain⟨v,gv,Gv⟩:=I6.o;obtain⟨v',z1,z2⟩:=Gv.frz (k:=3) oF BX;rw[GY]at z1;have lv:aA false 1 (.ptr (0,20,9) 0 0) m6=some v:=(by rw[aM gv];rfl);unfold zh;simp only[aE,lv];rw[eN,w];exact RetF.mk (xht z2 el) ⟨v',z1,rfl⟩
 obtain⟨r,⟨a,ha,rfl⟩,hc⟩:=qF (by simp[L.aP,y.aP,Y.aP,bG]) key m;exact⟨a,ha,hc⟩
def xqw{i j:Id}{a:List AV}{v:Nat}:∀{h:Hp} {b:Bool},fF h i=some (.row a v b)->∃e,fF (CH h j) i=some (.row a v e):=by
 intro h b d;have:=congrFun (w5 [j] h) i;rw[show lL [j] h=CH h j from rfl]at this;rw[this];unfold shut;split
 .rw[d];exact⟨_,rfl⟩
 .exact⟨b,d⟩
def xc3{i:Id}{e:List AV}{v:Nat}:∀(a:List Id) {h:Hp} {b:Bool},fF h i=some (.row e v b)->∃f,fF (lL a h) i=some (.row e v f)
 |[],h,b,d=>⟨b,d⟩
 |j::r,h,b,d=>by obtain⟨f,g⟩:=xqw (j:=j) d;exact xc3 r g
def ya7{a:aK}{f:FuncId}{l g:List AV}{m j:Mem}{r n:AV}(o:l.mapM (Go.Ix.frz m.get bL)=some g)(h:a [] f g mem0=some (r,j))(p:Go.Ix.frz j.get bL r=some n) :
    ∃e:Mem,aI a f l m=some (n,e)/\e.next=m.next/\∀i d v b,m.get i=some (.row d v b)->∃u,e.get i=some (.row d v u):=by
 refine⟨⟨lL (l.flatMap (reach m.get bL)) m.hp,m.next⟩,?_,rfl,λi d v b t=>xc3 _ t⟩;unfold aI;rw[o];simp only[h,p];rfl
structure Scene where
 nm:ByteArray
 day:Int
 bl:Int
def Scene.c(s:Scene):List AV:=[T s.nm,I s.day,I s.bl]
theorem Scene.len(s:Scene):s.c.length=3:=rfl
def pK:prog.underlying lX=some (.slice JK):=by kernel_rfl
def xg6:∃i,prog.info? JK=some i/\i.size=3:=by have:(prog.info? JK).map (·.size)=some 3:=(by kernel_rfl);rw[cH]at this;exact this
def IZ:qN=[T ⟨#[]⟩,I 0,I 0]:=by kernel_rfl
@[simp] theorem yd9(s:ByteArray):(T s).cells=[T s]:=rfl
@[simp] theorem ydv(s:ByteArray):(T s).one=true:=rfl
def xq9{a:AV}{l:List Scene}(h:Sl Scene.c a l){k:Nat}(d:k<=l.length)(e:l≠[]):∃b,Sl Scene.c b (l.take k)/\eP prog lX a none (some (I k))=some b:=by
 rcases h with ⟨_,rfl⟩|⟨x,rfl⟩
 .exact absurd rfl e
 obtain⟨i,n,Z⟩:=xg6;have p:=iE Scene.len l;refine⟨.aQ ((l.take k).flatMap Scene.c) (l.take k).length (x&&decide ((k:Int)=(l.length:Int))),Sl.lit _ _,?_⟩;have f:dM (.aQ (l.flatMap Scene.c) l.length x)=none:=_root_.id rfl;have g:dI (I (k:Int))=some (k:Int):=rfl;have j:dI (I 0)=some 0:=rfl;unfold eP;simp only[f,pK,n,Option.getD_some,Option.getD_none,g,j,Z,Int.sub_zero,gA,Int.toNat_zero,xF,bA];rw[aH ⟨by omega,by omega,by omega,by omega⟩,xH,xkl d];have m:∀(l:List Scene) (k:Nat),(l.flatMap Scene.c).take (k*3)=(l.take k).flatMap Scene.c:=by
  intro l;induction l with
  |nil=>intro k;simp
  |cons x r o=>
   intro k;cases k with
   |zero=>simp
   |succ k=>rw[dN,jW,dN,lR,show k*3+3=x.c.length+k*3 by rw[Scene.len];omega,je,o]
 rw[m]
def zH(nm:ByteArray):Int->List Scene->Int
 |_,[]=>-1
 |k,x::r=>bif eS x.nm nm then k else zH nm (k+1) r
def xh7(nm:ByteArray):∀(l:List Scene) (k:Int),0<=k->decide (0<=zH nm k l)=l.any λy=>eS y.nm nm
 |[],k,_=>by simp[zH]
 |x::r,k,a=>by
  rw[zH,H3];cases eS x.nm nm with
  |true=>simp[a]
  |false=>simpa using xh7 nm r (k+1) (by omega)
def ycs(d:Nat)(Z:FHs)(x y:Scene)(m:Mem):∃a,aG (d+1) Z nK [.agg x.c,.aF y.c] m=some (B (eS x.nm y.nm),a):=by rw[x7s];unfold mf QT;simp[Scene.c,sF]
def x2u(d:Nat)(Z:FHs){a:AV}{l:List Scene}{y:Scene}(h:Sl Scene.c a l)(C:l.length<1000000)(u:Nat):∀(b:List Scene) (k j:Nat) (m:Mem) (Y:Nat),l.drop k=b->b.length<j ->
    ∃o,H9 (aG (d+1)) Z u j a (.clo nK [.aF y.c]) (I l.length) (I k) m Y=some (I (zH y.nm k b),o):=by
 intro b;induction b with
 |nil=>intro k j m Y f i;obtain⟨j,rfl⟩:=dF i;have n:¬((k:Int)<(l.length:Int)):=(by have:=gX.mp f;omega);simp only[H9];unfold RU;simp[n,wo,zH]
 |cons e r A=>
  intro k j m Y f i;obtain⟨j,rfl⟩:=dF i;obtain⟨n,t,f⟩:=gK f;have hk':(k:Int)<(l.length:Int):=(by omega);have ix:=h.ix Scene.len n;have ld:=iP (m:=m) Scene.len (by omega) n;rw[t]at ld;obtain⟨p,w⟩:=ycs d Z e y m;have g:fI (aG (d+1)) Z 2 (.clo nK [.aF y.c]) [.agg e.c] m=some (B (eS e.nm y.nm),p):=w;simp only[H9];unfold RU;simp only[bQ,hk',bC,aR,aE,ix,ld,g,zH];cases D:eS e.nm y.nm with
  |true=>simp
  |false=>obtain⟨o,x⟩:=A (k+1) j p (Y+11) f (by simp at i;omega);simp(disch:=omega) [bJ];exact⟨o,by simpa using x⟩
def ycz(d:Nat){a:AV}{l:List Scene}{y:Scene}(h:Sl Scene.c a l)(f:l.length<1000000) :
    ∃b,aG (d+3) [] DV [a,.clo nK [.aF y.c]] mem0=some (B (l.any λx=>eS x.nm y.nm),b):=by
 obtain⟨b,i⟩:=x2u d [] (y:=y) h f 0 l 0 NN ⟨[],1⟩ 4 rfl (by rw[cU];omega);have g:aG (d+2) [] B4 [a,.clo nK [.aF y.c]] mem0=some (I (zH y.nm 0 l),b):=(by rw[xi2];unfold OK HX RT;simp[h.len pK,mem0];exact i);have e:=λm:Mem=>W5 (m:=m) (call:=aG (d+2)) (l:=[a,.clo nK [.aF y.c]]) (by simp only[dQ,lJ,h.bG,gO,d8];rfl) g rfl
 rw[x8f];unfold nv SI;simp[e,mem0,<-xh7 y.nm l 0 (by omega)]
def uJ(l:List Scene):Nat->List Scene->Int×Int
 |_,[]=>(0,0)
 |k,x::r=>
  bif !(nmOK x.nm)then((k:Int),4)
  else bif(l.take k).any (λy=>eS y.nm x.nm)then((k:Int),5)
  else bif !(wi x.day 0 100000)||!(wi x.bl (-100000) 100000)then((k:Int),2)
  else uJ l (k+1) r
def sI(l:List Scene):Int×Int:=bif decide (60<l.length)then(0,8)else uJ l 0 l
def x2o(d:Nat)(u:Nat){a:AV}{l:List Scene}(h:Sl Scene.c a l)(Z:l.length<=60):∀(f:List Scene) (k j:Nat) (m:Mem) (Y:Nat),l.drop k=f->f.length<j ->
    ∃i,H6 (aG (d+3)) [] u j a a (I l.length) (I k) m Y=some (.tup [I (uJ l k f).1,I (uJ l k f).2],i):=by
 intro f;induction f with
 |nil=>intro k j m Y n w;obtain⟨j,rfl⟩:=dF w;have o:¬((k:Int)<(l.length:Int)):=(by have:=gX.mp n;omega);simp only[H6];unfold QU;simp[o,vh,uJ]
 |cons e r X=>
  intro k j m Y n w;obtain⟨j,rfl⟩:=dF w;obtain⟨o,P,n⟩:=gK n;have hk':(k:Int)<(l.length:Int):=(by omega);have ix:=h.ix Scene.len o;have ld:=iP (m:=m) Scene.len (by omega) o;rw[P]at ld;obtain⟨A,g,D⟩:=xq9 h (k:=k) (by omega) (by rintro rfl;simp at o);have next:∀m Y,∃i,H6 (aG (d+3)) [] u j a a (I l.length) (I ((k:Int)+1)) m Y=some (.tup [I (uJ l (k+1) r).1,I (uJ l (k+1) r).2],i):=λm Y=>X (k+1) j m Y n (by simp at w;omega)
  simp only[H6];unfold QU;simp only[bQ,hk',bC,aR,aE,ix,ld,kA,IZ,uJ];simp[Scene.c,xn2];cases hn:nmOK e.nm with
  |false=>simp
  |true=>
   simp[D];generalize H:Mem.set _ _ _=m1;have K:m1.get (u,Y+4,5)=some (.row e.c 0 false):=(by rw[<-H];simp[Scene.c]);obtain⟨mc,E⟩:=ycz d (y:=e) g (by rw[xH];omega);have C:[A,AV.clo nK [.ptr (u,Y+4,5) 0 0]].mapM (Go.Ix.frz m1.get bL)=some [A,.clo nK [.aF e.c]]:=by
    have M:Go.Ix.frz m1.get bL A=some A:=kD _ 4 g.bG
    have h3:e.c.mapM (Go.Ix.frz m1.get 4)=some e.c:=pX λb J=>tF _ 3 (by
     simp[Scene.c]at J;rcases J with rfl|rfl|rfl<;>rfl)
    have N:Go.Ix.frz m1.get 5 (.ptr (u,Y+4,5) 0 0)=some (.aF e.c):=(by simp only[Go.Ix.frz,K,bV,bA];rfl);have O:Go.Ix.frz m1.get bL (.clo nK [.ptr (u,Y+4,5) 0 0])=some (.clo nK [.aF e.c]):=(by show([AV.ptr (u,Y+4,5) 0 0].mapM (Go.Ix.frz m1.get 5)).map (AV.clo nK)=_;simp only[eG,fZ,N];rfl);simp only[eG,fZ,M,O];rfl
   obtain⟨Q,F,_,p⟩:=ya7 C E rfl;obtain⟨b',t⟩:=p _ _ _ _ K;simp only[F,aE];cases L:(l.take k).any λx=>eS x.nm e.nm with
   |true=>simp
   |false=>
    simp[t,Scene.c,K5];cases hw:wi e.day 0 100000 with
    |false=>simp
    |true=>
     simp(disch:=omega) [t,Scene.c,xbb];cases W:wi e.bl (-100000) 100000 with
     |false=>simp
     |true=>obtain⟨i,R⟩:=next Q (Y+31);simp;exact⟨i,R⟩
def xoe(d:Nat){a:AV}{l:List Scene}(h:Sl Scene.c a l)(m:Mem):aI (aG (d+4)) P3 [a] m=some (.tup [I (sI l).1,I (sI l).2],m):=by
 obtain⟨b,e⟩:∃b,aG (d+4) [] P3 [a] mem0=some (.tup [I (sI l).1,I (sI l).2],b):=by
  rw[x7t];unfold mh QS vg sI;by_cases f:60<l.length
  .simp[h.len pK,f,show(60:Int)<l.length by omega]
  .obtain⟨b,e⟩:=x2o d 0 h (by omega) l 0 NN ⟨[],1⟩ 8 rfl (by rw[cU];omega);simp[h.len pK,f,show ¬((60:Int)<l.length) by omega,mem0];exact⟨b,e⟩
 exact tO (by simp[h.bG]) e rfl
structure Pq where
 a:Int
 b:Int
def Pq.c(p:Pq):List AV:=[I p.a,I p.b]
theorem Pq.len(p:Pq):p.c.length=2:=rfl
theorem Pq.bG(p:Pq):p.c.all aP=true:=rfl
def L0:prog.underlying o0=some (.slice lB):=by kernel_rfl
def f6:xP=[I 0,I 0]:=by kernel_rfl
def Pq.same(p q:Pq):Bool:=decide (p.a=q.a)&&decide (p.b=q.b)
def Pq.same_iff{a b:Pq}:a.same b=true↔a=b:=by cases a;cases b;simp[Pq.same]
def Pq.same_self(a:Pq):a.same a=true:=Pq.same_iff.2 rfl
def xeo(a b:Int):∀o∈[0,1],bY prog (part eE #[.int .i64 a,.int .i64 b] o)=some (.int .i64 ([a,b].getD o 0)):=by intro o d;simp only[eD,X7,or_false]at d;rcases d with rfl|rfl<;>kernel_rfl
def xxq(p q:Pq):bY prog (Op.equalIn 10000 lB (.agg [.int .i64 p.a,.int .i64 p.b].toArray) (.agg [.int .i64 q.a,.int .i64 q.b].toArray))=some (p.same q):=by refine(x5h (offs:=[0,1]) (ga:=λo=>[p.a,p.b].getD o 0) (gb:=λo=>[q.a,q.b].getD o 0) (by kernel_rfl) (by kernel_rfl) (by kernel_rfl) λo d=>⟨xeo _ _ o d,xeo _ _ o d⟩).trans ?_;simp[Pq.same,List.getD];by_cases e:p.a=q.a<;>by_cases f:p.b=q.b<;>simp[e,f]
def InB(l:List Scene):Prop:=∀s∈l,(0<=s.day/\s.day<=100000)/\(-100000<=s.bl/\s.bl<=100000)
def xda{l:List Scene}:∀(b:List Scene) (k:Nat),(uJ l k b).2=0->InB b
 |[],_,_=>λs h=>by cases h
 |x::r,k,h=>by
  simp only[uJ]at h;cases d:nmOK x.nm with
  |false=>simp[d]at h
  |true=>
   cases e:(l.take k).any λy=>eS y.nm x.nm with
   |true=>simp[d,e]at h
   |false=>
    cases f:wi x.day 0 100000 with
    |false=>simp[d,e,f]at h
    |true=>
     cases a:wi x.bl (-100000) 100000 with
     |false=>simp[d,e,f,a]at h
     |true=>
      simp[d,e,f,a]at h;have g:=xda r (k+1) h;intro s Z;rcases eD.mp Z with rfl|Z
      .exact⟨o8 f,o8 a⟩
      .exact g s Z
def xc9{l:List Scene}(h:(sI l).2=0):l.length<=60/\InB l:=by
 unfold sI at h;by_cases a:60<l.length
 .simp[a]at h
 .simp[a]at h;exact⟨by omega,xda l 0 h⟩
def InB.get{l:List Scene}(h:InB l){k:Nat}(a:k<l.length):(0<=l[k].day/\l[k].day<=100000)/\(-100000<=l[k].bl/\l[k].bl<=100000):=h _ (eX a)
def Pq.v(p:Pq):Value:=.agg [.int .i64 p.a,.int .i64 p.b].toArray
def nO(E:List (Pq×AV)):List (Value×AV):=E.map λx=>(x.1.v,x.2)
def mT:List (Pq×AV)->Pq->Option AV
 |[],_=>none
 |x::r,p=>if p.same x.1=true then some x.2 else mT r p
def KK(p q:Pq):iD p.v q.v=p.same q:=by unfold iD Pq.v Pq.same;simp[yA];by_cases h:p.a=q.a<;>by_cases d:p.b=q.b<;>simp[h,d]
def x4u(E:List (Pq×AV))(p:Pq):findKey p.v (nO E)=mT E p:=by
 induction E with
 |nil=>rfl
 |cons x r a=>unfold nO at a ⊢;simp only[fY,findKey,mT,KK];rw[a]
def xq4(E:List (Pq×AV))(p:Pq)(v:AV)(h:mT E p=none):setKey p.v v (nO E)=nO (E++[(p,v)]):=by
 induction E with
 |nil=>rfl
 |cons x r a=>
  simp only[mT]at h;unfold nO at a ⊢;simp only[fY,jM,setKey,KK];by_cases c:p.same x.1=true
  .rw[aH c]at h;cases h
  .rw[aD c]at h;rw[aD c,a h]
def x6t(p:Pq):(bY prog (Instr.checkKey true 10000 lB p.v)).isSome=true:=by kernel_rfl
def x6u(p:Pq):(bY prog (Instr.checkKey false 10000 lB p.v)).isSome=true:=by kernel_rfl
def x5b(p q:Pq):bY prog (Op.equal lB p.v q.v)=some (p.same q):=xxq p q
def xgh{d:TypeDesc}(g:prog.underlying lB=some d)(E:List (Pq×AV))(p:Pq):sV prog lB d p.v (nO E)=true:=by
 obtain⟨a,i⟩:∃a,d=.struct a:=(by have:((prog.underlying lB).bind λd=>match d with | .struct a=>some ()|_=>none)=some ():=(by kernel_rfl);rw[g]at this;cases d<;>first|exact⟨_,rfl⟩|cases this);subst i;have h:KC prog lB (.struct a) p.v (nO E)=true:=by
  show(iD p.v p.v&&((bY prog (Instr.checkKey true 10000 lB p.v)).isSome&&(bY prog (Instr.checkKey false 10000 lB p.v)).isSome) &&
   (nO E).all λe=>match e.1,bY prog (Op.equal lB p.v e.1)with
    | .agg _,some b=>b == iD p.v e.1
    |_,_=>false)=true
  rw[x6t,x6u,KK,Pq.same_self];simp only[gC,gO,dG];intro e f;unfold nO at f;obtain⟨x,-,rfl⟩:=fK.mp f;rw[x5b,KK];show(p.same x.1 == p.same x.1)=true;simp
 unfold sV;rw[h,OY]
theorem xci(p:Pq):dM (.agg p.c)=some p.v:=rfl
def xbz:∃d,prog.underlying lB=some d:=by obtain⟨d,h⟩:∃d,(prog.underlying lB).isSome=d:=⟨_,rfl⟩;have:(prog.underlying lB).isSome=true:=(by kernel_rfl);exact NL.mp this
def x1b{t a:TypeId}{z:AV}(e:prog.underlying t=some (.map lB a))(f:J9 prog a=some z)(id:Id)(E:List (Pq×AV))(p:Pq)(ok:Bool)(m:Mem)(h:m.get id=some (.map (nO E))) :
    yC prog t (.mp id) (.agg p.c) ok m=some (if ok then .tup [(mT E p).getD z,B (mT E p).isSome]else(mT E p).getD z):=by
 obtain⟨d,b⟩:=xbz;unfold yC;simp only[e,xci,b,f,sR,h];rw[aH (xgh b E p),x4u]
def xo9{R:Type}{t b:TypeId}(e:prog.underlying t=some (.map lB b))(id:Id)(E:List (Pq×AV))(p:Pq)(v:AV)(m:Mem)(k:Mem->Option R)(h:m.get id=some (.map (nO E)))(f:mT E p=none) :
    uK prog t (.mp id) (.agg p.c) v m k=k (m.set id (.map (nO (E++[(p,v)])))):=by
 obtain⟨d,a⟩:=xbz;unfold uK;simp only[e,xci,a,h];rw[aH (xgh a E p),xq4 E p v f]
def x1e(E:List (Pq×AV))(p q:Pq)(v:AV)(h:mT E p=none):mT (E++[(p,v)]) q=if q.same p=true then some v else mT E q:=by
 induction E with
 |nil=>simp[mT]
 |cons x r b=>
  simp only[mT,jM]at h ⊢;by_cases c:p.same x.1=true
  .rw[aH c]at h;cases h
  .rw[aD c]at h;rw[b h];by_cases e:q.same x.1=true
   .rw[aH e,aD,aH e];intro a;rw[Pq.same_iff]at e a c;exact c (by rw[<-a,e])
   .rw[aD e,aD e]
def y9(n:Int)(P:List Pq):Nat->List Pq->Int×Int
 |_,[]=>(0,0)
 |k,p::r=>
  bif !(wi p.a 0 (n-1))||!(wi p.b 0 (n-1))then((k:Int),6)
  else bif decide (p.b<=p.a)then((k:Int),9)
  else bif(P.take k).any (λq=>q.same p)then((k:Int),28)
  else y9 n P (k+1) r
def uS(l:List Scene)(P:List Pq):Int×Int:=bif !decide ((sI l).2=0)then sI l else bif decide (200<P.length)then(0,8)else y9 l.length P 0 P
def xl8:J9 prog vQ=some (B false):=by kernel_rfl
def xb0:prog.underlying YM=some (.map lB vQ):=by kernel_rfl
def xpw{P:List Pq}{k:Nat}(a:k<P.length)(q:Pq):(P.take (k+1)).any (λx=>x.same q)=((P.take k).any (λx=>x.same q)||P[k].same q):=by rw[jV a,xk8];simp
def xra{p q:Pq}:p.same q=q.same p:=by rw[xO,Pq.same_iff,Pq.same_iff];exact eq_comm
def xkg(P:List Pq)(k:Nat)(E:List (Pq×AV)):Prop:=∀q,mT E q=bif(P.take k).any (λx=>x.same q)then some (B true)else none
def x2x(d g:Nat){s p:AV}{l:List Scene}{P:List Pq}(Z:Sl Scene.c s l)(F:Sl Pq.c p P)(L:l.length<=60)(M:P.length<=200){T:Int×Int} :
    ∀(n k:Nat) (x:Unit) (m:Mem) (Y:Nat),k<=P.length->P.length<n+k->(m.get (0,0,1)=some (.row [s,p] 0 false)/\(∃E,m.get (0,g,24)=some (.map (nO E))/\xkg P k E)/\y9 l.length P k (P.drop k)=T) ->
    RetF (λv=>v=.tup [I T.1,I T.2]) (H7 (aG (d+2)) [] 0 n (.ptr (0,0,1) 0 0) (.mp (0,g,24)) p (I P.length) (I k) m Y):=by
 refine nQ (λn k _ m Y=>H7 (aG (d+2)) [] 0 n (.ptr (0,0,1) 0 0) (.mp (0,g,24)) p (I P.length) (I k) m Y)
  (λk _ m=>m.get (0,0,1)=some (.row [s,p] 0 false)/\(∃E,m.get (0,g,24)=some (.map (nO E))/\xkg P k E)/\y9 l.length P k (P.drop k)=T) _ ?_ ?_
 .rintro n k-m Y j ⟨t,⟨E,H,A⟩,f⟩ next;have hk':(k:Int)<(P.length:Int):=(by omega);have ix:=F.ix Pq.len j;have ld:=iP (m:=m) Pq.len (by omega) j;rw[fT j]at f;have o:=xpw j;generalize P[k]=e at ld f o;simp only[H7];unfold RC;simp only[bQ,hk',bC,aR,aE,ix,ld,kA,f6,rC,Mem.dP,bV,CA];simp(disch:=omega) [Pq.c];generalize i:Mem.set _ _ _=m1;have J:m1.get (0,0,1)=some (.row [s,p] 0 false):=(by rw[<-i];simp[t]);have K:m1.get (0,Y+4,8)=some (.row [I e.a,I e.b] 0 false):=(by rw[<-i];simp);have r:m1.get (0,g,24)=some (.map (nO E)):=(by rw[<-i];simp[H]);have u:=x1b xb0 xl8 (0,g,24) E e false m1 r;have h:=A e;simp[t,Z.len pK];rw[bJ];simp[K5];simp only[y9]at f;cases y:wi e.a 0 ((l.length:Int)-1)with
  |false=>simp[y]at f ⊢;exact RetF.tup rfl (by rw[<-f])
  |true=>
   simp[K,K5];cases C:wi e.b 0 ((l.length:Int)-1)with
   |false=>simp[y,C]at f ⊢;exact RetF.tup rfl (by rw[<-f])
   |true=>
    simp[y,C]at f;simp;by_cases w:e.b<=e.a
    .simp[w]at f ⊢;exact RetF.tup rfl (by rw[<-f])
    .simp[w]at f;simp[w];rw[show AV.agg [I e.a,I e.b]=.agg e.c from rfl,u,h];cases D:(P.take k).any λx=>x.same e with
     |true=>simp[D]at f ⊢;exact RetF.tup rfl (by rw[<-f])
     |false=>rw[D]at f h;simp;rw[xo9 xb0 (0,g,24) E e (B true) m1 _ r h];refine next () _ _ ⟨by simp[J],⟨E++[(e,B true)],by simp,λq=>?_⟩,f⟩;rw[x1e E e q _ h,o q,A q,xra (p:=e)];cases q.same e<;>cases(P.take k).any λx=>x.same q<;>rfl
 .rintro n-m Y ⟨t,-,f⟩;have j:¬((P.length:Int)<(P.length:Int)):=(by omega);simp only[H7];unfold RC vp;rw[lU (bT _)]at f;simp[j];exact RetF.tup rfl (by rw[<-f];rfl)
def xo5(d:Nat){s p:AV}{l:List Scene}{P:List Pq}(Z:Sl Scene.c s l)(b:Sl Pq.c p P)(m:Mem):aI (aG (d+5)) DO [.agg [s,p]] m=some (.tup [I (uS l P).1,I (uS l P).2],m):=by
 refine dT (by simp[Z.aP,b.aP]) ?_ m;rw[x7y];unfold mr RB uS;simp[Z.one,b.one,mem0,xoe d Z];by_cases f:(sI l).2=0
 .obtain⟨g,-⟩:=xc9 f;simp[f,b.len L0];by_cases a:200<P.length
  .have e:(200:Int)<(P.length:Int):=(by omega);simp[a,e];exact RetF.tup rfl rfl
  .have e:¬(200:Int)<(P.length:Int):=(by omega);simp[a,e,CM];unfold vo;simp[b.len L0];exact x2x (d+2) 17 Z b g (by omega) NN 0 () _ _ (by omega) (by rw[cU];omega) ⟨by simp,⟨[],by simp;rfl,λq=>by simp[mT]⟩,by simp⟩
 .simp[f];exact RetF.tup rfl rfl
def xns(d:Nat){s p:AV}{l:List Scene}{P:List Pq}(Z:Sl Scene.c s l)(a:Sl Pq.c p P)(m:Mem):aI (aG (d+6)) DI [.agg [s,p]] m=some (I (uS l P).2,m):=by refine dT (by simp[Z.aP,a.aP]) ?_ m;rw[x7g];unfold kz PV;simp[Z.one,a.one,mem0,xo5 d Z a];exact RetF.st rfl rfl
def gz{α:Type}{d:α->List AV}{z b:Nat}(j:∀x,(d x).length=z){a:AV}{l:List α}(h:Sl d a l)(g:cQ l.length b)(id:Id)(m:Mem) :
    (l=[]/\∀{R:Type} (k:AV->Mem->Option R),cX z b id (elems m.get z a) (.aQ [] 0 true) m k=k (.aQ [] 0 true) m) \/
    (l≠[]/\∀{R:Type} (k:AV->Mem->Option R),cX z b id (elems m.get z a) (.aQ [] 0 true) m k=k (.sref id 0 0 l.length z true) (m.new id (.row (l.flatMap d) 0 false))):=by
 have i:=h.elems j m.get;by_cases f:l.length=0
 .refine .inl ⟨sA.mp f,λk=>?_⟩;rw[i,NG g,fC f];rfl
 .refine .inr ⟨λe=>f (by rw[e];rfl),λk=>?_⟩;rw[i,NG g,eT f];rfl
def eg{α:Type}{b:α->List AV}{z k:Nat}(d:∀x,(b x).length=z)(Z:∀x,(b x).all aP=true){a:Id->Option Ob}{id:Id}{l:List α}{x:Bool}(e:a id=some (.row (l.flatMap b) 0 false)) :
    frz a (k+2) (.sref id 0 0 l.length z x)=some (.aQ (l.flatMap b) l.length false):=by
 have g:=iE d l
 have:=vB (aC:=a) (id:=id) (cs:=l.flatMap b) (ver:=0) (off:=0) (n:=l.length) (z:=z) (k:=k) (f:=false) (x:=x) e (by omega) (by
  rw[bA,dU (by omega)];exact rW Z l)
 rw[bA,dU (by omega)]at this;exact this
structure Sp where
 p:Int
 s:Int
def Sp.c(x:Sp):List AV:=[I x.p,I x.s]
theorem Sp.len(x:Sp):x.c.length=2:=rfl
theorem Sp.bG(x:Sp):x.c.all aP=true:=rfl
def cL(P:List Pq)(i:Int):Pq:=P.getD i.toNat ⟨0,0⟩
def fB(P:List Pq)(x:Sp):Int:=if x.s<0 then(cL P x.p).b else(cL P x.p).a
def cY(P:List Pq)(x:Sp):Int:=if x.s<0 then(cL P x.p).a else(cL P x.p).b
def Wk(P:List Pq):List Sp->Int->Int->Prop
 |[],a,b=>a=b
 |x::r,a,b=>fB P x=a/\Wk P r (cY P x) b
variable{P:List Pq}{F:List Int}
def Wk.app:∀{v w:List Sp} {a b c:Int},Wk P v a b->Wk P w b c->Wk P (v++w) a c
 |[],_,_,_,_,h,d=>by cases h;exact d
 |x::r,_,_,_,_,h,d=>⟨h.1,h.2.app d⟩
def Wk.split:∀{v w:List Sp} {a c:Int},Wk P (v++w) a c->∃b,Wk P v a b/\Wk P w b c
 |[],_,a,_,h=>⟨a,rfl,h⟩
 |x::r,_,_,_,h=>by obtain⟨b,d,e⟩:=Wk.split (v:=r) h.2;exact⟨b,⟨h.1,d⟩,e⟩
def kG(F:List Int)(x:Sp):Prop:=x.p∈F/\(x.s=1\/x.s=-1)
def AllF(F:List Int)(w:List Sp):Prop:=∀x∈w,kG F x
def AllF.tail{x:Sp}{r:List Sp}(h:AllF F (x::r)):AllF F r:=λy a=>h y (eA _ a)
def AllF.head{x:Sp}{r:List Sp}(h:AllF F (x::r)):kG F x:=h x (eO ..)
def AllF.app{v w:List Sp}(h:AllF F v)(b:AllF F w):AllF F (v++w):=λy a=>by
 rcases jC.mp a with a|a
 .exact h y a
 .exact b y a
def zF(x:Sp):Sp:=⟨x.p,-x.s⟩
def x4s{x:Sp}(h:kG F x):fB P (zF x)=cY P x:=by unfold fB cY zF;rcases h.2 with e|e<;>rw[e]<;>simp
def x4q{x:Sp}(h:kG F x):cY P (zF x)=fB P x:=by unfold fB cY zF;rcases h.2 with e|e<;>rw[e]<;>simp
def x4r{x:Sp}(h:kG F x):kG F (zF x):=by refine⟨h.1,?_⟩;unfold zF;rcases h.2 with e|e<;>rw[e]<;>simp
def Wk.back:∀{w:List Sp} {a b:Int},Wk P w a b->AllF F w->∃v,Wk P v b a/\AllF F v
 |[],_,_,h,_=>⟨[],h.symm,λ_ h=>by cases h⟩
 |x::r,_,_,h,d=>by
  obtain⟨v,f,g⟩:=Wk.back h.2 d.tail;refine⟨v++[zF x],f.app ⟨x4s d.head,?_⟩,g.app ?_⟩
  .show cY P (zF x)=_;rw[x4q d.head];exact h.1
  .intro y e;simp at e;subst e;exact x4r d.head
def HM(P:List Pq)(F:List Int):Prop:=∀i∈F,∃s:Int->Bool,s (cL P i).a≠s (cL P i).b/\∀j∈F,j≠i->s (cL P j).a=s (cL P j).b
def ZW{i:Int}{s:Int->Bool}(h:∀j∈F,j≠i->s (cL P j).a=s (cL P j).b):∀{w:List Sp} {a b:Int},Wk P w a b->AllF F w->i∉w.map Sp.p->s a=s b
 |[],_,_,d,_,_=>by cases d;rfl
 |x::r,a,b,d,f,e=>by simp only[fY,eD,not_or]at e;have g:=h x.p f.head.1 (Ne.symm e.1);have l:=ZW h d.2 f.tail e.2;rw[<-l,<-d.1];unfold fB cY;split<;>simp[g]
def xqt{i:Int}{s:Int->Bool}(h:s (cL P i).a≠s (cL P i).b){x y:Sp}(e:x.p=i)(f:y.p=i)(d:s (fB P y)=s (cY P x)):fB P y=cY P x/\cY P y=fB P x:=by
 unfold fB cY at *
 rw[e,f]at *
 by_cases g:x.s<0<;>by_cases j:y.s<0<;>simp only[g,j,bV,cJ]at*<;> first|exact⟨trivial,trivial⟩|exact⟨rfl,rfl⟩|exact absurd d h|exact absurd d (Ne.symm h)
def xqs{i:Int}{s:Int->Bool}(h:s (cL P i).a≠s (cL P i).b){x:Sp}(d:x.p=i):s (fB P x)≠s (cY P x):=by
 unfold fB cY;rw[d];split
 .exact h.symm
 .exact h
def xzl(e:HM P F){x:Sp}{r:List Sp}{a:Int}(b:Wk P (x::r) a a)(d:AllF F (x::r))(f:x.p∉r.map Sp.p):False:=by obtain⟨s,h,i⟩:=e x.p d.head.1;have g:=ZW i b.2 d.tail f;exact xqs h rfl (by rw[b.1,g])
def NB(P:List Pq):List Sp->Prop
 |[]=>True
 |[_]=>True
 |x::y::r=>cY P y≠fB P x/\NB P (y::r)
def NB.tail{x:Sp}{r:List Sp}(h:NB P (x::r)):NB P r:=by
 cases r with
 |nil=>trivial
 |cons y r=>exact h.2
def xe9(j:HM P F):∀{w:List Sp} {a b:Int},Wk P w a b->AllF F w->NB P w->(w.map Sp.p).Nodup
 |[],_,_,_,_,_=>List.nodup_nil
 |x::r,a,b,t,n,u=>by
  have f:=xe9 j t.2 n.tail u.tail;rw[fY,zR];refine⟨λA=>?_,f⟩;obtain⟨y,D,h⟩:=fK.mp A;obtain⟨i,L,rfl⟩:=List.append_of_mem D;obtain⟨c,m,o⟩:=t.2.split;obtain⟨s,E,H⟩:=j x.p n.head.1;have l:x.p∉i.map Sp.p:=(by rw[kY,zS]at f;intro d;exact f.2.2 _ d y.p (by simp) h.symm);have g:AllF F i:=λz C=>n.tail z (zU _ C)
  have e:=ZW H m g l;obtain⟨J,K⟩:=xqt E (x:=x) (y:=y) rfl h (by rw[o.1,e]);cases i with
  |nil=>exact u.1 K
  |cons z i=>
   refine xzl (r:=i) (x:=z) (a:=cY P x) j ?_ g ?_
   .have:c=cY P x:=(by rw[<-J];exact o.1.symm);rw[this]at m;exact m
   .rw[kY,zS]at f;have:=f.1;rw[fY,zR]at this;exact this.1
def xfb:∀{w:List Sp} {a b:Int},Wk P w a b->AllF F w->∃v,Wk P v a b/\AllF F v/\NB P v
 |[],_,_,h,d=>⟨[],h,d,trivial⟩
 |x::r,a,b,h,d=>by
  obtain⟨v,f,i,j⟩:=xfb h.2 d.tail;cases v with
  |nil=>exact⟨[x],⟨h.1,f⟩,λy g=>by simp at g;subst g;exact d.head,trivial⟩
  |cons y v=>
   by_cases c:cY P y=fB P x
   .refine⟨v,?_,i.tail,j.tail⟩;have:=f.2;rw[c,h.1]at this;exact this
   .refine⟨x::y::v,⟨h.1,f⟩,λz e=>?_,c,j⟩;rcases eD.mp e with rfl|e
    .exact d.head
    .exact i z e
def qW(F:List Int):List Sp:=F.flatMap λi=>[⟨i,1⟩,⟨i,-1⟩]
def mem_stepsOf{F:List Int}{x:Sp}:x∈qW F↔kG F x:=by
 unfold qW kG;rw[lS];constructor
 .rintro⟨i,a,b⟩;simp only[eD,X7,or_false]at b;rcases b with rfl|rfl
  .exact⟨a,Or.inl rfl⟩
  .exact⟨a,Or.inr rfl⟩
 .rintro⟨d,f⟩;refine⟨x.p,d,?_⟩;cases x;rcases f with e|e<;>simp at e<;>subst e<;>simp
def bo{l k:List Int}(a:l.Nodup)(h:∀x∈l,x∈k):l.length<=k.length:=by
 induction l generalizing k with
 |nil=>simp
 |cons x r e=>
  rw[zR]at a;have d:=h x (eO ..);have:=e (k:=k.erase x) a.2 λy b=>by rw[List.mem_erase_of_ne (by rintro rfl;exact a.1 b)];exact h y (eA _ b)
  rw[List.length_erase_of_mem d]at this;have f:0<k.length:=xkz d;simp only[eI];omega
def xzt(e:HM P F){w:List Sp}{a b:Int}(f:Wk P w a b)(d:AllF F w)(g:NB P w):w.length<=F.length:=by
 have:=bo (xe9 e f d g) (k:=F) λi h=>by obtain⟨x,j,rfl⟩:=fK.mp h;exact(d x j).1
 simpa using this
def mn(x y:Int):Int:=if y<x then y else x
def jH(u:List Int)(p:Pq):List Int:=u.map λx=>if x=at0 u p.a.toNat\/x=at0 u p.b.toNat then mn (at0 u p.a.toNat) (at0 u p.b.toNat)else x
def joinsM(u:List Int)(l:List Pq):List Int:=l.foldl jH u
def freshM(n:Nat):List Int:=(List.range n).map λ(i:Nat)=>(i:Int)
def PqIn(n:Nat)(p:Pq):Prop:=0<=p.a/\p.a<p.b/\p.b<n
structure Lab (n:Nat) (u:List Int):Prop where
 len:u.length=n
 ok:∀v,v<n->0<=at0 u v/\at0 u v<=v/\at0 u (at0 u v).toNat=at0 u v
def dh(u:List Int)(p:Pq):(jH u p).length=u.length:=by unfold jH;simp
def yY{u:List Int}{p:Pq}{v:Nat}(h:v<u.length):at0 (jH u p) v=if at0 u v=at0 u p.a.toNat\/at0 u v=at0 u p.b.toNat then mn (at0 u p.a.toNat) (at0 u p.b.toNat)else at0 u v:=by rw[fD (by rw[dh];exact h),fD h];unfold jH;rw[X8]
def bx(a b:Int):mn a b=a/\a<=b\/mn a b=b/\b<a:=by
 unfold mn;split
 .right;exact⟨rfl,by assumption⟩
 .left;exact⟨rfl,by omega⟩
def Lab.fresh(n:Nat):Lab n (freshM n):=by
 refine⟨by simp[freshM],λv a=>?_⟩;have:∀w,w<n->at0 (freshM n) w=w:=λw b=>by rw[fD (by simpa[freshM]using b)];simp[freshM]
 rw[this v a];refine⟨by omega,by omega,?_⟩;rw[gA,this v a]
def Lab.GB{n v:Nat}(h:v<n):at0 (freshM n) v=v:=by rw[fD (by simpa[freshM]using h)];simp[freshM]
def Lab.lt{n:Nat}{u:List Int}(h:Lab n u){v:Nat}(a:v<n):(at0 u v).toNat<n:=by have:=h.ok v a;omega
def Lab.join{n:Nat}{u:List Int}(h:Lab n u){p:Pq}(i:PqIn n p):Lab n (jH u p):=by
 obtain⟨o,r,t⟩:=i;have j:=h.ok p.a.toNat (by omega);have l:=h.ok p.b.toNat (by omega);refine⟨by rw[dh];exact h.len,λv f=>?_⟩;have ev:=h.ok v f;rw[yY (by rw[h.len];exact f)];obtain⟨m,g⟩:∃m,m=mn (at0 u p.a.toNat) (at0 u p.b.toNat):=⟨_,rfl⟩;have d:=bx (at0 u p.a.toNat) (at0 u p.b.toNat);rw[<-g]at d ⊢;by_cases c:at0 u v=at0 u p.a.toNat\/at0 u v=at0 u p.b.toNat
 .rw[aH c];refine⟨by omega,by omega,?_⟩;rw[yY (by rw[h.len];omega),<-g];have:at0 u m.toNat=at0 u p.a.toNat\/at0 u m.toNat=at0 u p.b.toNat:=by
   rcases d with ⟨e,-⟩|⟨e,-⟩
   .rw[e,j.2.2];exact Or.inl rfl
   .rw[e,l.2.2];exact Or.inr rfl
  rw[aH this]
 .rw[aD c];refine⟨ev.1,ev.2.1,?_⟩;rw[yY (by rw[h.len];omega),ev.2.2,aD c]
def Lab.joins{n:Nat}:∀{l:List Pq} {u:List Int},Lab n u->(∀p∈l,PqIn n p)->Lab n (joinsM u l)
 |[],_,h,_=>h
 |p::l,u,h,a=>Lab.joins (l:=l) (h.join (a p (eO ..))) λq b=>a q (eA _ b)
def Sm(u:List Int)(v w:Nat):Prop:=at0 u v=at0 u w
def x3b(x y a b m:Int)(f:m=a/\a<=b\/m=b/\b<a):((if x=a\/x=b then m else x)=(if y=a\/y=b then m else y))↔(x=y\/(x=a/\y=b)\/(x=b/\y=a)):=by by_cases d:x=a\/x=b<;>by_cases e:y=a\/y=b<;>(first|rw[aH d]|rw[aD d])<;>(first|rw[aH e]|rw[aD e])<;>omega
def de{n:Nat}{u:List Int}{p:Pq}(h:Lab n u){v w:Nat}(d:v<n)(e:w<n) :
    Sm (jH u p) v w↔Sm u v w\/(Sm u v p.a.toNat/\Sm u w p.b.toNat)\/(Sm u v p.b.toNat/\Sm u w p.a.toNat):=by
 unfold Sm;rw[yY (by rw[h.len];exact d),yY (by rw[h.len];exact e)];exact x3b _ _ _ _ _ (bx _ _)
def xgp(u:List Int)(l k:List Pq):joinsM u (l++k)=joinsM (joinsM u l) k:=by unfold joinsM;rw[HF]
def x29{n:Nat}{u:List Int}{p:Pq}(h:Lab n u){v w:Nat}(a:v<n)(b:w<n)(e:Sm u v w):Sm (jH u p) v w:=(de h a b).mpr (Or.inl e)
def xgm{n:Nat}:∀{l:List Pq} {u:List Int},Lab n u->(∀p∈l,PqIn n p)->∀{v w:Nat},v<n->w<n->Sm u v w->Sm (joinsM u l) v w
 |[],_,_,_,_,_,_,_,e=>e
 |p::l,u,h,a,v,w,b,d,e=>xgm (l:=l) (h.join (a p (eO ..))) (λq f=>a q (eA _ f)) b d (x29 h b d e)
def x3a{n:Nat}{u:List Int}{p:Pq}(h:Lab n u)(d:PqIn n p):Sm (jH u p) p.a.toNat p.b.toNat:=by obtain⟨e,f,g⟩:=d;exact(de h (by omega) (by omega)).mpr (Or.inr (Or.inl ⟨rfl,rfl⟩))
def D4{n:Nat}:∀{l:List Pq} {u:List Int},Lab n u->(∀p∈l,PqIn n p)->∀p∈l,Sm (joinsM u l) p.a.toNat p.b.toNat
 |[],_,_,_,p,d=>by cases d
 |q::l,u,h,d,p,f=>by
  have e:=d q (eO ..);have g:∀p∈l,PqIn n p:=λp h=>d p (eA _ h)
  rcases eD.mp f with rfl|f
  .have:PqIn n p:=e;obtain⟨i,j,m⟩:=e;exact xgm (l:=l) (h.join this) g (by omega) (by omega) (x3a h this)
  .exact D4 (h.join e) g p f
def dd{n:Nat}{R:Nat->Nat->Prop}(Z:∀{a b},R a b->R b a)(f:∀{a b c},R a b->R b c->R a c):∀{l:List Pq} {u:List Int},Lab n u->(∀p∈l,PqIn n p)->(∀p∈l,R p.a.toNat p.b.toNat)->(∀v w,v<n->w<n->Sm u v w->R v w)->∀v w,v<n->w<n->Sm (joinsM u l) v w->R v w
 |[],_,_,_,_,h=>h
 |p::l,u,h,o,r,g=>by
  have d:=o p (eO ..);refine dd (R:=R) Z f (l:=l) (h.join d) (λq d=>o q (eA _ d)) (λq d=>r q (eA _ d)) λv w i j e=>?_
  obtain⟨t,x,y⟩:=d;have m:=r p (eO ..);rcases(de h i j).mp e with e|⟨e1,e2⟩|⟨e1,e2⟩
  .exact g v w i j e
  .exact f (g v _ i (by omega) e1) (f m (Z (g w _ j (by omega) e2)))
  .exact f (g v _ i (by omega) e1) (f (Z m) (Z (g w _ j (by omega) e2)))
def Lab.ext{n:Nat}{u t:List Int}(h:Lab n u)(k:Lab n t)(e:∀v w,v<n->w<n->(Sm u v w↔Sm t v w)):u=t:=by
 apply HH
 .rw[h.len,k.len]
 .intro v d f;rw[h.len]at d;rw[<-fD,<-fD];have a:=h.ok v d;have b:=k.ok v d;have g:at0 t (at0 u v).toNat=at0 t v:=(e _ v (by omega) d).mp (by unfold Sm;exact a.2.2);have i:at0 u (at0 t v).toNat=at0 u v:=(e _ v (by omega) d).mpr (by unfold Sm;exact b.2.2);have j:=k.ok (at0 u v).toNat (by omega);have l:=h.ok (at0 t v).toNat (by omega);omega
def Indep(u:List Int):List Pq->Prop
 |[]=>True
 |p::l=>¬Sm u p.a.toNat p.b.toNat/\Indep (jH u p) l
def Indep.app{u:List Int}:∀{l k:List Pq} ,Indep u (l++k)↔Indep u l/\Indep (joinsM u l) k:=by
 intro l;induction l generalizing u with
 |nil=>intro k;simp[Indep,joinsM]
 |cons p l a=>intro k;simp only[jM,Indep];rw[a];simp[joinsM,and_assoc]
def rF(n:Nat)(u:List Int):Nat:=((List.range n).filter λ(v:Nat)=>decide (at0 u v=(v:Int))).length
def x6e{n:Nat}{p q:Nat->Bool}{w:Nat}(g:w<n)(b:p w=true)(d:q w=false)(h:∀v,v<n->v≠w->p v=q v):((List.range n).filter p).length=((List.range n).filter q).length+1:=by
 induction n with
 |zero=>omega
 |succ n f=>
  rw[qK,tT,tT,jL,jL];by_cases c:w=n
  .subst c;have e:(List.range w).filter p=(List.range w).filter q:=(by apply List.filter_congr;intro v a;have:=iC.mp a;exact h v (by omega) (by omega));rw[e];simp[b,d]
  .have:=f (by omega) λv a=>h v (by omega)
   have e:=h n (by omega) (by omega);simp only[jm,e,List.filter_nil];omega
def df{n:Nat}{u:List Int}{p:Pq}(h:Lab n u)(l:PqIn n p)(i:¬Sm u p.a.toNat p.b.toNat):rF n u=rF n (jH u p)+1:=by
 have hp':=l;obtain⟨t,x,y⟩:=l;have f:=h.ok p.a.toNat (by omega);have g:=h.ok p.b.toNat (by omega);unfold Sm at i;have j:=bx (at0 u p.a.toNat) (at0 u p.b.toNat);obtain⟨w,o⟩:∃w:Int,w=if at0 u p.b.toNat<at0 u p.a.toNat then at0 u p.a.toNat else at0 u p.b.toNat:=⟨_,rfl⟩
 have d:w=at0 u p.a.toNat/\at0 u p.b.toNat<at0 u p.a.toNat\/w=at0 u p.b.toNat/\at0 u p.a.toNat<at0 u p.b.toNat:=(by rw[o];split<;>omega);unfold rF;refine x6e (w:=w.toNat) (by omega) ?_ ?_ λv r m=>?_
 .rw[fj];rcases d with ⟨e,-⟩|⟨e,-⟩
  .rw[e,f.2.2];omega
  .rw[e,g.2.2];omega
 .rw[decide_eq_false_iff_not,yY (by rw[h.len];omega)];have:at0 u w.toNat=w:=by
   rcases d with ⟨e,-⟩|⟨e,-⟩
   .rw[e];exact f.2.2
   .rw[e];exact g.2.2
  rw[this,aH (by omega)];omega
 .rw[xO,fj,fj,yY (by rw[h.len];omega)];by_cases c:at0 u v=at0 u p.a.toNat\/at0 u v=at0 u p.b.toNat
  .rw[aH c];constructor
   .intro e;omega
   .intro e;rcases j with ⟨q,-⟩|⟨q,-⟩
    .rw[q]at e;rw[e]at f;have:=f.2.2;simpa using this
    .rw[q]at e;rw[e]at g;have:=g.2.2;simpa using this
  .rw[aD c]
def LW{n:Nat}:∀{l:List Pq} {u:List Int},Lab n u->(∀p∈l,PqIn n p)->Indep u l->rF n u=rF n (joinsM u l)+l.length
 |[],_,_,_,_=>rfl
 |p::l,u,h,b,d=>by have a:=b p (eO ..);have:=LW (h.join a) (λq a=>b q (eA _ a)) d.2;have f:=df h a d.1;have e:joinsM u (p::l)=joinsM (jH u p) l:=rfl;rw[e,eI];omega
def xd2(n:Nat):rF n (freshM n)=n:=by unfold rF;have:(List.range n).filter (λ(v:Nat)=>decide (at0 (freshM n) v=(v:Int)))=List.range n:=(by rw[HG];intro v a;rw[Lab.GB (iC.mp a)];simp);rw[this,List.length_range]
variable{P:List Pq}
def prs(P:List Pq)(F:List Int):List Pq:=F.map (cL P)
structure For (n:Nat) (P:List Pq) (F:List Int):Prop where
 rng:∀i∈F,0<=i/\i<P.length
 nod:F.Nodup
 ind:Indep (freshM n) (prs P F)
def LF{n:Nat}(a:∀p∈P,PqIn n p){i:Int}(h:0<=i/\i<P.length):PqIn n (cL P i):=by unfold cL;have:i.toNat<P.length:=(by omega);rw[eU,eY this];exact a _ (eX this)
def pP{n:Nat}(a:∀p∈P,PqIn n p){F:List Int}(h:∀i∈F,0<=i/\i<P.length):∀p∈prs P F,PqIn n p:=λp b=>by obtain⟨i,d,rfl⟩:=fK.mp b;exact LF a (h i d)
def For.take{n:Nat}{F G:List Int}(h:For n P (F++G)):For n P F:=by refine⟨λi a=>h.rng i (zU _ a),(zS.mp h.nod).1,?_⟩;have:=h.ind;unfold prs at this;rw[kY]at this;exact(Indep.app.mp this).1
def For.cut{n:Nat}(A:∀p∈P,PqIn n p){F:List Int}(h:For n P F):HM P F:=by
 have o:∀(k:Nat) (F:List Int),F.length=k->For n P F->HM P F:=by
  intro k;induction k with
  |zero=>intro F r _ i m;rw[sA.mp r]at m;cases m
  |succ k D=>
   intro F r h;obtain⟨G,q,rfl⟩:∃G q,F=G++[q]:=(by have f:F≠[]:=(by rintro rfl;simp at r);exact⟨F.dropLast,F.getLast f,(jn f).symm⟩);have w:=h.take;have C:=D G (by simpa using r) w;obtain⟨u,x⟩:∃u,u=joinsM (freshM n) (prs P G):=⟨_,rfl⟩;have l:=h.ind;unfold prs at l;rw[kY]at l;have f:¬Sm u (cL P q).a.toNat (cL P q).b.toNat:=(by have:=(Indep.app.mp l).2;rw[show List.map (cL P) [q]=[cL P q]from rfl]at this;rw[x];exact this.1);have e:∀j∈G,Sm u (cL P j).a.toNat (cL P j).b.toNat:=λj d=>by rw[x];exact D4 (Lab.fresh n) (pP A w.rng) _ (fK.mpr ⟨j,d,rfl⟩)
   unfold Sm at f e;intro i m;rcases jC.mp m with m|m
   .obtain⟨s,t,y⟩:=C i m;by_cases c:s (cL P q).a=s (cL P q).b
    .refine⟨s,t,λj d g=>?_⟩;rcases jC.mp d with d|d
     .exact y j d g
     .simp at d;subst d;exact c
    .refine⟨λv=>if at0 u v.toNat=at0 u (cL P q).b.toNat then !(s v)else s v,?_,λj d g=>?_⟩
     .have:=e i m;simp only
      rw[this];split
      .simpa using t
      .exact t
     .simp only
      rcases jC.mp d with d|d
      .have:=e j d;rw[this,y j d g]
      .simp at d;subst d;rw[aD f,aH rfl];cases E:s (cL P j).a<;>cases H:s (cL P j).b<;>simp_all
   .simp at m;subst m;refine⟨λv=>decide (at0 u v.toNat=at0 u (cL P i).a.toNat),?_,λj d g=>?_⟩
    .simp[Ne.symm f]
    .rcases jC.mp d with d|d
     .simp only;rw[e j d]
     .simp at d;exact absurd d g
 exact o _ F rfl h
def xgq{n:Nat}(u:∀p∈P,PqIn n p){F:List Int}(y:∀i∈F,0<=i/\i<P.length):∀{v w:Nat},v<n->w<n->Sm (joinsM (freshM n) (prs P F)) v w->∃l,Wk P l v w/\AllF F l:=by
 intro v w o r Z;let R:Nat->Nat->Prop:=λv w=>∃l,Wk P l v w/\AllF F l
 have d:∀{a b},R a b->R b a:=λ⟨l,f,g⟩=>(by obtain⟨v,j,m⟩:=f.back g;exact⟨v,j,m⟩);have t:∀{a b c},R a b->R b c->R a c:=λ⟨l,f,g⟩ ⟨k,j,m⟩=>⟨l++k,f.app j,g.app m⟩;refine dd (R:=R) d t (Lab.fresh n) (pP u y) (λp D=>?_) (λv w o r e=>?_) v w o r Z
 .obtain⟨i,C,rfl⟩:=fK.mp D;have E:=LF u (y i C);obtain⟨H,f,g⟩:=E;refine⟨[⟨i,1⟩],⟨?_,?_⟩,λx A=>?_⟩
  .unfold fB;simp;omega
  .show cY P ⟨i,1⟩=_;unfold cY;simp;omega
  .simp at A;subst A;exact⟨C,Or.inl rfl⟩
 .unfold Sm at e;rw[Lab.GB o,Lab.GB r]at e;exact⟨[],by show(v:Int)=w;exact e,λ_ h=>by cases h⟩
def For.len{n:Nat}(a:∀p∈P,PqIn n p){F:List Int}(h:For n P F):F.length<=n:=by have:=LW (Lab.fresh n) (pP a h.rng) h.ind;rw[xd2]at this;have e:(prs P F).length=F.length:=(by unfold prs;simp);omega
def Gk.len{α:Type}{z:Nat}{b:α->List AV}{l:List α}{a:AV}{ok:Id->Prop}{m:Mem}{y e:TypeId}(d:prog.underlying y=some (.slice e))(h:Gk z b ok m a l):aN prog y a=some (I l.length):=by
 rcases h with ⟨rfl,rfl⟩|⟨id,f,_,rfl,g⟩
 .exact FT d
 .rfl
def Gk.at{a:AV}{l:List Int}{ok:Id->Prop}{m:Mem}(h:Gk 1 intE ok m a l){k:Int}(p:0<=k)(n:k<l.length) :
    ∃q,aT 1 a (I k)=some q/\aA false 1 q m=some (I (at0 l k.toNat))/\∀v:Int,∃g,(∀{R:Type} (K:Mem->Option R),aZ 1 q (I v) m K=K g)/\Gk 1 intE ok g a (l.set k.toNat v)/\g.next=m.next/\∀j,¬ok j->g.get j=m.get j:=by
 rcases h with ⟨rfl,rfl⟩|⟨id,d,e,rfl,o⟩
 .simp at n;omega
 .have b:k.toNat<l.length:=(by omega);refine⟨.ptr id d k.toNat,?_,?_,λv=>⟨m.set id (.row ((l.set k.toNat v).flatMap intE) d false),λK=>?_,Or.inr ⟨id,d,e,by simp,by simp⟩,rfl,λj r=>?_⟩⟩
  .simp[aT,dI,p,n]
  .rw[aM o,rd,aD (by simp),U9,<-List.map_drop,fT b,fD b];rfl
  .rw[mA (z:=1) (x:=I v) (k:=K) o rfl (by rw[D5];omega) rfl];congr 3;simp only[U9,cR,gf];rw[List.map_set,jf,aH (by simpa using b)];simp
  .rw[Mem.cP,aD (by rintro rfl;exact r e)]
def x0v{l X:List Int}(b:X.length=l.length){k:Nat}(a:k<l.length):at0 (X.take k++l.drop k) k=at0 l k:=by rw[fD (by simp;omega),fD a,xk2 (by simp;omega)];simp[b,xkl (Nat.le_of_lt a)]
def x0s{l X:List Int}(d:X.length=l.length){k:Nat}(a:k<l.length):(X.take k++l.drop k).set k (at0 X k)=X.take (k+1)++l.drop (k+1):=by have b:(X.take k).length=k:=(by simp;omega);rw[List.set_append,aD (by omega),b,Nat.sub_self,fT a,List.set_cons_zero,jV (by omega),fD (by omega),sB];rfl
def x0u{l X:List Int}(b:X.length=l.length){k:Nat}(a:k<l.length)(h:at0 X k=at0 l k):X.take k++l.drop k=X.take (k+1)++l.drop (k+1):=by rw[fT a,jV (by omega),<-fD (show k<X.length by omega),h,fD a];simp
def x0t{l X:List Int}(a:X.length=l.length){k:Nat}(b:k<=l.length):(X.take k++l.drop k).length=l.length:=by simp;omega
def xpe:prog.underlying xa2=some (.slice eE):=by kernel_rfl
def ju(ok:Id->Prop)(m a:Mem):Prop:=∀j:Id,¬ok j->j.1<m.next->a.get j=m.get j
def xjh(d:Nat)(Z:FHs){ok:Id->Prop}{m:Mem}{a:AV}{l:List Int}{p:Pq}(W:Gk 1 intE ok m a l)(F:∀j,ok j->j.1<m.next)(hp:PqIn l.length p)(hl:l.length<=1000) :
    ∃f,aG (d+1) Z O4 [a,.agg [I p.a,I p.b]] m=some (B (!decide (at0 l p.a.toNat=at0 l p.b.toNat)),f)/\Gk 1 intE ok f a (jH l p)/\f.next=m.next+1/\ju ok m f:=by
 obtain⟨p0,p1,p2⟩:=hp;rw[x7c];unfold ku PO;obtain⟨t,i⟩:∃t,t=(⟨m.hp,m.next+1⟩:Mem).new (m.next,0,3) (.row [I p.a,I p.b] 0 false):=⟨_,rfl⟩;have C:∀j:Id,j.1<m.next->t.get j=m.get j:=λj e=>by rw[i,Mem.dP,aD (by rintro rfl;exact Nat.lt_irrefl _ e)];rfl
 have J:t.next=m.next+1:=(by rw[i];rfl);have hg:t.get (m.next,0,3)=some (.row [I p.a,I p.b] 0 false):=(by rw[i];simp);have g:Gk 1 intE ok t a l:=W.frame λj e=>C j (F j e)
 obtain⟨q1,i1,l1,-⟩:=g.at (k:=p.a) p0 (by omega);obtain⟨q2,i2,l2,-⟩:=g.at (k:=p.b) (by omega) p2;simp only[fN,jT,dQ,lJ,oM,gC,bB,<-i];simp[hg,i1,l1,i2,l2];unfold tz;simp[g.len xpe];have E:(jH l p).length=l.length:=dh l p;refine nQ (N:=l.length) (σ:=Unit) (λn k _ f Y=>Y1 (aG d) Z m.next n a (I (at0 l p.a.toNat)) (I (at0 l p.b.toNat)) a (I l.length) (I k) f Y)
  (λk _ f=>Gk 1 intE ok f a ((jH l p).take k++l.drop k)/\f.next=m.next+1/\ju ok m f)
  (λr=>∃f,r=some (B (!decide (at0 l p.a.toNat=at0 l p.b.toNat)),f)/\Gk 1 intE ok f a (jH l p)/\f.next=m.next+1/\ju ok m f) ?_ ?_ NN 0 () t _ (by omega) (by rw[cU];omega) ⟨by simpa using g,J,λj _ e=>C j e⟩
 .rintro n k-P Y w ⟨y,H,A⟩ next;have hk':(k:Int)<(l.length:Int):=(by omega);have hml:=x0t (l:=l) (X:=jH l p) E (k:=k) (by omega);obtain⟨q,L,D,st⟩:=y.at (k:=(k:Int)) (by omega) (by omega);rw[gA,x0v E w]at D;have e:=yY (u:=l) (p:=p) w;simp only[Y1];unfold PP ub PQ;by_cases c:at0 l k=at0 l p.a.toNat\/at0 l k=at0 l p.b.toNat
  .rw[aH c]at e;obtain⟨Q,M,O,e3,R⟩:=st (mn (at0 l p.a.toNat) (at0 l p.b.toNat));rw[gA,<-e,x0s E w]at O;unfold mn at M;by_cases x:at0 l k=at0 l p.a.toNat
   .simp(disch:=omega) [hk',L,D,x,bJ];rw[M];exact next () Q _ ⟨O,by omega,λj e o=>by rw[R j e];exact A j e o⟩
   .have K:at0 l k=at0 l p.b.toNat:=c.resolve_left x;rw[K]at D x;simp(disch:=omega) [hk',L,D,x,bJ];rw[M];exact next () Q _ ⟨O,by omega,λj e o=>by rw[R j e];exact A j e o⟩
  .rw[aD c]at e;have x:¬at0 l k=at0 l p.a.toNat:=λh=>c (Or.inl h)
   have K:¬at0 l k=at0 l p.b.toNat:=λh=>c (Or.inr h)
   simp(disch:=omega) [hk',L,D,x,K,bJ];exact next () P _ ⟨by rw[<-x0u E w e];exact y,H,A⟩
 .rintro n-P Y ⟨y,H,A⟩;have w:¬((l.length:Int)<(l.length:Int)):=(by omega);simp only[Y1];unfold PP uc;simp[w];rw[lU (bT _),dU (by omega),jX]at y;exact⟨y,H,A⟩
def MF{n k:Nat}(h:k<n):(freshM n).take k++[(k:Int)]=(freshM n).take (k+1):=by rw[jV (by simpa[freshM]using h)];simp[freshM]
def xbe(d:Nat){n:Nat}(D:n<=1000)(m:Mem):∃a M,y5 (aG (d+1)) B0 [I n] m=some (a,M)/\Gk 1 intE (λid=>id.1=m.next) M a (freshM n)/\M.next=m.next+1/\∀j:Id,j.1<m.next->M.get j=m.get j:=by
 obtain⟨a,b,t,u,E⟩:∃a b,aG (d+1) [] B0 [I n] ⟨[],m.next⟩=some (a,b)/\Gk 1 intE (λid=>id.1=m.next) b a (freshM n)/\b.next=m.next+1:=by
  rw[x7f];unfold ky PT ud;refine nQ (N:=n) (λj k a b Y=>Y2 (aG d) [] m.next j a (I n) (I k) b Y) (λk a b=>Gk 1 intE (λid=>id.1=m.next) b a ((freshM n).take k)/\b.next=m.next+1)
   (λr=>∃a b,r=some (a,b)/\Gk 1 intE (λid=>id.1=m.next) b a (freshM n)/\b.next=m.next+1) ?_ ?_ NN 0 nilS _ _ (by omega) (by rw[cU];omega) ⟨by simpa using Gk.nil,rfl⟩
  .rintro j k a g Y h ⟨e,i⟩ next;have hk':(k:Int)<(n:Int):=(by omega);have f:((freshM n).take k).length=k:=(by simp[freshM];omega);obtain⟨w,x,y,A,-,-,F,-⟩:=Gk.app (ok:=λid=>id.1=m.next) (bytes:=8) (id0:=(m.next,Y+6,12)) gE (by omega) rfl (by unfold cQ;omega) e (k:Int);simp only[Y2];unfold PU;simp(disch:=omega) [hk',nB,bJ];rw[show elems g.get 1 (.aQ [I (k:Int)] 1 true)=some ([I (k:Int)],1)from rfl];rw[show[I (k:Int)]=intE k from rfl,y];exact next w x _ ⟨by rw[<-MF h];exact A,by omega⟩
  .rintro j a g Y ⟨e,i⟩;have h:¬((n:Int)<(n:Int)):=(by omega);simp only[Y2];unfold PU ue;simp[h];exact⟨a,g,⟨rfl,rfl⟩,by rw[dU (by simp[freshM])]at e;exact e,i⟩
 obtain⟨M,C,H,o⟩:=ya6 (l:=[I n]) rfl t;refine⟨a,M,C,u.frame λj p=>?_,by omega,λj f=>?_⟩
 .rw[o j,aH (by omega)]
 .rw[o j,aD (by omega)]
def rB(l:List Scene)(i:Int):Scene:=l.getD i.toNat ⟨⟨#[]⟩,0,0⟩
def lenP(l:List Scene)(p:Pq):Int:=(((rB l p.a).day-(rB l p.b).day).natAbs:Int)+(((rB l p.a).bl-(rB l p.b).bl).natAbs:Int)
def xdb{l:List Scene}{i:Int}(h:i.toNat<l.length):rB l i=l[i.toNat]:=by unfold rB;rw[eU,eY h];rfl
def LE{P:List Pq}{i:Int}(h:i.toNat<P.length):cL P i=P[i.toNat]:=by unfold cL;rw[eU,eY h];rfl
def KJ{l:List Scene}(a:InB l){i:Int}(b:0<=i)(h:i<l.length):(0<=(rB l i).day/\(rB l i).day<=100000)/\(-100000<=(rB l i).bl/\(rB l i).bl<=100000):=by rw[xdb (by omega)];exact a.get (by omega)
def xf9{l:List Scene}(d:InB l){p:Pq}(e:PqIn l.length p):0<=lenP l p/\lenP l p<=300000:=by obtain⟨f,h,g⟩:=e;have a:=KJ d (i:=p.a) f (by omega);have b:=KJ d (i:=p.b) (by omega) g;unfold lenP;omega
def Sl.ixz{α:Type}{b:α->List AV}{z:Nat}{a:AV}{l:List α}(d:∀x,(b x).length=z)(h:Sl b a l){k:Int}(e:0<=k)(f:k<l.length):aT z a (I k)=some (.aF ((l.drop k.toNat).flatMap b)):=by have:=h.ix d (k:=k.toNat) (by omega);rwa[J3 e]at this
def xbg(d:Nat){s p:AV}{l:List Scene}{P:List Pq}(Z:Sl Scene.c s l)(f:Sl Pq.c p P)(n:InB l){i:Int}(o:0<=i/\i<P.length)(u:PqIn l.length (cL P i))(m:Mem) :
    aI (aG (d+2)) P1 [.agg [s,p],I i] m=some (I (lenP l (cL P i)),m):=by
 refine dT (by simp[Z.aP,f.aP]) ?_ m;obtain⟨r,F,t⟩:=u;have D:=KJ n (i:=(cL P i).a) r (by omega);have E:=KJ n (i:=(cL P i).b) (by omega) t;have w:=f.ixz Pq.len o.1 o.2;have g:=λm=>iP (m:=m) (enc:=Pq.c) Pq.len (by omega) (show i.toNat<P.length by omega)
 rw[<-LE (by omega)]at g;have A:=Z.ixz Scene.len r (show(cL P i).a<l.length by omega);have C:=Z.ixz Scene.len (show 0<=(cL P i).b by omega) t;have h:=λm=>iP (m:=m) (enc:=Scene.c) Scene.len (by omega) (show(cL P i).a.toNat<l.length by omega)
 have j:=λm=>iP (m:=m) (enc:=Scene.c) Scene.len (by omega) (show(cL P i).b.toNat<l.length by omega)
 rw[<-xdb (by omega)]at h j;unfold lenP;rw[x7n];unfold ln QK;generalize rB l (cL P i).a=x at *
 generalize rB l (cL P i).b=y at *
 generalize cL P i=e at *
 simp only[Pq.c]at g;simp only[Scene.c]at h j;simp(disch:=omega) [mem0,Z.one,f.one,w,g,A,C,h,j,f6,IZ,tR,tS,aY,kX,bJ,xnh,cV,show Nat.blt 0 1=true from rfl];refine RetF.st ?_ ?_<;>rfl
def Rng(n:Nat)(P:List Pq)(F:List Int):Prop:=∀i∈F,(0<=i/\i<P.length)/\PqIn n (cL P i)
def Rng.get{n:Nat}{P:List Pq}{F:List Int}(h:Rng n P F){k:Nat}(a:k<F.length):(0<=at0 F k/\at0 F k<P.length)/\PqIn n (cL P (at0 F k)):=by rw[fD a];exact h _ (eX a)
end Go.Ix
namespace Go.Ix
variable{P:List Pq}
def dg{u:List Int}{p:Pq}(h:at0 u p.a.toNat=at0 u p.b.toNat):jH u p=u:=by
 unfold jH;conv=>rhs;rw[<-List.map_id u]
 apply xky;intro x _;show _=x;rw[h];by_cases c:x=at0 u p.b.toNat
 .rw[aH (Or.inl c),c];unfold mn;simp
 .rw[aD (by simp[c])]
def jO(P:List Pq):List Int->List Int->List Int
 |_,[]=>[]
 |u,i::r=>if at0 u (cL P i).a.toNat=at0 u (cL P i).b.toNat then jO P u r else i::jO P (jH u (cL P i)) r
def ZN:∀(l u:List Int),Indep u (prs P (jO P u l))
 |[],_=>trivial
 |i::r,u=>by
  rw[jO];by_cases c:at0 u (cL P i).a.toNat=at0 u (cL P i).b.toNat
  .rw[aH c];exact ZN r u
  .rw[aD c];exact⟨c,ZN r _⟩
def BW:∀(l u:List Int),(jO P u l).Sublist l
 |[],_=>List.Sublist.slnil
 |i::r,u=>by
  rw[jO];by_cases c:at0 u (cL P i).a.toNat=at0 u (cL P i).b.toNat
  .rw[aH c];exact(BW r u).cons i
  .rw[aD c];exact(BW r _).cons_cons i
def ZO:∀(l k u:List Int),jO P u (l++k)=jO P u l++jO P (joinsM u (prs P l)) k
 |[],_,_=>rfl
 |i::r,k,u=>by
  rw[jM,jO,jO];by_cases c:at0 u (cL P i).a.toNat=at0 u (cL P i).b.toNat
  .rw[aH c,aH c,ZO r k u];show _=jO P u r++jO P (joinsM (jH u (cL P i)) (prs P r)) k;rw[dg c]
  .rw[aD c,aD c,ZO r k _];rfl
def xpv(l u:List Int)(i:Int):jO P u (l++[i])=jO P u l++(if at0 (joinsM u (prs P l)) (cL P i).a.toNat=at0 (joinsM u (prs P l)) (cL P i).b.toNat then[]else[i]):=by rw[ZO];congr 1
def ZS{α:Type}{R:α->α->Prop}(i:∀a,¬R a a)(j:∀a b,R a b->R b a->False):∀{l k:List α},l.Pairwise R->k.Pairwise R->(∀x,x∈l↔x∈k)->l=k
 |[],[],_,_,_=>rfl
 |[],y::k,_,_,h=>by have:=(h y).mpr (eO ..);cases this
 |x::l,[],_,_,h=>by have:=(h x).mp (eO ..);cases this
 |x::l,y::k,f,g,h=>by
  rw[vM]at f g;have e:x=y:=by
   rcases eD.mp ((h x).mp (eO ..))with e|e
   .exact e
   .rcases eD.mp ((h y).mpr (eO ..))with e2|e2
    .exact e2.symm
    .exact(j _ _ (g.1 x e) (f.1 y e2)).elim
  subst e;have:=ZS i j f.2 g.2 λz=>by
   constructor
   .intro d;rcases eD.mp ((h z).mp (eA _ d))with e|e
    .rw[e]at d;exact(i _ (f.1 _ d)).elim
    .exact e
   .intro d;rcases eD.mp ((h z).mpr (eA _ d))with e|e
    .rw[e]at d;exact(i _ (g.1 _ d)).elim
    .exact e
  rw[this]
def xec{α:Type}{R:α->α->Prop}(d:∀a,¬R a a){l:List α}(h:l.Pairwise R):l.Nodup:=List.Pairwise.imp (S:=λa b=>a≠b) (λ{a b} hr (e:a=b)=>d a (by rw[<-e]at hr;exact hr)) h
def lx(f:Int->Int)(i j:Int):Prop:=f i<f j\/(f i=f j/\i<j)
def xfz{f:Int->Int}(i:Int):¬lx f i i:=by unfold lx;omega
def xf0{f:Int->Int}(i j:Int)(h:lx f i j)(a:lx f j i):False:=by unfold lx at *;omega
def xfy{f:Int->Int}{i j k:Int}(h:lx f i j)(a:lx f j k):lx f i k:=by unfold lx at *;omega
def x1a{f:Int->Int}{i j:Int}(h:i≠j):lx f i j\/lx f j i:=by unfold lx;omega
def Ordd(f:Int->Int)(N:Nat)(L:List Int):Prop:=L.Pairwise (lx f)/\∀x,x∈L↔(0<=x/\x<N)
def Ordd.one{f:Int->Int}{N:Nat}{L K:List Int}(h:Ordd f N L)(k:Ordd f N K):L=K:=ZS xfz xf0 h.1 k.1 λx=>(h.2 x).trans (k.2 x).symm
def Ordd.nodup{f:Int->Int}{N:Nat}{L:List Int}(h:Ordd f N L):L.Nodup:=xec xfz h.1
def Asc(F:List Int):Prop:=F.Pairwise (· < ·)
def Asc.one{F G:List Int}(h:Asc F)(k:Asc G)(e:∀x,x∈F↔x∈G):F=G:=ZS (λa=>by omega) (λa b=>by omega) h k e
def Asc.nodup{F:List Int}(h:Asc F):F.Nodup:=xec (λa=>by omega) h
def xde{l k:List Int}(b:l.Nodup)(d:k.Nodup)(h:∀x,x∈l↔x∈k):l.length=k.length:=by
 have:=bo b λx a=>(h x).mp a
 have:=bo d λx a=>(h x).mpr a
 omega
def fresh_mem{N:Nat}{x:Int}:x∈freshM N↔(0<=x/\x<N):=by
 unfold freshM;rw[fK];constructor
 .rintro⟨i,a,rfl⟩;have:=iC.mp a;omega
 .rintro⟨b,d⟩;exact⟨x.toNat,iC.mpr (by omega),by omega⟩
def em(N:Nat):Asc (freshM N):=by unfold Asc freshM;rw[List.pairwise_map];exact xkt.imp λh=>by omega
def Asc.filter{F:List Int}(h:Asc F)(p:Int->Bool):Asc (F.filter p):=List.Pairwise.filter p h
variable{n:Nat}
def xgn{t:List Int}{l:List Pq}(d:∀p∈l,PqIn n p)(h:∀p∈l,Sm t p.a.toNat p.b.toNat){v w:Nat}(f:v<n)(g:w<n)(Z:Sm (joinsM (freshM n) l) v w):Sm t v w:=by refine dd (R:=Sm t) (λh=>h.symm) (λi j=>i.trans j) (Lab.fresh n) d h (λa b m o e=>?_) v w f g Z;unfold Sm at e;rw[Lab.GB m,Lab.GB o]at e;have:a=b:=(by omega);rw[this];rfl
def xgo{l k:List Pq}(d:∀p∈l,PqIn n p)(e:∀p∈k,PqIn n p)(h:∀p∈l,Sm (joinsM (freshM n) k) p.a.toNat p.b.toNat)(i:∀p∈k,Sm (joinsM (freshM n) l) p.a.toNat p.b.toNat):joinsM (freshM n) l=joinsM (freshM n) k:=
 ((Lab.fresh n).joins d).ext ((Lab.fresh n).joins e) λv w f g=>⟨xgn d h f g,xgn e i f g⟩
def x28{l k:List Pq}(b:∀p∈l,PqIn n p)(d:∀p∈k,PqIn n p)(h:∀p,p∈l↔p∈k):joinsM (freshM n) l=joinsM (freshM n) k:=
 xgo b d (λp a=>D4 (Lab.fresh n) d p ((h p).mp a)) (λp a=>D4 (Lab.fresh n) b p ((h p).mpr a))
def xd1:∀{l:List Pq} {u:List Int},Lab n u->(∀p∈l,PqIn n p)->rF n u<=rF n (joinsM u l)+l.length
 |[],_,_,_=>bT _
 |p::l,u,h,f=>by
  have d:=f p (eO ..);have g:=xd1 (h.join d) λq d=>f q (eA _ d)
  have e:joinsM u (p::l)=joinsM (jH u p) l:=rfl;rw[e,eI];by_cases c:Sm u p.a.toNat p.b.toNat
  .rw[dg c]at g ⊢;omega
  .have:=df h d c;omega
def xg7:∀{l:List Pq} {u:List Int},Lab n u->(∀p∈l,PqIn n p)->rF n (joinsM u l)+l.length<=rF n u->Indep u l
 |[],_,_,_,_=>trivial
 |p::l,u,h,g,i=>by
  have d:=g p (eO ..);have f:∀q∈l,PqIn n q:=λq d=>g q (eA _ d)
  have e:joinsM u (p::l)=joinsM (jH u p) l:=rfl;rw[e,eI]at i;by_cases c:Sm u p.a.toNat p.b.toNat
  .have:=xd1 (h.join d) f;rw[dg c]at this i;omega
  .have:=df h d c;exact⟨c,xg7 (h.join d) f (by omega)⟩
def For.perm(d:∀p∈P,PqIn n p){F G:List Int}(h:For n P F)(g:G.Nodup)(e:∀x,x∈F↔x∈G):For n P G:=by
 have f:∀i∈G,0<=i/\i<P.length:=λi j=>h.rng i ((e i).mpr j)
 refine⟨f,g,xg7 (Lab.fresh n) (pP d f) ?_⟩;have m:=LW (Lab.fresh n) (pP d h.rng) h.ind;have l:joinsM (freshM n) (prs P G)=joinsM (freshM n) (prs P F):=x28 (pP d f) (pP d h.rng) λp=>by unfold prs;rw[fK,fK];exact⟨λ⟨i,a,b⟩=>⟨i,(e i).mpr a,b⟩,λ⟨i,a,b⟩=>⟨i,(e i).mp a,b⟩⟩
 have o:=xde h.nod g e;rw[l];have r:(prs P F).length=F.length:=(by unfold prs;simp);have t:(prs P G).length=G.length:=(by unfold prs;simp);omega
def For.sub(d:∀p∈P,PqIn n p){F G:List Int}(h:For n P F)(f:G.Nodup)(Z:∀x∈G,x∈F):For n P G:=by
 refine(h.perm (G:=G++F.filter λx=>!(G.contains x)) d ?_ λx=>?_).take
 .rw[zS];refine⟨f,h.nod.filter _,λa g b i e=>?_⟩;subst e;have:=(gW.mp i).2;simp at this;exact this g
 .rw[jC,gW];by_cases c:x∈G
  .simp[c,Z x c]
  .simp[c]
def xxp:prs P (freshM P.length)=P:=by
 apply HH
 .simp[prs,freshM]
 .intro k d a;have b:k<P.length:=a;simp[prs,freshM,cL,eU,b]
structure Tree (n:Nat) (P:List Pq) (F:List Int):Prop where
 fo:For n P F
 asc:Asc F
 all:∀p∈P,Sm (joinsM (freshM n) (prs P F)) p.a.toNat p.b.toNat
def x0z{a:List Int}(d:∀i∈a,0<=i/\i<P.length):∀p∈prs P a,p∈P:=by intro p e;obtain⟨i,f,rfl⟩:=fK.mp e;have:=d i f;have b:i.toNat<P.length:=(by omega);unfold cL;rw[eU,eY b];exact eX b
def Tree.uni(a:∀p∈P,PqIn n p){F:List Int}(h:Tree n P F):joinsM (freshM n) (prs P F)=joinsM (freshM n) P:=
 xgo (pP a h.fo.rng) a (λp b=>D4 (Lab.fresh n) a p (x0z h.fo.rng p b)) h.all
def Tree.len(a:∀p∈P,PqIn n p){F:List Int}(h:Tree n P F):n=rF n (joinsM (freshM n) P)+F.length:=by have:=LW (Lab.fresh n) (pP a h.fo.rng) h.fo.ind;rw[xd2,h.uni a]at this;have e:(prs P F).length=F.length:=(by unfold prs;simp);omega
def vA(f:Int->Int)(x:Int):List Int->List Int
 |[]=>[x]
 |y::r=>if f x<f y\/(f x=f y/\x<y)then x::y::r else y::vA f x r
def ins_mem{f:Int->Int}{x z:Int}:∀{l:List Int},z∈vA f x l↔z=x\/z∈l
 |[]=>by simp[vA]
 |y::r=>by
  rw[vA];split
  .simp
  .rw[eD,ins_mem,eD];constructor
   .rintro(h|h|h)<;>simp[h]
   .rintro(h|h|h)<;>simp[h]
def xg5{f:Int->Int}{x:Int}:∀{l:List Int},l.Pairwise (lx f)->x∉l->(vA f x l).Pairwise (lx f)
 |[],_,_=>by simp[vA]
 |y::r,h,b=>by
  rw[vA];rw[vM]at h;split
  .rename_i c;rw[vM];refine⟨λz a=>?_,vM.mpr h⟩;rcases eD.mp a with rfl|a
   .exact c
   .exact xfy c (h.1 z a)
  .rename_i c;rw[vM];refine⟨λz a=>?_,xg5 h.2 λd=>b (eA _ d)⟩;rcases ins_mem.mp a with rfl|a
   .rcases x1a (f:=f) (i:=z) (j:=y) (λe=>b (by rw[e];exact eO ..))with e|e
    .exact absurd e c
    .exact e
   .exact h.1 z a
def eJ(f:Int->Int)(N:Nat):List Int:=(freshM N).foldr (vA f) []
def A0(f:Int->Int)(N:Nat):Ordd f N (eJ f N):=by
 have a:∀l:List Int,l.Nodup->(l.foldr (vA f) []).Pairwise (lx f)/\∀x,x∈l.foldr (vA f) []↔x∈l:=by
  intro l;induction l with
  |nil=>intro _;simp
  |cons y r g=>intro h;rw[zR]at h;obtain⟨d,b⟩:=g h.2;rw[xk4];exact⟨xg5 d λe=>h.1 ((b y).mp e),λx=>by rw[ins_mem,b,eD]⟩
 obtain⟨d,b⟩:=a (freshM N) (em N).nodup;exact⟨d,λx=>(b x).trans fresh_mem⟩
def yX(f:Int->Int)(n:Nat)(P:List Pq):List Int:=jO P (freshM n) (eJ f P.length)
def jR(f:Int->Int)(n:Nat)(P:List Pq):List Int:=(freshM P.length).filter λi=>(yX f n P).contains i
def xf6{f:Int->Int}{x:Int}(h:x∈yX f n P):0<=x/\x<P.length:=((A0 f P.length).2 x).mp ((BW _ _).subset h)
def xf7(f:Int->Int):(yX f n P).Nodup:=(BW _ _).nodup (A0 f P.length).nodup
def light_mem{f:Int->Int}{x:Int}:x∈jR f n P↔x∈yX f n P:=by
 unfold jR;rw[gW,fresh_mem];constructor
 .rintro⟨_,h⟩;simpa using h
 .intro h;exact⟨xf6 h,by simpa using h⟩
def xf5(f:Int->Int):Asc (jR f n P):=(em _).filter _
def xf8(b:∀p∈P,PqIn n p)(f:Int->Int):For n P (yX f n P):=⟨λi a=>xf6 a,xf7 f,ZN _ _⟩
def xf4(a:∀p∈P,PqIn n p)(f:Int->Int):For n P (jR f n P):=(xf8 a f).perm a (xf5 f).nodup λx=>light_mem.symm
def Ordd.split{f:Int->Int}{N:Nat}{L:List Int}(h:Ordd f N L)(c:Int):L=L.filter (λi=>decide (f i<=c))++L.filter (λi=>!decide (f i<=c)):=by
 refine h.one ⟨?_,λx=>?_⟩
 .rw[X6];refine⟨h.1.filter _,h.1.filter _,λa d b e=>?_⟩;have g:=(gW.mp d).2;have l:=(gW.mp e).2;simp at g l;unfold lx;omega
 .rw[<-h.2,jC,gW,gW];cases decide (f x<=c)<;>simp
end Go.Ix
