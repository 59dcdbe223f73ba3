import Derived.Test.YtjngclcijnpooaaGreatDoorWg2
import Derived.ProofKit
set_option maxRecDepth 10000
set_option linter.all false
open Go.Proofs.Tryz
noncomputable section
namespace Go.Ix
open Go.Proofs
variable{K:Id->Prop}{A pa ea:AV}{W:List Bd}{J:List Pn}{C:List Pe}{E O:Int}{m:Mem}{X:St10}{cs:List AV}
variable{α:Type}{z:Nat}{enc:α->List AV}
def xee(l:List AV):rd false 1 l=l.head?:=by cases l<;>rfl
def Rk.len{a:AV}{l:List α}(h:Rk K z enc m a l){t e:TypeId}(d:prog.underlying t=some (.slice e)):aM prog t a=some (I l.length):=by
 rcases h with ⟨rfl,rfl⟩|⟨x,rfl⟩|⟨id,g,x,b,f,i,j,rfl,n,o⟩
 .exact(show Sl enc nilS []from .inl ⟨rfl,rfl⟩).len d
 .exact(show Sl enc (.aN (l.flatMap enc) l.length x) l from .inr ⟨x,rfl⟩).len d
 .rfl
def Rk.cell(d:∀x,(enc x).length=z){a:AV}{l:List α}(h:Rk K z enc m a l){k:Nat}(g:k<l.length):∃p,aV z a (I k)=some p/\∀o,o<z->∃i,aE o p=some i/\aA false 1 i m=(enc l[k])[o]?:=by
 have r:(l.flatMap enc).drop (k*z)=enc l[k]++(l.drop (k+1)).flatMap enc:=(by rw[wV d,Y3 g,dK]);have j:∀o,o<z->(((l.flatMap enc).drop (k*z)).drop o).head?=(enc l[k])[o]?:=λo e=>by rw[r,HS,n8 (by rw[d];exact e)]
 have u:=fN d l;rcases h with ⟨rfl,rfl⟩|⟨x,rfl⟩|⟨id,f,x,b,n,y,A,rfl,t,C⟩
 .simp at g
 .refine⟨_,Sl.ix d (.inr ⟨x,rfl⟩) g,λo e=>⟨_,rfl,?_⟩⟩;rw[<-j o e,wV d];generalize List.drop o _=q;cases q<;>rfl
 .refine⟨.ptr id f (k*z),?_,λo e=>⟨.ptr id f (k*z+o),rfl,?_⟩⟩
  .simp only[aV,dF];rw[aF ⟨by omega,by omega,trivial⟩];simp
  .rw[aQ t,xee,<-j o e,xlk,HS,HS,n8];have:(k+1)*z<=l.length*z:=oO z g;rw[lU]at this;omega
def O4(L:List Scene)(d:Int):Bool:=match L[L.length-1]? with
 |some s=>decide (d<=s.day)
 |none=>false
def W2(X:St10)(n:List UInt8)(d b:Int):Int×St10:=
 let e:=jZ [jL ⟨n.toArray⟩ (X.L.map Scene.nm),kP (wi d 0 100000&&wi b (-100000) 100000)]
 if X.L.length=12 then(16,X)else if e≠0 then(e,X)else if O4 X.L d=true then(9,X)else(0,{X with L:=X.L++[⟨⟨n.toArray⟩,d,b⟩]})
def x2n{R:Type}(x:Scene)(id:Id)(m:Mem)(K:AV->Mem->Option R):cV pH [(0,3,.agg x.c)] 1 3 id m K=K (.aN x.c 1 true) m:=by rw[JO];rfl
def xmr:pH.length=3:=by rw[JO];rfl
def xf1{R:Type}{x y:Int}{id:Id}{m:Mem}{k:AV->Mem->Option R}:cV qP [(0,1,I x),(1,1,I y)] 2 1 id m k=k (.aN [I x,I y] 2 true) m:=by rw[show qP=[I 0] by kernel_rfl];simp[cV,iM,eQ,rU,cH]
def ycv(d:Nat)(f:[A,pa,ea].all aP=true){b a:Id}{M:Mem}(i:M.get b=some (.row cs 0 false))(h:Bc K M (SC E O A pa ea) X cs)(j:M.get a=some (.row [.ptr b 0 0] 0 false))(o:X.L.length<=1000){n:List UInt8}(r:n.length<=1000) :
    fC (aG (d+3)) rK [Tx n,.clo uR [.ptr a 0 0],I X.L.length] M=some (I (jL ⟨n.toArray⟩ (X.L.map Scene.nm)),M):=by
 obtain⟨s,p,v,c,e,W,Y,Z,e4⟩:=h.frz f 0;obtain⟨u,g⟩:=xks (d+1) (s:=⟨n.toArray⟩) (fv:=.clo uR [.aH [.aH [.aH (SC E O A pa ea),s,p,v,c]]]) (l:=X.L.map Scene.nm) (by show n.toArray.size<=1000;simpa using r) (by simpa using o) λk t m=>by
  have hk':k<X.L.length:=(by simpa using t);show ∃u,aG (d+2) [] uR ([I k]++[.aH [.aH [.aH (SC E O A pa ea),s,p,v,c]]]) m=_;rw[iO,iX,yao];unfold pk aU UC;have w:∀m,aA false 1 (.aH [.aH [.aH (SC E O A pa ea),s,p,v,c]]) m=some (.aH [.aH (SC E O A pa ea),s,p,v,c]):=λ_=>rfl
  have x:cD (.aH [.aH (SC E O A pa ea),s,p,v,c])=some (.aH [.aH (SC E O A pa ea),s,p,v,c]):=rfl;have y:aE 1 (.aH [.aH (SC E O A pa ea),s,p,v,c])=some (.aH [s,p,v,c]):=rfl;have C:aE 0 (.aH [s,p,v,c])=some (.aH [s,p,v,c]):=rfl;have D:∀m,aA false 1 (.aH [s,p,v,c]) m=some s:=λ_=>rfl
  have ix:=W.ix Scene.len hk';have F:aE 0 (.aH ((X.L.drop k).flatMap Scene.c))=some (.aH ((X.L.drop k).flatMap Scene.c)):=rfl;have H:∀m,aA false 1 (.aH ((X.L.drop k).flatMap Scene.c)) m=some (T X.L[k].nm):=λm=>by rw[gV hk',dK];rfl
  simp only[w,x,y,C,D,F,H,ix,aC,Y0];exact⟨_,rfl⟩
 rw[qK]at g;refine xD ?_ g rfl;have J:Go.Ix.frz M.get 4 (.ptr b 0 0)=some (.aH [.aH (SC E O A pa ea),s,p,v,c]):=rQ i e;have N:Go.Ix.frz M.get 5 (.ptr a 0 0)=some (.aH [.aH [.aH (SC E O A pa ea),s,p,v,c]]):=rQ j (by simp only[eO,gS,J];rfl);have P:Go.Ix.frz M.get bR (.clo uR [.ptr a 0 0])=some (.clo uR [.aH [.aH [.aH (SC E O A pa ea),s,p,v,c]]]):=(by show([AV.ptr a 0 0].mapM (Go.Ix.frz M.get 5)).map (AV.clo uR)=_;simp only[eO,gS,N];rfl);have Q:Go.Ix.frz M.get bR (Tx n)=some (Tx n):=kA _ 4 rfl;have R:Go.Ix.frz M.get bR (I X.L.length)=some (I X.L.length):=kA _ 4 rfl;simp only[eO,gS,P,Q,R];rfl
def x61(d:Nat)(Z:FHs)(hK:∀j,K j->j.1<m.next)(hst:[A,pa,ea].all aP=true){b:Id}(N:Bk K m b (SC E O A pa ea) X)(hL:X.L.length<=1000){n:List UInt8}(hn:n.length<=1000)(dy W k:Int) :
    ∃u,aG (d+4) Z EZ [.agg [Tx n,I dy,I W],.ptr b 0 0,I k] m=some (I (W2 X n dy W).1,u)/\GrP K (λj=>j=b) m u/\Bk K u b (SC E O A pa ea) (W2 X n dy W).2:=by
 rw[yap];unfold pm UD;obtain⟨M1,n1,g1,k1,hM1⟩:=mQ (x:=.agg [Tx n,I dy,I W]) rfl (m.next,0,3) ⟨m.hp,m.next+1⟩;have gr1:Gr0 K m M1:=jY (qA m) (.inl (bS _)) n1 k1;obtain⟨M2,n2,g2,k2,hM2⟩:=mQ (x:=.ptr b 0 0) rfl (m.next,1,4) M1;have R:Gr0 K m M2:=jY gr1 (.inl (bS _)) n2 k2;have g1':M2.get (m.next,0,3)=some (.row [Tx n,I dy,I W] 0 false):=(by rw[k2 _ (by simp[Prod.ext_iff])];exact g1);have g2':M2.get (m.next,1,4)=some (.row [.ptr b 0 0] 0 false):=g2;obtain⟨sid,s,q,v,w,fl,r1,r2,r3,r4,r5,r6,r7,r8,r9⟩:=N.cells;have rb:∀{M:Mem},Gr0 K m M->M.get b=some (.row [.ptr sid 0 0,s,q,v,w] 0 false):=λh=>by rw[(h.2 b N.2.1 (λh=>h)).2 N.1];exact r1
 have nb:cD (.ptr b 0 0)=some (.ptr b 0 0):=rfl;have Y:=r6.len mG;obtain⟨M3,n3,g3,k3,hM3⟩:=oL (z:=3) (cs:=pH) (x:=.agg [Tx n,I dy,I W]) rfl rfl xmr (m.next,11,7) M2;have e:Gr0 K m M3:=jY R (.inl (bS _)) n3 k3;have g3':M3.get (m.next,11,7)=some (.row [Tx n,I dy,I W] 0 false):=g3;have F:M3.get (m.next,1,4)=some (.row [.ptr b 0 0] 0 false):=(by rw[k3 _ (by simp[Prod.ext_iff])];exact g2');have hlt:b.1<m.next:=N.2.1;have H:∀{i j:Nat},b≠(m.next,i,j):=λh=>by rw[h]at hlt;simp at hlt
 have a1:∀o,aZ (tR (.ptr b 0 o)) (some [],some [(m.next,11,7)])=true:=λo=>qI H
 have a2:aZ (tR (.ptr (m.next,0,3) 0 0)) (some [],some [(m.next,11,7)])=true:=qI (λh=>by simp[Prod.ext_iff]at h);have a3:aZ (tR (.ptr (m.next,1,4) 0 0)) (some [],some [(m.next,11,7)])=true:=qI (λh=>by simp[Prod.ext_iff]at h);have a4:aZ (tR (.ptr (m.next,1,4) 0 0)) (tS (.ptr (m.next,11,7) 0 0))=true:=xkn (λh=>by simp[Prod.ext_iff]at h);have a5:∀o,aZ (tR (.ptr b 0 o)) (tS (.ptr (m.next,11,7) 0 0))=true:=λo=>xkn H
 have lx:aA true 3 (.ptr (m.next,0,3) 0 0) M2=some (.agg [Tx n,I dy,I W]):=(by rw[aQ g1'];rfl);have ls:∀{M:Mem},Gr0 K m M->aA false 1 (.ptr b 0 1) M=some s:=λh=>by rw[aQ (rb h)];rfl
 have t:=N.gr e (λ_ h=>h.elim) (λh=>h);have hnm:=ycv d hst (rb e) (r2.gr e (λ_ h=>h.elim)) F hL hn;have hwi:=λa b c m=>tU (d+2) a b c m
 have hsm:=λn m=>KE (d+1) n (K:=100000) (by omega) m
 have hrg:∀b m,aI (aG (d+3)) pS [B b] m=some (I (kP b),m):=λb m=>KF (d+2) b m
 have hfs:∀x y m,aI (aG (d+3)) uT [.aN [I x,I y] 2 true] m=some (I (jZ [x,y]),m):=λx y m=>KG (d+2) (l:=[x,y]) (.inr ⟨true,rfl⟩) (by simp) m
 simp only[hM1,hM2,nb,aC,lx,cW,bW,nK,aQ g2',bF,dE,ls R,Y,hM3,a1,a2,a3,a4,a5,iL,xV,bC,iD];unfold W2;by_cases c1:X.L.length=12
 .have c1':(X.L.length:Int)=12:=(by omega);simp only[c1,aS,cI,show decide (((12:Nat):Int)=12)=true from rfl];exact⟨_,rfl,e.to,t⟩
 have c1':¬((X.L.length:Int)=12):=(by omega);simp only[c1,c1',bO,aT,cU,aQ g3',bF,dR,dE,aC,hnm,hwi,dO,fI];generalize jL ⟨n.toArray⟩ (X.L.map Scene.nm)=nm;have he2:jZ [nm,kP false]≠0:=(by simp only[jZ,iT,kP,cond_false];split<;>simp_all);cases hw1:wi dy 0 100000 with
 |false=>simp only[iC,cT,aC,cS,hrg,xf1,hfs,fS,qM];simp only[he2,ne_eq,not_false_eq_true,cI];exact⟨_,rfl,e.to,t⟩
 |true=>
 simp only[iC,bC,aC,cS,aQ g3',bF,dR,dE,hsm,hrg,xf1,hfs,fS,gW,fT];by_cases c2:jZ [nm,kP (wi W (-100000) 100000)]=0;case neg=>simp only[c2,ne_eq,not_false_eq_true,cI];exact⟨_,rfl,e.to,t⟩
 have C:=ls e
 have D:O4 X.L dy=false->∃u,((aI (aG (d+3)) R8 [s] M3).bind λg=>
  (aA true 3 (.ptr (m.next,11,7) 0 0) g.2).bind λt63=>
  cV pH [(0,3,t63)] 1 3 (m.next,60,64) g.2 λP Q=>
  cK 3 32 (m.next,61,65) (elems Q.get 3 P) g.1 Q λt65 m_7=>
  bA 1 (.ptr b 0 1) t65 m_7 λm_8=>
  bif(aZ (tR (.ptr (m.next,1,4) 0 0)) (some [],some [(m.next,60,64)])&&(aZ (tR (.ptr (m.next,1,4) 0 0)) (some [],some [(m.next,60,64)])&&(aZ (tR (.ptr b 0 1)) (some [],some [(m.next,60,64)])&&aZ (tR (.ptr (m.next,1,4) 0 0)) (tX P,tA (m.next,61,65) g.1))))then
  some ((I 0),m_8)else none)=some (I 0,u)/\GrP K (λj=>j=b) m u/\Bk K u b (SC E O A pa ea) {X with L:=X.L++[⟨⟨n.toArray⟩,dy,W⟩]}:=by
  intro f
  obtain⟨r,M4,hr,J,n4,g4⟩:=x7x (d+2) (r6.gr e (λj _ h=>h.elim))
  have gr4:Gr0 K m M4:=e.trans g4
  obtain⟨fl2,g3''⟩:=SimO.row (g4.2 (m.next,11,7) (by rw[n3,n2,n1];exact mD _) (λh=>h)).1 g3'
  have ldx:aA true 3 (.ptr (m.next,11,7) 0 0) M4=some (.agg (Scene.c ⟨⟨n.toArray⟩,dy,W⟩)):=by rw[aQ g3''];rfl
  have hN:(m.next,61,65).1<M4.next:=by rw[n4,n3,n2,n1];exact mD _
  obtain⟨M5,hM5,hB5,hG5,-,-⟩:=LQ Scene.len (bytes:=32) (by omega) N gr4 hr hL (k:=1) (by omega) (id:=(m.next,61,65)) (uO hK (bS _) (by simp)) hN (bS _) ⟨⟨n.toArray⟩,dy,W⟩ (λu v cs h1 h2=>h1.setL h2)
  have hel:∀x:Scene,elems M4.get 3 (.aN x.c 1 true)=some (x.c,1):=λ_=>rfl
  have b1:aZ (tR (.ptr (m.next,1,4) 0 0)) (some [],some [(m.next,60,64)])=true:=qI (λh=>by simp[Prod.ext_iff]at h)
  have b2:aZ (tR (.ptr b 0 1)) (some [],some [(m.next,60,64)])=true:=qI H
  have b3:∀x:List AV,aZ (tR (.ptr (m.next,1,4) 0 0)) (tX (.aN x 1 true),tA (m.next,61,65) r)=true:=λx=>by
   have:tA (m.next,61,65) r=some [(m.next,61,65)]:=by rcases hr with ⟨rfl,-⟩|rfl<;>rfl
   rw[this]
   show aZ (some [(m.next,1,4)],some []) (some [],some [(m.next,61,65)])=true
   simp[aZ,jP]
  simp only[aC,J,ldx,x2n,hel,hM5,b1,b2,b3,iL,bC]
  exact⟨M5,rfl,hG5,hB5⟩
 simp only[c2,ne_eq,not_true_eq_false,bB,cE,aT,cU,fA];by_cases c3:0<X.L.length
 .have c3':((X.L.length:Int) > 0):=(by omega);have hk:X.L.length-1<X.L.length:=(by omega);obtain⟨p,p1,p2⟩:=(r6.gr e (λj _ h=>h.elim)).cell Scene.len hk;obtain⟨p',p3,p4⟩:=p2 1 (by omega);have w1:cJ ((X.L.length:Int)-1)=((X.L.length-1:Nat):Int):=(by rw[bU];omega);have f:O4 X.L dy=decide (dy<=X.L[X.L.length-1].day):=(by unfold O4;rw[gE hk]);have p4':aA false 1 p' M3=some (I X.L[X.L.length-1].day):=p4;simp only[c3',bB,iC,bC,aC,aQ g3',aQ F,bF,dR,dE,nb,cW,bW,nK,C,mZ,w1,p1,p3,p4',LE];by_cases c4:dy<=X.L[X.L.length-1].day
  .simp only[f,c4,bB,aS,cI];exact⟨_,rfl,e.to,t⟩
  .simp only[f,c4,bO,aT,fQ,cU];exact D (by rw[f,fU c4])
 .have c3':¬((X.L.length:Int) > 0):=(by omega);have f:O4 X.L dy=false:=(by unfold O4;rw[HU (by omega)]);simp only[c3',f,bO,iC,cT,aC,aT,fQ,cU,aQ F,bF,dE,nb,cW,bW,nK,C];exact D f
end Go.Ix
namespace Go.Ix
open Go.Proofs
variable{K:Id->Prop}{A pa ea:AV}{W:List Bd}{J:List Pn}{C:List Pe}{E O:Int}{m:Mem}{X:St10}{cs:List AV}
def F7(x:Int):List Int->Int->Int
 |[],_=>-1
 |y::r,k=>if x=y then k else F7 x r (k+1)
def xhq{x:Int}:∀(F:List Int) (k:Int),0<=k->(decide (0<=F7 x F k)=F.any λy=>decide (y=x))
 |[],_,_=>rfl
 |y::r,k,h=>by
  rw[F7,Y4];by_cases c:x=y
  .rw[aF c];simp[h,c]
  .rw[aB c,xhq r (k+1) (by omega)];have:¬y=x:=λe=>c e.symm
   simp[this]
def xbz(d:Nat){f:AV}{F:List Int}{x:Int}(e:Ints f F)(h:F.length<=1000000)(m:Mem):aI (aG (d+2)) yV [f,I x] m=some (B (F.any λy=>decide (y=x)),m):=by
 have b:∀m,aI (aG (d+1)) ED [f,I x] m=some (I (F7 x F 0),m):=λm=>by
  refine eY (by simp[e.bD]) ?_ m;rw[x9k];unfold ng aU RU wu;simp only[e.len jH,aC];refine nZ (N:=F.length) (σ:=Unit) (λn k _ m Y=>Z9 (aG d) [] 0 n f (I x) (I F.length) (I k) m Y) (λk _ m=>F7 x (F.drop k) k=F7 x F 0) _ ?_ ?_ NN 0 () _ _ (by omega) (by rw[dB];omega) (by simp)
  .rintro n k-m Y g a next;have hk':(k:Int)<(F.length:Int):=(by omega);have ix:=e.ix fL g;rw[gV g,F7,<-fH g]at a;simp only[Z9];unfold RV;simp(disch:=omega) [hk',ix,oB];by_cases c:x=at0 F k
   .rw[aF c]at a;simp[c];exact RetF.st rfl (by rw[<-c,<-a])
   .rw[aB c]at a;simp[c];exact next () _ _ (by rw[<-a];norm_cast)
  .rintro n-m Y a;simp only[Z9];unfold RV ww;simp;rw[List.drop_length]at a;exact RetF.st rfl (by rw[<-a];rfl)
 refine eY (by simp[e.bD]) ?_ m;rw[x9s];unfold nu aU SK;simp[b];exact RetF.st rfl (by rw[xhq F 0 (by omega)])
structure SuOK (wv mg:Int) (A pa ea:AV) (bl:List Bd) (pl:List Pn) (C:List Pe):Prop where
 b:Sl Bd.c A bl
 p:Sl Pn.c pa pl
 e:Sl Pe.c ea C
 bn:bl.length<=1000
 pn:pl.length<=1000
 en:C.length<=1000
 mg:0<=mg/\mg<=2048
 wv:1<=wv/\wv<=10000
 th:∀(i:Nat) (h:i<bl.length),0<=bl[i].th/\bl[i].th<=1000000
 po:∀(i:Nat) (h:i<bl.length),polyE bl[i].cs=0
 pt:∀p∈pl,isPl p.at_=true
def SuOK.st(h:SuOK E O A pa ea W J C):[A,pa,ea].all aP=true:=by simp[h.b.aP,h.p.aP,h.e.aP]
structure XOK (D:Nat) (X:St10):Prop where
 L:X.L.length<=12
 D:X.L.length<=D
 S:X.S.length<=1000
 V:X.V.length<=1000
 C:X.C.length<=11
 Q:∀j:Nat,(ofPt j X.S).length<=19
 f:∀p∈X.S,p.f.natAbs<=400000
def zW{T:AV->Prop}{b:aJ}{f:FuncId}{l:List AV}(d:l.all bD=true)(h:RetF T (b [] f l mem0)):∃a,T a/\∀m,aI b f l m=some (a,m):=by obtain⟨a,n,e,g,i,j⟩:=h;exact⟨e,j,λm=>H7 d g i⟩
def xj2(d:Nat)(g:SuOK E O A pa ea W J C)(o:XOK (d+8) X)(h:Bc K m (SC E O A pa ea) X cs){i:Nat}(y:i<W.length) :
    ∃v M,YH X.L X.S O E W[i] J v/\aI (aG (d+16)) D9 [.agg cs,I (i:Int)] m=some (v,M)/\M.next=m.next/\Gr0 K m M:=by
 obtain⟨s,p,v,c,e,H,N,u,w⟩:=h.frz g.st 2;have t:∀{α:Type} {F:α->List AV} {a:AV} {l:List α},Sl F a l->fO a=true:=λh=>by rcases h with ⟨rfl,-⟩|⟨x,rfl⟩<;>rfl
 have n:[FB E O A pa ea s p v c,I (i:Int)].all bD=true:=(by show(([AV.aH (SC E O A pa ea),s,p,v,c].all aP)&&true)=true;simp[H.aP,N.aP,u.aP,Sl.aP w];rfl);obtain⟨r,hr,hc⟩:=zW n (yeq d (ea:=ea) g.b g.p H N ⟨u.aP,Sl.aP w⟩ ⟨u.one,Sl.one w⟩ ⟨t u,t w⟩ g.pn o.S g.mg g.wv ⟨o.L,o.D⟩ o.Q o.f y (g.th i y) (g.po i y) g.pt);have R:[AV.agg cs,I (i:Int)].mapM (Go.Ix.frz m.get bR)=some [FB E O A pa ea s p v c,I (i:Int)]:=(by have Y:Go.Ix.frz m.get bR (.agg cs)=some (FB E O A pa ea s p v c):=(by show(cs.mapM (Go.Ix.frz m.get 5)).map AV.agg=_;rw[e];rfl);have Z:Go.Ix.frz m.get bR (I (i:Int))=some (I (i:Int)):=kA _ 4 rfl;simp only[eO,gS,Y,Z];rfl);refine⟨r,_,hr,gn R n hc,rfl,xhy λj P=>?_⟩;have hP:(SC E O A pa ea).all aP=true:=(by show(true&&(true&&[A,pa,ea].all aP))=true;rw[g.st];rfl);have hj':j∈cs.flatMap (Go.Ix.reach m.get 5)++[]:=P;rw[hW]at hj';exact h.reach hP 2 j hj'
def xF(O E:Int)(W:List Bd)(J:List Pn)(X:St10)(i:Nat):Int:=match W[i]? with
 |some b=>nI X.L X.S O E b J
 |none=>0
def xB(O E:Int)(W:List Bd)(J:List Pn)(X:St10)(n:List UInt8):Int×St10:=
 let i:=idxQ (nmQ Bd.nm ⟨n.toArray⟩) 0 W
 if i<0 then(6,X)else if(X.C.any λy=>decide (y=i))=true\/xF O E W J X i.toNat≠2 then(24,X)else(0,{X with C:=iJ (λx y=>decide (x<y)) X.C.length (X.C++[i])})
def x2q{R:Type}(x:Int)(id:Id)(m:Mem)(K:AV->Mem->Option R):cV gI [(0,1,I x)] 1 1 id m K=K (.aN [I x] 1 true) m:=by rw[nQ];rfl
def x65(d:Nat)(Z:FHs)(hK:∀j,K j->j.1<m.next)(hO:SuOK E O A pa ea W J C)(hX:XOK (d+8) X){b:Id}(o:Bk K m b (SC E O A pa ea) X)(n:List UInt8)(k:Int) :
    ∃m',aG (d+17) Z FE [Tx n,.ptr b 0 0,I k] m=some (I (xB O E W J X n).1,m')/\GrP K (λj=>j=b) m m'/\Bk K m' b (SC E O A pa ea) (xB O E W J X n).2:=by
 rw[ybb];unfold qn VG;obtain⟨N,D⟩:∃N:Mem,N=⟨m.hp,m.next+1⟩:=⟨_,rfl⟩;have a:Gr0 K m N:=(by rw[D];exact qA m);have n1:N.next=m.next+1:=(by rw[D]);obtain⟨p,s,q,v,w,fl,r1,r2,r3,r4,r5,r6,r7,r8,r9⟩:=o.cells;have rb:∀{M:Mem},Gr0 K m M->M.get b=some (.row [.ptr p 0 0,s,q,v,w] 0 false):=λh=>by rw[(h.2 b o.2.1 (λh=>h)).2 o.1];exact r1
 have l5:∀{M:Mem},Gr0 K m M->aA true 5 (.ptr b 0 0) M=some (.agg [.ptr p 0 0,s,q,v,w]):=λh=>by rw[aQ (rb h)];rfl
 have lw:∀{M:Mem},Gr0 K m M->aA false 1 (.ptr b 0 (1+3)) M=some w:=λh=>by rw[aQ (rb h)];rfl
 have nb:cD (.ptr b 0 0)=some (.ptr b 0 0):=rfl;have u:∀{M:Mem},Gr0 K m M->Bk K M b (SC E O A pa ea) X:=λh=>o.gr h (λ_ h=>h.elim) (λh=>h)
 have cb:fC (aG (d+16)) wJ [.agg [.ptr p 0 0,s,q,v,w],Tx n] N=some (I (idxQ (nmQ Bd.nm ⟨n.toArray⟩) 0 W),N):=xj1 (d+13) hO.st (r2.gr a (λ_ h=>h.elim)) hO.b hO.bn _;rw[<-D];unfold xB;simp only[nb,aC,l5 a,cb,bV,cW,bW];rcases F6 (nmQ Bd.nm ⟨n.toArray⟩) W 0 with ⟨h0,-⟩|⟨i,h0,hi,-⟩
 .rw[h0];simp only[show((-1:Int)<0)from by decide,cI];exact⟨_,rfl,a.to,u a⟩
 rw[h0,jv];have hi0:¬((i:Int)<0):=(by omega);obtain⟨rc,M2,hq,hcon,n2,g2⟩:=(r9.gr a (λ_ _ h=>h.elim)).eR (Q:=λr=>r=B (X.C.any λy=>decide (y=(i:Int)))) (call:=aG (d+16)) (f:=yV) wQ F4 [I (i:Int)] rfl
  λa' ha=>⟨_,rfl,λm=>xbz (d+14) ha (by have:=hX.C;omega) m⟩
 subst hq;have e:Gr0 K m M2:=a.trans g2;simp only[hi0,bO,aT,cU,lw a,aC,hcon,fA,dO,fI,jF];cases c1:X.C.any λy=>decide (y=(i:Int))with
 |true=>simp only[dQ,cE,cT,aC,cS,bC,aS,true_or,cI];exact⟨_,rfl,e.to,u e⟩
 |false=>
 obtain⟨va,M3,⟨ys,yo,yl,rfl,-⟩,hans,n3,g3⟩:=xj2 d hO hX (r2.gr e (λ_ h=>h.elim)) hi;have hai:xF O E W J X i=nI X.L X.S O E W[i] J:=(by unfold xF;rw[gE hi]);have g:Gr0 K m M3:=e.trans g3;have fld:N5 false 1 0 (.agg [I (nI X.L X.S O E W[i] J),ys,yo,yl])=some (I (nI X.L X.S O E W[i] J)):=rfl;simp only[dQ,cC,bC,aC,nb,l5 e,hans,fld,fS,cS,cT,fQ,false_or,hai];by_cases c2:nI X.L X.S O E W[i] J=2;case neg=>simp only[c2,bO,cC,aS,ne_eq,not_false_eq_true,cI];exact⟨_,rfl,g.to,u g⟩
 simp only[c2,bB,cE,aT,ne_eq,not_true_eq_false,cU];obtain⟨r,M4,hr,F,n4,g4⟩:=x7z (d+15) (r9.gr g (λ_ _ h=>h.elim));have gr4:Gr0 K m M4:=g.trans g4;have hid:(m.next,36,42).1<M4.next:=(by rw[n4,n3,n2,n1];exact mD _);obtain⟨M5,hM5,hB5,H,hr5,n5,hb5⟩:=LQ wQ (bytes:=8) (by omega) o gr4 hr (by have:=hX.C;omega) (k:=4) (by omega) (id:=(m.next,36,42)) (uO hK (bS _) (by simp)) hid (bS _) (i:Int) (λm' v cs h1 h2=>h1.setC h2);have hb5':=hb5 _ r1;have hel:elems M4.get 1 (.aN [I (i:Int)] 1 true)=some (intE i,1):=rfl;have l6:aA false 1 (.ptr b 0 (1+3)) M5=some (.sref (m.next,36,42) 0 0 (X.C.length+1) 1 true):=(by rw[aQ hb5'];rfl);have hGk:Gk 1 intE (λj=>j=(m.next,36,42)) M5 (.sref (m.next,36,42) 0 0 (X.C.length+1) 1 true) (X.C++[(i:Int)]):=.inr ⟨_,0,rfl,by rw[eT];rfl,hr5⟩;obtain⟨M6,x,t,hn6,l⟩:=xj3 (d+11) Z (by rw[eT];have:=hX.C;simp;omega) hGk;have P:b≠(m.next,36,42):=λh=>by have:=o.2.1;rw[h]at this;simp at this
 have R:GrP K (λj=>j=b) m M6:=⟨by have:=H.1;omega,λj hj hp=>by
  rw[l j (by rintro rfl;simp at hj)];exact H.2 j hj hp⟩
 have hb6:M6.get b=some (.row (cH [.ptr p 0 0,s,q,v,w] 4 [.sref (m.next,36,42) 0 0 (X.C.length+1) 1 true]) 0 false):=(by rw[l b P];exact hb5');have hsort':aG (d+16) Z C8 [.sref (m.next,36,42) 0 0 (X.C.length+1) 1 true] M5=some (.tup [],M6):=x;simp only[lw g,aC,F,x2q,hel,hM5,l6,hsort'];refine⟨M6,rfl,R,o.1,by have:=o.2.1;have:=H.1;omega,_,hb6,(r2.gr R (λj hj=>by rw[hj];exact o.1)).setC ?_⟩;have Y:(X.C++[(i:Int)]).length-1=X.C.length:=(by simp);rw[Y]at t;rcases t with ⟨h,-⟩|⟨id,ver,rfl,he,hg⟩
 .cases h
 .rw[he];exact .inr (.inr ⟨(m.next,36,42),ver,true,false,[],(uO hK (bS _) (by simp)),by rw[n5]at hn6;omega,rfl,by rw[hW];exact hg,rfl⟩)
open Go.Proofs
def vC(i sh:Int)(p:OPr):OPr:=if i=p.b then{p with f:=p.f+sh}else if i=p.a then{p with f:=p.f-sh}else p
def KX(A C v:List AV)(k:Nat):cH (A++C) (A.length+k) v=A++cH C k v:=by unfold cH;rw[List.take_append,dT (by omega),show A.length+k-A.length=k by omega,n9,mE (by omega),show A.length+k+v.length-A.length=k+v.length by omega];simp
def x6m(a:List AV)(n:Nat)(x:Bool):bP prog .eql mW (.tmp 3) (.const (.slice none 0 0)) (.aN a n x) nilS=some (B false):=by kernel_rfl
def x6l:bP prog .eql mW (.tmp 3) (.const (.slice none 0 0)) nilS nilS=some (B true):=by kernel_rfl
def ClP(u:Nat)(m:Mem)(r:AV)(S:List OPr):Prop:=(S=[]/\r=nilS)\/(S≠[]/\r=.sref (u,5,7) 0 0 S.length 4 true/\m.get (u,5,7)=some (.row (S.flatMap OPr.c) 0 false))
def x38(d:Nat){a:AV}{S:List OPr}(h:Sl OPr.c a S)(m:S.length<=1000)(j:S=[]->a=nilS)(u:Nat):∃r e,aG (d+1) [] yX [a] ⟨[],u⟩=some (r,e)/\ClP u e r S/\e.next=u+1:=by
 rw[xjr];unfold OW bQ IQ;have l:cF S.length 32:=(by unfold cF;omega);have f:=gz OPr.len h l (u,5,7) (⟨[],u+1⟩:Mem);rcases h with ⟨rfl,rfl⟩|⟨b,rfl⟩
 .refine⟨nilS,⟨[],u+1⟩,?_,.inl ⟨rfl,rfl⟩,rfl⟩;simp[x6l]
 .rcases f with ⟨rfl,i⟩|⟨g,i⟩
  .cases j rfl
  .refine⟨.sref (u,5,7) 0 0 S.length 4 true,(⟨[],u+1⟩:Mem).new (u,5,7) (.row (S.flatMap OPr.c) 0 false),?_,.inr ⟨g,rfl,by simp⟩,rfl⟩;simp[x6m];exact i _
def yc5(d:Nat){q:AV}{S:List OPr}(h:Rk K 4 OPr.c m q S)(C:S=[]->q=nilS)(D:S.length<=1000):∃r M,uI (aG (d+1)) yX [q] m=some (r,M)/\ClP m.next M r S/\M.next=m.next+1/\∀j,j≠(m.next,5,7)->M.get j=m.get j:=by
 obtain⟨u,f,H⟩:=h.frz OPr.len OPr.bD 4;obtain⟨r,L,w,J,y⟩:=x38 d H D (λh=>by rw[C h]at f;cases f;rfl) m.next;have t:[q].mapM (Go.Ix.frz m.get bR)=some [u]:=(by have q1':Go.Ix.frz m.get bR q=some u:=f;simp only[eO,gS,q1'];rfl);rcases J with ⟨rfl,rfl⟩|⟨n,rfl,o⟩
 .obtain⟨M,g,l,e⟩:=NH (ids:=[]) t w rfl rfl (λi b=>by cases b);exact⟨_,M,g,.inl ⟨rfl,rfl⟩,by rw[l,y],λj _=>by rw[e j,aB (by simp)]⟩
 .have a:(S.flatMap OPr.c).all pZ=true:=by rw[dG];intro x F;obtain⟨p,-,A⟩:=mU.mp F;simp only[OPr.c,dV,xN,or_false]at A;rcases A with rfl|rfl|rfl|rfl<;>rfl
  obtain⟨M,g,l,e⟩:=NH (ids:=[(m.next,5,7)]) t w rfl (ax o a) (λi b=>by
   rw[qJ]at b;subst b
   exact⟨bS _,_,_,o,a⟩)
  exact⟨_,M,g,.inr ⟨n,rfl,by rw[e,aF (by simp)];exact o⟩,by rw[l,y],λj E=>by rw[e j,aB (by simpa using E)]⟩
def x3n(g:aJ)(Z:FHs)(u:Nat){b id l M:Id}{s v w nm:AV}{i sh:Int}{n:Nat}(hn:n<=1000)(h1:b≠id)(h2:l≠id)(hsh:-10000<=sh/\sh<=10000) :
    ∀(Q A:List OPr) (j:Nat) (m:Mem) (Y:Nat),A.length+Q.length=n->(∀p∈Q,p.f.natAbs<=1000000)->Q.length<j->m.get b=some (.row [.ptr M 0 0,s,.sref id 0 0 n 4 true,v,w] 0 false)->m.get id=some (.row ((A++Q).flatMap OPr.c) 0 false)->m.get l=some (.row [nm,I sh] 0 false) ->
    ∃e,xR g Z u j (.ptr b 0 0) (.ptr l 0 0) (I i) (I n) (I A.length) m Y=some (I 0,e)/\e.next=m.next/\e.get id=some (.row ((A++Q.map (vC i sh)).flatMap OPr.c) 0 false)/\∀j,j≠id->e.get j=m.get j:=by
 intro Q;induction Q with
 |nil=>intro A j m Y N O d P t W;obtain⟨j,rfl⟩:=dD d;have hk:¬((A.length:Int)<(n:Int)):=(by simp at N;omega);simp only[xR];unfold IW VF;simp only[bV,hk,bO,aC,aT];exact⟨m,rfl,rfl,t,λ_ _=>rfl⟩
 |cons p Q ih=>
  intro A j m Y N O d P t W;obtain⟨j,rfl⟩:=dD d;have hln:A.length+(Q.length+1)=n:=(by simpa using N);have hk:((A.length:Int)<(n:Int)):=(by omega);have C:=fN OPr.len A;have D:(A++p::Q).flatMap OPr.c=A.flatMap OPr.c++([I p.pt,I p.a,I p.b,I p.f]++Q.flatMap OPr.c):=(by rw[rW,dK];rfl);have y:∀o,((A++p::Q).flatMap OPr.c).drop (A.length*4+o)=([I p.pt,I p.a,I p.b,I p.f]++Q.flatMap OPr.c).drop o:=λo=>by rw[D,<-C,n9];simp
  have ix:aV 4 (.sref id 0 0 n 4 true) (I A.length)=some (.ptr id 0 (A.length*4)):=(by simp only[aV,dF];rw[aF ⟨by omega,by omega,trivial⟩];simp);have lq:aA false 1 (.ptr b 0 (1+1)) m=some (.sref id 0 0 n 4 true):=(by rw[aQ P];rfl);have l2:aA false 1 (.ptr id 0 (A.length*4+2)) m=some (I p.b):=(by rw[aQ t,y];rfl);have l1:aA false 1 (.ptr id 0 (A.length*4+1)) m=some (I p.a):=(by rw[aQ t,y];rfl);have l3:aA false 1 (.ptr id 0 (A.length*4+3)) m=some (I p.f):=(by rw[aQ t,y];rfl);have E:aA false 1 (.ptr l 0 1) m=some (I sh):=(by rw[aQ W];rfl);have nb:∀j o,cD (.ptr j 0 o)=some (.ptr j 0 o):=λ_ _=>rfl
  have hpf:=O p (by simp);have w1:cJ ((A.length:Int)+1)=((A.length+1:Nat):Int):=(by rw[bU];omega);have wa:cJ (p.f+sh)=p.f+sh:=bU;have ws:cJ (p.f-sh)=p.f-sh:=bU;have F:∀(x:Int) {R:Type} (K:Mem->Option R),bA 1 (.ptr id 0 (A.length*4+3)) (I x) m K=K (m.set id (.row (((A++[{p with f:=x}])++Q).flatMap OPr.c) 0 false)):=λx R K=>by have hc3:((A++p::Q).flatMap OPr.c).length=(A.length+(Q.length+1))*4:=(by rw[fN OPr.len,eT];rfl);rw[iB (z:=1) (x:=I x) (k:=K) t rfl (by omega) rfl,D,<-C,KX];congr 4;rw[kU,rW];rfl
  have next:∀(J:OPr) (h:Mem) (r:Nat),J=vC i sh p->h.get b=m.get b->h.get l=m.get l->h.next=m.next->h.get id=some (.row (((A++[J])++Q).flatMap OPr.c) 0 false)->(∀j,j≠id->h.get j=m.get j) ->
   ∃e,xR g Z u j (.ptr b 0 0) (.ptr l 0 0) (I i) (I n) (I ((A.length+1:Nat):Int)) h r=some (I 0,e)/\e.next=m.next/\e.get id=some (.row ((A++(p::Q).map (vC i sh)).flatMap OPr.c) 0 false)/\∀j,j≠id->e.get j=m.get j:=by
   intro J h r X e1 e2 e3 e4 e5;obtain⟨e,k1,k2,k3,k4⟩:=ih (A++[J]) j h r (by simp;omega) (λx hx=>O x (by simp[hx])) (by simp at d;omega) (by rw[e1];exact P) e4 (by rw[e2];exact W);rw[eT]at k1;refine⟨e,k1,by rw[k2,e3],?_,λj d=>by rw[k4 j d,e5 j d]⟩;rw[k3,kU,X];rfl
  simp only[xR];unfold IW ym IX;simp only[bV,hk,bB,aC,aS,nb,cW,bW,lq,ix,l2,iD];by_cases H:i=p.b
  .simp only[eX H,aS,l3,E,aC,dS,wa,F,w1];exact next {p with f:=p.f+sh} _ _ (by unfold vC;rw[aF H]) (by rw[Mem.bG,aB h1]) (by rw[Mem.bG,aB h2]) rfl (by rw[Mem.bG,aF rfl]) (λj d=>by rw[Mem.bG,aB d])
  simp only[H,bO,aT,l1,aC,iD];by_cases L:i=p.a
  .simp only[eX L,aS,l3,E,aC,mZ,ws,F,dS,w1];exact next {p with f:=p.f-sh} _ _ (by unfold vC;rw[aB H,aF L]) (by rw[Mem.bG,aB h1]) (by rw[Mem.bG,aB h2]) rfl (by rw[Mem.bG,aF rfl]) (λj d=>by rw[Mem.bG,aB d])
  simp only[L,bO,aT,dS,aC,w1];exact next p m _ (by unfold vC;rw[aB H,aB L]) rfl rfl rfl (by rw[kU];exact t) (λ_ _=>rfl)
def W6(X:St10)(s:List UInt8)(sh:Int):Int×St10:=
 let i:=idxQ (nmQ Scene.nm ⟨s.toArray⟩) 0 X.L
 if i<0 then(6,X)else if wi sh (-10000) 10000=false then(2,X)else(0,{X with S:=X.S.map (vC i sh)})
def x64(d:Nat)(Z:FHs)(hK:∀j,K j->j.1<m.next)(hst:[A,pa,ea].all aP=true){b:Id}(l:Bk K m b (SC E O A pa ea) X)(hL:X.L.length<=1000)(hS:X.S.length<=1000)(hf:∀p∈X.S,p.f.natAbs<=1000000)(nm:List UInt8)(sh k:Int) :
    ∃u,aG (d+4) Z FD [.agg [Tx nm,I sh],.ptr b 0 0,I k] m=some (I (W6 X nm sh).1,u)/\GrP K (λj=>j=b) m u/\Bk K u b (SC E O A pa ea) (W6 X nm sh).2:=by
 rw[yba];unfold qm VE;obtain⟨g,n1,g1,k1,hM1⟩:=mQ (x:=.agg [Tx nm,I sh]) rfl (m.next,0,3) ⟨m.hp,m.next+1⟩;have a:Gr0 K m g:=jY (qA m) (.inl (bS _)) n1 k1;have g1':g.get (m.next,0,3)=some (.row [Tx nm,I sh] 0 false):=g1;obtain⟨t,s,q,v,w,fl,r1,r2,r3,r4,r5,r6,r7,r8,r9⟩:=l.cells;have rb:∀{M:Mem},Gr0 K m M->M.get b=some (.row [.ptr t 0 0,s,q,v,w] 0 false):=λh=>by rw[(h.2 b l.2.1 (λh=>h)).2 l.1];exact r1
 have r2':=r2.gr a (λ_ h=>h.elim);have l5:aA true 5 (.ptr b 0 0) g=some (.agg [.ptr t 0 0,s,q,v,w]):=(by rw[aQ (rb a)];rfl);have lq:aA false 1 (.ptr b 0 (1+1)) g=some q:=(by rw[aQ (rb a)];rfl);have nb:cD (.ptr b 0 0)=some (.ptr b 0 0):=rfl;have cc:=λx=>gp d hst r2' hL x
 have J:=l.gr a (λ_ h=>h.elim) (λh=>h);have hsm:=λn m=>KE (d+1) n (K:=10000) (by omega) m
 unfold W6;have N:=cc ⟨nm.toArray⟩;generalize idxQ (nmQ Scene.nm ⟨nm.toArray⟩) 0 X.L=i at N ⊢;simp only[hM1,nb,aC,l5,cW,bW,aQ g1',bF,dR,dE,N,bV];by_cases c1:i<0
 .simp only[c1,bB,aS,cI];exact⟨_,rfl,a.to,J⟩
 simp only[c1,bO,aT,cU,aC,hsm,eG];cases c2:wi sh (-10000) 10000 with
 |false=>simp only[cC,aS,cI];exact⟨_,rfl,a.to,J⟩
 |true=>
 have hsh:-10000<=sh/\sh<=10000:=(by unfold wi at c2;simpa using c2);obtain⟨r,M2,hcl,hR,n2,k2⟩:=yc5 (d+2) (r7.1.gr a (λ_ _ h=>h.elim)) r7.2 hS;have y:m.next<=g.next:=a.1
 have F:Gr0 K m M2:=⟨by omega,λj D hp=>by
  have:M2.get j=g.get j:=k2 j (by rintro rfl;simp at D;omega)
  rw[this];exact a.2 j D hp⟩
 have hb2:=rb F;have P:r.cells=[r]/\r.one=true:=(by rcases hR with ⟨-,rfl⟩|⟨-,rfl,-⟩<;>exact⟨rfl,rfl⟩);have Q:Rk K 4 OPr.c M2 r X.S:=by
  rcases hR with ⟨h,rfl⟩|⟨-,rfl,hg⟩
  .exact .inl ⟨rfl,h⟩
  .exact .inr (.inr ⟨(g.next,5,7),0,true,false,[],(uO hK y (by simp)),by rw[n2];exact mD _,rfl,by rw[hW];exact hg,rfl⟩)
 have hRn:X.S=[]->r=nilS:=λh=>by
  rcases hR with ⟨-,e⟩|⟨e,-⟩
  .exact e
  .exact absurd h e
 obtain⟨M3,hM3,hB3,n3,k3,R⟩:=Bk.put (k:=2) (v:=r) l.1 (by have:=l.2.1;omega) hb2 (by simp) P.1 P.2 ((r2.gr F (λ_ h=>h.elim)).setS Q hRn);have H:GrP K (λj=>j=b) m M3:=jY F.to (.inr rfl) n3 k3;have hb3':M3.get b=some (.row [.ptr t 0 0,s,r,v,w] 0 false):=R;have lr:aA false 1 (.ptr b 0 (1+1)) M3=some r:=(by rw[aQ hb3'];rfl);have hrl:aM prog mW r=some (I X.S.length):=Q.len BX;unfold yk;simp only[cE,aT,Bool.true_eq_false,cU,lq,aC,hcl,nb,cW,bW,hM3,lr,hrl];rcases hR with ⟨Y,rfl⟩|⟨Y,rfl,hg⟩
 .have hX:({X with S:=X.S.map (vC i sh)}:St10)=X:=(by cases X;simp only at Y;subst Y;rfl);rw[hX,Y];obtain⟨NM,hNM⟩:∃NM,NN=NM+1:=⟨NN-1,by have:=dB;omega⟩;rw[hNM];simp only[xR];unfold IW VF;simp only[bV,jA,show decide ((0:Int)<((0:Nat):Int))=false from rfl,aC,aT];exact⟨M3,rfl,H,hB3⟩
 .have o:b≠(g.next,5,7):=λh=>by have:=l.2.1;rw[h]at this;simp at this;omega
  have C:((m.next,0,3):Id)≠(g.next,5,7):=λh=>by simp[Prod.ext_iff]at h
  have W:M3.get (g.next,5,7)=some (.row (([]++X.S).flatMap OPr.c) 0 false):=(by rw[k3 _ (Ne.symm o)];exact hg);have h33:M3.get (m.next,0,3)=some (.row [Tx nm,I sh] 0 false):=(by rw[k3 _ (λh=>by have:=l.2.1;rw[<-h]at this;simp at this),k2 _ C];exact g1');obtain⟨u,e1,e2,e3,e4⟩:=x3n (aG (d+3)) Z m.next (i:=i) hS o C hsh X.S [] NN M3 (0+28+7) (by simp) hf (by rw[dB];omega) hb3' W h33;have e1':xR (aG (d+3)) Z m.next NN (.ptr b 0 0) (.ptr (m.next,0,3) 0 0) (I i) (I X.S.length) (I 0) M3 (28+7)=some (I 0,u):=e1;have hg':GrP K (λj=>j=b) m u:=⟨by rw[e2];exact H.1,λj D hp=>by rw[e4 j (by rintro rfl;simp at D;omega)];exact H.2 j D hp⟩;have hbm:u.get b=some (.row (cH [.ptr t 0 0,s,q,v,w] 2 [.sref (g.next,5,7) 0 0 X.S.length 4 true]) 0 false):=(by rw[e4 b o];exact R);refine⟨u,e1',hg',l.1,by have:=l.2.1;have:=hg'.1;omega,_,hbm,(r2.gr hg' (λj D=>by rw[D];exact l.1)).setS ?_ (λh=>absurd (List.map_eq_nil_iff.mp h) Y)⟩;exact .inr (.inr ⟨(g.next,5,7),0,true,false,[],(uO hK y (by simp)),by rw[e2,n3,n2];exact mD _,by rw[qK],by rw[hW];exact e3,rfl⟩)
open Go.Proofs
def CZ(l:List Int):(l.flatMap intE).length=l.length:=by rw[fN wQ,oN]
def xei(A B:List Int)(y:Int):((A++y::B).flatMap intE).drop A.length=I y::B.flatMap intE:=by have h:=CZ A;rw[rW,dK,<-h,List.drop_left];rfl
def DA(id:Id){n k:Nat}(a:k<n):aV 1 (.sref id 0 0 n 1 true) (I k)=some (.ptr id 0 k):=by simp only[aV,dF];rw[aF ⟨by omega,by omega,trivial⟩];simp
def xbo(d:Nat)(Z:FHs){a:Id}{x:Int}{b:Bool}(y:Int)(m:Mem)(e:m.get a=some (.row [I x] 0 b)):fD (aG (d+1)) Z 2 (.clo rM [.ptr a 0 0]) [I y] m=some (B (decide (y=x)),⟨m.hp,m.next+1⟩):=by show aG (d+1) Z rM ([I y]++[.ptr a 0 0]) m=_;rw[iO,iX,ybc];unfold qo aU VH;have hg':(⟨m.hp,m.next+1⟩:Mem).get a=some (.row [I x] 0 b):=e;simp only[aQ hg',bF,dE,aC,iD]
def x28(d:Nat)(Z:FHs)(u:Nat){id i7:Id}{x:Int}{i:Bool}{n:Nat}(w:n<=1000):∀(B A:List Int) (j:Nat) (m:Mem) (Y:Nat),A.length+B.length=n->B.length<j->m.get id=some (.row ((A++B).flatMap intE) 0 false)->m.get i7=some (.row [I x] 0 i) ->
    ∃q,m.next<=q/\vJ (aG (d+1)) Z u j (.sref id 0 0 n 1 true) (.clo rM [.ptr i7 0 0]) (I n) (I A.length) m Y=some (I (idxQ (λy=>decide (y=x)) A.length B),⟨m.hp,q⟩):=by
 intro B;induction B with
 |nil=>intro A j m Y b a f g;obtain⟨j,rfl⟩:=dD a;have h:¬((A.length:Int)<(n:Int)):=(by simp at b;omega);simp only[vJ];unfold BD RX;simp only[bV,h,bO,aC,aT];exact⟨m.next,bS _,rfl⟩
 |cons y B t=>
  intro A j m Y b a f g;obtain⟨j,rfl⟩:=dD a;have l:A.length+(B.length+1)=n:=(by simpa using b);have h:((A.length:Int)<(n:Int)):=(by omega);have ld:aA false 1 (.ptr id 0 A.length) m=some (I y):=(by rw[aQ f,xei];rfl);have o:cJ ((A.length:Int)+1)=((A.length+1:Nat):Int):=(by rw[bU];omega);simp only[vJ];unfold BD;simp only[bV,h,bB,aC,aS,DA id (show A.length<n by omega),ld,xbo d Z y m g,idxQ];by_cases c:y=x
  .simp only[c,bB,aS,cond_true];exact⟨m.next+1,tJ _,rfl⟩
  .obtain⟨q,r,e⟩:=t (A++[y]) j ⟨m.hp,m.next+1⟩ (Y+11) (by simp;omega) (by simp at a;omega) (by rw[kU];exact f) g;have p:(((A++[y]).length:Nat):Int)=((A.length+1:Nat):Int):=(by simp);rw[p]at e;simp only[c,bO,aT,dS,aC,o,cond_false];refine⟨q,by have:m.next+1<=q:=r;omega,?_⟩;rw[e];congr
def xmx(k:Nat):(eQ gI k).all aP=true:=by rw[nQ];unfold eQ;rw[dG];intro a b;obtain⟨i,-,rfl⟩:=fR.mp b;show aP ([I 0].getD (i % 1) _)=true;rw[Nat.mod_one];rfl
def x3h(d:Nat)(Z:FHs)(u:Nat){id i7:Id}{x:Int}{f7:Bool}{n:Nat}(hn:n<=1000)(h7:i7≠id):∀(B F G:List Int) (j:Nat) (m:Mem) (Y:Nat),F.length+G.length+B.length=n->1<=G.length->B.length<j->m.get id=some (.row ((F++G++B).flatMap intE) 0 false)->m.get i7=some (.row [I x] 0 f7) ->
    ∃i b,AA (aG (d+1)) Z u j (.sref id 0 0 n 1 true) (.clo rM [.ptr i7 0 0]) (I F.length) (I (F.length+G.length:Nat)) m Y=some (.sref id 0 0 (F++B.filter λy=>!decide (y=x)).length 1 true,i)/\b.all aP=true/\i.get id=some (.row ((F++B.filter λy=>!decide (y=x)).flatMap intE++b) 0 false)/\m.next<=i.next/\∀j,j≠id->i.get j=m.get j:=by
 intro B;induction B with
 |nil=>
  intro F G j m Y H hG f o E;obtain⟨j,rfl⟩:=dD f;have hl':F.length+G.length=n:=(by simpa using H);have J:¬(((F.length+G.length:Nat):Int)<(n:Int)):=(by omega);have g:aM prog fE (.sref id 0 0 n 1 true)=some (I n):=rfl;have s1:dZ prog fE (.sref id 0 0 n 1 true) (some (I F.length)) none=some (.sref id 0 (0+(F.length:Int).toNat) (n-(F.length:Int).toNat) 1 true):=xc6 (by omega) (by omega);have s2:dZ prog fE (.sref id 0 0 n 1 true) none (some (I F.length))=some (.sref id 0 0 (F.length:Int).toNat 1 true):=xrm (by omega) (by omega);have p:((F++G++[]).flatMap intE).length=n:=(by rw[CZ];simp;omega);simp only[AA];unfold SH xf;simp only[g,bV,J,bO,aC,aT,s1,s2];have t:∀{R:Type} (K:AV->Mem->Option R),CT gI 1 (.sref id 0 (0+(F.length:Int).toNat) (n-(F.length:Int).toNat) 1 true) m K=K (.tup []) (m.set id (.row (cH ((F++G++[]).flatMap intE) (0+(F.length:Int).toNat) (eQ gI ((n-(F.length:Int).toNat)*1))) 0 false)):=λK=>by simp only[CT,o];rw[aF ⟨trivial,trivial,by rw[p];simp;omega⟩]
  rw[t];generalize l:m.set id _=M;refine⟨M,eQ gI ((n-(F.length:Int).toNat)*1),by simp,xmx _,?_,by rw[<-l];exact bS _,λj f=>by rw[<-l,Mem.bG,aB f]⟩;rw[<-l,Mem.bG,aF rfl];have hz:(eQ gI ((n-(F.length:Int).toNat)*1)).length=n-F.length:=(by unfold eQ;simp);congr 2;have L:=CZ F;unfold cH;rw[mE (by rw[p,hz];simp;omega)];simp only[jF,bW,List.filter_nil,hW,rW];rw[<-L,List.take_left]
 |cons y B ih=>
  intro F G j m Y H hG f o E;obtain⟨j,rfl⟩:=dD f;have N:F.length+G.length+(B.length+1)=n:=(by simpa using H);have J:(((F.length+G.length:Nat):Int)<(n:Int)):=(by omega);have g:aM prog fE (.sref id 0 0 n 1 true)=some (I n):=rfl;have O:(F++G).length=F.length+G.length:=(by simp);have ld:aA false 1 (.ptr id 0 (F.length+G.length)) m=some (I y):=(by rw[aQ o,<-O,xei];rfl);have w1:cJ (((F.length+G.length:Nat):Int)+1)=((F.length+G.length+1:Nat):Int):=(by rw[bU];omega);have w2:cJ ((F.length:Int)+1)=((F.length+1:Nat):Int):=(by rw[bU];omega);simp only[AA];unfold SH xe SI;simp only[g,bV,J,bB,aC,aS,DA id (show F.length+G.length<n by omega),ld,xbo d Z y m E,eG];by_cases c:y=x
  .obtain⟨i,b,D,A,C,e4,X⟩:=ih F (G++[y]) j ⟨m.hp,m.next+1⟩ (Y+4+9+3) (by simp;omega) (by simp) (by simp at f;omega) (by
    have:F++(G++[y])++B=F++G++y::B:=by simp
    rw[this];exact o) E
   have P:((F.length+(G++[y]).length:Nat):Int)=((F.length+G.length+1:Nat):Int):=(by simp;omega);rw[P]at D;have Q:(y::B).filter (λy=>!decide (y=x))=B.filter λy=>!decide (y=x):=by simp[c]
   rw[Q];simp only[c,bB,cE,aT,dS,aC,w1];exact⟨i,b,D,A,C,Nat.le_of_succ_le e4,λj f=>X j f⟩
  .obtain⟨h,e,rfl⟩:∃h e,G=h::e:=by
    cases G with
    |nil=>simp at hG
    |cons a r=>exact⟨a,r,rfl⟩
   have W:(F++h::e++y::B).flatMap intE=F.flatMap intE++(I h::(e++y::B).flatMap intE):=(by rw[kU,rW,iO,dK];rfl);have L:=CZ F;have w:∀{R:Type} (K:Mem->Option R),bA 1 (.ptr id 0 F.length) (I y) ⟨m.hp,m.next+1⟩ K=K ((⟨m.hp,m.next+1⟩:Mem).set id (.row ((F++[y]++(e++[y])++B).flatMap intE) 0 false)):=λK=>by have g1':(⟨m.hp,m.next+1⟩:Mem).get id=some (.row ((F++h::e++y::B).flatMap intE) 0 false):=o;rw[iB (z:=1) (x:=I y) (k:=K) g1' rfl (by rw[CZ];simp) rfl,W];have A:(F++[y]++(e++[y])++B).flatMap intE=F.flatMap intE++(I y::(e++y::B).flatMap intE):=(by rw[show F++[y]++(e++[y])++B=F++(y::(e++y::B)) by simp,rW];rfl);have C:cH (F.flatMap intE++(I h::(e++y::B).flatMap intE)) F.length (I y).cells=F.flatMap intE++(I y::(e++y::B).flatMap intE):=(by have:=KX (F.flatMap intE) (I h::(e++y::B).flatMap intE) [I y] 0;rw[nK,L]at this;exact this);rw[A,C]
   generalize l:(⟨m.hp,m.next+1⟩:Mem).set id (.row ((F++[y]++(e++[y])++B).flatMap intE) 0 false)=M at w;have gM:M.get id=some (.row ((F++[y]++(e++[y])++B).flatMap intE) 0 false):=(by rw[<-l,Mem.bG,aF rfl]);have fM:∀j,j≠id->M.get j=m.get j:=λj f=>by rw[<-l,Mem.bG,aB f];rfl
   have nM:M.next=m.next+1:=(by rw[<-l];rfl);obtain⟨i,b,D,A,C,e4,X⟩:=ih (F++[y]) (e++[y]) j M (Y+4+17+3) (by simp;simp at N;omega) (by simp) (by simp at f;omega) gM (by rw[fM _ h7];exact E);have P:(((F++[y]).length+(e++[y]).length:Nat):Int)=((F.length+(h::e).length+1:Nat):Int):=(by simp;omega);have hB:(((F++[y]).length:Nat):Int)=((F.length+1:Nat):Int):=(by simp);rw[P,hB]at D;have Q:F++(y::B).filter (λy=>!decide (y=x))=F++[y]++B.filter λy=>!decide (y=x):=by simp[c]
   rw[Q];simp only[c,bO,cC,aS,DA id (show F.length<n by omega),w,dS,aC,w1,w2];exact⟨i,b,D,A,C,by omega,λj f=>by rw[X j f,fM j f]⟩
def xhn{α:Type}(q:α->Bool):∀(l:List α),l.any q=true->∃A y B,l=A++y::B/\q y=true/\(∀a∈A,q a=false)/\∀k:Int,idxQ q k l=k+A.length
 |[],h=>by simp at h
 |x::r,h=>by
  cases d:q x with
  |true=>exact⟨[],x,r,rfl,d,λa b=>by(cases b),λk=>by rw[idxQ,d];simp⟩
  |false=>
   rw[Y4,d,IB]at h;obtain⟨A,y,B,e,f,g,i⟩:=xhn q r h;refine⟨x::A,y,B,by rw[e];rfl,f,λa b=>?_,λk=>?_⟩
   .rcases dV.mp b with rfl|b
    .exact d
    .exact g a b
   .rw[idxQ,d,cond_false,i,dW];push_cast;omega
def xpo(d:Nat)(Z:FHs){id f:Id}{x:Int}{w:Bool}{L:List Int}(i:L.length<=1000)(C:f≠id)(D:(L.any λy=>decide (y=x))=true){m:Mem}(t:m.get id=some (.row (L.flatMap intE) 0 false))(u:m.get f=some (.row [I x] 0 w)) :
    ∃g b,aG (d+3) Z R0 [.sref id 0 0 L.length 1 true,.clo rM [.ptr f 0 0]] m=some (.sref id 0 0 (L.filter λy=>!decide (y=x)).length 1 true,g)/\b.all aP=true/\g.get id=some (.row ((L.filter λy=>!decide (y=x)).flatMap intE++b) 0 false)/\m.next<=g.next/\∀j,j≠id->g.get j=m.get j:=by
 obtain⟨A,y,B,rfl,M,N,O⟩:=xhn _ L D;have l:y=x:=(by simpa using M);rw[x9q];unfold nq aU SG;obtain⟨q,P,e⟩:=x28 d Z (m.next+1) (id:=id) (i7:=f) (x:=x) i (A++y::B) [] NN ⟨m.hp,m.next+1+1⟩ (0+1+3) (by simp) (by rw[dB];omega) (by rw[iX];exact t) u;have n:aG (d+2) Z C9 [.sref id 0 0 (A++y::B).length 1 true,.clo rM [.ptr f 0 0]] ⟨m.hp,m.next+1⟩=some (I A.length,⟨m.hp,q⟩):=(by rw[xjo];unfold OT aU IM RW;have h:aM prog fE (.sref id 0 0 (A++y::B).length 1 true)=some (I (A++y::B).length):=rfl;simp only[h,aC];have e':vJ (aG (d+1)) Z (m.next+1) NN (.sref id 0 0 (A++y::B).length 1 true) (.clo rM [.ptr f 0 0]) (I (A++y::B).length) (I 0) ⟨m.hp,m.next+1+1⟩ (0+1+3)=_:=e;rw[e',O];simp);have o:decide ((A.length:Int)=-1)=false:=fU (by omega);have H:A.length+(B.length+1)<=1000:=(by simpa using i);have J:cJ ((A.length:Int)+1)=((A.length+[y].length:Nat):Int):=(by rw[bU];simp);unfold xd;simp only[n,aC,iD,o,aT,dS,J];have p:A++[y]++B=A++y::B:=(by simp);obtain⟨g,b,Q,R,W,X,Y⟩:=x3h (d+1) Z m.next (id:=id) (i7:=f) (x:=x) i C B A [y] NN ⟨m.hp,q⟩ (0+7+3) (by simp;omega) (by simp) (by rw[dB];omega) (by rw[p];exact t) u;have r:A.filter (λy=>!decide (y=x))=A:=HV.mpr λa E=>by rw[N a E];rfl
 have K:(A++y::B).filter (λy=>!decide (y=x))=A++B.filter λy=>!decide (y=x):=by rw[xQ,r];simp[l]
 rw[K];exact⟨g,b,Q,R,W,by have:q<=g.next:=X;have:m.next+1+1<=q:=P;omega,λj F=>Y j F⟩
def x6n(a:List AV)(n:Nat)(x:Bool):bP prog .eql fE (.tmp 3) (.const (.slice none 0 0)) (.aN a n x) nilS=some (B false):=by kernel_rfl
def yc6(d:Nat){q:AV}{S:List Int}(h:Rk K 1 intE m q S)(o:S≠[])(P:S.length<=1000):∃M,uI (aG (d+1)) yW [q] m=some (.sref (m.next,5,7) 0 0 S.length 1 true,M)/\M.get (m.next,5,7)=some (.row (S.flatMap intE) 0 false)/\M.next=m.next+1/\∀j,j≠(m.next,5,7)->M.get j=m.get j:=by
 obtain⟨l,E,t⟩:=h.frz wQ F4 4;have D:[q].mapM (Go.Ix.frz m.get bR)=some [l]:=(by have q1':Go.Ix.frz m.get bR q=some l:=E;simp only[eO,gS,q1'];rfl);have f:∃e,aG (d+1) [] yW [l] ⟨[],m.next⟩=some (.sref (m.next,5,7) 0 0 S.length 1 true,e)/\e.get (m.next,5,7)=some (.row (S.flatMap intE) 0 false)/\e.next=m.next+1:=by
  rw[xjq];unfold OV bQ IP;have F:cF S.length 8:=(by unfold cF;omega);have g:=gz wQ t F (m.next,5,7) (⟨[],m.next+1⟩:Mem);rcases t with ⟨rfl,rfl⟩|⟨b,rfl⟩
  .exact absurd rfl o
  .rcases g with ⟨rfl,y⟩|⟨O,y⟩
   .exact absurd rfl o
   .refine⟨(⟨[],m.next+1⟩:Mem).new (m.next,5,7) (.row (S.flatMap intE) 0 false),?_,by simp,rfl⟩;simp[x6n];exact y _
 obtain⟨e,H,n,J⟩:=f;have a:(S.flatMap intE).all pZ=true:=by rw[dG];intro x C;obtain⟨p,-,u⟩:=mU.mp C;simp only[intE,dV,xN,or_false]at u;rw[u];rfl
 obtain⟨M,L,N,w⟩:=NH (ids:=[(m.next,5,7)]) D H rfl (ax n a) (λi r=>by
  rw[qJ]at r;subst r
  exact⟨bS _,_,_,n,a⟩)
 exact⟨M,L,by rw[w,aF (by simp)];exact n,by rw[N,J],λj A=>by rw[w j,aB (by simpa using A)]⟩
def xC(O E:Int)(W:List Bd)(J:List Pn)(X:St10)(n:List UInt8):Int×St10:=
 let i:=idxQ (nmQ Bd.nm ⟨n.toArray⟩) 0 W
 if i<0 then(6,X)else if(X.C.any λy=>decide (y=i))=false\/xF O E W J X i.toNat=2 then(24,X)else(0,{X with C:=X.C.filter λy=>!decide (y=i)})
def xar:gI.length=1:=by rw[nQ];rfl
def x66(d:Nat)(Z:FHs)(hK:∀j,K j->j.1<m.next)(hO:SuOK E O A pa ea W J C)(hX:XOK (d+8) X){b:Id}(R:Bk K m b (SC E O A pa ea) X)(n:List UInt8)(k:Int) :
    ∃m',aG (d+17) Z FF [Tx n,.ptr b 0 0,I k] m=some (I (xC O E W J X n).1,m')/\GrP K (λj=>j=b) m m'/\Bk K m' b (SC E O A pa ea) (xC O E W J X n).2:=by
 rw[ybd];unfold qp VI;obtain⟨M0,H⟩:∃p:Mem,p=⟨m.hp,m.next+1⟩:=⟨_,rfl⟩;have e:Gr0 K m M0:=(by rw[H];exact qA m);have n0:M0.next=m.next+1:=(by rw[H]);obtain⟨N,s,q,v,w,fl,r1,r2,r3,r4,r5,r6,r7,r8,r9⟩:=R.cells;have rb:∀{M:Mem},Gr0 K m M->M.get b=some (.row [.ptr N 0 0,s,q,v,w] 0 false):=λh=>by rw[(h.2 b R.2.1 (λh=>h)).2 R.1];exact r1
 have l5:∀{M:Mem},Gr0 K m M->aA true 5 (.ptr b 0 0) M=some (.agg [.ptr N 0 0,s,q,v,w]):=λh=>by rw[aQ (rb h)];rfl
 have lw:∀{M:Mem},Gr0 K m M->aA false 1 (.ptr b 0 (1+3)) M=some w:=λh=>by rw[aQ (rb h)];rfl
 have nb:cD (.ptr b 0 0)=some (.ptr b 0 0):=rfl;have F:∀{M:Mem},Gr0 K m M->Bk K M b (SC E O A pa ea) X:=λh=>R.gr h (λ_ h=>h.elim) (λh=>h)
 have cb:fC (aG (d+16)) wJ [.agg [.ptr N 0 0,s,q,v,w],Tx n] M0=some (I (idxQ (nmQ Bd.nm ⟨n.toArray⟩) 0 W),M0):=xj1 (d+13) hO.st (r2.gr e (λ_ h=>h.elim)) hO.b hO.bn _;rw[<-H];unfold xC;rcases F6 (nmQ Bd.nm ⟨n.toArray⟩) W 0 with ⟨h0,-⟩|⟨i,h0,hi,-⟩
 .rw[h0]at cb ⊢;obtain⟨p,n1,g1,k1,P⟩:=oL (z:=1) (cs:=gI) (x:=I (-1)) rfl rfl xar (m.next,6,7) M0;have a:Gr0 K m p:=jY e (.inl (bS _)) n1 k1;have l7:aA false 1 (.ptr (m.next,6,7) 0 0) p=some (I (-1)):=(by rw[aQ g1];rfl);simp only[nb,aC,l5 e,cb,bW,P,l7,bV,show((-1:Int)<0)from by decide,cI];exact⟨p,rfl,a.to,F a⟩
 rw[h0,jv]at cb ⊢;have hi0:¬((i:Int)<0):=(by omega);obtain⟨p,n1,g1,k1,P⟩:=oL (z:=1) (cs:=gI) (x:=I (i:Int)) rfl rfl xar (m.next,6,7) M0;have a:Gr0 K m p:=jY e (.inl (bS _)) n1 k1;have g1':p.get (m.next,6,7)=some (.row [I (i:Int)] 0 false):=g1;have l7:aA false 1 (.ptr (m.next,6,7) 0 0) p=some (I (i:Int)):=(by rw[aQ g1'];rfl);obtain⟨rc,M2,hq,hcon,n2,g2⟩:=(r9.gr a (λ_ _ h=>h.elim)).eR (Q:=λr=>r=B (X.C.any λy=>decide (y=(i:Int)))) (call:=aG (d+16)) (f:=yV) wQ F4 [I (i:Int)] rfl
  λa' ha=>⟨_,rfl,λm=>xbz (d+14) ha (by have:=hX.C;omega) m⟩
 subst hq;have g:Gr0 K m M2:=a.trans g2;simp only[nb,aC,l5 e,cb,bW,P,l7,bV,hi0,bO,aT,cU,cW,lw a,hcon,eG,fA,dO,fI,jF];cases c1:X.C.any λy=>decide (y=(i:Int))with
 |false=>simp only[cC,dQ,cE,cT,aC,cS,bC,aS,true_or,cI];exact⟨_,rfl,g.to,F g⟩
 |true=>
 have hi7:((m.next,6,7):Id).1<p.next:=(by rw[n1,n0];exact mD _);obtain⟨f2,g2'⟩:=SimO.row (g2.2 (m.next,6,7) hi7 (λh=>h)).1 g1';have l72:aA false 1 (.ptr (m.next,6,7) 0 0) M2=some (I (i:Int)):=(by rw[aQ g2'];rfl);obtain⟨va,M3,⟨ys,yo,yl,rfl,-⟩,hans,n3,g3⟩:=xj2 d hO hX (r2.gr g (λ_ h=>h.elim)) hi;have hai:xF O E W J X i=nI X.L X.S O E W[i] J:=(by unfold xF;rw[gE hi]);have o:Gr0 K m M3:=g.trans g3;have fld:N5 false 1 0 (.agg [I (nI X.L X.S O E W[i] J),ys,yo,yl])=some (I (nI X.L X.S O E W[i] J)):=rfl;simp only[cE,dQ,cC,bC,aC,nb,l5 g,l72,hans,fld,iD,cS,cT,Bool.true_eq_false,false_or,hai];by_cases c2:nI X.L X.S O E W[i] J=2
 .simp only[c2,bB,aS,cI];exact⟨_,rfl,o.to,F o⟩
 have hC0:X.C≠[]:=λh=>by rw[h]at c1;cases c1
 obtain⟨M4,hcl,hr4,n4,k4⟩:=yc6 (d+15) (r9.gr o (λ_ _ h=>h.elim)) hC0 (by have:=hX.C;omega);have u:((m.next,6,7):Id)≠(M3.next,5,7):=λh=>by simp[Prod.ext_iff]at h
 obtain⟨f3,g3'⟩:=SimO.row ((g2.trans g3).2 (m.next,6,7) hi7 (λh=>h)).1 g1';obtain⟨M5,rest,hdel,hrs,hr5,n5,k5⟩:=xpo (d+13) Z (by have:=hX.C;omega) u c1 hr4 (by rw[k4 _ u];exact g3');have hdel':aG (d+16) Z R0 [.sref (M3.next,5,7) 0 0 X.C.length 1 true,.clo rM [.ptr (m.next,6,7) 0 0]] M4=_:=hdel;have D:∀j:Id,j.1<m.next->j≠(M3.next,5,7):=λj Y h=>by rw[h]at Y;simp at Y;omega
 have t:Gr0 K m M5:=⟨by omega,λj Y hp=>by rw[k5 j (D j Y),k4 j (D j Y)];exact o.2 j Y hp⟩
 obtain⟨M6,hM6,hB6,n6,k6,-⟩:=Bk.put (k:=4) (v:=.sref (M3.next,5,7) 0 0 (X.C.filter λy=>!decide (y=(i:Int))).length 1 true) R.1 (by have:=R.2.1;have:=t.1;omega) (rb t) (by simp) rfl rfl ((r2.gr t (λ_ h=>h.elim)).setC (l:=X.C.filter λy=>!decide (y=(i:Int)))
  (.inr (.inr ⟨(M3.next,5,7),0,true,false,rest,(uO hK (by show m.next<=M3.next;omega) (by simp)),by show M3.next<M5.next;omega,rfl,hr5,hrs⟩)))
 simp only[c2,bO,aT,cU,lw o,aC,hcl,hdel',hM6];exact⟨M6,rfl,jY t.to (.inr rfl) n6 k6,hB6⟩
open Go.Proofs
def x27(d:aJ)(Z:FHs)(u:Nat){a:AV}{l:List (List UInt8)}(h:Sl dC a l)(t:l.length<=100000)(x:List UInt8):∀(b:List (List UInt8)) (k j:Nat) (m:Mem) (Y:Nat),l.drop k=b->b.length<j ->
    I9 d Z u j a (Tx x) (I l.length) (I k) m Y=some (I (idxQ (λw=>decide (x=w)) k b),m):=by
 intro b;induction b with
 |nil=>intro k j m Y f g;obtain⟨j,rfl⟩:=dD g;have i:¬((k:Int)<(l.length:Int)):=(by have:=gF.mp f;omega);simp only[I9];unfold RT wr;simp only[bV,i,bO,aC,aT,idxQ]
 |cons e r p=>
  intro k j m Y f g;obtain⟨j,rfl⟩:=dD g;obtain⟨i,y,n⟩:=gB f;have hk':(k:Int)<(l.length:Int):=(by omega);have ix:=h.ix nT i;have ld:aA false 1 (.aH ((l.drop k).flatMap dC)) m=some (Tx e):=(by rw[f,dK];rfl);have o:=gJ k (by omega);simp only[I9];unfold RT;simp only[bV,hk',bB,aC,aS,ix,ld,oT,idxQ];by_cases c:x=e
  .simp only[c,bB,aS,cond_true]
  .simp only[c,bO,aT,dS,aC,o,cond_false];exact p (k+1) j m (Y+11) n (by simp at g;omega)
def xpv(d:Nat){a:AV}{l:List (List UInt8)}(h:Sl dC a l)(f:l.length<=100000)(x:List UInt8)(m:Mem):aI (aG (d+2)) R3 [a,Tx x] m=some (B (decide (x∈l)),m):=by
 have b:∀m,aI (aG (d+1)) EC [a,Tx x] m=some (I (idxQ (λw=>decide (x=w)) 0 l),m):=λm=>by refine eY (by rw[dY,h.bD];rfl) ?_ m;rw[x9j];unfold nf aU RS wq;have e:=x27 (aG d) [] 0 h f x l 0 NN ⟨[],1⟩ 4 rfl (by rw[dB];omega);have e':I9 (aG d) [] 0 NN a (Tx x) (I l.length) (I 0) ⟨[],1⟩ 4=_:=e;simp only[h.len vO,aC,mem0];rw[e'];exact RetF.st rfl rfl
 refine eY (by rw[dY,h.bD];rfl) ?_ m;rw[x9r];unfold nr aU SJ;simp only[b,aC,sG,mem0];refine RetF.st rfl ?_;have g:=dt (λw=>decide (x=w)) l;have:(l.any λw=>decide (x=w))=decide (x∈l):=(by rw[PE,I3,mP];simp);rw[<-this,<-g]
def B5(k:List UInt8)(w:List (List UInt8)):Option Act10:=
 if k=cx then LJ w else if k=cy then LK w else if k=dc then LN w else if k=cz then LM w else if k=db then bc w else if k=cw then az w else none
def x31(d:Nat){k:List UInt8}{w:List (List UInt8)}{r:Int}{n:Nat}{f:FuncId}(h:kR k=some (r,n,f))(g:w.length=n)(i:∀x∈w,x.length<=100000):H9 (d+6) f w (B5 k w):=by
 unfold kR at h;unfold B5;split at h
 .rename_i c;cases h;rw[aF c];match w,g with
  |[a,b,c],_=>exact xtu d (i b (by simp)) (i c (by simp))
 rename_i j;rw[aB j];split at h
 .rename_i c;cases h;rw[aF c];match w,g with
  |[a,b,c,e],_=>exact xtt d (i e (by simp))
 rename_i l;rw[aB l];split at h
 .rename_i c;cases h;rw[aF c];match w,g with
  |[a,b],_=>exact xts d (i b (by simp))
 rename_i m;rw[aB m];split at h
 .rename_i c;cases h;rw[aF c];match w,g with
  |[a,b,c,e],_=>exact xtr d (i c (by simp)) (i e (by simp))
 rename_i o;rw[aB o];split at h
 .rename_i c;cases h;rw[aF c];match w,g with
  |[a],_=>exact xtq d a
 rename_i p;rw[aB p];split at h
 .rename_i c;cases h;rw[aF c];match w,g with
  |[a],_=>exact xtp d a
 .cases h
def W4(O E:Int)(W:List Bd)(J:List Pn)(X:St10)(g:Int):Act10->Int×St10
 | .scene n d b=>W2 X n d b
 | .pair p a b f=>W3 J X p a b f
 | .corr s f=>W6 X s f
 | .level p s v e=>W5 J X g p s v e
 | .conf b=>xB O E W J X b
 | .clos b=>xC O E W J X b
def lG(O E:Int)(W:List Bd)(J:List Pn)(X:St10)(b:Int)(t:List UInt8):Int×St10:=
 if pD t≠0 then(pD t,X)else match kR (bH t).1 with
  |none=>(15,X)
  |some (_,n,_)=>if(cL 32 (bH t).2.1).length≠n\/[]∈cL 32 (bH t).2.1 then(7,X)else match B5 (bH t).1 (cL 32 (bH t).2.1)with
   |none=>(7,X)
   |some a=>W4 O E W J X b a
def x2b(n:List UInt8)(d b:Int):pY prog (Act10.scene n d b).v "swath/office.do" = some (EZ,.agg [Tx n,I d,I b]):=by kernel_rfl
def x2c(p a b:List UInt8)(f:Int):pY prog (Act10.pair p a b f).v "swath/office.do" = some (FA,.agg [Tx p,Tx a,Tx b,I f]):=by kernel_rfl
def x2f(s:List UInt8)(f:Int):pY prog (Act10.corr s f).v "swath/office.do" = some (FD,.agg [Tx s,I f]):=by kernel_rfl
def x2d(p s:List UInt8)(v e:Int):pY prog (Act10.level p s v e).v "swath/office.do" = some (FC,.agg [Tx p,Tx s,I v,I e]):=by kernel_rfl
def x2e(b:List UInt8):pY prog (Act10.conf b).v "swath/office.do" = some (FE,Tx b):=by kernel_rfl
def x2a(b:List UInt8):pY prog (Act10.clos b).v "swath/office.do" = some (FF,Tx b):=by kernel_rfl
def U6{a:aJ}{Z:FHs}{rv r:AV}{f:FuncId}{b:List AV}(h:pY prog rv "swath/office.do" = some (f,r))(m:Mem):V6 prog a Z 2 rv "swath/office.do" b m=a Z f (r::b) m:=by unfold V6;rw[h];show a Z f ((r::b)++[]) m=_;rw[hW]
def x67(d:Nat)(Z:FHs)(l:∀j,K j->j.1<m.next)(h:SuOK E O A pa ea W J C)(i:XOK (d+8) X){b:Id}(o:Bk K m b (SC E O A pa ea) X)(g:Int){a:Act10}(x:∀n d b,a=.scene n d b->n.length<=1000) :
    ∃t,V6 prog (aG (d+17)) Z 2 a.v "swath/office.do" [.ptr b 0 0,I g] m=some (I (W4 O E W J X g a).1,t)/\GrP K (λj=>j=b) m t/\Bk K t b (SC E O A pa ea) (W4 O E W J X g a).2:=by
 have r:X.L.length<=1000:=(by have:=i.L;omega);cases a with
 |scene n u w=>rw[U6 (x2b n u w)];exact x61 (d+13) Z l h.st o r (x n u w rfl) u w g
 |pair p a c f=>rw[U6 (x2c p a c f)];exact x62 (d+13) Z l h.st h.p h.pn o r i.S p a c f g
 |corr s f=>rw[U6 (x2f s f)];exact x64 (d+13) Z l h.st o r i.S (λp y=>by have:=i.f p y;omega) s f g
 |level p s v e=>rw[U6 (x2d p s v e)];exact x63 (d+13) Z l h.st h.p h.pn o r i.V p s v e g
 |conf n=>rw[U6 (x2e n)];exact x65 d Z l h i o n g
 |clos n=>rw[U6 (x2a n)];exact x66 d Z l h i o n g
def xfd{mk:Int->Int->Act10}{N:Option (List Int)}{a:Act10}(h:yR mk N=some a):∃d e,a=mk d e:=by
 unfold yR at h;split at h
 .cases h;exact⟨_,_,rfl⟩
 .cases h
def xff{mk:Int->Act10}{N:Option (List Int)}{a:Act10}(h:yS mk N=some a):∃d,a=mk d:=by
 unfold yS at h;split at h
 .cases h;exact⟨_,rfl⟩
 .cases h
def xtf{k:List UInt8}{w:List (List UInt8)}{n:List UInt8}{d b:Int}(h:B5 k w=some (.scene n d b)):n∈w:=by
 unfold B5 at h;split at h
 .unfold LJ at h;split at h
  .obtain⟨_,_,e⟩:=xfd h;cases e;simp
  .cases h
 split at h
 .unfold LK at h;split at h
  .obtain⟨_,e⟩:=xff h;cases e
  .cases h
 split at h
 .unfold LN at h;split at h
  .obtain⟨_,e⟩:=xff h;cases e
  .cases h
 split at h
 .unfold LM at h;split at h
  .obtain⟨_,_,e⟩:=xfd h;cases e
  .cases h
 split at h
 .unfold bc at h;split at h<;>cases h
 split at h
 .unfold az at h;split at h<;>cases h
 .cases h
def xie{k:List UInt8}{r:Int}{n:Nat}{f:FuncId}(h:kR k=some (r,n,f)):qC k=.agg [I r,I (n:Int),.clo f []]:=by unfold qC;rw[h];rfl
def xbq(d:Nat)(Z:FHs)(hK:∀j,K j->j.1<m.next)(hO:SuOK E O A pa ea W J C)(hX:XOK (d+8) X){b:Id}(hB:Bk K m b (SC E O A pa ea) X)(l:Int){t:List UInt8}(ht:t.length<=1000) :
    ∃R,aG (d+18) Z wI [.ptr b 0 0,Tx t,I l] m=some (I (lG O E W J X l t).1,R)/\GrP K (λj=>j=b) m R/\Bk K R b (SC E O A pa ea) (lG O E W J X l t).2:=by
 rw[ybo];unfold re hJ VV;rw[show(AV.sc (.string ⟨#[32]⟩))=Tx [32]from rfl,show(AV.sc (.string ⟨#[]⟩))=Tx []from rfl];obtain⟨M0,p⟩:∃u:Mem,u=⟨m.hp,m.next+1⟩:=⟨_,rfl⟩;have o:Gr0 K m M0:=(by rw[p];exact qA m);have n0:M0.next=m.next+1:=(by rw[p]);have g:∀{M:Mem},Gr0 K m M->Bk K M b (SC E O A pa ea) X:=λh=>hB.gr h (λ_ h=>h.elim) (λh=>h)
 rw[<-p];have y:∀m,aI (aG (d+17)) yZ [Tx t] m=some (I (pD t),m):=xbt (d+11) (by omega);have D:∀m,aI (aG (d+17)) pR [Tx t,Tx [32]] m=some (.tup [Tx (bH t).1,Tx (bH t).2.1,B (bH t).2.2],m):=L6 (d+12) t (by omega);have Y:∀m,aI (aG (d+17)) wG [Tx (bH t).1] m=some (.tup [qC (bH t).1,B (kR (bH t).1).isSome],m):=YY (d+16) _;unfold lG;by_cases c1:pD t=0;case neg=>simp only[y,aC,fS,c1,bO,cC,aS,ne_eq,not_false_eq_true,cI];exact⟨_,rfl,o.to,g o⟩
 obtain⟨u,n1,g1,k1,hM1⟩:=oL (V8 (bH t).1).2 (V8 (bH t).1).1 eu (m.next,20,11) M0;have e:Gr0 K m u:=jY o (.inl (bS _)) n1 k1;simp only[y,aC,fS,c1,bB,cE,aT,ne_eq,not_true_eq_false,cU,D,lY,kG,kH,Y,bW,hM1,eG];cases hk:kR (bH t).1 with
 |none=>simp only[xH,cC,aS];exact⟨_,rfl,e.to,g e⟩
 |some kk=>
 obtain⟨r,n,f⟩:=kk;have hfa:=xie hk;rw[hfa]at g1;have g1':u.get (m.next,20,11)=some (.row [I r,I (n:Int),.clo f []] 0 false):=g1;generalize hw:cL 32 (bH t).2.1=w;have F:∀x∈w,x.length<=1000:=λx Q=>by have:=xi8 32 (bH t).2.1 x (by rw[hw];exact Q);have:=(tD t).2;omega
 have hwn:w.length<=100000:=(by have h1:=GZ 32 (bH t).2.1;have h2:=(tD t).2;rw[hw]at h1;omega);have hsp:∀m,aI (aG (d+17)) O7 [Tx (bH t).2.1,Tx [32]] m=some (.aN (w.flatMap dC) w.length false,m):=(by intro m;have:=xo0 (d+11) 32 (s:=(bH t).2.1) (by have:=(tD t).2;omega) m;rw[hw]at this;exact this);have H:Sl dC (.aN (w.flatMap dC) w.length false) w:=.inr ⟨false,rfl⟩;have L:∀m,aI (aG (d+17)) R3 [.aN (w.flatMap dC) w.length false,Tx []] m=some (B (decide ([]∈w)),m):=λm=>xpv (d+15) H hwn [] m
 have N:aM prog iQ (.aN (w.flatMap dC) w.length false)=some (I w.length):=H.len vO;simp only[Option.isSome_some,cE,aT,hsp,aC,N,cW,bW,aQ g1',bF,dR,dE,fS,fA,fI];by_cases P:w.length=n;case neg=>have c2':¬((w.length:Int)=(n:Int)):=(by omega);simp only[P,c2',bO,cC,dQ,cE,cT,aC,cS,bC,aS,not_false_eq_true,true_or,cI];exact⟨_,rfl,e.to,g e⟩
 have c2':((w.length:Int)=(n:Int)):=(by omega);simp only[P]at L;simp only[P,bB,cE,dQ,cC,bC,cT,L,aC,cS,not_true_eq_false,false_or];by_cases c3:[]∈w
 .simp only[c3,bB,aS,cI];exact⟨_,rfl,e.to,g e⟩
 obtain⟨M2,v,hrd,hv,he⟩:=x31 (d+11) hk P (λx Q=>by have:=F x Q;omega) Z u;have hrd':fD (aG (d+17)) Z 2 (.clo f []) [.aN (w.flatMap dC) w.length false] u=some (.tup [v,B (B5 (bH t).1 w).isSome],M2):=hrd;have i:Gr0 K m M2:=e.trans he.gr;rw[P]at hrd';simp only[c3,bO,aT,cU,aC,hrd',lY,kG,kH,eG,aQ g1',bF,dR,dE];cases hr:B5 (bH t).1 w with
 |none=>simp only[xH,cC,aS];exact⟨_,rfl,i.to,g i⟩
 |some a=>
 have hva:=hv a hr;subst hva;obtain⟨M3,hdo,g3,hB3⟩:=x67 d Z (λj hj=>eZ (hK j hj) i.1) hO hX (g i) l (a:=a) (λn d b h=>F n (xtf (h▸hr)));simp only[Option.isSome_some,cE,aT,hdo,aC];exact⟨M3,rfl,i.to.trans g3,hB3⟩
end Go.Ix
namespace Go.Ix
open Go.Proofs
variable{W:List Bd}{J:List Pn}{E O:Int}{X:St10}
structure InvX (bl:List Bd) (k:Nat) (X:St10):Prop where
 L:X.L.length<=12
 LS:X.L.length+X.S.length<=k
 S2:X.S≠[]->2<=X.L.length
 V:X.V.length<=k
 C:X.C.Nodup
 Cb:∀y∈X.C,0<=y/\y<bl.length
 f:∀p∈X.S,p.f.natAbs<=100000+10000*k
def X0:St10:=⟨[],[],[],[]⟩
def InvX.zero:InvX W 0 X0:=⟨by decide,by decide,λh=>absurd rfl h,by decide,List.nodup_nil,λy h=>(by cases h),λp h=>(by cases h)⟩
def InvX.up{k:Nat}(h:InvX W k X):InvX W (k+1) X:=⟨h.L,by have:=h.LS;omega,h.S2,by have:=h.V;omega,h.C,h.Cb,λp a=>by have:=h.f p a;omega⟩
def x0s{n:Nat}{C:List Int}(h:C.Nodup)(d:∀y∈C,0<=y/\y<(n:Int)):C.length<=n:=by
 have l:(C.map Int.toNat).Nodup:=by unfold List.Nodup at h ⊢;rw[List.pairwise_map];refine h.imp_of_mem ?_;intro a b j f g e;have:=d a j;have:=d b f;exact g (by omega)
 have m:=x0r l (n:=n) (λw i=>by
  obtain⟨y,o,rfl⟩:=fR.mp i
  have:=d y o
  omega)
 simpa using m
def InvX.ok{k D:Nat}(h:InvX W k X)(d:k<=21)(e:W.length<=11)(g:12<=D):XOK D X:=by
 have i:=h.LS;refine⟨h.L,by have:=h.L;omega,by omega,by have:=h.V;omega,by have:=x0s h.C h.Cb;omega,λj=>?_,λp b=>by have:=h.f p b;omega⟩;have:=xfc X.S j;by_cases a:X.S=[]
 .rw[a];simp[ofPt]
 .have:=h.S2 a;omega
def xho{α:Type}{q:α->Bool}{l:List α}(h:0<=idxQ q 0 l):idxQ q 0 l<l.length:=by
 rcases F6 q l 0 with ⟨e,-⟩|⟨i,e,a,-⟩
 .omega
 .omega
def x68{k:Nat}(h:InvX W k X)(n:List UInt8)(d b:Int):InvX W (k+1) (W2 X n d b).2:=by
 unfold W2;dsimp only
 split
 .exact h.up
 rename_i g;split
 .exact h.up
 split
 .exact h.up
 have i:=h.LS;have j:=h.L;refine⟨by simp;omega,by simp;omega,λa=>by have:=h.S2 a;simp;omega,by have:=h.V;show X.V.length<=k+1;omega,h.C,h.Cb,λp e=>by have:=h.f p e;omega⟩
def x69{k:Nat}(h:InvX W k X)(p a b:List UInt8)(f:Int):InvX W (k+1) (W3 J X p a b f).2:=by
 unfold W3;dsimp only
 split
 .exact h.up
 rename_i g;split
 .exact h.up
 rename_i i;split
 .exact h.up
 split
 .exact h.up
 rename_i e;have j:=h.LS;have m:=h.L;have n:=xho (q:=nmQ Scene.nm ⟨b.toArray⟩) (l:=X.L) (by omega);refine⟨h.L,by simp;omega,λ_=>by show 2<=X.L.length;omega,by have:=h.V;show X.V.length<=k+1;omega,h.C,h.Cb,λp d=>?_⟩;rcases iZ.mp d with d|d
 .have:=h.f p d;omega
 .rw[qJ]at d;subst d;have:-100000<=f/\f<=100000:=(by unfold wi at e;simpa using e);show f.natAbs<=_;omega
def x7r(i sh:Int)(p:OPr)(Z:-10000<=sh/\sh<=10000):(vC i sh p).f.natAbs<=p.f.natAbs+10000:=by
 unfold vC;split
 .show(p.f+sh).natAbs<=_;omega
 split
 .show(p.f-sh).natAbs<=_;omega
 .omega
def x7c{k:Nat}(h:InvX W k X)(s:List UInt8)(sh:Int):InvX W (k+1) (W6 X s sh).2:=by
 unfold W6;dsimp only
 split
 .exact h.up
 split
 .exact h.up
 rename_i b;have a:-10000<=sh/\sh<=10000:=(by unfold wi at b;simpa using b);have m:=h.LS;refine⟨h.L,by simp;omega,λd=>h.S2 λe=>d (by show X.S.map _=[];rw[e];rfl),by have:=h.V;show X.V.length<=k+1;omega,h.C,h.Cb,λp g=>?_⟩;obtain⟨q,l,rfl⟩:=fR.mp g;have i:=h.f q l;have j:=x7r (idxQ (nmQ Scene.nm ⟨s.toArray⟩) 0 X.L) sh q a;exact iW j (by rw[Nat.mul_succ,<-oP];exact Nat.add_le_add_right i _)
def x7b{k:Nat}(h:InvX W k X)(n:Int)(p s:List UInt8)(v e:Int):InvX W (k+1) (W5 J X n p s v e).2:=by
 unfold W5;dsimp only
 split
 .exact h.up
 split
 .exact h.up
 split
 .exact h.up
 have b:=h.V;refine⟨h.L,by have:=h.LS;simp only;omega,h.S2,by simp only[eT,jl];omega,h.C,h.Cb,λp a=>by have:=h.f p a;omega⟩
def x4n(C:List Int):(iJ (λx y=>decide (x<y)) (C.length-1) C).Perm C:=
 (dp (R:=λx y=>x<=y) (λa b=>Int.le_trans a b) λi d v e=>⟨λh=>by have:=wA h;omega,λh=>by have:=of_decide_eq_false h;omega⟩).2
def x7d{k:Nat}(h:InvX W k X)(n:List UInt8):InvX W (k+1) (xB O E W J X n).2:=by
 unfold xB;dsimp only
 split
 .exact h.up
 rename_i o;split
 .exact h.up
 rename_i m;have g:=x4n (X.C++[idxQ (nmQ Bd.nm ⟨n.toArray⟩) 0 W]);rw[show(X.C++[idxQ (nmQ Bd.nm ⟨n.toArray⟩) 0 W]).length-1=X.C.length by simp]at g;have r:=xho (q:=nmQ Bd.nm ⟨n.toArray⟩) (l:=W) (by omega);refine⟨h.L,by have:=h.LS;show X.L.length+X.S.length<=k+1;omega,h.S2,by have:=h.V;show X.V.length<=k+1;omega,?_,λy d=>?_,λp g=>by have:=h.f p g;omega⟩
 .refine g.nodup_iff.mpr (l9.mpr ⟨h.C,by simp,λa j b i e=>?_⟩);rw[qJ]at i;refine m (.inl (I3.mpr ⟨a,j,?_⟩));rw[e,i];simp
 .have:=g.mem_iff.mp d;rcases iZ.mp this with d|d
  .exact h.Cb y d
  .rw[qJ]at d;omega
def x7e{k:Nat}(h:InvX W k X)(n:List UInt8):InvX W (k+1) (xC O E W J X n).2:=by
 unfold xC;dsimp only
 split
 .exact h.up
 split
 .exact h.up
 exact⟨h.L,by have:=h.LS;show X.L.length+X.S.length<=k+1;omega,h.S2,by have:=h.V;show X.V.length<=k+1;omega,h.C.filter _,λy a=>h.Cb y (jE.mp a).1,λp b=>by have:=h.f p b;omega⟩
def MW{k:Nat}(h:InvX W k X)(g:Int)(t:List UInt8):InvX W (k+1) (lG O E W J X g t).2:=by
 unfold lG;split
 .exact h.up
 split
 .exact h.up
 split
 .exact h.up
 split
 .exact h.up
 .rename_i a _;unfold W4;cases a with
  |scene n d b=>exact x68 h n d b
  |pair p a b f=>exact x69 h p a b f
  |corr s f=>exact x7c h s f
  |level p s v e=>exact x7b h g p s v e
  |conf b=>exact x7d h b
  |clos b=>exact x7e h b
def jK(O E:Int)(W:List Bd)(J:List Pn)(a:Nat):Nat->List (List UInt8)->St10->Int×St10
 |_,[],X=>(0,X)
 |k,x::r,X=>if x=[]/\k≠a then jK O E W J a (k+1) r X else if(lG O E W J X ((k+1:Nat):Int) x).1≠0 then lG O E W J X ((k+1:Nat):Int) x else jK O E W J a (k+1) r (lG O E W J X ((k+1:Nat):Int) x).2
end Go.Ix
namespace Go.Ix
open Go.Proofs
variable{K:Id->Prop}{A pa ea:AV}{W:List Bd}{J:List Pn}{C:List Pe}{E O:Int}{m:Mem}{X:St10}{cs:List AV}
def xt1{F:List (List UInt8)}{k:Nat}(a:k<F.length):((F.flatMap dC).drop k).head?=some (Tx F[k]):=by have:=wV nT F k;rw[oN]at this;rw[this,Y3 a,dK];rfl
def x22(d:Nat)(Z:FHs)(u:Nat)(hO:SuOK E O A pa ea W J C)(N:W.length<=11){F:List (List UInt8)}(hF:F.length<=21)(P:∀x∈F,x.length<=1000){cid nb hid:Id}{n1:Nat}(hn1:n1<F.length)(i:K cid)(Q:cid≠nb) :
    ∀(a:List (List UInt8)) (k j:Nat) (m:Mem) (Y:Nat) (X:St10),F.drop k=a->a.length<j->(∀j,K j->j.1<m.next)->InvX W k X->Bk K m nb (SC E O A pa ea) X->m.get cid=some (.row (F.flatMap dC) 0 false) ->
    ∃b e,GrP K (λj=>j=nb) m b/\Bk K b nb (SC E O A pa ea) (jK O E W J n1 k a X).2 /\
     o7 (aG (d+22)) Z u j (.ptr hid 0 0) (I (n1+1:Nat)) (.sref cid 0 0 F.length 1 true) (.ptr nb 0 0) (.sref cid 0 0 F.length 1 true) (I F.length) (I k) m Y =
      if ¬(jK O E W J n1 k a X).1=0 then some (I (jK O E W J n1 k a X).1,b)else BE (aG (d+22)) Z u (.ptr hid 0 0) (.sref cid 0 0 F.length 1 true) (.ptr nb 0 0) b e:=by
 intro a;induction a with
 |nil=>intro k j m Y X R g n y D H;obtain⟨j,rfl⟩:=dD g;have o:¬((k:Int)<(F.length:Int)):=(by have:=gF.mp R;omega);simp only[o7];unfold UU;simp only[bV,o,bO,aC,aT,jK,not_true_eq_false,cU];exact⟨m,_,.refl _ _,D,rfl⟩
 |cons x a ih=>
  intro k j m Y X R g n y D H;obtain⟨j,rfl⟩:=dD g;obtain⟨o,he,t⟩:=gB R;have hk':((k:Int)<(F.length:Int)):=(by omega);have hx:=xt1 o;rw[he]at hx;have ld:aA false 1 (.ptr cid 0 k) m=some (Tx x):=(by rw[aQ H,xee,hx]);have ws:cJ (((n1+1:Nat):Int)-1)=(n1:Int):=(by rw[bU];omega);have wa:=gJ k (by omega);have hxl:x.length<=1000:=P x (by rw[<-he];exact eU o);simp only[o7];unfold UU yh UV;rw[show(AV.sc (.string ⟨#[]⟩))=Tx []from rfl];simp only[bV,hk',bB,aC,aS,DA cid o,ld,oT,fA,dO];have p:¬(x=[]/\k≠n1)->∃b e,GrP K (λj=>j=nb) m b/\Bk K b nb (SC E O A pa ea) (jK O E W J n1 k (x::a) X).2 /\
   ((aG (d+22) Z wI [.ptr nb 0 0,Tx x,I ((k+1:Nat):Int)] m).bind λf=>(eA f.1 (I 0)).bind λl=>aK l (some (f.1,f.2)) (o7 (aG (d+22)) Z u j (.ptr hid 0 0) (I (n1+1:Nat)) (.sref cid 0 0 F.length 1 true) (.ptr nb 0 0) (.sref cid 0 0 F.length 1 true) (I F.length) (I ((k+1:Nat):Int)) f.2 (Y+1+20+2))) =
   if ¬(jK O E W J n1 k (x::a) X).1=0 then some (I (jK O E W J n1 k (x::a) X).1,b)else BE (aG (d+22)) Z u (.ptr hid 0 0) (.sref cid 0 0 F.length 1 true) (.ptr nb 0 0) b e:=by
   intro hc;obtain⟨L,e1,M,e3⟩:=xbq (d+4) Z n hO (y.ok (by omega) N (by omega:12<=d+4+8)) D ((k+1:Nat):Int) hxl;have e1':aG (d+22) Z wI [.ptr nb 0 0,Tx x,I ((k+1:Nat):Int)] m=some (I (lG O E W J X ((k+1:Nat):Int) x).1,L):=e1;have hr:jK O E W J n1 k (x::a) X=if(lG O E W J X ((k+1:Nat):Int) x).1≠0 then lG O E W J X ((k+1:Nat):Int) x else jK O E W J n1 (k+1) a (lG O E W J X ((k+1:Nat):Int) x).2:=by rw[jK,aB hc]
   have r:=MW (O:=O) (E:=E) (J:=J) y ((k+1:Nat):Int) x;simp only[e1',aC,fS];rw[hr];generalize lG O E W J X ((k+1:Nat):Int) x=q at *
   by_cases c:q.1=0
   .simp only[c,bB,cE,aT,ne_eq,not_true_eq_false,cU];have gc:L.get cid=some (.row (F.flatMap dC) 0 false):=(by rw[(M.2 cid (n cid i) Q).2 (.inr (.inr (.inr i)))];exact H);obtain⟨b,e,f1,f2,f3⟩:=ih (k+1) j L (Y+1+20+2) q.2 t (by simp at g;omega) (λj g=>eZ (n j g) M.1) r e3 gc;exact⟨b,e,M.trans f1,f2,f3⟩
   .simp only[c,bO,cC,aS,ne_eq,not_false_eq_true,cI];exact⟨L,0,M,e3,rfl⟩
  by_cases w:x=[]
  .by_cases c2:k=n1
   .have c2':((k:Int)=(n1:Int)):=(by omega);simp only[eX w,iC,bC,aC,mZ,ws,fS,eX c2',cE,cS,aT,dS,wa];exact p (λh=>h.2 c2)
   .have c2':¬((k:Int)=(n1:Int)):=(by omega);simp only[eX w,iC,bC,aC,mZ,ws,fS,fU c2',cC,cS,aS,dS,wa];have hr:jK O E W J n1 k (x::a) X=jK O E W J n1 (k+1) a X:=(by rw[jK,aF ⟨w,c2⟩]);rw[hr];exact ih (k+1) j m _ X t (by simp at g;omega) n y.up D H
  .simp only[fU w,iC,cT,aC,cS,aT,dS,wa];exact p (λh=>w h.1)
def xe8{K L:Id->Prop}(h:∀j,L j->K j){j:Id}(b:pP K j):pP L j:=⟨λa=>b.1 (by
 rcases a with a|a|a|a
 .exact .inl a
 .exact .inr (.inl a)
 .exact .inr (.inr (.inl a))
 .exact .inr (.inr (.inr (h j a)))),b.2⟩
def Rk.jS{K L:Id->Prop}(h:∀j,L j->K j){α:Type}{z:Nat}{d:α->List AV}{a:AV}{l:List α}(e:Rk K z d m a l):Rk L z d m a l:=by
 rcases e with h1|h1|⟨id,ver,x,b,rest,h1,h2⟩
 .exact .inl h1
 .exact .inr (.inl h1)
 .exact .inr (.inr ⟨id,ver,x,b,rest,xe8 h h1,h2⟩)
def RowP.jS{K L:Id->Prop}(h:∀j,L j->K j){P:List AV}{a:Id}{f:Bool}(p:RowP K m a P f):RowP L m a P f:=by
 obtain⟨l,o,r|⟨w,g,t,u,e,i,x,b,n,y,d,A,C,D,E⟩⟩:=p
 .exact⟨l,o,.inl r⟩
 .exact⟨l,o,.inr ⟨w,g,t,u,e,i,x,b,n,y,d,A,C,xe8 h D,E⟩⟩
def Bc.jS{K L:Id->Prop}(h:∀j,L j->K j){P:List AV}(e:Bc K m P X cs):Bc L m P X cs:=by obtain⟨a,s,p,v,c,f,i,l,b,n,o,d,r,t⟩:=e.ex;exact⟨a,s,p,v,c,f,i,l,⟨b.1,λg=>b.2 (h a g)⟩,n.jS h,o.jS h,⟨d.1.jS h,d.2⟩,r.jS h,t.jS h⟩
def SpK(K:Id->Prop)(m:Mem)(P:List AV)(a:Id):Prop:=a.1<m.next/\((a.2.2=2\/a.2.2=1)/\¬K a)/\∃f,RowP K m a P f
def SpK.gr{Q:Id->Prop}{m g:Mem}{P:List AV}{a:Id}(h:SpK K m P a)(b:GrP K Q m g)(i:∀j,Q j->mN K j):SpK K g P a:=by
 obtain⟨n,d,f,r⟩:=h;have p:¬Q a:=λo=>by have:=i a o;rcases this with h|h|h|h<;>first|exact d.2 h|(have:=d.1;omega)
 obtain⟨t,e⟩:=r.gr (b.2 a n p).1 b i;exact⟨eZ n b.1,d,t,e⟩
def SpK.ldEa{a:Id}(h:SpK K m (SC E O A pa ea) a):aA false 1 (.ptr a 0 4) m=some ea:=by
 obtain⟨y,C,f,D,e,j|⟨w,g,o,d,p,r,x,b,n,F,i,t,u,-⟩⟩:=h
 .rw[aQ e,j];rfl
 .rw[aQ e,t];have:d=ea:=(by have:=congrArg (λl:List AV=>l[4]?) u;simp only[kH,kG,bY]at this;exact this.symm);rw[<-this];rfl
def xe9{L:Id->Prop}(h:∀j:Id,j.1<m.next->L j->K j){j:Id}(d:j.1<m.next)(b:pP K j):pP L j:=⟨λa=>b.1 (by
 rcases a with a|a|a|a
 .exact .inl a
 .exact .inr (.inl a)
 .exact .inr (.inr (.inl a))
 .exact .inr (.inr (.inr (h j d a)))),b.2⟩
def Rk.addK{L:Id->Prop}(h:∀j:Id,j.1<m.next->L j->K j){α:Type}{z:Nat}{d:α->List AV}{a:AV}{l:List α}(e:Rk K z d m a l):Rk L z d m a l:=by
 rcases e with h1|h1|⟨id,ver,x,b,rest,h1,h2,h3⟩
 .exact .inl h1
 .exact .inr (.inl h1)
 .exact .inr (.inr ⟨id,ver,x,b,rest,xe9 h h2 h1,h2,h3⟩)
def GrP.addK{L P:Id->Prop}(h:∀j:Id,j.1<m.next->L j->K j){e:Mem}(b:GrP K P m e):GrP L P m e:=⟨b.1,λj d f=>⟨(b.2 j d f).1,λa=>(b.2 j d f).2 (by
 rcases a with a|a|a|a
 .exact .inl a
 .exact .inr (.inl a)
 .exact .inr (.inr (.inl a))
 .exact .inr (.inr (.inr (h j d a))))⟩⟩
def RowP.addK{L:Id->Prop}(h:∀j:Id,j.1<m.next->L j->K j){P:List AV}{a:Id}{f:Bool}(r:RowP K m a P f):RowP L m a P f:=by
 obtain⟨l,o,t|⟨w,g,u,y,e,i,x,b,n,A,d,C,D,E,p,F⟩⟩:=r
 .exact⟨l,o,.inl t⟩
 .exact⟨l,o,.inr ⟨w,g,u,y,e,i,x,b,n,A,d,C,D,xe9 h p E,p,F⟩⟩
def SpK.addK{L:Id->Prop}(h:∀j:Id,j.1<m.next->L j->K j){P:List AV}{a:Id}(Z:SpK K m P a):SpK L m P a:=by obtain⟨b,d,f,g⟩:=Z;exact⟨b,⟨d.1,λe=>d.2 (h a b e)⟩,f,g.addK h⟩
def SpK.jS{L:Id->Prop}(h:∀j,L j->K j){P:List AV}{a:Id}(Z:SpK K m P a):SpK L m P a:=by obtain⟨e,b,f,g⟩:=Z;exact⟨e,⟨b.1,λd=>b.2 (h a d)⟩,f,g.jS h⟩
theorem ZP(x:List UInt8):(dC x).all aP=true:=rfl
def Hk(K:Id->Prop)(m:Mem)(a:Id)(P:List AV)(F:List (List UInt8))(X:St10):Prop:=
 mN K a/\a.1<m.next/\∃b d e,m.get a=some (.row (.ptr b 0 0::d::e) 0 false)/\SpK K m P b/\Rk K 1 dC m d F/\Bc K m P X e
def Hk.gr{Q:Id->Prop}{m g:Mem}{P:List AV}{a:Id}{F:List (List UInt8)}(h:Hk K m a P F X)(b:GrP K Q m g)(d:∀j,Q j->mN K j)(o:¬Q a):Hk K g a P F X:=by obtain⟨i,n,e,t,u,w,x,y,A⟩:=h;exact⟨i,eZ n b.1,e,t,u,by rw[(b.2 a n o).2 i];exact w,x.gr b d,y.gr b (λj p r=>p.1 (d j r)),A.gr b d⟩
def Hk.jS{L:Id->Prop}(h:∀j,L j->K j){P:List AV}{a:Id}{F:List (List UInt8)}(d:a.2.2=8)(e:Hk K m a P F X):Hk L m a P F X:=by obtain⟨r,f,b,g,i,l,n,o,p⟩:=e;exact⟨.inl d,f,b,g,i,l,n.jS h,o.jS h,p.jS h⟩
def YI:dA oQ []=some (.agg [nilS,nilS,nilS,nilS]):=by kernel_rfl
def xav(a:Id):dA tO [(0,1,.ptr a 0 0),(1,4,.agg [nilS,nilS,nilS,nilS])]=some (.agg [.ptr a 0 0,nilS,nilS,nilS,nilS]):=by kernel_rfl
def xas:tO.length=5:=by kernel_rfl
def SpK.book0{P:List AV}{a:Id}(h:SpK K m P a):Bc K m P X0 [.ptr a 0 0,nilS,nilS,nilS,nilS]:=by obtain⟨b,d,f,e⟩:=h;exact⟨a,nilS,nilS,nilS,nilS,f,rfl,b,d,e,.inl ⟨rfl,rfl⟩,⟨.inl ⟨rfl,rfl⟩,λ_=>rfl⟩,.inl ⟨rfl,rfl⟩,.inl ⟨rfl,rfl⟩⟩
def x6k(a:List AV)(n:Nat)(x:Bool):bP prog .eql iQ (.tmp 3) (.const (.slice none 0 0)) (.aN a n x) nilS=some (B false):=by kernel_rfl
def yc4(d:Nat){q:AV}{S:List (List UInt8)}(h:Rk K 1 dC m q S)(o:S≠[])(P:S.length<=1000):∃M,uI (aG (d+1)) R6 [q] m=some (.sref (m.next,5,7) 0 0 S.length 1 true,M)/\M.get (m.next,5,7)=some (.row (S.flatMap dC) 0 false)/\M.next=m.next+1/\∀j,j≠(m.next,5,7)->M.get j=m.get j:=by
 obtain⟨l,E,t⟩:=h.frz nT ZP 4;have D:[q].mapM (Go.Ix.frz m.get bR)=some [l]:=(by have q1':Go.Ix.frz m.get bR q=some l:=E;simp only[eO,gS,q1'];rfl);have f:∃e,aG (d+1) [] R6 [l] ⟨[],m.next⟩=some (.sref (m.next,5,7) 0 0 S.length 1 true,e)/\e.get (m.next,5,7)=some (.row (S.flatMap dC) 0 false)/\e.next=m.next+1:=by
  rw[x9x];unfold oa bQ SQ;have F:cF S.length 16:=(by unfold cF;omega);have g:=gz nT t F (m.next,5,7) (⟨[],m.next+1⟩:Mem);rcases t with ⟨rfl,rfl⟩|⟨b,rfl⟩
  .exact absurd rfl o
  .rcases g with ⟨rfl,y⟩|⟨O,y⟩
   .exact absurd rfl o
   .refine⟨(⟨[],m.next+1⟩:Mem).new (m.next,5,7) (.row (S.flatMap dC) 0 false),?_,by simp,rfl⟩;simp[x6k];exact y _
 obtain⟨e,H,n,J⟩:=f;have a:(S.flatMap dC).all pZ=true:=by rw[dG];intro x C;obtain⟨p,-,u⟩:=mU.mp C;simp only[dC,dV,xN,or_false]at u;rw[u];rfl
 obtain⟨M,L,N,w⟩:=NH (ids:=[(m.next,5,7)]) D H rfl (ax n a) (λi r=>by
  rw[qJ]at r;subst r
  exact⟨bS _,_,_,n,a⟩)
 exact⟨M,L,by rw[w,aF (by simp)];exact n,by rw[N,J],λj A=>by rw[w j,aB (by simpa using A)]⟩
def pX:List UInt8:=[102,105,120,32]
def xpk(d:Nat)(l:List UInt8)(m:Mem):aI (aG (d+2)) O9 [Tx l,Tx pX] m=some (B (decide (l.take 4=pX)),m):=by
 have f:∀m,aI (aG (d+1)) E9 [Tx l,Tx pX] m=some (B (decide (l.take 4=pX)),m):=λm=>by
  refine eY rfl ?_ m;rw[xjw];unfold PA aU JF;have a:eD (Tx pX)=some (I 4):=hZ pX;simp only[hZ l,a,aC,sG,mem0,fA,dO];by_cases c:4<=l.length
  .have c':((l.length:Int) ≥ 4):=(by omega);have b:dZ prog bN (Tx l) none (some (I 4))=some (Tx (l.take 4)):=y5 (hi:=4) c;simp only[eX c',iC,bC,aC,a,b,oT,cS];exact RetF.st rfl rfl
  .have c':¬((l.length:Int) ≥ 4):=(by omega);have e:l.take 4≠pX:=λh=>by have:=congrArg List.length h;simp[pX]at this;omega
   simp only[fU c',iC,cT,aC,cS];exact RetF.st rfl (by rw[fU e])
 refine eY rfl ?_ m;rw[x8k];unfold kj aU PN;simp only[mem0,f,aC];exact RetF.st rfl rfl
open Go.Proofs
def xsr{p q:AV}(h:aE 0 p=some q):q=p:=by cases p<;>simp[aE]at h<;>exact h.symm
def Rk.cellT{a:AV}{l:List (List UInt8)}(h:Rk K 1 dC m a l){k:Nat}(d:k<l.length):∃p,aV 1 a (I k)=some p/\aA false 1 p m=some (Tx l[k]):=by obtain⟨p,e,f⟩:=h.cell nT d;obtain⟨i,g,b⟩:=f 0 (by omega);rw[xsr g]at b;exact⟨p,e,b⟩
def xrh{F:List (List UInt8)}{k:Nat}(b:k<F.length)(x:List UInt8):cH (F.flatMap dC) k [Tx x]=(F.set k x).flatMap dC:=by
 have e:=jf (l:=F) (i:=k) (a:=x);rw[aF b]at e;have d:F=F.take k++F[k]::F.drop (k+1):=(by rw[List.getElem_cons_drop,vH]);have f:((F.take k).flatMap dC).length=k:=(by rw[fN nT,oN,lV];omega);rw[e];conv=>lhs;rw[d]
 rw[rW,rW,dK,dK];have:=KX ((F.take k).flatMap dC) (dC F[k]++(F.drop (k+1)).flatMap dC) [Tx x] 0;rw[f]at this;exact this
def yd1(A:aJ)(Z:FHs)(u Y:Nat){b nb a:Id}{P:List AV}{F F':List (List UInt8)}{X':St10}(hn:nb.2.2=11)(hc:a.2.2=7)(hh:b.2.2=8)(hF:F'.length<=100)(hcl:a.1<m.next)(hKc:¬K a)(hH:Hk K m b P F X)(hB:Bk K m nb P X')(g1:m.get a=some (.row (F'.flatMap dC) 0 false))(hne:∀i,F≠F->i=0) :
    ∃D,BE A Z u (.ptr b 0 0) (.sref a 0 0 F'.length 1 true) (.ptr nb 0 0) m Y=some (I 0,D)/\D.next=m.next/\(∀j,j≠b->j≠a->D.get j=m.get j)/\∃d J g,m.get b=some (.row (.ptr d 0 0::J::g) 0 false)/\∃f,m.get nb=some (.row f 0 false)/\D.get b=some (.row (.ptr d 0 0::.sref a 1 0 (F'.length+1) 1 true::f) 0 false)/\D.get a=some (.row ((F'++[[]]).flatMap dC) 1 false):=by
 obtain⟨h1,h2,d,J,g,h3,h4,h5,h6⟩:=hH;obtain⟨f,c1,c2,c3,c4,c5⟩:=hB.ld;have hcs:g.length=5:=(by obtain⟨_,_,_,_,_,_,e,-⟩:=h6.ex;rw[e];rfl);have t:a≠b:=λh=>by rw[h]at hc;omega
 have w:a≠nb:=λh=>by rw[h]at hc;omega
 have hhn:b≠nb:=λh=>by rw[h]at hh;omega
 unfold BE;rw[show(AV.sc (.string ⟨#[]⟩))=Tx []from rfl];have E:∀{R:Type} (id:Id) (K:AV->Mem->Option R),cV pG [(0,1,Tx [])] 1 1 id m K=K (.aN [Tx []] 1 true) m:=λid K=>by rw[YJ];rfl
 have M:elems m.get 1 (.aN [Tx []] 1 true)=some ([Tx []],1):=rfl;have hfl:(F'.flatMap dC).length=F'.length:=(by rw[fN nT,oN]);have n:∀{R:Type} (id:Id) (K:AV->Mem->Option R),cK 1 16 id (some ([Tx []],1)) (.sref a 0 0 F'.length 1 true) m K=K (.sref a 1 0 (F'.length+1) 1 true) (m.set a (.row ((F'++[[]]).flatMap dC) 1 false)):=λid K=>by simp only[cK,g1];rw[aF ⟨trivial,trivial,by omega,by unfold cF;omega⟩,aB (by omega),aB (by omega)];rw[bF,oN,dT (by omega),rW];rfl
 generalize y:m.set a (.row ((F'++[[]]).flatMap dC) 1 false)=r at n;have N:∀j,j≠a->r.get j=m.get j:=λj hj=>by rw[<-y,Mem.bG,aB hj]
 have O:r.get a=some (.row ((F'++[[]]).flatMap dC) 1 false):=(by rw[<-y,Mem.bG,aF rfl]);have Q:r.get b=some (.row (.ptr d 0 0::J::g) 0 false):=(by rw[N _ (Ne.symm t)];exact h3);have W:aA true 5 (.ptr nb 0 0) r=some (.agg f):=(by have:r.get nb=some (.row f 0 false):=(by rw[N _ (Ne.symm w)];exact c1);rw[aQ this];rw[aQ c1]at c5;exact c5);have nbn:∀j o,cD (.ptr j 0 o)=some (.ptr j 0 o):=λ_ _=>rfl
 have p:∀{R:Type} (K:Mem->Option R),bA 1 (.ptr b 0 1) (.sref a 1 0 (F'.length+1) 1 true) r K=K (r.set b (.row (.ptr d 0 0::.sref a 1 0 (F'.length+1) 1 true::g) 0 false)):=λK=>by rw[iB (z:=1) Q rfl (by simp) rfl];rfl
 generalize l:r.set b (.row (.ptr d 0 0::.sref a 1 0 (F'.length+1) 1 true::g) 0 false)=M2 at p;have gh2:M2.get b=some (.row (.ptr d 0 0::.sref a 1 0 (F'.length+1) 1 true::g) 0 false):=(by rw[<-l,Mem.bG,aF rfl]);have H:∀{R:Type} (K:Mem->Option R),bA 5 (.ptr b 0 2) (.agg f) M2 K=K (M2.set b (.row (.ptr d 0 0::.sref a 1 0 (F'.length+1) 1 true::f) 0 false)):=λK=>by rw[iB (z:=5) (x:=.agg f) gh2 c3 (by simp;omega) c4];congr 3;show cH (AV.ptr d 0 0::.sref a 1 0 (F'.length+1) 1 true::g) 2 f=_;unfold cH;rw[mE (by simp;omega)];simp
 have a1:∀i:Id,i.2.2=106->aZ (some [],some [i]) (tR (.ptr nb 0 0))=true:=λi hi=>by
  have:i≠nb:=λh=>by rw[h]at hi;omega
  simp[aZ,tR,jP,Ne.symm this]
 have a2:∀i:Id,aZ (tX (.aN [Tx []] 1 true),tA i (.sref a 1 0 (F'.length+1) 1 true)) (tR (.ptr nb 0 0))=true:=λi=>by simp[aZ,tR,tX,tA,jP,Ne.symm w]
 have a3:∀i:Id,aZ (tX (.aN [Tx []] 1 true),tA i (.sref a 0 0 F'.length 1 true)) (tR (.ptr nb 0 0))=true:=λi=>by simp[aZ,tR,tX,tA,jP,Ne.symm w]
 simp only[E,M,n,W,aC,nbn,cW,bW,p,H,a1 (u,Y+3,106) rfl,a3,iL,bC];refine⟨_,rfl,by rw[<-l,<-y];rfl,λj C L=>by rw[Mem.bG,aB C,<-l,Mem.bG,aB C];exact N j L,d,J,g,h3,f,c1,by rw[Mem.bG,aF rfl],by rw[Mem.bG,aB t,<-l,Mem.bG,aB t];exact O⟩
open Go.Proofs
def zS(O E:Int)(W:List Bd)(J:List Pn)(F:List (List UInt8))(X:St10)(a:List UInt8):Int×List (List UInt8)×St10:=
 match nC (bH a).1 9 with
 |none=>(7,F,X)
 |some n=>if(bH a).2.2=false\/(bH a).2.1=[]then(7,F,X)else if ¬(1<=n/\n<=F.length)then(6,F,X)else
  if F.getD (n.toNat-1) []=[]\/(bH a).2.1.take 4=pX\/(bH a).2.1=wN then(15,F,X)else
   if(jK O E W J (n.toNat-1) 0 (F.set (n.toNat-1) (bH a).2.1) X0).1≠0 then((jK O E W J (n.toNat-1) 0 (F.set (n.toNat-1) (bH a).2.1) X0).1,F,X)else
    (0,F.set (n.toNat-1) (bH a).2.1++[[]],(jK O E W J (n.toNat-1) 0 (F.set (n.toNat-1) (bH a).2.1) X0).2)
def xoo(d:Nat)(Z:FHs)(hK:∀j,K j->j.1<m.next)(hO:SuOK E O A pa ea W J C)(hbl:W.length<=11){i:Id}{F:List (List UInt8)}(hh:i.2.2=8)(hH:Hk K m i (SC E O A pa ea) F X)(hF:F.length<=21)(hFt:∀x∈F,x.length<=1000){rest:List UInt8}(hr:rest.length<=1000) :
    ∃m',aG (d+23) Z S6 [.ptr i 0 0,Tx rest] m=some (I (zS O E W J F X rest).1,m')/\GrP K (λj=>j=i) m m'/\Hk K m' i (SC E O A pa ea) (zS O E W J F X rest).2.1 (zS O E W J F X rest).2.2:=by
 rw[ya2];unfold qe aU UT;rw[show(AV.sc (.string ⟨#[32]⟩))=Tx [32]from rfl,show(AV.sc (.string ⟨#[]⟩))=Tx []from rfl,show(AV.sc (.string ⟨#[102,105,120,32]⟩))=Tx pX from rfl,show(AV.sc (.string ⟨#[102,105,120]⟩))=Tx wN from rfl];obtain⟨y,hM1⟩:∃y:Mem,y=⟨m.hp,m.next+1⟩:=⟨_,rfl⟩;have r:Gr0 K m y:=(by rw[hM1];exact qA m);have n1:y.next=m.next+1:=(by rw[hM1]);rw[<-hM1];have hgr:∀{M:Mem},Gr0 K m M->Hk K M i (SC E O A pa ea) F X:=λh=>hH.gr h (λ_ h=>h.elim) (λh=>h)
 have hH':=hH;obtain⟨hh1,hh2,P,fv,cs,hh3,hh4,hh5,hh6⟩:=hH';have rb:∀{M:Mem},Gr0 K m M->M.get i=some (.row (.ptr P 0 0::fv::cs) 0 false):=λh=>by rw[(h.2 i hh2 (λh=>h)).2 hh1];exact hh3
 have lf:∀{M:Mem},Gr0 K m M->aA false 1 (.ptr i 0 1) M=some fv:=λh=>by rw[aQ (rb h)];rfl
 have ls:∀{M:Mem},Gr0 K m M->aA false 1 (.ptr i 0 0) M=some (.ptr P 0 0):=λh=>by rw[aQ (rb h)];rfl
 have nb0:cD (.ptr i 0 0)=some (.ptr i 0 0):=rfl;have hcut:∀m,aI (aG (d+22)) pR [Tx rest,Tx [32]] m=some (.tup [Tx (bH rest).1,Tx (bH rest).2.1,B (bH rest).2.2],m):=L6 (d+17) rest (by omega);have hcl:=tD rest;obtain⟨n,hnc,hnv⟩:=xbj (d+18) (w:=(bH rest).1) (by omega) y;have hnc':aI (aG (d+22)) yY [Tx (bH rest).1] y=some (.tup [I n,B (nC (bH rest).1 9).isSome],y):=hnc;unfold zS;generalize hw:(bH rest).1=w at *
 generalize ht:(bH rest).2.1=t at *
 generalize hb:(bH rest).2.2=bk at *
 simp only[hcut,aC,lY,kG,kH,hnc',eG,fA,dO,fI];have l:∀e:Int,∃m',some (I e,y)=some (I e,m')/\GrP K (λj=>j=i) m m'/\Hk K m' i (SC E O A pa ea) F X:=λe=>⟨y,rfl,r.to,hgr r⟩
 cases hn:nC w 9 with
 |none=>
  cases bk with
  |false=>simp only[cC,dQ,cE,cT,aC,cS,bC,aS];exact l 7
  |true=>simp only[cE,dQ,cC,bC,xH,eG,aC,cS,cT,aS];exact l 7
 |some k=>
 obtain rfl:=hnv k hn;cases bk with
 |false=>simp only[cC,dQ,cE,cT,aC,cS,bC,aS,true_or,cI];exact l 7
 |true=>
 simp only[cE,dQ,cC,bC,Option.isSome_some,eG,aC,cS,cT,oT,Bool.true_eq_false,false_or];by_cases c1:t=[]
 .simp only[eX c1,aS,aF c1];exact l 7
 have hfl:aM prog iQ fv=some (I F.length):=(hh5.gr r (λ_ _ h=>h.elim)).len vO;have hwi:=λa b c m=>tU (d+21) a b c m
 simp only[fU c1,aT,aB c1,nb0,cW,bW,lf r,hfl,hwi,aC,eG];by_cases c2:1<=n/\n<=F.length;case neg=>have c2':wi n 1 F.length=false:=(by unfold wi;exact fU c2);simp only[c2',cC,aS,aF c2];exact l 6
 have c2':wi n 1 F.length=true:=(by unfold wi;exact eX c2);obtain⟨g,hn1'⟩:∃q:Nat,q=n.toNat-1:=⟨_,rfl⟩;have hk:g<F.length:=(by omega);have hnn:n=((g+1:Nat):Int):=(by omega);have ws:cJ (n-1)=(g:Int):=(by rw[bU];omega);obtain⟨p,p1,p2⟩:=(hh5.gr r (λ_ _ h=>h.elim)).cellT hk;have hgd:F.getD g []=F[g]:=(by rw[fP,gE hk];rfl);have D:∀m,aI (aG (d+22)) O9 [Tx t,Tx pX] m=some (B (decide (t.take 4=pX)),m):=xpk (d+20) t;rw[aB (λh=>h c2),<-hn1',hgd];simp only[c2',cE,aT,aC,mZ,ws,p1,p2,oT];by_cases c3:F[g]=[]
 .simp only[eX c3,dQ,cE,cT,aC,cS,bC,aS,aF (Or.inl c3)];exact l 15
 by_cases c4:t.take 4=pX
 .simp only[fU c3,dQ,cC,cE,cT,D,eX c4,aC,cS,bC,aS,aF (Or.inr (Or.inl c4))];exact l 15
 by_cases c5:t=wN
 .simp only[fU c3,dQ,cC,cT,D,fU c4,aC,cS,bC,oT,eX c5,aS,aF (Or.inr (Or.inr c5))];exact l 15
 simp only[fU c3,dQ,cC,cT,D,fU c4,aC,cS,bC,oT,fU c5,aT];rw[aB (by rintro(h|h|h);exact c3 h;exact c4 h;exact c5 h)];have hFne:F≠[]:=λh=>by rw[h]at hk;simp at hk
 obtain⟨M2,hcl2,g2,n2,k2⟩:=yc4 (d+21) (hh5.gr r (λ_ _ h=>h.elim)) hFne (by omega);generalize hcid:((y.next,5,7):Id)=f at *
 have hc1:f.1=m.next+1:=(by rw[<-hcid];exact n1);have Y:f.2.2=7:=(by rw[<-hcid]);have hjc:∀j:Id,j.1<m.next->j≠f:=λj o h=>by rw[h,hc1]at o;omega
 have hFs:(F.set g t).length=F.length:=nO;have hst:∀{R:Type} (K:Mem->Option R),bA 1 (.ptr f 0 g) (Tx t) M2 K=K (M2.set f (.row ((F.set g t).flatMap dC) 0 false)):=λK=>by rw[iB (z:=1) (x:=Tx t) g2 rfl (by rw[fN nT];omega) rfl];congr 3;exact xrh hk t
 generalize hM3:M2.set f (.row ((F.set g t).flatMap dC) 0 false)=M3 at hst;have f3:∀j,j≠f->M3.get j=y.get j:=λj o=>by rw[<-hM3,Mem.bG,aB o];exact k2 j o
 have g3:M3.get f=some (.row ((F.set g t).flatMap dC) 0 false):=(by rw[<-hM3,Mem.bG,aF rfl]);have n3:M3.next=m.next+2:=(by rw[<-hM3];show M2.next=_;rw[n2,n1]);have gr3:Gr0 K m M3:=⟨by omega,λj o hp=>by rw[f3 j (hjc j o)];exact r.2 j o hp⟩;obtain⟨M4,n4,g4,k4,hM4⟩:=oL (z:=5) (cs:=tO) (x:=.agg [.ptr P 0 0,nilS,nilS,nilS,nilS]) rfl rfl xas (m.next,73,11) M3;have H:Gr0 K m M4:=jY gr3 (.inl (bS _)) n4 k4;have hKm:∀j,K j->(λj=>K j\/j=f) j:=λj h=>.inl h
 have hsp:=hh4.gr H (λ_ h=>h.elim);have hLc:∀j:Id,j.1<m.next->(K j\/j=f)->K j:=λj o h=>h.elim (λh=>h) (λh=>absurd h (hjc j o))
 have hsp':SpK (λj=>K j\/j=f) M4 (SC E O A pa ea) P:=(hh4.addK (L:=λj=>K j\/j=f) hLc).gr (GrP.addK (L:=λj=>K j\/j=f) hLc H) (λ_ h=>h.elim);have hB4:Bk (λj=>K j\/j=f) M4 (m.next,73,11) (SC E O A pa ea) X0:=⟨.inr (.inl rfl),by show m.next<M4.next;omega,_,g4,hsp'.book0⟩;have N:f≠(m.next,73,11):=λh=>by rw[h]at Y;simp at Y
 have gc4:M4.get f=some (.row ((F.set g t).flatMap dC) 0 false):=by rw[k4 _ N];exact g3
 obtain⟨m5,fc',r1,r2,r3⟩:=x22 d Z m.next (K:=λj=>K j\/j=f) hO hbl (F:=F.set g t) (by omega) (λx hx=>by
  rcases xla hx with hx|rfl
  .exact hFt x hx
  .omega) (cid:=f) (nb:=(m.next,73,11)) (hid:=i) (n1:=g) (by omega) (.inr rfl) N (F.set g t) 0 NN M4 (75+3) X0 rfl (by rw[dB];omega) (λj o=>by
   rcases o with o|rfl
   .have:=hK j o;omega
   .omega) InvX.zero hB4 gc4
 have hlen2:aM prog iQ (.sref f 0 0 F.length 1 true)=some (I F.length):=rfl;have hix:aV 1 (.sref f 0 0 F.length 1 true) (I (g:Int))=some (.ptr f 0 g):=DA f hk;unfold yg;simp only[lf r,hcl2,aC,hix,hst,ls gr3,YI,xav,hM4,hlen2];rw[hFs]at r3;rw[<-hnn]at r3;have r3':o7 (aG (d+22)) Z m.next NN (.ptr i 0 0) (I n) (.sref f 0 0 F.length 1 true) (.ptr (m.next,73,11) 0 0) (.sref f 0 0 F.length 1 true) (I F.length) (I 0) M4 (75+3)=_:=r3;have r1':GrP K (λj=>j=(m.next,73,11)) M4 m5:=r1.jS hKm
 have u:Gr0 K m m5:=⟨iW H.1 r1'.1,λj o hp=>by
  have h1:=H.2 j o hp
  have h2:=r1'.2 j (eZ o H.1) (by rintro rfl;simp at o)
  exact⟨h1.1.trans h2.1,λhb=>by rw[h2.2 hb,h1.2 hb]⟩⟩
 generalize hq:jK O E W J g 0 (F.set g t) X0=q at *
 by_cases c6:q.1=0;case neg=>rw[aF c6]at r3';rw[aF c6];exact⟨m5,r3',u.to,hgr u⟩
 rw[aB (λh=>h c6)]at r3';rw[aB (λh=>h c6)];have hKc:¬K f:=λh=>by have:=hK f h;omega
 have gc5:m5.get f=some (.row ((F.set g t).flatMap dC) 0 false):=(by rw[(r1.2 f (by omega) N).2 (.inr (.inr (.inr (.inr rfl))))];exact gc4);have hB5:Bk K m5 (m.next,73,11) (SC E O A pa ea) q.2:=(by obtain⟨b1,b2,cs5,b3,b4⟩:=r2;exact⟨.inr (.inl rfl),b2,cs5,b3,b4.jS hKm⟩);obtain⟨m6,e1,e2,e3,sid',fv',cs',e4,cs6,e5,e6,e7⟩:=yd1 (aG (d+22)) Z m.next fc' (F':=F.set g t) rfl Y hh (by omega) (by have:=r1.1;omega) hKc (hgr u) hB5 gc5 (λ_ h=>absurd rfl h);rw[rb u]at e4;cases e4;rw[hFs]at e1;have g6:GrP K (λj=>j=i) m m6:=⟨by rw[e2];exact u.1,λj o hp=>by rw[e3 j hp (hjc j o)];exact u.2 j o (λh=>h)⟩;refine⟨m6,by rw[r3'];exact e1,g6,hh1,by have:=g6.1;omega,P,_,cs6,e6,hh4.gr g6 (λj o=>by rw[o];exact hh1),?_,?_⟩
 .refine .inr (.inr ⟨f,1,true,false,[],uO hK (by omega) (by rw[Y];decide),by rw[e2];have:=r1.1;omega,by rw[eT];rfl,by rw[hW];exact e7,rfl⟩)
 .obtain⟨b1,b2,cs5,b3,b4⟩:=r2;rw[e5]at b3;cases b3;refine(b4.gr (Q:=λj=>j=i\/j=f) ⟨by omega,λj o hp=>?_⟩ λj o=>?_).jS hKm
  .have:m6.get j=m5.get j:=e3 j (λh=>hp (.inl h)) (λh=>hp (.inr h));rw[this];exact⟨.refl _,λ_=>rfl⟩
  .rcases o with rfl|rfl
   .exact .inl hh
   .exact .inr (.inr (.inr (.inr rfl)))
open Go.Proofs
def x37(d:Nat){x y:ByteArray}(h:Sl Pe.c ea C)(j:C.length<=1000):∃a,aG (d+2) [] Q7 [ea,.clo sO [.aH [T x,T y]]] mem0=some (I (idxQ (nmQ Pe.nm x) 0 C),a):=by
 obtain⟨a,r⟩:=V1 Pe.len (by omega) (q:=nmQ Pe.nm x) h (by omega) (call:=aG (d+1)) (Z:=[]) (fv:=.clo sO [.aH [T x,T y]]) (λe _ m=>by
  show ∃a,aG (d+1) [] sO ([.agg e.c]++[.aH [T x,T y]]) m=_
  rw[iO,iX,ya0]
  unfold qc aU US
  obtain⟨M,-,g,-,i⟩:=mQ (x:=.agg e.c) (X3 (show e.c.all AV.one=true from rfl)) (m.next,0,2) ⟨m.hp,m.next+1⟩
  have g':M.get (m.next,0,2)=some (.row [T e.nm,I e.role] 0 false):=g
  have b:aE 0 (.aH [T x,T y])=some (.aH [T x,T y]):=rfl
  have f:∀m,aA false 1 (.aH [T x,T y]) m=some (T x):=λ_=>rfl
  simp only[i,cW,aC,bW,aQ g',bF,dE,b,f,yE]
  exact⟨_,rfl⟩) (OJ (aG (d+1)) [] 0) (λ_ _ _ _ _ _ _=>rfl) C 0 NN ⟨[],1⟩ 4 rfl (by rw[dB];omega)
 refine⟨a,?_⟩;rw[x9m];unfold ni aU SB wz;simp only[h.len y9,aC,mem0];exact r
def x4y:∃i,prog.info? bN=some i/\i.size=1:=by have:(prog.info? bN).map (·.size)=some 1:=(by kernel_rfl);rw[cM]at this;exact this
def x7w(d:Nat){a:AV}{l:List (List UInt8)}(h:Rk K 1 dC m a l):∃r M,Clp dC r l/\aI (aG (d+1)) EN [a] m=some (r,M)/\M.next=m.next/\Gr0 K m M:=
 HC nT ZP h λi b=>by have e:nV prog iQ nilS none (I 0) (I 0)=some nilS:=(by kernel_rfl);obtain⟨r,f,g⟩:=CJ nT vO x4y e b;rw[x95];unfold ol bQ SZ;simp only[b.len vO,aC,g];exact⟨r,_,f,rfl⟩
def zQ(O E:Int)(W:List Bd)(J:List Pn)(F:List (List UInt8))(X:St10)(a:List UInt8):Int×List (List UInt8)×St10:=
 if(bH a).1=wN then zS O E W J F X (bH a).2.1 else
  if(lG O E W J X ((F.length+1:Nat):Int) a).1≠0 then((lG O E W J X ((F.length+1:Nat):Int) a).1,F,X)else(0,F++[a],(lG O E W J X ((F.length+1:Nat):Int) a).2)
def CW(k:List UInt8):Int:=match kR k with
 |some (r,_,_)=>r
 |none=>3
def gR(O E:Int)(W:List Bd)(J:List Pn)(C:List Pe)(F:List (List UInt8))(X:St10)(a:ByteArray)(b:List UInt8):Int×List (List UInt8)×St10:=
 match C[(idxQ (nmQ Pe.nm a) 0 C).toNat]? with
 |none=>(6,F,X)
 |some p=>if idxQ (nmQ Pe.nm a) 0 C<0 then(6,F,X)else if pD b≠0 then(pD b,F,X)else if p.role<CW (bH b).1 then(24,F,X)else zQ O E W J F X b
def Bc.addK{L:Id->Prop}(h:∀j:Id,j.1<m.next->L j->K j){P:List AV}(g:Bc K m P X cs):Bc L m P X cs:=by obtain⟨a,s,p,v,c,f,l,b,d,n,o,e,r,t⟩:=g.ex;exact⟨a,s,p,v,c,f,l,b,⟨d.1,λi=>d.2 (h a b i)⟩,n.addK h,o.addK h,⟨e.1.addK h,e.2⟩,r.addK h,t.addK h⟩
def xkf(d:Nat)(Z:FHs)(Y:Nat)(hK:∀j,K j->j.1<m.next)(hO:SuOK E O A pa ea W J C)(hbl:W.length<=11){f P:Id}{F:List (List UInt8)}(hh:f.2.2=8){M:Mem}(hH:Hk K m f (SC E O A pa ea) F X)(gr:Gr0 K m M)(hMn:M.next=m.next+1)(hF:F.length<=20)(hFt:∀x∈F,x.length<=1000)(hI:InvX W F.length X){by_:ByteArray}{g:List UInt8}(htx:g.length<=1000)(h3:P.1=m.next)(h32:P.2.2=3)(g3:M.get P=some (.row [T by_,Tx g] 0 false)){i:Nat}(hi:i<C.length)(u:Int) :
    ∃m',IV (aG (d+24)) Z m.next (.ptr f 0 0) (.ptr P 0 0) (I (i:Int)) (Tx (bH g).1) (Tx (bH g).2.1) (I u) M Y=some (I (if C[i].role<u then(24,F,X)else zQ O E W J F X g).1,m')/\GrP K (λj=>j=f) m m'/\Hk K m' f (SC E O A pa ea) (if C[i].role<u then(24,F,X)else zQ O E W J F X g).2.1 (if C[i].role<u then(24,F,X)else zQ O E W J F X g).2.2:=by
 have hgr:∀{M:Mem},Gr0 K m M->Hk K M f (SC E O A pa ea) F X:=λh=>hH.gr h (λ_ h=>h.elim) (λh=>h)
 have hH':=hH;obtain⟨hh1,hh2,t,fv,cs,hh3,hh4,hh5,hh6⟩:=hH';obtain⟨l,s,p,v,c,f2,hcs,-⟩:=hh6.ex;subst hcs;have rb:∀{M:Mem},Gr0 K m M->M.get f=some (.row (.ptr t 0 0::fv::[.ptr l 0 0,s,p,v,c]) 0 false):=λh=>by rw[(h.2 f hh2 (λh=>h)).2 hh1];exact hh3
 have lf:∀{M:Mem},Gr0 K m M->aA false 1 (.ptr f 0 1) M=some fv:=λh=>by rw[aQ (rb h)];rfl
 have ls:aA false 1 (.ptr f 0 0) M=some (.ptr t 0 0):=(by rw[aQ (rb gr)];rfl);have nb:∀j,cD (.ptr j 0 0)=some (.ptr j 0 0):=λ_=>rfl
 have lp:aA false 1 (.ptr t 0 4) M=some ea:=(hh4.gr gr (λ_ h=>h.elim)).ldEa;have ix:=hO.e.ix Pe.len hi;have q1:aE 1 (.aH ((C.drop i).flatMap Pe.c))=some (.aH (I C[i].role::(C.drop (i+1)).flatMap Pe.c)):=(by rw[gV hi,dK];rfl);have q2:∀m,aA false 1 (.aH (I C[i].role::(C.drop (i+1)).flatMap Pe.c)) m=some (I C[i].role):=λ_=>rfl
 unfold IV;rw[show(AV.sc (.string ⟨#[102,105,120]⟩))=Tx wN from rfl];simp only[nb,aC,cW,bW,ls,lp,ix,q1,q2,bV];by_cases c1:C[i].role<u
 .simp only[eX c1,aS,aF c1];exact⟨M,rfl,gr.to,hgr gr⟩
 simp only[fU c1,aT,aB c1,oT,aC];unfold zQ;by_cases c2:(bH g).1=wN
 .obtain⟨m',e1,e2,e3⟩:=xoo (d+1) Z (λj o=>eZ (hK j o) gr.1) hO hbl hh (hgr gr) (by omega) hFt (rest:=(bH g).2.1) (by have:=(tD g).2;omega);have e1':aG (d+24) Z S6 [.ptr f 0 0,Tx (bH g).2.1] M=_:=e1;simp only[eX c2,aS,aF c2,e1',aC];exact⟨m',rfl,gr.to.trans e2,e3⟩
 rw[aB c2];generalize hid9:((m.next,Y+43,91):Id)=id9;have h91:id9.1=m.next:=(by rw[<-hid9]);have w:id9.2.2=91:=(by rw[<-hid9]);have hL:∀j:Id,j.1<m.next->(λj=>K j\/j=id9) j->K j:=λj o h=>by
  rcases h with h|h
  .exact h
  .rw[h]at o;omega
 have hw:∀j,K j->(λj=>K j\/j=id9) j:=λj h=>.inl h
 generalize hLd:(λj=>K j\/j=id9)=L at hL hw;have hL9:L id9:=(by rw[<-hLd];exact .inr rfl);have hLm:∀j,L j->j.1<m.next+1:=λj h=>by
  rw[<-hLd]at h;rcases h with h|h
  .have:=hK j h;omega
  .rw[h];omega
 have lcs:aA true 5 (.ptr f 0 2) M=some (.agg [.ptr l 0 0,s,p,v,c]):=(by rw[aQ (rb gr)];rfl);have hc5:([.ptr l 0 0,s,p,v,c]:List AV).all AV.one=true:=(by obtain⟨_,_,_,_,_,_,e,-,-,-,e5,e6,e7,e8⟩:=hh6.ex;cases e;simp[e5.one,e6.1.one,e7.one,e8.one];rfl);obtain⟨M2,n2,g2,k2,hM2⟩:=oL (z:=5) (cs:=tO) (x:=.agg [.ptr l 0 0,s,p,v,c]) hc5 rfl xas (m.next,Y+19,13) M;have grL:Gr0 L m M:=gr.addK hL;have D:Gr0 L m M2:=jY grL (.inl (bS _)) n2 k2;have gr2K:Gr0 K m M2:=D.jS hw;have hB2:Bk L M2 (m.next,Y+19,13) (SC E O A pa ea) X:=⟨.inr (.inr (.inl rfl)),by show m.next<M2.next;omega,_,g2,(hh6.addK hL).gr D (λ_ h=>h.elim)⟩;have hi3n:P≠(m.next,Y+19,13):=λh=>by rw[h]at h32;simp at h32
 have g32:M2.get P=some (.row [T by_,Tx g] 0 false):=(by rw[k2 _ hi3n];exact g3);have lt2:aA false 1 (.ptr P 0 1) M2=some (Tx g):=(by rw[aQ g32];rfl);have hfl:aM prog iQ fv=some (I F.length):=hh5.len vO;have wF:cJ ((F.length:Int)+1)=((F.length+1:Nat):Int):=(by rw[bU];omega);obtain⟨m3,e1,e2,e3⟩:=xbq (d+6) Z (λj o=>by have:=hLm j o;omega) hO (hI.ok (by omega) hbl (by omega:12<=d+6+8)) hB2 ((F.length+1:Nat):Int) htx;have e1':aG (d+24) Z wI [.ptr (m.next,Y+19,13) 0 0,Tx g,I ((F.length+1:Nat):Int)] M2=_:=e1
 have gr3:Gr0 L m m3:=⟨iW D.1 e2.1,λj o hp=>by
  have h1:=D.2 j o hp
  have h2:=e2.2 j (eZ o D.1) (by rintro rfl;simp at o)
  exact⟨h1.1.trans h2.1,λhb=>by rw[h2.2 hb,h1.2 hb]⟩⟩
 have H:Gr0 K m m3:=gr3.jS hw;simp only[fU c2,aT,aC,lcs,hM2,lt2,lf gr2K,hfl,dS,wF,e1',fS];generalize hq:lG O E W J X ((F.length+1:Nat):Int) g=q at *
 by_cases c3:q.1=0;case neg=>simp only[fU c3,cC,aS,aF (show q.1≠0 from c3)];exact⟨m3,rfl,H.to,hgr H⟩
 rw[aB (λh=>h c3)];obtain⟨r,M4,hr,hclip,n4,g4⟩:=x7w (d+23) ((hh5.addK hL).gr gr3 (λ_ _ h=>h.elim));have gr4:Gr0 L m M4:=gr3.trans g4;obtain⟨fl3,g33⟩:=SimO.row (e2.2 P (by omega) hi3n).1 g32;obtain⟨fl4,g34⟩:=SimO.row (g4.2 P (by have:=e2.1;omega) (λh=>h)).1 g33;have lt4:aA false 1 (.ptr P 0 1) M4=some (Tx g):=(by rw[aQ g34];rfl);have hlit:∀{R:Type} (id:Id) (m:Mem) (K:AV->Mem->Option R),cV pG [(0,1,Tx g)] 1 1 id m K=K (.aN [Tx g] 1 true) m:=λid m K=>by rw[YJ];rfl
 have hel:elems M4.get 1 (.aN [Tx g] 1 true)=some (dC g,1):=rfl;have happ:∀{R:Type} (K:AV->Mem->Option R),cK 1 16 id9 (some (dC g,1)) r M4 K=K (.sref id9 0 0 (F.length+1) 1 true) (M4.new id9 (.row ((F++[g]).flatMap dC) 0 false)):=λK=>hr.app nT (by omega) (by omega) g id9 M4 K
 generalize hM5:M4.new id9 (.row ((F++[g]).flatMap dC) 0 false)=y at happ;have f5:∀j,j≠id9->y.get j=M4.get j:=λj o=>by rw[<-hM5,Mem.dI,aB o]
 have g59:y.get id9=some (.row ((F++[g]).flatMap dC) 0 false):=(by rw[<-hM5,Mem.dI,aF rfl]);have n5:y.next=M4.next:=(by rw[<-hM5];rfl);have gr5:Gr0 L m y:=(by rw[<-hM5];exact xhz gr4 (by omega) _);obtain⟨b1,b2,n,b3,b4⟩:=e3;have b3':y.get (m.next,Y+19,13)=some (.row n 0 false):=(by rw[f5 _ (λh=>by rw[<-h]at w;simp at w),(g4.2 (m.next,Y+19,13) b2 (λh=>h)).2 b1];exact b3);have b4':Bc L y (SC E O A pa ea) q.2 n:=(b4.gr g4 (λ_ h=>h.elim)).gr (Q:=λj=>j=id9) ⟨by omega,λj o hp=>by rw[f5 j hp];exact⟨.refl _,λ_=>rfl⟩⟩ (λj o=>by rw[o];exact .inr (.inr (.inr hL9)));obtain⟨hc55,hc5o⟩:n.length=5/\n.all AV.one=true:=(by obtain⟨_,_,_,_,_,_,e,-,-,-,e5,e6,e7,e8⟩:=b4.ex;rw[e];exact⟨rfl,by simp[e5.one,e6.1.one,e7.one,e8.one];rfl⟩);have l55:aA true 5 (.ptr (m.next,Y+19,13) 0 0) y=some (.agg n):=(by obtain⟨_,_,_,_,_,_,e,-⟩:=b4.ex;rw[aQ b3',e];rfl);have N:Gr0 K m y:=gr5.jS hw;have gh5:=rb N;have hst1:∀{R:Type} (K:Mem->Option R),bA 1 (.ptr f 0 1) (.sref id9 0 0 (F.length+1) 1 true) y K=K (y.set f (.row (.ptr t 0 0::.sref id9 0 0 (F.length+1) 1 true::[.ptr l 0 0,s,p,v,c]) 0 false)):=λK=>by rw[iB (z:=1) gh5 rfl (by simp) rfl];rfl
 generalize hM6:y.set f (.row (.ptr t 0 0::.sref id9 0 0 (F.length+1) 1 true::[.ptr l 0 0,s,p,v,c]) 0 false)=M6 at hst1;have gh6:M6.get f=some (.row (.ptr t 0 0::.sref id9 0 0 (F.length+1) 1 true::[.ptr l 0 0,s,p,v,c]) 0 false):=(by rw[<-hM6,Mem.bG,aF rfl]);have hst2:∀{R:Type} (K:Mem->Option R),bA 5 (.ptr f 0 2) (.agg n) M6 K=K (M6.set f (.row (.ptr t 0 0::.sref id9 0 0 (F.length+1) 1 true::n) 0 false)):=λK=>by rw[iB (z:=5) (x:=.agg n) gh6 hc55 (by simp) hc5o];congr 3;show cH (AV.ptr t 0 0::.sref id9 0 0 (F.length+1) 1 true::[.ptr l 0 0,s,p,v,c]) 2 n=_;unfold cH;rw[mE (by simp;omega)];simp
 generalize hM7:M6.set f (.row (.ptr t 0 0::.sref id9 0 0 (F.length+1) 1 true::n) 0 false)=M7 at hst2;have gh7:M7.get f=some (.row (.ptr t 0 0::.sref id9 0 0 (F.length+1) 1 true::n) 0 false):=(by rw[<-hM7,Mem.bG,aF rfl]);have f7:∀j,j≠f->M7.get j=y.get j:=λj o=>by rw[<-hM7,Mem.bG,aB o,<-hM6,Mem.bG,aB o]
 have n7:M7.next=y.next:=(by rw[<-hM7,<-hM6];rfl);have hhn:∀{a b:Nat},f≠(m.next,a,b):=λh=>by rw[h]at hh2;simp at hh2
 have a1:aZ (tR (.ptr f 0 1)) (some [],some [(m.next,Y+42,90)])=true:=qI hhn;have a2:aZ (some [],some [(m.next,Y+42,90)]) (tR (.ptr (m.next,Y+19,13) 0 0))=true:=(by simp[aZ,tR,jP]);have h9n:(m.next,Y+19,13)≠id9:=λh=>by rw[<-h]at w;simp at w
 have a3:aZ (tX (.aN [Tx g] 1 true),tA id9 r) (tR (.ptr (m.next,Y+19,13) 0 0))=true:=(by have:tA id9 r=some [id9]:=(by rcases hr with ⟨rfl,-⟩|rfl<;>rfl);rw[this];simp[aZ,tR,tX,jP,h9n]);simp only[eX c3,cE,aT,aC,lf H,hclip,lt4,hlit,hel,happ,l55,hst1,hst2,a1,a2,a3,iL,xV,bC];have g7:GrP K (λj=>j=f) m M7:=⟨by rw[n7];exact N.1,λj o hp=>by rw[f7 j hp];exact N.2 j o (λh=>h)⟩;have hq7:∀j,j=f->mN K j:=λj o=>by rw[o];exact hh1
 refine⟨M7,rfl,g7,hh1,by have:=g7.1;omega,t,_,n,gh7,hh4.gr g7 hq7,?_,?_⟩
 .exact .inr (.inr ⟨id9,0,true,false,[],uO hK (by omega) (by rw[w];decide),by rw[n7,n5,n4];have:=e2.1;omega,by rw[eT];rfl,by rw[hW,f7 _ (λh=>by rw[h]at w;omega)];exact g59,rfl⟩)
 .refine(b4'.gr (Q:=λj=>j=f) ⟨by omega,λj o hp=>by rw[f7 j hp];exact⟨.refl _,λ_=>rfl⟩⟩ (λj o=>by rw[o];exact .inl hh)).jS hw
open Go.Proofs
def xbr(d:Nat)(Z:FHs)(hK:∀j,K j->j.1<m.next)(u:SuOK E O A pa ea W J C)(w:W.length<=11){b:Id}{F:List (List UInt8)}(hh:b.2.2=8)(Y:Hk K m b (SC E O A pa ea) F X)(hF:F.length<=20)(D:∀x∈F,x.length<=1000)(hI:InvX W F.length X){by_:ByteArray}{a:List UInt8}(H:a.length<=1000) :
    ∃m',aG (d+25) Z D4 [.ptr b 0 0,.agg [T by_,Tx a]] m=some (I (gR O E W J C F X by_ a).1,m')/\GrP K (λj=>j=b) m m'/\Hk K m' b (SC E O A pa ea) (gR O E W J C F X by_ a).2.1 (gR O E W J C F X by_ a).2.2:=by
 rw[ya1];unfold qd aU UR;rw[show(AV.sc (.string ⟨#[32]⟩))=Tx [32]from rfl];obtain⟨l,n1,g1,k1,hM1⟩:=mQ (x:=.agg [T by_,Tx a]) rfl (m.next,0,3) ⟨m.hp,m.next+1⟩;have g:Gr0 K m l:=jY (qA m) (.inl (bS _)) n1 k1;have g1':l.get (m.next,0,3)=some (.row [T by_,Tx a] 0 false):=g1;have n:∀{M:Mem},Gr0 K m M->Hk K M b (SC E O A pa ea) F X:=λh=>Y.gr h (λ_ h=>h.elim) (λh=>h)
 have hH':=Y;obtain⟨hh1,hh2,t,fv,cs,hh3,hh4,hh5,hh6⟩:=hH';have rb:∀{M:Mem},Gr0 K m M->M.get b=some (.row (.ptr t 0 0::fv::cs) 0 false):=λh=>by rw[(h.2 b hh2 (λh=>h)).2 hh1];exact hh3
 have ls:aA false 1 (.ptr b 0 0) l=some (.ptr t 0 0):=(by rw[aQ (rb g)];rfl);have nb:∀j,cD (.ptr j 0 0)=some (.ptr j 0 0):=λ_=>rfl
 have lp:aA false 1 (.ptr t 0 4) l=some ea:=(hh4.gr g (λ_ h=>h.elim)).ldEa;obtain⟨mp,hpe⟩:=x37 (d+22) (x:=by_) (y:=⟨a.toArray⟩) u.e u.en;have hpe':fC (aG (d+24)) Q7 [ea,.clo sO [.ptr (m.next,0,3) 0 0]] l=some (I (idxQ (nmQ Pe.nm by_) 0 C),l):=(by refine xD ?_ hpe rfl;have f1:Go.Ix.frz l.get bR ea=some ea:=kA _ 4 u.e.bD;have f2:Go.Ix.frz l.get 5 (.ptr (m.next,0,3) 0 0)=some (.aH [T by_,Tx a]):=rQ g1' rfl;have f3:Go.Ix.frz l.get bR (.clo sO [.ptr (m.next,0,3) 0 0])=some (.clo sO [.aH [T by_,Tx a]]):=(by show([AV.ptr (m.next,0,3) 0 0].mapM (Go.Ix.frz l.get 5)).map (AV.clo sO)=_;simp only[eO,gS,f2];rfl);simp only[eO,gS,f1,f3];rfl);have lt1:aA false 1 (.ptr (m.next,0,3) 0 1) l=some (Tx a):=(by rw[aQ g1'];rfl);have hck:∀m,aI (aG (d+24)) yZ [Tx a] m=some (I (pD a),m):=xbt (d+18) (by omega);have L:∀m,aI (aG (d+24)) pR [Tx a,Tx [32]] m=some (.tup [Tx (bH a).1,Tx (bH a).2.1,B (bH a).2.2],m):=L6 (d+19) a (by omega);have hfo:∀m,aI (aG (d+24)) wG [Tx (bH a).1] m=some (.tup [qC (bH a).1,B (kR (bH a).1).isSome],m):=YY (d+23) _;unfold gR;simp only[hM1,nb,aC,cW,bW,ls,lp,hpe',bV];rcases F6 (nmQ Pe.nm by_) C 0 with ⟨h0,-⟩|⟨i,h0,hi,-⟩
 .rw[h0];simp only[show decide ((-1:Int)<0)=true from rfl,aS];cases C[(-1:Int).toNat]? with
  |none=>exact⟨l,rfl,g.to,n g⟩
  |some p=>simp only[show((-1:Int)<0)from by decide,cI];exact⟨l,rfl,g.to,n g⟩
 rw[h0,jv,jF,gE hi];have N:¬((i:Int)<0):=(by omega);simp only[fU N,aT,aB N,lt1,aC,hck,fS];by_cases c1:pD a=0;case neg=>simp only[fU c1,cC,aS,aF (show pD a≠0 from c1)];exact⟨l,rfl,g.to,n g⟩
 rw[aB (λh=>h c1)];obtain⟨M2,n2,g2,k2,hM2⟩:=oL (V8 (bH a).1).2 (V8 (bH a).1).1 eu (m.next,31+5,11) l;have P:Gr0 K m M2:=jY g (.inl (bS _)) n2 k2;have Q:M2.get (m.next,0,3)=some (.row [T by_,Tx a] 0 false):=(by rw[k2 _ (by simp[Prod.ext_iff])];exact g1');have R:M2.next=m.next+1:=(by rw[n2,n1]);unfold yf;simp only[eX c1,cE,aT,aC,L,lY,kG,kH,hfo,hM2];cases hk:kR (bH a).1 with
 |none=>have o:CW (bH a).1=3:=(by unfold CW;rw[hk]);rw[o];simp only[xH,aT];exact xkf d Z (31+9) hK u w hh Y P R hF D hI H rfl rfl Q hi 3
 |some kk=>obtain⟨r,nn,f⟩:=kk;have o:CW (bH a).1=r:=(by unfold CW;rw[hk]);have hfa:=xie hk;rw[hfa]at g2;have g2':M2.get (m.next,31+5,11)=some (.row [I r,I (nn:Int),.clo f []] 0 false):=g2;rw[o];simp only[Option.isSome_some,aS,cW,bW,aQ g2',bF,dE,aC];exact xkf d Z (31+12) hK u w hh Y P R hF D hI H rfl rfl Q hi r
open Go.Proofs
def InvX.mono{k l:Nat}(h:InvX W k X)(a:k<=l):InvX W l X:=⟨h.L,iW h.LS a,h.S2,iW h.V a,h.C,h.Cb,λp b=>iW (h.f p b) (by omega)⟩
def aw{n1:Nat}:∀(s:List (List UInt8)) (k:Nat) (X:St10),InvX W k X->InvX W (k+s.length) (jK O E W J n1 k s X).2
 |[],k,X,h=>h
 |x::r,k,X,h=>by
  rw[jK];split
  .have:=aw (n1:=n1) r (k+1) X h.up;rw[dW,show k+(r.length+1)=k+1+r.length by omega];exact this
  .split
   .exact(MW h _ x).mono (by simp)
   .have:=aw (n1:=n1) r (k+1) _ (MW (O:=O) (E:=E) (J:=J) h ((k+1:Nat):Int) x);rw[dW,show k+(r.length+1)=k+1+r.length by omega];exact this
structure InvF (bl:List Bd) (n:Nat) (F:List (List UInt8)) (X:St10):Prop where
 len:F.length=n
 t:∀x∈F,x.length<=1000
 x:InvX bl n X
def InvF.zero:InvF W 0 [] X0:=⟨rfl,λx h=>(by cases h),InvX.zero⟩
def iu(W:List Bd)(n:Nat)(F:List (List UInt8))(X:St10)(r:Int×List (List UInt8)×St10):Prop:=(r.1≠0/\r.2=(F,X))\/(r.1=0/\InvF W (n+1) r.2.1 r.2.2)
def x7q{n:Nat}{F:List (List UInt8)}(h:InvF W n F X){a:List UInt8}(d:a.length<=1000):iu W n F X (zS O E W J F X a):=by
 unfold zS;split
 .exact .inl ⟨λh=>(by cases h),rfl⟩
 split
 .exact .inl ⟨λh=>(by cases h),rfl⟩
 split
 .exact .inl ⟨λh=>(by cases h),rfl⟩
 split
 .exact .inl ⟨λh=>(by cases h),rfl⟩
 split
 .rename_i c;exact .inl ⟨c,rfl⟩
 .refine .inr ⟨rfl,by rw[eT,nO,h.len];rfl,λx b=>?_,?_⟩
  .rcases iZ.mp b with b|b
   .rcases xla b with b|rfl
    .exact h.t x b
    .have:=(tD a).2;omega
   .rw[qJ]at b;rw[b];simp
  .have:=aw (O:=O) (E:=E) (J:=J) (n1:=(‹Int›).toNat-1) (F.set ((‹Int›).toNat-1) (bH a).2.1) 0 X0 (InvX.zero (W:=W));rw[nO,h.len,bW]at this;exact this.up
def x6v{n:Nat}{F:List (List UInt8)}(h:InvF W n F X){b:List UInt8}(d:b.length<=1000):iu W n F X (zQ O E W J F X b):=by
 unfold zQ;split
 .exact x7q h (by have:=(tD b).2;omega)
 split
 .rename_i c;exact .inl ⟨c,rfl⟩
 .refine .inr ⟨rfl,by rw[eT,h.len];rfl,λx a=>?_,MW h.x _ b⟩;rcases iZ.mp a with a|a
  .exact h.t x a
  .rw[qJ]at a;rw[a];exact d
def fh{n:Nat}{F:List (List UInt8)}(h:InvF W n F X){by_:ByteArray}{a:List UInt8}(b:a.length<=1000):iu W n F X (gR O E W J C F X by_ a):=by
 unfold gR;split
 .exact .inl ⟨λh=>(by cases h),rfl⟩
 split
 .exact .inl ⟨λh=>(by cases h),rfl⟩
 split
 .rename_i c;exact .inl ⟨c,rfl⟩
 split
 .exact .inl ⟨λh=>(by cases h),rfl⟩
 .exact x6v h b
def eL(O E:Int)(W:List Bd)(J:List Pn)(C:List Pe):Nat->List Ent->List (List UInt8)->St10->Int×Int×List (List UInt8)×St10
 |_,[],F,X=>(0,0,F,X)
 |k,x::r,F,X=>if(gR O E W J C F X ⟨x.by_.toArray⟩ x.tx).1≠0 then(((k+1:Nat):Int),gR O E W J C F X ⟨x.by_.toArray⟩ x.tx)else eL O E W J C (k+1) r (gR O E W J C F X ⟨x.by_.toArray⟩ x.tx).2.1 (gR O E W J C F X ⟨x.by_.toArray⟩ x.tx).2.2
abbrev kO(u:Nat):Id->Prop:=λj=>j.1=u/\j.2.2=10
def x24(d:Nat)(Z:FHs)(u:Nat)(y:∀j,K j->j.1<=u)(n:∀s,K (u,s,10))(hO:SuOK E O A pa ea W J C)(D:W.length<=11){a:AV}{L:List Ent}(ha:Sl Ent.c a L)(hL:L.length<=21)(o:∀x∈L,x.tx.length<=1000){hid:Id}(H:hid.2.2=8) :
    ∀(b:List Ent) (k j:Nat) (m:Mem) (Y:Nat) (F:List (List UInt8)) (X:St10),L.drop k=b->b.length<j->u<m.next->Hk K m hid (SC E O A pa ea) F X->InvF W k F X ->
    ∃p,AJ (aG (d+25)) Z u j (.ptr hid 0 0) a (I L.length) (I k) m Y=some (.tup [if(eL O E W J C k b F X).2.1≠0 then AV.sc (.pointer none)else .ptr hid 0 0,I (eL O E W J C k b F X).1,I (eL O E W J C k b F X).2.1],p)/\GrP K (λj=>j=hid\/j.1=u) m p /\
     ((eL O E W J C k b F X).2.1=0->Hk K p hid (SC E O A pa ea) (eL O E W J C k b F X).2.2.1 (eL O E W J C k b F X).2.2.2/\InvF W (k+b.length) (eL O E W J C k b F X).2.2.1 (eL O E W J C k b F X).2.2.2):=by
 intro b;induction b with
 |nil=>intro k j m Y F X w e hu N f;obtain⟨j,rfl⟩:=dD e;have r:¬((k:Int)<(L.length:Int)):=(by have:=gF.mp w;omega);simp only[AJ];unfold UH xy;simp only[bV,r,bO,aC,aT,eL,ne_eq,not_true_eq_false,cU];exact⟨m,rfl,.refl _ _,λ_=>⟨N,f⟩⟩
 |cons x b ih=>
  intro k j m Y F X w e hu N f;obtain⟨j,rfl⟩:=dD e;obtain⟨r,he,hd1⟩:=gB w;have hk':(k:Int)<(L.length:Int):=(by omega);have hx:x∈L:=(by rw[<-he];exact eU r);have ix:=ha.ix Ent.len r;have ld:=iH (m:=m) Ent.len (by omega) r;rw[he]at ld;have hw:=gJ k (by omega);obtain⟨M,n1,g1,k1,hM⟩:=oL (z:=2) (cs:=oR) (x:=.agg x.c) rfl rfl (by rw[K9];rfl) (u,Y+4,10) m;have g1':M.get (u,Y+4,10)=some (.row [Tx x.by_,Tx x.tx] 0 false):=g1;have P:aA true 2 (.ptr (u,Y+4,10) 0 0) M=some (.agg [T ⟨x.by_.toArray⟩,Tx x.tx]):=(by rw[aQ g1'];rfl);have gM:GrP K (λj=>j=(u,Y+4,10)) m M:=jY (.refl _ _) (.inr rfl) n1 k1;have Q:=N.gr gM (λj e=>by rw[e];exact .inr (.inr (.inr (n _)))) (λh=>by rw[h]at H;simp at H);obtain⟨m1,e1,e2,e3⟩:=xbr d Z (K:=K) (λj e=>by have:=y j e;omega) hO D H Q (by have:=f.len;have:=w▸HR (l:=L) (i:=k);simp at this;omega) f.t (by rw[f.len];exact f.x) (by_:=⟨x.by_.toArray⟩) (o x hx);have g:=fh (O:=O) (E:=E) (J:=J) (C:=C) f (by_:=⟨x.by_.toArray⟩) (o x hx);have gT:GrP K (λj=>j=hid\/j.1=u) m m1:=(gM.weak λj e=>.inr (by rw[e])).trans (e2.weak λj e=>.inl e);simp only[AJ];unfold UH;simp only[bV,hk',bB,aC,aS,ix,ld,hM,P,e1,fS];have R:eL O E W J C k (x::b) F X=if(gR O E W J C F X ⟨x.by_.toArray⟩ x.tx).1≠0 then(((k+1:Nat):Int),gR O E W J C F X ⟨x.by_.toArray⟩ x.tx)else eL O E W J C (k+1) b (gR O E W J C F X ⟨x.by_.toArray⟩ x.tx).2.1 (gR O E W J C F X ⟨x.by_.toArray⟩ x.tx).2.2:=rfl
  rw[R];generalize gR O E W J C F X ⟨x.by_.toArray⟩ x.tx=q at *
  by_cases c:q.1=0
  .have hI2:InvF W (k+1) q.2.1 q.2.2:=by
    rcases g with ⟨h,-⟩|⟨-,h⟩
    .exact absurd c h
    .exact h
   obtain⟨p,f1,f2,f3⟩:=ih (k+1) j m1 (Y+15) q.2.1 q.2.2 hd1 (by simp at e;omega) (by have:=e2.1;omega) e3 hI2;simp only[eX c,cE,aT,dS,aC,hw,f1];rw[show(if q.1≠0 then(((k+1:Nat):Int),q)else eL O E W J C (k+1) b q.2.1 q.2.2)=eL O E W J C (k+1) b q.2.1 q.2.2 from aB (λh=>h c)];refine⟨p,rfl,gT.trans f2,λh=>?_⟩;have:=f3 h;rw[dW,show k+(b.length+1)=k+1+b.length by omega];exact this
  .simp only[fU c,cC,aS,dS,aC,hw];rw[show(if q.1≠0 then(((k+1:Nat):Int),q)else eL O E W J C (k+1) b q.2.1 q.2.2)=(((k+1:Nat):Int),q)from aF c];refine⟨m1,by rw[aF (show q.1≠0 from c)],gT,λh=>absurd h c⟩
end Go.Ix
namespace Go.Ix
open Go.Proofs
variable{A pa ea:AV}{W:List Bd}{J:List Pn}{C:List Pe}{E O:Int}{m:Mem}{X:St10}{cs:List AV}
def rH{a b:Int}(h:iT a b=0):a=0/\b=0:=by
 unfold iT at h;split at h
 .rename_i c;exact⟨c,h⟩
 .rename_i c;exact absurd h c
def xd8{b:Bool}(h:kP b=0):b=true:=by
 cases b
 .cases h
 .rfl
def fb{α:Type}{f:List ByteArray->α->Int}{nm:α->ByteArray}:∀{l:List α} {b:List ByteArray},iV f nm b l=0->∀x∈l,∃d,f d x=0
 |[],_,_,x,a=>by cases a
 |y::r,b,h,x,a=>by
  rw[iV]at h;obtain⟨e,g⟩:=rH h;rcases dV.mp a with rfl|a
  .exact⟨b,e⟩
  .exact fb g x a
def xdb(f:Sl Bd.c A W)(g:Sl Pn.c pa J)(j:Sl Pe.c ea C)(h:kN E O W J C=0):SuOK E O A pa ea W J C/\W.length<=6/\J.length<=8/\C.length<=10:=by
 unfold kN at h;split at h;case isFalse=>cases h
 rename_i b;split at h
 .cases h
 rename_i w;obtain⟨o,h⟩:=rH h;split at h
 .cases h
 rename_i x;obtain⟨r,h⟩:=rH h;split at h
 .cases h
 split at h
 .cases h
 rename_i y D;rw[cR]at b;have m:1<=E/\E<=10000:=(by have:=b.1;unfold wi at this;simpa using this);have n:0<=O/\O<=2048:=(by have:=b.2;unfold wi at this;simpa using this);have d:∀(i:Nat) (a:i<W.length),polyE W[i].cs=0/\wi W[i].th 0 1000000=true:=λi a=>by obtain⟨t,e⟩:=fb o W[i] (eU a);unfold qG at e;obtain⟨-,e⟩:=rH e;obtain⟨e,u⟩:=rH e;exact⟨e,xd8 u⟩
 refine⟨⟨f,g,j,by omega,by omega,by omega,n,m,λi a=>?_,λi a=>(d i a).1,λp l=>?_⟩,by omega,by omega,by omega⟩
 .have:=(d i a).2;unfold wi at this;exact wA this
 .obtain⟨t,e⟩:=fb r p l;unfold sM at e;obtain⟨-,e⟩:=rH e;exact xd8 e
def xm6(a:Id):dA JQ [(0,1,.ptr a 0 0),(2,5,.agg [.ptr a 0 0,nilS,nilS,nilS,nilS])]=some (.agg [.ptr a 0 0,nilS,.ptr a 0 0,nilS,nilS,nilS,nilS]):=by kernel_rfl
def eE(E O:Int)(W:List Bd)(J:List Pn)(C:List Pe)(L:List Ent):Int×Int×List (List UInt8)×St10:=
 if kN E O W J C≠0 then(0,kN E O W J C,[],X0)else if 40<L.length then(0,8,[],X0)else eL O E W J C 0 L [] X0
def xn5{K0:Id->Prop}(d:Nat)(Z:FHs)(y:Sl Bd.c A W)(D:Sl Pn.c pa J)(F:Sl Pe.c ea C)(u:W.length<=1000)(H:J.length<=1000)(he:C.length<=1000)(M:∀x∈W,x.nm.size<=1000/\x.cs.length<=1000)(N:∀x∈J,x.nm.size<=1000)(P:∀x∈C,x.nm.size<=1000){a:AV}{L:List Ent}(ha:Sl Ent.c a L)(hL:L.length<=21\/40<L.length)(Q:∀x∈L,x.tx.length<=1000)(m:Mem)(l:∀j,K0 j->j.1<m.next) :
    ∃g,aG (d+26) Z uS [.agg [I E,I O,A,pa,ea],a] m=some (.tup [if(eE E O W J C L).2.1≠0 then AV.sc (.pointer none)else .ptr (m.next+1,6,8) 0 0,I (eE E O W J C L).1,I (eE E O W J C L).2.1],g)/\m.next<g.next/\Gr0 K0 m g /\
     ((eE E O W J C L).2.1=0->SuOK E O A pa ea W J C/\W.length<=6/\Hk (λj=>K0 j\/kO m.next j) g (m.next+1,6,8) (SC E O A pa ea) (eE E O W J C L).2.2.1 (eE E O W J C L).2.2.2/\InvF W L.length (eE E O W J C L).2.2.1 (eE E O W J C L).2.2.2):=by
 rw[yat];unfold pv aU UG;have n:(AV.agg [I E,I O,A,pa,ea]).cells.all AV.one=true:=(by show([I E,I O,A,pa,ea]:List AV).all AV.one=true;simp[y.one,D.one,F.one]);obtain⟨b,X,g1,k1,hM1⟩:=mQ (x:=.agg [I E,I O,A,pa,ea]) n (m.next,0,2) ⟨m.hp,m.next+1⟩;have g1':b.get (m.next,0,2)=some (.row (SC E O A pa ea) 0 false):=g1;have l5:aA true 5 (.ptr (m.next,0,2) 0 0) b=some (.agg [I E,I O,A,pa,ea]):=(by rw[aQ g1'];rfl);have n1':b.next=m.next+1:=X;have o:Gr0 K0 m b:=jY (qA m) (.inl (bS _)) X k1;have Y:∀m,aI (aG (d+25)) zB [.agg [I E,I O,A,pa,ea]] m=some (I (kN E O W J C),m):=xb0 (d+19) y D F u H he M N P;have e:=ha.len lM;unfold eE;simp only[hM1,l5,aC,Y,fS];by_cases i:kN E O W J C=0;case neg=>simp only[fU i,cC,aS,aF (show kN E O W J C≠0 from i)];exact⟨b,rfl,by omega,o,λh=>absurd h i⟩
 rw[aB (show ¬(kN E O W J C≠0)from λh=>h i)];simp only[eX i,cE,aT,e,aC,fT];by_cases c2:40<L.length
 .have c2':((L.length:Int) > 40):=(by omega);simp only[eX c2',aS,aF c2];exact⟨b,by rw[aF (by decide:(8:Int)≠0)],by omega,o,λh=>by cases h⟩
 have c2':¬((L.length:Int) > 40):=(by omega);rw[aB c2];obtain⟨hO,hbl,-,-⟩:=xdb y D F i;obtain⟨f,t,g2,k2,hM2⟩:=mQ (x:=.agg [.ptr (m.next,0,2) 0 0,nilS,.ptr (m.next,0,2) 0 0,nilS,nilS,nilS,nilS]) rfl (b.next,6,8) ⟨b.hp,b.next+1⟩;have zK:aG (d+25) Z D3 [.ptr (m.next,0,2) 0 0] b=some (.ptr (b.next,6,8) 0 0,f):=(by rw[xju];unfold OY bQ IU;simp only[YI,xav,xm6,aC,bW,hM2]);have g22:f.get (m.next,0,2)=some (.row (SC E O A pa ea) 0 false):=by rw[k2 _ (λh=>by simp[Prod.ext_iff]at h)];exact g1'
 have p:SpK (λj=>K0 j\/kO m.next j) f (SC E O A pa ea) (m.next,0,2):=⟨by show m.next<f.next;rw[t];show m.next<b.next+1;omega,⟨.inl rfl,λh=>by
  rcases h with h|h
  .have:=l _ h;simp at this
  .have:=h.2;simp at this⟩,false,.of g22⟩
 have hH:Hk (λj=>K0 j\/kO m.next j) f (b.next,6,8) (SC E O A pa ea) [] X0:=⟨.inl rfl,by rw[t];exact mD _,(m.next,0,2),nilS,_,g2,p,.inl ⟨rfl,rfl⟩,p.book0⟩
 obtain⟨g,e1,r,w⟩:=x24 (K:=λj=>K0 j\/kO m.next j) d Z m.next (λj R=>by
  rcases R with h|h
  .exact Nat.le_of_lt (l j h)
  .exact Nat.le_of_eq h.1) (λs=>.inr ⟨rfl,rfl⟩) hO (by omega) ha (by omega) Q (hid:=(b.next,6,8)) rfl L 0 NN f (14+3) [] X0 rfl (by rw[dB];omega) (by rw[t];show m.next<b.next+1;omega) hH InvF.zero
 rw[bW]at w;unfold xx;simp only[fU c2',aT,zK,aC,e,bW];rw[n1']at e1 w;rw[n1'];have gr2:Gr0 (λj=>K0 j\/kO m.next j) m f:=jY ((jY (qA m) (.inl (bS _)) X k1).trans (qA b)) (.inl (by show m.next<=b.next;omega)) t k2;have hn2:f.next=m.next+2:=(by rw[t];show b.next+1=_;omega);have r:=r;refine⟨g,e1,by have:=r.1;omega,?_,λh=>⟨hO,hbl,(w h).1,(w h).2⟩⟩;refine GrP.jS (L:=K0) (K:=λj=>K0 j\/kO m.next j) ⟨by have:=r.1;omega,λj R H=>?_⟩ (λj h=>.inl h);have q1:=gr2.2 j R H
 have q2:=r.2 j (by omega) (by
  rintro(h|h)
  .have:j.1=b.next:=by rw[h]
   omega
  .omega)
 exact⟨q1.1.trans q2.1,λu=>by rw[q2.2 u,q1.2 u]⟩
def xn6(d:Nat)(Z:FHs)(n:Sl Bd.c A W)(o:Sl Pn.c pa J)(p:Sl Pe.c ea C)(r:W.length<=1000)(t:J.length<=1000)(u:C.length<=1000)(f:∀x∈W,x.nm.size<=1000/\x.cs.length<=1000)(g:∀x∈J,x.nm.size<=1000)(i:∀x∈C,x.nm.size<=1000){a:AV}{L:List Ent}(w:Sl Ent.c a L)(y:L.length<=21\/40<L.length)(l:∀x∈L,x.tx.length<=1000)(m:Mem) :
    ∃b,aG (d+26) Z uS [.agg [I E,I O,A,pa,ea],a] m=some (.tup [if(eE E O W J C L).2.1≠0 then AV.sc (.pointer none)else .ptr (m.next+1,6,8) 0 0,I (eE E O W J C L).1,I (eE E O W J C L).2.1],b) /\
     ((eE E O W J C L).2.1=0->SuOK E O A pa ea W J C/\W.length<=6/\Hk (kO m.next) b (m.next+1,6,8) (SC E O A pa ea) (eE E O W J C L).2.2.1 (eE E O W J C L).2.2.2/\InvF W L.length (eE E O W J C L).2.2.1 (eE E O W J C L).2.2.2):=by
 obtain⟨b,F,-,-,e⟩:=xn5 (K0:=λ_=>False) (E:=E) (O:=O) d Z n o p r t u f g i w y l m (λj h=>h.elim);exact⟨b,F,λh=>⟨(e h).1,(e h).2.1,(e h).2.2.1.jS (λj D=>.inr D) rfl,(e h).2.2.2⟩⟩
open Go.Proofs
def FHk(P:List AV)(F:List (List UInt8))(X:St10)(v:AV):Prop:=∃f s p w c,v=.aH [.aH P,f,.aH P,s,p,w,c]/\Sl dC f F/\Sl Scene.c s X.L/\Sl OPr.c p X.S/\Sl Lv10.c w X.V/\Ints c X.C
def Hk.frz{K:Id->Prop}{a:Id}{F:List (List UInt8)}(b:[A,pa,ea].all aP=true)(h:Hk K m a (SC E O A pa ea) F X):∃v,Go.Ix.frz m.get 5 (.ptr a 0 0)=some v/\FHk (SC E O A pa ea) F X v:=by obtain⟨H,J,d,L,i,j,⟨-,-,M,N,l,n⟩,o,r⟩:=h;obtain⟨f,t,u⟩:=o.frz nT ZP 2;obtain⟨s,p,w,c,e,x,y,C,D⟩:=r.frz b 1;have g:Go.Ix.frz m.get 4 (.ptr d 0 0)=some (.aH (SC E O A pa ea)):=rQ l (n.frz (by show(true&&(true&&[A,pa,ea].all aP))=true;rw[b];rfl) 1);refine⟨_,rQ (cs':=[.aH (SC E O A pa ea),f,.aH (SC E O A pa ea),s,p,w,c]) j ?_,f,s,p,w,c,rfl,u,x,y,C,D⟩;rw[eO,g,eO,t];have e':i.mapM (Go.Ix.frz m.get 4)=some [.aH (SC E O A pa ea),s,p,w,c]:=e;rw[e'];rfl
def gq(d:Nat)(n:Sl Bd.c A W)(o:Sl Pn.c pa J)(p:Sl Pe.c ea C)(u:W.length<=1000)(w:J.length<=1000)(y:C.length<=1000)(f:∀x∈W,x.nm.size<=1000/\x.cs.length<=1000)(g:∀x∈J,x.nm.size<=1000)(i:∀x∈C,x.nm.size<=1000){a:AV}{L:List Ent}(r:Sl Ent.c a L)(D:L.length<=21\/40<L.length)(j:∀x∈L,x.tx.length<=1000) :
    ∃v,(∀m,aI (aG (d+26)) uS [.agg [I E,I O,A,pa,ea],a] m=some (.tup [v,I (eE E O W J C L).1,I (eE E O W J C L).2.1],m))/\((eE E O W J C L).2.1≠0->v=AV.sc (.pointer none)) /\
     ((eE E O W J C L).2.1=0->SuOK E O A pa ea W J C/\W.length<=6/\FHk (SC E O A pa ea) (eE E O W J C L).2.2.1 (eE E O W J C L).2.2.2 v/\InvF W L.length (eE E O W J C L).2.2.1 (eE E O W J C L).2.2.2):=by
 obtain⟨F,e,H⟩:=xn6 d [] (E:=E) (O:=O) n o p u w y f g i r D j mem0;have b:[AV.agg [I E,I O,A,pa,ea],a].all bD=true:=(by have:[I E,I O,A,pa,ea].all aP=true:=(by simp[n.aP,o.aP,p.aP]);rw[dY,yF,this,dY,r.bD];rfl);by_cases c:(eE E O W J C L).2.1=0
 .obtain⟨t,l,K,M⟩:=H c;rw[aB (λh=>h c)]at e;obtain⟨v,N,P⟩:=K.frz t.st;refine⟨v,λm=>H7 b e ?_,λh=>absurd c h,λ_=>⟨t,l,P,M⟩⟩;show([AV.ptr (mem0.next+1,6,8) 0 0,I _,I _].mapM (Go.Ix.frz F.get 5)).map AV.tup=_;rw[eO,N];rfl
 .rw[aF c]at e;exact⟨_,λm=>H7 b e rfl,λ_=>rfl,λh=>absurd h c⟩
open Go.Proofs
structure SmO (A pa ea:AV) (bl:List Bd) (pl:List Pn) (C:List Pe) (a:AV) (L:List Ent):Prop where
 b:Sl Bd.c A bl
 p:Sl Pn.c pa pl
 e:Sl Pe.c ea C
 bn:bl.length<=1000
 pn:pl.length<=1000
 en:C.length<=1000
 bs:∀x∈bl,x.nm.size<=1000/\x.cs.length<=1000
 ps:∀x∈pl,x.nm.size<=1000
 es:∀x∈C,x.nm.size<=1000
 a:Sl Ent.c a L
 n:L.length<=21\/40<L.length
 t:∀x∈L,x.tx.length<=1000
def KV{z a:Nat}{M:Mem}{id:Id}{d:List AV}{x:AV}(e:M.get id=some (.row d a false))(f:x.cells.length=z)(i:d.length=z)(g:x.cells.all AV.one=true) :
    ∃b:Mem,b.get id=some (.row x.cells a false)/\b.next=M.next/\(∀j,j≠id->b.get j=M.get j)/\∀{R:Type} (K:Mem->Option R),bA z (.ptr id a 0) x M K=K b:=by
 refine⟨M.set id (.row x.cells a false),by rw[Mem.bG,aF rfl],rfl,λj h=>by rw[Mem.bG,aB h],λK=>?_⟩;rw[iB (z:=z) e f (by omega) g];congr 3;unfold cH;rw[kF,iX,mE (by omega),hW]
open Go.Proofs
def vW:StR:=(1,[],0)
def xkz(q:StR)(n:Nat)(v:AV):Prop:=∃a,v=.tup [a,I ((n:Int)-(q.2.2:Int)),I 0]/\Sl Ent.c a q.2.1
def x2s(s:List UInt8):(iU s).length<=s.length+1:=by
 have b:∀a:List (List UInt8),(wL a).length<=a.length:=by
  intro a;induction a with
  |nil=>exact bS _
  |cons p r d=>
   cases r with
   |nil=>unfold wL;split<;>simp
   |cons q r=>unfold wL;simp only[dW]at d ⊢;omega
 have:=b (cL 10 s);have:=GZ 10 s;unfold iU;omega
def x5l{b:Id->Option Ob}{a d n e:AV}(f:Go.Ix.frz b 5 a=some d)(g:bD n=true)(h:bD e=true):Go.Ix.frz b bR (.tup [a,n,e])=some (.tup [d,n,e]):=by have i:Go.Ix.frz b 5 n=some n:=kA b 3 g;have j:Go.Ix.frz b 5 e=some e:=kA b 3 h;show([a,n,e].mapM (Go.Ix.frz b 5)).map AV.tup=_;simp only[eO,gS,f,i,j];rfl
def xim(a:aJ)(Z:FHs)(u:Nat){t:List UInt8}(o:t.length<=100000){b:Id}{q:StR}(p:q.2.2<=100000000){m:Mem}(h:MR b q m)(Y:Nat):RetF (xkz q t.length) (JB a Z u (Tx t) (.ptr (0,6,5) 0 0) (.ptr (0,8,7) 0 0) m Y):=by obtain⟨⟨v,i,e⟩,Z,d,r⟩:=h;have f:aA false 1 (.ptr (0,6,5) 0 0) m=some v:=U9 i e.one.2;have lt:aA false 1 (.ptr (0,8,7) 0 0) m=some (I q.2.2):=U9 d rfl;have g:cJ ((t.length:Int)-(q.2.2:Int))=(t.length:Int)-(q.2.2:Int):=bU;unfold JB;simp only[f,lt,hZ,aC,mZ,g];obtain⟨j,l,n⟩:=e.frz (k:=3) Ent.len Ent.stl;exact RetF.mk (x5l n rfl rfl) ⟨j,rfl,l⟩
def xmn:gI=[I 0]:=by kernel_rfl
def xni:xaz=[nilS]:=by kernel_rfl
def yeu(d:Nat){t:List UInt8}(ht:t.length<=60000)(Y:∀w∈iU t,w.length<=1001):RetF (xkz (pB vW (iU t)) t.length) (aG (d+9) [] T4 [Tx t] mem0):=by
 rw[ybu];unfold rl bQ WD;have c':¬(60000:Int)<(t.length:Int):=(by omega);obtain⟨L,n⟩:∃L:Mem,L=(((⟨[],1⟩:Mem).new (0,6,5) (.row [nilS] 0 false)).new (0,7,6) (.row [I 0] 0 false)).new (0,8,7) (.row [I 0] 0 false):=⟨_,rfl⟩;have g6:L.get (0,7,6)=some (.row [I 0] 0 false):=(by rw[n];simp);have g7:L.get (0,8,7)=some (.row [I 0] 0 false):=(by rw[n];simp);have g5:L.get (0,6,5)=some (.row [nilS] 0 false):=(by rw[n];simp);have hn1:L.next=1:=(by rw[n];rfl);dsimp only
 simp only[mem0,hZ,aC,fT,c',bO,aT,lQ,xmn,xni,bW];rw[<-n,iB (z:=1) (x:=I 1) g6 rfl (by simp) rfl];obtain⟨X,p⟩:∃X:Mem,X=L.set (0,7,6) (.row (cH [I 0] 0 (I 1).cells) 0 false):=⟨_,rfl⟩;rw[<-p,iB (z:=1) (x:=I 0) (m:=X) (by rw[p,Mem.bG,aB (by simp)];exact g7) rfl (by simp) rfl];obtain⟨D,r⟩:∃D:Mem,D=X.set (0,8,7) (.row (cH [I 0] 0 (I 0).cells) 0 false):=⟨_,rfl⟩;rw[<-r];have hn3:D.next=1:=(by rw[r,p];exact hn1);have k5:D.get (0,6,5)=some (.row [nilS] 0 false):=(by rw[r,Mem.bG,aB (by simp),p,Mem.bG,aB (by simp)];exact g5);have k6:D.get (0,7,6)=some (.row [I 1] 0 false):=(by rw[r,Mem.bG,aB (by simp),p,Mem.bG,aF rfl];rfl);have k7:D.get (0,8,7)=some (.row [I 0] 0 false):=(by rw[r,Mem.bG,aF rfl];rfl);unfold zj;obtain⟨M,hL,b1,hn4,fr⟩:=xpa (d+7) t D;rw[hn3]at b1 hn4 hL fr;simp only[hL,aC];unfold zk;simp only[oV];generalize J:((0,11+2,1):Id)=lid;have u:lid.2.2=1:=(by rw[<-J]);have N:lid.1=0:=(by rw[<-J]);generalize hH:(λ(C:List AV) (m:Mem)=>bif Nat.beq C.length 1&&true then JA (aG (d+8)) [] m.next lid (.ptr (0,6,5) 0 0) (.ptr (0,7,6) 0 0) (.ptr (0,8,7) 0 0) (C.getD 0 U) ⟨m.hp,m.next+1⟩ 0 else none)=H;generalize y:M.new lid (.lp none)=m4;have hne:∀j:Id,j.2.2≠1->j≠lid:=λj Z e=>Z (by rw[e];exact u)
 have E:((1,0,1):Id)≠lid:=λe=>by rw[<-e]at N;cases N
 have c1:m4.get (1,0,1)=some (.row [Tx t] 0 false):=(by rw[<-y,Mem.dI,aB E];exact b1);have old:∀j:Id,j.1=0->j.2.2≠1->m4.get j=D.get j:=λj K g=>by rw[<-y,Mem.dI,aB (hne j g),fr j (by rw[K];decide)]
 have Q:m4.get lid=some (.lp none):=(by rw[<-y,Mem.dI,aF rfl]);have hP4:MR lid vW ⟨m4.hp,m4.next+1⟩:=by
  refine⟨⟨nilS,?_,Gk.nil⟩,?_,?_,by rw[<-y];show 2<=M.next+1;omega⟩
  .show m4.get _=_;rw[old _ rfl (by decide)];exact k5
  .show m4.get _=_;rw[old _ rfl (by decide)];exact k6
  .show m4.get _=_;rw[old _ rfl (by decide)];exact k7
 have R:=x2s t;have W:RdI vW 0:=⟨by decide,rfl,xJ _⟩;obtain⟨m5,hc,hI⟩:=ycw (d+4) (hh:=[(lid,H)]) (id:=lid) (h:=H) (s:=t) (by omega) (by simp[oF]) (i2:=(1,0,1)) (m0:=m4) c1
  (λa m=>∃q,sJ vW a=some q/\MR lid q m/\m.get lid=some (.lp none)) (λm=>∃q,pB vW (iU t)=q/\q.2.2<=100000000/\MR lid q m/\m.get lid=some (.lp (some (.exit 0))))
  (λa m l ⟨q,K,g,h3⟩=>⟨q,K,⟨by obtain⟨v,hv,hG⟩:=g.o;exact⟨v,by rw[Mem.bG,aB (by decide)];exact hv,hG.frame λj Z=>by rw[Mem.bG,aB (by rintro rfl;cases Z)]⟩,by rw[Mem.bG,aB (by decide)];exact g.s,by rw[Mem.bG,aB (by decide)];exact g.t,g.nx⟩,by rw[Mem.bG,aB E.symm];exact h3⟩)
  (λa w P m f ⟨q,K,g,h3⟩=>by
   have hwl:w.length<=1001:=Y w (by rw[f];simp)
   have hpl:a.length<=60001:=by
    rw[f]at R
    simp at R
    omega
   have i:=ba a W (λl hl=>Y l (by rw[f];exact xO _ hl)) K
   rw[bW]at i
   obtain⟨m6,q1,F⟩:=x48 d m.next (by have:=g.nx;omega) u N hwl (by omega) i (m:=⟨m.hp,m.next+1⟩) ⟨g.o,g.s,g.t,by have:=g.nx;show 2<=m.next+1;omega⟩ h3
   rw[<-hH]
   refine⟨m6,q1,?_⟩
   have b:=dz a (w::P) K
   rw[<-f]at b
   cases A:kD q w with
   |none=>
    rw[A]at F
    refine .inr ⟨by unfold jW;rw[u,F.2];rfl,q,?_,by have:=i.t;omega,F⟩
    rw[b]
    unfold pB
    rw[A]
   |some q'=>
    rw[A]at F
    exact .inl ⟨by unfold jW;rw[u,F.2.1];rfl,⟨q',xef a K A,F.1,F.2.1⟩,F.2.2⟩)
  ⟨vW,rfl,hP4,Q⟩
 have hc':aG (d+8) [(lid,H)] yT (AV.yld lid::[AV.ptr (1,0,1) 0 0]) m4=some (.tup [],m5):=hc;rw[hc'];simp only[aC];unfold N4;rcases hI with ⟨q,hr,hP,O⟩|⟨q,b,hb,hP,O⟩
 .rw[O];simp only
  have b:=dz (iU t) [] hr;rw[hW]at b;have i:=ba (iU t) W Y hr;rw[show pB vW (iU t)=q from b];exact xim _ _ _ (by omega) (by have:=i.t;omega) hP _
 .rw[O];simp only[show Nat.beq 0 0=true from rfl,bC];rw[b];exact xim _ _ _ (by omega) hb hP _
def x2r(s w:List UInt8)(K:Nat)(h:∀p∈cL 10 s,p.length<=K)(a:w∈iU s):w.length<=K+1:=by
 have e:∀(b:List (List UInt8)),(∀p∈b,p.length<=K)->∀w∈wL b,w.length<=K+1:=by
  intro b;induction b with
  |nil=>intro _ w h;cases h
  |cons p r g=>
   intro d w a;cases r with
   |nil=>
    unfold wL at a;split at a
    .cases a
    .simp at a;subst a;have:=d w (by simp);omega
   |cons q r=>
    unfold wL at a;rcases dV.1 a with rfl|a
    .have:=d p (by simp);simp;omega
    .exact g (λx f=>d x (dU _ f)) w a
 exact e _ h w a
def CX(t:List UInt8):StR:=pB vW (iU t)
def xo7(d:Nat){t:List UInt8}(b:t.length<=60000)(e:∀p∈cL 10 t,p.length<=1000):∃a,Sl Ent.c a (CX t).2.1/\∀m,aI (aG (d+9)) T4 [Tx t] m=some (.tup [a,I ((t.length:Int)-((CX t).2.2:Int)),I 0],m):=by
 obtain⟨x,j,l,g,h,a,rfl,i⟩:=yeu d b λw f=>x2r t w 1000 e f
 exact⟨a,i,λm=>H7 rfl g h⟩
structure RtE (x:Ent):Prop where
 nm:nmL x.by_=true
 tx:x.tx.length<=200
 nl:(10:UInt8)∉x.tx
def xkp:∀{L:List Ent},b9 L=0->∀x∈L,RtE x
 |[],_=>λx h=>by cases h
 |y::r,h=>by
  unfold b9 at h;split at h
  .cases h
  .rename_i b;split at h
   .cases h
   .rename_i e;split at h
    .cases h
    .rename_i d;intro x a;rcases dV.1 a with rfl|a
     .exact⟨by simpa using b,by omega,d⟩
     .exact xkp h x a
def sI(n:Nat)(x:Ent):List UInt8:=jC (iS n x)++32::(x.by_++32::x.tx)
def xiu(n:Nat)(x:Ent):wY n x=sI n x++[10]:=by unfold wY sI;simp
def xfj{l:List UInt8}(h:nmL l=true){c:UInt8}(e:c=10\/c=32):c∉l:=by
 have b:∀(k:Nat) (l:List UInt8),pQ k l=true->c∉l:=by
  intro k l;induction l generalizing k with
  |nil=>simp
  |cons x l g=>
   intro h;unfold pQ at h;rw[cR]at h;intro a;rcases dV.1 a with rfl|a
   .have d:=h.1;rcases e with rfl|rfl<;>(unfold NF at d;cases f:decide (0<k)<;>rw[f]at d<;>exact absurd d (by decide))
   .exact g (k+1) h.2 a
 unfold nmL nmOK at h;simp only[cR]at h;exact b 0 _ h.2
def xi3(n:Nat)(f:n<998244353){c:UInt8}(b:c=10\/c=32):c∉jC (n:Int):=by
 have a:∀u,u<10 ^ 20->c∉gC 20 u:=λu d h=>by have e:=W7 20 u (by omega) d;have:=dG.mp e.all _ h;rcases b with rfl|rfl<;>exact absurd this (by decide)
 unfold jC;split
 .omega
 .exact a _ (by omega)
def xi6{a b t:List UInt8}(e:(32:UInt8)∉a)(f:(32:UInt8)∉b):bH (a++32::(b++32::t))=(a,b++32::t,true)/\gA (a++32::(b++32::t))=⟨b,t⟩:=by
 have d:=W8 (b++32::t) e;refine⟨d,?_⟩;unfold gA;rw[d];simp only
 rw[W8 t f]
def x0m{n:Nat}{a b t:List UInt8}(e:(32:UInt8)∉a)(d:(32:UInt8)∉b):oZ n (a++32::(b++32::t))=(nmL b&&decide (t.length<=200)&&decide (a=jC (iS n ⟨b,t⟩))):=by
 obtain⟨f,g⟩:=xi6 (t:=t) e d;unfold oZ;rw[g,f];simp only
 rw[W8 t d];simp
def xs5{n:Nat}(d:n<998244353){x:Ent}(h:RtE x):oZ n (sI n x)=true/\gA (sI n x)=x:=by have a:=xi3 _ (A9 d x) (.inr rfl:(32:UInt8)=10\/(32:UInt8)=32);have b:=xfj h.nm (.inr rfl:(32:UInt8)=10\/(32:UInt8)=32);refine⟨?_,(xi6 a b).2⟩;unfold sI;rw[x0m a b,h.nm,eX h.tx,eX rfl];rfl
def xs6{n:Nat}(b:n<998244353){x:Ent}(h:RtE x):(10:UInt8)∉sI n x:=by
 have d:=xi3 _ (A9 b x) (.inl rfl:(10:UInt8)=10\/(10:UInt8)=32);have e:=xfj h.nm (.inl rfl:(10:UInt8)=10\/(10:UInt8)=32);unfold sI;intro a;rcases iZ.1 a with a|a
 .exact d a
 .rcases dV.1 a with a|a
  .exact absurd a (by decide)
  .rcases iZ.1 a with a|a
   .exact e a
   .rcases dV.1 a with a|a
    .exact absurd a (by decide)
    .exact h.nl a
def jV:Nat->List Ent->List (List UInt8)
 |_,[]=>[]
 |n,x::r=>sI n x::jV (iS n x) r
def df:∀(L:List Ent) (n:Nat),iI n L=(jV n L).flatMap λl=>l++[10]
 |[],n=>rfl
 |x::r,n=>by rw[iI,jV,dK,xiu,df r]
def xd0:∀(L:List Ent) (n:Nat),n<998244353->(∀x∈L,RtE x)->∀l∈jV n L,(10:UInt8)∉l
 |[],n,_,_=>λl h=>by cases h
 |x::r,n,b,h=>by
  intro l a;rw[jV]at a;rcases dV.1 a with rfl|a
  .exact xs6 b (h x (by simp))
  .exact xd0 r _ (A9 b x) (λy d=>h y (dU _ d)) l a
def xgf:∀(R:List (List UInt8)) (k:List UInt8),(∀l∈R,(10:UInt8)∉l)->iU ((R.flatMap λl=>l++[10])++k)=(R.map λl=>l++[10])++iU k
 |[],k,_=>rfl
 |l::R,k,h=>by rw[dK,kU,kU,NX,xgi _ (h l (by simp)),xgf R k λx a=>h x (dU _ a)];rfl
def xh1:∀(L:List Ent) (n:Nat) (O:List Ent) (t:Nat) (k:List (List UInt8)),n<998244353->(∀x∈L,RtE x)->O.length+L.length<=40 ->
    pB (n,O,t) (((jV n L).map λl=>l++[10])++k)=pB (xdd n L,O++L,t+(iI n L).length) k
 |[],n,O,t,k,_,_,_=>by simp[jV,iI,xdd]
 |x::r,n,O,t,k,d,h,e=>by
  obtain⟨i,j⟩:=xs5 d (h x (by simp));have g:nG (sI n x++[10])=true:=(by simp[nG]);have a:¬O.length=40:=(by simp at e;omega);have b:kD (n,O,t) (sI n x++[10])=some (iS n x,O++[x],t+(wY n x).length):=(by unfold kD;rw[g,List.dropLast_concat,i,j,fU a,xiu];rfl);rw[jV,eN,iO,pB,b];simp only
  rw[xh1 r (iS n x) (O++[x]) _ k (A9 d x) (λy f=>h y (dU _ f)) (by rw[eT];simp at e ⊢;omega)];rw[iI,eT,kU,oP];rfl
end Go.Ix
namespace Go.Ix
open Go.Proofs
variable{A pa ea:AV}{W:List Bd}{J:List Pn}{C:List Pe}{E O:Int}{X:St10}
def xqo{a b:ByteArray}(h:gY a b=true):a=b:=by unfold gY at h;rw[ByteArray.toList_eq,ByteArray.toList_eq]at h;exact ByteArray.ext (xal.1 (by simpa using h))
def xe4:∀(l r:List Ent) (k:Nat) (F:List (List UInt8)) (X:St10),(eL O E W J C k l F X).2.1=0->eL O E W J C k (l++r) F X=eL O E W J C (k+l.length) r (eL O E W J C k l F X).2.2.1 (eL O E W J C k l F X).2.2.2
 |[],r,k,F,X,_=>rfl
 |x::l,r,k,F,X,h=>by
  rw[iO];simp only[eL]at h ⊢;by_cases c:(gR O E W J C F X ⟨x.by_.toArray⟩ x.tx).1=0
  .rw[aB (λh=>h c)]at h ⊢;rw[aB (λh=>h c),xe4 l r _ _ _ h,dW,show k+1+l.length=k+(l.length+1) by omega]
  .rw[aF c]at h;exact absurd h c
def DJ:∀(l r:List Ent) (k:Nat) (F:List (List UInt8)) (X:St10),(eL O E W J C k (l++r) F X).2.1=0->(eL O E W J C k l F X).2.1=0
 |[],r,k,F,X,_=>rfl
 |x::l,r,k,F,X,h=>by
  rw[iO]at h;simp only[eL]at h ⊢;by_cases c:(gR O E W J C F X ⟨x.by_.toArray⟩ x.tx).1=0
  .rw[aB (λh=>h c)]at h ⊢;exact DJ l r _ _ _ h
  .rw[aF c]at h;exact absurd h c
def tG(O E:Int)(W:List Bd)(J:List Pn)(C:List Pe)(L:List Ent):List (List UInt8)×St10:=(eL O E W J C 0 L [] X0).2.2
def xzm{L:List Ent}{x:Ent}(h:(eL O E W J C 0 (L++[x]) [] X0).2.1=0):gR O E W J C (tG O E W J C L).1 (tG O E W J C L).2 ⟨x.by_.toArray⟩ x.tx=(0,tG O E W J C (L++[x])):=by
 have b:=DJ L [x] 0 [] X0 h;have a:=xe4 L [x] 0 [] X0 b;unfold tG;rw[a];rw[a]at h;simp only[eL]at h ⊢;by_cases c:(gR O E W J C (eL O E W J C 0 L [] X0).2.2.1 (eL O E W J C 0 L [] X0).2.2.2 ⟨x.by_.toArray⟩ x.tx).1=0
 .rw[aB (λh=>h c)];exact Prod.ext c rfl
 .rw[aF c]at h;exact absurd h c
def x6o{F:List (List UInt8)}{x:Ent}(b:∀p∈C,nmOK p.nm=true)(h:(gR O E W J C F X ⟨x.by_.toArray⟩ x.tx).1=0):RtE x:=by
 unfold gR at h;split at h
 .cases h
 rename_i p l;split at h
 .cases h
 rename_i d;split at h
 .rename_i c;exact absurd h c
 rename_i a;have a:pD x.tx=0:=Classical.byContradiction a;refine⟨?_,?_,?_⟩
 .rcases F6 (nmQ Pe.nm ⟨x.by_.toArray⟩) C 0 with ⟨f,-⟩|⟨i,f,g,j⟩
  .rw[f]at d;exact absurd (by decide) d
  .have:=b C[i] (eU g);have e:C[i].nm=⟨x.by_.toArray⟩:=xqo j;rw[e]at this;exact this
 .unfold pD at a;split at a
  .cases a
  .omega
 .unfold pD at a;split at a
  .cases a
  split at a
  .cases a
  .rename_i c;exact λh=>c (.inl h)
def xe1(a:∀p∈C,nmOK p.nm=true):∀(L:List Ent) (k:Nat) (F:List (List UInt8)) (X:St10),(eL O E W J C k L F X).2.1=0->∀x∈L,RtE x
 |[],_,_,_,_=>λx h=>by cases h
 |y::r,k,F,X,h=>by
  simp only[eL]at h;by_cases c:(gR O E W J C F X ⟨y.by_.toArray⟩ y.tx).1=0
  .rw[aB (λh=>h c)]at h;intro x b;rcases dV.mp b with rfl|b
   .exact x6o a c
   .exact xe1 a r _ _ _ h x b
  .rw[aF c]at h;exact absurd h c
def xdz:∀{L:List Ent},(∀x∈L,RtE x)->b9 L=0
 |[],_=>rfl
 |y::r,h=>by have a:=h y (by simp);unfold b9;rw[aB (by rw[a.nm];decide),aB (by have:=a.tx;omega),aB a.nl];exact xdz λx b=>h x (dU _ b)
def xfq{s:ByteArray}{l:List ByteArray}(h:jL s l=0):nmOK s=true/\∀y∈l,gY y s=false:=by
 unfold jL at h;cases a:nmOK s with
 |false=>rw[a]at h;cases h
 |true=>
  refine⟨rfl,λy b=>?_⟩;rw[a]at h;cases d:gY y s with
  |false=>rfl
  |true=>have:l.any (λy=>gY y s)=true:=I3.mpr ⟨y,b,d⟩;rw[this]at h;cases h
def MX{α:Type}{f:List ByteArray->α->Int}{nm:α->ByteArray}:∀{l:List α} {b:List ByteArray},iV f nm b l=0->∀(i:Nat) (a:i<l.length),f (b++(l.take i).map nm) l[i]=0
 |[],_,_,i,a=>by simp at a
 |y::r,b,h,i,a=>by
  rw[iV]at h;obtain⟨d,e⟩:=rH h;cases i with
  |zero=>simpa using d
  |succ i=>have:=MX e i (by simpa using a);simpa using this
structure NmOK (bl:List Bd) (pl:List Pn) (C:List Pe):Prop where
 e:∀p∈C,nmOK p.nm=true
 p:∀(i:Nat) (hi:i<pl.length),nmOK pl[i].nm=true/\idxQ (nmQ Pn.nm pl[i].nm) 0 pl=i
 b:∀(i:Nat) (hi:i<bl.length),nmOK bl[i].nm=true/\idxQ (nmQ Bd.nm bl[i].nm) 0 bl=i
def xhp{α:Type}{q:α->Bool}:∀{l:List α} {i:Nat} (k:Int) (a:i<l.length),q l[i]=true->(∀(j:Nat) (b:j<l.length),j<i->q l[j]=false)->idxQ q k l=k+i
 |[],i,k,a,_,_=>by simp at a
 |y::r,i,k,a,d,e=>by
  cases i with
  |zero=>have h1':q y=true:=d;rw[idxQ,h1'];simp
  |succ i=>
   have g:q y=false:=e 0 (by simp) (by omega);rw[idxQ,g]
   have:=xhp (l:=r) (i:=i) (k+1) (by simpa using a) (by simpa using d) (λj b f=>by
    have:=e (j+1) (by simpa using b) (by omega)
    simpa using this)
   show idxQ q (k+1) r=_;rw[this];omega
def xry(h:kN E O W J C=0):NmOK W J C:=by
 unfold kN at h;split at h;case isFalse=>cases h
 split at h
 .cases h
 obtain⟨g,h⟩:=rH h;split at h
 .cases h
 obtain⟨m,h⟩:=rH h;split at h
 .cases h
 split at h
 .cases h
 have b:∀{α:Type} {nm:α->ByteArray} {l:List α},(∀(i:Nat) (a:i<l.length),jL (nm l[i]) ((l.take i).map nm)=0)->∀(i:Nat) (a:i<l.length),nmOK (nm l[i])=true/\idxQ (nmQ nm (nm l[i])) 0 l=i:=by
  intro α nm l f i a;obtain⟨n,o⟩:=xfq (f i a);refine⟨n,?_⟩
  have:=xhp (q:=nmQ nm (nm l[i])) (l:=l) (i:=i) 0 a (by unfold nmQ gY;simp) (λj r d=>by
   refine o (nm l[j]) (fR.mpr ⟨l[j],?_,rfl⟩)
   rw[HO]
   exact⟨j,by rw[lV];omega,by rw[OA]⟩)
  rw[this];omega
 refine⟨λp e=>?_,b λi a=>?_,b λi a=>?_⟩
 .obtain⟨i,a,rfl⟩:=HO.mp e;have:=MX h i a;unfold C0 at this;exact(xfq (rH this).1).1
 .have:=MX m i a;unfold sM at this;rw[iX]at this;exact(rH this).1
 .have:=MX g i a;unfold qG at this;rw[iX]at this;exact(rH this).1
def O0{L:List Ent}(h:(eE E O W J C L).2.1=0):kN E O W J C=0/\L.length<=40/\(eL O E W J C 0 L [] X0).2.1=0/\eE E O W J C L=eL O E W J C 0 L [] X0:=by
 unfold eE at h ⊢;by_cases a:kN E O W J C=0
 .rw[aB (λh=>h a)]at h ⊢;by_cases b:40<L.length
  .rw[aF b]at h;cases h
  .rw[aB b]at h ⊢;exact⟨a,by omega,h,rfl⟩
 .rw[aF a]at h;exact absurd h a
def xzh{L:List Ent}(a:kN E O W J C=0)(b:L.length<=40):eE E O W J C L=eL O E W J C 0 L [] X0:=by unfold eE;rw[aB (λh=>h a),aB (by omega)]
def xzi{L:List Ent}(h:(eE E O W J C L).2.1=0):wZ L=0:=by obtain⟨a,d,b,-⟩:=O0 h;unfold wZ;rw[aB (by omega)];exact xdz (xe1 (xry a).e L 0 [] X0 b)
def xzg{L:List Ent}(h:(eE E O W J C L).2.1=0)(w:Nat):(eE E O W J C (L.take w)).2.1=0:=by obtain⟨b,d,a,-⟩:=O0 h;rw[xzh b (by rw[lV];omega)];rw[<-vH w L]at a;exact DJ _ _ _ _ _ a
open Go.Proofs
end Go.Ix
namespace Go.Ix
open Go.Proofs
variable{A pa ea:AV}{W:List Bd}{J:List Pn}{C:List Pe}{E O:Int}
def MJ(b:Bd):Int->List Pn->List Int
 |_,[]=>[]
 |k,p::r=>bif uX b p then k::MJ b (k+1) r else MJ b (k+1) r
def qX(x:ByteArray):Bool:=decide (x.size<=20)
def A7(C:List Pe):Bool:=C.all λe=>qX e.nm
def N1(J:List Pn):Bool:=J.all λe=>qX e.nm
def CH(W:List Bd):Bool:=W.all λe=>qX e.nm&&decide (e.cs.length<=22)
def yJ(W:List Bd)(J:List Pn)(C:List Pe):Bool:=decide (W.length<=8)&&(decide (J.length<=10)&&(decide (C.length<=12)&&(CH W&&(N1 J&&A7 C))))
def ZS(x:ByteArray):decide ((20:Int)<(x.size:Int))=!qX x:=by
 unfold qX;by_cases h:x.size<=20
 .simp[h,show ¬(20:Int)<(x.size:Int) by omega]
 .simp[h,show(20:Int)<(x.size:Int) by omega]
section
variable(call:aJ)(Z:FHs)(u:Nat){id:Id}
def x20(h:Sl Pe.c ea C)(y:C.length<=1000):∀(a:List Pe) (k j:Nat) (m:Mem) (Y:Nat),C.drop k=a->a.length<j->m.get id=some (.row [I E,I O,A,pa,ea] 0 false) ->
    AU call Z u j (.ptr id 0 0) (I k) m Y=some (B (A7 a),m):=by
 intro a;induction a with
 |nil=>intro k j m Y g b d;obtain⟨j,rfl⟩:=dD b;have f:¬((k:Int)<(C.length:Int)):=(by have:=gF.mp g;omega);simp only[AU];unfold WY y';simp only[cW,aC,aQ d,bW,bF,dR,dE,h.len y9,bV,f,bO,aT];rfl
 |cons e r x=>
  intro k j m Y g b d;obtain⟨j,rfl⟩:=dD b;obtain⟨f,w,i⟩:=gB g;have hk':(k:Int)<(C.length:Int):=(by omega);have ix:=h.ix Pe.len f;have l:aE 0 (.aH ((C.drop k).flatMap Pe.c))=some (.aH ((C.drop k).flatMap Pe.c)):=rfl;have n:∀m,aA false 1 (.aH ((C.drop k).flatMap Pe.c)) m=some (T e.nm):=λm=>by rw[gV f,dK,w];rfl
  have o:=gJ k (by omega);have p:=x (k+1) j m (Y+16) i (by simp at b;omega) d;have t:A7 (e::r)=(qX e.nm&&A7 r):=rfl;simp only[AU];unfold WY;simp only[cW,aC,aQ d,bW,bF,dR,dE,h.len y9,bV,hk',bB,aS,ix,l,n,ad,fT,ZS,t];cases qX e.nm
  .simp only[cC,aS,qM]
  .simp only[cE,aT,dS,o,aC,p,gW]
def x2z(h:Sl Pn.c pa J)(F:J.length<=1000)(n:Sl Pe.c ea C)(g:C.length<=1000):∀(a:List Pn) (k j:Nat) (m:Mem) (Y:Nat),J.drop k=a->a.length<j->m.get id=some (.row [I E,I O,A,pa,ea] 0 false) ->
    AT call Z u j (.ptr id 0 0) (I k) m Y=some (B (N1 a&&A7 C),m):=by
 intro a;induction a with
 |nil=>intro k j m Y i d b;obtain⟨j,rfl⟩:=dD d;have f:¬((k:Int)<(J.length:Int)):=(by have:=gF.mp i;omega);have r:=x20 call Z u (E:=E) (O:=O) (A:=A) (pa:=pa) (id:=id) n g C 0 NN m (Y+5+1) rfl (by rw[dB];omega) b;rw[show I ((0:Nat):Int)=I 0 from rfl]at r;simp only[AT];unfold WX j';simp only[cW,aC,aQ b,bW,bF,dR,dE,h.len vP,bV,f,bO,aT,r];rfl
 |cons e r D=>
  intro k j m Y i d b;obtain⟨j,rfl⟩:=dD d;obtain⟨f,y,l⟩:=gB i;have hk':(k:Int)<(J.length:Int):=(by omega);have ix:=h.ix Pn.len f;have o:aE 0 (.aH ((J.drop k).flatMap Pn.c))=some (.aH ((J.drop k).flatMap Pn.c)):=rfl;have p:∀m,aA false 1 (.aH ((J.drop k).flatMap Pn.c)) m=some (T e.nm):=λm=>by rw[gV f,dK,y];rfl
  have t:=gJ k (by omega);have w:=D (k+1) j m (Y+16) l (by simp at d;omega) b;have x:N1 (e::r)=(qX e.nm&&N1 r):=rfl;simp only[AT];unfold WX;simp only[cW,aC,aQ b,bW,bF,dR,dE,h.len vP,bV,hk',bB,aS,ix,o,p,ad,fT,ZS,x];cases qX e.nm
  .simp only[cC,aS,qM]
  .simp only[cE,aT,dS,t,aC,w,gW]
def xp8:prog.underlying pI=some (.slice tT):=by kernel_rfl
def x2y(g:Sl Bd.c A W)(t:W.length<=1000)(h:Sl Pn.c pa J)(w:J.length<=1000)(x:Sl Pe.c ea C)(i:C.length<=1000):∀(a:List Bd) (k j:Nat) (m:Mem) (Y:Nat),W.drop k=a->a.length<j->m.get id=some (.row [I E,I O,A,pa,ea] 0 false) ->
    AS call Z u j (.ptr id 0 0) (I k) m Y=some (B (CH a&&(N1 J&&A7 C)),m):=by
 intro a;induction a with
 |nil=>intro k j m Y l f b;obtain⟨j,rfl⟩:=dD f;have d:¬((k:Int)<(W.length:Int)):=(by have:=gF.mp l;omega);have r:=x2z call Z u (E:=E) (O:=O) (A:=A) (id:=id) h w x i J 0 NN m (Y+5+1) rfl (by rw[dB];omega) b;rw[show I ((0:Nat):Int)=I 0 from rfl]at r;simp only[AS];unfold WW i';simp only[cW,aC,aQ b,bW,bF,dR,dE,g.len yC,bV,d,bO,aT,r];rfl
 |cons e r N=>
  intro k j m Y l f b;obtain⟨j,rfl⟩:=dD f;obtain⟨d,p,o⟩:=gB l;have hk':(k:Int)<(W.length:Int):=(by omega);have ix:=g.ix Bd.len d;have y:aE 0 (.aH ((W.drop k).flatMap Bd.c))=some (.aH ((W.drop k).flatMap Bd.c)):=rfl;have D:∀m,aA false 1 (.aH ((W.drop k).flatMap Bd.c)) m=some (T e.nm):=λm=>by rw[gV d,dK,p];rfl
  have F:aE 1 (.aH ((W.drop k).flatMap Bd.c))=some (.aH (((W.drop k).flatMap Bd.c).drop 1)):=rfl;have H:∀m,aA false 1 (.aH (((W.drop k).flatMap Bd.c).drop 1)) m=some e.ca:=λm=>by rw[gV d,dK,p];rfl
  have n:aM prog pI e.ca=some (I e.cs.length):=e.ok.len xp8;have K:=gJ k (by omega);have L:=N (k+1) j m (Y+26) o (by simp at f;omega) b;have M:CH (e::r)=((qX e.nm&&decide (e.cs.length<=22))&&CH r):=rfl;simp only[AS];unfold WW;simp only[cW,aC,aQ b,bW,bF,dR,dE,g.len yC,bV,hk',bB,aS,ix,y,D,ad,fT,ZS,M];cases qX e.nm
  .simp only[cC,fA,dO,dQ,cE,cT,aC,cS,bC,aS,qM]
  .simp only[cE,fA,dO,dQ,cC,bC,aC,aQ b,bF,dR,dE,ix,F,H,n,fT,cS,cT,gW];by_cases c:e.cs.length<=22
   .simp only[show ¬((22:Int)<(e.cs.length:Int)) by omega,c,bO,bB,aT,dS,K,aC,L,gW]
   .simp only[show((22:Int)<(e.cs.length:Int)) by omega,c,bO,bB,aS,qM]
end
def xo1(d:Nat)(f:Sl Bd.c A W)(a:Sl Pn.c pa J)(b:Sl Pe.c ea C)(m:Mem):aI (aG (d+1)) T9 [.agg [I E,I O,A,pa,ea]] m=some (B (yJ W J C),m):=by
 refine eY (by simp[f.aP,a.aP,b.aP]) ?_ m;rw[yb6];unfold sa bQ WV;have l:(AV.agg [I E,I O,A,pa,ea]).cells.all AV.one=true:=(by rw[nH];simp[f.one,a.one,b.one]);simp only[mem0,iE,l,bC];generalize h:Mem.new _ _ _=m1;have e:m1.get (0,0,1)=some (.row [I E,I O,A,pa,ea] 0 false):=(by rw[<-h,Mem.lF];rfl);unfold yJ;simp only[cW,aC,aQ e,bW,bF,dR,dE,f.len yC,fT];by_cases g:W.length<=8;rotate_left
 .simp only[show((8:Int)<(W.length:Int)) by omega,g,bB,bO,dO,dQ,cE,cT,bC,aC,cS,aS,qM];exact RetF.st rfl rfl
 by_cases i:J.length<=10;rotate_left
 .simp only[show ¬((8:Int)<(W.length:Int)) by omega,g,bB,bO,dO,dQ,cE,cC,cT,bC,aC,cS,aS,qM,gW,aQ e,bF,dR,dE,a.len vP,fT,show((10:Int)<(J.length:Int)) by omega,i];exact RetF.st rfl rfl
 by_cases j:C.length<=12;rotate_left
 .simp only[show ¬((8:Int)<(W.length:Int)) by omega,g,bB,bO,dO,dQ,cC,cT,bC,aC,cS,aS,qM,gW,aQ e,bF,dR,dE,a.len vP,b.len y9,fT,show ¬((10:Int)<(J.length:Int)) by omega,i,show((12:Int)<(C.length:Int)) by omega,j];exact RetF.st rfl rfl
 have r:=x2y (aG d) [] 0 (id:=(0,0,1)) (E:=E) (O:=O) f (by omega) a (by omega) b (by omega) W 0 NN m1 (0+18+1) rfl (by rw[dB];omega) e;rw[show I ((0:Nat):Int)=I 0 from rfl]at r;unfold zz;simp only[show ¬((8:Int)<(W.length:Int)) by omega,g,bB,bO,dO,dQ,cC,cT,bC,aC,cS,aT,gW,aQ e,bF,dR,dE,a.len vP,b.len y9,fT,show ¬((10:Int)<(J.length:Int)) by omega,i,show ¬((12:Int)<(C.length:Int)) by omega,j];rw[bW]at r;rw[r];exact RetF.st rfl rfl
end Go.Ix
namespace Go.Ix
open Go.Proofs
variable{A pa ea:AV}{W:List Bd}{J:List Pn}{C:List Pe}{E O:Int}
def xhr(x:ByteArray):∀{W a:List Bd} (k:Int),a.map Bd.core=W.map Bd.core->F8 x k a=F8 x k W
 |[],a,k,h=>by simp at h;subst h;rfl
 |b::r,[],k,h=>by simp at h
 |b::r,g::i,k,h=>by rw[eN,eN]at h;obtain⟨e,f⟩:=List.cons.inj h;have d:g.nm=b.nm:=congrArg (·.1) e;rw[F8,F8,d,xhr x (k+1) f]
def xjb{W a:List Bd}(h:a.map Bd.core=W.map Bd.core)(b:∀x∈W,x.nm.size<=1000/\x.cs.length<=1000):∀x∈a,x.nm.size<=1000/\x.cs.length<=1000:=λx d=>by have:x.core∈W.map Bd.core:=h▸ji d;obtain⟨y,i,e⟩:=fR.mp this;have f:y.nm=x.nm:=congrArg (·.1) e;have g:y.cs=x.cs:=congrArg (·.2.1) e;have:=b y i;rw[f,g]at this;exact this
def ZT(h:yJ W J C=true):W.length<=8/\J.length<=10/\C.length<=12/\(∀x∈W,x.nm.size<=1000/\x.cs.length<=1000)/\(∀x∈J,x.nm.size<=1000)/\∀x∈C,x.nm.size<=1000:=by
 unfold yJ CH N1 A7 qX at h;simp only[cR,mP,dG]at h;obtain⟨b,d,e,f,g,i⟩:=h;refine⟨b,d,e,λx a=>?_,λx a=>?_,λx a=>?_⟩
 .have:=f x a;omega
 .have:=g x a;omega
 .have:=i x a;omega
def xpz(d:Nat){a:AV}{L:List Ent}(b:Sl Ent.c a L)(e:L.length<=9223372036854775807)(m:Mem):aI (aG (d+1)) FQ [a] m=some (B (zX L&&(decide (L.length<=20)||(decide (40<L.length)&&decide (L.length<=42)))),m):=by refine Ans.eR (m:=m) ?_ (by simp[b.bD]) rfl;unfold Ans;rw[yb7];unfold sb bQ WZ C';exact⟨_,xgw _ _ _ b L 0 NN _ _ rfl (by rw[dB];omega) e⟩
def ydi{L:List Ent}(h:(zX L&&(decide (L.length<=20)||(decide (40<L.length)&&decide (L.length<=42))))=true):(∀x∈L,Br10 x)/\L.length<=42:=by simp only[cR,lW,mP]at h;refine⟨λx a=>?_,by omega⟩;have:=dG.1 h.1 x a;simp only[cR,mP]at this;exact⟨by omega,by omega⟩
end Go.Ix
namespace Go.Ix
open Go.Proofs
variable{A pa ea:AV}{W:List Bd}{J:List Pn}{C:List Pe}{E O:Int}{X:St10}
def xjx{a:aJ}{f:FuncId}{l:List AV}{r:AV}{g i:Mem}(b:l.all bD=true)(h:aI a f l g=some (r,i))(m:Mem):aI a f l m=some (r,m):=by
 unfold aI at h;rw[zN _ b]at h;dsimp only at h;cases d:a [] f l mem0 with
 |none=>rw[d]at h;cases h
 |some p=>
  rw[d]at h;dsimp only at h;cases e:Go.Ix.frz p.2.get bR p.1 with
  |none=>rw[e]at h;cases h
  |some r0=>rw[e]at h;have:=congrArg Prod.fst (oM h);dsimp only at this;subst this;exact H7 b d e
def yc3(d:Nat)(j:Sl Bd.c A W)(l:Sl Pn.c pa J)(n:Sl Pe.c ea C)(h:yJ W J C=true)(E O:Int) :
    ∃a e f g,Sl Bd.c a g/\g.map Bd.core=W.map Bd.core/\Sl Pn.c e J/\Sl Pe.c f C/\∀m,aI (aG (d+1)) sN [.agg [I E,I O,A,pa,ea]] m=some (.agg [I E,I O,a,e,f],m):=by
 obtain⟨o,D,F,i,p,r⟩:=ZT h;obtain⟨a,e,f,g,t,u,w,x,y⟩:=xps d (E:=E) (O:=O) j l n (by omega) (by omega) (by omega) (λb o=>by have:=(i b o).2;omega) mem0;exact⟨a,e,f,g,t,u,w,x,λm=>xjx (by rw[dY,yF];simp[j.aP,l.aP,n.aP]) y m⟩
def xj0(d:Nat){a:AV}{L:List Ent}(e:Sl Ent.c a L)(f:L.length<=1000000):∃b,Sl Ent.c b L/\∀m,aI (aG (d+1)) wD [a] m=some (b,m):=by obtain⟨b,g,h⟩:=xpt d e f mem0;exact⟨b,g,λm=>xjx (by rw[dY,e.bD];rfl) h m⟩
def SmO.mk10{d e f b:AV}{a:List Bd}{L:List Ent}(i:Sl Bd.c d a)(h:a.map Bd.core=W.map Bd.core)(j:Sl Pn.c e J)(l:Sl Pe.c f C)(g:yJ W J C=true)(m:Sl Ent.c b L)(n:L.length<=21\/40<L.length)(o:∀x∈L,x.tx.length<=1000):SmO d e f a J C b L:=by obtain⟨w,y,A,p,r,t⟩:=ZT g;have u:a.length=W.length:=(by simpa using congrArg List.length h);exact⟨i,j,l,by omega,by omega,by omega,xjb h p,r,t,m,n,o⟩
open Go.Proofs
def x77{n:Nat}{id:Id}{v o:Nat}(h:id.1<n):dJ (some n) (tR (.ptr id v o)) 2=true:=by simp[dJ,tR,h]
theorem x76{n:Nat}{a:List AV}:dJ (some n) (tR (.aH a)) 2=true:=rfl
def du(x:ByteArray):∀(l:List Bd) (k:Int),F8 x k l=idxQ (nmQ Bd.nm x) k l
 |[],_=>rfl
 |b::r,k=>by rw[F8,idxQ,du x r];rfl
def SmO.ok{a:AV}{L:List Ent}(h:SmO A pa ea W J C a L)(d:(eE E O W J C L).2.1=0):SuOK E O A pa ea W J C/\W.length<=6/\L.length<=21/\XOK 12 (eE E O W J C L).2.2.2:=by
 obtain⟨v,-,-,g⟩:=gq 0 (E:=E) (O:=O) h.b h.p h.e h.bn h.pn h.en h.bs h.ps h.es h.a h.n h.t;obtain⟨i,j,-,m⟩:=g d;have f:L.length<=21:=by
  rcases h.n with hn|hn
  .exact hn
  .have:=(O0 d).2.1;omega
 exact⟨i,j,f,m.x.ok f (by omega) (by omega)⟩
open Go.Proofs
def H5{α:Type}{g:α->List AV}{z d:Nat}{t:List AV}(p:∀x,(g x).length=z)(Z:∀x,(g x).all aP=true){a:AV}{S:List α}(h:Sl g a S)(u:cF S.length d){e:Option AV}(w:a=nilS->e=some (B true))(y:∀E n x,a=.aN E n x->e=some (B false))(A r:Id)(m:Mem) :
    RetF (λv=>Sl g v S) (e.bind λC=>aK C (some (nilS,m)) (cV t [] 0 z A m λD i=>cK z d r (elems i.get z a) D i λj f=>some (j,f))):=by
 rcases h with ⟨rfl,rfl⟩|⟨b,rfl⟩
 .rw[w rfl];exact RetF.st rfl (.inl ⟨rfl,rfl⟩)
 .rw[y _ _ _ rfl];simp only[aC,aT,U5];rcases zY p (Sl.lit S b) u r m with ⟨rfl,o⟩|⟨F,o⟩
  .have l:=o (λj f=>some (j,f));rw[l];exact RetF.st rfl (.inr ⟨true,rfl⟩)
  .have l:=o (λj f=>some (j,f));rw[l];exact RetF.mk (G7 (k:=4) p Z (x:=true) (by simp)) (Sl.lit S false)
def xop(d:Nat){a:AV}{S:List _}(h:Sl Scene.c a S)(f:S.length<=1000):∃b,Sl Scene.c b S/\∀m,aI (aG (d+1)) EI [a] m=some (b,m):=by refine zW (by rw[dY,Sl.bD h];rfl) ?_;rw[x9y];unfold oc bQ SS;exact H5 Scene.len Scene.still10 h (by unfold cF;omega) (λe=>by rw[e];kernel_rfl) (λg n x e=>by rw[e];kernel_rfl) _ _ _
def xot(d:Nat){a:AV}{S:List _}(h:Sl OPr.c a S)(f:S.length<=1000):∃b,Sl OPr.c b S/\∀m,aI (aG (d+1)) yX [a] m=some (b,m):=by refine zW (by rw[dY,Sl.bD h];rfl) ?_;rw[xjr];unfold OW bQ IQ;exact H5 OPr.len OPr.bD h (by unfold cF;omega) (λe=>by rw[e];kernel_rfl) (λg n x e=>by rw[e];kernel_rfl) _ _ _
def xou(d:Nat){a:AV}{S:List _}(h:Sl Lv10.c a S)(f:S.length<=1000):∃b,Sl Lv10.c b S/\∀m,aI (aG (d+1)) EM [a] m=some (b,m):=by refine zW (by rw[dY,Sl.bD h];rfl) ?_;rw[x92];unfold oh bQ SW;exact H5 Lv10.len Lv10.bD h (by unfold cF;omega) (λe=>by rw[e];kernel_rfl) (λg n x e=>by rw[e];kernel_rfl) _ _ _
def xov(d:Nat){a:AV}{S:List _}(h:Sl intE a S)(f:S.length<=1000):∃b,Sl intE b S/\∀m,aI (aG (d+1)) yW [a] m=some (b,m):=by refine zW (by rw[dY,Sl.bD h];rfl) ?_;rw[xjq];unfold OV bQ IP;exact H5 fL F4 h (by unfold cF;omega) (λe=>by rw[e];kernel_rfl) (λg n x e=>by rw[e];kernel_rfl) _ _ _
def NU(X:St10)(r:AV):Prop:=∃s p v c,r=.agg [s,p,v,c]/\Sl Scene.c s X.L/\Sl OPr.c p X.S/\Sl Lv10.c v X.V/\Ints c X.C
def xbv(d:Nat){a:AV}{L:List Ent}(h:SmO A pa ea W J C a L) :
    ∃r,(∀m,aI (aG (d+27)) E5 [.agg [I E,I O,A,pa,ea],a] m=some (.tup [r,I (eE E O W J C L).2.1],m))/\((eE E O W J C L).2.1≠0->r=.agg [nilS,nilS,nilS,nilS])/\((eE E O W J C L).2.1=0->NU (eE E O W J C L).2.2.2 r):=by
 obtain⟨v,o1,o2,o3⟩:=gq d (E:=E) (O:=O) h.b h.p h.e h.bn h.pn h.en h.bs h.ps h.es h.a h.n h.t;have u:[AV.agg [I E,I O,A,pa,ea],a].all bD=true:=(by have:[I E,I O,A,pa,ea].all aP=true:=(by simp[h.b.aP,h.p.aP,h.e.aP]);rw[dY,yF,this,dY,h.a.bD];rfl);suffices key:∃r m',aG (d+27) [] E5 [.agg [I E,I O,A,pa,ea],a] mem0=some (.tup [r,I (eE E O W J C L).2.1],m')/\bD r=true/\((eE E O W J C L).2.1≠0->r=.agg [nilS,nilS,nilS,nilS])/\((eE E O W J C L).2.1=0->NU (eE E O W J C L).2.2.2 r) by obtain⟨r,m',e1,e2,e3,e4⟩:=key;exact⟨r,λm=>rT u e1 (by rw[dY,e2];rfl),e3,e4⟩
 rw[ybt];unfold rk aU WC;have D:(AV.agg [I E,I O,A,pa,ea]).cells.all AV.one=true:=(by show([I E,I O,A,pa,ea]:List AV).all AV.one=true;simp[h.b.one,h.p.one,h.e.one]);obtain⟨M1,m1,g1,k1,hM1⟩:=mQ (x:=.agg [I E,I O,A,pa,ea]) D (0,0,2) ⟨[],0+1⟩;obtain⟨F,i⟩:∃M:Mem,M=M1.new (0,1,4) (.row oQ 0 false):=⟨_,rfl⟩;have g2:F.get (0,1,4)=some (.row [nilS,nilS,nilS,nilS] 0 false):=(by rw[i,Mem.dI,aF rfl,JP]);have g22:F.get (0,0,2)=some (.row [I E,I O,A,pa,ea] 0 false):=(by rw[i,Mem.dI,aB (by decide)];exact g1);have l5:aA true 5 (.ptr (0,0,2) 0 0) F=some (.agg [I E,I O,A,pa,ea]):=(by rw[aQ g22];rfl);have o1':aI (aG (d+26)) uS [.agg [I E,I O,A,pa,ea],a] F=_:=o1 F;have lP:∀{z:Nat} {id:Id} {M:Mem} {b:List AV},M.get id=some (.row b 0 false)->b.length=z->kY true z (.ptr id 0 0) M=some (.agg b):=λ{z id M b} hg hb=>(by show aA true z (.ptr id 0 0) M=_;subst hb;rw[aQ hg,bF,N8];simp);simp only[mem0,hM1,lQ,bW,<-i,l5,aC,o1',lY,kG,kH,fS];by_cases o:(eE E O W J C L).2.1=0;case neg=>obtain⟨M3,g3,n3,k3,j⟩:=KV (z:=4) (x:=.agg [nilS,nilS,nilS,nilS]) g2 rfl rfl rfl;simp only[fU o,cC,aS,YI,aC,j,lP (z:=4) g3 rfl];exact⟨_,_,rfl,rfl,λ_=>rfl,λh=>absurd h o⟩
 obtain⟨hO,hbl,⟨f,s,p,w,c,rfl,v1,v2,v3,v4,v5⟩,hI⟩:=o3 o;have hLn:L.length<=21:=by
  rcases h.n with hn|hn
  .exact hn
  .have:=(O0 o).2.1;omega
 have Q:=hI.x.ok hLn (by omega) (by omega:12<=12);have q1:∀l:List AV,cD (.aH l)=some (.aH l):=λ_=>rfl
 have q2:aE 2 (.aH [.aH (SC E O A pa ea),f,.aH (SC E O A pa ea),s,p,w,c])=some (.aH [.aH (SC E O A pa ea),s,p,w,c]):=rfl;have q3:aE 1 (.aH [.aH (SC E O A pa ea),s,p,w,c])=some (.aH [s,p,w,c]):=rfl;have f0:aE 0 (.aH [s,p,w,c])=some (.aH [s,p,w,c]):=rfl;have f1:aE 1 (.aH [s,p,w,c])=some (.aH [p,w,c]):=rfl;have f2:aE 2 (.aH [s,p,w,c])=some (.aH [w,c]):=rfl;have f3:aE 3 (.aH [s,p,w,c])=some (.aH [c]):=rfl;have d0:∀m,aA false 1 (.aH [s,p,w,c]) m=some s:=λ_=>rfl
 have d1:∀m,aA false 1 (.aH [p,w,c]) m=some p:=λ_=>rfl
 have d2:∀m,aA false 1 (.aH [w,c]) m=some w:=λ_=>rfl
 have d3:∀m,aA false 1 (.aH [c]) m=some c:=λ_=>rfl
 obtain⟨H,R,s2⟩:=xop (d+25) v2 (by have:=Q.L;omega);obtain⟨K,X,p2⟩:=xot (d+25) v3 Q.S;obtain⟨N,Y,w2⟩:=xou (d+25) v4 Q.V;obtain⟨P,g,c2⟩:=xov (d+25) v5 (by have:=Q.C;omega);have mk:∀{α:Type} {Z:α->List AV} {a:AV} {l:List α},Sl Z a l->cY 0 [a]=2:=λh=>by rcases h with ⟨rfl,-⟩|⟨y,rfl⟩<;>rfl
 have zb:dA oQ [(0,1,H),(1,1,K),(2,1,N),(3,1,P)]=some (.agg [H,K,N,P]):=by rcases R with ⟨rfl,-⟩|⟨_,rfl⟩<;>rcases X with ⟨rfl,-⟩|⟨_,rfl⟩<;>rcases Y with ⟨rfl,-⟩|⟨_,rfl⟩<;>rcases g with ⟨rfl,-⟩|⟨_,rfl⟩<;>kernel_rfl
 obtain⟨M3,g3,n3,k3,j⟩:=KV (z:=4) (x:=.agg [H,K,N,P]) g2 rfl rfl (by
  show([H,K,N,P]:List AV).all AV.one=true
  simp[R.one,X.one,Y.one,Sl.one g])
 simp only[eX o,cE,aT,q1,q2,q3,f0,f1,f2,f3,aC,d0,d1,d2,d3,s2,p2,w2,c2,zb,j,lP (z:=4) g3 rfl,mk v2,mk v3,mk v4,x76,show Nat.ble 1 2=true from rfl,iL,bC];exact⟨.agg [H,K,N,P],M3,by rw[o];rfl,by rw[yF];simp[R.aP,X.aP,Y.aP,Sl.aP g],λh=>absurd o h,λ_=>⟨_,_,_,_,rfl,R,X,Y,g⟩⟩
def xpy(d:Nat){a:AV}{L:List Ent}(h:SmO A pa ea W J C a L)(m:Mem):aI (aG (d+27)) FN [.agg [I E,I O,A,pa,ea],a] m=some (.tup [I (eE E O W J C L).1,I (eE E O W J C L).2.1],m):=by obtain⟨v,r,u,w⟩:=gq d (E:=E) (O:=O) h.b h.p h.e h.bn h.pn h.en h.bs h.ps h.es h.a h.n h.t;have f:[AV.agg [I E,I O,A,pa,ea],a].all bD=true:=(by have:[I E,I O,A,pa,ea].all aP=true:=(by simp[h.b.aP,h.p.aP,h.e.aP]);rw[dY,yF,this,dY,h.a.bD];rfl);refine eY f ?_ m;rw[yb3];unfold rx aU WT;have g:(AV.agg [I E,I O,A,pa,ea]).cells.all AV.one=true:=(by show([I E,I O,A,pa,ea]:List AV).all AV.one=true;simp[h.b.one,h.p.one,h.e.one]);obtain⟨i,y,l,D,j⟩:=mQ (x:=.agg [I E,I O,A,pa,ea]) g (0,0,2) ⟨[],0+1⟩;have g1':i.get (0,0,2)=some (.row [I E,I O,A,pa,ea] 0 false):=l;have o:aA true 5 (.ptr (0,0,2) 0 0) i=some (.agg [I E,I O,A,pa,ea]):=(by rw[aQ g1'];rfl);have o1':aI (aG (d+26)) uS [.agg [I E,I O,A,pa,ea],a] i=_:=r i;simp only[mem0,j,o,aC,o1',lY,kG,kH];exact RetF.tup rfl rfl
open Go.Proofs
def FBk(E O:Int)(A a d:AV)(X:St10)(b:AV):Prop:=∃s p v c,b=FB E O A a d s p v c/\Sl Scene.c s X.L/\Sl OPr.c p X.S/\Sl Lv10.c v X.V/\Ints c X.C
def FBk.one{b:AV}(h:FBk E O A pa ea X b):∃a,b=.agg a/\a.length=5/\a.all AV.one=true/\bD (.agg a)=true:=by obtain⟨s,p,v,c,rfl,d,e,f,g⟩:=h;refine⟨_,rfl,rfl,by simp[d.one,e.one,f.one,Sl.one g];rfl,?_⟩;rw[yF];simp[d.aP,e.aP,f.aP,Sl.aP g];rfl
open Go.Proofs
def ClE(u:Nat)(m:Mem)(r:AV)(S:List Ent):Prop:=(S=[]/\(r=nilS\/r=.aN [] 0 true))\/(S≠[]/\r=.sref (u,5,7) 0 0 S.length 2 true/\m.get (u,5,7)=some (.row (S.flatMap Ent.c) 0 false))
def ClE.app{u:Nat}{m:Mem}{r:AV}{S:List Ent}(h:ClE u m r S)(C:S.length<=1000)(x:Ent)(id:Id):∃d i,(∀{R:Type} (K:AV->Mem->Option R),cK 2 32 id (some (x.c,1)) r m K=K d i)/\∃j,Go.Ix.frz i.get 5 d=some j/\Sl Ent.c j (S++[x]):=by
 have b:∀n,n<=1001->cF n 32:=λn D=>by unfold cF;omega
 have one:∀{R:Type} (K:AV->Mem->Option R) (r:AV),(r=nilS\/r=.aN [] 0 true)->cK 2 32 id (some (x.c,1)) r m K=K (.sref id 0 0 1 2 true) (m.new id (.row x.c 0 false)):=λK r a=>by
  rcases a with rfl|rfl
  .simp only[cK];rw[aB (by decide),aF (b 1 (by omega))]
  .simp only[cK];rw[aF (by decide),aB (by decide),aF (b _ (by omega))];rfl
 rcases h with ⟨rfl,w⟩|⟨y,rfl,A⟩
 .refine⟨_,_,λK=>one K r w,_,G7 (k:=3) (l:=[x]) Ent.len Ent.stl (by
   rw[Mem.dI,aF rfl]
   show _=some (Ob.row (x.c++[]) 0 false)
   rw[hW]),Sl.lit [x] false⟩
 .have t:=fN Ent.len S;refine⟨.sref (u,5,7) 1 0 (S.length+1) 2 true,m.set (u,5,7) (.row (S.flatMap Ent.c++x.c) 1 false),λK=>?_,.aN ((S++[x]).flatMap Ent.c) (S++[x]).length false,?_,Sl.lit _ false⟩
  .simp only[cK,A];rw[aF ⟨trivial,trivial,by omega,b _ (by omega)⟩,aB (by decide),aB (by rw[t];omega),bF,dT (by omega)]
  .have e:(S++[x]).flatMap Ent.c=S.flatMap Ent.c++x.c:=(by rw[rW,dK,xlj,hW]);have o:((S++[x]).flatMap Ent.c).length=(S.length+1)*2:=(by rw[fN Ent.len,eT];rfl);have p:((S++[x]).flatMap Ent.c).take ((S.length+1)*2)=(S++[x]).flatMap Ent.c:=dT (by omega);have g:(m.set (u,5,7) (.row (S.flatMap Ent.c++x.c) 1 false)).get (u,5,7)=some (.row ((S++[x]).flatMap Ent.c) 1 false):=by rw[Mem.bG,aF rfl,e]
   have:=rP (aD:=(m.set (u,5,7) (.row (S.flatMap Ent.c++x.c) 1 false)).get) (id:=(u,5,7)) (cs:=(S++[x]).flatMap Ent.c) (ver:=1) (off:=0) (n:=S.length+1) (z:=2) (k:=3) (f:=false) (x:=true) g (by omega) (by
    rw[bF,p];exact pC Ent.stl _)
   rw[bF,p]at this;rw[this,eT];rfl
end Go.Ix
namespace Go.Ix
open Go.Proofs
variable{K:Id->Prop}{A pa ea:AV}{W:List Bd}{J:List Pn}{C:List Pe}{E O:Int}{m:Mem}{X:St10}
def xor(d:Nat){a:AV}{S:List Pl}(h:Sl Pl.c a S)(f:S.length<=1000):∃b,Sl Pl.c b S/\∀m,aI (aG (d+1)) EJ [a] m=some (b,m):=by refine zW (by rw[dY,Sl.bD h];rfl) ?_;rw[x9z];unfold od bQ ST;exact H5 Pl.len Pl.bD h (by unfold cF;omega) (λe=>by rw[e];kernel_rfl) (λg n x e=>by rw[e];kernel_rfl) _ _ _
theorem Pn.stl10(x:Pn):x.c.all aP=true:=rfl
theorem Pe.stl10(x:Pe):x.c.all aP=true:=rfl
def xoq(d:Nat){a:AV}{S:List Pn}(h:Sl Pn.c a S)(f:S.length<=1000):∃b,Sl Pn.c b S/\∀m,aI (aG (d+1)) EK [a] m=some (b,m):=by refine zW (by rw[dY,Sl.bD h];rfl) ?_;rw[x90];unfold oe bQ SU;exact H5 Pn.len Pn.stl10 h (by unfold cF;omega) (λe=>by rw[e];kernel_rfl) (λg n x e=>by rw[e];kernel_rfl) _ _ _
def xos(d:Nat){a:AV}{S:List Pe}(h:Sl Pe.c a S)(f:S.length<=1000):∃b,Sl Pe.c b S/\∀m,aI (aG (d+1)) EL [a] m=some (b,m):=by refine zW (by rw[dY,Sl.bD h];rfl) ?_;rw[x91];unfold og bQ SV;exact H5 Pe.len Pe.stl10 h (by unfold cF;omega) (λe=>by rw[e];kernel_rfl) (λg n x e=>by rw[e];kernel_rfl) _ _ _
def ClB(u:Nat)(m:Mem)(r:AV)(S:List Bd):Prop:=(S=[]/\(r=nilS\/r=.aN [] 0 true))\/(S≠[]/\r=.sref (u,5,7) 0 0 S.length 3 true/\m.get (u,5,7)=some (.row (S.flatMap Bd.c) 0 false))
def yc7(d:Nat){a:AV}{S:List Bd}(h:Sl Bd.c a S)(D:S.length<=1000)(m:Mem):∃r M,sH (aG (d+1)) R7 [a] m=some (r,M)/\ClB m.next M r S/\M.next=m.next+1/\∀j:Id,j.1<m.next->M.get j=m.get j:=by
 obtain⟨r,g,w,o,x⟩:∃r g,aG (d+1) [] R7 [a] ⟨[],m.next⟩=some (r,g)/\ClB m.next g r S/\g.next=m.next+1:=by
  rw[x94];unfold oj bQ SY;have u:cF S.length 48:=(by unfold cF;omega);rcases h with ⟨rfl,rfl⟩|⟨b,rfl⟩
  .refine⟨nilS,⟨[],m.next+1⟩,?_,.inl ⟨rfl,.inl rfl⟩,rfl⟩;have:bP prog .eql lK (.tmp 3) (.const (.slice none 0 0)) nilS nilS=some (B true):=(by kernel_rfl);simp only[this,aC,aS]
  .have:bP prog .eql lK (.tmp 3) (.const (.slice none 0 0)) (.aN (S.flatMap Bd.c) S.length b) nilS=some (B false):=(by kernel_rfl);simp only[this,aC,aT,U5];rcases zY Bd.len (Sl.lit S b) u (m.next,0+5,7) (⟨[],m.next+1⟩:Mem)with ⟨rfl,p⟩|⟨f,p⟩
   .have n:=p (λi e=>some (i,e));exact⟨_,_,n,.inl ⟨rfl,.inr rfl⟩,rfl⟩
   .have n:=p (λi e=>some (i,e));exact⟨_,_,n,.inr ⟨f,rfl,by simp⟩,rfl⟩
 obtain⟨M,A,C,t⟩:=gm (m:=m) (l:=[a]) (by
  rcases h with ⟨rfl,-⟩|⟨y,rfl⟩<;>rfl) w
 refine⟨r,M,A,?_,by rw[C,x],λj E=>by rw[t,aB (by omega)]⟩;rcases o with o|⟨f,rfl,hg⟩
 .exact .inl o
 .exact .inr ⟨f,rfl,by rw[t,aF (bS _)];exact hg⟩
structure DkI (K:Id->Prop) (m:Mem) (did:Id) (P:List AV) (L:List Ent) (F:List (List UInt8)) (X:St10):Prop where
 kn:∀j,K j->j.1<m.next
 kd:K did
 sl:did.2.2=44
 ex:∃hid lv,hid.2.2=8/\m.get did=some (.row [.ptr hid 0 0,lv] 0 false)/\Hk K m hid P F X/\Gk 2 Ent.c (λj=>K j/\j.2.2=32) m lv L
def xm7(h:Id):dA xa3 [(0,1,.ptr h 0 0)]=some (.agg [.ptr h 0 0,nilS]):=by kernel_rfl
def xkg(d:Nat)(Z:FHs)(u Y:Nat){a:Id}{P:List AV}(e:a=(u,0,1))(D:u<m.next){f:Bool}(E:RowP (λj=>j=(u,Y+2,44)) m a P f) :
    ∃l,JD (aG (d+1)) Z u (.ptr a 0 0) m Y=some (.tup [.ptr (u,Y+2,44) 0 0,I 0],l)/\l.next=m.next+1/\(∀j,j.1<u->l.get j=m.get j)/\DkI (λj=>j=(u,Y+2,44)) l (u,Y+2,44) P [] [] X0:=by
 unfold JD;obtain⟨t,g⟩:∃M:Mem,M=(⟨m.hp,m.next+1⟩:Mem).new (m.next,6,8) (.row [.ptr a 0 0,nilS,.ptr a 0 0,nilS,nilS,nilS,nilS] 0 false):=⟨_,rfl⟩;have A:=x46 d Z a m;rw[<-g]at A;obtain⟨o,p,K,w,y⟩:=mQ (x:=.agg [.ptr (m.next,6,8) 0 0,nilS]) rfl (u,Y+2,44) t;have n:t.next=m.next+1:=(by rw[g];rfl);have C:∀j,j≠(m.next,6,8)->t.get j=m.get j:=λj b=>by rw[g,Mem.dI,aB b];rfl
 have H:((m.next,6,8):Id)≠(u,Y+2,44):=λh=>by simp at h
 simp only[A,aC,xm7,y];refine⟨o,rfl,by rw[p,n],λj b=>?_,λj b=>by rw[b];show u<o.next;rw[p,n];omega,rfl,rfl,(m.next,6,8),nilS,rfl,K,?_,.inl ⟨rfl,rfl⟩⟩
 .rw[w j (λh=>by rw[h]at b;simp at b),C j (λh=>by rw[h]at b;simp at b;omega)]
 .have gr:GrP (λj=>j=(u,Y+2,44)) (λj=>j=(u,Y+2,44)) m o:=⟨by rw[p,n];exact tJ _,λj b F=>by
   rw[w j F,C j (λh=>by rw[h]at b;simp at b)];exact⟨.refl _,λ_=>rfl⟩⟩
  have r:a≠(u,Y+2,44):=λh=>by rw[e]at h;simp[Prod.ext_iff]at h
  have J:SpK (λj=>j=(u,Y+2,44)) m P a:=⟨by rw[e];exact D,⟨.inr (by rw[e]),r⟩,f,E⟩;have i:=J.gr gr (λj b=>.inr (.inr (.inr b)));refine⟨.inl rfl,by show m.next<o.next;rw[p,n];omega,a,nilS,[.ptr a 0 0,nilS,nilS,nilS,nilS],?_,i,.inl ⟨rfl,rfl⟩,i.book0⟩;rw[w _ H,g,Mem.dI,aF rfl]
def x3w{Q0:O2->Prop}(d:Nat)(Z:FHs)(u:Nat){bid:Id}{n:Nat}(hn:n<=1000)(hb:bid.1≠u){pa ea:AV}{w g:Int}(hQ:∀(E:Mem) (Y:Nat) (B':List Bd),E.next=m.next->(∀j,j≠bid->E.get j=m.get j)->B'.map Bd.core=W.map Bd.core->E.get bid=some (.row (B'.flatMap Bd.c) 0 false)->Q0 (JD (aG (d+1)) Z u (.ptr (u,0,1) 0 0) E Y))(hc:∀b∈W,b.cs.length<=1000)(g1:m.get (u,0,1)=some (.row [I w,I g,.sref bid 0 0 n 3 true,pa,ea] 0 false)) :
    ∀(Q A:List Bd) (j:Nat) (a:Mem) (Y:Nat),A.length+Q.length=n->A.map Bd.core++Q.map Bd.core=W.map Bd.core->Q.length<j->a.next=m.next->(∀j,j≠bid->a.get j=m.get j)->a.get bid=some (.row ((A++Q).flatMap Bd.c) 0 false) ->
     Q0 (J4 (aG (d+1)) Z u j (.ptr (u,0,1) 0 0) (I n) (I A.length) a Y):=by
 intro Q;induction Q with
 |nil=>intro A j a Y L F f o H r;obtain⟨j,rfl⟩:=dD f;have M:¬((A.length:Int)<(n:Int)):=(by simp at L;omega);simp only[J4];unfold JC;simp only[bV,M,bO,aC,aT];rw[hW]at r;exact hQ a _ A o H (by simpa using F) r
 |cons b Q ih=>intro A j a Y L F f o H r;obtain⟨j,rfl⟩:=dD f;have hln:A.length+(Q.length+1)=n:=(by simpa using L);have M:((A.length:Int)<(n:Int)):=(by omega);have t:=fN Bd.len A;have C:(A++b::Q).flatMap Bd.c=A.flatMap Bd.c++([T b.nm,b.ca,I b.th]++Q.flatMap Bd.c):=(by rw[rW,dK];rfl);have N:((A++b::Q).flatMap Bd.c).drop (A.length*3+1)=b.ca::I b.th::Q.flatMap Bd.c:=(by rw[C,<-t,n9];simp);have ix:aV 3 (.sref bid 0 0 n 3 true) (I A.length)=some (.ptr bid 0 (A.length*3)):=(by simp only[aV,dF];rw[aF ⟨by omega,by omega,trivial⟩];simp);have gu:a.get (u,0,1)=some (.row [I w,I g,.sref bid 0 0 n 3 true,pa,ea] 0 false):=(by rw[H _ (λh=>hb (by rw[<-h]))];exact g1);have lb:aA false 1 (.ptr (u,0,1) 0 2) a=some (.sref bid 0 0 n 3 true):=(by rw[aQ gu];rfl);have lc:aA false 1 (.ptr bid 0 (A.length*3+1)) a=some b.ca:=(by rw[aQ r,N];rfl);have O:b.cs.length<=1000:=(by have:b.core∈W.map Bd.core:=(by rw[<-F];simp);obtain⟨y,hy,e⟩:=fR.mp this;have o:y.cs=b.cs:=congrArg (·.2.1) e;rw[<-o];exact hc y hy);obtain⟨l,a1,a2⟩:=xor d b.ok O;have J:l.cells=[l]/\l.one=true:=(by rcases a1 with ⟨rfl,-⟩|⟨y,rfl⟩<;>exact⟨rfl,rfl⟩);obtain⟨i,D⟩:∃i:Bd,i={nm:=b.nm,ca:=l,cs:=b.cs,th:=b.th,ok:=a1}:=⟨_,rfl⟩;have hbc':i.c=[T b.nm,l,I b.th]:=(by rw[D];rfl);have P:i.core=b.core:=(by rw[D];rfl);have w1:cJ ((A.length:Int)+1)=((A.length+1:Nat):Int):=(by rw[bU];omega);have mk:cY 0 [b.ca]=2:=(by rcases b.ok with ⟨h,-⟩|⟨y,h⟩<;>rw[h]<;>rfl);have X:∀{R:Type} (K:Mem->Option R),bA 1 (.ptr bid 0 (A.length*3+1)) l a K=K (a.set bid (.row (((A++[i])++Q).flatMap Bd.c) 0 false)):=λ{R} K=>(by have hc3:((A++b::Q).flatMap Bd.c).length=(A.length+(Q.length+1))*3:=(by rw[fN Bd.len,eT];rfl);rw[iB (z:=1) (x:=l) (k:=K) r (by rw[J.1];rfl) (by omega) (by rw[J.1];simp[J.2]),J.1,C,<-t,KX];congr 4;rw[kU,rW,NX,dK,hbc'];rfl);have cn:∀p,dJ none (tR p) 2=true:=ydb;simp only[J4];unfold JC;simp only[bV,M,bB,aC,aS,cW,bW,lb,ix,lc,a2,X,mk,cn,show Nat.ble 1 2=true from rfl,iL,bC,dS,w1];have:=ih (A++[i]) j (a.set bid (.row (((A++[i])++Q).flatMap Bd.c) 0 false)) (Y+18) (by simp;omega) (by rw[<-F,nN,eN,eN,P];simp) (by simp at f;omega) (by rw[<-o];rfl) (λj f=>by rw[Mem.bG,aB f];exact H j f) (by rw[Mem.bG,aF rfl]);rw[eT]at this;exact this
open Go.Proofs
def KU{a:Nat}{M:Mem}{id:Id}{b:List AV}{v:AV}(f:M.get id=some (.row b a false))(k:Nat)(h:k<b.length)(d:v.cells=[v])(g:v.one=true):∀{R:Type} (e:Mem->Option R),bA 1 (.ptr id a k) v M e=e (M.set id (.row (cH b k [v]) a false)):=λe=>by rw[iB (z:=1) f (by rw[d];rfl) (by omega) (by rw[d];simp[g]),d]
def Sl.cells1{α:Type}{b:α->List AV}{a:AV}{l:List α}(h:Sl b a l):a.cells=[a]/\a.one=true:=by rcases h with ⟨rfl,-⟩|⟨x,rfl⟩<;>exact⟨rfl,rfl⟩
def xo8(d:Nat)(Z:FHs)(h1:Sl Bd.c A W)(h2:Sl Pn.c pa J)(h3:Sl Pe.c ea C)(hb:W.length<=1000)(hp:J.length<=1000)(he:C.length<=1000)(hnb:∀x∈W,x.nm.size<=1000/\x.cs.length<=1000)(hnp:∀x∈J,x.nm.size<=1000)(hne:∀x∈C,x.nm.size<=1000)(hset:kN E O W J C=0)(m:Mem) :
    ∃t i u a e D,aG (d+8) Z T5 [.agg [I E,I O,A,pa,ea]] m=some (.tup [.ptr i 0 0,I 0],t)/\m.next<=t.next/\(∀j,j.1<m.next->t.get j=m.get j)/\m.next<=i.1 /\
     Sl Bd.c u D/\D.map Bd.core=W.map Bd.core/\Sl Pn.c a J/\Sl Pe.c e C/\DkI (λj=>j=i) t i (SC E O u a e) [] [] X0:=by
 rw[ybv];unfold rm bQ WE;have hone:(AV.agg [I E,I O,A,pa,ea]).cells.all AV.one=true:=(by show([I E,I O,A,pa,ea]:List AV).all AV.one=true;simp[h1.one,h2.one,h3.one]);obtain⟨X,n1,g1,k1,hM1⟩:=mQ (x:=.agg [I E,I O,A,pa,ea]) hone (m.next,0,1) ⟨m.hp,m.next+1⟩;have g1':X.get (m.next,0,1)=some (.row [I E,I O,A,pa,ea] 0 false):=g1;have n1':X.next=m.next+1:=n1;have l5:aA true 5 (.ptr (m.next,0,1) 0 0) X=some (.agg [I E,I O,A,pa,ea]):=(by rw[aQ g1'];rfl);have hck:∀m,aI (aG (d+7)) zB [.agg [I E,I O,A,pa,ea]] m=some (I (kN E O W J C),m):=xb0 (d+1) h1 h2 h3 hb hp he hnb hnp hne;obtain⟨r,M2,c1,c2,c3,c4⟩:=yc7 (d+6) h1 hb X;rw[n1']at c2 c4;have c3':M2.next=m.next+2:=(by omega);have g2:M2.get (m.next,0,1)=some (.row [I E,I O,A,pa,ea] 0 false):=(by rw[c4 _ (mD _)];exact g1');obtain⟨a,p1,p2⟩:=xoq (d+6) h2 hp;obtain⟨e,q1,q2⟩:=xos (d+6) h3 he;have lb:aA false 1 (.ptr (m.next,0,1) 0 2) X=some A:=(by rw[aQ g1'];rfl);have lp:aA false 1 (.ptr (m.next,0,1) 0 3) M2=some pa:=(by rw[aQ g2];rfl);have le:aA false 1 (.ptr (m.next,0,1) 0 4) M2=some ea:=(by rw[aQ g2];rfl);have hr:r.cells=[r]/\r.one=true:=(by rcases c2 with ⟨-,rfl|rfl⟩|⟨-,rfl,-⟩<;>exact⟨rfl,rfl⟩);have s1:=λ{R:Type} (Kk:Mem->Option R)=>KU g2 2 (by simp) hr.1 hr.2 Kk;obtain⟨M3,H⟩:∃M,M=M2.set (m.next,0,1) (.row (cH [I E,I O,A,pa,ea] 2 [r]) 0 false):=⟨_,rfl⟩;rw[<-H]at s1;have g3:M3.get (m.next,0,1)=some (.row [I E,I O,r,pa,ea] 0 false):=(by rw[H,Mem.bG,aF rfl];rfl);have s2:=λ{R:Type} (Kk:Mem->Option R)=>KU g3 3 (by simp) p1.cells1.1 p1.cells1.2 Kk;obtain⟨M4,K⟩:∃M,M=M3.set (m.next,0,1) (.row (cH [I E,I O,r,pa,ea] 3 [a]) 0 false):=⟨_,rfl⟩;rw[<-K]at s2;have g4:M4.get (m.next,0,1)=some (.row [I E,I O,r,a,ea] 0 false):=(by rw[K,Mem.bG,aF rfl];rfl);have s3:=λ{R:Type} (Kk:Mem->Option R)=>KU g4 4 (by simp) q1.cells1.1 q1.cells1.2 Kk;obtain⟨Q,L⟩:∃M,M=M4.set (m.next,0,1) (.row (cH [I E,I O,r,a,ea] 4 [e]) 0 false):=⟨_,rfl⟩;rw[<-L]at s3;have g5:Q.get (m.next,0,1)=some (.row [I E,I O,r,a,e] 0 false):=(by rw[L,Mem.bG,aF rfl];rfl);have f5:∀j,j≠(m.next,0,1)->Q.get j=M2.get j:=λj p=>by rw[L,Mem.bG,aB p,K,Mem.bG,aB p,H,Mem.bG,aB p]
 have n5:Q.next=m.next+2:=(by rw[L,K,H];exact c3');have N:∀j:Id,j.1<m.next->Q.get j=m.get j:=λj p=>by rw[f5 j (λh=>by rw[h]at p;simp at p),c4 j (by omega),k1 j (λh=>by rw[h]at p;simp at p)];rfl
 have mk1:cY 1 [A]=2:=(by rcases h1 with ⟨rfl,-⟩|⟨y,rfl⟩<;>rfl);have mk2:cY 0 [pa]=2:=(by rcases h2 with ⟨rfl,-⟩|⟨y,rfl⟩<;>rfl);have hc:∀o,dJ (some X.next) (tR (.ptr (m.next,0,1) 0 o)) 2=true:=λo=>x77 (id:=(m.next,0,1)) (by show m.next<X.next;omega)
 have l5r:∀{M:Mem},M.get (m.next,0,1)=some (.row [I E,I O,r,a,e] 0 false)->aA false 1 (.ptr (m.next,0,1) 0 2) M=some r:=λh=>by rw[aQ h];rfl
 simp only[hM1,l5,aC,hck,hset,fS,bB,cE,aT,cW,bW,lb,c1,lp,p2,le,q2,s1,s2,s3,mk1,mk2,hc,show Nat.ble 1 2=true from rfl,iL,bC];unfold zm;simp only[cW,bW,l5r g5,aC];rcases c2 with ⟨rfl,hr0⟩|⟨hne2,rfl,hg⟩
 ·
  have F:aM prog lK r=some (I 0):=by
   rcases hr0 with rfl|rfl
   .exact(Sl.len (enc:=Bd.c) (l:=[]) yC (.inl ⟨rfl,rfl⟩))
   .exact(Sl.len (enc:=Bd.c) (l:=[]) yC (.inr ⟨true,rfl⟩))
  have hb':Sl Bd.c r []:=by
   rcases hr0 with rfl|rfl
   .exact .inl ⟨rfl,rfl⟩
   .exact .inr ⟨true,rfl⟩
  simp only[F,aC];obtain⟨NM,hNM⟩:∃NM,NN=NM+1:=⟨NN-1,by have:=dB;omega⟩;rw[hNM];simp only[J4];unfold JC;simp only[bV,show decide ((0:Int)<0)=false from rfl,aC,aT];obtain⟨t,e1,e2,e3,e4⟩:=xkg (m:=Q) (P:=[I E,I O,r,a,e]) (d+6) Z m.next (0+23+4+1) rfl (by omega) (f:=false) (.of g5);exact⟨t,_,r,a,e,[],e1,by omega,λj p=>by rw[e3 j p];exact N j p,bS _,hb',rfl,p1,q1,e4⟩
 ·
  have F:aM prog lK (.sref (m.next+1,5,7) 0 0 W.length 3 true)=some (I W.length):=by
   have:∀(id:Id) (n:Nat),aM prog lK (.sref id 0 0 n 3 true)=some (I n):=λid n=>by kernel_rfl
   exact this _ _
  simp only[F,aC];have hbn:((m.next+1,5,7):Id).1≠m.next:=(by show m.next+1≠m.next;omega);have gb5:Q.get (m.next+1,5,7)=some (.row (W.flatMap Bd.c) 0 false):=by rw[f5 _ (λh=>by simp at h)];exact hg
  have:=x3w (W:=W) (m:=Q) (Q0:=λres=>∃t i u a e D,res=some (.tup [.ptr i 0 0,I 0],t)/\m.next<=t.next/\(∀j,j.1<m.next->t.get j=m.get j)/\m.next<=i.1 /\
   Sl Bd.c u D/\D.map Bd.core=W.map Bd.core/\Sl Pn.c a J/\Sl Pe.c e C/\DkI (λj=>j=i) t i (SC E O u a e) [] [] X0) (d+6) Z m.next (bid:=(m.next+1,5,7)) (n:=W.length) hb hbn (pa:=a) (ea:=e) (w:=E) (g:=O) (λm6 Y B' e1 e2 e3 e4=>by
   have g6:m6.get (m.next,0,1)=some (.row [I E,I O,.sref (m.next+1,5,7) 0 0 W.length 3 true,a,e] 0 false):=by rw[e2 _ (λh=>by simp at h)];exact g5
   have hBl:B'.length=W.length:=by simpa using congrArg List.length e3
   obtain⟨t,f1,f2,f3,f4⟩:=xkg (m:=m6) (P:=[I E,I O,.aN (B'.flatMap Bd.c) W.length false,a,e]) (d+6) Z m.next Y rfl (by omega) (f:=false) ⟨_,g6,.inr ⟨I E,I O,a,e,(m.next+1,5,7),0,true,false,W.length,B'.flatMap Bd.c,[],rfl,rfl,⟨by
    rintro(h|h|h|h)
    .cases h
    .cases h
    .cases h
    .simp[Prod.ext_iff]at h,by show(7:Nat)≠2;decide⟩,by show m.next+1<m6.next;omega,by rw[hW];exact e4,by rw[fN Bd.len,hBl],pC Bd.bD B',rfl⟩⟩
   refine⟨t,_,.aN (B'.flatMap Bd.c) W.length false,a,e,B',f1,by omega,λj p=>?_,bS _,.inr ⟨false,by rw[hBl]⟩,e3,p1,q1,f4⟩
   rw[f3 j p,e2 j (λh=>by rw[h]at p;simp at p;omega)]
   exact N j p) (λb hb=>(hnb b hb).2) g5 W [] NN Q (0+23+4) (by simp) (by simp) (by rw[dB];omega) rfl (λ_ _=>rfl) gb5
  exact this
open Go.Proofs
def Hk.addK{L:Id->Prop}(h:∀j:Id,j.1<m.next->L j->K j){P:List AV}{a:Id}{F:List (List UInt8)}(d:a.2.2=8)(e:Hk K m a P F X):Hk L m a P F X:=by obtain⟨r,f,b,g,i,l,n,o,p⟩:=e;exact⟨.inl d,f,b,g,i,l,n.addK h,o.addK h,p.addK h⟩
def ff(a:Id)(x:Operand):bP prog .eql JW x (.const (.pointer none)) (.ptr a 0 0) (AV.sc (.pointer none))=some (B false):=by kernel_rfl
def x2t{ok:Id->Prop}{a:AV}{L:List Ent}(h:Gk 2 Ent.c ok m a L):aM prog gX a=some (I L.length):=by
 rcases h with ⟨rfl,rfl⟩|⟨id,b,d,rfl,e⟩
 .exact Sl.len (enc:=Ent.c) lM (.inl ⟨rfl,rfl⟩)
 .have:∀(id:Id) (v n:Nat),aM prog gX (.sref id v 0 n 2 true)=some (I n):=λid v n=>by kernel_rfl
  exact this _ _ _
def xpn(d:Nat)(Z:FHs)(hO:SuOK E O A pa ea W J C)(hbl:W.length<=11){a:Id}{L:List Ent}{F:List (List UInt8)}(hD:DkI K m a (SC E O A pa ea) L F X)(hL:L.length<=20)(hI:InvF W L.length F X){x:Ent}(hx:x.tx.length<=1000) :
    ∃m',aG (d+26) Z FM [.ptr a 0 0,.agg x.c] m=some (I (gR O E W J C F X ⟨x.by_.toArray⟩ x.tx).1,m')/\GrP K (λj=>K j\/j.2.2=8) m m' /\
     DkI (λj=>K j\/(j.1=m.next/\j.2.2=32)) m' a (SC E O A pa ea) (if(gR O E W J C F X ⟨x.by_.toArray⟩ x.tx).1=0 then L++[x]else L) (gR O E W J C F X ⟨x.by_.toArray⟩ x.tx).2.1 (gR O E W J C F X ⟨x.by_.toArray⟩ x.tx).2.2:=by
 obtain⟨kn,kd,D,f,lv,H,gd,hH,hG⟩:=hD;rw[yby];unfold rp aU WI;obtain⟨n,n1,g1,k1,hM1⟩:=mQ (x:=.agg x.c) rfl (m.next,0,3) ⟨m.hp,m.next+1⟩;have g1':n.get (m.next,0,3)=some (.row x.c 0 false):=g1;have n1':n.next=m.next+1:=n1;obtain⟨i,o⟩:∃i:Id->Prop,i=λj=>K j\/(j.1=m.next/\j.2.2=32):=⟨_,rfl⟩
 have g:∀j,K j->i j:=λj h=>by rw[o];exact .inl h
 have y:∀j:Id,j.1<m.next->i j->K j:=λj b h=>by
  rw[o]at h;rcases h with h|h
  .exact h
  .omega
 have gr1:Gr0 i m n:=jY (qA m) (.inl (bS _)) n1 k1;have hH1:=(hH.addK y H).gr gr1 (λ_ h=>h.elim) (λh=>h);have hdn:a≠f:=λh=>by rw[h]at D;omega
 have N:∀j:Id,j.1<m.next->n.get j=m.get j:=λj b=>by rw[k1 j (λh=>by rw[h]at b;simp at b)];rfl
 have P:=(N a (kn a kd)).trans gd;have hlen:=x2t hG;have c40:¬((L.length:Int)=40):=(by omega);have l0:aA false 1 (.ptr a 0 0) n=some (.ptr f 0 0):=(by rw[aQ P];rfl);have l1:aA false 1 (.ptr a 0 1) n=some lv:=(by rw[aQ P];rfl);have lx:aA true 2 (.ptr (m.next,0,3) 0 0) n=some (.agg x.c):=(by rw[aQ g1'];rfl);have l:∀j,i j->j.1<n.next:=λj b=>by
  rw[o]at b;rcases b with b|b
  .have:=kn j b;omega
  .omega
 obtain⟨r,e1,e2,e3⟩:=xbr d Z l hO hbl H hH1 (by rw[hI.len];exact hL) hI.t (by rw[hI.len];exact hI.x) (by_:=⟨x.by_.toArray⟩) hx;have e1':aG (d+25) Z D4 [.ptr f 0 0,.agg x.c] n=_:=e1;have hst:=fh (O:=O) (E:=E) (J:=J) (C:=C) hI (by_:=⟨x.by_.toArray⟩) hx;have exK:∀j,i j->j.2.2≠8->r.get j=n.get j:=λj b h8=>(e2.2 j (l j b) (λh=>h8 (by rw[h];exact H))).2 (.inr (.inr (.inr b)))
 have Q:r.get a=some (.row [.ptr f 0 0,lv] 0 false):=(exK a (g _ kd) (by rw[D];decide)).trans P;have hG2:Gk 2 Ent.c (λj=>i j/\j.2.2=32) r lv L:=by
  rcases hG with h|⟨id,ver,⟨h0,h00⟩,h1,h2⟩
  .exact .inl h
  .exact .inr ⟨id,ver,⟨g _ h0,h00⟩,h1,by rw[exK id (g _ h0) (by rw[h00];decide),N id (kn id h0)];exact h2⟩
 have Y:GrP K (λj=>K j\/j.2.2=8) m r:=⟨by have:=e2.1;omega,λj b w=>by
  have q2:=e2.2 j (by omega) (λh=>w (.inr (by rw[h];exact H)))
  rw[N j b]at q2
  exact⟨q2.1,λu=>q2.2 (by
   rcases u with u|u|u|u
   .exact .inl u
   .exact .inr (.inl u)
   .exact .inr (.inr (.inl u))
   .exact .inr (.inr (.inr (g _ u))))⟩⟩
 have nb:∀j,cD (.ptr j 0 0)=some (.ptr j 0 0):=λ_=>rfl
 have hn2:=e2.1;rw[<-o];simp only[hM1,ff,aC,aT,nb,cW,bW,l1,hlen,iD,fU c40,l0,lx,e1',fS];generalize hq:gR O E W J C F X ⟨x.by_.toArray⟩ x.tx=q at *
 by_cases c:q.1=0;case neg=>simp only[fU c,cC,aS,aB c];exact⟨r,rfl,Y,λj b=>eZ (l j b) e2.1,g _ kd,D,f,lv,H,Q,e3,hG2⟩
 have l12:aA false 1 (.ptr a 0 1) r=some lv:=(by rw[aQ Q];rfl);obtain⟨f2,gx2⟩:=SimO.row (e2.2 (m.next,0,3) (by show m.next<n.next;omega) (λh=>by rw[<-h]at H;simp at H)).1 g1';have lx2:aA true 2 (.ptr (m.next,0,3) 0 0) r=some (.agg x.c):=(by rw[aQ gx2];rfl);have k32:i (m.next,28,32)/\((m.next,28,32):Id).2.2=32:=⟨by rw[o];exact .inr ⟨rfl,rfl⟩,rfl⟩;obtain⟨a',M3,f1,f3,f4,f5,f6,f7⟩:=hG2.app (id0:=(m.next,28,32)) (bytes:=32) Ent.len (by decide) k32 (by unfold cF;omega) x;have gd3:M3.get a=some (.row [.ptr f 0 0,lv] 0 false):=(by rw[f7 a (λh=>by rw[D]at h;exact absurd h.2 (by decide))];exact Q);have s1:=λ{R:Type} (Kk:Mem->Option R)=>KU gd3 1 (by simp) f4 f5 Kk;obtain⟨M4,p⟩:∃M,M=M3.set a (.row (cH [.ptr f 0 0,lv] 1 [a']) 0 false):=⟨_,rfl⟩;rw[<-p]at s1;have gd4:M4.get a=some (.row [.ptr f 0 0,a'] 0 false):=(by rw[p,Mem.bG,aF rfl];rfl);have n4:M4.next=r.next:=(by rw[p];exact f6);have ap:aZ (tR (.ptr a 0 1)) (some [],some [(m.next,27,31)])=true:=qI (λh=>by rw[h]at D;simp at D);have k4:∀j,¬(i j/\j.2.2=32)->j≠a->M4.get j=r.get j:=λj h1 h2=>by rw[p,Mem.bG,aB h2,f7 j h1]
 simp only[eX c,cE,aT,nb,cW,bW,aC,l12,lx2,xfx,xix,f1,s1,ap,iL,bC,aF c,c];have hQ:∀j,((i j/\j.2.2=32)\/j=a)->mN i j:=λj b=>by
  rcases b with b|rfl
  .exact .inr (.inr (.inr b.1))
  .exact .inr (.inr (.inr (g _ kd)))
 have gr4:GrP i (λj=>(i j/\j.2.2=32)\/j=a) r M4:=⟨by rw[n4];exact bS _,λj b w=>by rw[k4 j (λh=>w (.inl h)) (λh=>w (.inr h))];exact⟨.refl _,λ_=>rfl⟩⟩
 refine⟨M4,rfl,⟨by rw[n4];exact Y.1,λj b w=>?_⟩,λj b=>by rw[n4];exact eZ (l j b) e2.1,g _ kd,D,f,a',H,gd4,e3.gr gr4 hQ (λh=>by
  rcases h with h|h
  .have:=h.2;omega
  .exact hdn h.symm),?_⟩
 .rw[k4 j (λh=>w (.inl (y j b h.1))) (λh=>w (.inl (by rw[h];exact kd)))];exact Y.2 j b w
 .exact f3.frame λid h=>by rw[p,Mem.bG,aB (λe=>by rw[e,D]at h;exact absurd h.2 (by decide))]
def xpm(d:Nat)(Z:FHs){e i:Id}{p:AV}{L:List Ent}{ok:Id->Prop}(F:m.get e=some (.row [.ptr i 0 0,p] 0 false))(H:Gk 2 Ent.c ok m p L)(N:L.length<=1000) :
    ∃r t,aG (d+2) Z T6 [.ptr e 0 0] m=some (r,t)/\m.next<=t.next/\(∀j:Id,j.1<m.next->t.get j=m.get j)/\∃a,Go.Ix.frz t.get bR r=some a/\Sl Ent.c a L:=by
 rw[ybx];unfold ro bQ WH;have y:(⟨m.hp,m.next+1⟩:Mem).get e=some (.row [.ptr i 0 0,p] 0 false):=F;have J:aA false 1 (.ptr e 0 1) (⟨m.hp,m.next+1⟩:Mem)=some p:=(by rw[aQ y];rfl);have nb:∀j,cD (.ptr j 0 0)=some (.ptr j 0 0):=λ_=>rfl
 simp only[ff,aC,aT,nb,cW,bW,J];rw[x93];unfold oi bQ SX;rcases H with ⟨rfl,rfl⟩|⟨id,g,Q,rfl,w⟩
 .have:bP prog .eql gX (.tmp 3) (.const (.slice none 0 0)) nilS nilS=some (B true):=(by kernel_rfl);simp only[this,aC,aS];exact⟨_,_,rfl,by show m.next<=m.next+1+1;omega,λj _=>rfl,nilS,rfl,.inl ⟨rfl,rfl⟩⟩
 .have:∀(id:Id) (v n:Nat),bP prog .eql gX (.tmp 3) (.const (.slice none 0 0)) (.sref id v 0 n 2 true) nilS=some (B false):=λid v n=>by kernel_rfl
  have O:=fN Ent.len L;have A:∀u:Mem,u.get id=some (.row (L.flatMap Ent.c) g false)->elems u.get 2 (.sref id g 0 L.length 2 true)=some (L.flatMap Ent.c,L.length):=λu w=>by simp only[elems,w];rw[aF ⟨trivial,trivial,by omega⟩,bF,dT (by omega)]
  have C:(⟨m.hp,m.next+1+1⟩:Mem).get id=some (.row (L.flatMap Ent.c) g false):=w;have K:cF L.length 32:=(by unfold cF;omega);simp only[this,aC,aT,U5,A _ C];have P:=λm=>(Sl.lit (enc:=Ent.c) L false).elems Ent.len (⟨m,0⟩:Mem).get
  rcases zY Ent.len (Sl.lit L false) K (m.next+1,0+5,7) (⟨m.hp,m.next+1+1⟩:Mem)with ⟨rfl,D⟩|⟨M,D⟩
  .have o:=D (λf b=>some (f,b));rw[(Sl.lit (enc:=Ent.c) [] false).elems Ent.len]at o;have g2':cK 2 32 (m.next+1,0+5,7) (some (List.flatMap Ent.c [],List.length (α:=Ent) [])) (.aN [] 0 true) (⟨m.hp,m.next+1+1⟩:Mem) (λf b=>some (f,b))=_:=o;simp only[g2',aC];exact⟨_,_,rfl,by show m.next<=m.next+1+1;omega,λj _=>rfl,_,rfl,Sl.lit [] true⟩
  .have o:=D (λf b=>some (f,b));rw[(Sl.lit (enc:=Ent.c) L false).elems Ent.len]at o;have g2':cK 2 32 (m.next+1,0+5,7) (some (L.flatMap Ent.c,L.length)) (.aN [] 0 true) (⟨m.hp,m.next+1+1⟩:Mem) (λf b=>some (f,b))=_:=o;simp only[g2',aC];refine⟨_,_,rfl,by show m.next<=m.next+1+1;omega,λj E=>?_,_,G7 (k:=4) Ent.len Ent.stl (x:=true) (l:=L) (by simp),Sl.lit L false⟩;rw[Mem.dI,aB (λh=>by rw[h]at E;simp at E;omega)];rfl
def xy0(d:Nat)(t:TypeId)(s:ByteArray)(h:prog.underlying t=some .string):bJ prog (Op.equalIn (d+1) t (.string s) (.string s))=some true:=by simp[Op.equalIn,lR,DC h,sK];first|exact b s|(cases s with|mk a=>show(a == a)=true;simp)|exact eX rfl
def x00(X Y:Operand)(x:Scene):bP prog .neq qR X Y (.agg x.c) (.agg x.c)=some (B false):=by
 obtain⟨s,a,b⟩:=x;have o:prog.underlying qR=some (.struct (prog.fieldsOf qR)):=(by kernel_rfl);have p:prog.stoodInHeld qR=false:=(by kernel_rfl);have d:((prog.fieldsOf qR).toList.map λf=>(f.type,f.offset,decide (f.name = "_")))=[(bN,0,false),(dP,1,false),(dP,2,false)]:=(by kernel_rfl);have g:bJ prog (part bN #[.string s,.int .i64 a,.int .i64 b] 0)=some (.string s):=(by kernel_rfl);have h:bJ prog (part dP #[.string s,.int .i64 a,.int .i64 b] 1)=some (.int .i64 a):=(by kernel_rfl);have i:bJ prog (part dP #[.string s,.int .i64 a,.int .i64 b] 2)=some (.int .i64 b):=(by kernel_rfl);have e:bJ prog (Op.equalIn 10000 qR (.agg #[.string s,.int .i64 a,.int .i64 b]) (.agg #[.string s,.int .i64 a,.int .i64 b]))=some true:=by
  rw[show(10000:Nat)=9998+1+1 from rfl,bj _ _ _ _ o p];generalize (prog.fieldsOf qR).toList=J at d;have j:=congrArg List.length d;simp only[qK,dW,jA]at j;match J,j with
  |[K,L,M],_=>
   simp only[eN,kT,OD,bK,and_true,decide_eq_false_iff_not]at d;obtain⟨⟨t,u,w⟩,⟨A,C,D⟩,E,F,H⟩:=d;have l:bJ prog (Op.equalIn 9999 bN (.string s) (.string s))=some true:=xy0 9998 _ s (by kernel_rfl);have m:∀n:Int,bJ prog (Op.equalIn 9999 dP (.int .i64 n) (.int .i64 n))=some (n == n):=λn=>DD _ _ _ _ _ _ BW
   simp only[Op.eqFields,w,D,H,ne_eq,not_false_eq_true,cI,t,A,E,u,C,F,lR,g,h,i,aC,l,m];simp[sK,lR,g,h,i,l,m]
 exact CU (r:=true) (x:=X) (y:=Y) (xs:=[.string s,.int .i64 a,.int .i64 b]) (ys:=[.string s,.int .i64 a,.int .i64 b]) (by kernel_rfl) e ⟨Scene.c ⟨s,a,b⟩,rfl⟩ _ _ rfl rfl
def x3v(d u:Nat){a b p q:AV}{l:List Scene}(i:Sl Scene.c a l)(t:Sl Scene.c b l)(E:l.length<1000000){m:Mem}(x:m.get (0,0,2)=some (.row [a,p] 0 false))(y:m.get (0,1,3)=some (.row [b,q] 0 false)) :
    ∀(f:List Scene) (k j Y:Nat),l.drop k=f->f.length<j->AG (aG d) [] u j (.ptr (0,0,2) 0 0) (.ptr (0,1,3) 0 0) (I k) m Y=some (B true,m):=by
 have w:aA false 1 (.ptr (0,0,2) 0 0) m=some a:=(by rw[aQ x];simp[i.one]);have A:aA false 1 (.ptr (0,1,3) 0 0) m=some b:=(by rw[aQ y];simp[t.one]);intro f;induction f with
 |nil=>intro k j Y g n;obtain⟨j,rfl⟩:=dD n;have h:¬((k:Int)<(l.length:Int)):=(by have:=gF.mp g;omega);simp only[AG];unfold TW;simp only[cW,bW,nK,aC,w,i.len mG,bV,h,bO,aT];rfl
 |cons e r D=>intro k j Y g n;obtain⟨j,rfl⟩:=dD n;obtain⟨h,F,g⟩:=gB g;have hk':(k:Int)<(l.length:Int):=(by omega);have ix:=i.ix Scene.len h;have o:=t.ix Scene.len h;have ld:=iH (m:=m) Scene.len (by omega) h;have C:=gJ k (by omega);have h':=D (k+1) j (Y+19) g (by simp at n;omega);simp only[AG];unfold TW;simp only[cW,bW,nK,aC,w,A,i.len mG,bV,hk',bB,aS,ix,o,ld,x00,aT,dS,C];exact h'
def xo5(d:Nat){a b p q:AV}{l:List Scene}{P:List Pq}(g:Sl Scene.c a l)(h:Sl Scene.c b l)(i:Sl Pq.c p P)(j:Sl Pq.c q P)(t:l.length<1000000)(u:P.length<1000000)(m:Mem) :
    aI (aG (d+2)) EX [.agg [a,p],.agg [b,q]] m=some (B true,m):=by
 refine Ans.eR (m:=m) ?_ (by simp[bD,g.aP,h.aP,i.aP,j.aP]) rfl;unfold Ans;rw[yak];unfold pf aU TV;have w:[a,p].all AV.one=true:=(by simp[g.one,i.one]);have x:[b,q].all AV.one=true:=(by simp[h.one,j.one]);dsimp only
 simp only[mem0,iE,nH,w,x,bC,bW];obtain⟨e,f⟩:∃e:Mem,e=((⟨[],1⟩:Mem).new (0,0,2) (.row [a,p] 0 false)).new (0,1,3) (.row [b,q] 0 false):=⟨_,rfl⟩;have n:e.get (0,0,2)=some (.row [a,p] 0 false):=(by rw[f];simp);have o:e.get (0,1,3)=some (.row [b,q] 0 false):=(by rw[f];simp);rw[<-f];have y:aA false 1 (.ptr (0,0,2) 0 0) e=some a:=(by rw[aQ n];simp[g.one]);have A:aA false 1 (.ptr (0,1,3) 0 0) e=some b:=(by rw[aQ o];simp[h.one]);have C:aA false 1 (.ptr (0,0,2) 0 1) e=some p:=(by rw[aQ n];simp[i.one]);have lq:aA false 1 (.ptr (0,1,3) 0 1) e=some q:=(by rw[aQ o];simp[j.one]);have r:=λm=>xo4 d i j u m
 simp only[cW,bW,nK,aC,y,A,g.len mG,h.len mG,fS,bB,cE,dO,fI,fA,dQ,cC,bC,C,lq,r,eG,cS,cT,aT];unfold xr;exact⟨_,x3v (d+1) 0 g h t n o l 0 NN _ rfl (by rw[dB];omega)⟩
end Go.Ix
namespace Go.Ix
open Go.Proofs
variable{X:St10}
def xex(a b d e:Int):∀o∈[0,1,2,3],bJ prog (part dP #[.int .i64 a,.int .i64 b,.int .i64 d,.int .i64 e] o)=some (.int .i64 ([a,b,d,e].getD o 0)):=by intro o f;simp only[dV,xN,or_false]at f;rcases f with rfl|rfl|rfl|rfl<;>kernel_rfl
def xyw(p:OPr):bJ prog (Op.equalIn 10000 xZ (.agg [.int .i64 p.pt,.int .i64 p.a,.int .i64 p.b,.int .i64 p.f].toArray) (.agg [.int .i64 p.pt,.int .i64 p.a,.int .i64 p.b,.int .i64 p.f].toArray))=some true:=by refine(fe (offs:=[0,1,2,3]) (ga:=λo=>[p.pt,p.a,p.b,p.f].getD o 0) (gb:=λo=>[p.pt,p.a,p.b,p.f].getD o 0) (by kernel_rfl) (by kernel_rfl) (by kernel_rfl) λo d=>⟨xex _ _ _ _ o d,xex _ _ _ _ o d⟩).trans ?_;simp
def x02(x y:Operand)(p:OPr):bP prog .neq xZ x y (.agg p.c) (.agg p.c)=some (B false):=
 CU (xs:=[.int .i64 p.pt,.int .i64 p.a,.int .i64 p.b,.int .i64 p.f]) (ys:=[.int .i64 p.pt,.int .i64 p.a,.int .i64 p.b,.int .i64 p.f]) (by kernel_rfl) (xyw p) ⟨p.c,rfl⟩ _ _ rfl rfl
def xew(a b d e f:Int):∀o∈[0,1,2,3,4],bJ prog (part dP #[.int .i64 a,.int .i64 b,.int .i64 d,.int .i64 e,.int .i64 f] o)=some (.int .i64 ([a,b,d,e,f].getD o 0)):=by intro o g;simp only[dV,xN,or_false]at g;rcases g with rfl|rfl|rfl|rfl|rfl<;>kernel_rfl
def xyx(p:Lv10):bJ prog (Op.equalIn 10000 yA (.agg [.int .i64 p.e,.int .i64 p.pt,.int .i64 p.sc,.int .i64 p.mv,.int .i64 p.er].toArray) (.agg [.int .i64 p.e,.int .i64 p.pt,.int .i64 p.sc,.int .i64 p.mv,.int .i64 p.er].toArray))=some true:=by refine(fe (offs:=[0,1,2,3,4]) (ga:=λo=>[p.e,p.pt,p.sc,p.mv,p.er].getD o 0) (gb:=λo=>[p.e,p.pt,p.sc,p.mv,p.er].getD o 0) (by kernel_rfl) (by kernel_rfl) (by kernel_rfl) λo a=>⟨xew _ _ _ _ _ o a,xew _ _ _ _ _ o a⟩).trans ?_;simp
def x03(x y:Operand)(p:Lv10):bP prog .neq yA x y (.agg p.c) (.agg p.c)=some (B false):=
 CU (xs:=[.int .i64 p.e,.int .i64 p.pt,.int .i64 p.sc,.int .i64 p.mv,.int .i64 p.er]) (ys:=[.int .i64 p.e,.int .i64 p.pt,.int .i64 p.sc,.int .i64 p.mv,.int .i64 p.er]) (by kernel_rfl) (xyx p) ⟨p.c,rfl⟩ _ _ rfl rfl
def KL:prog.underlying mW=some (.slice xZ):=by kernel_rfl
def KM:prog.underlying sA=some (.slice yA):=by kernel_rfl
def xgt(d:aJ)(Z:FHs)(u:Nat){a b:AV}{l:List OPr}(i:Sl OPr.c a l)(p:Sl OPr.c b l)(t:l.length<1000000):∀(f:List OPr) (k j:Nat) (m:Mem) (Y:Nat),l.drop k=f->f.length<j ->
    AC d Z u j a b (I k) m Y=some (B true,m)
 |[],k,j,m,Y,h,n=>by obtain⟨j,rfl⟩:=dD n;have g:¬((k:Int)<(l.length:Int)):=(by have:=gF.mp h;omega);simp only[AC];unfold TL xl;simp only[i.len KL,bV,g,bO,aC,aT]
 |e::r,k,j,m,Y,h,n=>by obtain⟨j,rfl⟩:=dD n;obtain⟨g,y,h⟩:=gB h;have hk':(k:Int)<(l.length:Int):=(by omega);have ix:=i.ix OPr.len g;have o:=p.ix OPr.len g;have ld:=iH (m:=m) OPr.len (by omega) g;have w:=gJ k (by omega);have x:=xgt d Z u i p t r (k+1) j m (Y+16) h (by simp at n;omega);simp only[AC];unfold TL;simp only[i.len KL,bV,hk',bB,aS,aC,ix,o,ld,x02,aT,dS,w];exact x
def xo3(d:Nat){a b:AV}{l:List OPr}(e:Sl OPr.c a l)(f:Sl OPr.c b l)(g:l.length<1000000)(m:Mem):aI (aG (d+1)) EU [a,b] m=some (B true,m):=by
 refine Ans.eR (m:=m) ?_ (by simp[e.bD,f.bD]) rfl;unfold Ans;rw[yaf];unfold oz aU TK xk;dsimp only
 simp only[e.len KL,f.len KL,aC,fS,bB,cE,aT];exact⟨_,xgt _ _ _ e f g l 0 NN _ _ rfl (by rw[dB];omega)⟩
def x3t(d:Nat){s p v c t u l w:AV}(h:Sl Lv10.c v X.V)(b:Sl Lv10.c l X.V)(E:X.V.length<1000000){m:Mem}(x:m.get (0,0,2)=some (.row [s,p,v,c] 0 false))(y:m.get (0,1,3)=some (.row [t,u,l,w] 0 false)) :
    ∀(a:List Lv10) (k j Y:Nat),X.V.drop k=a->a.length<j->AB (aG d) [] 0 j (.ptr (0,0,2) 0 0) (.ptr (0,1,3) 0 0) (I k) m Y=some (B true,m):=by
 have o:aA false 1 (.ptr (0,0,2) 0 2) m=some v:=(by rw[aQ x];simp[h.one]);have A:aA false 1 (.ptr (0,1,3) 0 2) m=some l:=(by rw[aQ y];simp[b.one]);intro a;induction a with
 |nil=>intro k j Y f i;obtain⟨j,rfl⟩:=dD i;have g:¬((k:Int)<(X.V.length:Int)):=(by have:=gF.mp f;omega);simp only[AB];unfold TJ xj;simp only[cW,bW,aC,o,h.len KM,bV,g,bO,aT]
 |cons e r D=>intro k j Y f i;obtain⟨j,rfl⟩:=dD i;obtain⟨g,F,f⟩:=gB f;have hk':(k:Int)<(X.V.length:Int):=(by omega);have ix:=h.ix Lv10.len g;have n:=b.ix Lv10.len g;have ld:=iH (m:=m) Lv10.len (by omega) g;have C:=gJ k (by omega);have h':=D (k+1) j (Y+19) f (by simp at i;omega);simp only[AB];unfold TJ;simp only[cW,bW,aC,o,A,h.len KM,bV,hk',bB,aS,ix,n,ld,x03,aT,dS,C];exact h'
def xau{s:AV}(h:s.one=true/\s.cells=[s]):dA L0 [(0,1,s)]=some (.agg [s,nilS]):=by have e:L0=[nilS,nilS]:=(by kernel_rfl);rw[e];show(iM [nilS,nilS] [(0,1,s)]).map AV.agg=_;simp only[iM,h.2];simp[h.1,cH,iM]
def xo2(d:Nat){r D:AV}(h:NU X r)(E:NU X D)(F:X.L.length<1000000)(H:X.S.length<1000000)(J:X.V.length<1000000)(K:X.C.length<=1000000)(m:Mem):aI (aG (d+3)) ET [r,D] m=some (B true,m):=by
 obtain⟨s,p,v,c,rfl,g,n,i,o⟩:=h;obtain⟨t,u,w,x,rfl,j,y,l,A⟩:=E;refine Ans.eR (m:=m) ?_ (by simp[bD,g.aP,n.aP,i.aP,Sl.aP o,j.aP,y.aP,l.aP,Sl.aP A]) rfl;unfold Ans;rw[yae];unfold oy aU TI;have M:[s,p,v,c].all AV.one=true:=(by simp[g.one,n.one,i.one,Sl.one o]);have N:[t,u,w,x].all AV.one=true:=(by simp[j.one,y.one,l.one,Sl.one A]);dsimp only
 simp only[mem0,iE,nH,M,N,bC,bW];obtain⟨a,b⟩:∃a:Mem,a=((⟨[],1⟩:Mem).new (0,0,2) (.row [s,p,v,c] 0 false)).new (0,1,3) (.row [t,u,w,x] 0 false):=⟨_,rfl⟩;have e:a.get (0,0,2)=some (.row [s,p,v,c] 0 false):=(by rw[b];simp);have f:a.get (0,1,3)=some (.row [t,u,w,x] 0 false):=(by rw[b];simp);rw[<-b];have O:aA false 1 (.ptr (0,0,2) 0 0) a=some s:=(by rw[aQ e];simp[g.one]);have Q:aA false 1 (.ptr (0,0,2) 0 1) a=some p:=(by rw[aQ e];simp[n.one]);have R:aA false 1 (.ptr (0,0,2) 0 2) a=some v:=(by rw[aQ e];simp[i.one]);have W:aA false 1 (.ptr (0,0,2) 0 3) a=some c:=(by rw[aQ e];simp[Sl.one o]);have Y:aA false 1 (.ptr (0,1,3) 0 0) a=some t:=(by rw[aQ f];simp[j.one]);have b1:aA false 1 (.ptr (0,1,3) 0 1) a=some u:=(by rw[aQ f];simp[y.one]);have b2:aA false 1 (.ptr (0,1,3) 0 2) a=some w:=(by rw[aQ f];simp[l.one]);have b3:aA false 1 (.ptr (0,1,3) 0 3) a=some x:=(by rw[aQ f];simp[Sl.one A]);have n1:=λm=>xo5 d (P:=[]) g j (p:=nilS) (q:=nilS) (.inl ⟨rfl,rfl⟩) (.inl ⟨rfl,rfl⟩) F (by decide) m
 have n2:=λm=>xo3 (d+1) n y H m
 have n3:=λm=>xpd (d+1) o A K m
 have Z:=g.cells1;have hs':=j.cells1;simp only[cW,bW,O,Y,aC,xau ⟨Z.2,Z.1⟩,xau ⟨hs'.2,hs'.1⟩,n1,eG,cE,dO,fI,dQ,cC,bC,Q,b1,n2,cS,cT,R,b2,i.len KM,l.len KM,fS,bB,W,b3,n3,aT];unfold xi;exact⟨_,x3t _ i l J e f X.V 0 NN _ rfl (by rw[dB];omega)⟩
end Go.Ix
namespace Go.Ix
open Go.Proofs
variable{W bl':List Bd}{J:List Pn}{C:List Pe}{E O:Int}{X:St10}
def yec{b a:Bd}(h:a.core=b.core)(L:List Scene)(S:List OPr):nI L S O E a J=nI L S O E b J:=by
 have f:a.cs=b.cs:=congrArg (·.2.1) h;have e:a.th=b.th:=congrArg (·.2.2) h;have d:∀j,mO a J j=mO b J j:=λj=>by have:uX a=uX b:=(by funext p;unfold uX;rw[f]);unfold mO;rw[this]
 have g:sureQ L S O E a J=sureQ L S O E b J:=(by funext j;unfold sureQ;rw[d,e]);have i:pW L S O E a J=pW L S O E b J:=(by funext j;unfold pW;rw[d,e]);have l:openQ L S a J=openQ L S b J:=(by funext j;unfold openQ;rw[d]);have m:blindQ L S a J=blindQ L S b J:=(by funext j;unfold blindQ;rw[d]);have n:mO a J=mO b J:=funext d;unfold nI mayN cntJ;rw[g,i,l,m,n]
def x7a(h:bl'.map Bd.core=W.map Bd.core):W4 O E bl' J=W4 O E W J:=by
 have j:∀x,idxQ (nmQ Bd.nm x) 0 bl'=idxQ (nmQ Bd.nm x) 0 W:=λx=>by rw[<-du,<-du,xhr x 0 h]
 have l:∀(X:St10) (i:Nat),xF O E bl' J X i=xF O E W J X i:=λX i=>by
  have g:(bl'[i]?).map Bd.core=(W[i]?).map Bd.core:=(by rw[<-I2,h,I2]);unfold xF;cases m:bl'[i]? with
  |none=>
   rw[m]at g;cases e:W[i]? with
   |none=>rfl
   |some b=>rw[e]at g;cases g
  |some o=>
   rw[m]at g;cases e:W[i]? with
   |none=>rw[e]at g;cases g
   |some b=>rw[e]at g;exact yec (oM g) _ _
 funext X num a;cases a with
 |scene n d b=>rfl
 |pair p a b f=>rfl
 |corr s f=>rfl
 |level p s v e=>rfl
 |conf b=>show xB O E bl' J X b=xB O E W J X b;unfold xB;simp only[j,l]
 |clos b=>show xC O E bl' J X b=xC O E W J X b;unfold xC;simp only[j,l]
def xin(h:bl'.map Bd.core=W.map Bd.core):lG O E bl' J=lG O E W J:=by funext X num t;unfold lG;rw[x7a h]
def xd9(h:bl'.map Bd.core=W.map Bd.core)(a:Nat):∀(s:List (List UInt8)) (k:Nat) (X:St10),jK O E bl' J a k s X=jK O E W J a k s X
 |[],_,_=>rfl
 |x::r,k,X=>by rw[jK,jK,xin h];simp only[xd9 h a r]
def x6q(h:bl'.map Bd.core=W.map Bd.core):gR O E bl' J C=gR O E W J C:=by funext F X by_ tx;unfold gR zQ zS;rw[xin h];simp only[xd9 h]
def xe3(h:bl'.map Bd.core=W.map Bd.core):∀(L:List Ent) (k:Nat) (F:List (List UInt8)) (X:St10),eL O E bl' J C k L F X=eL O E W J C k L F X
 |[],_,_,_=>rfl
 |x::r,k,F,X=>by simp only[eL,x6q h,xe3 h r]
def xe2:∀(L:List Ent) (k:Nat) (F:List (List UInt8)) (X:St10),InvF W k F X->(∀x∈L,x.tx.length<=1000)->(eL O E W J C k L F X).2.1=0->InvF W (k+L.length) (eL O E W J C k L F X).2.2.1 (eL O E W J C k L F X).2.2.2
 |[],_,_,_,h,_,_=>h
 |x::r,k,F,X,h,d,a=>by
  have Z:=fh (O:=O) (E:=E) (J:=J) (C:=C) h (by_:=⟨x.by_.toArray⟩) (d x (by simp));simp only[eL]at a ⊢;by_cases c:(gR O E W J C F X ⟨x.by_.toArray⟩ x.tx).1=0
  .rw[aB (λh=>h c)]at a ⊢;rcases Z with ⟨b,-⟩|⟨-,b⟩
   .exact absurd c b
   .have:=xe2 r (k+1) _ _ b (λy e=>d y (dU _ e)) a;rw[dW,show k+(r.length+1)=k+1+r.length by omega];exact this
  .rw[aF c]at a;exact absurd a c
def xi5:∀(R:List (List UInt8)) (a:Nat),a<=(R.flatMap λl=>l++[10]).length->∃(w:Nat) (p:List UInt8),w<=R.length/\(R.flatMap λl=>l++[10]).take a=((R.take w).flatMap λl=>l++[10])++p /\
    a=((R.take w).flatMap λl=>l++[10]).length+p.length/\((w=R.length/\p=[])\/∃(h:w<R.length),p.length<=(R[w]).length/\p=(R[w]).take p.length)
 |[],a,h=>by simp at h;subst h;exact⟨0,[],bS _,rfl,rfl,.inl ⟨rfl,rfl⟩⟩
 |r::R,a,h=>by
  rw[dK,eT]at h;by_cases c:a<=r.length
  .refine⟨0,r.take a,xJ _,?_,?_,.inr ⟨by simp,?_,?_⟩⟩
   .rw[dK,kU,je c];rfl
   .simp[lV];try omega
   .simp[lV];try omega
   .simp[lV];try rw[iz c]
  .have e:(r++[10]).length=r.length+1:=(by simp);obtain⟨w,p,m,f,i,g⟩:=xi5 R (a-(r.length+1)) (by omega);refine⟨w+1,p,by simp;omega,?_,?_,?_⟩
   .rw[dK,jR,dK,kU (r++[10]),<-f,<-e];rw[<-HM (l₁:=r++[10])];congr 1;omega
   .rw[jR,dK,eT,e];clear g f;generalize ((R.take w).flatMap λl=>l++[10]).length=z at i ⊢;omega
   .rcases g with ⟨b,d⟩|⟨b,d,j⟩
    .exact .inl ⟨by simp[b],d⟩
    .exact .inr ⟨by simp;exact b,by simpa using d,by simpa using j⟩
def ar:∀(L:List Ent) (n:Nat),(jV n L).length=L.length
 |[],_=>rfl
 |x::r,n=>by rw[jV,dW,dW,ar r]
def aq:∀(L:List Ent) (n w:Nat),(jV n L).take w=jV n (L.take w)
 |[],n,w=>by simp[jV]
 |x::r,n,0=>by simp[jV]
 |x::r,n,w+1=>by rw[jV,jR,jR,jV,aq r]
def x5b(q:StR)(p:List UInt8)(h:(10:UInt8)∉p):pB q (iU p)=q:=by
 by_cases c:p=[]
 .subst c;rfl
 .rw[xgg c h,pB];have a:nG p=false:=(by unfold nG;apply fU;intro e;exact h (List.mem_of_getLast? e));have:kD q p=none:=(by unfold kD;rw[a];rfl);rw[this]
def xi9:∀(R:List (List UInt8)),(∀l∈R,(10:UInt8)∉l)->(R.flatMap λl=>l++[10]).count 10=R.length
 |[],_=>rfl
 |r::R,h=>by rw[dK,List.count_append,List.count_append,List.count_eq_zero.2 (h r (by simp)),xi9 R λx a=>h x (dU _ a)];simp;omega
def xi7:∀(R:List (List UInt8)) (k:List UInt8),(∀l∈R,(10:UInt8)∉l)->cL 10 ((R.flatMap λl=>l++[10])++k)=R++cL 10 k
 |[],k,_=>rfl
 |l::R,k,h=>by rw[dK,kU,kU,NX,HA _ (h l (by simp)),xi7 R k λx a=>h x (dU _ a)];rfl
def xtg{L:List Ent}(h:wZ L=0){a:Nat}(n:a<=(iI 1 L).length):∃w,w<=L.length/\((iI 1 L).take a).count 10=w/\(CX ((iI 1 L).take a)).2.1=L.take w/\(CX ((iI 1 L).take a)).2.2<=a /\
    ∀K,(∀l∈jV 1 L,l.length<=K)->∀x∈cL 10 ((iI 1 L).take a),x.length<=K:=by
 unfold wZ at h;split at h
 .cases h
 rename_i E;have r:=xkp h;have e:=xd0 L 1 (by omega) r;rw[df]at n ⊢;obtain⟨w,p,t,y,A,u⟩:=xi5 (jV 1 L) a n;rw[ar]at t;have g:(10:UInt8)∉p:=by
  rcases u with ⟨_,rfl⟩|⟨m,_,C⟩
  .simp
  .intro f;rw[C]at f;exact e _ (eU m) (tK f)
 have b:∀l∈(jV 1 L).take w,(10:UInt8)∉l:=λl f=>e l (tK f)
 have i:=xh1 (L.take w) 1 [] 0 (iU p) (by omega) (λx d=>r x (tK d)) (by simp;omega);rw[y];have j:∀K,(∀l∈jV 1 L,l.length<=K)->∀x∈cL 10 ((((jV 1 L).take w).flatMap λl=>l++[10])++p),x.length<=K:=by
  intro K o x d;rw[xi7 _ _ b,GX g]at d;rcases iZ.1 d with d|d
  .exact o x (tK d)
  .simp at d;subst d;rcases u with ⟨_,rfl⟩|⟨m,D,_⟩
   .exact xJ _
   .exact iW D (o _ (eU m))
 refine⟨w,t,?_,?_,?_,j⟩
 .rw[List.count_append,xi9 _ b,List.count_eq_zero.2 g,lV,ar];omega
 all_goals
  unfold CX;rw[xgf _ _ b,aq,show vW=(1,[],0)from rfl,i,x5b _ _ g]
 .simp
 .rw[A,aq,<-df];simp
def Sl.take_ents{x:AV}{L:List Ent}{n:Nat}(g:Sl Ent.c x L)(h:n<=L.length):∃y,dZ prog gX x none (some (I n))=some y/\Sl Ent.c y (L.take n):=by
 have j:∃i,prog.info? lL=some i/\i.size=2:=(by have e:(prog.info? lL).map (λi=>i.size)=some 2:=(by kernel_rfl);rw[cM]at e;exact e);obtain⟨t,b,d⟩:=j;rcases g with ⟨rfl,rfl⟩|⟨f,rfl⟩
 .have:n=0:=(by simpa using h);subst this;exact⟨nilS,by kernel_rfl,.inl ⟨rfl,rfl⟩⟩
 .have l:=fN Ent.len L;have m:=wV Ent.len L;refine⟨.aN ((L.flatMap Ent.c).take (n*2)) n (f&&decide ((n:Int)=(L.length:Int))),?_,.inr ⟨f&&decide ((n:Int)=(L.length:Int)),?_⟩⟩
  .simp only[dZ,dL,lM,b,d,dF,Option.getD_some,Option.getD_none];rw[aF ⟨by omega,by omega,by omega,by omega⟩];simp
  .have o:(L.take n).length=n:=(by rw[lV];omega);rw[o];congr 1;have a:∀(L:List Ent) (k:Nat),(L.flatMap Ent.c).take (k*2)=(L.take k).flatMap Ent.c:=by
    intro L;induction L with
    |nil=>intro k;simp
    |cons x r p=>
     intro k;cases k with
     |zero=>simp
     |succ k=>rw[dK,jR,dK,lU,show k*2+2=x.c.length+k*2 by rw[Ent.len];omega,HM,p]
   exact a L n
def xd2:∀(L:List Ent) (n:Nat),(∀x∈L,x.by_.length<=20/\x.tx.length<=220)->∀l∈jV n L,l.length<=1000
 |[],n,_=>λl h=>by cases h
 |x::r,n,h=>by
  intro l a;rw[jV]at a;rcases dV.1 a with rfl|a
  .have d:=h x (by simp);have e:=fp (iS n x);unfold sI;simp only[eT,dW];omega
  .exact xd2 r _ (λy b=>h y (dU _ b)) l a
def x60:((aG 40 [] bv [] mem0).map (λp=>p.1))=some (B true):=by kernel_rfl
def xn7(m:Mem):aI (aG 40) bv [] m=some (B true,m):=by have h:=x60;rw[cM]at h;obtain⟨⟨r,b⟩,a,rfl⟩:=h;exact eR rfl a rfl
end Go.Ix
namespace Go.Ix
open Go.Proofs
variable{A pa ea:AV}{W:List Bd}{J:List Pn}{C:List Pe}{E O:Int}
def yd0{P:List AV}(hP:P=[I E,I O,A,pa,ea]){d g i y b:AV}{u:List Bd}{l:List Ent}(hcs:∀m,aI (aG 40) sN [.agg [I E,I O,A,pa,ea]] m=some (.agg [I E,I O,d,g,i],m))(hcl:∀m,aI (aG 40) wD [y] m=some (b,m))(F:∀b,Sl Ent.c b l->SmO d g i u J C b l)(hb:Sl Ent.c b l)(hl:l.length<=20)(n:(eE E O u J C l).2.1=0){o hid:Id}{lv:AV}{ok:Id->Prop}(h44:o.2.2=44)(h32:∀j,ok j->j.2.2=32){m:Mem}{f:Bool}(g3:m.get (0,0,3)=some (.row P 0 f))(gd:m.get o=some (.row [.ptr hid 0 0,lv] 0 false))(hG:Gk 2 Ent.c ok m lv l)(hm:0<m.next)(Y:Nat) :
    ∃m',ID (aG 40) [] 0 (.ptr (0,0,3) 0 0) y (.ptr o 0 0) m Y=some (B true,m'):=by
 subst hP;obtain⟨-,-,-,hX⟩:=(F b hb).ok n;obtain⟨r1,s1,-,s2⟩:=xbv 13 (E:=E) (O:=O) (F b hb);obtain⟨s,p,v,c,rfl,t1,t2,t3,t4⟩:=s2 n;rw[n]at s1;have l5:∀{M:Mem} {f:Bool},M.get (0,0,3)=some (.row [I E,I O,A,pa,ea] 0 f)->aA true 5 (.ptr (0,0,3) 0 0) M=some (.agg [I E,I O,A,pa,ea]):=λh=>by rw[aQ h];rfl
 obtain⟨M1,t⟩:∃M:Mem,M=m.new (0,Y+8,17) (.row oQ 0 false):=⟨_,rfl⟩;have g17:M1.get (0,Y+8,17)=some (.row [nilS,nilS,nilS,nilS] 0 false):=(by rw[t,Mem.dI,aF rfl,JP]);have o4:([s,p,v,c]:List AV).all AV.one=true:=(by simp[t1.one,t2.one,t3.one,Sl.one t4]);obtain⟨M2,w1,w2,w3,w4⟩:=KV (z:=4) (x:=.agg [s,p,v,c]) g17 rfl rfl o4;have k2:∀j:Id,j.2.2≠17->M2.get j=m.get j:=λj hj=>by
  have H:j≠(0,Y+8,17):=λh=>hj (by rw[h])
  rw[w3 j H,t,Mem.dI,aB H]
 have n2:M2.next=m.next:=(by rw[w2,t];rfl);have g32:=(k2 (0,0,3) (by decide)).trans g3;have gd2:=(k2 o (by rw[h44];decide)).trans gd;have hG2:Gk 2 Ent.c ok M2 lv l:=hG.frame λid h=>k2 id (by rw[h32 id h];decide)
 obtain⟨r,M3,e1,e2,e3,a,e4,e5⟩:=xpm 38 [] gd2 hG2 (by omega);have e1':aG 40 [] T6 [.ptr o 0 0] M2=_:=e1;obtain⟨r2,s3,-,s4⟩:=xbv 13 (E:=E) (O:=O) (F a e5);obtain⟨N,Q,R,W,rfl,Z,t2',t3',t4'⟩:=s4 n;rw[n]at s3;have K:[AV.agg [I E,I O,d,g,i],a].all bD=true:=(by have h:=F a e5;have:[I E,I O,d,g,i].all aP=true:=(by simp[h.b.aP,h.p.aP,h.e.aP]);rw[dY,yF,this,dY,e5.bD];rfl);have hfr:[AV.agg [I E,I O,d,g,i],r].mapM (Go.Ix.frz M3.get bR)=some [AV.agg [I E,I O,d,g,i],a]:=(by have h:=F a e5;have h1:Go.Ix.frz M3.get bR (.agg [I E,I O,d,g,i])=some (.agg [I E,I O,d,g,i]):=kA _ 4 (by rw[yF];simp[h.b.aP,h.p.aP,h.e.aP]);simp only[eO,gS,h1,e4];rfl);have s3':=gn (m:=M3) hfr K s3;obtain⟨M4,hM4⟩:∃M:Mem,M=⟨mJ ([AV.agg [I E,I O,d,g,i],r].flatMap (Go.Ix.reach M3.get bR)) M3.hp,M3.next⟩:=⟨_,rfl⟩;rw[<-hM4]at s3';have gx3:M3.get (0,Y+8,17)=some (.row [s,p,v,c] 0 false):=(by rw[e3 _ (by rw[n2];exact hm)];exact w1);obtain⟨f4,gx4⟩:=xrt (ids:=[AV.agg [I E,I O,d,g,i],r].flatMap (Go.Ix.reach M3.get bR)) gx3;rw[<-hM4]at gx4;obtain⟨M5,D⟩:∃M:Mem,M=M4.new (0,Y+19,19) (.row oQ 0 false):=⟨_,rfl⟩;have g19:M5.get (0,Y+19,19)=some (.row [nilS,nilS,nilS,nilS] 0 false):=(by rw[D,Mem.dI,aF rfl,JP]);have o4':([N,Q,R,W]:List AV).all AV.one=true:=(by simp[Z.one,t2'.one,t3'.one,Sl.one t4']);obtain⟨M6,v1,v2,v3,v4⟩:=KV (z:=4) (x:=.agg [N,Q,R,W]) g19 rfl rfl o4';have g6a:M6.get (0,Y+8,17)=some (.row [s,p,v,c] 0 f4):=by
  have H:((0,Y+8,17):Id)≠(0,Y+19,19):=λh=>by simp[Prod.ext_iff]at h
  rw[v3 _ H,D,Mem.dI,aB H];exact gx4
 have v1':M6.get (0,Y+19,19)=some (.row [N,Q,R,W] 0 false):=v1;have lA:aA true 4 (.ptr (0,Y+8,17) 0 0) M6=some (.agg [s,p,v,c]):=(by rw[aQ g6a];rfl);have lB:aA true 4 (.ptr (0,Y+19,19) 0 0) M6=some (.agg [N,Q,R,W]):=(by rw[aQ v1'];rfl);have w:=xo2 37 (X:=(eE E O u J C l).2.2.2) ⟨s,p,v,c,rfl,t1,t2,t3,t4⟩ ⟨N,Q,R,W,rfl,Z,t2',t3',t4'⟩ (by have:=hX.L;omega) (by have:=hX.S;omega) (by have:=hX.V;omega) (by have:=hX.C;omega) M6;unfold ID;simp only[l5 g3,aC,hcs,hcl,s1,lY,kG,kH,lQ,<-t,w4,l5 g32,e1',s3',<-D,v4,iD,bB,fA,dO,fI,iC,bC,cS,lA,lB,w];exact⟨_,rfl⟩
def x23{Q:O2->Prop}{P:List AV}{e g i y:AV}{a:List Bd}{l:List Ent}(w:Sl Ent.c y l)(hl:l.length<=20)(p:∀x∈l,x.tx.length<=1000)(hO:SuOK E O e g i a J C)(A:a.length<=11)(D:(eL O E a J C 0 l [] X0).2.1=0){did:Id}(hQ:∀(m:Mem) (Y:Nat) (K:Id->Prop) (f:Bool),(∀j,K j->j.2.2=44\/j.2.2=32)->0<m.next->m.get (0,0,3)=some (.row P 0 f)->DkI K m did (SC E O e g i) l (tG O E a J C l).1 (tG O E a J C l).2->Q (ID (aG 40) [] 0 (.ptr (0,0,3) 0 0) y (.ptr did 0 0) m Y)) :
    ∀(b:List Ent) (k j:Nat) (m:Mem) (Y:Nat) (K:Id->Prop) (f:Bool),l.drop k=b->b.length<j->(∀j,K j->j.2.2=44\/j.2.2=32)->0<m.next->m.get (0,0,3)=some (.row P 0 f)->DkI K m did (SC E O e g i) (l.take k) (tG O E a J C (l.take k)).1 (tG O E a J C (l.take k)).2 ->
     Q (Y5 (aG 40) [] 0 j (.ptr (0,0,3) 0 0) y (.ptr did 0 0) (I (k:Int)) m Y):=by
 intro b;induction b with
 |nil=>intro k j m Y K f F d t H L u;obtain⟨j,rfl⟩:=dD d;have M:=gF.mp F;have o:¬((k:Int)<(l.length:Int)):=(by omega);simp only[Y5];unfold PG;simp only[w.len lM,bV,o,bO,aC,aT];rw[dT M]at u;exact hQ m _ K f t H L u
 |cons x b ih=>
  intro k j m Y K f F d t H L u;obtain⟨j,rfl⟩:=dD d;obtain⟨o,X,Z⟩:=gB F;have hk':(k:Int)<(l.length:Int):=(by omega);have ix:=w.ix Ent.len o;have ld:∀m,aA true 2 (.aH ((l.drop k).flatMap Ent.c)) m=some (.agg l[k].c):=λm=>iH (m:=m) Ent.len (by omega) o
  rw[X]at ld;have w1:=gJ k (by omega);have hx:x.tx.length<=1000:=p x (by rw[<-X];exact eU o);have n:l.take (k+1)=l.take k++[x]:=(by rw[List.take_add_one,gE o,X];rfl);have r:(eL O E a J C 0 (l.take k++[x]) [] X0).2.1=0:=(by rw[<-n];exact DJ (l.take (k+1)) (l.drop (k+1)) 0 [] X0 (by rw[vH];exact D));have N:=DJ (l.take k) [x] 0 [] X0 r;have R:=xzm r;have hln:(l.take k).length=k:=(by rw[lV];omega);have hI:=xe2 (l.take k) 0 [] X0 InvF.zero (λz hz=>p z (tK hz)) N;rw[bW]at hI;obtain⟨m',e1,e2,e3⟩:=xpn 14 [] hO A u (by omega) hI hx;have hst':gR O E a J C (tG O E a J C (l.take k)).1 (tG O E a J C (l.take k)).2 ⟨x.by_.toArray⟩ x.tx=(0,tG O E a J C (l.take (k+1))):=(by rw[n];exact R);rw[hst']at e1 e3;rw[aF rfl,<-n]at e3;have W:¬(K (0,0,3)\/((0,0,3):Id).2.2=8):=by
   rintro(h|h)
   .rcases t _ h with h|h<;>cases h
   .cases h
  obtain⟨f',g3'⟩:=SimO.row (e2.2 (0,0,3) H W).1 L;simp only[Y5];unfold PG;simp only[w.len lM,bV,hk',bB,aS,aC,ix,ld,e1,fS,cE,aT,dS,w1]
  exact ih (k+1) j m' _ _ f' Z (by simp at d;omega) (λj d=>by
   rcases d with d|d
   .exact t j d
   .exact .inr d.2) (by have:=e2.1;omega) g3' e3
def law_TopRecovered(h1:Sl Bd.c A W)(h2:Sl Pn.c pa J)(h3:Sl Pe.c ea C)(E O:Int){a:AV}{L:List Ent}(ha:Sl Ent.c a L)(hmax:L.length<=9223372036854775807)(c:Int):∃m',aG 41 [] LY [.agg [I E,I O,A,pa,ea],a,I c] mem0=some (B true,m'):=by
 rw[x8c];unfold kb hJ PF;have ho:(AV.agg [I E,I O,A,pa,ea]).cells.all AV.one=true:=(by rw[nH];simp[h1.one,h2.one,h3.one]);obtain⟨u,n1,g1,k1,hM1⟩:=mQ (x:=.agg [I E,I O,A,pa,ea]) ho (0,0,3) ⟨[],0+1⟩;have g1':u.get (0,0,3)=some (.row [I E,I O,A,pa,ea] 0 false):=g1;have n1':u.next=1:=n1;have l5:∀{M:Mem} {f:Bool},M.get (0,0,3)=some (.row [I E,I O,A,pa,ea] 0 f)->aA true 5 (.ptr (0,0,3) 0 0) M=some (.agg [I E,I O,A,pa,ea]):=λh=>by rw[aQ h];rfl
 have hsl:aI (aG 40) T9 [.agg [I E,I O,A,pa,ea]] u=some (B (yJ W J C),u):=xo1 39 h1 h2 h3 u;have X:=λm=>xpz 39 ha hmax m
 simp only[mem0,hM1,xn7,aC,eG,cE,aT,l5 g1',hsl];cases c1:yJ W J C
 .simp only[cC,fA,dO,fI,dQ,cE,cT,aC,cS,bC,aS];exact⟨_,rfl⟩
 obtain⟨hbn,hp,he,hnb,hnp,hne⟩:=ZT c1;cases Z:(zX L&&(decide (L.length<=20)||(decide (40<L.length)&&decide (L.length<=42))))
 .rw[Z]at X;simp only[cE,fA,dO,fI,dQ,cC,bC,aC,X,eG,cS,cT,aS];exact⟨_,rfl⟩
 rw[Z]at X;obtain⟨hL,hl⟩:=ydi Z;have hbr:∀x∈L,x.by_.length<=20/\x.tx.length<=220:=λx hx=>by rw[cR]at Z;have:=dG.1 Z.1 x hx;simp only[cR,mP]at this;exact this
 have hL20:L.length<=20\/40<L.length:=(by rw[cR,lW,cR,mP,mP,mP]at Z;omega);obtain⟨ba',pa',ea',e,D,i,F,H,N⟩:=yc3 39 h1 h2 h3 c1 E O;obtain⟨b,b1,hcl⟩:=xj0 39 ha (by omega);have hS:SmO ba' pa' ea' e J C b L:=SmO.mk10 D i F H c1 b1 (by omega) (λx hx=>(hL x hx).2);have hck:=λm=>xpy 13 (E:=E) (O:=O) hS m
 simp only[cE,fA,dO,fI,dQ,cC,bC,aC,X,eG,cS,cT,aT,l5 g1',N,hcl,hck,lY,kG,kH,fS];by_cases c3:(eE E O e J C L).2.1=0;case neg=>simp only[fU c3,cC,aS];exact⟨_,rfl⟩
 obtain⟨q1,q2,q3,q4⟩:=O0 c3;have hl20:L.length<=20:=(by omega);have h0:=xzi c3;have hjn:=λm=>xpc 33 b1 hL (by omega) m
 have hK:=xd2 L 1 hbr;have hjl:=xg0 L 1 hL;have hj:(iI 1 L).length<=50000:=(by omega);have w1:cJ (((iI 1 L).length:Int)+1)=((iI 1 L).length:Int)+1:=bU;have hmod:=λm=>xo9 39 (x:=c) (y:=((iI 1 L).length:Int)+1) (by omega) (by omega) m
 obtain⟨d,hat⟩:∃d:Nat,c % (((iI 1 L).length:Int)+1)=(d:Int):=⟨(c % (((iI 1 L).length:Int)+1)).toNat,by
  have:=Int.emod_nonneg c (show((iI 1 L).length:Int)+1≠0 by omega)
  omega⟩
 have l:d<=(iI 1 L).length:=(by have:=Int.emod_lt_of_pos c (show(0:Int)<((iI 1 L).length:Int)+1 by omega);omega);obtain⟨w,r1,r2,r3,r4,r5⟩:=xtg h0 l;have htl:((iI 1 L).take d).length=d:=(by rw[lV];omega);obtain⟨y,y1,y2⟩:=xo7 31 (t:=(iI 1 L).take d) (by omega) (r5 1000 hK);rw[r3]at y1;rw[htl]at y2;have hwl:(L.take w).length=w:=(by rw[lV];omega);have hl':e.length=W.length:=(by simpa using congrArg List.length i);obtain⟨M2,R,ba2,pa2,ea2,bl2,d1,d2,d3,d4,d5,d6,d7,d8,d9⟩:=xo8 32 [] D F H (by omega) (by omega) (by omega) (xjb i hnb) hnp hne q1 u;have d1':aG 40 [] T5 [.agg [I E,I O,ba',pa',ea']] u=_:=d1;have p:kN E O bl2 J C=0:=(by rw[xrz d6];exact q1);obtain⟨hO2,hb2,-,-⟩:=xdb d5 d7 d8 p;have n:(eE E O e J C (L.take w)).2.1=0:=xzg c3 w;have hok2:(eL O E bl2 J C 0 (L.take w) [] X0).2.1=0:=(by rw[xe3 d6];exact(O0 n).2.2.1);have g2:M2.get (0,0,3)=some (.row [I E,I O,A,pa,ea] 0 false):=(by rw[d3 _ (by rw[n1'];decide)];exact g1');obtain⟨z,z1,z2⟩:=Sl.take_ents ha r1;have hsm:=λm=>xo6 39 y1 z2 (by omega) m
 have o:=y1.len lM;rw[hwl]at o;have c5:¬((w:Int) > (L.length:Int)):=(by omega);simp only[eX c3,cE,aT,hcl,aC,hjn,h0,cI,lY,kG,kH,hZ,dS,w1,hmod,hat,y5 l,y2,l5 g1',N,d1',fS,bB,fA,dO,fI,dQ,cC,bC,cS,cT,ff,o,ha.len lM,fT,fU c5,z1,hsm,eG];unfold tz;obtain⟨b2,b3,hcl2⟩:=xj0 39 y1 (by omega);have htx:∀x∈L.take w,x.tx.length<=1000:=λx hx=>(hL x (tK hx)).2
 have:=x23 (Q:=λr=>∃m',r=some (B true,m')) (P:=[I E,I O,A,pa,ea]) (E:=E) (O:=O) y1 (by omega) htx hO2 (by omega) hok2 (did:=R) (λm Y K f hK hm g hD=>by
  obtain⟨kn,kd,sl,hid,lv,hh,gd,hH,hG⟩:=hD
  exact yd0 rfl N hcl2 (λb X=>SmO.mk10 D i F H c1 X (by omega) htx) b3 (by omega) n sl (λj hj=>hj.2) g gd hG hm Y) (L.take w) 0 NN M2 (0+85+1) (λj=>j=R) false rfl (by rw[dB];omega) (λj hj=>.inl (by rw[hj];exact d9.sl)) (by omega) g2 (by
   rw[kF]
   exact d9)
 exact this
end Go.Ix
