import Derived.Test.YtdfahbenacjgeaaWg6
set_option linter.unusedSimpArgs false
set_option linter.unusedVariables false
namespace Go.Ix
def vK(lt:Int->Int->Bool):Nat->List Int->List Int
 |0,L=>L
 |j+1,L=>if lt (at0 L (j+1)) (at0 L j)=true then vK lt j ((L.set (j+1) (at0 L j)).set j (at0 L (j+1)))else L
theorem bub_len(lt:Int->Int->Bool):∀(j:Nat) (L:List Int),(vK lt j L).length=L.length
 |0,_=>rfl
 |j+1,L=>by
  rw[vK];split
  .rw[bub_len lt j];simp
  .rfl
theorem bub_ok{R:Int->Int->Prop}(ht:∀{a b c},R a b->R b c->R a c){lt:Int->Int->Bool}{x:Int}:∀(A B:List Int),A.Pairwise R->(∀v∈A,(lt x v=true->R x v)/\(lt x v=false->R v x)) ->
 ∃C,vK lt A.length (A++x::B)=C++B/\C.Pairwise R/\C.Perm (A++[x]):=by
 intro A;generalize hn:A.length=n;induction n generalizing A with
 |zero=>intro B _ _;have:=xdy.mp hn;subst this;exact⟨[x],rfl,by simp,xfw _⟩
 |succ n ih=>
  intro B hA hx;obtain⟨A',y,rfl⟩:∃A' y,A=A'++[y]:=(by have hne:A≠[]:=(by rintro rfl;simp at hn);exact⟨A.dropLast,A.getLast hne,(xgg hne).symm⟩);have hn':A'.length=n:=(by simpa using hn);have e0:A'++[y]++x::B=A'++y::x::B:=(by simp);have g1:at0 (A'++y::x::B) (n+1)=x:=(by rw[rJ (by simp;omega),xgh (by omega)];simp[hn']);have g0:at0 (A'++y::x::B) n=y:=(by rw[rJ (by simp;omega),xgh (by omega)];simp[hn']);have hs:((A'++y::x::B).set (n+1) y).set n x=A'++x::y::B:=(by rw[List.set_append_right _ _ (by omega),List.set_append_right _ _ (by omega)];simp[hn']);rw[xeh]at hA;obtain⟨c1,c2⟩:=hx y (by simp);rw[e0,vK,g1,g0,hs];by_cases c:lt x y=true
  .rw[xc2 c];obtain⟨C,h1,h2,h3⟩:=ih A' hn' (y::B) hA.1 λv hv=>hx v (by simp[hv])
   refine⟨C++[y],by rw[h1];simp,?_,?_⟩
   .rw[xeh];refine⟨h2,by simp,λa ha b hb=>?_⟩;simp at hb;subst hb;rcases xd0.mp (h3.mem_iff.mp ha)with ha|ha
    .exact hA.2.2 a ha b (by simp)
    .simp at ha;subst ha;exact c1 c
   .refine(h3.append_right [y]).trans ?_;rw[xfd,xfd];exact List.Perm.append_left A' (List.Perm.swap y x [])
  .rw[xc1 c];have c':lt x y=false:=(by simpa using c);refine⟨A'++[y]++[x],by simp,?_,xfw _⟩;rw[xeh];refine⟨xeh.mpr hA,by simp,λa ha b hb=>?_⟩;simp at hb;subst hb;rcases xd0.mp ha with ha|ha
   .exact ht (hA.2.2 a ha y (by simp)) (c2 c')
   .simp at ha;subst ha;exact c2 c'
def sU(lt:Int->Int->Bool)(k:Nat)(L:List Int):List Int:=(List.range' 1 k).foldl (λL i=>vK lt i L) L
theorem G0(lt:Int->Int->Bool)(k:Nat)(L:List Int):sU lt (k+1) L=vK lt (k+1) (sU lt k L):=by unfold sU;rw[List.range'_concat,List.foldl_append];simp[Nat.add_comm]
theorem iso_len(lt:Int->Int->Bool)(k:Nat)(L:List Int):(sU lt k L).length=L.length:=by
 induction k with
 |zero=>rfl
 |succ k ih=>rw[G0,bub_len,ih]
theorem iso_ok{R:Int->Int->Prop}(ht:∀{a b c},R a b->R b c->R a c){lt:Int->Int->Bool}{L:List Int}(h:∀(i:Nat) (hi:i<L.length),∀v∈L.take i,(lt L[i] v=true->R L[i] v)/\(lt L[i] v=false->R v L[i])) :
 ∀k,k<L.length->∃C,sU lt k L=C++L.drop (k+1)/\C.Pairwise R/\C.Perm (L.take (k+1)):=by
 intro k;induction k with
 |zero=>
  intro hk;refine⟨L.take 1,?_,?_,xfw _⟩
  .exact(xgj 1 L).symm
  .cases L with
   |nil=>simp
   |cons a l=>simp
 |succ k ih=>
  intro hk;obtain⟨C,h1,h2,h3⟩:=ih (by omega);have hlen:C.length=k+1:=(by rw[h3.length_eq];simp;omega);rw[G0,h1,uO hk];obtain⟨D,d1,d2,d3⟩:=bub_ok (R:=R) ht (lt:=lt) (x:=L[k+1]) C (L.drop (k+1+1)) h2 λv hv=>h (k+1) hk v (h3.mem_iff.mp hv)
  rw[hlen]at d1;refine⟨D,d1,d2,d3.trans ?_⟩;rw[xd9 hk];exact h3.append_right _
theorem iso_all{R:Int->Int->Prop}(ht:∀{a b c},R a b->R b c->R a c){lt:Int->Int->Bool}{L:List Int}(h:∀(i:Nat) (hi:i<L.length),∀v∈L.take i,(lt L[i] v=true->R L[i] v)/\(lt L[i] v=false->R v L[i])) :
 (sU lt (L.length-1) L).Pairwise R/\(sU lt (L.length-1) L).Perm L:=by
 by_cases h0:L.length=0
 .have:=xdy.mp h0;subst this;exact⟨List.Pairwise.nil,xfw _⟩
 .obtain⟨C,h1,h2,h3⟩:=iso_ok (R:=R) (lt:=lt) (L:=L) ht h (L.length-1) (by omega);have e:L.length-1+1=L.length:=(by omega);rw[e,xdg (xc7 _),xe6]at h1;rw[e,xca (xc7 _)]at h3;rw[h1];exact⟨h2,h3⟩
theorem x7t{N i:Nat}(h:i<(freshM N).length):(freshM N)[i]=i:=by simp[freshM]
theorem iso_ord(f:Int->Int)(N:Nat):sU (λx y=>decide (f x<f y)) ((freshM N).length-1) (freshM N)=qZ f N:=by
 obtain⟨h1,h2⟩:=iso_all (R:=lx f) x7j (lt:=λx y=>decide (f x<f y)) (L:=freshM N) λi hi v hv=>by
  rw[x7t hi];obtain⟨j,hj,rfl⟩:=xfg.mp hv;rw[xgk,x7t];simp at hj;constructor
  .intro h;simp at h;exact .inl h
  .intro h;simp at h;unfold lx;omega
 exact Ordd.one ⟨h1,λx=>by rw[h2.mem_iff,fresh_mem]⟩ (zE f N)
theorem iso_asc{L:List Int}(hn:L.Nodup):Asc (sU (λx y=>decide (x<y)) (L.length-1) L)/\∀x,x∈sU (λx y=>decide (x<y)) (L.length-1) L↔x∈L:=by
 obtain⟨h1,h2⟩:=iso_all (R:=λa b:Int=>a<b) (λh k=>by omega) (lt:=λx y=>decide (x<y)) (L:=L) λi hi v hv=>by
  have hne:v≠L[i]:=(by rintro rfl;obtain⟨j,hj,e⟩:=xfg.mp hv;rw[xgk]at e;simp at hj;have:=xgr.mp hn j i (by omega) hi (by omega);exact this e);constructor
  .intro h;simpa using h
  .intro h;simp at h;omega
 exact⟨h1,λx=>h2.mem_iff⟩
open Go.Proofs
def yD(ok:Id->Prop)(m m':Mem):Prop:=∀j:Id,¬ok j->m'.get j=m.get j
def Cmps(call:qI)(f:AV)(b:Id)(o:Ob)(n:Nat)(c:Int->Int->Int):Prop:=∀(hs:FHs) (x y:Int) (m:Mem),0<=x->x<n->0<=y->y<n->m.get b=some o->∃n',m.next<=n'/\uD call hs 2 f [I x,I y] m=some (I (c x y),⟨m.hp,n'⟩)
def InN(n:Nat)(L:List Int):Prop:=∀x∈L,0<=x/\x<n
theorem InN.get{n:Nat}{L:List Int}(h:InN n L){k:Nat}(hk:k<L.length):0<=at0 L k/\at0 L k<n:=by rw[rJ hk];exact h _ (xcp hk)
theorem InN.set{n:Nat}{L:List Int}(h:InN n L){k:Nat}{x:Int}(hx:0<=x/\x<n):InN n (L.set k x):=λy hy=>by
 rcases List.mem_or_eq_of_mem_set hy with hy|rfl
 .exact h y hy
 .exact hx
theorem l_bubF(call:qI)(hs:FHs)(u:Nat){a f:AV}{b:Id}{o:Ob}{n:Nat}{c:Int->Int->Int}(hf:Cmps call f b o n c){ok:Id->Prop}(hb:¬ok b)(rec0:AV->AV->AV->AV->AV->Mem->Nat->O2)(e8:Int)(t2:AV)(Q:O2->Prop){m0:Mem}{LL:Nat}(hLL:LL<=1000)(h8:0<=e8/\e8<=1000)(F:List Int)(hQ:∀m fc,Gk 1 intE ok m a F->(∀j,¬ok j->m.get j=m0.get j)->m0.next<=m.next->Q (rec0 a (I 0) t2 f (I (e8+1)) m fc)) :
 ∀(j k:Nat) (L:List Int) (m:Mem) (fc:Nat),L.length=LL->j<L.length->j<k->InN n L->vK (λx y=>decide (c x y<0)) j L=F->Gk 1 intE ok m a L->(∀i,¬ok i->m.get i=m0.get i)->m0.next<=m.next->m0.get b=some o ->
 Q (eL call hs u rec0 k a (I 0) t2 f (I e8) (I j) m fc):=by
 intro j;induction j with
 |zero=>intro k L m fc hL hj hk hn hB hG hm hn0 hbm;obtain⟨k,rfl⟩:∃i,k=i+1:=⟨k-1,by omega⟩;simp only[eL];unfold kC kB;simp(disch:=omega) [qQ];rw[vK]at hB;subst hB;exact hQ m _ hG hm hn0
 |succ j ih=>
  intro k L m fc hL hj hk hn hB hG hm hn0 hbm;obtain⟨k,rfl⟩:∃i,k=i+1:=⟨k-1,by omega⟩;obtain⟨q1,i1,l1,-⟩:=hG.at (k:=((j+1:Nat):Int)) (by omega) (by omega);obtain⟨q0,i0,l0,-⟩:=hG.at (k:=(j:Int)) (by omega) (by omega);rw[xcr]at l1 l0;have hx1:=hn.get (k:=j+1) (by omega);have hx0:=hn.get (k:=j) (by omega);obtain⟨n',hn',hc⟩:=hf hs (at0 L (j+1)) (at0 L j) m hx1.1 hx1.2 hx0.1 hx0.2 (by rw[hm b hb];exact hbm);have hj1:((j+1:Nat):Int)-1=(j:Int):=(by omega);have hjp:(0:Int)<((j+1:Nat):Int):=(by omega);have hw:w64 (((j+1:Nat):Int)-1)=(j:Int):=(by rw[qQ (by omega) (by omega),hj1]);have hG':Gk 1 intE ok (⟨m.hp,n'⟩:Mem) a L:=hG.frame λid _=>rfl
  obtain⟨p1,j1,r1,-⟩:=hG'.at (k:=((j+1:Nat):Int)) (by omega) (by omega);obtain⟨p0,j0,r0,-⟩:=hG'.at (k:=(j:Int)) (by omega) (by omega);rw[xcr]at r1 r0;obtain⟨p2,j2,-,st2⟩:=hG'.at (k:=((j+1:Nat):Int)) (by omega) (by omega);obtain⟨m2,e1,e2,e3,e4⟩:=st2 (at0 L j);rw[xcr]at e2;obtain⟨p3,j3,-,st3⟩:=e2.at (k:=(j:Int)) (by omega) (by simp;omega);obtain⟨m3,f1,f2,f3,f4⟩:=st3 (at0 L (j+1));rw[xcr]at f2;obtain rfl:p1=q1:=(by rw[j1]at i1;cases i1;rfl);obtain rfl:p0=q0:=(by rw[j0]at i0;cases i0;rfl);obtain rfl:p2=p1:=(by rw[j2]at i1;cases i1;rfl);obtain rfl:p3=p0:=(by rw[j3]at i0;cases i0;rfl);rw[vK]at hB;simp only[eL];unfold kC;simp only[yW,yX,F0,E7,hjp,xcc,sN,yV,qV,i1,l1,xV];rw[qQ (by omega) (by omega),hj1];simp only[yW,yX,F0,E7,hjp,xcc,sN,yV,qV,i0,l0,hc,sK,A0,i0,r0,i1,r1,xV];by_cases ct:c (at0 L (j+1)) (at0 L j)<0
  .rw[xc2 (by simpa using ct)]at hB;simp only[ct,xcc,sM,qV,i0,i1,e1,f1,xV,hw];exact ih k _ m3 _ (by simpa using hL) (by simp;omega) (by omega) ((hn.set hx0).set hx1) hB f2 (λi hi=>by rw[f4 i hi,e4 i hi];exact hm i hi) (by rw[f3,e3];show m0.next<=n';omega) hbm
  .rw[xc1 (by simpa using ct)]at hB;subst hB;simp only[ct,xd2,vP];unfold kB;simp(disch:=omega) [qQ];exact hQ _ _ hG' (λi hi=>by rw[<-hm i hi];rfl) (by show m0.next<=n';omega)
theorem bub_in{n:Nat}{lt:Int->Int->Bool}:∀(j:Nat) (L:List Int),j<L.length->InN n L->InN n (vK lt j L)
 |0,_,_,h=>h
 |j+1,L,hj,h=>by
  rw[vK];split
  .exact bub_in j _ (by simp;omega) ((h.set (h.get (by omega))).set (h.get (by omega)))
  .exact h
theorem c_insertF(d:Nat)(hs:FHs){a f:AV}{b:Id}{o:Ob}{n:Nat}{c:Int->Int->Int}(hf:Cmps (qG d) f b o n c){ok:Id->Prop}(hb:¬ok b){L:List Int}{m:Mem}(hL:L.length<=1000)(hn:InN n L)(hG:Gk 1 intE ok m a L)(hbm:m.get b=some o) :
 ∃m',qG (d+1) hs cA [a,I 0,I L.length,f] m=some (.tup [],m')/\Gk 1 intE ok m' a (sU (λx y=>decide (c x y<0)) (L.length-1) L)/\m.next<=m'.next/\yD ok m m':=by
 rw[x25];unfold mM kD;simp(disch:=omega) [qQ];have hone:sU (λx y=>decide (c x y<0)) 0 L=L:=rfl;by_cases h0:L.length=0
 .obtain⟨NM,hNM⟩:∃NM,NN=NM+1:=⟨NN-1,by have:=rQ;omega⟩;rw[hNM];simp only[bI];unfold fB;have:¬((1:Int)<(L.length:Int)):=(by omega);simp[h0];exact⟨hG.frame λ_ _=>rfl,λj _=>rfl⟩
 .refine tW (N:=L.length-1) (σ:=Unit) (λj k _ m' fc=>bI (qG d) hs m.next j a (I 0) (I L.length) f (I ((k+1:Nat):Int)) m' fc)
   (λk _ m'=>Gk 1 intE ok m' a (sU (λx y=>decide (c x y<0)) k L)/\InN n (sU (λx y=>decide (c x y<0)) k L)/\m.next<=m'.next/\yD ok m m')
   (λr=>∃m',r=some (.tup [],m')/\Gk 1 intE ok m' a (sU (λx y=>decide (c x y<0)) (L.length-1) L)/\m.next<=m'.next/\yD ok m m') ?_ ?_ NN 0 () _ _ (by omega) (by rw[rQ];omega) ⟨hG.frame λ_ _=>rfl,hn,by show m.next<=m.next+1;omega,λj _=>rfl⟩
  .rintro j k-m1 fc hk ⟨h1,h2,h3,h4⟩ next;have hk':(((k+1:Nat):Int))<(L.length:Int):=(by omega);simp only[bI];unfold fB pY;simp only[sK,hk',xcc,sM,qV];have hil:=iso_len (λx y=>decide (c x y<0)) k L;refine l_bubF (qG d) hs m.next hf hb (bI (qG d) hs m.next j) ((k+1:Nat):Int) (I L.length) (λr=>∃m',r=some (.tup [],m')/\Gk 1 intE ok m' a (sU (λx y=>decide (c x y<0)) (L.length-1) L)/\m.next<=m'.next/\yD ok m m') (m0:=m1) (LL:=L.length) hL (by omega) (sU (λx y=>decide (c x y<0)) (k+1) L) (λm2 fc2 g1 g2 g3=>?_) (k+1) NN (sU (λx y=>decide (c x y<0)) k L) m1 _ hil (by omega) (by rw[rQ];omega) h2 (G0 _ k L).symm h1 (λ_ _=>rfl) (xc7 _) (by rw[h4 b hb];exact hbm);exact next () m2 fc2 ⟨g1,by rw[G0];exact bub_in _ _ (by omega) h2,by omega,λj hj=>by rw[g2 j hj,h4 j hj]⟩
  .rintro j-m1 fc ⟨h1,h2,h3,h4⟩;have hk':¬(((L.length-1+1:Nat):Int))<(L.length:Int):=(by omega);simp only[bI];unfold fB;simp only[sK,hk',xd2,vP,qV];exact⟨m1,rfl,h1,h3,h4⟩
theorem xa5(d:Nat)(hs:FHs){a f:AV}{b:Id}{o:Ob}{n:Nat}{c:Int->Int->Int}(hf:Cmps (qG d) f b o n c){ok:Id->Prop}(hb:¬ok b){L:List Int}{m:Mem}(hL:L.length<20)(hn:InN n L)(hG:Gk 1 intE ok m a L)(hbm:m.get b=some o) :
 ∃m',qG (d+3) hs dD [a,f] m=some (.tup [],m')/\Gk 1 intE ok m' a (sU (λx y=>decide (c x y<0)) (L.length-1) L)/\m.next<=m'.next/\yD ok m m':=by
 rw[x1p];unfold lV jB;simp[hG.len tH];rw[x20];unfold mH jU;obtain⟨NM,hNM⟩:∃NM,NN=NM+1:=⟨NN-1,by have:=rQ;omega⟩;rw[hNM];simp only[jT];have h20:¬(20:Int)<=(L.length:Int):=(by omega);have h20':¬(20:Int)<(L.length:Int):=(by omega);obtain⟨m',e1,e2,e3,e4⟩:=c_insertF d hs hf hb (m:=⟨m.hp,m.next+1+1⟩) (by omega) hn (hG.frame λ_ _=>rfl) (by rw[<-hbm];rfl);unfold pR pQ;simp[h20,e1];obtain⟨NM,hNM⟩:∃NM,NN=NM+1:=⟨NN-1,by have:=rQ;omega⟩;rw[hNM];simp only[jS];unfold pP;simp[h20'];exact⟨e2,by have:m.next+1+1<=m'.next:=e3;omega,λj hj=>by rw[e4 j hj];rfl⟩
theorem w_Less(d:Nat)(x y:Int)(m:Mem):qK (qG (d+2)) cB [I x,I y] m=some (B (decide (x<y)),m):=by
 have h1:∀(x:Int) (m:Mem),qK (qG (d+1)) cC [I x] m=some (B false,m):=λx m=>by refine tM rfl ?_ m;rw[x29];unfold mQ kI;simp[mem0];exact RetF.st rfl rfl
 refine tM rfl ?_ m;rw[x27];unfold mO kH;simp[mem0,h1];exact RetF.st rfl rfl
theorem l_bubO(d:Nat)(hs:FHs)(u:Nat){a:AV}{ok:Id->Prop}(rec0:AV->AV->AV->AV->Mem->Nat->O2)(e8:Int)(t2:AV)(Q:O2->Prop){m0:Mem}{LL:Nat}(hLL:LL<=1000)(h8:0<=e8/\e8<=1000)(F:List Int)(hQ:∀m fc,Gk 1 intE ok m a F->(∀j,¬ok j->m.get j=m0.get j)->m.next=m0.next->Q (rec0 a (I 0) t2 (I (e8+1)) m fc)) :
 ∀(j k:Nat) (L:List Int) (m:Mem) (fc:Nat),L.length=LL->j<L.length->j<k->vK (λx y=>decide (x<y)) j L=F->Gk 1 intE ok m a L->(∀i,¬ok i->m.get i=m0.get i)->m.next=m0.next ->
 Q (eM (qG (d+2)) hs u rec0 k a (I 0) t2 (I e8) (I j) m fc):=by
 intro j;induction j with
 |zero=>intro k L m fc hL hj hk hB hG hm hn0;obtain⟨k,rfl⟩:∃i,k=i+1:=⟨k-1,by omega⟩;simp only[eM];unfold kF kE;simp(disch:=omega) [qQ];rw[vK]at hB;subst hB;exact hQ m _ hG hm hn0
 |succ j ih=>
  intro k L m fc hL hj hk hB hG hm hn0;obtain⟨k,rfl⟩:∃i,k=i+1:=⟨k-1,by omega⟩;obtain⟨q1,i1,l1,st2⟩:=hG.at (k:=((j+1:Nat):Int)) (by omega) (by omega);obtain⟨q0,i0,l0,-⟩:=hG.at (k:=(j:Int)) (by omega) (by omega);rw[xcr]at l1 l0;have hj1:((j+1:Nat):Int)-1=(j:Int):=(by omega);have hjp:(0:Int)<((j+1:Nat):Int):=(by omega);have hw:w64 (((j+1:Nat):Int)-1)=(j:Int):=(by rw[qQ (by omega) (by omega),hj1]);obtain⟨m2,e1,e2,e3,e4⟩:=st2 (at0 L j);rw[xcr]at e2;obtain⟨p3,j3,-,st3⟩:=e2.at (k:=(j:Int)) (by omega) (by simp;omega);obtain⟨m3,f1,f2,f3,f4⟩:=st3 (at0 L (j+1));rw[xcr]at f2;obtain rfl:p3=q0:=(by rw[j3]at i0;cases i0;rfl);rw[vK]at hB;simp only[eM];unfold kF;simp only[yW,yX,F0,E7,hjp,xcc,sN,yV,qV,i1,l1,xV];rw[qQ (by omega) (by omega),hj1];simp only[yW,yX,F0,E7,hjp,xcc,sN,yV,qV,i0,l0,w_Less d,sK,A0,i1,l1,xV];by_cases ct:at0 L (j+1)<at0 L j
  .rw[xc2 (by simpa using ct)]at hB;simp only[ct,xcc,sM,qV,i0,i1,e1,f1,xV,hw];exact ih k _ m3 _ (by simpa using hL) (by simp;omega) (by omega) hB f2 (λi hi=>by rw[f4 i hi,e4 i hi];exact hm i hi) (by rw[f3,e3];exact hn0)
  .rw[xc1 (by simpa using ct)]at hB;subst hB;simp only[ct,xd2,vP];unfold kE;simp(disch:=omega) [qQ];exact hQ _ _ hG hm hn0
theorem c_insertO(d:Nat)(hs:FHs){a:AV}{ok:Id->Prop}{L:List Int}{m:Mem}(hL:L.length<=1000)(hG:Gk 1 intE ok m a L) :
 ∃m',qG (d+3) hs dL [a,I 0,I L.length] m=some (.tup [],m')/\Gk 1 intE ok m' a (sU (λx y=>decide (x<y)) (L.length-1) L)/\m'.next=m.next+1/\yD ok m m':=by
 rw[x26];unfold mN kG;simp(disch:=omega) [qQ];by_cases h0:L.length=0
 .obtain⟨NM,hNM⟩:∃NM,NN=NM+1:=⟨NN-1,by have:=rQ;omega⟩;rw[hNM];simp only[bJ];unfold fC;simp[h0];exact⟨hG.frame λ_ _=>rfl,λj _=>rfl⟩
 .refine tW (N:=L.length-1) (σ:=Unit) (λj k _ m' fc=>bJ (qG (d+2)) hs m.next j a (I 0) (I L.length) (I ((k+1:Nat):Int)) m' fc)
   (λk _ m'=>Gk 1 intE ok m' a (sU (λx y=>decide (x<y)) k L)/\m'.next=m.next+1/\yD ok m m')
   (λr=>∃m',r=some (.tup [],m')/\Gk 1 intE ok m' a (sU (λx y=>decide (x<y)) (L.length-1) L)/\m'.next=m.next+1/\yD ok m m') ?_ ?_ NN 0 () _ _ (by omega) (by rw[rQ];omega) ⟨hG.frame λ_ _=>rfl,rfl,λj _=>rfl⟩
  .rintro j k-m1 fc hk ⟨h1,h3,h4⟩ next;have hk':(((k+1:Nat):Int))<(L.length:Int):=(by omega);simp only[bJ];unfold fC pZ;simp only[sK,hk',xcc,sM,qV];have hil:=iso_len (λx y=>decide (x<y)) k L;refine l_bubO d hs m.next (bJ (qG (d+2)) hs m.next j) ((k+1:Nat):Int) (I L.length) (λr=>∃m',r=some (.tup [],m')/\Gk 1 intE ok m' a (sU (λx y=>decide (x<y)) (L.length-1) L)/\m'.next=m.next+1/\yD ok m m') (m0:=m1) (LL:=L.length) hL (by omega) (sU (λx y=>decide (x<y)) (k+1) L) (λm2 fc2 g1 g2 g3=>?_) (k+1) NN (sU (λx y=>decide (x<y)) k L) m1 _ hil (by omega) (by rw[rQ];omega) (G0 _ k L).symm h1 (λ_ _=>rfl) rfl;exact next () m2 fc2 ⟨g1,by omega,λj hj=>by rw[g2 j hj,h4 j hj]⟩
  .rintro j-m1 fc ⟨h1,h3,h4⟩;have hk':¬(((L.length-1+1:Nat):Int))<(L.length:Int):=(by omega);simp only[bJ];unfold fC;simp only[sK,hk',xd2,vP,qV];exact⟨m1,rfl,h1,h3,h4⟩
theorem Gk.sl1{ok:Id->Prop}{m:Mem}{a:AV}{l:List Int}(h:Gk 1 intE ok m a l)(k:Nat):∃a',Ints a' l/\Go.Ix.frz m.get (k+2) a=some a':=h.frz rX yY
def okZ(t:Nat):Id->Prop:=λid=>id.1=0/\id.2.2=t
def tU(n:Nat)(P:List Pq)(F:List Int):List Int:=joinsM (freshM n) (prs P F)
theorem uni_lab{n:Nat}{P:List Pq}{F:List Int}(h:Rng n P F):Lab n (tU n P F):=(Lab.fresh n).joins λp hp=>by obtain⟨i,hi,rfl⟩:=xch.mp hp;exact(h i hi).2
theorem Rng.take{n:Nat}{P:List Pq}{F:List Int}(h:Rng n P F)(k:Nat):Rng n P (F.take k):=λi hi=>h i (xfa hi)
theorem uni_succ{n:Nat}{P:List Pq}{F:List Int}{k:Nat}(hk:k<F.length):tU n P (F.take (k+1))=sR (tU n P (F.take k)) (qO P (at0 F k)):=by unfold tU prs;rw[xd9 hk,xds,x7b,rJ hk];rfl
structure Right7 (l:List Scene) (P:List Pq):Prop where
 ll:l.length<=60
 ib:InB l
 pl:P.length<=200
 pr:∀p∈P,PqIn l.length p
 nd:P.Nodup
theorem x7u{n:Int}{P:List Pq}:∀(suf:List Pq) (k:Nat),P.drop k=suf->(v5 n P k suf).2=0->(∀p∈suf,(0<=p.a/\p.a<p.b)/\p.b<n)/\((P.take k).Nodup->P.Nodup)
 |[],k,hd,_=>⟨λp hp=>(by cases hp),λh=>by
  have:P.length<=k:=xe7.mp hd
  rwa[xca this]at h⟩
 |x::r,k,hd,h=>by
  obtain⟨hk,he,hd⟩:=d6 hd;simp only[v5]at h;cases c1:wi x.a 0 (n-1)with
  |false=>simp[c1]at h
  |true=>
   cases c2:wi x.b 0 (n-1)with
   |false=>simp[c1,c2]at h
   |true=>
    by_cases c3:x.b<=x.a
    .simp[c1,c2,c3]at h
    .cases c4:(P.take k).any λq=>q.same x with
     |true=>simp[c1,c2,c3,c4]at h
     |false=>
      simp[c1,c2,c3,c4]at h;obtain⟨i1,i2⟩:=x7u r (k+1) hd h;refine⟨λp hp=>?_,λhn=>i2 ?_⟩
      .have:=xC c1;have:=xC c2;rcases xce.mp hp with rfl|hp
       .omega
       .exact i1 p hp
      .rw[xd9 hk,xdv];refine⟨hn,by simp,λa ha b hb e=>?_⟩;simp at hb;rw[xg8]at c4;have:=c4 a ha;rw[e,hb,he,Pq.same_self]at this;exact this rfl
theorem xa6{l:List Scene}{P:List Pq}(h:(yB l P).2=0):Right7 l P:=by
 unfold yB at h;by_cases he:(xD l).2=0
 .obtain⟨hl,hb⟩:=x6w he;simp[he]at h;by_cases h2:200<P.length
  .simp[h2]at h
  .simp[h2]at h;obtain⟨i1,i2⟩:=x7u P 0 rfl h;exact⟨hl,hb,by omega,λp hp=>by have:=i1 p hp;exact⟨by omega,by omega,by omega⟩,i2 (by simp)⟩
 .simp[he]at h
theorem Right7.at{l:List Scene}{P:List Pq}(h:Right7 l P){i:Int}(hi:0<=i/\i<P.length):PqIn l.length (qO P i):=F6 h.pr hi
end Go.Ix
namespace Go.Ix
variable{P:List Pq}{n:Nat}
def xE(ph:Int->Int):List Sp->Int
 |[]=>0
 |x::r=>x.s*ph x.p+xE ph r
def PotS(P:List Pq)(F:List Int)(ph φ:Int->Int):Prop:=∀i∈F,φ (qO P i).b-φ (qO P i).a=ph i
theorem PotS.step{F:List Int}{ph φ:Int->Int}(h:PotS P F ph φ){x:Sp}(hx:InF F x):x.s*ph x.p=φ (toS P x)-φ (frS P x):=by have:=h x.p hx.1;unfold toS frS;rcases hx.2 with e|e<;>rw[e]<;>simp<;>omega
theorem PotS.walk{F:List Int}{ph φ:Int->Int}(h:PotS P F ph φ):∀{w:List Sp} {a b:Int},Wk P w a b->AllF F w->xE ph w=φ b-φ a
 |[],a,b,hw,_=>by cases hw;simp[xE]
 |x::r,a,b,hw,hF=>by rw[xE,h.step hF.head,h.walk hw.2 hF.tail,<-hw.1];omega
theorem pot_ex(hP:∀p∈P,PqIn n p)(ph:Int->Int):∀(k:Nat) (F:List Int),F.length=k->For n P F->∃φ,PotS P F ph φ:=by
 intro k;induction k with
 |zero=>intro F hl _;exact⟨λ_=>0,λi hi=>by rw[xdy.mp hl]at hi;cases hi⟩
 |succ k ih=>
  intro F hl h;obtain⟨G,q,rfl⟩:∃G q,F=G++[q]:=(by have hne:F≠[]:=(by rintro rfl;simp at hl);exact⟨F.dropLast,F.getLast hne,(xgg hne).symm⟩);have hG:=h.take;obtain⟨φ,hφ⟩:=ih G (by simpa using hl) hG;obtain⟨u,hu⟩:∃u,u=joinsM (freshM n) (prs P G):=⟨_,rfl⟩;have hind:=h.ind;unfold prs at hind;rw[xds]at hind;have hne:¬Sm u (qO P q).a.toNat (qO P q).b.toNat:=(by have:=(Indep.app.mp hind).2;rw[show List.map (qO P) [q]=[qO P q]from rfl]at this;rw[hu];exact this.1);have hends:∀j∈G,Sm u (qO P j).a.toNat (qO P j).b.toNat:=λj hj=>by rw[hu];exact zD (Lab.fresh n) (uT hP hG.rng) _ (xch.mpr ⟨j,hj,rfl⟩)
  unfold Sm at hne hends;refine⟨λv=>φ v+(if at0 u v.toNat=at0 u (qO P q).b.toNat then ph q-(φ (qO P q).b-φ (qO P q).a)else 0),λi hi=>?_⟩;rcases xd0.mp hi with hi|hi
  .have h1:=hφ i hi;have h2:=hends i hi;simp only
   rw[h2];omega
  .simp at hi;subst hi;simp only
   rw[xc2 trivial,xc1 hne];omega
structure Pot (n:Nat) (P:List Pq) (F:List Int) (ph φ:Int->Int):Prop where
 st:PotS P F ph φ
 z:∀v,v<n->at0 (joinsM (freshM n) (prs P F)) v=v->φ v=0
theorem pot_some(hP:∀p∈P,PqIn n p)(ph:Int->Int){F:List Int}(h:For n P F):∃φ,Pot n P F ph φ:=by
 obtain⟨φ,hφ⟩:=pot_ex hP ph F.length F rfl h;refine⟨λv=>φ v-φ (at0 (joinsM (freshM n) (prs P F)) v.toNat),λi hi=>?_,λv hv e=>?_⟩
 .have h1:=hφ i hi;have h2:=zD (Lab.fresh n) (uT hP h.rng) (qO P i) (xch.mpr ⟨i,hi,rfl⟩);unfold Sm at h2;rw[h2];omega
 .show φ v-φ (at0 (joinsM (freshM n) (prs P F)) (v:Int).toNat)=0;rw[xcr,e];omega
open Classical in
noncomputable def uF(n:Nat)(P:List Pq)(F:List Int)(ph:Int->Int):Int->Int:=if h:∃φ,Pot n P F ph φ then Classical.choose h else λ_=>0
theorem V9(hP:∀p∈P,PqIn n p)(ph:Int->Int){F:List Int}(h:For n P F):Pot n P F ph (uF n P F ph):=by have:=pot_some hP ph h;unfold uF;rw[dif_pos this];exact Classical.choose_spec this
theorem x7v{ph:Int->Int}{M:Nat}{F:List Int}(hM:∀i∈F,(ph i).natAbs<=M):∀{w:List Sp},AllF F w->(xE ph w).natAbs<=w.length*M
 |[],_=>by simp[xE]
 |x::r,h=>by have ih:=x7v hM h.tail;have h1:=hM x.p h.head.1;have h2:(x.s*ph x.p).natAbs=(ph x.p).natAbs:=(by rcases h.head.2 with e|e<;>rw[e]<;>simp);rw[xE,xco,xd6];omega
theorem Pot.abs(hP:∀p∈P,PqIn n p){ph φ:Int->Int}{F:List Int}(hF:For n P F)(h:Pot n P F ph φ){M:Nat}(hM:∀i∈F,(ph i).natAbs<=M){v:Nat}(hv:v<n):(φ v).natAbs<=n*M:=by have hL:=(Lab.fresh n).joins (uT hP hF.rng);obtain⟨l0,l1,l2⟩:=hL.ok v hv;obtain⟨w,hw,hwF⟩:=V1 hP hF.rng (v:=(at0 (joinsM (freshM n) (prs P F)) v).toNat) (w:=v) (by omega) hv (by unfold Sm;exact l2);obtain⟨w2,hw2,hwF2,hN⟩:=nb_of hw hwF;have hlen:=nb_len (hF.cut hP) hw2 hwF2 hN;have hlF:=hF.len hP;have hs:=h.st.walk hw2 hwF2;have hz:=h.z (at0 (joinsM (freshM n) (prs P F)) v).toNat (by omega) (by rw[l2];omega);rw[hz]at hs;have ha:=x7v hM hwF2;have:w2.length*M<=n*M:=xd8 M (by omega);omega
structure RSt where
 y:List Sp
 k:List Bool
def byA(l:List Sp)(i:Int):Sp:=l.getD i.toNat ⟨0,0⟩
def boA(l:List Bool)(i:Int):Bool:=l.getD i.toNat false
def L9(P:List Pq)(st:RSt)(x:Sp):RSt:=if boA st.k (frS P x)&&!(boA st.k (toS P x))then⟨st.y.set (toS P x).toNat x,st.k.set (toS P x).toNat true⟩else st
def Bw(P:List Pq)(F:List Int)(st:RSt)(fr:Int):List Sp->Int->Prop
 |[],v=>boA st.k v=true/\v=fr
 |x::r,v=>boA st.k v=true/\v≠fr/\byA st.y v=x/\toS P x=v/\InF F x/\Bw P F st fr r (frS P x)
theorem Bw.one{F:List Int}{st:RSt}{fr:Int}:∀{r s:List Sp} {v:Int},Bw P F st fr r v->Bw P F st fr s v->r=s
 |[],[],_,_,_=>rfl
 |[],x::s,_,h,k=>absurd h.2 k.2.1
 |x::r,[],_,h,k=>absurd k.2 h.2.1
 |x::r,y::s,v,h,k=>by have e:x=y:=h.2.2.1.symm.trans k.2.2.1;subst e;rw[Bw.one h.2.2.2.2.2 k.2.2.2.2.2]
theorem Bw.walk{F:List Int}{st:RSt}{fr:Int}:∀{r:List Sp} {v:Int},Bw P F st fr r v->Wk P r.reverse fr v/\AllF F r.reverse
 |[],v,h=>⟨h.2.symm,λx hx=>by cases hx⟩
 |x::r,v,h=>by obtain⟨i1,i2⟩:=h.2.2.2.2.2.walk;rw[xgl];refine⟨i1.app ⟨rfl,h.2.2.2.1⟩,i2.app λy hy=>?_⟩;simp at hy;subst hy;exact h.2.2.2.2.1
theorem Bw.drop{F:List Int}{st:RSt}{fr:Int}:∀{a b:List Sp} {v:Int},Bw P F st fr (a++b) v->∃w,Bw P F st fr b w
 |[],b,v,h=>⟨v,h⟩
 |x::a,b,v,h=>Bw.drop (a:=a) h.2.2.2.2.2
theorem x7w:∀{w:List Sp} {x:Sp},NB P w->(∀y,w.getLast?=some y->toS P x≠frS P y)->NB P (w++[x])
 |[],_,_,_=>trivial
 |[y],x,_,h=>⟨h y rfl,trivial⟩
 |y::z::r,x,h,hx=>⟨h.1,x7w (w:=z::r) h.2 λq hq=>hx q (by simpa using hq)⟩
theorem Bw.nb{F:List Int}{st:RSt}{fr:Int}:∀{r:List Sp} {v:Int},Bw P F st fr r v->NB P r.reverse
 |[],_,_=>trivial
 |[x],_,_=>trivial
 |x::y::r,v,h=>by
  have h1:=h.2.2.2.2.2;have ih:=h1.nb;rw[xgl];refine x7w ih λz hz e=>?_
  rw[xgl]at hz;simp at hz;subst hz;have h2:=h1.2.2.2.2.2;rw[<-e,h.2.2.2.1]at h2;have:=congrArg List.length (h2.one h);simp only[xco]at this;omega
structure RInv7 (n:Nat) (P:List Pq) (F:List Int) (f0:Int) (st:RSt):Prop where
 y:st.y.length=n
 k:st.k.length=n
 fr:boA st.k f0=true
 bw:∀v:Int,0<=v->v<n->boA st.k v=true->∃r,Bw P F st f0 r v
theorem B3{l:List Bool}{b v:Int}(h0:0<=b)(hb:b<l.length)(hv:0<=v):boA (l.set b.toNat true) v=if v=b then true else boA l v:=by
 unfold boA;rw[xcg,xcg,xff];by_cases c:v=b
 .rw[xc2 c,c,xc2 rfl,xc2 (by omega)];rfl
 .rw[xc1 c,xc1 (by omega)]
theorem byA_set{l:List Sp}{b v:Int}{x:Sp}(h0:0<=b)(hb:b<l.length)(hv:0<=v):byA (l.set b.toNat x) v=if v=b then x else byA l v:=by
 unfold byA;rw[xcg,xcg,xff];by_cases c:v=b
 .rw[xc2 c,c,xc2 rfl,xc2 (by omega)];rfl
 .rw[xc1 c,xc1 (by omega)]
theorem yE(hP:∀p∈P,PqIn n p){F:List Int}(hr:∀i∈F,0<=i/\i<P.length){x:Sp}(hx:InF F x):(0<=frS P x/\frS P x<n)/\0<=toS P x/\toS P x<n:=by obtain⟨h0,h1,h2⟩:=F6 hP (hr x.p hx.1);unfold frS toS;split<;>omega
theorem Bw.set(hP:∀p∈P,PqIn n p){F:List Int}(hr:∀i∈F,0<=i/\i<P.length){st:RSt}{fr b:Int}{x:Sp}(hy:st.y.length=n)(hk:st.k.length=n)(h0:0<=b)(hb:b<n)(hu:boA st.k b=false):∀{r:List Sp} {v:Int},0<=v->Bw P F st fr r v ->
 Bw P F ⟨st.y.set b.toNat x,st.k.set b.toNat true⟩ fr r v
 |[],v,hv,h=>by
  refine⟨?_,h.2⟩;simp only
  rw[B3 h0 (by omega) hv];split
  .rfl
  .exact h.1
 |y::r,v,hv,h=>by
  have hne:v≠b:=(by rintro rfl;have:=h.1;rw[hu]at this;cases this);refine⟨?_,h.2.1,?_,h.2.2.2.1,h.2.2.2.2.1,Bw.set hP hr hy hk h0 hb hu (yE hP hr h.2.2.2.2.1).1.1 h.2.2.2.2.2⟩
  .simp only
   rw[B3 h0 (by omega) hv,xc1 hne];exact h.1
  .simp only
   rw[byA_set h0 (by omega) hv,xc1 hne];exact h.2.2.1
theorem RInv7.step(hP:∀p∈P,PqIn n p){F:List Int}(hr:∀i∈F,0<=i/\i<P.length){fr:Int}(hfr:0<=fr){st:RSt}(h:RInv7 n P F fr st){x:Sp}(hx:InF F x) :
 RInv7 n P F fr (L9 P st x)/\(∀v,0<=v->boA st.k v=true->boA (L9 P st x).k v=true)/\(boA st.k (frS P x)=true->boA (L9 P st x).k (toS P x)=true):=by
 obtain⟨⟨a0,a1⟩,b0,b1⟩:=yE hP hr hx;unfold L9;cases ca:boA st.k (frS P x)with
 |false=>simp;exact h
 |true=>
  cases cb:boA st.k (toS P x)with
  |true=>simp;exact⟨h,cb⟩
  |false=>
   simp only[xdf,xez,xcm];have hmono:∀v,0<=v->boA st.k v=true->boA (st.k.set (toS P x).toNat true) v=true:=λv hv hs=>by
    rw[B3 b0 (by rw[h.k];exact b1) hv];split
    .rfl
    .exact hs
   have z1:boA (st.k.set (toS P x).toNat true) (toS P x)=true:=(by rw[B3 b0 (by rw[h.k];exact b1) b0,xc2 rfl]);refine⟨⟨by simp[h.y],by simp[h.k],hmono fr hfr h.fr,λv v0 v1 hs=>?_⟩,hmono,λ_=>z1⟩;simp only at hs;rw[B3 b0 (by rw[h.k];exact b1) v0]at hs;by_cases c:v=toS P x
   .obtain⟨r,hb⟩:=h.bw (frS P x) a0 a1 ca;refine⟨x::r,?_,?_,?_,c.symm,hx,Bw.set hP hr h.y h.k b0 b1 cb a0 hb⟩
    .rw[c];exact z1
    .intro e;have:=h.fr;rw[<-e,c,cb]at this;cases this
    .simp only
     rw[byA_set b0 (by rw[h.y];exact b1) v0,xc2 c]
   .rw[xc1 c]at hs;obtain⟨r,hb⟩:=h.bw v v0 v1 hs;exact⟨r,Bw.set hP hr h.y h.k b0 b1 cb v0 hb⟩
def r0(n:Nat)(fr:Int):RSt:=⟨List.replicate n ⟨0,0⟩,(List.replicate n false).set fr.toNat true⟩
end Go.Ix
