import Derived.Test.YtdfahbenacjgeaaGreatWg3
set_option linter.unusedSimpArgs false
set_option linter.unusedVariables false
namespace Go.Ix
def bubM(lt:Int->Int->Bool):Nat->List Int->List Int
 |0,L=>L
 |j+1,L=>if lt (at0 L (j+1)) (at0 L j)=true then bubM lt j ((L.set (j+1) (at0 L j)).set j (at0 L (j+1)))else L
theorem bub_len(lt:Int->Int->Bool):∀(j:Nat) (L:List Int),(bubM lt j L).length=L.length
 |0,_=>rfl
 |j+1,L=>by
  rw[bubM]
  split
  .rw[bub_len lt j];simp
  .rfl
theorem bub_ok{R:Int->Int->Prop}(ht:∀{a b c},R a b->R b c->R a c){lt:Int->Int->Bool}{x:Int}:∀(A B:List Int),A.Pairwise R->(∀v∈A,(lt x v=true->R x v)/\(lt x v=false->R v x)) ->
 ∃C,bubM lt A.length (A++x::B)=C++B/\C.Pairwise R/\C.Perm (A++[x]):=by
 intro A
 generalize hn:A.length=n
 induction n generalizing A with
 |zero=>
  intro B _ _
  have:=x1hv.mp hn
  subst this
  exact⟨[x],rfl,by simp,x1kn _⟩
 |succ n ih=>
  intro B hA hx
  obtain⟨A',y,rfl⟩:∃A' y,A=A'++[y]:=by
   have hne:A≠[]:=by rintro rfl;simp at hn
   exact⟨A.dropLast,A.getLast hne,(x1lg hne).symm⟩
  have hn':A'.length=n:=by simpa using hn
  have e0:A'++[y]++x::B=A'++y::x::B:=by simp
  have g1:at0 (A'++y::x::B) (n+1)=x:=by
   rw[xt5 (by simp;omega),x1lh (by omega)]
   simp[hn']
  have g0:at0 (A'++y::x::B) n=y:=by
   rw[xt5 (by simp;omega),x1lh (by omega)]
   simp[hn']
  have hs:((A'++y::x::B).set (n+1) y).set n x=A'++x::y::B:=by
   rw[x1ko _ _ (by omega),x1ko _ _ (by omega)]
   simp[hn']
  rw[x1j0]at hA
  obtain⟨c1,c2⟩:=hx y (by simp)
  rw[e0,bubM,g1,g0,hs]
  by_cases c:lt x y=true
  .rw[x1g7 c]
   obtain⟨C,h1,h2,h3⟩:=ih A' hn' (y::B) hA.1 λv hv=>hx v (by simp[hv])
   refine⟨C++[y],by rw[h1];simp,?_,?_⟩
   .rw[x1j0]
    refine⟨h2,by simp,λa ha b hb=>?_⟩
    simp at hb
    subst hb
    rcases x1h2.mp (h3.mem_iff.mp ha)with ha|ha
    .exact hA.2.2 a ha b (by simp)
    .simp at ha;subst ha;exact c1 c
   .refine(h3.append_right [y]).trans ?_
    rw[x1i3,x1i3]
    exact List.Perm.append_left A' (List.Perm.swap y x [])
  .rw[x1g6 c]
   have c':lt x y=false:=by simpa using c
   refine⟨A'++[y]++[x],by simp,?_,x1kn _⟩
   rw[x1j0]
   refine⟨x1j0.mpr hA,by simp,λa ha b hb=>?_⟩
   simp at hb
   subst hb
   rcases x1h2.mp ha with ha|ha
   .exact ht (hA.2.2 a ha y (by simp)) (c2 c')
   .simp at ha;subst ha;exact c2 c'
def isoM(lt:Int->Int->Bool)(k:Nat)(L:List Int):List Int:=(List.range' 1 k).foldl (λL i=>bubM lt i L) L
theorem x115(lt:Int->Int->Bool)(k:Nat)(L:List Int):isoM lt (k+1) L=bubM lt (k+1) (isoM lt k L):=by
 unfold isoM
 rw[List.range'_concat,x1km]
 simp[x1jg]
theorem iso_len(lt:Int->Int->Bool)(k:Nat)(L:List Int):(isoM lt k L).length=L.length:=by
 induction k with
 |zero=>rfl
 |succ k ih=>rw[x115,bub_len,ih]
theorem iso_ok{R:Int->Int->Prop}(ht:∀{a b c},R a b->R b c->R a c){lt:Int->Int->Bool}{L:List Int}(h:∀(i:Nat) (hi:i<L.length),∀v∈L.take i,(lt L[i] v=true->R L[i] v)/\(lt L[i] v=false->R v L[i])) :
 ∀k,k<L.length->∃C,isoM lt k L=C++L.drop (k+1)/\C.Pairwise R/\C.Perm (L.take (k+1)):=by
 intro k
 induction k with
 |zero=>
  intro hk
  refine⟨L.take 1,?_,?_,x1kn _⟩
  .exact(x1k9 1 L).symm
  .cases L with
   |nil=>simp
   |cons a l=>simp
 |succ k ih=>
  intro hk
  obtain⟨C,h1,h2,h3⟩:=ih (by omega)
  have hlen:C.length=k+1:=by rw[h3.length_eq];simp;omega
  rw[x115,h1,xtm hk]
  obtain⟨D,d1,d2,d3⟩:=bub_ok (R:=R) ht (lt:=lt) (x:=L[k+1]) C (L.drop (k+1+1)) h2 λv hv=>h (k+1) hk v (h3.mem_iff.mp hv)
  rw[hlen]at d1
  refine⟨D,d1,d2,d3.trans ?_⟩
  rw[x1gz hk]
  exact h3.append_right _
theorem iso_all{R:Int->Int->Prop}(ht:∀{a b c},R a b->R b c->R a c){lt:Int->Int->Bool}{L:List Int}(h:∀(i:Nat) (hi:i<L.length),∀v∈L.take i,(lt L[i] v=true->R L[i] v)/\(lt L[i] v=false->R v L[i])) :
 (isoM lt (L.length-1) L).Pairwise R/\(isoM lt (L.length-1) L).Perm L:=by
 by_cases h0:L.length=0
 .have:=x1hv.mp h0
  subst this
  exact⟨List.Pairwise.nil,x1kn _⟩
 .obtain⟨C,h1,h2,h3⟩:=iso_ok (R:=R) (lt:=lt) (L:=L) ht h (L.length-1) (by omega)
  have e:L.length-1+1=L.length:=by omega
  rw[e,x1h5 (x1ga _),x1hc]at h1
  rw[e,x1gg (x1ga _)]at h3
  rw[h1]
  exact⟨h2,h3⟩
theorem x18g{N i:Nat}(h:i<(freshM N).length):(freshM N)[i]=i:=by simp[freshM]
theorem iso_ord(f:Int->Int)(N:Nat):isoM (λx y=>decide (f x<f y)) ((freshM N).length-1) (freshM N)=ordM f N:=by
 obtain⟨h1,h2⟩:=iso_all (R:=lx f) x186 (lt:=λx y=>decide (f x<f y)) (L:=freshM N) λi hi v hv=>by
  rw[x18g hi]
  obtain⟨j,hj,rfl⟩:=x1is.mp hv
  rw[x1jt,x18g]
  simp at hj
  constructor
  .intro h;simp at h;exact .inl h
  .intro h;simp at h;unfold lx;omega
 exact Ordd.one ⟨h1,λx=>by rw[h2.mem_iff,fresh_mem]⟩ (xxr f N)
theorem iso_asc{L:List Int}(hn:L.Nodup):Asc (isoM (λx y=>decide (x<y)) (L.length-1) L)/\∀x,x∈isoM (λx y=>decide (x<y)) (L.length-1) L↔x∈L:=by
 obtain⟨h1,h2⟩:=iso_all (R:=λa b:Int=>a<b) (λh k=>by omega) (lt:=λx y=>decide (x<y)) (L:=L) λi hi v hv=>by
  have hne:v≠L[i]:=by
   rintro rfl
   obtain⟨j,hj,e⟩:=x1is.mp hv
   rw[x1jt]at e
   simp at hj
   have:=x1kp.mp hn j i (by omega) hi (by omega)
   exact this e
  constructor
  .intro h;simpa using h
  .intro h;simp at h;omega
 exact⟨h1,λx=>h2.mem_iff⟩
open Go.Proofs
def xwp(ok:Id->Prop)(m m':Mem):Prop:=∀j:Id,¬ok j->m'.get j=m.get j
def Cmps(call:xsj)(f:AV)(b:Id)(o:Ob)(n:Nat)(c:Int->Int->Int):Prop:=∀(hs:FHs) (x y:Int) (m:Mem),0<=x->x<n->0<=y->y<n->m.get b=some o->∃n',m.next<=n'/\xu2 call hs 2 f [I x,I y] m=some (I (c x y),⟨m.hp,n'⟩)
def InN(n:Nat)(L:List Int):Prop:=∀x∈L,0<=x/\x<n
theorem InN.get{n:Nat}{L:List Int}(h:InN n L){k:Nat}(hk:k<L.length):0<=at0 L k/\at0 L k<n:=by rw[xt5 hk];exact h _ (x1go hk)
theorem InN.set{n:Nat}{L:List Int}(h:InN n L){k:Nat}{x:Int}(hx:0<=x/\x<n):InN n (L.set k x):=λy hy=>by
 rcases List.mem_or_eq_of_mem_set hy with hy|rfl
 .exact h y hy
 .exact hx
theorem l_bubF(call:xsj)(hs:FHs)(u:Nat){a f:AV}{b:Id}{o:Ob}{n:Nat}{c:Int->Int->Int}(hf:Cmps call f b o n c){ok:Id->Prop}(hb:¬ok b)(rec0:AV->AV->AV->AV->AV->Mem->Nat->O2)(e8:Int)(t2:AV)(Q:O2->Prop){m0:Mem}{LL:Nat}(hLL:LL<=1000)(h8:0<=e8/\e8<=1000)(F:List Int)(hQ:∀m fc,Gk 1 intE ok m a F->(∀j,¬ok j->m.get j=m0.get j)->m0.next<=m.next->Q (rec0 a (I 0) t2 f (I (e8+1)) m fc)) :
 ∀(j k:Nat) (L:List Int) (m:Mem) (fc:Nat),L.length=LL->j<L.length->j<k->InN n L->bubM (λx y=>decide (c x y<0)) j L=F->Gk 1 intE ok m a L->(∀i,¬ok i->m.get i=m0.get i)->m0.next<=m.next->m0.get b=some o ->
 Q (x6e call hs u rec0 k a (I 0) t2 f (I e8) (I j) m fc):=by
 intro j
 induction j with
 |zero=>
  intro k L m fc hL hj hk hn hB hG hm hn0 hbm
  obtain⟨k,rfl⟩:∃i,k=i+1:=⟨k-1,by omega⟩
  simp only[x6e]
  unfold xcy xcx
  simp(disch:=omega) [xso]
  rw[bubM]at hB
  subst hB
  exact hQ m _ hG hm hn0
 |succ j ih=>
  intro k L m fc hL hj hk hn hB hG hm hn0 hbm
  obtain⟨k,rfl⟩:∃i,k=i+1:=⟨k-1,by omega⟩
  obtain⟨q1,i1,l1,-⟩:=hG.at (k:=((j+1:Nat):Int)) (by omega) (by omega)
  obtain⟨q0,i0,l0,-⟩:=hG.at (k:=(j:Int)) (by omega) (by omega)
  rw[x1gb]at l1 l0
  have hx1:=hn.get (k:=j+1) (by omega)
  have hx0:=hn.get (k:=j) (by omega)
  obtain⟨n',hn',hc⟩:=hf hs (at0 L (j+1)) (at0 L j) m hx1.1 hx1.2 hx0.1 hx0.2 (by rw[hm b hb];exact hbm)
  have hj1:((j+1:Nat):Int)-1=(j:Int):=by omega
  have hjp:(0:Int)<((j+1:Nat):Int):=by omega
  have hw:w64 (((j+1:Nat):Int)-1)=(j:Int):=by rw[xso (by omega) (by omega),hj1]
  have hG':Gk 1 intE ok (⟨m.hp,n'⟩:Mem) a L:=hG.frame λid _=>rfl
  obtain⟨p1,j1,r1,-⟩:=hG'.at (k:=((j+1:Nat):Int)) (by omega) (by omega)
  obtain⟨p0,j0,r0,-⟩:=hG'.at (k:=(j:Int)) (by omega) (by omega)
  rw[x1gb]at r1 r0
  obtain⟨p2,j2,-,st2⟩:=hG'.at (k:=((j+1:Nat):Int)) (by omega) (by omega)
  obtain⟨m2,e1,e2,e3,e4⟩:=st2 (at0 L j)
  rw[x1gb]at e2
  obtain⟨p3,j3,-,st3⟩:=e2.at (k:=(j:Int)) (by omega) (by simp;omega)
  obtain⟨m3,f1,f2,f3,f4⟩:=st3 (at0 L (j+1))
  rw[x1gb]at f2
  obtain rfl:p1=q1:=by rw[j1]at i1;cases i1;rfl
  obtain rfl:p0=q0:=by rw[j0]at i0;cases i0;rfl
  obtain rfl:p2=p1:=by rw[j2]at i1;cases i1;rfl
  obtain rfl:p3=p0:=by rw[j3]at i0;cases i0;rfl
  rw[bubM]at hB
  simp only[x6e]
  unfold xcy
  simp only[x10x,x10y,x123,xxh,hjp,x1gm,xsr,sW_t,xsn,i1,l1,xvv]
  rw[xso (by omega) (by omega),hj1]
  simp only[x10x,x10y,x123,xxh,hjp,x1gm,xsr,sW_t,xsn,i0,l0,hc,xta,x120,i0,r0,i1,r1,xvv]
  by_cases ct:c (at0 L (j+1)) (at0 L j)<0
  .rw[x1g7 (by simpa using ct)]at hB
   simp only[ct,x1gm,xt9,xsn,i0,i1,e1,f1,xvv,hw]
   exact ih k _ m3 _ (by simpa using hL) (by simp;omega) (by omega) ((hn.set hx0).set hx1) hB f2 (λi hi=>by rw[f4 i hi,e4 i hi];exact hm i hi) (by rw[f3,e3];show m0.next<=n';omega) hbm
  .rw[x1g6 (by simpa using ct)]at hB
   subst hB
   simp only[ct,x1h9,xup]
   unfold xcx
   simp(disch:=omega) [xso]
   exact hQ _ _ hG' (λi hi=>by rw[<-hm i hi];rfl) (by show m0.next<=n';omega)
theorem bub_in{n:Nat}{lt:Int->Int->Bool}:∀(j:Nat) (L:List Int),j<L.length->InN n L->InN n (bubM lt j L)
 |0,_,_,h=>h
 |j+1,L,hj,h=>by
  rw[bubM]
  split
  .exact bub_in j _ (by simp;omega) ((h.set (h.get (by omega))).set (h.get (by omega)))
  .exact h
theorem c_insertF(d:Nat)(hs:FHs){a f:AV}{b:Id}{o:Ob}{n:Nat}{c:Int->Int->Int}(hf:Cmps (xsi d) f b o n c){ok:Id->Prop}(hb:¬ok b){L:List Int}{m:Mem}(hL:L.length<=1000)(hn:InN n L)(hG:Gk 1 intE ok m a L)(hbm:m.get b=some o) :
 ∃m',xsi (d+1) hs x36 [a,I 0,I L.length,f] m=some (.tup [],m')/\Gk 1 intE ok m' a (isoM (λx y=>decide (c x y<0)) (L.length-1) L)/\m.next<=m'.next/\xwp ok m m':=by
 rw[xoq]
 unfold xfz xcz
 simp(disch:=omega) [xso]
 have hone:isoM (λx y=>decide (c x y<0)) 0 L=L:=rfl
 by_cases h0:L.length=0
 .obtain⟨NM,hNM⟩:∃NM,NN=NM+1:=⟨NN-1,by have:=xsu;omega⟩
  rw[hNM]
  simp only[x21]
  unfold x7h
  have:¬((1:Int)<(L.length:Int)):=by omega
  simp[h0]
  exact⟨hG.frame λ_ _=>rfl,λj _=>rfl⟩
 .refine xtd (N:=L.length-1) (σ:=Unit) (λj k _ m' fc=>x21 (xsi d) hs m.next j a (I 0) (I L.length) f (I ((k+1:Nat):Int)) m' fc)
   (λk _ m'=>Gk 1 intE ok m' a (isoM (λx y=>decide (c x y<0)) k L)/\InN n (isoM (λx y=>decide (c x y<0)) k L)/\m.next<=m'.next/\xwp ok m m')
   (λr=>∃m',r=some (.tup [],m')/\Gk 1 intE ok m' a (isoM (λx y=>decide (c x y<0)) (L.length-1) L)/\m.next<=m'.next/\xwp ok m m') ?_ ?_ NN 0 () _ _ (by omega) (by rw[xsu];omega) ⟨hG.frame λ_ _=>rfl,hn,by show m.next<=m.next+1;omega,λj _=>rfl⟩
  .rintro j k-m1 fc hk ⟨h1,h2,h3,h4⟩ next
   have hk':(((k+1:Nat):Int))<(L.length:Int):=by omega
   simp only[x21]
   unfold x7h xkw
   simp only[xta,hk',x1gm,xt9,xsn]
   have hil:=iso_len (λx y=>decide (c x y<0)) k L
   refine l_bubF (xsi d) hs m.next hf hb (x21 (xsi d) hs m.next j) ((k+1:Nat):Int) (I L.length) (λr=>∃m',r=some (.tup [],m')/\Gk 1 intE ok m' a (isoM (λx y=>decide (c x y<0)) (L.length-1) L)/\m.next<=m'.next/\xwp ok m m') (m0:=m1) (LL:=L.length) hL (by omega) (isoM (λx y=>decide (c x y<0)) (k+1) L) (λm2 fc2 g1 g2 g3=>?_) (k+1) NN (isoM (λx y=>decide (c x y<0)) k L) m1 _ hil (by omega) (by rw[xsu];omega) h2 (x115 _ k L).symm h1 (λ_ _=>rfl) (x1ga _) (by rw[h4 b hb];exact hbm)
   exact next () m2 fc2 ⟨g1,by rw[x115];exact bub_in _ _ (by omega) h2,by omega,λj hj=>by rw[g2 j hj,h4 j hj]⟩
  .rintro j-m1 fc ⟨h1,h2,h3,h4⟩
   have hk':¬(((L.length-1+1:Nat):Int))<(L.length:Int):=by omega
   simp only[x21]
   unfold x7h
   simp only[xta,hk',x1h9,xup,xsn]
   exact⟨m1,rfl,h1,h3,h4⟩
theorem x1c1(d:Nat)(hs:FHs){a f:AV}{b:Id}{o:Ob}{n:Nat}{c:Int->Int->Int}(hf:Cmps (xsi d) f b o n c){ok:Id->Prop}(hb:¬ok b){L:List Int}{m:Mem}(hL:L.length<20)(hn:InN n L)(hG:Gk 1 intE ok m a L)(hbm:m.get b=some o) :
 ∃m',xsi (d+3) hs x4m [a,f] m=some (.tup [],m')/\Gk 1 intE ok m' a (isoM (λx y=>decide (c x y<0)) (L.length-1) L)/\m.next<=m'.next/\xwp ok m m':=by
 rw[xny]
 unfold xfe xb9
 simp[hG.len xt8]
 rw[xof]
 unfold xfr xce
 obtain⟨NM,hNM⟩:∃NM,NN=NM+1:=⟨NN-1,by have:=xsu;omega⟩
 rw[hNM]
 simp only[xcd]
 have h20:¬(20:Int)<=(L.length:Int):=by omega
 have h20':¬(20:Int)<(L.length:Int):=by omega
 obtain⟨m',e1,e2,e3,e4⟩:=c_insertF d hs hf hb (m:=⟨m.hp,m.next+1+1⟩) (by omega) hn (hG.frame λ_ _=>rfl) (by rw[<-hbm];rfl)
 unfold xke xkd
 simp[h20,e1]
 obtain⟨NM,hNM⟩:∃NM,NN=NM+1:=⟨NN-1,by have:=xsu;omega⟩
 rw[hNM]
 simp only[xcc]
 unfold xkc
 simp[h20']
 exact⟨e2,by have:m.next+1+1<=m'.next:=e3;omega,λj hj=>by rw[e4 j hj];rfl⟩
theorem w_Less(d:Nat)(x y:Int)(m:Mem):xsl (xsi (d+2)) x37 [I x,I y] m=some (B (decide (x<y)),m):=by
 have h1:∀(x:Int) (m:Mem),xsl (xsi (d+1)) x38 [I x] m=some (B false,m):=λx m=>by
  refine xua rfl ?_ m
  rw[xoy]
  unfold xg5 xda
  simp[mem0]
  exact RetF.st rfl rfl
 refine xua rfl ?_ m
 rw[xos]
 unfold xg1 xd3
 simp[mem0,h1]
 exact RetF.st rfl rfl
theorem l_bubO(d:Nat)(hs:FHs)(u:Nat){a:AV}{ok:Id->Prop}(rec0:AV->AV->AV->AV->Mem->Nat->O2)(e8:Int)(t2:AV)(Q:O2->Prop){m0:Mem}{LL:Nat}(hLL:LL<=1000)(h8:0<=e8/\e8<=1000)(F:List Int)(hQ:∀m fc,Gk 1 intE ok m a F->(∀j,¬ok j->m.get j=m0.get j)->m.next=m0.next->Q (rec0 a (I 0) t2 (I (e8+1)) m fc)) :
 ∀(j k:Nat) (L:List Int) (m:Mem) (fc:Nat),L.length=LL->j<L.length->j<k->bubM (λx y=>decide (x<y)) j L=F->Gk 1 intE ok m a L->(∀i,¬ok i->m.get i=m0.get i)->m.next=m0.next ->
 Q (x6f (xsi (d+2)) hs u rec0 k a (I 0) t2 (I e8) (I j) m fc):=by
 intro j
 induction j with
 |zero=>
  intro k L m fc hL hj hk hB hG hm hn0
  obtain⟨k,rfl⟩:∃i,k=i+1:=⟨k-1,by omega⟩
  simp only[x6f]
  unfold xd1 xd0
  simp(disch:=omega) [xso]
  rw[bubM]at hB
  subst hB
  exact hQ m _ hG hm hn0
 |succ j ih=>
  intro k L m fc hL hj hk hB hG hm hn0
  obtain⟨k,rfl⟩:∃i,k=i+1:=⟨k-1,by omega⟩
  obtain⟨q1,i1,l1,st2⟩:=hG.at (k:=((j+1:Nat):Int)) (by omega) (by omega)
  obtain⟨q0,i0,l0,-⟩:=hG.at (k:=(j:Int)) (by omega) (by omega)
  rw[x1gb]at l1 l0
  have hj1:((j+1:Nat):Int)-1=(j:Int):=by omega
  have hjp:(0:Int)<((j+1:Nat):Int):=by omega
  have hw:w64 (((j+1:Nat):Int)-1)=(j:Int):=by rw[xso (by omega) (by omega),hj1]
  obtain⟨m2,e1,e2,e3,e4⟩:=st2 (at0 L j)
  rw[x1gb]at e2
  obtain⟨p3,j3,-,st3⟩:=e2.at (k:=(j:Int)) (by omega) (by simp;omega)
  obtain⟨m3,f1,f2,f3,f4⟩:=st3 (at0 L (j+1))
  rw[x1gb]at f2
  obtain rfl:p3=q0:=by rw[j3]at i0;cases i0;rfl
  rw[bubM]at hB
  simp only[x6f]
  unfold xd1
  simp only[x10x,x10y,x123,xxh,hjp,x1gm,xsr,sW_t,xsn,i1,l1,xvv]
  rw[xso (by omega) (by omega),hj1]
  simp only[x10x,x10y,x123,xxh,hjp,x1gm,xsr,sW_t,xsn,i0,l0,w_Less d,xta,x120,i1,l1,xvv]
  by_cases ct:at0 L (j+1)<at0 L j
  .rw[x1g7 (by simpa using ct)]at hB
   simp only[ct,x1gm,xt9,xsn,i0,i1,e1,f1,xvv,hw]
   exact ih k _ m3 _ (by simpa using hL) (by simp;omega) (by omega) hB f2 (λi hi=>by rw[f4 i hi,e4 i hi];exact hm i hi) (by rw[f3,e3];exact hn0)
  .rw[x1g6 (by simpa using ct)]at hB
   subst hB
   simp only[ct,x1h9,xup]
   unfold xd0
   simp(disch:=omega) [xso]
   exact hQ _ _ hG hm hn0
theorem c_insertO(d:Nat)(hs:FHs){a:AV}{ok:Id->Prop}{L:List Int}{m:Mem}(hL:L.length<=1000)(hG:Gk 1 intE ok m a L) :
 ∃m',xsi (d+3) hs x4w [a,I 0,I L.length] m=some (.tup [],m')/\Gk 1 intE ok m' a (isoM (λx y=>decide (x<y)) (L.length-1) L)/\m'.next=m.next+1/\xwp ok m m':=by
 rw[xor]
 unfold xg0 xd2
 simp(disch:=omega) [xso]
 by_cases h0:L.length=0
 .obtain⟨NM,hNM⟩:∃NM,NN=NM+1:=⟨NN-1,by have:=xsu;omega⟩
  rw[hNM]
  simp only[x22]
  unfold x7i
  simp[h0]
  exact⟨hG.frame λ_ _=>rfl,λj _=>rfl⟩
 .refine xtd (N:=L.length-1) (σ:=Unit) (λj k _ m' fc=>x22 (xsi (d+2)) hs m.next j a (I 0) (I L.length) (I ((k+1:Nat):Int)) m' fc)
   (λk _ m'=>Gk 1 intE ok m' a (isoM (λx y=>decide (x<y)) k L)/\m'.next=m.next+1/\xwp ok m m')
   (λr=>∃m',r=some (.tup [],m')/\Gk 1 intE ok m' a (isoM (λx y=>decide (x<y)) (L.length-1) L)/\m'.next=m.next+1/\xwp ok m m') ?_ ?_ NN 0 () _ _ (by omega) (by rw[xsu];omega) ⟨hG.frame λ_ _=>rfl,rfl,λj _=>rfl⟩
  .rintro j k-m1 fc hk ⟨h1,h3,h4⟩ next
   have hk':(((k+1:Nat):Int))<(L.length:Int):=by omega
   simp only[x22]
   unfold x7i xkx
   simp only[xta,hk',x1gm,xt9,xsn]
   have hil:=iso_len (λx y=>decide (x<y)) k L
   refine l_bubO d hs m.next (x22 (xsi (d+2)) hs m.next j) ((k+1:Nat):Int) (I L.length) (λr=>∃m',r=some (.tup [],m')/\Gk 1 intE ok m' a (isoM (λx y=>decide (x<y)) (L.length-1) L)/\m'.next=m.next+1/\xwp ok m m') (m0:=m1) (LL:=L.length) hL (by omega) (isoM (λx y=>decide (x<y)) (k+1) L) (λm2 fc2 g1 g2 g3=>?_) (k+1) NN (isoM (λx y=>decide (x<y)) k L) m1 _ hil (by omega) (by rw[xsu];omega) (x115 _ k L).symm h1 (λ_ _=>rfl) rfl
   exact next () m2 fc2 ⟨g1,by omega,λj hj=>by rw[g2 j hj,h4 j hj]⟩
  .rintro j-m1 fc ⟨h1,h3,h4⟩
   have hk':¬(((L.length-1+1:Nat):Int))<(L.length:Int):=by omega
   simp only[x22]
   unfold x7i
   simp only[xta,hk',x1h9,xup,xsn]
   exact⟨m1,rfl,h1,h3,h4⟩
theorem Gk.sl1{ok:Id->Prop}{m:Mem}{a:AV}{l:List Int}(h:Gk 1 intE ok m a l)(k:Nat):∃a',Ints a' l/\Go.Ix.frz m.get (k+2) a=some a':=h.frz xt2 xvc
def okZ(t:Nat):Id->Prop:=λid=>id.1=0/\id.2.2=t
theorem joinM_max{l:List Int}{p:Pq}{k:Nat}(hk:k<l.length):at0 (xtx l p) k=if at0 l k=(if at0 l p.b.toNat > at0 l p.a.toNat then at0 l p.b.toNat else at0 l p.a.toNat)then mn (at0 l p.a.toNat) (at0 l p.b.toNat)else at0 l k:=by
 rw[xxn hk]
 unfold mn
 generalize at0 l k=x
 generalize at0 l p.a.toNat=a
 generalize at0 l p.b.toNat=b
 by_cases h1:x=a<;>by_cases h2:x=b<;>by_cases h3:b > a<;>by_cases h4:b<a<;>simp[h1,h2,h3,h4]<;>omega
def Oth(u:Nat)(m m':Mem):Prop:=∀j:Id,¬j.1=u->m'.get j=m.get j
def okU7(u t:Nat):Id->Prop:=λid=>id.1=u/\id.2.2=t
theorem l_rjoin1(d u:Nat)(hs:FHs){f s p a:AV}{l:List Int}{q:Pq}(t7:AV)(rec0:AV->AV->AV->AV->Mem->Nat->O2)(Q:O2->Prop)(hl:l.length<=1000){m0:Mem}(hQ:∀m fc,Gk 1 intE (okU7 u 22) m a (xtx l q)->m.get (u,0,2)=some (.row [s,p] 0 false)->(m.next=m0.next/\Oth u m0 m)->Q (rec0 f (.ptr (u,0,2) 0 0) a t7 m fc))(t7':AV)(ht:sAdd t7' (I 1)=some t7) :
 ∀(n k:Nat) (x:Unit) (m:Mem) (fc:Nat),k<=l.length->l.length<n+k->(Gk 1 intE (okU7 u 22) m a ((xtx l q).take k++l.drop k)/\m.get (u,0,2)=some (.row [s,p] 0 false)/\(m.next=m0.next/\Oth u m0 m)) ->
 Q (x3c (xsi d) hs u rec0 n f (.ptr (u,0,2) 0 0) a t7' (I (at0 l q.a.toNat)) (I (at0 l q.b.toNat)) (I k) m fc):=by
 have hX:(xtx l q).length=l.length:=x12d l q
 refine xtd (λn k _ m fc=>x3c (xsi d) hs u rec0 n f (.ptr (u,0,2) 0 0) a t7' (I (at0 l q.a.toNat)) (I (at0 l q.b.toNat)) (I k) m fc)
  (λk _ m=>Gk 1 intE (okU7 u 22) m a ((xtx l q).take k++l.drop k)/\m.get (u,0,2)=some (.row [s,p] 0 false)/\(m.next=m0.next/\Oth u m0 m)) Q ?_ ?_
 .rintro n k-m1 fc hk ⟨h1,h2,h3⟩ next
  have hk':(k:Int)<(l.length:Int):=by omega
  have hml:=x113 (l:=l) (X:=xtx l q) hX (k:=k) (by omega)
  have hlen:=h1.len (y:=x4) xt8
  rw[hml]at hlen
  obtain⟨c,i3,l3,st⟩:=h1.at (k:=(k:Int)) (by omega) (by omega)
  rw[x1gb,mix_at hX hk]at l3
  have hj:=joinM_max (p:=q) hk
  simp only[x3c]
  unfold x94 xhm x93
  by_cases c1:at0 l k=(if at0 l q.b.toNat > at0 l q.a.toNat then at0 l q.b.toNat else at0 l q.a.toNat)
  .rw[x1g7 c1]at hj
   obtain⟨m2,e1,e2,e3,e4⟩:=st (mn (at0 l q.a.toNat) (at0 l q.b.toNat))
   rw[x1gb,<-hj,x14k hX hk]at e2
   unfold mn at e1
   simp only[hlen,xsn,xta,hk',x1gm,xt9,i3,l3,sMax_I,sEq_I,c1,x11z,e1]
   simp(disch:=omega) [xso]
   exact next () m2 _ ⟨e2,by rw[e4 _ (by unfold okU7;simp)];exact h2,by rw[e3];exact h3.1,λj hj=>by rw[e4 j (by unfold okU7;exact λh=>hj h.1)];exact h3.2 j hj⟩
  .rw[x1g6 c1]at hj
   simp only[hlen,xsn,xta,hk',x1gm,xt9,i3,l3,sMax_I,sEq_I,x1ib c1,xup]
   simp(disch:=omega) [xso]
   exact next () m1 _ ⟨by rw[<-mix_id hX hk hj];exact h1,h2,h3⟩
 .rintro n-m1 fc ⟨h1,h2,h3⟩
  have hml:=x113 (l:=l) (X:=xtx l q) hX (k:=l.length) (by omega)
  have hlen:=h1.len (y:=x4) xt8
  rw[hml]at hlen
  rw[x1h5 (x1ga _),x1gg (by omega),x1hc]at h1
  simp only[x3c]
  unfold x94 xhl
  simp[hlen,ht]
  exact hQ _ _ h1 h2 h3
def uniM(n:Nat)(P:List Pq)(F:List Int):List Int:=joinsM (freshM n) (prs P F)
theorem x103{n:Nat}{P:List Pq}{F:List Int}(h:Rng n P F):Lab n (uniM n P F):=(Lab.fresh n).joins λp hp=>by
 obtain⟨i,hi,rfl⟩:=x1gs.mp hp
 exact(h i hi).2
theorem Rng.take{n:Nat}{P:List Pq}{F:List Int}(h:Rng n P F)(k:Nat):Rng n P (F.take k):=λi hi=>h i (x1j3 hi)
theorem x14v{n:Nat}{P:List Pq}{F:List Int}{k:Nat}(hk:k<F.length):uniM n P (F.take (k+1))=xtx (uniM n P (F.take k)) (prAt P (at0 F k)):=by
 unfold uniM prs
 rw[x1gz hk,x1hr,x180,xt5 hk]
 rfl
theorem x18h(d:Nat)(hh:FHs){s p f:AV}{l:List Scene}{P:List Pq}{F:List Int}{m0:Mem}(hs:Sl Scene.c s l)(hp:Sl Pq.c p P)(hfl:sLen Tryz.prog x4 f=some (I F.length))(hfr:∀m:Mem,(Oth m0.next m0 m)->∀k,k<F.length->∃q,sIx 1 f (I (k:Int))=some q/\sLd false 1 q m=some (I (at0 F k))/\∀a b:Nat,xsm (tR q) (some [],some [(m0.next,a,b)])=true)(hR:Rng l.length P F)(hl:l.length<=60)(hF:F.length<=1000) :
 ∃a m',xsi (d+1) hh x15 [.agg [s,p],f] m0=some (a,m')/\Gk 1 intE (okU7 m0.next 22) m' a (uniM l.length P F)/\(m'.next=m0.next+1/\Oth m0.next m0 m'):=by
 rw[xmr]
 unfold xea x97 xhp
 obtain⟨u,hu⟩:∃u,m0.next=u:=⟨_,rfl⟩
 simp only[hu]at *
 simp[hs.one,hp.one]
 refine xtd (N:=l.length) (λn k a m fc=>x5k (xsi d) hh u n f (.ptr (u,0,2) 0 0) a (I k) m fc)
  (λk a m=>m.get (u,0,2)=some (.row [s,p] 0 false)/\Gk 1 intE (okU7 u 22) m a ((freshM l.length).take k)/\(m.next=u+1/\Oth u m0 m))
  (λr=>∃a m',r=some (a,m')/\Gk 1 intE (okU7 u 22) m' a (uniM l.length P F)/\(m'.next=u+1/\Oth u m0 m')) ?_ ?_ NN 0 nilS _ _ (by omega) (by rw[xsu];omega)
  ⟨by simp,by simpa using Gk.nil,rfl,λj hj=>by rw[Mem.get_new,x1g6 (by rintro rfl;exact hj rfl)];rfl⟩
 .rintro n k a m fc hk ⟨hg,hG,hn,hj⟩ next
  have hk':(k:Int)<(l.length:Int):=by omega
  have hlt:((freshM l.length).take k).length=k:=by simp[freshM];omega
  obtain⟨a2,m2,e1,e2,-,-,e3,e4⟩:=hG.app (bytes:=8) (id0:=(u,fc+8,22)) xt2 (by omega) ⟨rfl,rfl⟩ (by unfold xt6;omega) (k:Int)
  simp only[x5k]
  unfold x96
  simp(disch:=omega) [hg,hs.len xtt,hk',xu3,xso]
  rw[show elems m.get 1 (.slit [I (k:Int)] 1 true)=some (intE (k:Int),1)from rfl,e1]
  exact next a2 m2 _ ⟨by rw[e4 _ (by unfold okU7;simp)];exact hg,by rw[<-xxp hk];exact e2,by omega,λj hj2=>by rw[e4 j (by unfold okU7;exact λh=>hj2 h.1)];exact hj j hj2⟩
 .rintro n a m fc ⟨hg,hG,hn,hj⟩
  have hk:¬((l.length:Int)<(l.length:Int)):=by omega
  rw[x1gg (by simp[freshM])]at hG
  simp only[x5k]
  unfold x96 xho
  simp[hg,hs.len xtt]
  refine xtd (N:=F.length) (σ:=Unit) (λn k _ m fc=>x3d (xsi d) hh u n f (.ptr (u,0,2) 0 0) a (I k) m fc)
   (λk _ m=>m.get (u,0,2)=some (.row [s,p] 0 false)/\Gk 1 intE (okU7 u 22) m a (uniM l.length P (F.take k))/\(m.next=u+1/\Oth u m0 m))
   (λr=>∃a m',r=some (a,m')/\Gk 1 intE (okU7 u 22) m' a (uniM l.length P F)/\(m'.next=u+1/\Oth u m0 m')) ?_ ?_ NN 0 () m _ (by omega) (by rw[xsu];omega) ⟨hg,by simpa[uniM,prs,joinsM]using hG,hn,hj⟩
  .rintro n k-m fc hk ⟨hg,hG,hn,hj⟩ next
   have hk':(k:Int)<(F.length:Int):=by omega
   obtain⟨⟨r0,r1⟩,hq⟩:=hR.get hk
   have hq':=hq
   obtain⟨q0,q1,q2⟩:=hq
   have hL:=(x103 (hR.take k)).len
   obtain⟨qa,ix,ld,hap⟩:=hfr m hj k hk
   have ip:=hp.ixz Pq.len r0 r1
   have lp:=λm=>xtz (m:=m) (enc:=Pq.c) Pq.len (by omega) (show(at0 F k).toNat<P.length by omega)
   rw[<-xxq (by omega)]at lp
   have hus:=x14v (n:=l.length) (P:=P) hk
   generalize uniM l.length P (F.take k)=cur at *
   generalize prAt P (at0 F k)=q at *
   simp only[Pq.c]at lp
   simp only[x3d]
   unfold x95 xhn
   simp[hfl,hk',hg,ix,ld,ip,lp,xv3,hap]
   simp[tR,xsm,disj]
   generalize hm1:Mem.set _ _ _=m1
   have g1:m1.get (u,0,2)=some (.row [s,p] 0 false):=by rw[<-hm1];simp[hg]
   have g8:m1.get (u,fc+4+8,8)=some (.row [I q.a,I q.b] 0 false):=by rw[<-hm1];simp
   have hj1:m1.next=u+1/\Oth u m0 m1:=by
    refine⟨by rw[<-hm1];exact hn,λj hj2=>?_⟩
    rw[<-hm1,Mem.get_set,x1g6 (by rintro rfl;exact hj2 rfl),Mem.get_new,x1g6 (by rintro rfl;exact hj2 rfl)]
    exact hj j hj2
   have hG1:Gk 1 intE (okU7 u 22) m1 a cur:=hG.frame λj hj=>by
    obtain⟨h1,h2⟩:=hj
    rw[<-hm1,Mem.get_set,x1g6,Mem.get_new,x1g6]<;>(rintro rfl;simp at h2)
   obtain⟨c1,i1,l1,-⟩:=hG1.at (k:=q.a) (by omega) (by omega)
   obtain⟨c2,i2,l2,-⟩:=hG1.at (k:=q.b) (by omega) (by omega)
   simp[g8,i1,l1,i2,l2]
   refine l_rjoin1 d u hh (f:=f) (s:=s) (p:=p) (a:=a) (l:=cur) (q:=q) (I ((k:Int)+1)) (x3d (xsi d) hh u n) (λr=>∃a m',r=some (a,m')/\Gk 1 intE (okU7 u 22) m' a (uniM l.length P F)/\(m'.next=u+1/\Oth u m0 m')) (by omega) (m0:=m1) (λm fc h1 h2 h3=>?_) (I k) (by simp(disch:=omega) [xso]) NN 0 () m1 _ (by omega) (by rw[xsu];omega) ⟨by simpa using hG1,g1,rfl,λ_ _=>rfl⟩
   exact next () m fc ⟨h2,by rw[hus];exact h1,by rw[h3.1];exact hj1.1,λj hj2=>by rw[h3.2 j hj2];exact hj1.2 j hj2⟩
  .rintro n-m fc ⟨hg,hG,hn,hj⟩
   have hk:¬((F.length:Int)<(F.length:Int)):=by omega
   rw[x1gg (x1ga _)]at hG
   simp only[x3d]
   unfold x95 xhk
   simp[hfl]
   exact⟨a,m,⟨rfl,rfl⟩,hG,hn,hj⟩
theorem a_joined(d:Nat){s p f:AV}{l:List Scene}{P:List Pq}{F:List Int}(hs:Sl Scene.c s l)(hp:Sl Pq.c p P)(hf:Ints f F)(hR:Rng l.length P F)(hl:l.length<=60)(hF:F.length<=1000) :
 RetF (λv=>Ints v (uniM l.length P F)) (xsi (d+1) [] x15 [.agg [s,p],f] mem0):=by
 obtain⟨a,m',h1,h2,-⟩:=x18h d [] (m0:=mem0) hs hp (hf.len xt8) (λm _ k hk=>⟨_,hf.ix xt2 hk,xte hk,λ_ _=>rfl⟩) hR hl hF
 obtain⟨a',h3,h4⟩:=h2.sl1 4
 rw[h1]
 exact RetF.mk h4 h3
theorem w_joined(d:Nat){s p f:AV}{l:List Scene}{P:List Pq}{F:List Int}(hs:Sl Scene.c s l)(hp:Sl Pq.c p P)(hf:Ints f F)(hR:Rng l.length P F)(hl:l.length<=60)(hF:F.length<=1000)(m:Mem) :
 ∃a,Ints a (uniM l.length P F)/\xsl (xsi (d+1)) x15 [.agg [s,p],f] m=some (a,m):=
 xu6 (by simp[hs.still1,hp.still1,hf.still]) (a_joined d hs hp hf hR hl hF) m
structure Right7 (l:List Scene) (P:List Pq):Prop where
 ll:l.length<=60
 ib:InB l
 pl:P.length<=200
 pr:∀p∈P,PqIn l.length p
 nd:P.Nodup
theorem x18i{n:Int}{P:List Pq}:∀(suf:List Pq) (k:Nat),P.drop k=suf->(xx5 n P k suf).2=0->(∀p∈suf,(0<=p.a/\p.a<p.b)/\p.b<n)/\((P.take k).Nodup->P.Nodup)
 |[],k,hd,_=>⟨λp hp=>(by cases hp),λh=>by
  have:P.length<=k:=x1ha.mp hd
  rwa[x1gg this]at h⟩
 |x::r,k,hd,h=>by
  obtain⟨hk,he,hd⟩:=xul hd
  simp only[xx5]at h
  cases c1:wi x.a 0 (n-1)with
  |false=>simp[c1]at h
  |true=>
   cases c2:wi x.b 0 (n-1)with
   |false=>simp[c1,c2]at h
   |true=>
    by_cases c3:x.b<=x.a
    .simp[c1,c2,c3]at h
    .cases c4:(P.take k).any λq=>q.same x with
     |true=>simp[c1,c2,c3,c4]at h
     |false=>
      simp[c1,c2,c3,c4]at h
      obtain⟨i1,i2⟩:=x18i r (k+1) hd h
      refine⟨λp hp=>?_,λhn=>i2 ?_⟩
      .have:=wi_t c1
       have:=wi_t c2
       rcases x1gn.mp hp with rfl|hp
       .omega
       .exact i1 p hp
      .rw[x1gz hk,x1io]
       refine⟨hn,by simp,λa ha b hb e=>?_⟩
       simp at hb
       rw[x1ir]at c4
       have:=c4 a ha
       rw[e,hb,he,Pq.same_self]at this
       exact this rfl
theorem x116{l:List Scene}{P:List Pq}(h:(net7 l P).2=0):Right7 l P:=by
 unfold net7 at h
 by_cases he:(xv2 l).2=0
 .obtain⟨hl,hb⟩:=x14a he
  simp[he]at h
  by_cases h2:200<P.length
  .simp[h2]at h
  .simp[h2]at h
   obtain⟨i1,i2⟩:=x18i P 0 rfl h
   exact⟨hl,hb,by omega,λp hp=>by have:=i1 p hp;exact⟨by omega,by omega,by omega⟩,i2 (by simp)⟩
 .simp[he]at h
theorem Right7.at{l:List Scene}{P:List Pq}(h:Right7 l P){i:Int}(hi:0<=i/\i<P.length):PqIn l.length (prAt P i):=x100 h.pr hi
def forE(n:Nat)(P:List Pq)(F:List Int):Nat->List Int->Int
 |_,[]=>0
 |k,i::r=>
  bif !(wi i 0 ((P.length:Int)-1))then 6
  else bif decide (0<k)&&decide (i<=at0 F (k-1))then 9
  else bif decide (at0 (uniM n P (F.take k)) (prAt P i).a.toNat=at0 (uniM n P (F.take k)) (prAt P i).b.toNat)then 21
  else forE n P F (k+1) r
def xz5(n:Nat)(P:List Pq)(F:List Int):Bool:=P.any λp=>!decide (at0 (uniM n P F) p.a.toNat=at0 (uniM n P F) p.b.toNat)
def xwq(n:Nat)(P:List Pq)(F:List Int):Int:=bif !decide (forE n P F 0 F=0)then forE n P F 0 F else bif xz5 n P F then 25 else 0
def fiP(l:List Pq)(q:Pq->Bool):Int:=if l.any q then((l.findIdx q:Nat):Int)else -1
theorem fiP_hit{l:List Pq}{q:Pq->Bool}{k:Nat}(hk:k<l.length)(ht:q l[k]=true)(hI:∀j (hj:j<k) (hjl:j<l.length),q l[j]=false):fiP l q=k:=by
 have h1:l.any q=true:=x1k6.mpr ⟨_,x1go hk,ht⟩
 have h2:l.findIdx q=k:=by
  rw[List.findIdx_eq hk]
  exact⟨ht,λj hj=>by have:=hI j hj (by omega);simpa using this⟩
 unfold fiP
 rw[x1g7 h1,h2]
theorem fiP_none{l:List Pq}{q:Pq->Bool}(hI:∀j (hj:j<l.length),q l[j]=false):fiP l q=-1:=by
 have h1:l.any q=false:=by
  rw[x1ir]
  intro x hx
  obtain⟨j,hj,rfl⟩:=x1is.mp hx
  rw[hI j hj];simp
 unfold fiP
 rw[h1];rfl
theorem fiP_any{l:List Pq}{q:Pq->Bool}:decide (0<=fiP l q)=l.any q:=by
 unfold fiP
 cases h:l.any q<;>simp
theorem x1c2(d:Nat){a:AV}{l:List Pq}{f:FuncId}{caps:List AV}{q:Pq->Bool}(h:Sl Pq.c a l)(hl:l.length<1000000)(hq:∀x∈l,∀hs m,∃m',xsi (d+1) hs f (.agg x.c::caps) m=some (B (q x),m'))(hc:still (.clo f caps)=true) :
 ∃m',xsi (d+3) [] x2g [a,.clo f caps] mem0=some (B (l.any q),m'):=by
 obtain⟨m',h'⟩:∃m',xsi (d+2) [] x4g [a,.clo f caps] mem0=some (I (fiP l q),m'):=by
  rw[xng]
  unfold xey xag xit
  simp only[mem0,h.len xu7,xsn]
  refine xtd (N:=l.length) (σ:=Unit) (λn k _ m fc=>x5y (xsi (d+1)) [] 0 n a (.clo f caps) (I l.length) (I k) m fc) (λk _ m=>∀j (hj:j<k) (hjl:j<l.length),q l[j]=false)
   (λr=>∃m',r=some (I (fiP l q),m')) ?_ ?_ NN 0 () _ _ (by omega) (by rw[xsu];omega) (λj hj=>by omega)
  .rintro n k-m fc hk hI next
   have hk':(k:Int)<(l.length:Int):=by omega
   have ix:=h.ix Pq.len hk
   have ld:=xtz (m:=m) Pq.len (by omega) hk
   obtain⟨m1,hc⟩:=hq l[k] (x1go hk) [] m
   have hinv:xu2 (xsi (d+1)) [] 2 (.clo f caps) [.agg l[k].c] m=some (B (q l[k]),m1):=hc
   simp only[x5y]
   unfold xaf
   simp only[xta,hk',x1gm,xt9,xsn,ix,ld,hinv]
   cases ht:q l[k]with
   |true=>
    rw[fiP_hit hk ht hI]
    simp
   |false=>
    simp(disch:=omega) [xso]
    refine next () m1 _ λj hj hjl=>?_
    by_cases e:j=k
    .subst e;exact ht
    .exact hI j (by omega) hjl
  .rintro n-m fc hI
   have hk:¬((l.length:Int)<(l.length:Int)):=by omega
   rw[fiP_none λj hj=>hI j hj hj]
   simp only[x5y]
   unfold xaf xis
   simp
 have hc:=λm:Mem=>call0 (m:=m) (call:=xsi (d+2)) (l:=[a,.clo f caps]) (by simp only[x1h4,x1hn,h.still,hc,x1hq,x1if]) h' rfl
 rw[xmo]
 unfold xe7 x8z
 rw[<-fiP_any]
 simp[hc,mem0]
theorem a_apartPq(d:Nat){a:AV}{U:List Int}(ha:Ints a U){x:Pq}(hx:PqIn U.length x)(hs:FHs)(m:Mem):∃m',xsi (d+1) hs x1i [.agg x.c,.plit [a]] m=some (B (!decide (at0 U x.a.toNat=at0 U x.b.toNat)),m'):=by
 obtain⟨h0,h1,h2⟩:=hx
 have i1:=ha.ixI xt2 (k:=x.a) h0 (by omega)
 have i2:=ha.ixI xt2 (k:=x.b) (by omega) h2
 have l1:=λm=>xte (m:=m) (show x.a.toNat<U.length by omega)
 have l2:=λm=>xte (m:=m) (show x.b.toNat<U.length by omega)
 rw[xmp]
 unfold xe8 x90
 simp[Pq.c,i1,i2,l1,l2]
end Go.Ix
namespace Go.Ix
variable{P:List Pq}{n:Nat}
def sumW(ph:Int->Int):List Sp->Int
 |[]=>0
 |x::r=>x.s*ph x.p+sumW ph r
theorem x18j(ph:Int->Int):∀v w:List Sp,sumW ph (v++w)=sumW ph v+sumW ph w
 |[],w=>by simp[sumW]
 |x::r,w=>by rw[x1i0,sumW,sumW,x18j ph r w];omega
def PotS(P:List Pq)(F:List Int)(ph φ:Int->Int):Prop:=∀i∈F,φ (prAt P i).b-φ (prAt P i).a=ph i
theorem PotS.step{F:List Int}{ph φ:Int->Int}(h:PotS P F ph φ){x:Sp}(hx:InF F x):x.s*ph x.p=φ (toS P x)-φ (frS P x):=by
 have:=h x.p hx.1
 unfold toS frS
 rcases hx.2 with e|e<;>rw[e]<;>simp<;>omega
theorem PotS.walk{F:List Int}{ph φ:Int->Int}(h:PotS P F ph φ):∀{w:List Sp} {a b:Int},Wk P w a b->AllF F w->sumW ph w=φ b-φ a
 |[],a,b,hw,_=>by cases hw;simp[sumW]
 |x::r,a,b,hw,hF=>by
  rw[sumW,h.step hF.head,h.walk hw.2 hF.tail,<-hw.1]
  omega
theorem pot_ex(hP:∀p∈P,PqIn n p)(ph:Int->Int):∀(k:Nat) (F:List Int),F.length=k->For n P F->∃φ,PotS P F ph φ:=by
 intro k
 induction k with
 |zero=>intro F hl _;exact⟨λ_=>0,λi hi=>by rw[x1hv.mp hl]at hi;cases hi⟩
 |succ k ih=>
  intro F hl h
  obtain⟨G,q,rfl⟩:∃G q,F=G++[q]:=by
   have hne:F≠[]:=by rintro rfl;simp at hl
   exact⟨F.dropLast,F.getLast hne,(x1lg hne).symm⟩
  have hG:=h.take
  obtain⟨φ,hφ⟩:=ih G (by simpa using hl) hG
  obtain⟨u,hu⟩:∃u,u=joinsM (freshM n) (prs P G):=⟨_,rfl⟩
  have hind:=h.ind
  unfold prs at hind
  rw[x1hr]at hind
  have hne:¬Sm u (prAt P q).a.toNat (prAt P q).b.toNat:=by
   have:=(Indep.app.mp hind).2
   rw[show List.map (prAt P) [q]=[prAt P q]from rfl]at this
   rw[hu]
   exact this.1
  have hends:∀j∈G,Sm u (prAt P j).a.toNat (prAt P j).b.toNat:=λj hj=>by
   rw[hu]
   exact xxo (Lab.fresh n) (xv4 hP hG.rng) _ (x1gs.mpr ⟨j,hj,rfl⟩)
  unfold Sm at hne hends
  refine⟨λv=>φ v+(if at0 u v.toNat=at0 u (prAt P q).b.toNat then ph q-(φ (prAt P q).b-φ (prAt P q).a)else 0),λi hi=>?_⟩
  rcases x1h2.mp hi with hi|hi
  .have h1:=hφ i hi
   have h2:=hends i hi
   simp only
   rw[h2]
   omega
  .simp at hi;subst hi
   simp only
   rw[x1g7 trivial,x1g6 hne]
   omega
structure Pot (n:Nat) (P:List Pq) (F:List Int) (ph φ:Int->Int):Prop where
 st:PotS P F ph φ
 z:∀v,v<n->at0 (joinsM (freshM n) (prs P F)) v=v->φ v=0
theorem pot_some(hP:∀p∈P,PqIn n p)(ph:Int->Int){F:List Int}(h:For n P F):∃φ,Pot n P F ph φ:=by
 obtain⟨φ,hφ⟩:=pot_ex hP ph F.length F rfl h
 refine⟨λv=>φ v-φ (at0 (joinsM (freshM n) (prs P F)) v.toNat),λi hi=>?_,λv hv e=>?_⟩
 .have h1:=hφ i hi
  have h2:=xxo (Lab.fresh n) (xv4 hP h.rng) (prAt P i) (x1gs.mpr ⟨i,hi,rfl⟩)
  unfold Sm at h2
  rw[h2]
  omega
 .show φ v-φ (at0 (joinsM (freshM n) (prs P F)) (v:Int).toNat)=0
  rw[x1gb,e]
  omega
open Classical in
noncomputable def potM(n:Nat)(P:List Pq)(F:List Int)(ph:Int->Int):Int->Int:=if h:∃φ,Pot n P F ph φ then Classical.choose h else λ_=>0
theorem x14w(hP:∀p∈P,PqIn n p)(ph:Int->Int){F:List Int}(h:For n P F):Pot n P F ph (potM n P F ph):=by
 have:=pot_some hP ph h
 unfold potM
 rw[dif_pos this]
 exact Classical.choose_spec this
theorem x18k{ph:Int->Int}{M:Nat}{F:List Int}(hM:∀i∈F,(ph i).natAbs<=M):∀{w:List Sp},AllF F w->(sumW ph w).natAbs<=w.length*M
 |[],_=>by simp[sumW]
 |x::r,h=>by
  have ih:=x18k hM h.tail
  have h1:=hM x.p h.head.1
  have h2:(x.s*ph x.p).natAbs=(ph x.p).natAbs:=by
   rcases h.head.2 with e|e<;>rw[e]<;>simp
  rw[sumW,x1gq,x1hb]
  omega
theorem Pot.abs(hP:∀p∈P,PqIn n p){ph φ:Int->Int}{F:List Int}(hF:For n P F)(h:Pot n P F ph φ){M:Nat}(hM:∀i∈F,(ph i).natAbs<=M){v:Nat}(hv:v<n):(φ v).natAbs<=n*M:=by
 have hL:=(Lab.fresh n).joins (xv4 hP hF.rng)
 obtain⟨l0,l1,l2⟩:=hL.ok v hv
 obtain⟨w,hw,hwF⟩:=x12f hP hF.rng (v:=(at0 (joinsM (freshM n) (prs P F)) v).toNat) (w:=v) (by omega) hv (by unfold Sm;exact l2)
 obtain⟨w2,hw2,hwF2,hN⟩:=nb_of hw hwF
 have hlen:=xzy (hF.cut hP) hw2 hwF2 hN
 have hlF:=hF.len hP
 have hs:=h.st.walk hw2 hwF2
 have hz:=h.z (at0 (joinsM (freshM n) (prs P F)) v).toNat (by omega) (by rw[l2];omega)
 rw[hz]at hs
 have ha:=x18k hM hwF2
 have:w2.length*M<=n*M:=x1i1 M (by omega)
 omega
structure RSt where
 y:List Sp
 k:List Bool
def byA(l:List Sp)(i:Int):Sp:=l.getD i.toNat ⟨0,0⟩
def boA(l:List Bool)(i:Int):Bool:=l.getD i.toNat false
def xvn(P:List Pq)(st:RSt)(x:Sp):RSt:=if boA st.k (frS P x)&&!(boA st.k (toS P x))then⟨st.y.set (toS P x).toNat x,st.k.set (toS P x).toNat true⟩else st
def xyd(F:List Int):List Sp:=F.flatMap λi=>[⟨i,-1⟩,⟨i,1⟩]
theorem mem_rstepsOf{F:List Int}{x:Sp}:x∈xyd F↔InF F x:=by
 unfold xyd InF
 rw[x1hj]
 constructor
 .rintro⟨i,hi,hx⟩
  simp only[x1gn,x1ju,or_false]at hx
  rcases hx with rfl|rfl
  .exact⟨hi,Or.inr rfl⟩
  .exact⟨hi,Or.inl rfl⟩
 .rintro⟨h1,h2⟩
  refine⟨x.p,h1,?_⟩
  cases x
  rcases h2 with e|e<;>simp at e<;>subst e<;>simp
def x12i(P:List Pq)(F:List Int)(st:RSt):RSt:=(xyd F).foldl (xvn P) st
def xye(P:List Pq)(F:List Int):Nat->RSt->RSt
 |0,st=>st
 |k+1,st=>xye P F k (x12i P F st)
def Bw(P:List Pq)(F:List Int)(st:RSt)(fr:Int):List Sp->Int->Prop
 |[],v=>boA st.k v=true/\v=fr
 |x::r,v=>boA st.k v=true/\v≠fr/\byA st.y v=x/\toS P x=v/\InF F x/\Bw P F st fr r (frS P x)
theorem Bw.one{F:List Int}{st:RSt}{fr:Int}:∀{r s:List Sp} {v:Int},Bw P F st fr r v->Bw P F st fr s v->r=s
 |[],[],_,_,_=>rfl
 |[],x::s,_,h,k=>absurd h.2 k.2.1
 |x::r,[],_,h,k=>absurd k.2 h.2.1
 |x::r,y::s,v,h,k=>by
  have e:x=y:=h.2.2.1.symm.trans k.2.2.1
  subst e
  rw[Bw.one h.2.2.2.2.2 k.2.2.2.2.2]
theorem Bw.walk{F:List Int}{st:RSt}{fr:Int}:∀{r:List Sp} {v:Int},Bw P F st fr r v->Wk P r.reverse fr v/\AllF F r.reverse
 |[],v,h=>⟨h.2.symm,λx hx=>by cases hx⟩
 |x::r,v,h=>by
  obtain⟨i1,i2⟩:=h.2.2.2.2.2.walk
  rw[x1ka]
  refine⟨i1.app ⟨rfl,h.2.2.2.1⟩,i2.app λy hy=>?_⟩
  simp at hy
  subst hy
  exact h.2.2.2.2.1
theorem Bw.drop{F:List Int}{st:RSt}{fr:Int}:∀{a b:List Sp} {v:Int},Bw P F st fr (a++b) v->∃w,Bw P F st fr b w
 |[],b,v,h=>⟨v,h⟩
 |x::a,b,v,h=>Bw.drop (a:=a) h.2.2.2.2.2
theorem x18l:∀{w:List Sp} {x:Sp},NB P w->(∀y,w.getLast?=some y->toS P x≠frS P y)->NB P (w++[x])
 |[],_,_,_=>trivial
 |[y],x,_,h=>⟨h y rfl,trivial⟩
 |y::z::r,x,h,hx=>⟨h.1,x18l (w:=z::r) h.2 λq hq=>hx q (by simpa using hq)⟩
theorem Bw.nb{F:List Int}{st:RSt}{fr:Int}:∀{r:List Sp} {v:Int},Bw P F st fr r v->NB P r.reverse
 |[],_,_=>trivial
 |[x],_,_=>trivial
 |x::y::r,v,h=>by
  have h1:=h.2.2.2.2.2
  have ih:=h1.nb
  rw[x1ka]
  refine x18l ih λz hz e=>?_
  rw[x1ka]at hz
  simp at hz
  subst hz
  have h2:=h1.2.2.2.2.2
  rw[<-e,h.2.2.2.1]at h2
  have:=congrArg List.length (h2.one h)
  simp only[x1gq]at this
  omega
structure RInv7 (n:Nat) (P:List Pq) (F:List Int) (f0:Int) (st:RSt):Prop where
 y:st.y.length=n
 k:st.k.length=n
 fr:boA st.k f0=true
 bw:∀v:Int,0<=v->v<n->boA st.k v=true->∃r,Bw P F st f0 r v
theorem xz6{l:List Bool}{b v:Int}(h0:0<=b)(hb:b<l.length)(hv:0<=v):boA (l.set b.toNat true) v=if v=b then true else boA l v:=by
 unfold boA
 rw[x1gk,x1gk,x1jd]
 by_cases c:v=b
 .rw[x1g7 c,c,x1g7 rfl,x1g7 (by omega)];rfl
 .rw[x1g6 c,x1g6 (by omega)]
theorem byA_set{l:List Sp}{b v:Int}{x:Sp}(h0:0<=b)(hb:b<l.length)(hv:0<=v):byA (l.set b.toNat x) v=if v=b then x else byA l v:=by
 unfold byA
 rw[x1gk,x1gk,x1jd]
 by_cases c:v=b
 .rw[x1g7 c,c,x1g7 rfl,x1g7 (by omega)];rfl
 .rw[x1g6 c,x1g6 (by omega)]
theorem xvg(hP:∀p∈P,PqIn n p){F:List Int}(hr:∀i∈F,0<=i/\i<P.length){x:Sp}(hx:InF F x):(0<=frS P x/\frS P x<n)/\0<=toS P x/\toS P x<n:=by
 obtain⟨h0,h1,h2⟩:=x100 hP (hr x.p hx.1)
 unfold frS toS
 split<;>omega
theorem Bw.set(hP:∀p∈P,PqIn n p){F:List Int}(hr:∀i∈F,0<=i/\i<P.length){st:RSt}{fr b:Int}{x:Sp}(hy:st.y.length=n)(hk:st.k.length=n)(h0:0<=b)(hb:b<n)(hu:boA st.k b=false):∀{r:List Sp} {v:Int},0<=v->Bw P F st fr r v ->
 Bw P F ⟨st.y.set b.toNat x,st.k.set b.toNat true⟩ fr r v
 |[],v,hv,h=>by
  refine⟨?_,h.2⟩
  simp only
  rw[xz6 h0 (by omega) hv]
  split
  .rfl
  .exact h.1
 |y::r,v,hv,h=>by
  have hne:v≠b:=by rintro rfl;have:=h.1;rw[hu]at this;cases this
  refine⟨?_,h.2.1,?_,h.2.2.2.1,h.2.2.2.2.1,Bw.set hP hr hy hk h0 hb hu (xvg hP hr h.2.2.2.2.1).1.1 h.2.2.2.2.2⟩
  .simp only
   rw[xz6 h0 (by omega) hv,x1g6 hne];exact h.1
  .simp only
   rw[byA_set h0 (by omega) hv,x1g6 hne];exact h.2.2.1
theorem RInv7.step(hP:∀p∈P,PqIn n p){F:List Int}(hr:∀i∈F,0<=i/\i<P.length){fr:Int}(hfr:0<=fr){st:RSt}(h:RInv7 n P F fr st){x:Sp}(hx:InF F x) :
 RInv7 n P F fr (xvn P st x)/\(∀v,0<=v->boA st.k v=true->boA (xvn P st x).k v=true)/\(boA st.k (frS P x)=true->boA (xvn P st x).k (toS P x)=true):=by
 obtain⟨⟨a0,a1⟩,b0,b1⟩:=xvg hP hr hx
 unfold xvn
 cases ca:boA st.k (frS P x)with
 |false=>simp;exact h
 |true=>
  cases cb:boA st.k (toS P x)with
  |true=>simp;exact⟨h,cb⟩
  |false=>
   simp only[x1ht,x1hp,x1gp]
   have hmono:∀v,0<=v->boA st.k v=true->boA (st.k.set (toS P x).toNat true) v=true:=λv hv hs=>by
    rw[xz6 b0 (by rw[h.k];exact b1) hv]
    split
    .rfl
    .exact hs
   have hnew:boA (st.k.set (toS P x).toNat true) (toS P x)=true:=by rw[xz6 b0 (by rw[h.k];exact b1) b0,x1g7 rfl]
   refine⟨⟨by simp[h.y],by simp[h.k],hmono fr hfr h.fr,λv v0 v1 hs=>?_⟩,hmono,λ_=>hnew⟩
   simp only at hs
   rw[xz6 b0 (by rw[h.k];exact b1) v0]at hs
   by_cases c:v=toS P x
   .obtain⟨r,hb⟩:=h.bw (frS P x) a0 a1 ca
    refine⟨x::r,?_,?_,?_,c.symm,hx,Bw.set hP hr h.y h.k b0 b1 cb a0 hb⟩
    .rw[c];exact hnew
    .intro e;have:=h.fr;rw[<-e,c,cb]at this;cases this
    .simp only
     rw[byA_set b0 (by rw[h.y];exact b1) v0,x1g7 c]
   .rw[x1g6 c]at hs
    obtain⟨r,hb⟩:=h.bw v v0 v1 hs
    exact⟨r,Bw.set hP hr h.y h.k b0 b1 cb v0 hb⟩
theorem RInv7.steps(hP:∀p∈P,PqIn n p){F:List Int}(hr:∀i∈F,0<=i/\i<P.length){fr:Int}(hfr:0<=fr):∀{l:List Sp} {st:RSt},RInv7 n P F fr st->(∀x∈l,InF F x) ->
 RInv7 n P F fr (l.foldl (xvn P) st)/\(∀v,0<=v->boA st.k v=true->boA (l.foldl (xvn P) st).k v=true)/\(∀x∈l,boA st.k (frS P x)=true->boA (l.foldl (xvn P) st).k (toS P x)=true)
 |[],st,h,_=>⟨h,λ_ _ h=>h,λx hx=>by cases hx⟩
 |x::l,st,h,hl=>by
  have hx:=hl x (x1gf ..)
  obtain⟨i1,i2,i3⟩:=h.step hP hr hfr hx
  obtain⟨j1,j2,j3⟩:=RInv7.steps hP hr hfr (l:=l) i1 λy hy=>hl y (x1ge _ hy)
  rw[x1ic]
  refine⟨j1,λv hv hs=>j2 v hv (i2 v hv hs),λy hy hs=>?_⟩
  rcases x1gn.mp hy with rfl|hy
  .exact j2 _ (xvg hP hr hx).2.1 (i3 hs)
  .exact j3 y hy (i2 _ (xvg hP hr (hl y (x1ge _ hy))).1.1 hs)
theorem RInv7.rounds(hP:∀p∈P,PqIn n p){F:List Int}(hr:∀i∈F,0<=i/\i<P.length){fr:Int}(hfr:0<=fr):∀{k:Nat} {st:RSt},RInv7 n P F fr st ->
 RInv7 n P F fr (xye P F k st)/\∀(w:List Sp) (a b:Int),0<=a->boA st.k a=true->Wk P w a b->AllF F w->w.length<=k->boA (xye P F k st).k b=true
 |0,st,h=>⟨h,λw a b ha hs hw hF hl=>by
  have:=x1hv.mp (Nat.le_zero.mp hl)
  subst this
  cases hw
  exact hs⟩
 |k+1,st,h=>by
  obtain⟨i1,i2,i3⟩:=h.steps hP hr hfr (l:=xyd F) λx hx=>mem_rstepsOf.mp hx
  obtain⟨j1,j2⟩:=RInv7.rounds hP hr hfr (k:=k) i1
  refine⟨j1,λw a b ha hs hw hF hl=>?_⟩
  cases w with
  |nil=>cases hw;exact j2 [] a a ha (i2 a ha hs) rfl (λx hx=>by cases hx) (x1jl _)
  |cons x w=>
   refine j2 w (toS P x) b (xvg hP hr hF.head).2.1 (i3 x (mem_rstepsOf.mpr hF.head) (by rw[hw.1];exact hs)) hw.2 hF.tail (by simp at hl;omega)
def r0(n:Nat)(fr:Int):RSt:=⟨List.replicate n ⟨0,0⟩,(List.replicate n false).set fr.toNat true⟩
theorem r0_ok{F:List Int}{fr:Int}(h0:0<=fr)(h1:fr<n):RInv7 n P F fr (r0 n fr):=by
 have hb:∀v:Int,boA (List.replicate n false) v=false:=λv=>by
  unfold boA
  rw[x1gk,x1jw]
  split<;>rfl
 have hs:∀v:Int,0<=v->boA (r0 n fr).k v=if v=fr then true else false:=λv hv=>by
  unfold r0
  simp only
  rw[xz6 h0 (by simpa using h1) hv,hb]
 refine⟨by simp[r0],by simp[r0],by rw[hs fr h0,x1g7 rfl],λv v0 v1 h=>⟨[],?_,?_⟩⟩
 .exact h
 .rw[hs v v0]at h
  exact Classical.byContradiction λhc=>by rw[x1g6 hc]at h;cases h
theorem rway_ok(hP:∀p∈P,PqIn n p){F:List Int}(hF:For n P F){fr b:Int}(h0:0<=fr)(h1:fr<n)(b0:0<=b)(b1:b<n){w:List Sp}(hw:Wk P w fr b)(hwF:AllF F w)(hN:NB P w):Bw P F (xye P F n (r0 n fr)) fr w.reverse b:=by
 obtain⟨j1,j2⟩:=(r0_ok (P:=P) (F:=F) h0 h1).rounds hP hF.rng h0 (k:=n)
 have hl:=xzy (hF.cut hP) hw hwF hN
 have hl2:=hF.len hP
 have hs:=j2 w fr b h0 (r0_ok (P:=P) (F:=F) h0 h1).fr hw hwF (by omega)
 obtain⟨r,hr⟩:=j1.bw b b0 b1 hs
 obtain⟨e1,e2⟩:=hr.walk
 have:=x17v (hF.cut hP) hw e1 hwF e2 hN hr.nb
 rw[this,List.reverse_reverse]
 exact hr
end Go.Ix
