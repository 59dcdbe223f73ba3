import Derived.Test.YtjdlceelbnaneaaM7Kru
import Derived.Test.YtjdlceelbnaneaaWg10
import Derived.Test.YtjdlceelbnaneaaM7Uni
import Derived.Test.YtjdlceelbnaneaaWg7
set_option linter.unusedSimpArgs false
set_option linter.unusedVariables false
namespace Go.Ix
def bubM(lt:Int->Int->Bool):Nat->List Int->List Int
 |0,L=>L
 |j+1,L=>if lt (at0 L (j+1)) (at0 L j)=true then bubM lt j ((L.set (j+1) (at0 L j)).set j (at0 L (j+1)))else L
theorem bub_len(lt:Int->Int->Bool):∀(j:Nat) (L:List Int),(bubM lt j L).length=L.length
 |0,_=>rfl
 |j+1,L=>by
  rw[bubM]
  split
  .rw[bub_len lt j];simp
  .rfl
theorem bub_ok{R:Int->Int->Prop}(ht:∀{a b c},R a b->R b c->R a c){lt:Int->Int->Bool}{x:Int}:∀(A B:List Int),A.Pairwise R->(∀v∈A,(lt x v=true->R x v)/\(lt x v=false->R v x)) ->
 ∃C,bubM lt A.length (A++x::B)=C++B/\C.Pairwise R/\C.Perm (A++[x]):=by
 intro A
 generalize hn:A.length=n
 induction n generalizing A with
 |zero=>
  intro B _ _
  have:=xki.mp hn
  subst this
  exact⟨[x],rfl,by simp,xkz _⟩
 |succ n ih=>
  intro B hA hx
  obtain⟨A',y,rfl⟩:∃A' y,A=A'++[y]:=by
   have hne:A≠[]:=by rintro rfl;simp at hn
   exact⟨A.dropLast,A.getLast hne,(xls hne).symm⟩
  have hn':A'.length=n:=by simpa using hn
  have e0:A'++[y]++x::B=A'++y::x::B:=by simp
  have g1:at0 (A'++y::x::B) (n+1)=x:=by
   rw[x7i (by simp;omega),xlt (by omega)]
   simp[hn']
  have g0:at0 (A'++y::x::B) n=y:=by
   rw[x7i (by simp;omega),xlt (by omega)]
   simp[hn']
  have hs:((A'++y::x::B).set (n+1) y).set n x=A'++x::y::B:=by
   rw[List.set_append_right _ _ (by omega),List.set_append_right _ _ (by omega)]
   simp[hn']
  rw[xka]at hA
  obtain⟨c1,c2⟩:=hx y (by simp)
  rw[e0,bubM,g1,g0,hs]
  by_cases c:lt x y=true
  .rw[xi5 c]
   obtain⟨C,h1,h2,h3⟩:=ih A' hn' (y::B) hA.1 λv hv=>hx v (by simp[hv])
   refine⟨C++[y],by rw[h1];simp,?_,?_⟩
   .rw[xka]
    refine⟨h2,by simp,λa ha b hb=>?_⟩
    simp at hb
    subst hb
    rcases xj2.mp (h3.mem_iff.mp ha)with ha|ha
    .exact hA.2.2 a ha b (by simp)
    .simp at ha;subst ha;exact c1 c
   .refine(h3.append_right [y]).trans ?_
    rw[xkk,xkk]
    exact List.Perm.append_left A' (List.Perm.swap y x [])
  .rw[xi6 c]
   have c':lt x y=false:=by simpa using c
   refine⟨A'++[y]++[x],by simp,?_,xkz _⟩
   rw[xka]
   refine⟨xka.mpr hA,by simp,λa ha b hb=>?_⟩
   simp at hb
   subst hb
   rcases xj2.mp ha with ha|ha
   .exact ht (hA.2.2 a ha y (by simp)) (c2 c')
   .simp at ha;subst ha;exact c2 c'
def isoM(lt:Int->Int->Bool)(k:Nat)(L:List Int):List Int:=(List.range' 1 k).foldl (λL i=>bubM lt i L) L
theorem xdh(lt:Int->Int->Bool)(k:Nat)(L:List Int):isoM lt (k+1) L=bubM lt (k+1) (isoM lt k L):=by
 unfold isoM
 rw[List.range'_concat,List.foldl_append]
 simp[Nat.add_comm]
theorem iso_len(lt:Int->Int->Bool)(k:Nat)(L:List Int):(isoM lt k L).length=L.length:=by
 induction k with
 |zero=>rfl
 |succ k ih=>rw[xdh,bub_len,ih]
theorem iso_ok{R:Int->Int->Prop}(ht:∀{a b c},R a b->R b c->R a c){lt:Int->Int->Bool}{L:List Int}(h:∀(i:Nat) (hi:i<L.length),∀v∈L.take i,(lt L[i] v=true->R L[i] v)/\(lt L[i] v=false->R v L[i])) :
 ∀k,k<L.length->∃C,isoM lt k L=C++L.drop (k+1)/\C.Pairwise R/\C.Perm (L.take (k+1)):=by
 intro k
 induction k with
 |zero=>
  intro hk
  refine⟨L.take 1,?_,?_,xkz _⟩
  .exact(xln 1 L).symm
  .cases L with
   |nil=>simp
   |cons a l=>simp
 |succ k ih=>
  intro hk
  obtain⟨C,h1,h2,h3⟩:=ih (by omega)
  have hlen:C.length=k+1:=by rw[h3.length_eq];simp;omega
  rw[xdh,h1,x8t hk]
  obtain⟨D,d1,d2,d3⟩:=bub_ok (R:=R) ht (lt:=lt) (x:=L[k+1]) C (L.drop (k+1+1)) h2 λv hv=>h (k+1) hk v (h3.mem_iff.mp hv)
  rw[hlen]at d1
  refine⟨D,d1,d2,d3.trans ?_⟩
  rw[xlo hk]
  exact h3.append_right _
theorem iso_all{R:Int->Int->Prop}(ht:∀{a b c},R a b->R b c->R a c){lt:Int->Int->Bool}{L:List Int}(h:∀(i:Nat) (hi:i<L.length),∀v∈L.take i,(lt L[i] v=true->R L[i] v)/\(lt L[i] v=false->R v L[i])) :
 (isoM lt (L.length-1) L).Pairwise R/\(isoM lt (L.length-1) L).Perm L:=by
 by_cases h0:L.length=0
 .have:=xki.mp h0
  subst this
  exact⟨List.Pairwise.nil,xkz _⟩
 .obtain⟨C,h1,h2,h3⟩:=iso_ok (R:=R) (lt:=lt) (L:=L) ht h (L.length-1) (by omega)
  have e:L.length-1+1=L.length:=by omega
  rw[e,xkj (xid _),xlk]at h1
  rw[e,xiu (xid _)]at h3
  rw[h1]
  exact⟨h2,h3⟩
def cntL(n:Int)(l:List Int):Nat:=l.countP λx=>decide (x<=n)
theorem xfw{n:Int}{l k:List Int}(h:l.Perm k):cntL n l=cntL n k:=h.countP_eq _
theorem xdi(n:Int)(l k:List Int):cntL n (l++k)=cntL n l+cntL n k:=List.countP_append
theorem xc0(n:Int)(l:List Int):cntL n l<=l.length:=List.countP_le_length
theorem cntL_snoc(n x:Int)(l:List Int):cntL n (l++[x])=cntL n l+if x<=n then 1 else 0:=by
 rw[xdi]
 by_cases h:x<=n<;>simp[cntL,h]
theorem xhd{s:List Int}(h:s.Pairwise (·<=·)){i:Nat}(hi:i<s.length):i+1<=cntL s[i] s/\∀n,n<s[i]->cntL n s<=i:=by
 rw[List.pairwise_iff_getElem]at h
 constructor
 .have e:cntL s[i] (s.take (i+1))=i+1:=by
   unfold cntL
   rw[List.countP_eq_length.mpr]
   .simp;omega
   .intro x hx
    obtain⟨j,hj,rfl⟩:=xkd.mp hx
    simp at hj
    rw[xll]
    by_cases e:j=i
    .subst e;simp
    .have:=h j i (by omega) hi (by omega)
     simpa using this
  have:=xdi s[i] (s.take (i+1)) (s.drop (i+1))
  rw[xln,e]at this
  omega
 .intro n hn
  have e:cntL n (s.drop i)=0:=by
   unfold cntL
   rw[List.countP_eq_zero]
   intro x hx
   obtain⟨j,hj,rfl⟩:=xkd.mp hx
   simp at hj
   rw[List.getElem_drop]
   by_cases e:j=0
   .subst e;simp;omega
   .have:=h i (i+j) hi (by omega) (by omega)
    simp;omega
  have:=xdi n (s.take i) (s.drop i)
  rw[xln,e]at this
  have h2:=xc0 n (s.take i)
  simp at h2
  omega
def x9s(l:List Int):List Int:=isoM (λx y=>decide (x<y)) (l.length-1) l
theorem sortI_ok(l:List Int):(x9s l).Pairwise (·<=·)/\(x9s l).Perm l:=by
 refine iso_all (R:=λa b:Int=>a<=b) (λh k=>by omega) (lt:=λx y=>decide (x<y)) (L:=l) λi hi v hv=>?_
 constructor
 .intro h;simp at h;omega
 .intro h;simp at h;omega
def medI(l:List Int):Int:=at0 (x9s l) ((l.length-1) / 2)
theorem med_ok{l:List Int}(h:l≠[]):medI l∈l/\l.length<=2*cntL (medI l) l/\∀n,n<medI l->2*cntL n l<l.length:=by
 obtain⟨h1,h2⟩:=sortI_ok l
 have hl:(x9s l).length=l.length:=h2.length_eq
 have h0:0<l.length:=xkb.mpr h
 have hi:(l.length-1) / 2<(x9s l).length:=by omega
 have e:medI l=(x9s l)[(l.length-1) / 2]:=x7i hi
 obtain⟨h3,h4⟩:=xhd h1 hi
 rw[<-e]at h3 h4
 rw[xfw h2]at h3
 refine⟨?_,by omega,λn hn=>?_⟩
 .rw[e,<-h2.mem_iff]
  exact xj5 hi
 .have:=h4 n hn
  rw[xfw h2]at this
  omega
open Go.Proofs
theorem Gk.len{α:Type}{z:Nat}{enc:α->List AV}{l:List α}{a:AV}{ok:Id->Prop}{m:Mem}{y e:TypeId}(ht:Try.prog.underlying y=some (.slice e))(h:Gk z enc ok m a l):sLen Try.prog y a=some (I l.length):=by
 rcases h with ⟨rfl,rfl⟩|⟨id,ver,_,rfl,hg⟩
 .exact x9n ht
 .rfl
theorem Gk.at{a:AV}{l:List Int}{ok:Id->Prop}{m:Mem}(h:Gk 1 intE ok m a l){k:Int}(h0:0<=k)(hk:k<l.length) :
 ∃q,sIx 1 a (I k)=some q/\sLd false 1 q m=some (I (at0 l k.toNat))/\∀v:Int,∃m',(∀{R:Type} (K:Mem->Option R),sSt 1 q (I v) m K=K m')/\Gk 1 intE ok m' a (l.set k.toNat v)/\m'.next=m.next/\∀j,¬ok j->m'.get j=m.get j:=by
 rcases h with ⟨rfl,rfl⟩|⟨id,ver,hok,rfl,hg⟩
 .simp at hk;omega
 .have hkl:k.toNat<l.length:=by omega
  refine⟨.ptr id ver k.toNat,?_,?_,λv=>⟨m.set id (.row ((l.set k.toNat v).flatMap intE) ver false),λK=>?_,Or.inr ⟨id,ver,hok,by simp,by simp⟩,rfl,λj hj=>?_⟩⟩
  .simp[sIx,asI,h0,hk]
  .rw[ld_ptr hg,rd,xi6 (by simp),xab,<-List.map_drop,x8t hkl,x7i hkl]
   rfl
  .rw[st_ptr (z:=1) (x:=I v) (k:=K) hg rfl (by rw[xfl];omega) rfl]
   congr 3
   simp only[xab,x6v,cells_I]
   rw[List.map_set,xlr,xi5 (by simpa using hkl)]
   simp
  .rw[Mem.get_set,xi6 (by rintro rfl;exact hj hok)]
def Rng(n:Nat)(P:List Pq)(F:List Int):Prop:=∀i∈F,(0<=i/\i<P.length)/\PqIn n (prAt P i)
theorem Rng.get{n:Nat}{P:List Pq}{F:List Int}(h:Rng n P F){k:Nat}(hk:k<F.length):(0<=at0 F k/\at0 F k<P.length)/\PqIn n (prAt P (at0 F k)):=by
 rw[x7i hk];exact h _ (xj5 hk)
def Sames(ok:Id->Prop)(m m':Mem):Prop:=∀j:Id,¬ok j->m'.get j=m.get j
def InN(n:Nat)(L:List Int):Prop:=∀x∈L,0<=x/\x<n
theorem InN.get{n:Nat}{L:List Int}(h:InN n L){k:Nat}(hk:k<L.length):0<=at0 L k/\at0 L k<n:=by rw[x7i hk];exact h _ (xj5 hk)
theorem InN.set{n:Nat}{L:List Int}(h:InN n L){k:Nat}{x:Int}(hx:0<=x/\x<n):InN n (L.set k x):=λy hy=>by
 rcases List.mem_or_eq_of_mem_set hy with hy|rfl
 .exact h y hy
 .exact hx
theorem w_Less(d:Nat)(x y:Int)(m:Mem):x6h (x6e (d+2)) xp [I x,I y] m=some (B (decide (x<y)),m):=by
 have h1:∀(x:Int) (m:Mem),x6h (x6e (d+1)) xo [I x] m=some (B false,m):=λx m=>by
  refine x78 rfl ?_ m
  rw[x58]
  unfold x3g x2r
  simp[mem0]
  exact RetF.st rfl rfl
 refine x78 rfl ?_ m
 rw[x5a]
 unfold x3i x2v
 simp[mem0,h1]
 exact RetF.st rfl rfl
theorem l_bubO(d:Nat)(hs:FHs)(u:Nat){a:AV}{ok:Id->Prop}(rec0:AV->AV->AV->AV->Mem->Nat->O2)(e8:Int)(t2:AV)(Q:O2->Prop){m0:Mem}{LL:Nat}(hLL:LL<=1000)(h8:0<=e8/\e8<=1000)(F:List Int)(hQ:∀m fc,Gk 1 intE ok m a F->(∀j,¬ok j->m.get j=m0.get j)->m.next=m0.next->Q (rec0 a (I 0) t2 (I (e8+1)) m fc)) :
 ∀(j k:Nat) (L:List Int) (m:Mem) (fc:Nat),L.length=LL->j<L.length->j<k->bubM (λx y=>decide (x<y)) j L=F->Gk 1 intE ok m a L->(∀i,¬ok i->m.get i=m0.get i)->m.next=m0.next ->
 Q (x1e (x6e (d+2)) hs u rec0 k a (I 0) t2 (I e8) (I j) m fc):=by
 intro j
 induction j with
 |zero=>
  intro k L m fc hL hj hk hB hG hm hn0
  obtain⟨k,rfl⟩:∃i,k=i+1:=⟨k-1,by omega⟩
  simp only[x1e]
  unfold x2t x2s
  simp(disch:=omega) [x6u]
  rw[bubM]at hB
  subst hB
  exact hQ m _ hG hm hn0
 |succ j ih=>
  intro k L m fc hL hj hk hB hG hm hn0
  obtain⟨k,rfl⟩:∃i,k=i+1:=⟨k-1,by omega⟩
  obtain⟨q1,i1,l1,st2⟩:=hG.at (k:=((j+1:Nat):Int)) (by omega) (by omega)
  obtain⟨q0,i0,l0,-⟩:=hG.at (k:=(j:Int)) (by omega) (by omega)
  rw[xkl]at l1 l0
  have hj1:((j+1:Nat):Int)-1=(j:Int):=by omega
  have hjp:(0:Int)<((j+1:Nat):Int):=by omega
  have hw:w64 (((j+1:Nat):Int)-1)=(j:Int):=by rw[x6u (by omega) (by omega),hj1]
  obtain⟨m2,e1,e2,e3,e4⟩:=st2 (at0 L j)
  rw[xkl]at e2
  obtain⟨p3,j3,-,st3⟩:=e2.at (k:=(j:Int)) (by omega) (by simp;omega)
  obtain⟨m3,f1,f2,f3,f4⟩:=st3 (at0 L (j+1))
  rw[xkl]at f2
  obtain rfl:p3=q0:=by rw[j3]at i0;cases i0;rfl
  rw[bubM]at hB
  simp only[x1e]
  unfold x2t
  simp only[sGv_eq,sGo_eq,sGp_eq,sGt_I,hjp,xj1,x9o,sW_t,x6z,i1,l1,xax]
  rw[x6u (by omega) (by omega),hj1]
  simp only[sGv_eq,sGo_eq,sGp_eq,sGt_I,hjp,xj1,x9o,sW_t,x6z,i0,l0,w_Less d,x8r,sPick_B,i1,l1,xax]
  by_cases ct:at0 L (j+1)<at0 L j
  .rw[xi5 (by simpa using ct)]at hB
   simp only[ct,xj1,x89,x6z,i0,i1,e1,f1,xax,hw]
   exact ih k _ m3 _ (by simpa using hL) (by simp;omega) (by omega) hB f2 (λi hi=>by rw[f4 i hi,e4 i hi];exact hm i hi) (by rw[f3,e3];exact hn0)
  .rw[xi6 (by simpa using ct)]at hB
   subst hB
   simp only[ct,xjw,xd2]
   unfold x2s
   simp(disch:=omega) [x6u]
   exact hQ _ _ hG hm hn0
theorem c_insertO(d:Nat)(hs:FHs){a:AV}{ok:Id->Prop}{L:List Int}{m:Mem}(hL:L.length<=1000)(hG:Gk 1 intE ok m a L) :
 ∃m',x6e (d+3) hs x15 [a,I 0,I L.length] m=some (.tup [],m')/\Gk 1 intE ok m' a (isoM (λx y=>decide (x<y)) (L.length-1) L)/\m'.next=m.next+1/\Sames ok m m':=by
 rw[x59]
 unfold x3h x2u
 simp(disch:=omega) [x6u]
 by_cases h0:L.length=0
 .obtain⟨NM,hNM⟩:∃NM,NN=NM+1:=⟨NN-1,by have:=x7f;omega⟩
  rw[hNM]
  simp only[xg]
  unfold x1n
  simp[h0]
  exact⟨hG.frame λ_ _=>rfl,λj _=>rfl⟩
 .refine loopW (N:=L.length-1) (σ:=Unit) (λj k _ m' fc=>xg (x6e (d+2)) hs m.next j a (I 0) (I L.length) (I ((k+1:Nat):Int)) m' fc)
   (λk _ m'=>Gk 1 intE ok m' a (isoM (λx y=>decide (x<y)) k L)/\m'.next=m.next+1/\Sames ok m m')
   (λr=>∃m',r=some (.tup [],m')/\Gk 1 intE ok m' a (isoM (λx y=>decide (x<y)) (L.length-1) L)/\m'.next=m.next+1/\Sames ok m m') ?_ ?_ NN 0 () _ _ (by omega) (by rw[x7f];omega) ⟨hG.frame λ_ _=>rfl,rfl,λj _=>rfl⟩
  .rintro j k-m1 fc hk ⟨h1,h3,h4⟩ next
   have hk':(((k+1:Nat):Int))<(L.length:Int):=by omega
   simp only[xg]
   unfold x1n x4d
   simp only[x8r,hk',xj1,x89,x6z]
   have hil:=iso_len (λx y=>decide (x<y)) k L
   refine l_bubO d hs m.next (xg (x6e (d+2)) hs m.next j) ((k+1:Nat):Int) (I L.length) (λr=>∃m',r=some (.tup [],m')/\Gk 1 intE ok m' a (isoM (λx y=>decide (x<y)) (L.length-1) L)/\m'.next=m.next+1/\Sames ok m m') (m0:=m1) (LL:=L.length) hL (by omega) (isoM (λx y=>decide (x<y)) (k+1) L) (λm2 fc2 g1 g2 g3=>?_) (k+1) NN (isoM (λx y=>decide (x<y)) k L) m1 _ hil (by omega) (by rw[x7f];omega) (xdh _ k L).symm h1 (λ_ _=>rfl) rfl
   exact next () m2 fc2 ⟨g1,by omega,λj hj=>by rw[g2 j hj,h4 j hj]⟩
  .rintro j-m1 fc ⟨h1,h3,h4⟩
   have hk':¬(((L.length-1+1:Nat):Int))<(L.length:Int):=by omega
   simp only[xg]
   unfold x1n
   simp only[x8r,hk',xjw,xd2,x6z]
   exact⟨m1,rfl,h1,h3,h4⟩
end Go.Ix
