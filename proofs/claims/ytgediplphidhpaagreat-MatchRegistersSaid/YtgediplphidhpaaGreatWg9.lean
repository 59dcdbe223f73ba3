import Derived.Test.YtgediplphidhpaaGreatWg8
import Derived.Test.YtgediplphidhpaaGreatWg5
import Derived.Test.YtgediplphidhpaaGreatWg4
set_option linter.unusedSimpArgs false
set_option linter.unusedVariables false
namespace Go.Ix
def bubM(lt:Int->Int->Bool):Nat->List Int->List Int
 |0,L=>L
 |j+1,L=>if lt (at0 L (j+1)) (at0 L j)=true then bubM lt j ((L.set (j+1) (at0 L j)).set j (at0 L (j+1)))else L
theorem bub_len(lt:Int->Int->Bool):∀(j:Nat) (L:List Int),(bubM lt j L).length=L.length
 |0,_=>rfl
 |j+1,L=>by
  rw[bubM]
  split
  .rw[bub_len lt j];simp
  .rfl
theorem bub_ok{R:Int->Int->Prop}(ht:∀{a b c},R a b->R b c->R a c){lt:Int->Int->Bool}{x:Int}:∀(A B:List Int),A.Pairwise R->(∀v∈A,(lt x v=true->R x v)/\(lt x v=false->R v x)) ->
 ∃C,bubM lt A.length (A++x::B)=C++B/\C.Pairwise R/\C.Perm (A++[x]):=by
 intro A
 generalize hn:A.length=n
 induction n generalizing A with
 |zero=>
  intro B _ _
  have:=x1c5.mp hn
  subst this
  exact⟨[x],rfl,by simp,x1d1 _⟩
 |succ n ih=>
  intro B hA hx
  obtain⟨A',y,rfl⟩:∃A' y,A=A'++[y]:=by
   have hne:A≠[]:=by rintro rfl;simp at hn
   exact⟨A.dropLast,A.getLast hne,(x1dw hne).symm⟩
  have hn':A'.length=n:=by simpa using hn
  have e0:A'++[y]++x::B=A'++y::x::B:=by simp
  have g1:at0 (A'++y::x::B) (n+1)=x:=by
   rw[xqh (by simp;omega),x1dp (by omega)]
   simp[hn']
  have g0:at0 (A'++y::x::B) n=y:=by
   rw[xqh (by simp;omega),x1dp (by omega)]
   simp[hn']
  have hs:((A'++y::x::B).set (n+1) y).set n x=A'++x::y::B:=by
   rw[List.set_append_right _ _ (by omega),List.set_append_right _ _ (by omega)]
   simp[hn']
  rw[x1br]at hA
  obtain⟨c1,c2⟩:=hx y (by simp)
  rw[e0,bubM,g1,g0,hs]
  by_cases c:lt x y=true
  .rw[if_pos c]
   obtain⟨C,h1,h2,h3⟩:=ih A' hn' (y::B) hA.1 λv hv=>hx v (by simp[hv])
   refine⟨C++[y],by rw[h1];simp,?_,?_⟩
   .rw[x1br]
    refine⟨h2,by simp,λa ha b hb=>?_⟩
    simp at hb
    subst hb
    rcases x1ae.mp (h3.mem_iff.mp ha)with ha|ha
    .exact hA.2.2 a ha b (by simp)
    .simp at ha;subst ha;exact c1 c
   .refine(h3.append_right [y]).trans ?_
    rw[x1ao,x1ao]
    exact List.Perm.append_left A' (List.Perm.swap y x [])
  .rw[if_neg c]
   have c':lt x y=false:=by simpa using c
   refine⟨A'++[y]++[x],by simp,?_,x1d1 _⟩
   rw[x1br]
   refine⟨x1br.mpr hA,by simp,λa ha b hb=>?_⟩
   simp at hb
   subst hb
   rcases x1ae.mp ha with ha|ha
   .exact ht (hA.2.2 a ha y (by simp)) (c2 c')
   .simp at ha;subst ha;exact c2 c'
def isoM(lt:Int->Int->Bool)(k:Nat)(L:List Int):List Int:=(List.range' 1 k).foldl (λL i=>bubM lt i L) L
theorem x13f(lt:Int->Int->Bool)(k:Nat)(L:List Int):isoM lt (k+1) L=bubM lt (k+1) (isoM lt k L):=by
 unfold isoM
 rw[List.range'_concat,List.foldl_append]
 simp[Nat.add_comm]
theorem iso_len(lt:Int->Int->Bool)(k:Nat)(L:List Int):(isoM lt k L).length=L.length:=by
 induction k with
 |zero=>rfl
 |succ k ih=>rw[x13f,bub_len,ih]
theorem iso_ok{R:Int->Int->Prop}(ht:∀{a b c},R a b->R b c->R a c){lt:Int->Int->Bool}{L:List Int}(h:∀(i:Nat) (hi:i<L.length),∀v∈L.take i,(lt L[i] v=true->R L[i] v)/\(lt L[i] v=false->R v L[i])) :
 ∀k,k<L.length->∃C,isoM lt k L=C++L.drop (k+1)/\C.Pairwise R/\C.Perm (L.take (k+1)):=by
 intro k
 induction k with
 |zero=>
  intro hk
  refine⟨L.take 1,?_,?_,x1d1 _⟩
  .exact(x1dq 1 L).symm
  .cases L with
   |nil=>simp
   |cons a l=>simp
 |succ k ih=>
  intro hk
  obtain⟨C,h1,h2,h3⟩:=ih (by omega)
  have hlen:C.length=k+1:=by rw[h3.length_eq];simp;omega
  rw[x13f,h1,xp2 hk]
  obtain⟨D,d1,d2,d3⟩:=bub_ok (R:=R) ht (lt:=lt) (x:=L[k+1]) C (L.drop (k+1+1)) h2 λv hv=>h (k+1) hk v (h3.mem_iff.mp hv)
  rw[hlen]at d1
  refine⟨D,d1,d2,d3.trans ?_⟩
  rw[x1cc hk]
  exact h3.append_right _
theorem iso_all{R:Int->Int->Prop}(ht:∀{a b c},R a b->R b c->R a c){lt:Int->Int->Bool}{L:List Int}(h:∀(i:Nat) (hi:i<L.length),∀v∈L.take i,(lt L[i] v=true->R L[i] v)/\(lt L[i] v=false->R v L[i])) :
 (isoM lt (L.length-1) L).Pairwise R/\(isoM lt (L.length-1) L).Perm L:=by
 by_cases h0:L.length=0
 .have:=x1c5.mp h0
  subst this
  exact⟨List.Pairwise.nil,x1d1 _⟩
 .obtain⟨C,h1,h2,h3⟩:=iso_ok (R:=R) (lt:=lt) (L:=L) ht h (L.length-1) (by omega)
  have e:L.length-1+1=L.length:=by omega
  rw[e,x1bt (x196 _),x1b9]at h1
  rw[e,x19p (x196 _)]at h3
  rw[h1]
  exact⟨h2,h3⟩
def cntL(n:Int)(l:List Int):Nat:=l.countP λx=>decide (x<=n)
theorem x13g{n:Int}{l k:List Int}(h:l.Perm k):cntL n l=cntL n k:=h.countP_eq _
theorem xzo(n:Int)(l k:List Int):cntL n (l++k)=cntL n l+cntL n k:=List.countP_append
theorem xxn(n:Int)(l:List Int):cntL n l<=l.length:=List.countP_le_length
theorem cntL_snoc(n x:Int)(l:List Int):cntL n (l++[x])=cntL n l+if x<=n then 1 else 0:=by
 rw[xzo]
 by_cases h:x<=n<;>simp[cntL,h]
theorem x15q{s:List Int}(h:s.Pairwise (·<=·)){i:Nat}(hi:i<s.length):i+1<=cntL s[i] s/\∀n,n<s[i]->cntL n s<=i:=by
 rw[List.pairwise_iff_getElem]at h
 constructor
 .have e:cntL s[i] (s.take (i+1))=i+1:=by
   unfold cntL
   rw[List.countP_eq_length.mpr]
   .simp;omega
   .intro x hx
    obtain⟨j,hj,rfl⟩:=x1bw.mp hx
    simp at hj
    rw[x1dm]
    by_cases e:j=i
    .subst e;simp
    .have:=h j i (by omega) hi (by omega)
     simpa using this
  have:=xzo s[i] (s.take (i+1)) (s.drop (i+1))
  rw[x1dq,e]at this
  omega
 .intro n hn
  have e:cntL n (s.drop i)=0:=by
   unfold cntL
   rw[List.countP_eq_zero]
   intro x hx
   obtain⟨j,hj,rfl⟩:=x1bw.mp hx
   simp at hj
   rw[List.getElem_drop]
   by_cases e:j=0
   .subst e;simp;omega
   .have:=h i (i+j) hi (by omega) (by omega)
    simp;omega
  have:=xzo n (s.take i) (s.drop i)
  rw[x1dq,e]at this
  have h2:=xxn n (s.take i)
  simp at h2
  omega
def xqv(l:List Int):List Int:=isoM (λx y=>decide (x<y)) (l.length-1) l
theorem xzp(l:List Int):(xqv l).Pairwise (·<=·)/\(xqv l).Perm l:=by
 refine iso_all (R:=λa b:Int=>a<=b) (λh k=>by omega) (lt:=λx y=>decide (x<y)) (L:=l) λi hi v hv=>?_
 constructor
 .intro h;simp at h;omega
 .intro h;simp at h;omega
def medI(l:List Int):Int:=at0 (xqv l) ((l.length-1) / 2)
theorem med_ok{l:List Int}(h:l≠[]):medI l∈l/\l.length<=2*cntL (medI l) l/\∀n,n<medI l->2*cntL n l<l.length:=by
 obtain⟨h1,h2⟩:=xzp l
 have hl:(xqv l).length=l.length:=h2.length_eq
 have h0:0<l.length:=x1c6.mpr h
 have hi:(l.length-1) / 2<(xqv l).length:=by omega
 have e:medI l=(xqv l)[(l.length-1) / 2]:=xqh hi
 obtain⟨h3,h4⟩:=x15q h1 hi
 rw[<-e]at h3 h4
 rw[x13g h2]at h3
 refine⟨?_,by omega,λn hn=>?_⟩
 .rw[e,<-h2.mem_iff]
  exact x19j hi
 .have:=h4 n hn
  rw[x13g h2]at this
  omega
open Go.Proofs
theorem Gk.len{α:Type}{z:Nat}{enc:α->List AV}{l:List α}{a:AV}{ok:Id->Prop}{m:Mem}{y e:TypeId}(ht:Tryz.prog.underlying y=some (.slice e))(h:Gk z enc ok m a l):sLen Tryz.prog y a=some (I l.length):=by
 rcases h with ⟨rfl,rfl⟩|⟨id,ver,_,rfl,hg⟩
 .exact xwv ht
 .rfl
theorem Gk.at{a:AV}{l:List Int}{ok:Id->Prop}{m:Mem}(h:Gk 1 intE ok m a l){k:Int}(h0:0<=k)(hk:k<l.length) :
 ∃q,sIx 1 a (I k)=some q/\sLd false 1 q m=some (I (at0 l k.toNat))/\∀v:Int,∃m',(∀{R:Type} (K:Mem->Option R),sSt 1 q (I v) m K=K m')/\Gk 1 intE ok m' a (l.set k.toNat v)/\m'.next=m.next/\∀j,¬ok j->m'.get j=m.get j:=by
 rcases h with ⟨rfl,rfl⟩|⟨id,ver,hok,rfl,hg⟩
 .simp at hk;omega
 .have hkl:k.toNat<l.length:=by omega
  refine⟨.ptr id ver k.toNat,?_,?_,λv=>⟨m.set id (.row ((l.set k.toNat v).flatMap intE) ver false),λK=>?_,Or.inr ⟨id,ver,hok,by simp,by simp⟩,rfl,λj hj=>?_⟩⟩
  .simp[sIx,asI,h0,hk]
  .rw[xov hg,rd,if_neg (by simp),xum,<-List.map_drop,xp2 hkl,xqh hkl]
   rfl
  .rw[xqb (z:=1) (x:=I v) (k:=K) hg rfl (by rw[x12z];omega) rfl]
   congr 3
   simp only[xum,xon,cells_I]
   rw[List.map_set,x1dv,if_pos (by simpa using hkl)]
   simp
  .rw[Mem.get_set,if_neg (by rintro rfl;exact hj hok)]
def Rng(n:Nat)(P:List Pq)(F:List Int):Prop:=∀i∈F,(0<=i/\i<P.length)/\PqIn n (prAt P i)
theorem Rng.get{n:Nat}{P:List Pq}{F:List Int}(h:Rng n P F){k:Nat}(hk:k<F.length):(0<=at0 F k/\at0 F k<P.length)/\PqIn n (prAt P (at0 F k)):=by
 rw[xqh hk];exact h _ (x19j hk)
def Sames(ok:Id->Prop)(m m':Mem):Prop:=∀j:Id,¬ok j->m'.get j=m.get j
def InN(n:Nat)(L:List Int):Prop:=∀x∈L,0<=x/\x<n
theorem InN.get{n:Nat}{L:List Int}(h:InN n L){k:Nat}(hk:k<L.length):0<=at0 L k/\at0 L k<n:=by rw[xqh hk];exact h _ (x19j hk)
theorem InN.set{n:Nat}{L:List Int}(h:InN n L){k:Nat}{x:Int}(hx:0<=x/\x<n):InN n (L.set k x):=λy hy=>by
 rcases List.mem_or_eq_of_mem_set hy with hy|rfl
 .exact h y hy
 .exact hx
def MED:Nat:=30
theorem xvz:MED<=1000:=by decide
theorem MED_30:30<=MED:=by decide
theorem x15r(d:Nat)(hs:FHs)(args:List AV)(m:Mem):xnt (d+1) hs xgz args m=tellM 3 args m:=by kernel_rfl
theorem ints3:∀l:List Int,l.flatMap intE=l.map (λx=>.sc (.int .i64 x))
 |[]=>rfl
 |x::r=>by rw[x19b,ints3 r];rfl
theorem intsOf3:∀l:List Int,xs4 (l.map (λx=>.sc (.int .i64 x)))=some l
 |[]=>rfl
 |x::r=>by rw[x19f,xs4,intsOf3 r];rfl
theorem ms_sortI(l:List Int):l.mergeSort (λx y=>decide (x<=y))=xqv l:=by
 obtain⟨h1,h2⟩:=xzp l
 have h3:(l.mergeSort (λx y=>decide (x<=y))).Pairwise (λx y=>decide (x<=y)=true):=List.pairwise_mergeSort (λa b c h k=>by simp at *;omega) (λa b=>by simp;omega) l
 have h4:(l.mergeSort (λx y=>decide (x<=y))).Pairwise (·<=·):=h3.imp λh=>by simpa using h
 exact((List.mergeSort_perm l _).trans h2.symm).eq_of_pairwise (λa b _ _ h k=>by omega) h4 h1
theorem c_Sort3(d:Nat)(hs:FHs){a:AV}{ok:Id->Prop}{L:List Int}{m:Mem}(hL:L.length<=MED)(h0:L≠[])(hG:Gk 1 intE ok m a L) :
 ∃m',xnt (d+5) hs xgz [a] m=some (.tup [],m')/\Gk 1 intE ok m' a (isoM (λx y=>decide (x<y)) (L.length-1) L)/\m.next<=m'.next/\Sames ok m m':=by
 have hM:=xvz
 rcases hG with ⟨-,h⟩|⟨id,ver,hok,rfl,hg⟩
 .exact absurd h h0
 have hp:0<L.length:=x1c6.mpr h0
 have e1:xu4 [.sref id ver 0 L.length 1 true] m.get=some (id,.row ((xqv L).map (λx=>.sc (.int .i64 x))) ver false):=by
  have hlen:(L.flatMap intE).length=L.length:=by rw[ints3,x1ab]
  have h5:xs4 (((L.flatMap intE).drop 0).take L.length)=some L:=by
   rw[x1a6,x19p (by omega),ints3,intsOf3]
  have h6:xon (L.flatMap intE) 0 ((xqv L).map (λx=>AV.sc (.int .i64 x)))=(xqv L).map (λx=>.sc (.int .i64 x)):=by
   unfold xon
   rw[x1d6,x19r,x1bt (by
    rw[x1ab,hlen,(xzp L).2.length_eq];omega),x1b9]
  show(match m.get id with
   |some (.row cs v false)=>if v=ver/\1=1/\0<L.length/\0+L.length<=cs.length/\L.length<4611686018427387904 then
    (xs4 ((cs.drop 0).take L.length)).map λ(l:List Int)=>(id,Ob.row (xon cs 0 ((l.mergeSort λx y=>decide (x<=y)).map λx=>.sc (.int .i64 x))) v false)
    else none
   |_=>none)=_
  rw[hg]
  show(if ver=ver/\1=1/\0<L.length/\0+L.length<=(L.flatMap intE).length/\L.length<4611686018427387904 then _ else _)=_
  rw[if_pos ⟨rfl,rfl,hp,by omega,by omega⟩,h5]
  show some (id,Ob.row (xon (L.flatMap intE) 0 ((L.mergeSort λx y=>decide (x<=y)).map λx=>AV.sc (.int .i64 x))) ver false)=_
  rw[ms_sortI,h6]
 refine⟨m.set id (.row ((xqv L).map (λx=>.sc (.int .i64 x))) ver false),?_,.inr ⟨id,ver,hok,?_,?_⟩,Nat.le_of_eq (Mem.next_set m _ _).symm,λj hj=>?_⟩
 .rw[x15r]
  unfold tellM
  rw[e1]
  rfl
 .rw[iso_len]
 .rw[Mem.get_set_same,ints3];rfl
 .exact Mem.get_set_ne (by rintro rfl;exact hj hok)
attribute [local simp high] rd_5
def byK:Nat->Mp->Int
 |0,x=>x.b0
 |_+1,x=>x.b1
def medP(kk:Nat)(l:List Mp):Int:=medI (l.map (byK kk))
variable{a:AV}{l:List Mp}
theorem l_medIn(call:xnv)(hs:FHs)(u:Nat){t2 t3 t8:AV}(rec0:AV->AV->AV->AV->Mem->Nat->O2)(ha:Pts a l)(hl:l.length<=1000)(kk:Nat)(hk1:kk<=1):∀(suf:List Mp) (k j:Nat) (v:AV) (m:Mem) (fc:Nat),l.drop k=suf->suf.length<j ->
 Gk 1 intE (λid=>id.1=u/\id.2.2=23) m v ((l.take k).map (byK kk)) ->
 ∃v' m' fc',x3d call hs u rec0 j a t2 t3 (I kk) v t8 a (I l.length) (I k) m fc=x70 call hs u rec0 a t2 t3 (I kk) v' t8 m' fc' /\
  Gk 1 intE (λid=>id.1=u/\id.2.2=23) m' v' (l.map (byK kk))/\m'.next=m.next/\∀id:Id,id.2.2≠23->id.2.2≠7->m'.get id=m.get id:=by
 intro suf
 induction suf with
 |nil=>
  intro k j v m fc hd hj hG
  obtain⟨j,rfl⟩:∃i,j=i+1:=⟨j-1,by simp at hj;omega⟩
  have hk0:=x19k.mp hd
  have hk:¬((k:Int)<(l.length:Int)):=by omega
  rw[x19p hk0]at hG
  refine⟨v,m,fc+1,?_,hG,rfl,λ_ _ _=>rfl⟩
  simp only[x3d]
  unfold xa1
  simp[hk]
 |cons e r ih=>
  intro k j v m fc hd hj hG
  obtain⟨j,rfl⟩:∃i,j=i+1:=⟨j-1,by simp at hj;omega⟩
  obtain⟨hk,he,hd⟩:=xpe hd
  have hk':(k:Int)<(l.length:Int):=by omega
  have ix:=ha.ix Mp.len hk
  have ld:=xtj (m:=m) Mp.len (by omega) hk
  rw[he]at ld
  have hG1:Gk 1 intE (λid=>id.1=u/\id.2.2=23) ((m.new (u,fc+3,7) (.row [I 0,I 0,I 0,I 0,I 0] 0 false)).set (u,fc+3,7) (.row [I e.ln,I e.sm,I e.b0,I e.b1,I e.sc] 0 false)) v ((l.take k).map (byK kk)):=hG.frame λid hid=>by
   rw[Mem.get_set,if_neg (by rintro rfl;simp at hid),Mem.get_new,if_neg (by rintro rfl;simp at hid)]
  obtain⟨v',m3,A,hG3,u1,u2,n3,f3⟩:=Gk.app (ok:=λid=>id.1=u/\id.2.2=23) xtk (by omega) (bytes:=8) (id0:=(u,fc+11,23)) ⟨rfl,rfl⟩ (by unfold xol;simp;omega) hG1 (byK kk e)
  have hlast:(l.take k).map (byK kk)++[byK kk e]=(l.take (k+1)).map (byK kk):=by
   rw[x1cc hk,x1d0,he];rfl
  rw[hlast]at hG3
  obtain⟨v2,m4,fc4,h1,h2,h3,h4⟩:=ih (k+1) j v' m3 (fc+15) hd (by simp at hj;omega) hG3
  refine⟨v2,m4,fc4,?_,h2,by rw[h3,n3];rfl,λid h5 h6=>?_⟩
  .rw[<-h1]
   simp only[x3d]
   unfold xa1
   simp only[xnz,xou,hk',x19d,xot,ix,ld]
   have hel:∀(M:Mem) (x:Int),elems M.get 1 (.slit [I x] 1 true)=some (intE x,1):=λ_ _=>rfl
   have hkc:kk=0\/kk=1:=by omega
   rcases hkc with rfl|rfl
   .simp only[byK]at A
    simp(disch:=omega) [Mp.c,z_pt,sIxA,asI,xx3,hel,A,xnx]
   .simp only[byK]at A
    simp(disch:=omega) [Mp.c,z_pt,sIxA,asI,xx3,hel,A,xnx]
  .rw[h4 id h5 h6,f3 id (by simp[h5]),Mem.get_set,if_neg (by rintro rfl;exact h6 rfl),Mem.get_new,if_neg (by rintro rfl;exact h6 rfl)]
theorem tdiv2{n:Nat}(h:0<n):(((n:Int)-1).tdiv 2)=(((n-1) / 2:Nat):Int):=by
 rw[Int.tdiv_eq_ediv_of_nonneg (by omega)]
 omega
theorem b_med(d:Nat)(hs:FHs){u:Nat}{t2 t8:AV}(rec0:AV->AV->AV->AV->Mem->Nat->O2)(h0:l≠[])(hl:l.length<=MED)(kk:Nat)(hk1:kk<=1){v:AV}{m:Mem}{fc:Nat}{p q:Int}(hG:Gk 1 intE (λid=>id.1=u/\id.2.2=23) m v (l.map (byK kk)))(hg:m.get (u,1,3)=some (.row [I p,I q] 0 false)) :
 ∃m' fc',x70 (xnt (d+5)) hs u rec0 a t2 (.ptr (u,1,3) 0 0) (I kk) v (I kk) m fc=rec0 a t2 (.ptr (u,1,3) 0 0) (I ((kk+1:Nat):Int)) m' fc' /\
  m'.get (u,1,3)=some (.row (if kk=0 then[I (medP kk l),I q]else[I p,I (medP kk l)]) 0 false)/\m'.get (u,0,2)=m.get (u,0,2):=by
 have hlen:(l.map (byK kk)).length=l.length:=by simp
 have hpos:0<l.length:=x1c6.mpr h0
 have hM:=xvz
 obtain⟨m1,e1,e2,e3,e4⟩:=c_Sort3 d hs (L:=l.map (byK kk)) (by rw[hlen];exact hl) (by simpa using h0) hG
 have g1:m1.get (u,1,3)=some (.row [I p,I q] 0 false):=by rw[e4 _ (by simp)];exact hg
 have g2:m1.get (u,0,2)=m.get (u,0,2):=e4 _ (by simp)
 have hsl:(isoM (λx y=>decide (x<y)) ((l.map (byK kk)).length-1) (l.map (byK kk))).length=l.length:=by rw[iso_len,hlen]
 obtain⟨q0,i0,l0,-⟩:=e2.at (k:=(((l.length-1) / 2:Nat):Int)) (by omega) (by omega)
 have hln:sLen Tryz.prog xg v=some (I l.length):=by rw[hG.len xx2,hlen]
 have hmed:at0 (isoM (λx y=>decide (x<y)) ((l.map (byK kk)).length-1) (l.map (byK kk))) ((l.length-1) / 2)=medP kk l:=by
  unfold medP medI xqv
  rw[hlen]
 rw[x1ax,hmed]at l0
 have hq:sQuo (I ((l.length:Int)-1)) (I 2)=some (I (((l.length-1) / 2:Nat):Int)):=by
  rw[xr9 (by omega),tdiv2 hpos,xnx (by omega) (by omega)]
 unfold x70 xgy
 have hkc:kk=0\/kk=1:=by omega
 rcases hkc with rfl|rfl
 .refine⟨m1.set (u,1,3) (.row [I (medP 0 l),I q] 0 false),fc+12+2,?_,by simp,by rw[Mem.get_set,if_neg (by simp)];exact g2⟩
  simp only[e1,xnz,hln,sSub_I]
  rw[xnx (by omega) (by omega)]
  simp only[hq,xnz,i0,l0]
  simp(disch:=omega) [sIxA,asI,g1,xnx]
 .refine⟨m1.set (u,1,3) (.row [I p,I (medP 1 l)] 0 false),fc+12+2,?_,by simp,by rw[Mem.get_set,if_neg (by simp)];exact g2⟩
  simp only[e1,xnz,hln,sSub_I]
  rw[xnx (by omega) (by omega)]
  simp only[hq,xnz,i0,l0]
  simp(disch:=omega) [sIxA,asI,g1,xnx]
theorem w_median(d:Nat)(ha:Pts a l)(h0:l≠[])(hl:l.length<=MED)(m:Mem):xnu (xnt (d+6)) x3v [a] m=some (.agg [I (medP 0 l),I (medP 1 l)],m):=by
 refine xo0 (by simp[ha.still]) ?_ m
 have hM:=xvz
 rw[xje]
 unfold xdk xa3
 simp[mem0,xp5]
 unfold xh2
 obtain⟨NM,hNM⟩:∃NM,NN=NM+3:=⟨NN-3,by have:=xo8;omega⟩
 rw[hNM]
 obtain⟨m0,hm0⟩:∃m0:Mem,m0=((⟨[],1⟩:Mem).new (0,0,2) (.row [I 0,I 0] 0 false)).new (0,1,3) (.row [I 0,I 0] 0 false):=⟨_,rfl⟩
 rw[<-hm0]
 have g0:m0.get (0,1,3)=some (.row [I 0,I 0] 0 false):=by rw[hm0];simp
 have f0:m0.get (0,0,2)=some (.row [I 0,I 0] 0 false):=by rw[hm0];simp
 have hlen:sLen Tryz.prog x11 a=some (I l.length):=ha.len xxh
 have c0:(0:Int)<2:=by omega
 have c1:((0+1:Nat):Int)<2:=by omega
 have c2:¬((1+1:Nat):Int)<2:=by omega
 obtain⟨v1,m1,fc1,h1,h2,h3,h4⟩:=l_medIn (xnt (d+5)) [] 0 (t2:=.ptr (0,0,2) 0 0) (t3:=.ptr (0,1,3) 0 0) (t8:=I (0:Nat)) (xw (xnt (d+5)) [] 0 (NM+2)) ha (by omega) 0 (by omega) l 0 NN nilS m0 (2+1+1+3+3) rfl (by rw[xo8];omega) Gk.nil
 obtain⟨m2,fc2,h5,h6,h7⟩:=b_med (a:=a) (t2:=.ptr (0,0,2) 0 0) (t8:=I (0:Nat)) d [] (xw (xnt (d+5)) [] 0 (NM+2)) h0 hl 0 (by omega) (fc:=fc1) (p:=0) (q:=0) h2 (by rw[h4 _ (by simp) (by simp)];exact g0)
 obtain⟨v3,m3,fc3,h8,h9,h10,h11⟩:=l_medIn (xnt (d+5)) [] 0 (t2:=.ptr (0,0,2) 0 0) (t3:=.ptr (0,1,3) 0 0) (t8:=I (1:Nat)) (xw (xnt (d+5)) [] 0 (NM+1)) ha (by omega) 1 (by omega) l 0 NN nilS m2 (fc2+1+3+3) rfl (by rw[xo8];omega) Gk.nil
 simp only[x19o]at h6
 obtain⟨m4,fc4,h12,h13,h14⟩:=b_med (a:=a) (t2:=.ptr (0,0,2) 0 0) (t8:=I (1:Nat)) d [] (xw (xnt (d+5)) [] 0 (NM+1)) h0 hl 1 (by omega) (fc:=fc3) (p:=medP 0 l) (q:=0) h9 (by rw[h11 _ (by simp) (by simp)];exact h6)
 have f4:m4.get (0,0,2)=some (.row [I 0,I 0] 0 false):=by rw[h14,h11 _ (by simp) (by simp),h7,h4 _ (by simp) (by simp)];exact f0
 have step:∀(n:Nat) (kk:Nat) (M:Mem) (fc:Nat),((kk:Int)<2)->xw (xnt (d+5)) [] 0 (n+1) a (.ptr (0,0,2) 0 0) (.ptr (0,1,3) 0 0) (I kk) M fc =
  x3d (xnt (d+5)) [] 0 (xw (xnt (d+5)) [] 0 n) NN a (.ptr (0,0,2) 0 0) (.ptr (0,1,3) 0 0) (I kk) nilS (I kk) a (I l.length) (I 0) M (fc+1+3+3):=λn kk M fc hkk=>by
  simp only[xw]
  unfold xa2 xh1 xh0
  simp only[xou,hkk,x19d,xnz,xot,hlen]
 have s0:=step (NM+2) 0 m0 (2+1) (by omega)
 have s1:=step (NM+1) 1 m2 fc2 (by omega)
 rw[show(I ((0:Nat):Int))=I 0 from rfl]at *
 rw[s0,h1,h5]
 rw[show(I ((0+1:Nat):Int))=I ((1:Nat):Int)from rfl,s1]
 rw[h8,h12]
 simp only[xw]
 unfold xa2 xgx
 simp[h13,f4,sLdP]
 exact RetF.st (a:=.agg [I (medP 0 l),I (medP 1 l)]) rfl rfl
attribute [local simp high] rd_5
variable{a:AV}{l:List Mp}
theorem xtt(kk:Nat)(h0:l≠[])(hin:xod l):(-8<=medP kk l/\medP kk l<=8)/\l.length<=2*cntL (medP kk l) (l.map (byK kk))/\∀n,n<medP kk l->2*cntL n (l.map (byK kk))<l.length:=by
 obtain⟨h1,h2,h3⟩:=med_ok (l:=l.map (byK kk)) (by simpa using h0)
 simp only[x1ab]at h2 h3
 refine⟨?_,h2,h3⟩
 obtain⟨x,hx,he⟩:=x1a1.mp h1
 have hp:=hin x hx
 have:medP kk l=byK kk x:=he.symm
 rw[this]
 cases kk with
 |zero=>have:=hp.b0;unfold bd at this;exact this
 |succ k=>have:=hp.b1;unfold bd at this;exact this
theorem l_cnt(call:xnv)(hs:FHs)(u:Nat){t2 t3:AV}(rec0:AV->AV->AV->AV->Mem->Nat->O2)(rec1:AV->AV->AV->AV->AV->Mem->Nat->O2)(ha:Pts a l)(hl:l.length<=1000)(kk:Nat)(hk1:kk<=1)(n:Int):∀(suf:List Mp) (k j:Nat) (m:Mem) (fc:Nat),l.drop k=suf->suf.length<j ->
 ∃fc',x5j call hs u rec0 rec1 j a t2 t3 (I kk) (I n) (I (cntL n ((l.take k).map (byK kk)))) (I k) m fc=x77 call hs u rec0 rec1 a t2 t3 (I kk) (I n) (I (cntL n (l.map (byK kk)))) m fc':=by
 intro suf
 induction suf with
 |nil=>
  intro k j m fc hd hj
  obtain⟨j,rfl⟩:∃i,j=i+1:=⟨j-1,by simp at hj;omega⟩
  have hk0:=x19k.mp hd
  have hk:¬((k:Int)<(l.length:Int)):=by omega
  rw[x19p hk0]
  refine⟨fc+4,?_⟩
  simp only[x5j]
  unfold xan
  simp[ha.len xpb,hk]
 |cons e r ih=>
  intro k j m fc hd hj
  obtain⟨j,rfl⟩:∃i,j=i+1:=⟨j-1,by simp at hj;omega⟩
  obtain⟨hk,he,hd⟩:=xpe hd
  have hk':(k:Int)<(l.length:Int):=by omega
  have ix:=ha.ix Mp.len hk
  rw[xp2 hk,x19b,he]at ix
  have hlast:(l.take (k+1)).map (byK kk)=(l.take k).map (byK kk)++[byK kk e]:=by
   rw[x1cc hk,x1d0,he];rfl
  have hle:=xxn n ((l.take k).map (byK kk))
  simp only[x1ab,x1de]at hle
  have hle2:cntL n (List.take k (List.map (byK kk) l))<=1000:=by rw[<-List.map_take];omega
  have hcnt:=cntL_snoc n (byK kk e) ((l.take k).map (byK kk))
  rw[<-hlast]at hcnt
  have hb:∀P:Prop,[Decidable P]->(∀x:AV,x=I (byK kk e)->P)->P:=λP _ h=>h _ rfl
  simp only[x5j]
  unfold xan xhc xam
  by_cases c:byK kk e<=n
  .rw[if_pos c]at hcnt
   obtain⟨fc',h'⟩:=ih (k+1) j m (fc+4+12+3) hd (by simp at hj;omega)
   refine⟨fc',?_⟩
   rw[<-h',hcnt]
   have hkc:kk=0\/kk=1:=by omega
   rcases hkc with rfl|rfl
   .simp only[byK]at c
    simp(disch:=omega) [ha.len xpb,hk',ix,Mp.c,sIxA,asI,c,xnx]
   .simp only[byK]at c
    simp(disch:=omega) [ha.len xpb,hk',ix,Mp.c,sIxA,asI,c,xnx]
  .rw[if_neg c]at hcnt
   obtain⟨fc',h'⟩:=ih (k+1) j m (fc+4+9+3) hd (by simp at hj;omega)
   refine⟨fc',?_⟩
   rw[<-h',hcnt]
   have hkc:kk=0\/kk=1:=by omega
   rcases hkc with rfl|rfl
   .simp only[byK]at c
    simp(disch:=omega) [ha.len xpb,hk',ix,Mp.c,sIxA,asI,c,xnx]
   .simp only[byK]at c
    simp(disch:=omega) [ha.len xpb,hk',ix,Mp.c,sIxA,asI,c,xnx]
theorem l_medR(d:Nat)(hs:FHs)(u:Nat){t2:AV}(rec0:AV->AV->AV->AV->Mem->Nat->O2)(ha:Pts a l)(h0:l≠[])(hin:xod l)(hl:l.length<=1000)(kk:Nat)(hk1:kk<=1){p q:Int}{m:Mem}(hg:m.get (u,1,3)=some (.row [I p,I q] 0 false)):∀(g:Nat) (n:Int) (j:Nat) (fc:Nat),-8<=n->n+g=medP kk l->g<j ->
 ∃fc',x1e (xnt d) hs u rec0 j a t2 (.ptr (u,1,3) 0 0) (I kk) (I n) m fc=rec0 a t2 (.ptr (u,1,3) 0 0) (I ((kk+1:Nat):Int)) (m.set (u,1,3) (.row (if kk=0 then[I (medP kk l),I q]else[I p,I (medP kk l)]) 0 false)) fc':=by
 obtain⟨⟨m1,m2⟩,m3,m4⟩:=xtt kk h0 hin
 intro g
 induction g with
 |zero=>
  intro n j fc h1 h2 hj
  obtain⟨j,rfl⟩:∃i,j=i+1:=⟨j-1,by omega⟩
  obtain rfl:n=medP kk l:=by omega
  have hn8:medP kk l<=8:=by omega
  obtain⟨fc',h'⟩:=l_cnt (xnt d) hs u (t2:=t2) (t3:=.ptr (u,1,3) 0 0) rec0 (x1e (xnt d) hs u rec0 j) ha hl kk hk1 (medP kk l) l 0 NN m (fc+2+1+1) rfl (by rw[xo8];omega)
  have hc0:(cntL (medP kk l) ((l.take 0).map (byK kk)):Int)=0:=by simp[cntL]
  have hle:=xxn (medP kk l) (l.map (byK kk))
  simp only[x1ab]at hle
  have hge:(l.length:Int)<=2*(cntL (medP kk l) (l.map (byK kk)):Int):=by omega
  rw[hc0,show I ((0:Nat):Int)=I 0 from rfl]at h'
  refine⟨fc'+9+3,?_⟩
  simp only[x1e]
  unfold xaq xap xao
  simp only[sLe_I,hn8,x19d,xnz,xot,h']
  unfold x77 xal
  have hkc:kk=0\/kk=1:=by omega
  rcases hkc with rfl|rfl
  .simp(disch:=omega) [ha.len xpb,hge,sIxA,asI,hg,xnx]
  .simp(disch:=omega) [ha.len xpb,hge,sIxA,asI,hg,xnx]
 |succ g ih=>
  intro n j fc h1 h2 hj
  obtain⟨j,rfl⟩:∃i,j=i+1:=⟨j-1,by omega⟩
  have hn8:n<=8:=by omega
  obtain⟨fc',h'⟩:=l_cnt (xnt d) hs u (t2:=t2) (t3:=.ptr (u,1,3) 0 0) rec0 (x1e (xnt d) hs u rec0 j) ha hl kk hk1 n l 0 NN m (fc+2+1+1) rfl (by rw[xo8];omega)
  have hc0:(cntL n ((l.take 0).map (byK kk)):Int)=0:=by simp[cntL]
  have hle:=xxn n (l.map (byK kk))
  simp only[x1ab]at hle
  have hlt:=m4 n (by omega)
  have hge:¬(l.length:Int)<=2*(cntL n (l.map (byK kk)):Int):=by omega
  rw[hc0,show I ((0:Nat):Int)=I 0 from rfl]at h'
  obtain⟨fc2,h2'⟩:=ih (n+1) j (fc'+5+3) (by omega) (by omega) (by omega)
  refine⟨fc2,?_⟩
  rw[<-h2']
  simp only[x1e]
  unfold xaq xap xao
  simp only[sLe_I,hn8,x19d,xnz,xot,h']
  unfold x77 xhb
  simp(disch:=omega) [ha.len xpb,hge,xnx]
theorem w_rMedian(d:Nat)(ha:Pts a l)(h0:l≠[])(hin:xod l)(hl:l.length<=1000)(m:Mem):xnu (xnt (d+1)) x41 [a] m=some (.agg [I (medP 0 l),I (medP 1 l)],m):=by
 refine xo0 (by simp[ha.still]) ?_ m
 rw[xjl]
 unfold xdr xas
 simp[mem0,xp5]
 unfold xhe
 obtain⟨NM,hNM⟩:∃NM,NN=NM+3:=⟨NN-3,by have:=xo8;omega⟩
 rw[hNM]
 obtain⟨m0,hm0⟩:∃m0:Mem,m0=((⟨[],1⟩:Mem).new (0,0,2) (.row [I 0,I 0] 0 false)).new (0,1,3) (.row [I 0,I 0] 0 false):=⟨_,rfl⟩
 rw[<-hm0]
 have g0:m0.get (0,1,3)=some (.row [I 0,I 0] 0 false):=by rw[hm0];simp
 have f0:m0.get (0,0,2)=some (.row [I 0,I 0] 0 false):=by rw[hm0];simp
 obtain⟨⟨p1,p2⟩,-⟩:=xtt 0 h0 hin
 obtain⟨⟨q1,q2⟩,-⟩:=xtt 1 h0 hin
 have step:∀(n:Nat) (kk:Nat) (M:Mem) (fc:Nat),((kk:Int)<2)->x1f (xnt d) [] 0 (n+1) a (.ptr (0,0,2) 0 0) (.ptr (0,1,3) 0 0) (I kk) M fc =
  x1e (xnt d) [] 0 (x1f (xnt d) [] 0 n) NN a (.ptr (0,0,2) 0 0) (.ptr (0,1,3) 0 0) (I kk) (I (-8)) M (fc+2+1):=λn kk M fc hkk=>by
  simp only[x1f]
  unfold xar xhd
  simp only[xou,hkk,x19d,xnz,xot]
 obtain⟨fc1,h1⟩:=l_medR d [] 0 (t2:=.ptr (0,0,2) 0 0) (x1f (xnt d) [] 0 (NM+2)) ha h0 hin hl 0 (by omega) g0 (medP 0 l+8).toNat (-8) NN (2+1+2+1) (by omega) (by omega) (by rw[xo8];omega)
 simp only[x19o]at h1
 obtain⟨fc2,h2⟩:=l_medR d [] 0 (t2:=.ptr (0,0,2) 0 0) (x1f (xnt d) [] 0 (NM+1)) ha h0 hin hl 1 (by omega) (p:=medP 0 l) (q:=0) (m:=m0.set (0,1,3) (.row [I (medP 0 l),I 0] 0 false)) (by simp) (medP 1 l+8).toNat (-8) NN (fc1+2+1) (by omega) (by omega) (by rw[xo8];omega)
 have s0:=step (NM+2) 0 m0 (2+1) (by omega)
 have s1:=step (NM+1) 1 (m0.set (0,1,3) (.row [I (medP 0 l),I 0] 0 false)) fc1 (by omega)
 rw[show(I ((0:Nat):Int))=I 0 from rfl]at s0 h1
 rw[s0,h1]
 rw[show(I ((0+1:Nat):Int))=I ((1:Nat):Int)from rfl,s1,h2]
 simp only[x1f]
 unfold xar xha
 simp[f0,sLdP]
 exact RetF.st (a:=.agg [I (medP 0 l),I (medP 1 l)]) rfl rfl
def xpl(l:List Mp)(tol:Int)(x:Mp):Bool:=decide (((x.b0-medP 0 l).natAbs:Int)<=tol)&&decide (((x.b1-medP 1 l).natAbs:Int)<=tol)
def xpr(q:Mp->Bool):Nat->List Mp->List Int
 |_,[]=>[]
 |k,x::r=>(bif q x then[(k:Int)]else[])++xpr q (k+1) r
theorem xzq(q:Mp->Bool):∀(l:List Mp) (k:Nat),(xpr q k l).length<=l.length
 |[],_=>x196 _
 |x::r,k=>by
  have:=xzq q r (k+1)
  simp only[xpr,x1a2,x19e]
  cases q x<;>simp<;>omega
theorem xtu(d:Nat)(x:Int)(m:Mem)(h1:-9223372036854775808<x)(h2:x<=9223372036854775807):xnu (xnt (d+1)) xh [I x] m=some (I (x.natAbs:Int),m):=by
 refine call0 rfl (m':=⟨[],1⟩) ?_ rfl
 rw[xi6]
 unfold x7v x71
 simp(disch:=omega) [mem0]
 split<;>omega
theorem l_kept(d:Nat)(hs:FHs)(u:Nat)(ha:Pts a l)(hl:l.length<=MED)(hin:xod l)(tol:Int):∀(suf:List Mp) (k j:Nat) (v:AV) (acc:List Int) (m:Mem) (fc:Nat),l.drop k=suf->suf.length<j->acc.length<=k->k<=1000 ->
 Gk 1 intE (λid=>id.1=u/\id.2.2=41) m v acc ->
 ∃v' m',x4w (xnt (d+6)) hs u j a (I tol) v a (I l.length) (I k) m fc=some (v',m')/\Gk 1 intE (λid=>id.1=u/\id.2.2=41) m' v' (acc++xpr (xpl l tol) k suf):=by
 have hM:=xvz
 intro suf
 induction suf with
 |nil=>
  intro k j v acc m fc hd hj hacc hk1 hG
  obtain⟨j,rfl⟩:∃i,j=i+1:=⟨j-1,by simp at hj;omega⟩
  have hk0:=x19k.mp hd
  have hk:¬((k:Int)<(l.length:Int)):=by omega
  simp only[x4w]
  unfold x8h
  simp[hk,xfd,xpr]
  exact⟨_,_,⟨rfl,rfl⟩,hG⟩
 |cons e r ih=>
  intro k j v acc m fc hd hj hacc hk1 hG
  obtain⟨j,rfl⟩:∃i,j=i+1:=⟨j-1,by simp at hj;omega⟩
  obtain⟨hk,he,hd⟩:=xpe hd
  have hk':(k:Int)<(l.length:Int):=by omega
  have hne:l≠[]:=by rintro rfl;simp at hk
  have ix:=ha.ix Mp.len hk
  have ld:=xtj (m:=m) Mp.len (by omega) hk
  rw[he]at ld
  have md:=w_median d ha hne hl
  have hp:=hin e (he▸x19j hk)
  have hb0:=hp.b0
  have hb1:=hp.b1
  obtain⟨⟨p1,p2⟩,-⟩:=xtt 0 hne hin
  obtain⟨⟨q1,q2⟩,-⟩:=xtt 1 hne hin
  unfold bd at hb0 hb1
  have sz0:=xtu (d+5) (e.b0-medP 0 l)
  have sz1:=xtu (d+5) (e.b1-medP 1 l)
  obtain⟨M,hM⟩:∃M:Mem,M=((((m.new (u,fc+1+3,7) (.row [I 0,I 0,I 0,I 0,I 0] 0 false)).set (u,fc+1+3,7) (.row [I e.ln,I e.sm,I e.b0,I e.b1,I e.sc] 0 false)).new (u,fc+1+8,8) (.row [I 0,I 0] 0 false)).set (u,fc+1+8,8) (.row [I (medP 0 l),I (medP 1 l)] 0 false)):=⟨_,rfl⟩
  have hG1:Gk 1 intE (λid=>id.1=u/\id.2.2=41) M v acc:=hG.frame λid hid=>by
   rw[hM,Mem.get_set,if_neg (by rintro rfl;simp at hid),Mem.get_new,if_neg (by rintro rfl;simp at hid),Mem.get_set,if_neg (by rintro rfl;simp at hid),Mem.get_new,if_neg (by rintro rfl;simp at hid)]
  have hel:∀(M:Mem) (x:Int),elems M.get 1 (.slit [I x] 1 true)=some (intE x,1):=λ_ _=>rfl
  simp only[x4w]
  unfold x8h xfe x8g
  simp only[xnz,xou,hk',x19d,xot,ix,ld]
  simp(disch:=omega) [Mp.c,z_pt,xp5,md,sIxA,asI,xnx,sz0]
  rw[xpr]
  have e1:xpl l tol e=(decide (((e.b0-medP 0 l).natAbs:Int)<=tol)&&decide (((e.b1-medP 1 l).natAbs:Int)<=tol)):=rfl
  by_cases c0:((e.b0-medP 0 l).natAbs:Int)<=tol
  .by_cases c1:((e.b1-medP 1 l).natAbs:Int)<=tol
   .obtain⟨v',m3,A,hG3,u1,u2,n3,f3⟩:=Gk.app (ok:=λid=>id.1=u/\id.2.2=41) xtk (by omega) (bytes:=8) (id0:=(u,fc+1+33,41)) ⟨rfl,rfl⟩ (by unfold xol;omega) hG1 (k:Int)
    obtain⟨v2,m4,h1,h2⟩:=ih (k+1) j v' (acc++[(k:Int)]) m3 (fc+1+35+2) hd (by simp at hj;omega) (by simp;omega) (by omega) hG3
    refine⟨v2,m4,?_,?_⟩
    .rw[<-h1]
     rw[<-hM]
     simp(disch:=omega) [c0,c1,hM,sIxA,asI,xnx,sz1]
     rw[<-hM]
     simp(disch:=omega) [xx3,hel,A,xnx]
    .rw[e1]
     simp only[c0,c1,x19d,x1cv,xqc]
     rw[<-x1ao]
     exact h2
   .obtain⟨v2,m4,h1,h2⟩:=ih (k+1) j v acc M (fc+1+30+2) hd (by simp at hj;omega) (by omega) (by omega) hG1
    refine⟨v2,m4,?_,?_⟩
    .rw[<-h1]
     simp(disch:=omega) [c0,c1,hM,sIxA,asI,xnx,sz1]
    .rw[e1]
     simp only[c0,c1,x1a8,x1dr,xrs,x19r]
     exact h2
  .obtain⟨v2,m4,h1,h2⟩:=ih (k+1) j v acc M (fc+1+30+2) hd (by simp at hj;omega) (by omega) (by omega) hG1
   refine⟨v2,m4,?_,?_⟩
   .rw[<-h1]
    simp(disch:=omega) [c0,hM,xnx]
   .rw[e1]
    simp only[c0,x1a8,Bool.false_and,xrs,x19r]
    exact h2
theorem w_kept(d:Nat)(ha:Pts a l)(hl:l.length<=MED)(hin:xod l)(tol:Int)(m:Mem):∃x,Ints x (xpr (xpl l tol) 0 l)/\xnu (xnt (d+7)) x2d [a,I tol] m=some (x,m):=by
 have hM:=xvz
 obtain⟨v',m',h1,h2⟩:=l_kept d [] 0 ha hl hin tol l 0 NN nilS [] ⟨[],1⟩ (2+3) rfl (by rw[xo8];omega) (by simp) (by omega) Gk.nil
 obtain⟨x,hx,hfz⟩:=h2.frz (k:=4) xtk x12n
 refine⟨x,by simpa using hx,xo0 (by simp[ha.still]) ?_ m⟩
 rw[xix]
 unfold xd3 x8i xff
 rw[show I ((0:Nat):Int)=I 0 from rfl]at h1
 have hlen:sLen Tryz.prog x11 a=some (I l.length):=ha.len xxh
 simp only[mem0,hlen,xnz]
 exact⟨v',m',x,h1,hfz,rfl⟩
end Go.Ix
