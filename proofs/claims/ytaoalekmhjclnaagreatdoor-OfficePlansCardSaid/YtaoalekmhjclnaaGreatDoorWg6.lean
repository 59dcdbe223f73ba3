import Derived.Test.YtaoalekmhjclnaaGreatDoorWg5
set_option linter.unusedSimpArgs false
set_option linter.unusedVariables false
namespace Go.Ix
open Go.Proofs
variable{ok:Id->Prop}{a:AV}{N:Nat}{M:Mem}{m m':Mem}{L:List Ev}
theorem l_swapE(call:x17c)(hs:FHs)(u:Nat){n0 a0 b0:Nat}(h0:a0<=200/\b0<=200/\n0<=200):∀(P S X Q Y:List Ev) (i j:Nat) (m:Mem) (fc:Nat),P.length=S.length->P.length<j->a0+i=X.length->b0+i=X.length+P.length+Q.length->n0=i+P.length ->
 Hd ok a N M m (X++(P++(Q++(S++Y))))->∃m',x35 call hs u j a (I a0) (I b0) (I n0) (I i) m fc=some (.tup [],m')/\Hd ok a N M m' (X++(S++(Q++(P++Y)))):=by
 intro P
 induction P with
 |nil=>
  intro S X Q Y i j m fc hl hj h1 h2 h3 h
  obtain⟨j,rfl⟩:∃i,j=i+1:=⟨j-1,by simp at hj;omega⟩
  have hS:S=[]:=by cases S with
   |nil=>rfl
   |cons _ _=>simp at hl
  subst hS
  simp only[x1rm]at h3
  have:¬((i:Int)<(n0:Int)):=by omega
  simp only[x35]
  unfold xa4
  simp only[x17x,this,x1qj,x17m,x182]
  exact⟨m,rfl,h⟩
 |cons p P ih=>
  intro S X Q Y i j m fc hl hj h1 h2 h3 h
  obtain⟨j,rfl⟩:∃i,j=i+1:=⟨j-1,by simp at hj;omega⟩
  cases S with
  |nil=>simp at hl
  |cons s S=>
   simp only[x1r5]at hl hj h1 h2 h3
   have hlt:((i:Int)<(n0:Int)):=by omega
   have e:X++(p::P++(Q++(s::S++Y)))=X++p::((P++Q)++s::(S++Y)):=by simp
   rw[e]at h
   obtain⟨pu,pv,i1,i2,d1,d2,⟨m2,k2,H2⟩,-⟩:=h.swap (i:=a0+i) (j:=b0+i) h1 (by rw[x1qu];omega)
   have e2:X++s::((P++Q)++p::(S++Y))=(X++[s])++(P++((Q++[p])++(S++Y))):=by simp
   rw[e2]at H2
   obtain⟨m3,r3,H3⟩:=ih S (X++[s]) (Q++[p]) Y (i+1) j m2 (fc+30) (by omega) (by omega) (by simp;omega) (by simp;omega) (by omega) H2
   refine⟨m3,?_,by simpa using H3⟩
   rw[<-r3]
   simp only[x35]
   unfold xa4
   simp only[x17x,hlt,x1qk,x17m,x184,x18r]
   rw[x17t (by omega) (by omega),x17t (by omega) (by omega),x17t (by omega) (by omega),show(a0:Int)+i=((a0+i:Nat):Int) by omega,show(b0:Int)+i=((b0+i:Nat):Int) by omega,show(i:Int)+1=((i+1:Nat):Int) by omega]
   simp only[i1,i2,d1,d2,x17m,k2]
theorem x1g7(d:Nat)(hok:∀j,ok j->j.1<N)(hs:FHs){f:AV}{X P Q S Y:List Ev}{a0 b0 n0:Nat}(h0:a0<=200/\b0<=200/\n0<=200)(hl:P.length=S.length)(h1:a0=X.length)(h2:b0=X.length+P.length+Q.length)(h3:n0=P.length)(h:Hd ok a N M m (X++(P++(Q++(S++Y))))) :
 ∃m',x17h (d+1) hs x17 [a,I a0,I b0,I n0,f] m=some (.tup [],m')/\Hd ok a N M m' (X++(S++(Q++(P++Y)))):=by
 obtain⟨m',r,H⟩:=l_swapE (x17h d) hs m.next h0 P S X Q Y 0 NN ⟨m.hp,m.next+1⟩ 1 hl (by rw[x18k];omega) (by omega) (by omega) (by omega) (h.call hok)
 refine⟨m',?_,H⟩
 rw[x10e]
 unfold xb4 xa5
 exact r
theorem l_rotE(d:Nat)(hok:∀j,ok j->j.1<N)(hs:FHs)(u:Nat){f:AV}{mm:Nat}(hm0:mm<=200):∀(k:Nat) (X A B Y:List Ev) (j:Nat) (m:Mem) (fc:Nat),A.length+B.length<=k->A≠[]->B≠[]->X.length+A.length=mm->mm+B.length<=200->A.length+B.length<=j ->
 Hd ok a N M m (X++(A++(B++Y)))->∃m',x4p (x17h (d+1)) hs u j a (I mm) f (I A.length) (I B.length) m fc=some (.tup [],m')/\Hd ok a N M m' (X++(B++(A++Y))):=by
 intro k
 induction k with
 |zero=>
  intro X A B Y j m fc hk hA
  exact absurd (x1rd.mp (by omega)) hA
 |succ k ih=>
  intro X A B Y j m fc hk hA hB hX hle hj h
  have ha1:=x1sf.mpr hA
  have hb1:=x1sf.mpr hB
  obtain⟨j,rfl⟩:∃i,j=i+1:=⟨j-1,by omega⟩
  simp only[x4p]
  unfold xfa
  by_cases c:A.length=B.length
  .obtain⟨m1,r1,H1⟩:=x1g7 d hok hs (f:=f) (X:=X) (P:=A) (Q:=[]) (S:=B) (Y:=Y) (a0:=mm-A.length) (b0:=mm) (n0:=A.length) (by omega) c (by omega) (by rw[x1rm];omega) rfl (by simpa using h)
   have hne:¬((A.length:Int)≠(B.length:Int)):=by omega
   unfold xf9
   simp only[sNe_I,show(!decide ((A.length:Int)=(B.length:Int)))=false by simp;omega,x17m,x182,x197]
   rw[x17t (by omega) (by omega),show(mm:Int)-A.length=((mm-A.length:Nat):Int) by omega]
   simp only[x17m,r1]
   exact⟨m1,rfl,by simpa using H1⟩
  .simp only[sNe_I,show(!decide ((A.length:Int)=(B.length:Int)))=true by simp;omega,x17m,x184,x1ag]
   by_cases c2:B.length<A.length
   .obtain⟨A1,A2,rfl,hA1⟩:=x1ce A B.length (by omega)
    simp only[x1qu]at *
    obtain⟨m1,r1,H1⟩:=x1g7 d hok hs (f:=f) (X:=X) (P:=A1) (Q:=A2) (S:=B) (Y:=Y) (a0:=mm-(A1.length+A2.length)) (b0:=mm) (n0:=B.length) (by omega) hA1 (by omega) (by omega) (by omega) (by simpa using h)
    have e:X++(B++(A2++(A1++Y)))=(X++B)++(A2++(A1++Y)):=by simp
    rw[e]at H1
    have hA2:A2≠[]:=by rintro rfl;simp at c2;omega
    have hA1':A1≠[]:=by rintro rfl;simp at hA1;omega
    obtain⟨m2,r2,H2⟩:=ih (X++B) A2 A1 Y j m1 (fc+18) (by omega) hA2 hA1' (by simp;omega) (by omega) (by omega) H1
    refine⟨m2,?_,by simpa using H2⟩
    have hlt:(B.length:Int)<((A1.length+A2.length:Nat):Int):=by omega
    rw[<-r2]
    simp only[hlt,x1qk,x17m,x184,x197]
    rw[x17t (by omega) (by omega),x17t (by omega) (by omega),show(mm:Int)-((A1.length+A2.length:Nat):Int)=((mm-(A1.length+A2.length):Nat):Int) by omega,show((A1.length+A2.length:Nat):Int)-(B.length:Int)=(A2.length:Int) by omega]
    simp only[x17m,r1]
    rw[show(B.length:Int)=(A1.length:Int) by omega]
   .obtain⟨B1,B2,rfl,hB1⟩:=x1ce B (B.length-A.length) (by omega)
    simp only[x1qu]at *
    have e0:X++(A++(B1++B2++Y))=X++(A++(B1++(B2++Y))):=by simp
    rw[e0]at h
    obtain⟨m1,r1,H1⟩:=x1g7 d hok hs (f:=f) (X:=X) (P:=A) (Q:=B1) (S:=B2) (Y:=Y) (a0:=mm-A.length) (b0:=mm+(B1.length+B2.length)-A.length) (n0:=A.length) (by omega) (by omega) (by omega) (by omega) rfl h
    have hB2:B2≠[]:=List.ne_nil_of_length_pos (by omega)
    have hB1':B1≠[]:=List.ne_nil_of_length_pos (by omega)
    obtain⟨m2,r2,H2⟩:=ih X B2 B1 (A++Y) j m1 (fc+22) (by omega) hB2 hB1' (by omega) (by omega) (by omega) H1
    refine⟨m2,?_,by simpa using H2⟩
    have hlt:¬(((B1.length+B2.length:Nat):Int)<(A.length:Int)):=by omega
    rw[<-r2]
    simp only[hlt,x1qj,x17m,x182,x197,x18r]
    have q1:w64 ((mm:Int)-(A.length:Int))=((mm-A.length:Nat):Int):=by rw[x17t (by omega) (by omega)];omega
    have q2:w64 ((mm:Int)+((B1.length+B2.length:Nat):Int))=(mm:Int)+((B1.length+B2.length:Nat):Int):=x17t (by omega) (by omega)
    have q3:w64 ((mm:Int)+((B1.length+B2.length:Nat):Int)-(A.length:Int))=((mm+(B1.length+B2.length)-A.length:Nat):Int):=by rw[x17t (by omega) (by omega)];omega
    have q4:w64 (((B1.length+B2.length:Nat):Int)-(A.length:Int))=(B1.length:Int):=by rw[x17t (by omega) (by omega)];omega
    rw[q1,q2,q3,q4]
    simp only[x17m,r1]
    rw[show(A.length:Int)=(B2.length:Int) by omega]
theorem c_rotE(d:Nat)(hok:∀j,ok j->j.1<N)(hs:FHs){f:AV}{X A B Y:List Ev}{a0 m0 b0:Nat}(hA:A≠[])(hB:B≠[])(h1:a0=X.length)(h2:m0=X.length+A.length)(h3:b0=X.length+A.length+B.length)(hb:b0<=200)(h:Hd ok a N M m (X++(A++(B++Y)))) :
 ∃m',x17h (d+2) hs x2g [a,I a0,I m0,I b0,f] m=some (.tup [],m')/\Hd ok a N M m' (X++(B++(A++Y))):=by
 obtain⟨m',r,H⟩:=l_rotE d hok hs m.next (f:=f) (mm:=m0) (by omega) (A.length+B.length) X A B Y NN ⟨m.hp,m.next+1⟩ 8 (x1qi _) hA hB h2.symm (by omega) (by rw[x18k];omega) (h.call hok)
 refine⟨m',?_,H⟩
 rw[x10d]
 unfold xb3 xa1
 simp only[x197,x17m]
 rw[x17t (by omega) (by omega),x17t (by omega) (by omega),show(m0:Int)-(a0:Int)=(A.length:Int) by omega,show(b0:Int)-(m0:Int)=(B.length:Int) by omega]
 exact r
end Go.Ix
namespace Go.Ix
open Go.Proofs
variable{ok:Id->Prop}{a:AV}{N:Nat}{M:Mem}{m m':Mem}{L:List Ev}
def RE(x y:Ev):Prop:=x.t<y.t\/x.t=y.t/\x.ix<y.ix
theorem x1ba{x y z:Ev}(h:RE x y)(k:RE y z):RE x z:=by
 unfold RE at *
 omega
def IxE(x y:Ev):Prop:=x.ix<y.ix
theorem rev_ind{α:Type}{P:List α->Prop}(h0:P [])(h1:∀l x,P l->P (l++[x])):∀l,P l:=by
 intro l
 generalize hn:l.length=n
 induction n generalizing l with
 |zero=>rw[x1rd.mp hn];exact h0
 |succ n ih=>
  obtain⟨l',x,rfl⟩:=x1dm l (by rintro rfl;simp at hn)
  exact h1 l' x (ih l' (by simpa using hn))
theorem l_insE1(call:x17c)(hok:∀j,ok j->j.1<N){f:AV}(hf:CmpE call f)(hs:FHs)(u:Nat)(rec0:x17j){a0 b0 i0:Nat}(hi:i0<=200):∀(S:List Ev) (X U:List Ev) (x:Ev) (j q:Nat) (m:Mem) (fc:Nat),S.length<j->a0=X.length->q=X.length+S.length->q<=200 ->
 S.Pairwise RE->(∀y∈S,y.ix<x.ix)->Hd ok a N M m (X++(S++x::U)) ->
 ∃C m' fc',x20 call hs u rec0 j a (I a0) (I b0) f (I i0) (I q) m fc=rec0 a (I a0) (I b0) f (I (i0+1:Nat)) m' fc'/\Hd ok a N M m' (X++(C++U))/\C.Pairwise RE/\C.Perm (S++[x]):=by
 intro S
 induction S using rev_ind with
 |h0=>
  intro X U x j q m fc hj h1 h2 h3 _ _ h
  obtain⟨j,rfl⟩:∃i,j=i+1:=⟨j-1,by simp at hj;omega⟩
  simp only[x1rm]at h2
  have:¬((a0:Int)<(q:Int)):=by omega
  refine⟨[x],m,fc+17+3,?_,by simpa using h,by simp,x1sk _⟩
  .simp only[x20]
   unfold x4k x9o
   simp only[x1ag,this,x1qj,x17m,x19f,x19g,sGp_eq,sW_t,x19o,x19d,x182,x18r]
   rw[x17t (by omega) (by omega),show(i0:Int)+1=((i0+1:Nat):Int) by omega]
 |h1 S y ih=>
  intro X U x j q m fc hj h1 h2 h3 hS hx h
  obtain⟨j,rfl⟩:∃i,j=i+1:=⟨j-1,by simp at hj;omega⟩
  simp only[x1qu,x1t3]at h2 hj
  have hlt:((a0:Int)<(q:Int)):=by omega
  have e:X++(S++[y]++x::U)=(X++S)++y::([]++x::U):=by simp
  rw[e]at h
  have hl1:q-1<((X++S)++y::([]++x::U)).length:=by simp;omega
  have hl2:q<((X++S)++y::([]++x::U)).length:=by simp;omega
  have g1:gtE ((X++S)++y::([]++x::U)) (q-1)=y:=x19y rfl (by simp;omega)
  have g2:gtE ((X++S)++y::([]++x::U)) q=x:=x19y (P:=X++S++[y]) (Q:=U) (by simp) (by simp;omega)
  obtain⟨p1,i1,d1⟩:=h.ld hl1
  obtain⟨p2,i2,d2⟩:=h.ld hl2
  rw[g1]at d1
  rw[g2]at d2
  obtain⟨m1,c1,H1⟩:=h.cmp hok hf hs x y
  have hq1:w64 ((q:Int)-1)=((q-1:Nat):Int):=by rw[x17t (by omega) (by omega)];omega
  obtain⟨pu,pv,v1,v2,v3,v4,-,⟨m2,k2,H2⟩⟩:=H1.swap (i:=q-1) (j:=q) (by simp;omega) (by simp;omega)
  obtain rfl:pu=p1:=by rw[i1]at v1;cases v1;rfl
  obtain rfl:pv=p2:=by rw[i2]at v2;cases v2;rfl
  rw[x1rx]at hS
  simp only[x1qo,x1ry,x1rh]at hS hx
  obtain⟨hS1,-,hS2⟩:=hS
  by_cases c:x.t-y.t<0
  .have e2:(X++S)++x::([]++y::U)=X++(S++x::(y::U)):=by simp
   rw[e2]at H2
   obtain⟨C,m3,fc3,r3,H3,hC,hP⟩:=ih X (y::U) x j (q-1) m2 (fc+38) (by omega) h1 (by omega) (by omega) hS1 (λz hz=>hx z (.inl hz)) H2
   refine⟨C++[y],m3,fc3,?_,by simpa using H3,?_,?_⟩
   .rw[<-r3]
    simp only[x20]
    unfold x4k
    simp only[x1ag,hlt,x1qk,x17m,x19f,x19g,sGp_eq,sW_t,x18l,i2,d2,x197,hq1,i1,d1,c1,x17x,c,x19d,x184,v1,v2,v3,v4,k2]
   .rw[x1rx]
    refine⟨hC,by simp,λz hz w hw=>?_⟩
    simp only[x1ry]at hw
    subst hw
    rcases x1rh.mp (hP.mem_iff.mp hz)with hz|hz
    .exact hS2 z hz w rfl
    .simp only[x1ry]at hz
     subst hz
     exact .inl (by omega)
   .refine(hP.append_right [y]).trans ?_
    rw[x1s6,x1s6]
    exact x1u1 S (List.Perm.swap y x [])
  .refine⟨S++[y]++[x],m1,fc+17+3,?_,by simpa using H1,?_,x1sk _⟩
   .simp only[x20]
    unfold x4k x9o
    simp only[x1ag,hlt,x1qk,x17m,x19f,x19g,sGp_eq,sW_t,x18l,i2,d2,x197,hq1,i1,d1,c1,x17x,c,x1qj,x19d,x182,x18r]
    rw[x17t (by omega) (by omega),show(i0:Int)+1=((i0+1:Nat):Int) by omega]
   .have hyx:RE y x:=by
     have:=hx y (.inr rfl)
     unfold RE
     omega
    rw[x1rx,x1rx]
    refine⟨⟨hS1,by simp,λz hz w hw=>by simp only[x1ry]at hw;subst hw;exact hS2 z hz w rfl⟩,by simp,λz hz w hw=>?_⟩
    simp only[x1ry]at hw
    subst hw
    rcases x1rh.mp hz with hz|hz
    .exact x1ba (hS2 z hz y rfl) hyx
    .simp only[x1ry]at hz
     subst hz
     exact hyx
theorem l_insE0(call:x17c)(hok:∀j,ok j->j.1<N){f:AV}(hf:CmpE call f)(hs:FHs)(u:Nat){a0 b0:Nat}:∀(T C X Y:List Ev) (j q:Nat) (m:Mem) (fc:Nat),T.length<j->a0=X.length->q=X.length+C.length->b0=X.length+C.length+T.length->b0<=200 ->
 C.Pairwise RE->T.Pairwise IxE->(∀y∈C,∀x∈T,y.ix<x.ix)->Hd ok a N M m (X++(C++(T++Y))) ->
 ∃D m',x1a call hs u j a (I a0) (I b0) f (I q) m fc=some (.tup [],m')/\Hd ok a N M m' (X++(D++Y))/\D.Pairwise RE/\D.Perm (C++T):=by
 intro T
 induction T with
 |nil=>
  intro C X Y j q m fc hj h1 h2 h3 h4 hC _ _ h
  obtain⟨j,rfl⟩:∃i,j=i+1:=⟨j-1,by simp at hj;omega⟩
  simp only[x1rm]at h3
  have:¬((q:Int)<(b0:Int)):=by omega
  refine⟨C,m,?_,by simpa using h,hC,by simp⟩
  simp only[x1a]
  unfold x4l
  simp only[x17x,this,x1qj,x17m,x182]
 |cons x T ih=>
  intro C X Y j q m fc hj h1 h2 h3 h4 hC hT hCT h
  obtain⟨j,rfl⟩:∃i,j=i+1:=⟨j-1,by simp at hj;omega⟩
  simp only[x1r5]at h3 hj
  have hlt:((q:Int)<(b0:Int)):=by omega
  obtain⟨D,m1,fc1,r1,H1,hD,hP⟩:=l_insE1 call hok hf hs u (x1a call hs u j) (a0:=a0) (b0:=b0) (i0:=q) (by omega) C X (T++Y) x NN q m (fc+3+2) (by rw[x18k];omega) h1 h2 (by omega) hC (λy hy=>hCT y hy x (by simp)) (by simpa using h)
  have hlen:=hP.length_eq
  simp only[x1qu,x1t3]at hlen
  obtain⟨E,m2,r2,H2,hE,hQ⟩:=ih D X Y j (q+1) m1 fc1 (by omega) h1 (by omega) (by omega) h4 hD (x1qo.mp hT).2 (λy hy z hz=>by
   rcases x1rh.mp (hP.mem_iff.mp hy)with hy|hy
   .exact hCT y hy z (by simp[hz])
   .simp only[x1ry]at hy
    subst hy
    exact(x1qo.mp hT).1 z hz) H1
  refine⟨E,m2,?_,H2,hE,hQ.trans ?_⟩
  .rw[<-r2,<-r1]
   simp only[x1a]
   unfold x4l xe7
   simp only[x17x,hlt,x1qk,x17m,x184]
  .have:=hP.append_right T
   simpa using this
theorem c_insE(d:Nat)(hok:∀j,ok j->j.1<N){f:AV}(hf:∀d,CmpE (x17h (d+1)) f)(hs:FHs){X A Y:List Ev}{a0 b0:Nat}(h1:a0=X.length)(h2:b0=X.length+A.length)(hb:b0<=200)(hA:A.Pairwise IxE)(h:Hd ok a N M m (X++(A++Y))) :
 ∃D m',x17h (d+2) hs x1l [a,I a0,I b0,f] m=some (.tup [],m')/\Hd ok a N M m' (X++(D++Y))/\D.Pairwise RE/\D.Perm A:=by
 rw[x10b]
 unfold xb1 x9p
 simp only[x18r,x17m]
 rw[x17t (by omega) (by omega)]
 cases A with
 |nil=>
  refine⟨[],⟨m.hp,m.next+1⟩,?_,h.call hok,List.Pairwise.nil,x1sk _⟩
  simp only[x1rm]at h2
  have:¬((a0:Int)+1<(b0:Int)):=by omega
  obtain⟨NM,hNM⟩:∃NM,NN=NM+1:=⟨NN-1,by have:=x18k;omega⟩
  rw[hNM]
  simp only[x1a]
  unfold x4l
  simp only[x17x,this,x1qj,x17m,x182]
 |cons x T=>
  simp only[x1r5]at h2
  obtain⟨E,m2,r2,H2,hE,hQ⟩:=l_insE0 (x17h (d+1)) hok (hf d) hs m.next (a0:=a0) (b0:=b0) T [x] X Y NN (a0+1) ⟨m.hp,m.next+1⟩ 3 (by rw[x18k];omega) h1 (by simp;omega) (by simp;omega) hb (by simp) (x1qo.mp hA).2 (λy hy z hz=>by
   simp only[x1ry]at hy
   subst hy
   exact(x1qo.mp hA).1 z hz) (by simpa using h.call hok)
  exact⟨E,m2,r2,H2,hE,hQ⟩
end Go.Ix
