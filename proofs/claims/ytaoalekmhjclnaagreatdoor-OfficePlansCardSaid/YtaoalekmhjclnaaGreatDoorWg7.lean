import Derived.Test.YtaoalekmhjclnaaGreatDoorWg6
set_option linter.unusedSimpArgs false
set_option linter.unusedVariables false
namespace Go.Ix
open Go.Proofs
variable{ok:Id->Prop}{a:AV}{N:Nat}{M:Mem}{m m':Mem}{L:List Ev}
theorem l_srch4(call:x17c)(hok:∀j,ok j->j.1<N){f:AV}(hf:CmpE call f)(hs:FHs)(u:Nat){a0 lo hi:Nat}(ha:a0<L.length)(hhi:hi<=L.length)(h100:hi<=100) :
 ∀(n i j q:Nat) (m:Mem) (fc:Nat),i+n=j->n<q->lo<=i->j<=hi->Hd ok a N M m L->(i=lo\/(gtE L (i-1)).t<(gtE L a0).t)->(j=hi\/¬(gtE L j).t<(gtE L a0).t) ->
 ∃(s:Nat) (m':Mem) (fc':Nat),x33 call hs u q a (I a0) f (I i) (I j) m fc=x9x call hs u a (I a0) (I s) m' fc'/\Hd ok a N M m' L/\lo<=s/\s<=hi/\(s=lo\/(gtE L (s-1)).t<(gtE L a0).t)/\(s=hi\/¬(gtE L s).t<(gtE L a0).t):=by
 intro n
 induction n using Nat.strongRecOn with
 |ind n ih=>
  intro i j q m fc hn hq h1 h2 h hl hr
  obtain⟨q,rfl⟩:∃i,q=i+1:=⟨q-1,by omega⟩
  by_cases c:i<j
  .have hlt:(i:Int)<(j:Int):=by omega
   obtain⟨p1,i1,d1⟩:=h.ld (k:=(i+j) / 2) (by omega)
   obtain⟨p2,i2,d2⟩:=h.ld ha
   obtain⟨m1,c1,H1⟩:=h.cmp hok hf hs (gtE L ((i+j) / 2)) (gtE L a0)
   simp only[x33]
   unfold x9y
   simp only[x17x,hlt,x1qk,x17m,x184]
   rw[x1em (by omega)]
   simp only[i1,d1,i2,d2,c1,x17m]
   by_cases c2:(gtE L ((i+j) / 2)).t-(gtE L a0).t<0
   .simp only[x17x,c2,x1qk,x17m,x184,x18r]
    rw[x17t (by omega) (by omega),show(((i+j) / 2:Nat):Int)+1=(((i+j) / 2+1:Nat):Int) by omega]
    exact ih (j-((i+j) / 2+1)) (by omega) _ j q m1 _ (by omega) (by omega) (by omega) h2 H1 (.inr (by rw[show(i+j) / 2+1-1=(i+j) / 2 by omega];omega)) hr
   .simp only[x17x,c2,x1qj,x17m,x182]
    exact ih ((i+j) / 2-i) (by omega) i _ q m1 _ (by omega) (by omega) h1 (by omega) H1 hl (.inr (by omega))
  .have hlt:¬(i:Int)<(j:Int):=by omega
   have:i=j:=by omega
   subst this
   refine⟨i,m,fc+3,?_,h,h1,h2,hl,hr⟩
   simp only[x33]
   unfold x9y
   simp only[x17x,hlt,x1qj,x17m,x182]
theorem l_srch2(call:x17c)(hok:∀j,ok j->j.1<N){f:AV}(hf:CmpE call f)(hs:FHs)(u:Nat){a0 lo hi:Nat}(ha:a0<L.length)(hhi:hi<=L.length)(h100:hi<=100) :
 ∀(n i j q:Nat) (m:Mem) (fc:Nat),i+n=j->n<q->lo<=i->j<=hi->Hd ok a N M m L->(i=lo\/¬(gtE L a0).t<(gtE L (i-1)).t)->(j=hi\/(gtE L a0).t<(gtE L j).t) ->
 ∃(s:Nat) (m':Mem) (fc':Nat),x31 call hs u q a (I a0) f (I i) (I j) m fc=x9u call hs u a (I a0) (I s) m' fc'/\Hd ok a N M m' L/\lo<=s/\s<=hi/\(s=lo\/¬(gtE L a0).t<(gtE L (s-1)).t)/\(s=hi\/(gtE L a0).t<(gtE L s).t):=by
 intro n
 induction n using Nat.strongRecOn with
 |ind n ih=>
  intro i j q m fc hn hq h1 h2 h hl hr
  obtain⟨q,rfl⟩:∃i,q=i+1:=⟨q-1,by omega⟩
  by_cases c:i<j
  .have hlt:(i:Int)<(j:Int):=by omega
   obtain⟨p1,i1,d1⟩:=h.ld (k:=(i+j) / 2) (by omega)
   obtain⟨p2,i2,d2⟩:=h.ld ha
   obtain⟨m1,c1,H1⟩:=h.cmp hok hf hs (gtE L a0) (gtE L ((i+j) / 2))
   simp only[x31]
   unfold x9v
   simp only[x17x,hlt,x1qk,x17m,x184]
   rw[x1em (by omega)]
   simp only[i1,d1,i2,d2,c1,x17m]
   by_cases c2:(gtE L a0).t-(gtE L ((i+j) / 2)).t<0
   .simp only[x17x,c2,x1qk,x17m,x1dh,x1sh,x182]
    exact ih ((i+j) / 2-i) (by omega) i _ q m1 _ (by omega) (by omega) h1 (by omega) H1 hl (.inr (by omega))
   .simp only[x17x,c2,x1qj,x17m,x1dh,x1rz,x184,x18r]
    rw[x17t (by omega) (by omega),show(((i+j) / 2:Nat):Int)+1=(((i+j) / 2+1:Nat):Int) by omega]
    exact ih (j-((i+j) / 2+1)) (by omega) _ j q m1 _ (by omega) (by omega) (by omega) h2 H1 (.inr (by rw[show(i+j) / 2+1-1=(i+j) / 2 by omega];omega)) hr
  .have hlt:¬(i:Int)<(j:Int):=by omega
   have:i=j:=by omega
   subst this
   refine⟨i,m,fc+3,?_,h,h1,h2,hl,hr⟩
   simp only[x31]
   unfold x9v
   simp only[x17x,hlt,x1qj,x17m,x182]
theorem l_srch0(call:x17c)(hok:∀j,ok j->j.1<N){f:AV}(hf:CmpE call f)(hs:FHs)(u:Nat){a0 m0 b0 md nn p lo hi:Nat}(hp:∀c,lo<=c->c<hi->c<=p/\p-c<L.length)(hhi:hi<=L.length)(h100:hi<=100)(hp2:p<=1000) :
 ∀(n i j q:Nat) (m:Mem) (fc:Nat),i+n=j->n<q->lo<=i->j<=hi->Hd ok a N M m L->(i=lo\/¬(gtE L (p-(i-1))).t<(gtE L (i-1)).t)->(j=hi\/(gtE L (p-j)).t<(gtE L j).t) ->
 ∃(s:Nat) (m':Mem) (fc':Nat),x2z call hs u q a (I a0) (I m0) (I b0) f (I md) (I nn) (I i) (I j) (I p) m fc=x4o call hs u a (I a0) (I m0) (I b0) f (I md) (I nn) (I s) m' fc'/\Hd ok a N M m' L/\lo<=s/\s<=hi/\(s=lo\/¬(gtE L (p-(s-1))).t<(gtE L (s-1)).t)/\(s=hi\/(gtE L (p-s)).t<(gtE L s).t):=by
 intro n
 induction n using Nat.strongRecOn with
 |ind n ih=>
  intro i j q m fc hn hq h1 h2 h hl hr
  obtain⟨q,rfl⟩:∃i,q=i+1:=⟨q-1,by omega⟩
  by_cases c:i<j
  .have hlt:(i:Int)<(j:Int):=by omega
   obtain⟨hp3,hp4⟩:=hp ((i+j) / 2) (by omega) (by omega)
   obtain⟨p1,i1,d1⟩:=h.ld (k:=(i+j) / 2) (by omega)
   obtain⟨p2,i2,d2⟩:=h.ld hp4
   obtain⟨m1,c1,H1⟩:=h.cmp hok hf hs (gtE L (p-(i+j) / 2)) (gtE L ((i+j) / 2))
   simp only[x2z]
   unfold x9q
   simp only[x17x,hlt,x1qk,x17m,x184]
   rw[x1em (by omega)]
   have hw:w64 ((p:Int)-(((i+j) / 2:Nat):Int))=((p-(i+j) / 2:Nat):Int):=by rw[x17t (by omega) (by omega)];omega
   simp only[x197,hw,i1,d1,i2,d2,c1,x17m]
   by_cases c2:(gtE L (p-(i+j) / 2)).t-(gtE L ((i+j) / 2)).t<0
   .simp only[x17x,c2,x1qk,x17m,x1dh,x1sh,x182]
    exact ih ((i+j) / 2-i) (by omega) i _ q m1 _ (by omega) (by omega) h1 (by omega) H1 hl (.inr (by omega))
   .simp only[x17x,c2,x1qj,x17m,x1dh,x1rz,x184,x18r]
    rw[x17t (by omega) (by omega),show(((i+j) / 2:Nat):Int)+1=(((i+j) / 2+1:Nat):Int) by omega]
    exact ih (j-((i+j) / 2+1)) (by omega) _ j q m1 _ (by omega) (by omega) (by omega) h2 H1 (.inr (by rw[show(i+j) / 2+1-1=(i+j) / 2 by omega];omega)) hr
  .have hlt:¬(i:Int)<(j:Int):=by omega
   have:i=j:=by omega
   subst this
   refine⟨i,m,fc+3,?_,h,h1,h2,hl,hr⟩
   simp only[x2z]
   unfold x9q
   simp only[x17x,hlt,x1qj,x17m,x182]
theorem l_upE(call:x17c)(hs:FHs)(u:Nat){i0:Nat}{Z:List Ev}{x:Ev}(h100:i0<=100)(h1:1<=i0):∀(B:List Ev) (X:List Ev) (k q:Nat) (m:Mem) (fc:Nat),k=X.length->i0=k+1+B.length->B.length<q->Hd ok a N M m (X++x::(B++Z)) ->
 ∃m',x32 call hs u q a (I i0) (I k) m fc=some (.tup [],m')/\Hd ok a N M m' (X++(B++x::Z)):=by
 intro B
 induction B with
 |nil=>
  intro X k q m fc hk hi hq h
  obtain⟨q,rfl⟩:∃i,q=i+1:=⟨q-1,by omega⟩
  simp only[x1rm]at hi
  refine⟨m,?_,by simpa using h⟩
  have hw:w64 ((i0:Int)-1)=(i0:Int)-1:=x17t (by omega) (by omega)
  have hlt:¬((k:Int)<(i0:Int)-1):=by omega
  simp only[x32]
  unfold x9w xef
  simp only[x197,hw,x17m,x17x,hlt,x1qj,x182]
 |cons y B ih=>
  intro X k q m fc hk hi hq h
  obtain⟨q,rfl⟩:∃i,q=i+1:=⟨q-1,by omega⟩
  simp only[x1r5]at hi hq
  obtain⟨pu,pv,v1,v2,v3,v4,⟨m2,k2,H2⟩,-⟩:=Hd.swap (Q:=[]) (s:=y) (Y:=B++Z) (p:=x) (X:=X) (i:=k) (j:=k+1) h hk (by simp;omega)
  have e:X++y::([]++x::(B++Z))=(X++[y])++x::(B++Z):=by simp
  rw[e]at H2
  obtain⟨m3,r3,H3⟩:=ih (X++[y]) (k+1) q m2 (fc+25) (by simp;omega) (by omega) (by omega) H2
  refine⟨m3,?_,by simpa using H3⟩
  have hw:w64 ((i0:Int)-1)=(i0:Int)-1:=x17t (by omega) (by omega)
  have hw2:w64 ((k:Int)+1)=((k+1:Nat):Int):=by rw[x17t (by omega) (by omega)];omega
  have hlt:((k:Int)<(i0:Int)-1):=by omega
  rw[<-r3]
  simp only[x32]
  unfold x9w
  simp only[x197,hw,x17m,x17x,hlt,x1qk,x184,x18r,hw2,v1,v2,v3,v4,k2]
theorem l_downE(call:x17c)(hs:FHs)(u:Nat){i0:Nat}{X:List Ev}{y:Ev}(h1:i0=X.length):∀(A:List Ev) (Z:List Ev) (k q:Nat) (m:Mem) (fc:Nat),k=i0+A.length->k<=100->A.length<q->Hd ok a N M m (X++(A++y::Z)) ->
 ∃m',x30 call hs u q a (I i0) (I k) m fc=some (.tup [],m')/\Hd ok a N M m' (X++y::(A++Z)):=by
 intro A
 induction A using rev_ind with
 |h0=>
  intro Z k q m fc hk h100 hq h
  obtain⟨q,rfl⟩:∃i,q=i+1:=⟨q-1,by omega⟩
  simp only[x1rm]at hk
  refine⟨m,?_,by simpa using h⟩
  have hlt:¬((i0:Int)<(k:Int)):=by omega
  simp only[x30]
  unfold x9t xea
  simp only[x1ag,hlt,x1qj,x182,x17m]
 |h1 A x ih=>
  intro Z k q m fc hk h100 hq h
  obtain⟨q,rfl⟩:∃i,q=i+1:=⟨q-1,by omega⟩
  simp only[x1qu,x1t3]at hk hq
  have e:X++(A++[x]++y::Z)=(X++A)++x::([]++y::Z):=by simp
  rw[e]at h
  obtain⟨pu,pv,v1,v2,v3,v4,-,⟨m2,k2,H2⟩⟩:=h.swap (i:=k-1) (j:=k) (by simp;omega) (by simp;omega)
  have e2:(X++A)++y::([]++x::Z)=X++(A++y::(x::Z)):=by simp
  rw[e2]at H2
  obtain⟨m3,r3,H3⟩:=ih (x::Z) (k-1) q m2 (fc+24) (by omega) (by omega) (by omega) H2
  refine⟨m3,?_,by simpa using H3⟩
  have hw:w64 ((k:Int)-1)=((k-1:Nat):Int):=by rw[x17t (by omega) (by omega)];omega
  have hlt:((i0:Int)<(k:Int)):=by omega
  rw[<-r3]
  simp only[x30]
  unfold x9t
  simp only[x1ag,hlt,x1qk,x184,x17m,x197,hw,v1,v2,v3,v4,k2]
end Go.Ix
namespace Go.Ix
open Go.Proofs
variable{ok:Id->Prop}{a:AV}{N:Nat}{M:Mem}{m m':Mem}{L:List Ev}
theorem x1do{A B:List Ev}(hA:A.Pairwise RE)(hB:B.Pairwise RE)(h:∀u∈A,∀v∈B,RE u v):(A++B).Pairwise RE:=x1rx.mpr ⟨hA,hB,h⟩
set_option maxHeartbeats 2000000 in
theorem c_symE(hok:∀j,ok j->j.1<N){f:AV}(hf:∀d,CmpE (x17h (d+1)) f):∀(D d:Nat) (hs:FHs) (X A B Y:List Ev) (m:Mem) (a0 m0 b0:Nat),A≠[]->B≠[]->A.length+B.length<=2 ^ D->a0=X.length->m0=X.length+A.length->b0=X.length+A.length+B.length->(X++(A++(B++Y))).length<=60 ->
 A.Pairwise RE->B.Pairwise RE->(∀x∈A,∀y∈B,x.ix<y.ix)->Hd ok a N M m (X++(A++(B++Y))) ->
 ∃C m',x17h (D+d+2) hs xy [a,I a0,I m0,I b0,f] m=some (.tup [],m')/\Hd ok a N M m' (X++(C++Y))/\C.Pairwise RE/\C.Perm (A++B):=by
 intro D
 induction D with
 |zero=>
  intro d hs X A B Y m a0 m0 b0 hA hB hD
  have:=x1sf.mpr hA
  have:=x1sf.mpr hB
  simp at hD
  omega
 |succ D ih=>
  intro d hs X A B Y m a0 m0 b0 hA hB hD ha hm hb h60 pA pB hix h
  have hA1:=x1sf.mpr hA
  have hB1:=x1sf.mpr hB
  have hfd:CmpE (x17h (D+d+2)) f:=hf (D+d+1)
  simp only[x1qu]at h60
  rw[show D+1+d+2=(D+d+2)+1 by omega,x10c]
  unfold xb2 x9z
  have w1:w64 ((m0:Int)-a0)=(A.length:Int):=by rw[x17t (by omega) (by omega)];omega
  have w2:w64 ((b0:Int)-m0)=(B.length:Int):=by rw[x17t (by omega) (by omega)];omega
  have h':=h.call hok
  simp only[x197,w1,x17m,sEq_I]
  unfold xei
  by_cases cA:A.length=1
  .obtain⟨x,rfl⟩:∃x,A=[x]:=x1tv.mp cA
   simp only[cA,show decide (((1:Nat):Int)=1)=true from rfl,x184]
   unfold xeg
   simp only[x1t3]at *
   have hL:(X++([x]++(B++Y))).length=X.length+1+B.length+Y.length:=by simp;omega
   have gx:gtE (X++([x]++(B++Y))) a0=x:=x19y (P:=X) (Q:=B++Y) (by simp) ha
   obtain⟨s,m1,fc1,r1,H1,s1,s2,F1,F2⟩:=l_srch4 (x17h (D+d+2)) hok hfd hs m.next (L:=X++([x]++(B++Y))) (a0:=a0) (lo:=m0) (hi:=b0) (by omega) (by omega) (by omega) (b0-m0) m0 b0 NN ⟨m.hp,m.next+1⟩ (0+4+4) (by omega) (by rw[x18k];omega) (by omega) (by omega) h' (.inl rfl) (.inl rfl)
   rw[gx]at F1 F2
   obtain⟨B1,B2,rfl,hB1'⟩:=x1ce B (s-m0) (by omega)
   simp only[x1qu]at *
   rw[x1rx]at pB
   obtain⟨pB1,pB2,pB12⟩:=pB
   have c1:∀u∈B1,∀v∈[x],RE u v:=x1cu (R:=RE) (A:=B1) (B:=[x]) x1ba pB1 (List.pairwise_singleton _ _) (by
    rcases F1 with F1|F1
    .exact .inl (x1rd.mp (by omega))
    .by_cases e:B1=[]
     .exact .inl e
     .obtain⟨B',y,rfl⟩:=x1dm B1 e
      rw[x19y (P:=X++[x]++B') (Q:=B2++Y) (x:=y) (by simp) (by simp at hB1' ⊢;omega)]at F1
      exact .inr (.inr ⟨B',[],y,x,rfl,rfl,.inl F1⟩))
   have c2:∀u∈[x],∀v∈B2,RE u v:=x1cu (R:=RE) (A:=[x]) (B:=B2) x1ba (List.pairwise_singleton _ _) pB2 (by
    rcases F2 with F2|F2
    .exact .inr (.inl (x1rd.mp (by omega)))
    .cases B2 with
     |nil=>exact .inr (.inl rfl)
     |cons y B'=>
      rw[x19y (P:=X++[x]++B1) (Q:=B'++Y) (x:=y) (by simp) (by simp;omega)]at F2
      have:=hix x (by simp) y (by simp)
      exact .inr (.inr ⟨[],B',x,y,rfl,rfl,by unfold RE;omega⟩))
   have e1:X++([x]++(B1++B2++Y))=X++x::(B1++(B2++Y)):=by simp
   rw[e1]at H1
   obtain⟨m2,r2,H2⟩:=l_upE (x17h (D+d+2)) hs m.next (i0:=s) (Z:=B2++Y) (x:=x) (by omega) (by omega) B1 X a0 NN m1 (fc1+2) ha (by omega) (by rw[x18k];omega) H1
   refine⟨B1++([x]++B2),m2,?_,by simpa using H2,x1do pB1 (x1do (by simp) pB2 c2) (λu hu v hv=>?_),?_⟩
   .rw[r1]
    unfold x9x
    exact r2
   .rcases x1rh.mp hv with hv|hv
    .exact c1 u hu v hv
    .exact pB12 u hu v hv
   .rw[<-x1s6,<-x1s6]
    exact(List.perm_append_comm).append_right B2
  .have cA':¬((A.length:Int)=1):=by omega
   simp only[cA',x1qj,x182]
   unfold xeh xee
   simp only[x197,w2,x17m,sEq_I]
   unfold xed
   by_cases cB:B.length=1
   .obtain⟨y,rfl⟩:∃x,B=[x]:=x1tv.mp cB
    simp only[cB,show decide (((1:Nat):Int)=1)=true from rfl,x184]
    unfold xeb
    simp only[x1t3]at *
    have hL:(X++(A++([y]++Y))).length=X.length+A.length+1+Y.length:=by simp;omega
    have gx:gtE (X++(A++([y]++Y))) m0=y:=x19y (P:=X++A) (Q:=Y) (by simp) (by simp;omega)
    obtain⟨s,m1,fc1,r1,H1,s1,s2,F1,F2⟩:=l_srch2 (x17h (D+d+2)) hok hfd hs m.next (L:=X++(A++([y]++Y))) (a0:=m0) (lo:=a0) (hi:=m0) (by omega) (by omega) (by omega) (m0-a0) a0 m0 NN ⟨m.hp,m.next+1⟩ (0+4+4+4) (by omega) (by rw[x18k];omega) (by omega) (by omega) h' (.inl rfl) (.inl rfl)
    rw[gx]at F1 F2
    obtain⟨A1,A2,rfl,hA1'⟩:=x1ce A (s-a0) (by omega)
    simp only[x1qu]at *
    rw[x1rx]at pA
    obtain⟨pA1,pA2,pA12⟩:=pA
    have c1:∀u∈A1,∀v∈[y],RE u v:=x1cu (R:=RE) (A:=A1) (B:=[y]) x1ba pA1 (List.pairwise_singleton _ _) (by
     rcases F1 with F1|F1
     .exact .inl (x1rd.mp (by omega))
     .by_cases e:A1=[]
      .exact .inl e
      .obtain⟨A',x,rfl⟩:=x1dm A1 e
       rw[x19y (P:=X++A') (Q:=A2++([y]++Y)) (x:=x) (by simp) (by simp at hA1' ⊢;omega)]at F1
       have:=hix x (by simp) y (by simp)
       exact .inr (.inr ⟨A',[],x,y,rfl,rfl,by unfold RE;omega⟩))
    have c2:∀u∈[y],∀v∈A2,RE u v:=x1cu (R:=RE) (A:=[y]) (B:=A2) x1ba (List.pairwise_singleton _ _) pA2 (by
     rcases F2 with F2|F2
     .exact .inr (.inl (x1rd.mp (by omega)))
     .cases A2 with
      |nil=>exact .inr (.inl rfl)
      |cons x A'=>
       rw[x19y (P:=X++A1) (Q:=A'++([y]++Y)) (x:=x) (by simp) (by simp;omega)]at F2
       exact .inr (.inr ⟨[],A',y,x,rfl,rfl,.inl F2⟩))
    have e1:X++(A1++A2++([y]++Y))=(X++A1)++(A2++y::Y):=by simp
    rw[e1]at H1
    obtain⟨m2,r2,H2⟩:=l_downE (x17h (D+d+2)) hs m.next (i0:=s) (X:=X++A1) (y:=y) (by simp;omega) A2 Y m0 NN m1 (fc1+2) (by omega) (by omega) (by rw[x18k];omega) H1
    refine⟨A1++([y]++A2),m2,?_,by simpa using H2,x1do pA1 (x1do (by simp) pA2 c2) (λu hu v hv=>?_),?_⟩
    .rw[r1]
     unfold x9u
     exact r2
    .rcases x1rh.mp hv with hv|hv
     .exact c1 u hu v hv
     .exact pA12 u hu v hv
    .rw[x1s6]
     exact x1u1 A1 List.perm_append_comm
   .have cB':¬((B.length:Int)=1):=by omega
    simp only[cB',x1qj,x182]
    unfold xec xe9
    rw[x1em (by omega)]
    obtain⟨md,hmd⟩:∃md,md=(a0+b0) / 2:=⟨_,rfl⟩
    rw[<-hmd]
    have w3:w64 ((md:Int)+m0)=((md+m0:Nat):Int):=by rw[x17t (by omega) (by omega)];omega
    simp only[x18r,w3,x17m]
    obtain⟨lo,hlo⟩:∃lo,lo=if m0 > md then md+m0-b0 else a0:=⟨_,rfl⟩
    obtain⟨hi,hhi⟩:∃hi,hi=if m0 > md then md else m0:=⟨_,rfl⟩
    have hL:(X++(A++(B++Y))).length=X.length+A.length+B.length+Y.length:=by simp;omega
    have hlh:a0<=lo/\lo<=hi/\hi<=m0/\(lo=a0\/lo+b0=md+m0)/\(hi=m0\/hi=md)/\md+m0<=lo+b0/\hi<=md:=by
     rw[hlo,hhi]
     split<;>omega
    have hpp:∀c,lo<=c->c<hi->c<=md+m0-1/\md+m0-1-c<(X++(A++(B++Y))).length:=λc g1 g2=>by omega
    obtain⟨s,m1,fc1,r1,H1,s1,s2,F1,F2⟩:=l_srch0 (x17h (D+d+2)) hok hfd hs m.next (L:=X++(A++(B++Y))) (a0:=a0) (m0:=m0) (b0:=b0) (md:=md) (nn:=md+m0) (p:=md+m0-1) (lo:=lo) (hi:=hi) hpp (by omega) (by omega) (by omega) (hi-lo) lo hi NN ⟨m.hp,m.next+1⟩ (if m0 > md then 0+4+4+13+9+3 else 0+4+4+13+7+3) (by omega) (by rw[x18k];omega) (by omega) (by omega) h' (.inl rfl) (.inl rfl)
    have r0:x9s (x17h (D+d+2)) hs m.next a (I a0) (I m0) (I b0) f (I md) (I (md+m0:Nat)) ⟨m.hp,m.next+1⟩ (0+4+4+13)=x4o (x17h (D+d+2)) hs m.next a (I a0) (I m0) (I b0) f (I md) (I (md+m0:Nat)) (I s) m1 fc1:=by
     rw[<-r1]
     unfold x9s x9r
     have w4:w64 (((md+m0:Nat):Int)-1)=((md+m0-1:Nat):Int):=by rw[x17t (by omega) (by omega)];omega
     by_cases cm:m0 > md
     .have w5:w64 (((md+m0:Nat):Int)-b0)=((md+m0-b0:Nat):Int):=by rw[x17t (by omega) (by omega)];omega
      have cm':(md:Int)<(m0:Int):=by omega
      rw[x1qb cm]at hlo hhi
      simp only[x1ag,cm',x1qk,x17m,x184,x197,w4,w5,x1qb cm,hlo,hhi]
     .have cm':¬(md:Int)<(m0:Int):=by omega
      rw[x1qc cm]at hlo hhi
      simp only[x1ag,cm',x1qj,x17m,x182,x197,w4,x1qc cm,hlo,hhi]
    rw[r0]
    obtain⟨e,he⟩:∃e,e=md+m0-s:=⟨_,rfl⟩
    have hes:m0<=e/\e<=b0:=by omega
    obtain⟨A1,A2,rfl,hA1'⟩:=x1ce A (s-a0) (by omega)
    obtain⟨B1,B2,rfl,hB1'⟩:=x1ce B (e-m0) (by omega)
    simp only[x1qu]at hA1' hB1' h60 hb hm cA cB hD hL w1 w2 hA1 hB1
    rw[x1rx]at pA pB
    obtain⟨pA1,pA2,pA12⟩:=pA
    obtain⟨pB1,pB2,pB12⟩:=pB
    have h12:∀u∈A1,∀v∈B2,RE u v:=x1cu (R:=RE) (A:=A1) (B:=B2) x1ba pA1 pB2 (by
     by_cases g1:A1=[]
     .exact .inl g1
     cases hB2:B2 with
     |nil=>exact .inr (.inl rfl)
     |cons y B'=>
      obtain⟨A',x,hA'⟩:=x1dm A1 g1
      have l1:=congrArg List.length hA'
      have l2:=congrArg List.length hB2
      simp only[x1qu,x1r5,x1rm]at l1 l2
      rcases F1 with F1|F1
      .omega
      .rw[x19y (P:=X++A') (Q:=A2++(B1++B2++Y)) (x:=x) (k:=s-1) (by simp[hA']) (by simp;omega),x19y (P:=X++(A1++A2)++B1) (Q:=B'++Y) (x:=y) (k:=md+m0-1-(s-1)) (by simp[hB2]) (by simp;omega)]at F1
       have:=hix x (by simp[hA']) y (by simp[hB2])
       exact .inr (.inr ⟨A',B',x,y,hA',rfl,by unfold RE;omega⟩))
    have h21:∀u∈B1,∀v∈A2,RE u v:=x1cu (R:=RE) (A:=B1) (B:=A2) x1ba pB1 pA2 (by
     by_cases g1:B1=[]
     .exact .inl g1
     cases hA2:A2 with
     |nil=>exact .inr (.inl rfl)
     |cons x A'=>
      obtain⟨B',y,hB'⟩:=x1dm B1 g1
      have l1:=congrArg List.length hB'
      have l2:=congrArg List.length hA2
      simp only[x1qu,x1r5,x1rm]at l1 l2
      rcases F2 with F2|F2
      .omega
      .rw[x19y (P:=X++A1) (Q:=A'++(B1++B2++Y)) (x:=x) (k:=s) (by simp[hA2]) (by simp;omega),x19y (P:=X++(A1++A2)++B') (Q:=B2++Y) (x:=y) (by simp[hB']) (by simp;omega)]at F2
       exact .inr (.inr ⟨B',A',y,x,hB',rfl,.inl F2⟩))
    have hpow:2 ^ (D+1)=2*2 ^ D:=by rw[Nat.pow_succ];omega
    have step0:∀(C1:List Ev) (m2:Mem) (fc2:Nat),C1.Pairwise RE->C1.Perm (A1++B1)->Hd ok a N M m2 (X++(C1++(A2++(B2++Y)))) ->
     ∃C m',x4m (x17h (D+d+2)) hs m.next a (I b0) f (I md) (I e) m2 fc2=some (.tup [],m')/\Hd ok a N M m' (X++(C++Y))/\C.Pairwise RE/\C.Perm (A1++A2++(B1++B2)):=by
     intro C1 m2 fc2 pC1 qC1 H2
     have lC1:=qC1.length_eq
     simp only[x1qu]at lC1
     have fin:∀(C2:List Ev),C2.Pairwise RE->C2.Perm (A2++B2)->(C1++C2).Pairwise RE/\(C1++C2).Perm (A1++A2++(B1++B2)):=λC2 pC2 qC2=>by
      refine⟨x1do pC1 pC2 λu hu v hv=>?_,?_⟩
      .rcases x1rh.mp (qC1.mem_iff.mp hu)with hu|hu<;>rcases x1rh.mp (qC2.mem_iff.mp hv)with hv|hv
       .exact pA12 u hu v hv
       .exact h12 u hu v hv
       .exact h21 u hu v hv
       .exact pB12 u hu v hv
      .refine(qC1.append qC2).trans ?_
       simp only[x1s6]
       refine x1u1 A1 ?_
       rw[<-x1s6,<-x1s6]
       exact List.Perm.append_right B2 List.perm_append_comm
     unfold x4m
     by_cases g1:md<e
     .have g1':(md:Int)<(e:Int):=by omega
      by_cases g2:e<b0
      .have g2':(e:Int)<(b0:Int):=by omega
       have e1:X++(C1++(A2++(B2++Y)))=(X++C1)++(A2++(B2++Y)):=by simp
       rw[e1]at H2
       obtain⟨C2,m3,r3,H3,pC2,qC2⟩:=ih d hs (X++C1) A2 B2 Y m2 md e b0 (List.ne_nil_of_length_pos (by omega)) (List.ne_nil_of_length_pos (by omega)) (by omega) (by simp;omega) (by simp;omega) (by simp;omega) (by simp;omega) pA2 pB2 (λx hx y hy=>hix x (by simp[hx]) y (by simp[hy])) H2
       obtain⟨z1,z2⟩:=fin C2 pC2 qC2
       refine⟨C1++C2,m3,?_,by simpa using H3,z1,z2⟩
       simp only[x17x,g1',g2',x1qk,x17m,x19f,x19g,sW_t,x18l,x19d,x184,r3]
      .have g2':¬(e:Int)<(b0:Int):=by omega
       obtain rfl:B2=[]:=x1rd.mp (by omega)
       obtain⟨z1,z2⟩:=fin (A2++[]) (by simpa using pA2) (x1sk _)
       refine⟨C1++(A2++[]),m2,?_,by simpa using H2,z1,z2⟩
       simp only[x17x,g1',g2',x1qk,x1qj,x17m,x19f,x19g,sW_t,x18l,x19d,x182]
     .have g1':¬(md:Int)<(e:Int):=by omega
      obtain rfl:A2=[]:=x1rd.mp (by omega)
      obtain⟨z1,z2⟩:=fin ([]++B2) (by simpa using pB2) (x1sk _)
      refine⟨C1++([]++B2),m2,?_,by simpa using H2,z1,z2⟩
      simp only[x17x,g1',x1qj,x17m,x19f,x19g,sW_t,x19o,x19d,x182]
    have step1:∀(m2:Mem) (fc2:Nat),Hd ok a N M m2 (X++(A1++(B1++(A2++(B2++Y))))) ->
     ∃C m',x4n (x17h (D+d+2)) hs m.next a (I a0) (I b0) f (I md) (I s) (I e) m2 fc2=some (.tup [],m')/\Hd ok a N M m' (X++(C++Y))/\C.Pairwise RE/\C.Perm (A1++A2++(B1++B2)):=by
     intro m2 fc2 H2
     unfold x4n
     by_cases g1:a0<s
     .have g1':(a0:Int)<(s:Int):=by omega
      by_cases g2:s<md
      .have g2':(s:Int)<(md:Int):=by omega
       obtain⟨C1,m3,r3,H3,pC1,qC1⟩:=ih d hs X A1 B1 (A2++(B2++Y)) m2 a0 s md (List.ne_nil_of_length_pos (by omega)) (List.ne_nil_of_length_pos (by omega)) (by omega) ha (by omega) (by omega) (by simp;omega) pA1 pB1 (λx hx y hy=>hix x (by simp[hx]) y (by simp[hy])) H2
       obtain⟨C,m4,r4,rest⟩:=step0 C1 m3 (fc2+14) pC1 qC1 H3
       refine⟨C,m4,?_,rest⟩
       simp only[x17x,g1',g2',x1qk,x17m,x19f,x19g,sW_t,x18l,x19d,x184,r3,r4]
      .have g2':¬(s:Int)<(md:Int):=by omega
       obtain rfl:B1=[]:=x1rd.mp (by omega)
       obtain⟨C,m4,r4,rest⟩:=step0 (A1++[]) m2 (fc2+8) (by simpa using pA1) (x1sk _) (by simpa using H2)
       refine⟨C,m4,?_,rest⟩
       simp only[x17x,g1',g2',x1qk,x1qj,x17m,x19f,x19g,sW_t,x18l,x19d,x182,r4]
     .have g1':¬(a0:Int)<(s:Int):=by omega
      obtain rfl:A1=[]:=x1rd.mp (by omega)
      obtain⟨C,m4,r4,rest⟩:=step0 ([]++B1) m2 (fc2+8) (by simpa using pB1) (x1sk _) (by simpa using H2)
      refine⟨C,m4,?_,rest⟩
      simp only[x17x,g1',x1qj,x17m,x19f,x19g,sW_t,x19o,x19d,x182,r4]
    have w6:w64 (((md+m0:Nat):Int)-s)=(e:Int):=by rw[x17t (by omega) (by omega)];omega
    unfold x4o xe8
    simp only[x197,w6,x17m]
    by_cases g1:s<m0
    .have g1':(s:Int)<(m0:Int):=by omega
     by_cases g2:m0<e
     .have g2':(m0:Int)<(e:Int):=by omega
      have e1:X++(A1++A2++(B1++B2++Y))=(X++A1)++(A2++(B1++(B2++Y))):=by simp
      rw[e1]at H1
      obtain⟨m2,r2,H2⟩:=c_rotE (D+d) hok hs (f:=f) (a0:=s) (m0:=m0) (b0:=e) (List.ne_nil_of_length_pos (by omega)) (List.ne_nil_of_length_pos (by omega)) (by simp;omega) (by simp;omega) (by simp;omega) (by omega) H1
      obtain⟨C,m4,r4,rest⟩:=step1 m2 (fc1+4+14) (by simpa using H2)
      refine⟨C,m4,?_,rest⟩
      simp only[x17x,g1',g2',x1qk,x17m,x19f,x19g,sW_t,x18l,x19d,x184,r2,r4]
     .have g2':¬(m0:Int)<(e:Int):=by omega
      obtain rfl:B1=[]:=x1rd.mp (by omega)
      obtain⟨C,m4,r4,rest⟩:=step1 m1 (fc1+4+8) (by simpa using H1)
      refine⟨C,m4,?_,rest⟩
      simp only[x17x,g1',g2',x1qk,x1qj,x17m,x19f,x19g,sW_t,x18l,x19d,x182,r4]
    .have g1':¬(s:Int)<(m0:Int):=by omega
     obtain rfl:A2=[]:=x1rd.mp (by omega)
     obtain⟨C,m4,r4,rest⟩:=step1 m1 (fc1+4+8) (by simpa using H1)
     refine⟨C,m4,?_,rest⟩
     simp only[x17x,g1',x1qj,x17m,x19f,x19g,sW_t,x19o,x19d,x182,r4]
end Go.Ix
