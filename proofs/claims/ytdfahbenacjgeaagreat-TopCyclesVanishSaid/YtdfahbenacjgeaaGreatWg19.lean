import Derived.Test.YtdfahbenacjgeaaGreatWg18
import Derived.Test.YtdfahbenacjgeaaGreatWg2
import Derived.Test.YtdfahbenacjgeaaGreatWg4
import Derived.Test.YtdfahbenacjgeaaGreatWg5
import Derived.Test.YtdfahbenacjgeaaGreatWg17
import Derived.Test.YtdfahbenacjgeaaGreatWg6
set_option linter.unusedSimpArgs false
set_option linter.unusedVariables false
namespace Go.Ix
open Go.Proofs
def pidM(p:Pq):List Pq->Int->Int
 |[],_=>-1
 |q::r,k=>if p.same q=true then k else pidM p r (k+1)
def pid(P:List Pq)(a b:Int):Int:=pidM ⟨a,b⟩ P 0
theorem pidM_in(p:Pq):∀(l:List Pq) (k:Int),0<=k->pidM p l k=-1\/(0<=pidM p l k/\pidM p l k<k+l.length)
 |[],_,_=>.inl rfl
 |q::r,k,h=>by
  rw[pidM]
  split
  .exact .inr ⟨h,by simp;omega⟩
  .rcases pidM_in p r (k+1) (by omega)with e|e
   .exact .inl e
   .exact .inr ⟨e.1,by simp;omega⟩
theorem pidM_no{p:Pq}:∀{l:List Pq} {k:Int},p∉l->pidM p l k=-1
 |[],_,_=>rfl
 |q::r,k,h=>by
  rw[pidM,x1g6 λe=>h (by rw[Pq.same_iff.mp e];exact x1gf ..)]
  exact pidM_no λe=>h (x1ge _ e)
def numE:List Pq->Int->List (Pq×AV)
 |[],_=>[]
 |p::r,k=>(p,I k)::numE r (k+1)
theorem x1a2(p:Pq):∀(l:List Pq) (k:Int),numE (l++[p]) k=numE l k++[(p,I (k+l.length))]
 |[],k=>by simp[numE]
 |q::r,k=>by
  rw[show k+((q::r).length:Int)=k+1+(r.length:Int) by simp;omega]
  simp only[x1i0,numE,x1a2 p r (k+1)]
theorem x15q(p:Pq):∀(l:List Pq) (k:Int),0<=k->lkP (numE l k) p=if pidM p l k=-1 then none else some (I (pidM p l k))
 |[],_,_=>rfl
 |q::r,k,h=>by
  simp only[numE,lkP,pidM]
  split
  .rw[x1g6 (by omega)]
  .exact x15q p r (k+1) (by omega)
def triC(P:List Pq)(a b c:Int):List (List Sp):=if 0<=pid P a b/\0<=pid P b c/\0<=pid P a c then[[⟨pid P a b,1⟩,⟨pid P b c,1⟩,⟨pid P a c,-1⟩]]else[]
def triB(P:List Pq)(n:Nat)(a b:Int)(k:Nat):List (List Sp):=((List.range n).drop k).flatMap λ(c:Nat)=>triC P a b c
def triA(P:List Pq)(n:Nat)(a:Int)(k:Nat):List (List Sp):=((List.range n).drop k).flatMap λ(b:Nat)=>triB P n a b (b+1)
def triN(P:List Pq)(n:Nat)(k:Nat):List (List Sp):=((List.range n).drop k).flatMap λ(a:Nat)=>triA P n a (a+1)
theorem x15r{n k:Nat}(h:k<n):(List.range n).drop k=k::(List.range n).drop (k+1):=by
 rw[xtm (by simpa using h)]
 simp
theorem triB_step{P:List Pq}{n:Nat}{a b:Int}{k:Nat}(h:k<n):triB P n a b k=triC P a b k++triB P n a b (k+1):=by
 unfold triB;rw[x15r h];rfl
theorem triA_step{P:List Pq}{n:Nat}{a:Int}{k:Nat}(h:k<n):triA P n a k=triB P n a k (k+1)++triA P n a (k+1):=by
 unfold triA;rw[x15r h];rfl
theorem triN_step{P:List Pq}{n:Nat}{k:Nat}(h:k<n):triN P n k=triA P n k (k+1)++triN P n (k+1):=by
 unfold triN;rw[x15r h];rfl
theorem x15s{n k:Nat}(h:n<=k):(List.range n).drop k=[]:=x1h5 (by simpa using h)
theorem triB_end{P:List Pq}{n:Nat}{a b:Int}{k:Nat}(h:n<=k):triB P n a b k=[]:=by unfold triB;rw[x15s h];rfl
theorem triA_end{P:List Pq}{n:Nat}{a:Int}{k:Nat}(h:n<=k):triA P n a k=[]:=by unfold triA;rw[x15s h];rfl
theorem triN_end{P:List Pq}{n:Nat}{k:Nat}(h:n<=k):triN P n k=[]:=by unfold triN;rw[x15s h];rfl
theorem x12x{α β:Type}{f:α->List β}{M:Nat}:∀{l:List α},(∀x∈l,(f x).length<=M)->(l.flatMap f).length<=l.length*M
 |[],_=>by simp
 |x::l,h=>by
  have h1:=h x (x1gf ..)
  have h2:=x12x (l:=l) λy hy=>h y (x1ge _ hy)
  rw[x1gy,x1hu,x1gq,x1hb]
  omega
theorem triN_w{P:List Pq}{n:Nat}:∀w∈triN P n 0,w.length<=3:=by
 intro w hw
 unfold triN triA triB triC at hw
 simp only[x1hj]at hw
 obtain⟨a,-,b,-,c,-,h⟩:=hw
 split at h
 .simp at h;subst h;simp
 .cases h
theorem x1a3(P:List Pq){n:Nat}(h:n<=8):(triN P n 0).length<=392:=by
 have hC:∀a b c,(triC P a b c).length<=1:=λa b c=>by unfold triC;split<;>simp
 have hB:∀a b k,1<=k->(triB P n a b k).length<=7:=λa b k hk=>by
  have:=x12x (l:=(List.range n).drop k) (f:=λ(c:Nat)=>triC P a b c) (M:=1) λx _=>hC _ _ _
  rw[x1jq,x1je]at this
  unfold triB
  omega
 have hA:∀a k,1<=k->(triA P n a k).length<=49:=λa k hk=>by
  have:=x12x (l:=(List.range n).drop k) (f:=λ(b:Nat)=>triB P n a b (b+1)) (M:=7) λx _=>hB _ _ _ (by omega)
  rw[x1jq,x1je]at this
  unfold triA
  omega
 have:=x12x (l:=(List.range n).drop 0) (f:=λ(a:Nat)=>triA P n a (a+1)) (M:=49) λx _=>hA _ _ (by omega)
 rw[x1jq,x1je]at this
 unfold triN
 omega
structure TI (s p:AV) (t:Nat) (T:List (List Sp)) (a:AV) (rest:List (List Sp)) (m:Mem):Prop where
 g:m.get (0,0,1)=some (.row [s,p] 0 false)
 nx:1<=m.next
 ok:∃L,Gr 1 Wv.c 0 t m a L/\L.map Wv.w++rest=T
def triV(x y z:Int):Wv:=⟨.slit [I x,I 1,I y,I 1,I z,I (-1)] 3 true,[⟨x,1⟩,⟨y,1⟩,⟨z,-1⟩],Or.inr ⟨true,rfl⟩⟩
theorem mkLit_3S{a b c d e f:Int}{id:Id}{m:Mem}{R:Type}{k:AV->Mem->Option R} :
 xtc [I 0,I 0] [(0,2,.agg [I a,I b]),(2,2,.agg [I c,I d]),(4,2,.agg [I e,I f])] 3 2 id m k=k (.slit [I a,I b,I c,I d,I e,I f] 3 true) m:=by
 simp[xtc,xtj,xtq,x1jb,xth]
theorem build_S(x y:Int):xsw [I 0,I 0] [(0,1,I x),(1,1,I y)]=some (.agg [I x,I y]):=by simp[xsw,xtj]
theorem TI.app{s p:AV}{t:Nat}{T:List (List Sp)}{a:AV}{rest:List (List Sp)}{m:Mem}{x y z:Int}(h:TI s p t T a ([⟨x,1⟩,⟨y,1⟩,⟨z,-1⟩]::rest) m)(hT:T.length<=1000)(ht:t≠1)(s0:Nat) :
 ∃a' m',(∀{R:Type} (k:AV->Mem->Option R),sApp 1 24 (0,s0,t) (some ([.slit [I x,I 1,I y,I 1,I z,I (-1)] 3 true],1)) a m k=k a' m')/\TI s p t T a' rest m'/\(∀j:Id,j.2.2≠t->m'.get j=m.get j):=by
 obtain⟨L,hG,hL⟩:=h.ok
 have hLl:L.length<=T.length:=by rw[<-hL];simp
 obtain⟨a',m',k1,k2,k3,k4⟩:=hG.app (s0:=s0) (bytes:=24) Wv.len (by omega) (by unfold xt6;omega) (triV x y z)
 refine⟨a',m',λK=>k1 K,⟨by rw[k4 _ (by simpa using ht.symm)];exact h.g,by rw[k3];exact h.nx,L++[triV x y z],k2,?_⟩,k4⟩
 rw[<-hL,x1hr,x1i3]
 rfl
theorem um_pi:Tryz.prog.underlying x5b=some (.map x7 xtg):=by kernel_rfl
theorem zv_intT:xyn Tryz.prog xtg=some (I 0):=by kernel_rfl
theorem look_tri{id:Id}{P:List Pq}{m:Mem}(h:m.get id=some (.map (mpP (numE P 0))))(a b:Int) :
 xvl Tryz.prog x5b (.mp id) (.agg [I a,I b]) true m=some (.tup [I (if 0<=pid P a b then pid P a b else 0),B (decide (0<=pid P a b))]):=by
 have:=look_pq um_pi zv_intT id (numE P 0) ⟨a,b⟩ true m h
 rw[x1g7 rfl,x15q _ _ _ (by omega)]at this
 refine this.trans ?_
 show some (AV.tup [(if pid P a b=-1 then none else some (I (pid P a b))).getD (I 0),B (if pid P a b=-1 then none else some (I (pid P a b))).isSome])=_
 by_cases c:0<=pid P a b
 .rw[x1g6 (by omega),x1g7 c];simp[c]
 .have:pid P a b=-1:=by
   rcases pidM_in ⟨a,b⟩ P 0 (by omega)with e|e
   .exact e
   .exact absurd e.1 c
  rw[x1g7 this,x1g6 c];simp[c]
theorem x1a4(a b:Int):xsw xa [(0,1,I a),(1,1,I b)]=some (.agg [I a,I b]):=by rw[xv3];simp[xsw,xtj]
def LsR(T:List (List Sp))(v:AV):Prop:=∃t L,v=.tup [t,I 0]/\Sl Wv.c t L/\L.map Wv.w=T
theorem x1d0(d:Nat){s p:AV}{l:List Scene}{P:List Pq}(hs:Sl Scene.c s l)(hp:Sl Pq.c p P)(hl:l.length<=8){T:List (List Sp)}(hT:triN P l.length 0=T)(hTl:T.length<=392){m:Mem}(fc:Nat)(h1:m.get (0,0,1)=some (.row [s,p] 0 false))(h2:1<=m.next)(h3:m.get (0,8,23)=some (.map (mpP (numE P 0)))) :
 RetF (LsR T) (x8g (xsi (d+7)) [] 0 (.ptr (0,0,1) 0 0) (.mp (0,8,23)) m fc):=by
 have lk:=λa b (m:Mem) h=>look_tri (id:=(0,8,23)) (P:=P) (m:=m) h a b
 unfold x8g xgz
 simp[h1,hs.len xtt]
 refine xtd (N:=l.length) (λn k t3 m fc=>xk (xsi (d+7)) [] 0 n (.ptr (0,0,1) 0 0) (.mp (0,8,23)) t3 (I l.length) (I k) m fc) (λk t3 m=>TI s p 100 T t3 (triN P l.length k) m/\m.get (0,8,23)=some (.map (mpP (numE P 0)))) _ ?_ ?_ NN 0 nilS m _ (by omega) (by rw[xsu];omega) ⟨⟨h1,h2,[],Gr.nil,by simpa using hT⟩,h3⟩
 .rintro n k t3 m fc hk ⟨hI,hM⟩ next
  have hk':(k:Int)<(l.length:Int):=by omega
  rw[triN_step hk]at hI
  simp only[xk]
  unfold x8f xgy
  simp(disch:=omega) [hk']
  refine xtd (N:=l.length) (λn2 b t3 m fc=>x19 (xsi (d+7)) [] 0 (xk (xsi (d+7)) [] 0 n) n2 (.ptr (0,0,1) 0 0) (.mp (0,8,23)) t3 (I k) (I b) (I l.length) (I k) m fc) (λb t3 m=>TI s p 100 T t3 (triA P l.length k b++triN P l.length (k+1)) m/\m.get (0,8,23)=some (.map (mpP (numE P 0)))) _ ?_ ?_ NN (k+1) t3 m _ (by omega) (by rw[xsu];omega) ⟨hI,hM⟩
  .rintro n2 b t3 m fc hb ⟨hI,hM⟩ next2
   have hb':(b:Int)<(l.length:Int):=by omega
   rw[triA_step hb,x1i3]at hI
   simp only[x19]
   unfold x8e xgx
   simp(disch:=omega) [hI.g,hs.len xtt,hb',x1a4,lk _ _ _ hM]
   simp only[x1id,xsn]
   refine xtd (N:=l.length) (λn3 c t3 m fc=>x3b (xsi (d+7)) [] 0 (xk (xsi (d+7)) [] 0 n) (x19 (xsi (d+7)) [] 0 (xk (xsi (d+7)) [] 0 n) n2) n3 (.ptr (0,0,1) 0 0) (.mp (0,8,23)) t3 (I k) (I b) (I (if 0<=pid P k b then pid P k b else 0)) (B (decide (0<=pid P k b))) (I c) (I l.length) (I k) m fc) (λc t3 m=>TI s p 100 T t3 (triB P l.length k b c++(triA P l.length k (b+1)++triN P l.length (k+1))) m/\m.get (0,8,23)=some (.map (mpP (numE P 0)))) _ ?_ ?_ NN (b+1) t3 m _ (by omega) (by rw[xsu];omega) ⟨hI,hM⟩
   .rintro n3 c t3 m fc hc ⟨hI,hM⟩ next3
    have hc':(c:Int)<(l.length:Int):=by omega
    simp only[x3b]
    unfold x8d
    simp(disch:=omega) [hI.g,hs.len xtt,hc']
    rw[triB_step hc,x1i3]at hI
    unfold xgw
    have hno:triC P k b c=[]->∀fc,RetF (LsR T) (x5a (xsi (d+7)) [] 0 (xk (xsi (d+7)) [] 0 n) (x19 (xsi (d+7)) [] 0 (xk (xsi (d+7)) [] 0 n) n2) (x3b (xsi (d+7)) [] 0 (xk (xsi (d+7)) [] 0 n) (x19 (xsi (d+7)) [] 0 (xk (xsi (d+7)) [] 0 n) n2) n3) (.ptr (0,0,1) 0 0) (.mp (0,8,23)) t3 (I k) (I b) (I (if 0<=pid P k b then pid P k b else 0)) (B (decide (0<=pid P k b))) (I c) (I l.length) (I k) m fc):=λe fc=>by
     rw[e,x1hl]at hI
     unfold x5a
     simp(disch:=omega) [xso]
     exact next3 t3 m _ ⟨hI,hM⟩
    simp[x1a4,lk _ _ _ hM]
    by_cases c1:0<=pid P k b
    rotate_left
    .simp[c1]at hno ⊢
     exact hno (x1g6 λe=>c1 e.1) _
    by_cases c2:0<=pid P b c
    rotate_left
    .simp[c1,c2]at hno ⊢
     exact hno (x1g6 λe=>c2 e.2.1) _
    by_cases c3:0<=pid P k c
    rotate_left
    .simp[c1,c2,c3]at hno ⊢
     exact hno (x1g6 λe=>c3 e.2.2) _
    have e:triC P k b c=[[⟨pid P k b,1⟩,⟨pid P b c,1⟩,⟨pid P k c,-1⟩]]:=x1g7 ⟨c1,c2,c3⟩
    rw[e,x1i0,x1hl]at hI
    obtain⟨a',m',k1,k2,k3⟩:=hI.app (by omega) (by omega) (fc+5+36)
    have he:∀M:Mem,elems M.get 1 (.slit [.slit [I (pid P k b),I 1,I (pid P b c),I 1,I (pid P k c),I (-1)] 3 true] 1 true)=some ([.slit [I (pid P k b),I 1,I (pid P b c),I 1,I (pid P k c),I (-1)] 3 true],1):=λM=>by simp[elems]
    simp only[c1,c2,c3,x1gm,x1gp,sW_t,xsr,xsn,x120,xt9,xws,build_S,mkLit_3S,z_walks,x146 (x1b9 _ _ _) (one_slit _ _ _) (x1bb _ _ _),he]
    rw[k1]
    unfold x5a
    simp(disch:=omega) [xso]
    have:=next3 a' m' (fc+5+38+3) ⟨k2,by rw[k3 _ (by simp)];exact hM⟩
    simpa[c1]using this
   .rintro n3 t3 m fc ⟨hI,hM⟩
    rw[triB_end (x1ga _),x1hl]at hI
    simp only[x3b]
    unfold x8d xgv
    simp(disch:=omega) [hI.g,hs.len xtt]
    exact next2 t3 m _ ⟨hI,hM⟩
  .rintro n2 t3 m fc ⟨hI,hM⟩
   rw[triA_end (x1ga _),x1hl]at hI
   simp only[x19]
   unfold x8e xgu
   simp(disch:=omega) [hI.g,hs.len xtt]
   exact next t3 m _ ⟨hI,hM⟩
 .rintro n t3 m fc ⟨hI,hM⟩
  rw[triN_end (x1ga _)]at hI
  obtain⟨L,hG,hL⟩:=hI.ok
  have hLl:L.length<=392:=by rw[<-hL]at hTl;simpa using hTl
  have hL4:¬(400:Int)<(L.length:Int):=by omega
  simp only[xk]
  unfold x8f xgt
  simp(disch:=omega) [hG.len u_walks,hL4]
  obtain⟨a',f1,f2⟩:=hG.frzk (k:=3) Wv.len Wv.still
  exact RetF.mk (T:=LsR T) (xxk f2 (xzw (k:=4))) ⟨a',L,rfl,f1,by simpa using hL⟩
theorem x1d1(d:Nat){s p:AV}{l:List Scene}{P:List Pq}(hs:Sl Scene.c s l)(hp:Sl Pq.c p P)(hl:l.length<=8)(hR:Right7 l P)(hn:(net7 l P).2=0) :
 RetF (LsR (triN P l.length 0)) (xsi (d+8) [] x2c [.agg [s,p]] mem0):=by
 have hTl:=x1a3 P hl
 have hPl:=hR.pl
 generalize hT:triN P l.length 0=T at *
 rw[xlk]
 unfold x7q x6t xh0
 generalize hm1:(⟨[],1⟩:Mem).new (0,0,1) (.row [s,p] 0 false)=m1
 have g1:m1.get (0,0,1)=some (.row [s,p] 0 false):=by rw[<-hm1];simp
 have hn1:m1.next=1:=by rw[<-hm1];rfl
 simp[mem0,hs.one,hp.one,hm1,g1,x111 (d+1) hs hp,hn,xyz,hp.len xu7]
 generalize hm0:Mem.new m1 _ _=m0
 refine xtd (N:=P.length) (σ:=Unit) (λn k _ m fc=>x5c (xsi (d+7)) [] 0 n (.ptr (0,0,1) 0 0) (.mp (0,8,23)) p (I P.length) (I k) m fc)
  (λk _ m=>m.get (0,0,1)=some (.row [s,p] 0 false)/\1<=m.next/\m.get (0,8,23)=some (.map (mpP (numE (P.take k) 0)))) _ ?_ ?_ NN 0 () _ _ (by omega) (by rw[xsu];omega) ⟨by rw[<-hm0];simp[g1],by rw[<-hm0];simp[hn1],by rw[<-hm0];simp[numE,mpP]⟩
 .rintro n k-m fc hk ⟨h1,h2,h3⟩ next
  have hk':(k:Int)<(P.length:Int):=by omega
  have ix:=hp.ix Pq.len hk
  have ld:=λm=>xtz (m:=m) Pq.len (by omega) hk
  have hnl:lkP (numE (P.take k) 0) P[k]=none:=by
   rw[x15q _ _ _ (by omega),x1g7]
   refine pidM_no λhmem=>?_
   have hnd:=hR.nd
   obtain⟨j,hj,e⟩:=List.getElem_of_mem hmem
   rw[x1jt]at e
   have:=(List.getElem_inj hnd).mp e
   simp at hj
   omega
  have hup:=λ{R:Type} (m:Mem) (K:Mem->Option R) (h:m.get (0,8,23)=some (.map (mpP (numE (P.take k) 0))))=>up_pq um_pi (0,8,23) (numE (P.take k) 0) P[k] (I k) m K h hnl
  have htk:numE (P.take k) 0++[(P[k],I k)]=numE (P.take (k+1)) 0:=by
   rw[x1gz hk,x1a2,x1ia,x1kk (by omega)]
   simp
  rw[htk]at hup
  generalize P[k]=q at *
  simp only[x5c]
  unfold x8h
  simp only[Pq.c]at ld hup
  simp[hk',ix,ld,xv3]
  generalize hm2:Mem.set _ _ _=m2
  have e2:∀j:Id,j.2.2≠7->m2.get j=m.get j:=λj hj=>by
   rw[<-hm2,Mem.get_set,x1g6 (by rintro rfl;exact hj rfl),Mem.get_new,x1g6 (by rintro rfl;exact hj rfl)]
  have q7:m2.get (0,fc+4,7)=some (.row [I q.a,I q.b] 0 false):=by rw[<-hm2];simp
  have hm2n:m2.next=m.next:=by rw[<-hm2];rfl
  rw[hup m2 _ (by rw[e2 _ (by simp)];exact h3)]
  generalize hm3:Mem.set m2 _ _=m3
  simp(disch:=omega) [xso]
  exact next () m3 _ ⟨by rw[<-hm3,Mem.get_set,x1g6 (by simp),e2 _ (by simp)];exact h1,by rw[<-hm3];simp[hm2n];exact h2,by rw[<-hm3];simp⟩
 rintro n-m fc ⟨h1,h2,h3⟩
 rw[x1jk]at h3
 simp only[x5c]
 unfold x8h
 simp
 exact x1d0 d hs hp hl hT hTl _ h1 h2 h3
theorem x1d2(d:Nat){s p:AV}{l:List Scene}{P:List Pq}(hs:Sl Scene.c s l)(hp:Sl Pq.c p P)(hl:(net7 l P).2=0->l.length<=8)(m:Mem) :
 ∃t L,Sl Wv.c t L/\L.map Wv.w=(if(net7 l P).2=0 then triN P l.length 0 else[])/\xsl (xsi (d+8)) x2c [.agg [s,p]] m=some (.tup [t,I (net7 l P).2],m):=by
 by_cases hn:(net7 l P).2=0
 .obtain⟨v,⟨t,L,rfl,h1,h2⟩,h3⟩:=xu6 (by simp[hs.still1,hp.still1]) (x1d1 d hs hp (hl hn) (x116 hn) hn) m
  exact⟨t,L,h1,by rw[x1g7 hn];exact h2,by rw[hn];exact h3⟩
 .refine⟨nilS,[],.inl ⟨rfl,rfl⟩,by rw[x1g6 hn];rfl,xua (by simp[hs.still1,hp.still1]) ?_ m⟩
  rw[xlk]
  unfold x7q x6t
  generalize hm1:(⟨[],1⟩:Mem).new (0,0,1) (.row [s,p] 0 false)=m1
  have g1:m1.get (0,0,1)=some (.row [s,p] 0 false):=by rw[<-hm1];simp
  simp[mem0,hs.one,hp.one,hm1,g1,x111 (d+1) hs hp,hn]
  exact RetF.mk (T:=λv=>v=.tup [nilS,I (net7 l P).2]) (xxk rfl rfl) rfl
theorem x1a5{P:List Pq}:∀{w:List Sp} {k:Nat} {b e:Int},1<=k->(∀x∈w,(0<=x.p/\x.p<P.length)/\(x.s=1\/x.s=-1))->Wk P w e b->cyE P k b e w=0
 |[],k,b,e,_,_,h=>by
  have:e=b:=h
  simp[cyE,this]
 |x::r,k,b,e,hk,hx,h=>by
  obtain⟨h1,h2⟩:=hx x (x1gf ..)
  have ih:=x1a5 (w:=r) (k:=k+1) (b:=b) (e:=toS P x) (by omega) (λy hy=>hx y (x1ge _ hy)) h.2
  have c1:wi x.p 0 ((P.length:Int)-1)=true:=wi_iff.mpr ⟨h1.1,by omega⟩
  have c2:(!decide (x.s=1)&&!decide (x.s=-1))=false:=by rcases h2 with e|e<;>simp[e]
  have c3:¬k=0:=by omega
  simp[cyE,c1,c2,c3,h.1,ih]
theorem cycC_ok{n:Nat}{P:List Pq}{F:List Int}(hn:n<=60)(hP:∀p∈P,PqIn n p)(hT:Tree n P F){i:Int}(h0:0<=i)(h1:i<P.length):cycE P (cycC P F i)=0:=by
 obtain⟨w1,w2,w3,w4⟩:=x15o hP hT h0 h1
 have hall:∀x∈wayC P F (prAt P i).b (prAt P i).a,(0<=x.p/\x.p<P.length)/\(x.s=1\/x.s=-1):=λx hx=>⟨hT.fo.rng _ (w2 x hx).1,(w2 x hx).2⟩
 have c1:wi i 0 ((P.length:Int)-1)=true:=wi_iff.mpr ⟨h0,by omega⟩
 have e1:frS P ⟨i,1⟩=(prAt P i).a:=rfl
 have e2:toS P ⟨i,1⟩=(prAt P i).b:=rfl
 have hl:¬400<(wayC P F (prAt P i).b (prAt P i).a).length+1:=by omega
 simp only[cycE,cycC,x1gq]
 simp[hl,cyE,c1,e1,e2]
 exact x1a5 (by omega) hall w1
theorem pidM_at(p:Pq):∀(l:List Pq) (k:Nat),0<=pidM p l k->∃j,∃h:j<l.length,pidM p l k=((k+j:Nat):Int)/\l[j]=p
 |[],k,h=>by simp[pidM]at h
 |q::r,k,h=>by
  rw[pidM]at h ⊢
  by_cases c:p.same q=true
  .rw[x1g7 c]
   exact⟨0,by simp,by simp,(Pq.same_iff.mp c).symm⟩
  .rw[x1g6 c]at h ⊢
   obtain⟨j,hj,e1,e2⟩:=pidM_at p r (k+1) (by simpa using h)
   refine⟨j+1,by simpa using hj,?_,by simpa using e2⟩
   have e1':pidM p r ((k:Int)+1)=((k+1+j:Nat):Int):=by simpa using e1
   rw[e1'];omega
theorem pid_at{P:List Pq}{a b:Int}(h:0<=pid P a b):pid P a b<P.length/\prAt P (pid P a b)=⟨a,b⟩:=by
 obtain⟨j,hj,e1,e2⟩:=pidM_at ⟨a,b⟩ P 0 (by simpa[pid]using h)
 have e:pid P a b=(j:Int):=by unfold pid;simpa using e1
 rw[e]
 refine⟨by omega,?_⟩
 unfold prAt
 rw[x1gb,x1gk,x1gv hj,e2]
 rfl
theorem tri_ok{P:List Pq}{n:Nat}:∀w∈triN P n 0,cycE P w=0:=by
 intro w hw
 unfold triN triA triB triC at hw
 simp only[x1hj]at hw
 obtain⟨a,-,b,-,c,-,h⟩:=hw
 split at h
 .rename_i hc
  obtain⟨h1,h2,h3⟩:=hc
  simp only[x1hk]at h
  subst h
  obtain⟨x1,x2⟩:=pid_at h1
  obtain⟨y1,y2⟩:=pid_at h2
  obtain⟨z1,z2⟩:=pid_at h3
  have c1:wi (pid P a b) 0 ((P.length:Int)-1)=true:=wi_iff.mpr ⟨h1,by omega⟩
  have c2:wi (pid P b c) 0 ((P.length:Int)-1)=true:=wi_iff.mpr ⟨h2,by omega⟩
  have c3:wi (pid P a c) 0 ((P.length:Int)-1)=true:=wi_iff.mpr ⟨h3,by omega⟩
  simp[cycE,cyE,c1,c2,c3,frS,toS,x2,y2,z2]
 .cases h
theorem open_pot{l:List Scene}{P:List Pq}{ph:List Int}(hR:Right7 l P){ψ:Int->Int}(h:∀k,k<P.length->at0 ph k=ψ (prAt P k).b-ψ (prAt P k).a):xvp l P ph=[]:=by
 have hT:=x18f hR.pr (fW l P)
 have hLab:=(Lab.fresh l.length).joins hR.pr
 have hps:PotS P (xu0 (fW l P) l.length P) (phI ph) ψ:=λi hi=>by
  have hr:=hT.fo.rng i hi
  have:=h i.toNat (by omega)
  rw[x1hg hr.1]at this
  unfold phI
  omega
 have hpot:∀v:Nat,v<l.length->potL l P ph v=ψ v-ψ (at0 (joinsM (freshM l.length) P) v):=λv hv=>by
  obtain⟨w,w1,w2,-,w4⟩:=x18t hR (ph:=ph) hv
  rw[<-w4,hps.walk w1 w2]
 unfold xvp
 rw[List.filter_eq_nil_iff]
 intro i hi
 have hi2:=fresh_mem.mp hi
 obtain⟨a0,a1,a2⟩:=hR.at hi2
 have e1:=hpot (prAt P i).a.toNat (by omega)
 have e2:=hpot (prAt P i).b.toNat (by omega)
 have hm:=xxo (Lab.fresh l.length) hR.pr (prAt P i) (x19z hi2.1 hi2.2)
 unfold Sm at hm
 rw[hm]at e1
 rw[x1hg (by omega)]at e1 e2
 have hk:=h i.toNat (by omega)
 rw[x1hg hi2.1]at hk
 rw[x118 (by omega),x1hg hi2.1,e1,e2,hk]
 simp
 omega
theorem cor_open{l:List Scene}{P:List Pq}{ph wt T:List Int}(hT:TaskOK l P ph wt)(hE:nofE l P ph=0):xvp l P (corL ph (excL T (netL l P ph wt)))=[]:=by
 refine open_pot hT.r (ψ:=λv=>potL l P ph v-4096*at0 T v.toNat) λk hk=>?_
 have hkn:k<(netL l P ph wt).length:=by rw[xx9];exact hk
 have e1:at0 (excL T (netL l P ph wt)) k=exF (at0 T) (xxt l P ph wt k):=by
  rw[xt5 (by rw[xxu];exact hkn)]
  simp[excL,netL]
 have e2:=x118 (l:=l) (ph:=ph) hk
 obtain⟨e3,-,-⟩:=jump_eq hE hk
 rw[cor_get (by rw[hT.lp];exact hk),e1]
 unfold exF xxt
 simp only
 generalize (at0 (xsy l P ph) k).tdiv 4096=J at *
 omega
def GkE{α:Type}(z:Nat)(enc:α->List AV)(ok:Id->Prop)(m:Mem)(a:AV)(l:List α):Prop:=
 (a=.slit [] 0 true/\l=[])\/∃id ver,ok id/\a=.sref id ver 0 l.length z true/\m.get id=some (.row (l.flatMap enc) ver false)
theorem x15t{α:Type}{enc:α->List AV}{z bytes:Nat}{ok:Id->Prop}(hz:∀x,(enc x).length=z)(h0:0<z){m:Mem}{a b:AV}{l k:List α}(h:GkE z enc ok m a l)(hb:Sl enc b k)(hr:xt6 (l.length+k.length) bytes){id0:Id}(hok:ok id0) :
 ∃a' m',(∀{R:Type} (K:AV->Mem->Option R),sApp z bytes id0 (elems m.get z b) a m K=K a' m')/\GkE z enc ok m' a' (l++k)/\m'.next=m.next/\∀i,¬ok i->m'.get i=m.get i:=by
 have he:=hb.elems hz m.get
 have hkl:=xut hz k
 rcases h with ⟨rfl,rfl⟩|⟨id,ver,hid,rfl,hg⟩
 .by_cases hk:k.length=0
  .have:=x1hv.mp hk
   subst this
   refine⟨.slit [] 0 true,m,λK=>by rw[he];simp[sApp],.inl ⟨rfl,rfl⟩,rfl,λi _=>rfl⟩
  .refine⟨.sref id0 0 0 k.length z true,m.new id0 (.row (k.flatMap enc) 0 false),λK=>?_,.inr ⟨id0,0,hok,by simp,by simp⟩,rfl,λi hne=>by rw[Mem.get_new,x1g6 (by rintro rfl;exact hne hok)]⟩
   rw[he,x10z (by simpa using hr),x1ib hk]
   rfl
 .have hl:=xut hz l
  by_cases hk:k.length=0
  .have:=x1hv.mp hk
   subst this
   refine⟨.sref id ver 0 l.length z true,m,λK=>?_,.inr ⟨id,ver,hid,by simp,by simpa using hg⟩,rfl,λi _=>rfl⟩
   rw[he]
   simp only[sApp,hg]
   rw[x1g7 ⟨trivial,trivial,by omega,by simpa using hr⟩,x1g7 (show([]:List α).length=0 from rfl)]
  .refine⟨.sref id (ver+1) 0 (l.length+k.length) z true,m.set id (.row (l.flatMap enc++k.flatMap enc) (ver+1) false),λK=>?_,.inr ⟨id,ver+1,hid,by simp,by simp⟩,rfl,λi hne=>by rw[Mem.get_set,x1g6 (by rintro rfl;exact hne hid)]⟩
   rw[he]
   simp only[sApp,hg]
   rw[x1g7 ⟨trivial,trivial,by omega,hr⟩,x1g6 hk,x1g6 (by rw[hl,x1ii];have:=Nat.mul_pos (x1ky hk) h0;omega),x1g8,x1gg (by omega)]
theorem GkE.len{α:Type}{z:Nat}{enc:α->List AV}{ok:Id->Prop}{m:Mem}{a:AV}{l:List α}{y:TypeId}(h:GkE z enc ok m a l):sLen Tryz.prog y a=some (I l.length):=by
 rcases h with ⟨rfl,rfl⟩|⟨id,ver,_,rfl,_⟩<;>rfl
theorem GkE.frz{α:Type}{z:Nat}{enc:α->List AV}{ok:Id->Prop}{m:Mem}{a:AV}{l:List α}(hz:∀x,(enc x).length=z)(hs:∀x,(enc x).all still1=true)(k:Nat)(h:GkE z enc ok m a l):∃a',Sl enc a' l/\Go.Ix.frz m.get (k+2) a=some a':=by
 rcases h with ⟨rfl,rfl⟩|⟨id,ver,_,rfl,hg⟩
 .exact⟨.slit [] 0 true,Sl.lit [] true,xuh _ k rfl⟩
 .exact Gk.frz (ok:=λ_=>True) hz hs (.inr ⟨id,ver,trivial,rfl,hg⟩)
theorem GkE.at{ok:Id->Prop}(hok:∀id,ok id->id.1=0){m:Mem}{a:AV}{L:List Wv}(h:GkE 1 Wv.c ok m a L){k:Nat}(hk:k<L.length):∃p,sIx 1 a (I (k:Int))=some p/\sLd false 1 p m=some L[k].v/\∀n,0<n->cAp (some n) (tR p) 2=true:=by
 rcases h with ⟨-,rfl⟩|⟨id,ver,hid,rfl,hg⟩
 .simp at hk
 .have h1:(k:Int)<(L.length:Int):=by omega
  refine⟨.ptr id ver (0+k*1),by simp[sIx,asI,hk],?_,λn hn=>by
   have:Nat.blt id.1 n=true:=by rw[hok id hid];exact x1kj (by omega)
   simp[cAp,tR,this]⟩
  rw[xsv,hg,xt1]
  have hfl:∀K:List Wv,K.flatMap Wv.c=K.map Wv.v:=λK=>by
   induction K with
   |nil=>rfl
   |cons x r ih=>rw[x1gy,ih];rfl
  rw[hfl,x1gl,x1i4,x1lo (by simpa using hk),x1k7]
  simp
theorem retF_of{call:xsj}{f:FuncId}{l:List AV}{v:AV}(hl:l.all still=true)(h:∀m,xsl call f l m=some (v,m)):RetF (λa=>a=v) (call [] f l mem0):=by
 have h0:=h mem0
 unfold xsl at h0
 rw[x10w _ hl]at h0
 simp only at h0
 split at h0
 .rename_i r m' e
  rw[x1gi]at h0
  obtain⟨r',h1,h2⟩:=h0
  injection h2 with h2 _
  exact⟨r,m',r',e,h1,h2⟩
 .cases h0
theorem cl_zero{l:List Scene}{P:List Pq}{ph wt:List Int}{w:List Sp}(hE:taskE l P ph wt=0)(hO:xvp l P ph=[])(hc:cycE P w=0):clE l P ph wt w=0/\clN l P ph wt w=0:=by
 have hT:=xxs hE
 have e1:clE l P ph wt w=0:=by unfold clE;simp[hE,hc]
 obtain⟨h1,h2,a,h3⟩:=cycE_ok hc
 refine⟨e1,?_⟩
 unfold clN
 rw[e1,x19r hT.lp hO h2 h3]
 simp
theorem l_vanishL{s p f g av:AV}{l:List Scene}{P:List Pq}{ph wt:List Int}(hs:Sl Scene.c s l)(hp:Sl Pq.c p P)(hf:Ints f ph)(hg:Ints g wt)(h1:l.length<=1000)(h2:P.length<=1000)(h3:ph.length<=1000)(h4:wt.length<=1000)(hE:taskE l P ph wt=0)(hO:xvp l P ph=[]){L:List Wv}(hL:∀w∈L,cycE P w.w=0/\w.w.length<=1000)(hLl:L.length<=1000){ok:Id->Prop}(hok:∀id,ok id->id.1=0){m:Mem}(fc j:Nat){b:Bool}(hm:m.get (0,j,14)=some (.row [s,p,f,g] 0 b))(hn:m.next=1)(ha:GkE 1 Wv.c ok m av L) :
 ∃m',x6m (xsi 30) [] 0 (.ptr (0,j,14) 0 0) av m fc=some (B true,m'):=by
 unfold x6m
 refine xtd (N:=L.length) (σ:=Unit) (λn k _ m fc=>x4z (xsi 30) [] 0 n (.ptr (0,j,14) 0 0) av (I k) m fc) (λ_ _ m'=>m'=m) (λr=>∃m',r=some (B true,m')) ?_ ?_ NN 0 () m _ (by omega) (by rw[xsu];omega) rfl
 .rintro n k-m' fc hk hm' next
  rw[hm']
  have hk':(k:Int)<(L.length:Int):=by omega
  obtain⟨c1,c2⟩:=hL _ (x1go hk)
  obtain⟨pt,q1,q2,q3⟩:=ha.at hok hk
  have q3':=q3 1 (by omega)
  obtain⟨s3,p3,f3,g3,hs3,hp3,hf3,hg3,hcp3⟩:=x152 28 hs hp hf hg (by omega) (by omega) (by omega) (by omega) m
  have hcl:=λm=>x19q 21 hs3 hp3 hf3 hg3 L[k].h (by omega) (by omega) (by omega) m
  obtain⟨z1,z2⟩:=cl_zero hE hO c1
  rw[z1,z2]at hcl
  simp only[x4z]
  unfold x7r
  simp only[ha.len,hk',x1gm,xta,xt9,xsn,xsv,hm,xt1,x1gd,xsr,x1g8,rd_4,hcp3,q1,q2,hcl,xzs,x1id,x1ij,mkM_0,x1h4,x1hn,x17i,hs.clean1,hp.clean1,hf.clean1,hg.clean1,x1if,x1hp,ble_2,x1hq,hn,q3']
  simp(disch:=omega) [xso]
  exact next () m _ rfl
 .rintro n-m' fc hm'
  rw[hm']
  simp only[x4z]
  unfold x7r xg7
  simp[ha.len]
theorem zzTask:x39=[nilS,nilS,nilS,nilS]:=by kernel_rfl
theorem l_vanish{s p f g a b c ka:AV}{l:List Scene}{P:List Pq}{ph wt F G K:List Int}{w:List Sp}(hs:Sl Scene.c s l)(hp:Sl Pq.c p P)(hf:Ints f ph)(hg:Ints g wt)(ha:Ints a F)(hc:Sl Sp.c c w)(hk:Ints ka K)(hE0:taskE l P ph wt=0)(hT:TaskOK l P ph wt)(hfw:few7 l P=true)(hO:xvp l P (corL ph K)=[])(hkl:K.length=P.length)(hkb:∀k,k<K.length->-1000000<=at0 K k/\at0 K k<=1000000)(hl0:0<l.length)(hF:F.length<=20)(hw:w.length<=30){m:Mem}(fc:Nat)(k2:m.get (0,0,2)=some (.row [s,p,f,g] 0 false))(k3:m.get (0,1,3)=some (.row [a,b,c] 0 false))(hn:m.next=1) :
 ∃m',x7s (xsi 30) [] 0 (.ptr (0,0,2) 0 0) (.ptr (0,1,3) 0 0) ka m fc=some (B true,m'):=by
 have hR:=hT.r
 have hT':=hE0
 obtain⟨l8,p14⟩:=x10b hfw hR
 have hpl:=hT.lp
 have hwl:=hT.lw
 obtain⟨s2,p2,f2,g2,hs2,hp2,hf2,hg2,hcor⟩:=x1cy 27 hs hp hf hg hk (by omega) (by omega) (by omega) (by omega) (by omega) hT.hp hkb m
 have hcl:(corL ph K).length=ph.length:=xzc ph K
 unfold x7s
 simp[k2,hcor,zzTask,hs2.one,hp2.one,hf2.one,hg2.one]
 generalize hm3:Mem.set _ _ _=m3
 have q2:m3.get (0,0,2)=some (.row [s,p,f,g] 0 false):=by rw[<-hm3];simp[k2]
 have q3:m3.get (0,1,3)=some (.row [a,b,c] 0 false):=by rw[<-hm3];simp[k3]
 have q14:m3.get (0,fc+3,14)=some (.row [s2,p2,f2,g2] 0 false):=by rw[<-hm3];simp
 have hn3:m3.next=1:=by rw[<-hm3];simp[hn]
 simp[q14,x12l 25 hs2 hp2 hf2 hg2 (by omega) (by omega)]
 by_cases hE:taskE l P (corL ph K) wt=0
 rotate_left
 .simp[hE]
 obtain⟨s3,p3,f3,g3,hs3,hp3,hf3,hg3,hcp3⟩:=x152 28 hs2 hp2 hf2 hg2 (by omega) (by omega) (by omega) (by omega) m3
 obtain⟨pa,pb,hpa,hpb,hsol⟩:=w_Solved 16 hs3 hp3 hf3 hg3 (by omega) (by omega) hfw 0 m3
 have hw0:wi 0 0 ((l.length:Int)-1)=true:=wi_iff.mpr ⟨by omega,by omega⟩
 have e1:xw0 l P (corL ph K) wt 0=0:=by unfold xw0;simp[hE,hw0,hO]
 have e2:xyk l P (corL ph K) wt 0=solM l P (corL ph K) 0:=by unfold xyk;rw[e1];rfl
 rw[e2]at hpa
 have hsl:(solM l P (corL ph K) 0).length=l.length:=x15k
 obtain⟨cb,m4,happ,hG4,hn4,hfr4⟩:=x15t (ok:=λid=>id.2.2=153) (bytes:=16) Sp.len (by omega) (m:=m3) (.inl ⟨rfl,rfl⟩) hc (by unfold xt6;simp;omega) (id0:=(0,fc+34,153)) rfl
 rw[x1hl]at hG4
 obtain⟨cb',hcb,hfz⟩:=hG4.frz Sp.len Sp.still 4
 have hclo:=retF_of (by simp[hs3.still1,hp3.still1,hf3.still1,hg3.still1,hcb.still]) λm=>x19q 21 hs3 hp3 hf3 hg3 hcb (by omega) (by omega) (by omega) m
 obtain⟨v5,m5,rfl,hc5,hn5,hrow5⟩:=callR (m:=m4) (l:=[.agg [s3,p3,f3,g3],cb]) (l':=[.agg [s3,p3,f3,g3],cb']) (by
  simp only[x1gw,x1hd,show Go.Ix.frz m4.get deep cb=some cb' from hfz,show Go.Ix.frz m4.get deep (.agg [s3,p3,f3,g3])=some (.agg [s3,p3,f3,g3])from xuh _ 4 (by simp[hs3.still1,hp3.still1,hf3.still1,hg3.still1])]
  rfl) hclo
 have r4:∀i:Id,i.2.2≠153->m4.get i=m3.get i:=λi hi=>hfr4 i hi
 obtain⟨b2,q52⟩:=hrow5 (0,0,2) _ _ _ (by rw[r4 _ (by simp)];exact q2)
 obtain⟨b3,q53⟩:=hrow5 (0,1,3) _ _ _ (by rw[r4 _ (by simp)];exact q3)
 obtain⟨b14,q514⟩:=hrow5 (0,fc+3,14) _ _ _ (by rw[r4 _ (by simp)];exact q14)
 simp[hE,hcp3,hsol,e1,hpa.len xt8,q2,hs.len xtt,hsl,q14,q3]
 rw[happ]
 simp only[hc5,xsn,xzs,x1id,x1ij,mkM_0,x1h4,x1hn,x17i,hs2.clean1,hp2.clean1,hf2.clean1,hg2.clean1,x1if,x1hp,ble_2,x1hq,hn3,tR,xsm,disj,cAp]
 have hw1:(![(0,fc+31,150)].contains ((0,fc+3,14):Id))=true:=by simp
 have hw2:(![(0,fc+31,150)].contains ((0,1,3):Id))=true:=by simp
 simp only[hw1,hw2,xsr,ble_2,x1i0,x1hl,x1hc,x1h4,x1hn,show Nat.blt 0 1=true from rfl,show Nat.beq 2 2=true from rfl,x1ie,x1if,x1hq,x1hp,show(![].contains ((0,fc+31,150):Id))=true from rfl]
 have hz:(clE l P (corL ph K) wt w=0/\clN l P (corL ph K) wt w=0)\/(clE l P (corL ph K) wt w≠0/\True):=by
  by_cases c:cycE P w=0
  .exact .inl (cl_zero hE hO c)
  .exact .inr ⟨by unfold clE;simp[hE];exact c,trivial⟩
 have hn0:=x19p hT'
 have hPl:=hR.pl
 obtain⟨s6,p6,hs6,hp6,hc6⟩:=x14f 29 hs hp (by omega) (by omega) m5
 obtain⟨t,L3,ht,hL3,htr⟩:=x1d2 22 hs6 hp6 (λ_=>l8) m5
 rw[x1g7 hn0]at hL3
 obtain⟨a',ha',hac⟩:=x17z 29 ha (by omega) m5
 obtain⟨v7,L7,hv7,hL7,hcy⟩:=w_Cycles 13 hs6 hp6 ha' (by omega) (λ_=>l8) m5
 have hl3:L3.length<=392:=by
  have h1:=x1a3 P l8
  have h2:L3.length=(triN P l.length 0).length:=by simpa using congrArg List.length hL3
  omega
 have hL3c:∀w∈L3,cycE P w.w=0/\w.w.length<=1000:=λx hx=>by
  have hm:x.w∈triN P l.length 0:=by rw[<-hL3];exact x1kh hx
  exact⟨tri_ok _ hm,by have:=triN_w _ hm;omega⟩
 have hL7c:L7.length<=60/\∀w∈L7,cycE P w.w=0/\w.w.length<=1000:=by
  by_cases c:cfE l P F=0
  .rw[x1g7 c]at hL7
   obtain⟨-,-,hTr⟩:=x1a1 c
   obtain⟨cl1,cl2⟩:=cyc_len hR.pr hTr hL7
   refine⟨by omega,λx hx=>?_⟩
   obtain⟨i,i0,i1,i2,i3,i4⟩:=cl2 x hx
   exact⟨by rw[i3];exact cycC_ok (by omega) hR.pr hTr i0 i1,by omega⟩
  .rw[x1g6 c]at hL7
   have:L7=[]:=by simpa using hL7
   subst this
   exact⟨by simp,λx hx=>by cases hx⟩
 obtain⟨u1,m6,app1,hG6,hn6,hfr6⟩:=x15t (ok:=λid=>id.1=0/\(id.2.2=184\/id.2.2=186)) (bytes:=24) Wv.len (by omega) (m:=m5) (.inl ⟨rfl,rfl⟩) ht (by unfold xt6;simp;omega) (id0:=(0,fc+72,184)) ⟨rfl,.inl rfl⟩
 rw[x1hl]at hG6
 obtain⟨u2,m7,app2,hG7,hn7,hfr7⟩:=x15t (ok:=λid=>id.1=0/\(id.2.2=184\/id.2.2=186)) (bytes:=24) Wv.len (by omega) (m:=m6) hG6 hv7 (by unfold xt6;omega) (id0:=(0,fc+74,186)) ⟨rfl,.inr rfl⟩
 have q714:m7.get (0,fc+3,14)=some (.row [s2,p2,f2,g2] 0 b14):=by rw[hfr7 _ (by simp),hfr6 _ (by simp)];exact q514
 have hn57:m5.next=1:=by rw[hn5,hn4,hn3]
 have fin:∀fc',∃m',x6m (xsi 30) [] 0 (.ptr (0,fc+3,14) 0 0) u2 m7 fc'=some (B true,m'):=λfc'=>
  l_vanishL hs2 hp2 hf2 hg2 (by omega) (by omega) (by omega) (by omega) hE hO (L:=L3++L7) (λx hx=>(x1h2.mp hx).elim (hL3c x) (hL7c.2 x)) (by have:=hL7c.1;rw[x1hu];omega) (λid h=>h.1) fc' (fc+3) q714 (by rw[hn7,hn6,hn57]) hG7
 rcases hz with ⟨x1,x2⟩|⟨x1,x2⟩
 all_goals
  simp[x1,x2,q52,hc6,htr,hn0,q53,hac]
  simp only[hac,hcy,xsn,xzs,x1id,x1ij,hs.clean1,hp.clean1,x1hp,xsr,ble_2,hn57,show Nat.blt 0 1=true from rfl,show Nat.beq 2 2=true from rfl,x1ie,app1,app2]
  exact fin _
theorem law_TopCyclesVanish{s p f g a b c:AV}{l:List Scene}{P:List Pq}{ph wt F G:List Int}{w:List Sp}(hs:Sl Scene.c s l)(hp:Sl Pq.c p P)(hf:Ints f ph)(hg:Ints g wt)(ha:Ints a F)(hb:Ints b G)(hc:Sl Sp.c c w):∃m',xsi 31 [] x6j [.agg [s,p,f,g],.agg [a,b,c]] mem0=some (B true,m'):=by
 rw[xm3]
 unfold xdm x7u
 generalize hm1:((⟨[],1⟩:Mem).new (0,0,2) (.row [s,p,f,g] 0 false)).new (0,1,3) (.row [a,b,c] 0 false)=m1
 have g2:m1.get (0,0,2)=some (.row [s,p,f,g] 0 false):=by rw[<-hm1];simp
 have g3:m1.get (0,1,3)=some (.row [a,b,c] 0 false):=by rw[<-hm1];simp
 have hn1:m1.next=1:=by rw[<-hm1];rfl
 obtain⟨bl,hbl,hlc⟩:=w_Brief 22 hs hp hf hg m1
 simp[mem0,hs.one,hp.one,hf.one,hg.one,ha.one,hb.one,hc.one,hm1,w_stacked,g2,hlc]
 cases bl with
 |false=>simp
 |true=>
  obtain⟨⟨hL,hSl⟩,hE⟩:=hbl rfl
  have hT:=xxs hE
  have hR:=hT.r
  obtain⟨l8,p14⟩:=x10b hL.few hR
  have hpl:=hT.lp
  have hwl:=hT.lw
  simp[g3,ha.len xt8]
  by_cases h20:(20:Int)<(F.length:Int)
  .simp[h20]
  simp[h20,g3,hc.len x105]
  by_cases h30:(30:Int)<(w.length:Int)
  .simp[h30]
  simp[h30,g2,hs.len xtt]
  by_cases hl0:l.length=0
  .have:l=[]:=x1hv.mp hl0
   simp[this]
  have hl0':¬l=[]:=λe=>hl0 (by rw[e];rfl)
  obtain⟨s',p',f',g',hs',hp',hf',hg',hcp⟩:=x152 28 hs hp hf hg (by omega) (by omega) (by omega) (by omega) m1
  by_cases hE2:nfE l P ph wt=0
  rotate_left
  .have hb0:=w_Best0 14 hs' hp' hf' hg' (by omega) (by omega) hL.few hE2 m1
   have hln:sLen Tryz.prog x4 nilS=some (I 0):=xzu xt8
   simp[hl0',g2,hcp,hb0,hE2,hln]
  have hS:=hSl hE2
  obtain⟨-,hE3,hN,hLn⟩:=x10d hE2
  obtain⟨v,⟨fl2,tu3,ex3,ta,fb,rfl,hSo,hta,hfb⟩,hbest⟩:=xu6 (by simp[hs'.still1,hp'.still1,hf'.still1,hg'.still1]) (a_Best 14 hs' hp' hf' hg' (by omega) (by omega) hL.few hE2 hS) m1
  obtain⟨e,he,hnc⟩:=x15m 15 hs' hp' hf' hg' (by omega) (by omega) hL.few m1
  rw[hLn]at he
  rw[hN]at hnc
  have hnl:=xx9 l P ph wt
  have hck:=x19w (wt:=wt) hT hE3
  obtain⟨hB,hC⟩:=hSo.best
  have hTb:=hSo.turns (by omega)
  have hfll:=hSo.f.fll
  have hco:=cor_open (wt:=wt) (T:=xu4 l.length (xu8 l.length (netL l P ph wt)) tu3) hT hE3
  have hkb:∀(k:Nat) (hk:k<(netL l P ph wt).length),(exF (at0 (xu4 l.length (xu8 l.length (netL l P ph wt)) tu3)) (netL l P ph wt)[k]).natAbs<=1000000:=λk hk=>by
   have h1:=hS.jw _ (x1go hk)
   have h2:=hTb ((netL l P ph wt)[k]).to.toNat
   have h3:=hTb ((netL l P ph wt)[k]).fr.toNat
   unfold exF
   omega
  generalize hTT:xu4 l.length (xu8 l.length (netL l P ph wt)) tu3=T at *
  generalize hNN:netL l P ph wt=N at *
  have hzl:(N.zip fl2).map Prod.fst=N:=by rw[List.map_fst_zip];rw[hfll];exact x1ga _
  have hcost:xvd T 0 N=valF (N.zip fl2):=by
   have:=(tight hB (at0 T)).mpr hC
   rw[hzl]at this
   rw[x19n,this];omega
  have hfo:x109 (l.length:Int) N fl2=(xvd T 0 N,0):=by
   unfold x109
   rw[hck,hcost,x1cv hS.ed hfll hB]
   rfl
  simp[hl0',g2,hcp,hbest,hnc,hE2,xwt,he.one]
  have hbd:∀x:AV,x=e->xsw [I 0,nilS] [(0,1,I (l.length:Int)),(1,1,x)]=xsw [I 0,nilS] [(0,1,I (l.length:Int)),(1,1,e)]:=λx h=>by rw[h]
  generalize hm2:Mem.set _ _ _=m2
  have k2:m2.get (0,0,2)=some (.row [s,p,f,g] 0 false):=by rw[<-hm2];simp[g2]
  have k3:m2.get (0,1,3)=some (.row [a,b,c] 0 false):=by rw[<-hm2];simp[g3]
  have k9:m2.get (0,47,9)=some (.row [I (l.length:Int),e] 0 false):=by rw[<-hm2];simp
  have hn2:m2.next=1:=by rw[<-hm2];simp[hn1]
  obtain⟨fb',hfb',hfc⟩:=x17z 29 hfb (by omega) m2
  have hcf:=x1cl 25 (n:=(l.length:Int)) he hfb' m2
  rw[hfo]at hcf
  simp only[xsv,k9,xt1,x1gd,xsr,x1g8,rd_2,xsn,hfc,hcf,xzs,x1id,x1ij,mkM_0,x1h4,x1hn,hfb.clean,x1if,x1hp,tR,cAp,x1gd,x1ie]
  simp[hta.len xt8,xxu,k2,hf.len xt8,k9,he.len xwo,hnl,hpl]
  unfold xg9
  refine xtd (N:=N.length) (σ:=Unit) (λn k _ m fc=>x51 (xsi 30) [] 0 n (.ptr (0,0,2) 0 0) (.ptr (0,1,3) 0 0) ta (I k) m fc) (λ_ _ m'=>m'=m2) (λr=>∃m',r=some (B true,m')) ?_ ?_ NN 0 () m2 _ (by omega) (by rw[xsu];omega) rfl
  .rintro n k-m' fc hk hm' next
   rw[hm']
   have hk':(k:Int)<(N.length:Int):=by omega
   have hk2:k<(excL T N).length:=by rw[xxu];exact hk
   have ixa:=hta.ix xt2 hk2
   have lda:=λm=>xte (m:=m) hk2
   have hx:=hkb k hk
   have e1:at0 (excL T N) k=exF (at0 T) N[k]:=by
    rw[xt5 hk2]
    simp[excL]
   have hw:wi (at0 (excL T N) k) (-1000000) 1000000=true:=wi_iff.mpr (by rw[e1];omega)
   simp only[x51]
   unfold x7t
   simp(disch:=omega) [hta.len xt8,xxu,hk',ixa,lda,xy5,hw]
   exact next () m2 _ rfl
  .rintro n-m' fc hm'
   rw[hm']
   simp only[x51]
   unfold x7t
   simp[hta.len xt8,xxu]
   refine l_vanish (G:=G) hs hp hf hg ha hc hta hE hT hL.few hco (by rw[xxu];exact hnl) (λk hk=>?_) (by omega) (by omega) (by omega) _ k2 k3 hn2
   rw[xxu]at hk
   have hx:=hkb k hk
   rw[xt5 (by rw[xxu];exact hk)]
   simp only[excL,x1k7]
   omega
end Go.Ix
