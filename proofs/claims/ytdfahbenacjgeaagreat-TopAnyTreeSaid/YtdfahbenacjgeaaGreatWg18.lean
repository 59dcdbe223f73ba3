import Derived.Test.YtdfahbenacjgeaaGreatWg15
import Derived.Test.YtdfahbenacjgeaaGreatWg2
import Derived.Test.YtdfahbenacjgeaaGreatWg11
import Derived.Test.YtdfahbenacjgeaaGreatWg17
import Derived.Test.YtdfahbenacjgeaaGreatWg16
set_option linter.unusedSimpArgs false
set_option linter.unusedVariables false
namespace Go.Ix
open Go.Proofs
def ClassC(n u:Nat)(ev:AV)(M:Nat->List Int)(m:Mem):Prop:=
 m.get (0,0,1)=some (.row [I n,ev] 0 false)/\∃A,m.get (0,5,4)=some (.row [A] 0 false)/\(n=0\/∃id ver cs,id.1=0/\A=.sref id ver 0 n 1 true/\m.get id=some (.row cs ver false)/\cs.length=n /\
  ∀(v:Nat) (hv:v<cs.length),∃i:Id,i.1<u/\cs[v]=srI i n/\m.get i=some (.row ((M v).flatMap intE) 0 false))
theorem ClassC.frame{n u:Nat}{ev:AV}{M:Nat->List Int}{m m':Mem}(hu:0<u)(h:ClassC n u ev M m)(hm:∀id:Id,id.1<u->m'.get id=m.get id):ClassC n u ev M m':=by
 obtain⟨h1,A,h2,h3⟩:=h
 refine⟨by rw[hm _ hu];exact h1,A,by rw[hm _ hu];exact h2,?_⟩
 rcases h3 with h3|⟨id,ver,cs,a,b,c,d,e⟩
 .exact Or.inl h3
 .refine Or.inr ⟨id,ver,cs,a,b,by rw[hm _ (by omega)];exact c,d,λv hv=>?_⟩
  obtain⟨i,i1,i2,i3⟩:=e v hv
  exact⟨i,i1,i2,by rw[hm _ i1];exact i3⟩
theorem ClassC.rd{n u:Nat}{ev:AV}{M:Nat->List Int}{m:Mem}(h:ClassC n u ev M m)(hMl:∀v,v<n->(M v).length=n)(hn:0<n):∃A,m.get (0,5,4)=some (.row [A] 0 false)/\∀a,a<n->∃p x,
 sIx 1 A (I (a:Nat))=some p/\sLd false 1 p m=some x/\∀b,b<n->∃q,sIx 1 x (I (b:Nat))=some q/\sLd false 1 q m=some (I (at0 (M a) b)):=by
 obtain⟨-,A,h2,h3⟩:=h
 rcases h3 with h3|⟨id,ver,cs,ha0,rfl,c,d,e⟩
 .omega
 refine⟨_,h2,λa ha=>?_⟩
 obtain⟨i,i1,i2,i3⟩:=e a (by omega)
 refine⟨.ptr id ver a,cs[a]'(by omega),?_,?_,λb hb=>?_⟩
 .simp[sIx,asI,ha]
 .rw[xlb,c,xmf,x13j,xlf]
  exact rd_av (by omega)
 .rw[i2]
  refine⟨.ptr i 0 b,by simpa using ix_own (id:=i) (n:=n) (k:=(b:Int)) (by omega) (by omega),?_⟩
  rw[xlb,i3]
  exact ldRow_int (by rw[hMl a ha];exact hb)
theorem Way.app{z:List (Edge×Int)}{u v w:Nat}{c d:Int}(h1:Way z u v c)(h2:Way z v w d):Way z u w (c+d):=by
 induction h2 with
 |nil=>rw[Int.add_zero];exact h1
 |cons _ ha ih=>rw[<-Int.add_assoc];exact ih.cons ha
theorem nf_ok{l:List Scene}{P:List Pq}{ph wt:List Int}(h:nfE l P ph wt=0):taskE l P ph wt=0/\nofE l P ph=0/\nfN l P ph wt=l.length/\nfL l P ph wt=netL l P ph wt:=by
 unfold nfE at h
 by_cases c:taskE l P ph wt=0
 .simp[c]at h
  exact⟨c,h,by simp[nfN,nofN,c,h],by simp[nfL,nofL,c,h]⟩
 .simp[c]at h
def Br7(l:List Scene)(P:List Pq)(ph wt:List Int):Prop:=Lt7 l P ph wt/\(nfE l P ph wt=0->Slim 20 l.length (netL l P ph wt))
def IsBr(l:List Scene)(P:List Pq)(ph wt:List Int)(v:AV):Prop:=∃b,v=B b/\(b=true->Br7 l P ph wt)
theorem slim7{l:List Scene}{P:List Pq}{ph wt:List Int}(hL:Lt7 l P ph wt)(hE:taskE l P ph wt=0)(hE2:nofE l P ph=0)(hj:∀e∈netL l P ph wt,e.jump.natAbs<=20):Slim 20 l.length (netL l P ph wt):=by
 have hT:=xqy hE
 obtain⟨l8,p14⟩:=xsc hL.few hT.r
 refine⟨by omega,by omega,by omega,by rw[xqz];omega,λe he=>?_,λe he=>?_⟩
 .obtain⟨h1,h2⟩:=net_mem hT hE2 e he
  exact⟨h1,by omega⟩
 .have h1:=hj e he
  refine⟨by omega,by omega,?_⟩
  unfold netL at he
  obtain⟨k,hk,rfl⟩:=x12r.mp he
  have hk2:k<P.length:=by simpa using hk
  exact(hL.c hE k (by rw[hT.lp];exact hk2)).1
theorem w_brief7(d:Nat){s p f g:AV}{l:List Scene}{P:List Pq}{ph wt:List Int}(hs:Sl Scene.c s l)(hp:Sl Pq.c p P)(hf:Ints f ph)(hg:Ints g wt)(m:Mem) :
 ∃b,(b=true->Br7 l P ph wt)/\xk4 (xk2 (d+7)) x1f [.agg [s,p,f,g]] m=some (B b,m):=by
 suffices key:RetF (IsBr l P ph wt) (xk2 (d+7) [] x1f [.agg [s,p,f,g]] mem0) by
  obtain⟨v,⟨b,rfl,h⟩,hc⟩:=xlq (by simp[hs.still1,hp.still1,hf.still1,hg.still1]) key m
  exact⟨b,h,hc⟩
 have no:∀m,RetF (IsBr l P ph wt) (some (B false,m)):=λm=>RetF.st rfl ⟨false,rfl,λh=>by cases h⟩
 rw[xfv]
 unfold x9g x5r
 generalize hm1:(⟨[],1⟩:Mem).new (0,0,1) (.row [s,p,f,g] 0 false)=m1
 have g1:m1.get (0,0,1)=some (.row [s,p,f,g] 0 false):=by rw[<-hm1];simp
 obtain⟨bl,hbl,hlc⟩:=w_light7 d hs hp hf hg m1
 simp[mem0,hs.one,hp.one,hf.one,hg.one,hm1,g1,hlc]
 cases bl with
 |false=>simp;exact no m1
 |true=>
  have hL:=hbl rfl
  have ha:=hL.a
  have hb:=hL.b
  have yes:(nfE l P ph wt=0->∀e∈netL l P ph wt,e.jump.natAbs<=20)->∀m,RetF (IsBr l P ph wt) (some (B true,m)):=λh m=>RetF.st rfl ⟨true,rfl,λ_=>⟨hL,λhE=>slim7 hL (nf_ok hE).1 (nf_ok hE).2.1 (h hE)⟩⟩
  simp[g1,xuj (d+1) hs hp hf hg (by omega) (by omega)]
  by_cases hE:taskE l P ph wt=0
  rotate_left
  .simp[hE]
   exact yes (λh=>absurd (nf_ok h).1 hE) m1
  have hT:=xqy hE
  obtain⟨e,he,hec⟩:=w_rNetOf7 d hs hp hf hg hT m1
  simp[hE,g1,hec,xsd,he.one]
  generalize hm2:Mem.set _ _ _=m2
  have g3:m2.get (0,13,3)=some (.row [I (nofN l P ph wt),e] 0 false):=by rw[<-hm2];simp
  by_cases hE2:nofE l P ph=0
  rotate_left
  .simp[hE2]
   exact yes (λh=>absurd (nf_ok h).2.1 hE2) m2
  simp[hE2]
  unfold xbz
  have hN:nofL l P ph wt=netL l P ph wt:=by unfold nofL;simp[hE2]
  rw[hN]at he
  have hmem:=net_mem (wt:=wt) hT hE2
  have hle:=xqz l P ph wt
  obtain⟨l8,p14⟩:=xsc hL.few hT.r
  generalize hnet:netL l P ph wt=N at *
  refine xkq (N:=N.length) (σ:=Unit) (λn k _ m fc=>x3h (xk2 (d+6)) [] 0 n (.ptr (0,13,3) 0 0) (I k) m fc) (λk _ m=>m=m2/\∀e∈N.take k,e.jump.natAbs<=20) _ ?_ ?_ NN 0 () m2 _ (by omega) (by rw[xkj];omega) ⟨rfl,by simp⟩
  .rintro n k-m fc hk ⟨hm,hI⟩ next
   rw[hm]
   have hk':(k:Int)<(N.length:Int):=by omega
   have ix:=he.ix Edge.len hk
   have lj:=λm=>xmy (enc:=Edge.c) (m:=m) (l:=N) hk 2 (v:=I (N[k]).jump) rfl
   obtain⟨-,-,-,-,b1,b2,-⟩:=(hmem N[k] (x12s hk)).1
   have hts:=x12y hk
   generalize N[k]=x at *
   have hsz:=λm=>w_Size (d+5) x.jump m (by omega) (by omega)
   simp only[x3h]
   unfold x5q
   simp(disch:=omega) [g3,he.len u_edges,hk',ix,lj,hsz]
   by_cases c:20<(x.jump.natAbs:Int)
   .simp[c]
    exact no m2
   .simp[c]
    refine next () m2 _ ⟨rfl,λy hy=>?_⟩
    rw[hts]at hy
    rcases x136.mp hy with hy|hy
    .exact hI y hy
    .simp at hy;subst hy;omega
  .rintro n-m fc ⟨hm,hI⟩
   rw[hm]
   rw[x15y]at hI
   simp only[x3h]
   unfold x5q xby
   simp[g3,he.len u_edges]
   exact yes (λ_=>by first|exact hI|(rw[hnet];exact hI)) m2
end Go.Ix
