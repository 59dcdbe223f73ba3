import Derived.Test.YtdfahbenacjgeaaWg7
import Derived.Test.YtdfahbenacjgeaaWg8
import Derived.Test.YtdfahbenacjgeaaWg6
import Derived.Test.YtdfahbenacjgeaaWg4
set_option linter.unusedSimpArgs false
set_option linter.unusedVariables false
namespace Go.Ix
variable{P:List Pq}{n:Nat}{F:List Int}
theorem at0_setI{l:List Int}{b v:Int}{x:Int}(h0:0<=b)(hb:b<l.length)(hv:0<=v):at0 (l.set b.toNat x) v.toNat=if v=b then x else at0 l v.toNat:=by
 unfold at0;rw[xcg,xcg,xff];by_cases c:v=b
 .rw[xc2 c,c,xc2 rfl,xc2 (by omega)];rfl
 .rw[xc1 c,xc1 (by omega)]
def unk(K:List Bool):Nat:=(K.filter λb=>!b).length
theorem W4:∀{K:List Bool} {k:Nat},k<K.length->K.getD k false=false->unk (K.set k true)+1=unk K
 |[],_,h,_=>by simp at h
 |b::r,0,_,hb=>by simp at hb;subst hb;simp[unk]
 |b::r,k+1,h,hb=>by have:=W4 (K:=r) (k:=k) (by simpa using h) (by simpa using hb);unfold unk at this ⊢;rw[xgi];cases b<;>simp<;>omega
theorem unk_le:∀{K L:List Bool},K.length=L.length->(∀k,k<K.length->K.getD k false=true->L.getD k false=true)->unk L<=unk K
 |[],[],_,_=>xc7 _
 |[],_::_,h,_=>by simp at h
 |_::_,[],h,_=>by simp at h
 |a::r,b::s,h,hk=>by
  have ih:=unk_le (K:=r) (L:=s) (by simpa using h) λk hk2=>by have:=hk (k+1) (by simpa using hk2);simpa using this
  have h0:=hk 0 (by simp);simp only[List.getD_cons_zero]at h0;unfold unk at ih ⊢;cases a with
  |true=>rw[h0 rfl];exact ih
  |false=>
   cases b
   .show(r.filter λb=>!b).length+1 ≥ (s.filter λb=>!b).length+1;omega
   .show(s.filter λb=>!b).length<=(r.filter λb=>!b).length+1;omega
structure DS (n:Nat) (φ:Int->Int) (O:List Int) (K:List Bool):Prop where
 lo:O.length=n
 lk:K.length=n
 kn:∀v:Int,0<=v->v<n->boA K v=true->at0 O v.toNat=φ v
def Un(n:Nat)(O:List Int)(K:List Bool)(but:Int):Prop:=∀v:Int,0<=v->v<n->v≠but->boA K v=false->at0 O v.toNat=0
def Sub(n:Nat)(K L:List Bool):Prop:=∀v:Int,0<=v->v<n->boA K v=true->boA L v=true
theorem Sub.unk{K L:List Bool}(h:Sub n K L)(hk:K.length=n)(hl:L.length=n):unk L<=unk K:=unk_le (by omega) λk hk2 e=>by have:=h (k:Int) (by omega) (by omega) (by unfold boA;simpa using e);unfold boA at this;simpa using this
def Clo(P:List Pq)(F:List Int)(K L:List Bool):Prop:=∀x,InF F x->boA K (frS P x)=false->boA L (frS P x)=true->boA L (toS P x)=true
def Cls(P:List Pq)(F:List Int)(K:List Bool):Prop:=∀x,InF F x->boA K (frS P x)=true->boA K (toS P x)=true
theorem Clo.trans(hP:∀p∈P,PqIn n p)(hr:∀i∈F,0<=i/\i<P.length){K L M:List Bool}(h:Clo P F K L)(h2:Clo P F L M)(hs:Sub n L M):Clo P F K M:=λx hx h0 h1=>by
 cases c:boA L (frS P x)with
 |true=>exact hs _ (yE hP hr hx).2.1 (yE hP hr hx).2.2 (h x hx h0 c)
 |false=>exact h2 x hx c h1
theorem Cls.grow(hP:∀p∈P,PqIn n p)(hr:∀i∈F,0<=i/\i<P.length){K L:List Bool}(h:Cls P F K)(h2:Clo P F K L)(hs:Sub n K L):Cls P F L:=λx hx h1=>by
 cases c:boA K (frS P x)with
 |true=>exact hs _ (yE hP hr hx).2.1 (yE hP hr hx).2.2 (h x hx c)
 |false=>exact h2 x hx c h1
theorem Cls.walk{K:List Bool}(h:Cls P F K):∀{w:List Sp} {a b:Int},Wk P w a b->AllF F w->boA K a=true->boA K b=true
 |[],_,_,hw,_,ha=>by cases hw;exact ha
 |x::r,a,b,hw,hF,ha=>Cls.walk h hw.2 hF.tail (h x hF.head (by rw[hw.1];exact ha))
theorem root_of(hP:∀p∈P,PqIn n p)(hF:For n P F){K:List Bool}(h:Cls P F K){i:Nat}(hi:i<n)(hk:∀j:Nat,j<i->boA K j=true)(hn:boA K i=false):at0 (joinsM (freshM n) (prs P F)) i=i:=by have hL:=(Lab.fresh n).joins (uT hP hF.rng);obtain⟨l0,l1,l2⟩:=hL.ok i hi;apply Classical.byContradiction;intro hne;obtain⟨w,hw,hwF⟩:=V1 hP hF.rng (v:=(at0 (joinsM (freshM n) (prs P F)) i).toNat) (w:=i) (by omega) hi (by unfold Sm;exact l2);have:=h.walk hw hwF (hk _ (by omega));rw[hn]at this;cases this
def uU(n:Nat)(φ:Int->Int):List Int:=(List.range n).map λ(v:Nat)=>φ v
theorem wP(n:Nat)(φ:Int->Int):(uU n φ).length=n:=by simp[uU]
theorem M0{φ:Int->Int}{v:Int}(h0:0<=v)(h1:v<n):at0 (uU n φ) v.toNat=φ v:=by rw[rJ (by rw[wP];omega)];simp[uU];rw[Int.max_eq_left h0]
theorem DS.all{φ:Int->Int}{O:List Int}{K:List Bool}(h:DS n φ O K)(hk:∀j:Nat,j<n->boA K j=true):O=uU n φ:=by
 apply xfv
 .rw[h.lo,wP]
 .intro i h1 h2;have hi:i<n:=(by rw[<-h.lo];exact h1);have:=h.kn i (by omega) (by omega) (hk i hi);rw[xcr,rJ h1]at this;rw[this];simp[uU]
open Go.Proofs
theorem Clo.refl{P:List Pq}{F:List Int}{K:List Bool}:Clo P F K K:=λx _ h0 h1=>by rw[h0]at h1;cases h1
def idA:Id:=(0,7,14)
def idK:Id:=(0,12,19)
structure SM (s p f v:AV) (n:Nat) (O:List Int) (K:List Bool) (m:Mem):Prop where
 b2:m.get (0,0,2)=some (.row [s,p] 0 false)
 b3:m.get (0,1,3)=some (.row [f] 0 false)
 b5:m.get (0,13,5)=some (.row [.sref idA 0 0 n 1 true] 0 false)
 b6:m.get (0,14,6)=some (.row [.sref idK 0 0 n 1 true] 0 false)
 b7:m.get (0,19,7)=some (.row [v] 0 false)
 b8:m.get (0,21,8)=some (.row [.clo aM [.ptr (0,14,6) 0 0,.ptr (0,0,2) 0 0,.ptr (0,19,7) 0 0,.ptr (0,13,5) 0 0,.ptr (0,1,3) 0 0,.ptr (0,21,8) 0 0]] 0 false)
 oA:Ow intE m idA O
 oK:Ow bE m idK K
 nx:1<=m.next
theorem SM.fr{s p f v:AV}{n:Nat}{O:List Int}{K:List Bool}{m m':Mem}(h:SM s p f v n O K m)(hn:1<=m'.next)(hg:∀j:Id,j.1=0->m'.get j=m.get j):SM s p f v n O K m':=
 ⟨by rw[hg _ rfl];exact h.b2,by rw[hg _ rfl];exact h.b3,by rw[hg _ rfl];exact h.b5,by rw[hg _ rfl];exact h.b6,by rw[hg _ rfl];exact h.b7,by rw[hg _ rfl];exact h.b8,h.oA.fr (hg _ rfl),h.oK.fr (hg _ rfl),hn⟩
def v7:List AV:=[.ptr (0,14,6) 0 0,.ptr (0,0,2) 0 0,.ptr (0,19,7) 0 0,.ptr (0,13,5) 0 0,.ptr (0,1,3) 0 0,.ptr (0,21,8) 0 0]
def Fr1(m m':Mem):Prop:=∀j:Id,1<=j.1->j.1<m.next->m'.get j=m.get j
theorem c_spread(d:Nat){s p f v:AV}{l:List Scene}{P:List Pq}{F ph:List Int}(hs:Sl Scene.c s l)(hp:Sl Pq.c p P)(hf:Ints f ph)(hv:Ints v F)(hl:l.length<=60)(hP:∀p∈P,PqIn l.length p)(hF:For l.length P F)(hph:ph.length=P.length){φ:Int->Int}(hpot:Pot l.length P F (λi=>at0 ph i.toNat) φ){M:Nat}(hM:∀i∈F,(at0 ph i.toNat).natAbs<=M)(hMb:M<=10000000000):∀(k:Nat) (hh:FHs) (a:Int) (m:Mem) (O:List Int) (K:List Bool),SM s p f v l.length O K m->DS l.length φ O K->(0<=a/\a<l.length)->boA K a=false->at0 O a.toNat=φ a->Un l.length O K a->unk K<=k ->
 ∃m' O' K',qG (d+3+k) hh aM (I a::v7) m=some (.tup [],m')/\SM s p f v l.length O' K' m'/\DS l.length φ O' K'/\Un l.length O' K' a/\Sub l.length K K'/\Clo P F K K'/\boA K' a=true/\m.next<=m'.next/\Fr1 m m':=by
 have hFl:=hF.len hP;intro k;induction k with
 |zero=>intro hh a m O K hS hD ha hka _ _ hu;have h1:=W4 (K:=K) (k:=a.toNat) (by rw[hD.lk];omega) hka;omega
 |succ k ih=>
  intro hh a m O K hS hD ha hka hoa hun hu;suffices main:∀Q:O2->Prop,(∀m' O' K',SM s p f v l.length O' K' m'->DS l.length φ O' K'->Un l.length O' K' a->Sub l.length K K'->Clo P F K K'->boA K' a=true->m.next<=m'.next->Fr1 m m'->Q (some (.tup [],m')))->Q (qG (d+3+(k+1)) hh aM (I a::v7) m)from
   main (λr=>∃m' O' K',r=some (.tup [],m')/\SM s p f v l.length O' K' m'/\DS l.length φ O' K'/\Un l.length O' K' a/\Sub l.length K K'/\Clo P F K K'/\boA K' a=true/\m.next<=m'.next/\Fr1 m m') λm' O' K' h1 h2 h3 h4 h5 h6 h7 h8=>⟨m',O',K',rfl,h1,h2,h3,h4,h5,h6,h7,h8⟩
  intro Q hQ;rw[show d+3+(k+1)=(d+3+k)+1 by omega,x1i];unfold v7 lO iP;generalize hU:m.next=u;have hu1:1<=u:=(by rw[<-hU];exact hS.nx);simp only[S8,S4,xdo,xfc,one_I,xez,sN];generalize hm1:Mem.new _ _ _=m1;have g7:m1.get (u,0,7)=some (.row [I a] 0 false):=(by rw[<-hm1];simp);have hS1:SM s p f v l.length O K m1:=hS.fr (by rw[<-hm1];show 1<=u+1;omega) λj hj=>by rw[<-hm1,Mem.get_new,xc1 (by rintro rfl;simp only at hj;omega)];rfl
  have hm1n:m1.next=u+1:=(by rw[<-hm1];rfl);have hm1f:Fr1 m m1:=λj h1 h2=>by rw[<-hm1,Mem.get_new,xc1 (by rintro rfl;rw[hU]at h2;exact xfo _ h2)];rfl
  have ixK:sIx 1 (.sref idK 0 0 l.length 1 true) (I a)=some (.ptr idK 0 a.toNat):=F7 ha.1 ha.2;obtain⟨st1,st2⟩:=hS1.oK.st1 (g:=B) (λ_=>rfl) (k:=a) ha.1 (by rw[hD.lk];exact ha.2) (x:=true) rfl rfl;simp only[vJ,hS1.b6,g7,xY,xdi,sN,xcd,xZ,qV,ixK,st1];generalize hm2:Mem.set _ _ _=m2 at st2;obtain⟨K1,hK1⟩:∃K1,K1=K.set a.toNat true:=⟨_,rfl⟩;rw[<-hK1]at st2;have hm2g:∀j:Id,j≠idK->m2.get j=m1.get j:=λj hj=>by rw[<-hm2,Mem.get_set,xc1 hj]
  have hS2:SM s p f v l.length O K1 m2:=⟨by rw[hm2g _ (by simp[idK])];exact hS1.b2,by rw[hm2g _ (by simp[idK])];exact hS1.b3,by rw[hm2g _ (by simp[idK])];exact hS1.b5,by rw[hm2g _ (by simp[idK])];exact hS1.b6,by rw[hm2g _ (by simp[idK])];exact hS1.b7,by rw[hm2g _ (by simp[idK])];exact hS1.b8,
   hS1.oA.fr (hm2g _ (by simp[idK,idA])),st2,by rw[<-hm2];exact hS1.nx⟩
  have hm2n:m2.next=u+1:=(by rw[<-hm2];exact hm1n);have g7':m2.get (u,0,7)=some (.row [I a] 0 false):=(by rw[hm2g _ (by unfold idK;simp only[ne_eq,xc3,not_and];omega)];exact g7);have hkb:∀w:Int,0<=w->boA K1 w=if w=a then true else boA K w:=λw hw=>by rw[hK1,B3 ha.1 (by rw[hD.lk];exact ha.2) hw]
  have hu2:=W4 (K:=K) (k:=a.toNat) (by rw[hD.lk];omega) hka;rw[<-hK1]at hu2
  have hD1:DS l.length φ O K1:=⟨hD.lo,by rw[hK1];simp[hD.lk],λw w0 w1 hw=>by
   rw[hkb w w0]at hw
   by_cases c:w=a
   .rw[c];exact hoa
   .rw[xc1 c]at hw;exact hD.kn w w0 w1 hw⟩
  have hUn1:Un l.length O K1 a:=λw w0 w1 hne hw=>by rw[hkb w w0,xc1 hne]at hw;exact hun w w0 w1 hne hw
  have hsub1:Sub l.length K K1:=λw w0 w1 hw=>by
   rw[hkb w w0];split
   .rfl
   .exact hw
  have hfrom:=w_from (d+2+k) hs hp hv a m2;rw[show d+2+k+1=d+3+k by omega]at hfrom;simp[g7',hS2.b2,hS2.b7,hfrom];unfold oT;simp only[d4];generalize hH:(λ(args:List AV) (m:Mem)=>bif Nat.beq args.length 2&&true then iN (qG (d+3+k)) hh m.next (.ptr (0,14,6) 0 0) (.ptr (0,13,5) 0 0) (.ptr (0,1,3) 0 0) (.ptr (0,21,8) 0 0) (.ptr (u,0,7) 0 0) (args.getD 0 U) (args.getD 1 U) ⟨m.hp,m.next+1⟩ 0 else none)=H;obtain⟨m3,hc,hI⟩:=c_from (d:=d+1+k) (hh:=((u,9,0),H)::hh) (id:=(u,9,0)) (h:=H) hs hp hv (by omega) hF.rng (by simp[xS]) a (m0:=m2)
   (λpre m=>∃O' K',SM s p f v l.length O' K' m/\DS l.length φ O' K'/\Un l.length O' K' a/\Sub l.length K1 K'/\Clo P F K1 K'/\(∀x∈pre,InF F x/\(frS P x=a->boA K' (toS P x)=true))/\u+1<m.next/\(∀j:Id,1<=j.1->j.1<u+1->m.get j=m2.get j))
   (λpre m m' ⟨O',K',h1,h2,h3,h4,h5,h6,h7,h8⟩ hn hg=>⟨O',K',h1.fr (by omega) (λj hj=>hg j (by omega)),h2,h3,h4,h5,h6,by omega,λj j1 j2=>by rw[hg j (by omega)];exact h8 j j1 j2⟩)
   (λpre x m hx hfx ⟨O',K',h1,h2,h3,h4,h5,h6,h7,h8⟩=>by
    suffices step:∀Q2:Option Mem->Prop,(∀mm O2 K2,SM s p f v l.length O2 K2 mm->DS l.length φ O2 K2->Un l.length O2 K2 a->Sub l.length K1 K2->Clo P F K1 K2->(∀y∈pre++[x],InF F y/\(frS P y=a->boA K2 (toS P y)=true))->u+1<mm.next->(∀j:Id,1<=j.1->j.1<u+1->mm.get j=m2.get j)->Q2 (some mm))->Q2 (H [.agg [I x.p,I x.s],I (toS P x)] m)from
     step (λr=>∃mm,r=some mm/\∃O2 K2,SM s p f v l.length O2 K2 mm/\DS l.length φ O2 K2/\Un l.length O2 K2 a/\Sub l.length K1 K2/\Clo P F K1 K2/\(∀y∈pre++[x],InF F y/\(frS P y=a->boA K2 (toS P y)=true))/\u+1<mm.next/\(∀j:Id,1<=j.1->j.1<u+1->mm.get j=m2.get j)) λmm O2 K2 a1 a2 a3 a4 a5 a6 a7 a8=>⟨mm,rfl,O2,K2,a1,a2,a3,a4,a5,a6,a7,a8⟩
    intro Q2 hQ2
    obtain⟨-,t0,t1⟩:=yE hP hF.rng hx
    have hpx:=hF.rng x.p hx.1
    rw[<-hH]
    simp only[xco,xea,xd5,Nat.reduceAdd,xdi,xem,sN,List.getD_cons_zero,List.getD_cons_succ]
    unfold iN oR
    generalize hU3:m.next=u3 at *
    simp only[x7y]
    simp
    generalize hm4:Mem.set _ _ _=m4
    have hm4g:∀j:Id,¬j.1=u3->m4.get j=m.get j:=λj hj=>by
     rw[<-hm4,Mem.get_set,xc1 (by rintro rfl;exact hj rfl),Mem.get_new,xc1 (by rintro rfl;exact hj rfl)];rfl
    have q8:m4.get (u3,0,8)=some (.row [I x.p,I x.s] 0 false):=by rw[<-hm4];simp
    have hm4n:m4.next=u3+1:=by rw[<-hm4];rfl
    have hS4:SM s p f v l.length O' K' m4:=h1.fr (by omega) λj hj=>hm4g j (by omega)
    have q7:m4.get (u,0,7)=some (.row [I a] 0 false):=by rw[hm4g _ (by simp only;omega),h8 _ (by simp only;omega) (by simp only;omega)];exact g7'
    have ixT:sIx 1 (.sref idK 0 0 l.length 1 true) (I (toS P x))=some (.ptr idK 0 (toS P x).toNat):=F7 t0 t1
    have ldT:=hS4.oK.ldB (k:=toS P x) t0 (by rw[h2.lk];exact t1)
    have ldT':sLd false 1 (.ptr idK 0 (toS P x).toNat) m4=some (B (boA K' (toS P x))):=ldT
    have hb:∀i,({hp:=m.hp,next:=u3+1}:Mem).get i=m.get i:=λ_=>rfl
    have q7m:m.get (u,0,7)=some (.row [I a] 0 false):=by rw[h8 _ (by simp only;omega) (by simp only;omega)];exact g7'
    have ixA:sIx 1 (.sref idA 0 0 l.length 1 true) (I a)=some (.ptr idA 0 a.toNat):=F7 ha.1 ha.2
    have ixA2:sIx 1 (.sref idA 0 0 l.length 1 true) (I (toS P x))=some (.ptr idA 0 (toS P x).toNat):=F7 t0 t1
    have ldA:=hS4.oA.ldI (k:=a) ha.1 (by rw[h2.lo];exact ha.2)
    have hKa:boA K' a=true:=h4 a ha.1 ha.2 (by rw[hkb a ha.1,xc2 rfl])
    have hOa:at0 O' a.toNat=φ a:=h2.kn a ha.1 ha.2 hKa
    rw[hOa]at ldA
    have ixP:=hf.ixI rX (k:=x.p) hpx.1 (by rw[hph];exact hpx.2)
    have ldP:=vQ (m:=m4) (l:=ph) (k:=x.p.toNat) (by omega)
    cases hkt:boA K' (toS P x)with
    |true=>
     rw[hkt]at ldT'
     simp[hb,h1.b6,ixT,ldT']
     exact hQ2 m4 O' K' hS4 h2 h3 h4 h5 (λy hy=>by
      rcases xd0.mp hy with hy|hy
      .exact h6 y hy
      .simp at hy;subst hy;exact⟨hx,λ_=>hkt⟩) (by omega) (λj j1 j2=>by rw[hm4g j (by omega)];exact h8 j j1 j2)
    |false=>
     rw[hkt]at ldT'
     have hstep:=hpot.st.step hx
     rw[hfx]at hstep
     have ba:=Pot.abs hP hF hpot hM (v:=a.toNat) (by omega)
     have bt:=Pot.abs hP hF hpot hM (v:=(toS P x).toNat) (by omega)
     rw[xd7 ha.1]at ba
     rw[xd7 t0]at bt
     have hnM:l.length*M<=60*10000000000:=xfu hl hMb
     obtain⟨st1,st2⟩:=hS4.oA.st1 (g:=I) (λ_=>rfl) (k:=toS P x) t0 (by rw[h2.lo];exact t1) (x:=φ (toS P x)) rfl rfl
     simp[-A3,hb,h1.b6,h1.b5,h1.b3,q7m,ixT,ldT',ixA,ixA2,ldA,ixP,ldP]
     have hw1:w64 (φ (toS P x)-φ a)=φ (toS P x)-φ a:=qQ (by omega) (by omega)
     rw[hstep,hw1,qQ (by omega) (by omega),show φ a+(φ (toS P x)-φ a)=φ (toS P x) by omega]
     simp only[st1]
     generalize hm5:Mem.set m4 _ _=m5 at st2 ⊢
     have hm5g:∀j:Id,j≠idA->m5.get j=m4.get j:=λj hj=>by rw[<-hm5,Mem.get_set,xc1 hj]
     have hm5n:m5.next=u3+1:=by rw[<-hm5];exact hm4n
     have hS5:SM s p f v l.length (O'.set (toS P x).toNat (φ (toS P x))) K' m5:=⟨by rw[hm5g _ (by simp[idA])];exact hS4.b2,by rw[hm5g _ (by simp[idA])];exact hS4.b3,by rw[hm5g _ (by simp[idA])];exact hS4.b5,by rw[hm5g _ (by simp[idA])];exact hS4.b6,by rw[hm5g _ (by simp[idA])];exact hS4.b7,by rw[hm5g _ (by simp[idA])];exact hS4.b8,st2,hS4.oK.fr (hm5g _ (by simp[idK,idA])),by omega⟩
     have hog:∀w:Int,0<=w->at0 (O'.set (toS P x).toNat (φ (toS P x))) w.toNat=if w=toS P x then φ (toS P x)else at0 O' w.toNat:=λw hw=>at0_setI t0 (by rw[h2.lo];exact t1) hw
     have hD5:DS l.length φ (O'.set (toS P x).toNat (φ (toS P x))) K':=⟨by simp[h2.lo],h2.lk,λw w0 w1 hw=>by
      rw[hog w w0];split
      .rename_i e;rw[e]
      .exact h2.kn w w0 w1 hw⟩
     have hU5:Un l.length (O'.set (toS P x).toNat (φ (toS P x))) K' (toS P x):=λw w0 w1 hne hw=>by
      rw[hog w w0,xc1 hne]
      refine h3 w w0 w1 ?_ hw
      rintro rfl
      rw[hKa]at hw;cases hw
     have hsu:=h4.unk (by rw[hK1];simp[hD.lk]) h2.lk
     obtain⟨m6,O6,K6,e1,e2,e3,e4,e5,e6,e7,e8,e9⟩:=ih hh (toS P x) m5 _ K' hS5 hD5 ⟨t0,t1⟩ hkt (by rw[hog _ t0,xc2 rfl]) hU5 (by omega)
     have hinv:uD (qG (d+3+k)) hh 2 (.clo aM v7) [I (toS P x)] m5=some (.tup [],m6):=e1
     unfold v7 at hinv
     simp[hS5.b8,hinv]
     refine hQ2 m6 O6 K6 e2 e3 (λw w0 w1 hne hw=>?_) (λw w0 w1 hw=>e5 w w0 w1 (h4 w w0 w1 hw)) (h5.trans hP hF.rng e6 e5) (λy hy=>?_) (by omega) (λj j1 j2=>?_)
     .by_cases c:w=toS P x
      .rw[c,e7]at hw;cases hw
      .exact e4 w w0 w1 c hw
     .rcases xd0.mp hy with hy|hy
      .obtain⟨y1,y2⟩:=h6 y hy
       exact⟨y1,λhfy=>e5 _ (yE hP hF.rng y1).2.1 (yE hP hF.rng y1).2.2 (y2 hfy)⟩
      .simp at hy;subst hy;exact⟨hx,λ_=>e7⟩
     .rw[e9 j j1 (by omega),hm5g j (by unfold idA;rintro rfl;simp at j1),hm4g j (by omega)]
      exact h8 j j1 j2)
   (λpre x m hx hfx ⟨O',K',h1,h2,h3,h4,h5,h6,h7,h8⟩=>⟨O',K',h1,h2,h3,h4,h5,λy hy=>by
    rcases xd0.mp hy with hy|hy
    .exact h6 y hy
    .simp at hy;subst hy;exact⟨hx,λhfy=>absurd hfy hfx⟩,h7,h8⟩)
   (λm hn hg=>⟨O,K1,hS2.fr (by omega) (λj _=>hg j),hD1,hUn1,λ_ _ _ h=>h,Clo.refl,(λx hx=>by cases hx),by omega,λj _ _=>hg j⟩)
  obtain⟨O',K',h1,h2,h3,h4,h5,h6,h7,h8⟩:=hI;rw[show d+1+k+2=d+3+k by omega]at hc;simp only[hc,qV];refine hQ m3 O' K' h1 h2 h3 (λw w0 w1 hw=>h4 w w0 w1 (hsub1 w w0 w1 hw)) (λx hx x0 x1=>?_) (h4 a ha.1 ha.2 (by rw[hkb a ha.1,xc2 rfl])) (by omega) (λj j1 j2=>?_)
  .by_cases c:frS P x=a
   .exact(h6 x (mem_stepsOf.mpr hx)).2 c
   .exact h5 x hx (by rw[hkb _ (yE hP hF.rng hx).1.1,xc1 c];exact x0) x1
  .rw[h8 j j1 (by omega),hm2g j (by unfold idK;rintro rfl;simp at j1),hm1f j j1 j2]
def phI(ph:List Int)(i:Int):Int:=at0 ph i.toNat
theorem z_func1:∃c,oC=[c]:=by have:oC.length=1:=(by kernel_rfl);exact List.length_eq_one_iff.mp this
theorem z_sli:oB=[nilS]:=by kernel_rfl
theorem z_slb:xc=[nilS]:=by kernel_rfl
theorem a_sums(d:Nat){s p f:AV}{l:List Scene}{P:List Pq}{ph:List Int}(hs:Sl Scene.c s l)(hp:Sl Pq.c p P)(hf:Ints f ph)(hR:Right7 l P)(hl:l.length<=8)(hPl:P.length<=14)(hph:ph.length=P.length){M:Nat}(hM:∀k,k<ph.length->(at0 ph k).natAbs<=M)(hMb:M<=10000000000) :
 RetF (λv=>Ints v (uU l.length (uF l.length P (sS (fW l P) l.length P) (phI ph)))) (qG (d+12) [] aT [.agg [s,p],f] mem0):=by
 have hP:=hR.pr;obtain⟨F,hFe⟩:∃F,F=sS (fW l P) l.length P:=⟨_,rfl⟩;have hF:For l.length P F:=(by rw[hFe];exact F9 hP _);have hpot:=V9 hP (phI ph) hF;rw[<-hFe];generalize uF l.length P F (phI ph)=φ at *
 rw[x1b];unfold lI gY;obtain⟨zc,hzc⟩:=z_func1;simp[mem0,hs.one,hp.one,hf.one,hf.cells,hs.len yZ,mkSl_i (n:=l.length) (by omega),mkSl_b (n:=l.length) (by omega),z_sli,z_slb,tR,tS,rB,vU];generalize hm1:Mem.set _ (0,14,6) _=m1;have i2:m1.get (0,0,2)=some (.row [s,p] 0 false):=(by rw[<-hm1];simp);have i3:m1.get (0,1,3)=some (.row [f] 0 false):=(by rw[<-hm1];simp);have i5:m1.get (0,13,5)=some (.row [.sref idA 0 0 l.length 1 true] 0 false):=(by rw[<-hm1];simp[idA]);have i6:m1.get (0,14,6)=some (.row [.sref idK 0 0 l.length 1 true] 0 false):=(by rw[<-hm1];simp[idK]);have iA:Ow intE m1 idA (List.replicate l.length 0):=(by unfold Ow;rw[<-hm1];simp[idA]);have iK:Ow bE m1 idK (List.replicate l.length false):=(by unfold Ow;rw[<-hm1];simp[idK]);have in1:m1.next=1:=(by rw[<-hm1];rfl);obtain⟨v,hv,hw⟩:=xa9 (d+4) hs hp hR hl hPl m1;rw[<-hFe]at hv;have hcl:∀(g:FuncId) (c:List AV),(AV.clo g c).cells=[AV.clo g c]:=λ_ _=>rfl
 have hco:∀(g:FuncId) (c:List AV),(AV.clo g c).one=true:=λ_ _=>rfl
 simp[hw,hv.cells,hv.one,hzc,hcl,hco];generalize hm2:Mem.set _ (0,21,8) _=m2;have hmg:∀j:Id,j≠(0,19,7)->j≠(0,21,8)->m2.get j=m1.get j:=λj h1 h2=>by rw[<-hm2,Mem.get_set,xc1 h2,Mem.get_new,xc1 h2,Mem.get_set,xc1 h1,Mem.get_new,xc1 h1]
 have hS:SM s p f v l.length (List.replicate l.length 0) (List.replicate l.length false) m2:=⟨by rw[hmg _ (by simp) (by simp)];exact i2,by rw[hmg _ (by simp) (by simp)];exact i3,by rw[hmg _ (by simp) (by simp)];exact i5,by rw[hmg _ (by simp) (by simp)];exact i6,by rw[<-hm2];simp,by rw[<-hm2];simp,
  iA.fr (hmg _ (by simp[idA]) (by simp[idA])),iK.fr (hmg _ (by simp[idK]) (by simp[idK])),by rw[<-hm2];show 1<=m1.next;omega⟩
 have hrep:∀v:Int,boA (List.replicate l.length false) v=false:=λv=>by unfold boA;rw[xcg,List.getElem?_replicate];split<;>rfl
 have hrep0:∀v:Nat,at0 (List.replicate l.length 0) v=0:=λv=>by unfold at0;rw[xcg,List.getElem?_replicate];split<;>rfl
 unfold nY;simp[hS.b5];rw[show qJ Try.prog aC (.sref idA 0 0 l.length 1 true)=some (I l.length)from rfl];simp only[qV];refine tW (N:=l.length) (σ:=Unit) (λn k _ m fc=>dX (qG (d+11)) [] 0 n (.ptr (0,13,5) 0 0) (.ptr (0,14,6) 0 0) (.ptr (0,21,8) 0 0) (I l.length) (I k) m fc)
  (λk _ m=>∃O K,SM s p f v l.length O K m/\DS l.length φ O K/\Un l.length O K (-1)/\Cls P F K/\∀j:Nat,j<k->boA K j=true) _ ?_ ?_ NN 0 () m2 _ (by omega) (by rw[rQ];omega)
  ⟨_,_,hS,⟨by simp,by simp,λv _ _ h=>by rw[hrep]at h;cases h⟩,λv _ _ _ _=>hrep0 _,(show Cls P F _ from λx _ h=>by rw[hrep]at h;cases h),λj h=>by omega⟩
 .rintro n k-m fc hk ⟨O,K,hS,hD,hU,hC,hB⟩ next;have hk':(k:Int)<(l.length:Int):=(by omega);have ixK:sIx 1 (.sref idK 0 0 l.length 1 true) (I (k:Int))=some (.ptr idK 0 (k:Int).toNat):=F7 (by omega) hk';have ldK:=hS.oK.ldB (k:=(k:Int)) (by omega) (by rw[hD.lk];exact hk');have ldK':sLd false 1 (.ptr idK 0 (k:Int).toNat) m=some (B (boA K k)):=ldK;simp only[dX];unfold gX nX;simp only[sK,hk',xcc,sM,qV,vJ,hS.b6,xY,xdi,sN,xcd,xZ,ixK];rw[<-vJ,ldK'];cases hkk:boA K k with
  |true=>
   unfold eV;simp(disch:=omega) [qQ];refine next () m _ ⟨O,K,hS,hD,hU,hC,λj hj=>?_⟩;by_cases c:j=k
   .rw[c];exact hkk
   .exact hB j (by omega)
  |false=>
   have hz:=hpot.z k hk (root_of hP hF hC hk hB hkk)
   obtain⟨m3,O3,K3,e1,e2,e3,e4,e5,e6,e7,e8,e9⟩:=c_spread d hs hp hf hv hR.ll hP hF hph hpot (M:=M) (λi hi=>hM _ (by have:=hF.rng i hi;omega)) hMb 8 [] (k:Int) m O K hS hD ⟨by omega,hk'⟩ hkk (by rw[hU _ (by omega) hk' (by omega) hkk,hz]) (λw w0 w1 hne hw=>hU w w0 w1 (by omega) hw) (by
    have h1:unk K<=K.length:=xgm _ _
    rw[hD.lk]at h1
    omega)
   have hinv:uD (qG (d+11)) [] 2 (.clo aM v7) [I (k:Int)] m=some (.tup [],m3):=e1;unfold v7 at hinv;simp only[sNot_B,xdf,qV,sM,vJ,hS.b8,xY,xdi,sN,xcd,xZ,hinv];unfold eV;simp(disch:=omega) [qQ];refine next () m3 _ ⟨O3,K3,e2,e3,λw w0 w1 hne hw=>?_,hC.grow hP hF.rng e6 e5,λj hj=>?_⟩
   .by_cases c:w=(k:Int)
    .rw[c,e7]at hw;cases hw
    .exact e4 w w0 w1 c hw
   .by_cases c:j=k
    .rw[c];exact e7
    .exact e5 _ (by omega) (by omega) (hB j (by omega))
 .rintro n-m fc ⟨O,K,hS,hD,hU,hC,hB⟩;have:=hD.all hB;subst this;simp only[dX];unfold gX nW;simp[hS.b5];have hoA:=hS.oA;unfold Ow at hoA;have h1:=F4 (k:=4) rX yY (x:=true) (l:=uU l.length φ) hoA;have h2:Ints (.slit ((uU l.length φ).flatMap intE) (uU l.length φ).length false) (uU l.length φ):=Sl.lit _ false;rw[wP]at h1 h2;exact RetF.mk h1 h2
theorem w_sums(d:Nat){s p f:AV}{l:List Scene}{P:List Pq}{ph:List Int}(hs:Sl Scene.c s l)(hp:Sl Pq.c p P)(hf:Ints f ph)(hR:Right7 l P)(hl:l.length<=8)(hPl:P.length<=14)(hph:ph.length=P.length){M:Nat}(hM:∀k,k<ph.length->(at0 ph k).natAbs<=M)(hMb:M<=10000000000)(m:Mem) :
 ∃v,Ints v (uU l.length (uF l.length P (sS (fW l P) l.length P) (phI ph)))/\qK (qG (d+12)) aT [.agg [s,p],f] m=some (v,m):=
 d8 (by simp[hs.still1,hp.still1,hf.still]) (a_sums d hs hp hf hR hl hPl hph hM hMb) m
noncomputable def uG(l:List Scene)(P:List Pq)(ph:List Int):Int->Int:=uF l.length P (sS (fW l P) l.length P) (phI ph)
noncomputable def tN(l:List Scene)(P:List Pq)(ph:List Int):List Int:=(List.range P.length).map λ(k:Nat)=>at0 ph k-uG l P ph (qO P k).b+uG l P ph (qO P k).a
theorem G1(l:List Scene)(P:List Pq)(ph:List Int):(tN l P ph).length=P.length:=by simp[tN]
theorem x7z{l:List Scene}{P:List Pq}{ph:List Int}{k:Nat}(h:k<P.length):at0 (tN l P ph) k=at0 ph k-uG l P ph (qO P k).b+uG l P ph (qO P k).a:=by rw[rJ (by rw[G1];exact h)];simp[tN]
theorem miss_snoc{l:List Scene}{P:List Pq}{ph:List Int}{k:Nat}(h:k<P.length):(tN l P ph).take (k+1)=(tN l P ph).take k++[at0 ph k-uG l P ph (qO P k).b+uG l P ph (qO P k).a]:=by rw[xd9 (by rw[G1];exact h),<-rJ,x7z h]
theorem M1{l:List Scene}{P:List Pq}{ph:List Int}(hR:Right7 l P)(hph:ph.length=P.length){M:Nat}(hM:∀k,k<ph.length->(at0 ph k).natAbs<=M){v:Int}(h0:0<=v)(h1:v<l.length):(uG l P ph v).natAbs<=l.length*M:=by have hF:=F9 (P:=P) (n:=l.length) hR.pr (fW l P);have:=Pot.abs hR.pr hF (V9 hR.pr (phI ph) hF) (M:=M) (λi hi=>hM _ (by have:=hF.rng i hi;omega)) (v:=v.toNat) (by omega);rw[xd7 h0]at this;exact this
theorem M2{P:List Pq}{k:Nat}(h:k<P.length):qO P (k:Int)=P[k]:=L6 (by simpa using h)
theorem a_misses(d:Nat){s p f:AV}{l:List Scene}{P:List Pq}{ph:List Int}(hs:Sl Scene.c s l)(hp:Sl Pq.c p P)(hf:Ints f ph)(hR:Right7 l P)(hl:l.length<=8)(hPl:P.length<=14)(hph:ph.length=P.length){M:Nat}(hM:∀k,k<ph.length->(at0 ph k).natAbs<=M)(hMb:M<=10000000000) :
 RetF (λv=>Ints v (tN l P ph)) (qG (d+13) [] bQ [.agg [s,p],f] mem0):=by
 rw[x1a];unfold lH gW;have hw:=w_sums d hs hp hf hR hl hPl hph hM hMb ((⟨[],1⟩:Mem).new (0,0,2) (.row [s,p] 0 false));obtain⟨v,hv,hw⟩:=hw;have hnM:l.length*M<=8*10000000000:=xfu hl hMb;simp[mem0,hs.one,hp.one,hw];unfold nV;simp[hp.len A8];refine tW (N:=P.length) (λn k a m fc=>dW (qG (d+12)) [] 0 n f v a p (I P.length) (I k) m fc)
  (λk a m=>Gr 1 intE 0 39 m a ((tN l P ph).take k)) _ ?_ ?_ NN 0 nilS _ _ (by omega) (by rw[rQ];omega) (by simpa using Gr.nil)
 .rintro n k a m fc hk hG next;have hk':(k:Int)<(P.length:Int):=(by omega);have ip:=hp.ix Pq.len hk;have lp:=λm=>vW (m:=m) (enc:=Pq.c) Pq.len (by omega) hk
  have ixf:=hf.ix rX (show k<ph.length by omega);have ldf:=λm=>vQ (m:=m) (show k<ph.length by omega)
  have hsn:=miss_snoc (l:=l) (P:=P) (ph:=ph) hk;obtain⟨q0,q1,q2⟩:=hR.pr P[k] (xcp hk);rw[M2 hk]at hsn;generalize P[k]=q at *
  have ia:=hv.ixI rX (k:=q.a) q0 (by rw[wP];omega);have ib:=hv.ixI rX (k:=q.b) (by omega) (by rw[wP];omega);have la:=λm=>vQ (m:=m) (l:=uU l.length (uG l P ph)) (k:=q.a.toNat) (by rw[wP];omega)
  have lb:=λm=>vQ (m:=m) (l:=uU l.length (uG l P ph)) (k:=q.b.toNat) (by rw[wP];omega)
  rw[M0 q0 (by omega)]at la;rw[M0 (by omega) q2]at lb;have ba:=M1 hR hph hM (v:=q.a) q0 (by omega);have bb:=M1 hR hph hM (v:=q.b) (by omega) q2;have bp:=hM k (by omega);unfold uG at *
  simp only[Pq.c]at lp;simp only[dW];unfold gV;simp[hk',ip,lp,v3];generalize hm1:Mem.set _ _ _=m1;have g8:m1.get (0,fc+4,8)=some (.row [I q.a,I q.b] 0 false):=(by rw[<-hm1];simp);have hG1:Gr 1 intE 0 39 m1 a ((tN l P ph).take k):=hG.frame λs=>by rw[<-hm1];simp
  obtain⟨a2,m2,e1,e2,e3,-⟩:=hG1.app (s0:=fc+25) (bytes:=8) rX (by omega) (by unfold qW;simp[G1];omega) (at0 ph k-uF l.length P (sS (fW l P) l.length P) (phI ph) q.b+uF l.length P (sS (fW l P) l.length P) (phI ph) q.a);simp[g8,ixf,ldf,ia,ib,la,lb,wI];have hw1:w64 (at0 ph k-uF l.length P (sS (fW l P) l.length P) (phI ph) q.b)=at0 ph k-uF l.length P (sS (fW l P) l.length P) (phI ph) q.b:=qQ (by omega) (by omega);rw[hw1,qQ (by omega) (by omega),qQ (by omega) (by omega)];rw[show ∀x:Int,elems m1.get 1 (.slit [I x] 1 true)=some (intE x,1)from λ_=>rfl,e1];exact next a2 m2 _ (by rw[hsn];exact e2)
 .rintro n a m fc hG;rw[xca (by rw[G1];exact xc7 _)]at hG;simp only[dW];unfold gV nU;simp;obtain⟨a',h1,h2⟩:=hG.frzk (k:=4) rX yY;exact RetF.mk h2 h1
theorem w_misses(d:Nat){s p f:AV}{l:List Scene}{P:List Pq}{ph:List Int}(hs:Sl Scene.c s l)(hp:Sl Pq.c p P)(hf:Ints f ph)(hR:Right7 l P)(hl:l.length<=8)(hPl:P.length<=14)(hph:ph.length=P.length){M:Nat}(hM:∀k,k<ph.length->(at0 ph k).natAbs<=M)(hMb:M<=10000000000)(m:Mem) :
 ∃v,Ints v (tN l P ph)/\qK (qG (d+13)) bQ [.agg [s,p],f] m=some (v,m):=
 d8 (by simp[hs.still1,hp.still1,hf.still]) (a_misses d hs hp hf hR hl hPl hph hM hMb) m
end Go.Ix
