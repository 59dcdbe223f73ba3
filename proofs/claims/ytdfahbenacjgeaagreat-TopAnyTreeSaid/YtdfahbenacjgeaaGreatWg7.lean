import Derived.Test.YtdfahbenacjgeaaGreatWg4
import Derived.Test.YtdfahbenacjgeaaGreatWg5
import Derived.Test.YtdfahbenacjgeaaGreatWg6
import Derived.Test.YtdfahbenacjgeaaGreatWg2
set_option linter.unusedSimpArgs false
set_option linter.unusedVariables false
namespace Go.Ix
variable{P:List Pq}{n:Nat}{F:List Int}
theorem at0_setI{l:List Int}{b v:Int}{x:Int}(h0:0<=b)(hb:b<l.length)(hv:0<=v):at0 (l.set b.toNat x) v.toNat=if v=b then x else at0 l v.toNat:=by
 unfold at0
 rw[x12n,x12n,x15o]
 by_cases c:v=b
 .rw[x12c c,c,x12c rfl,x12c (by omega)];rfl
 .rw[x12b c,x12b (by omega)]
def unk(K:List Bool):Nat:=(K.filter λb=>!b).length
theorem xuh:∀{K:List Bool} {k:Nat},k<K.length->K.getD k false=false->unk (K.set k true)+1=unk K
 |[],_,h,_=>by simp at h
 |b::r,0,_,hb=>by
  simp at hb
  subst hb
  simp[unk]
 |b::r,k+1,h,hb=>by
  have:=xuh (K:=r) (k:=k) (by simpa using h) (by simpa using hb)
  unfold unk at this ⊢
  rw[List.set_cons_succ]
  cases b<;>simp<;>omega
theorem unk_le:∀{K L:List Bool},K.length=L.length->(∀k,k<K.length->K.getD k false=true->L.getD k false=true)->unk L<=unk K
 |[],[],_,_=>x12f _
 |[],_::_,h,_=>by simp at h
 |_::_,[],h,_=>by simp at h
 |a::r,b::s,h,hk=>by
  have ih:=unk_le (K:=r) (L:=s) (by simpa using h) λk hk2=>by
   have:=hk (k+1) (by simpa using hk2)
   simpa using this
  have h0:=hk 0 (by simp)
  simp only[List.getD_cons_zero]at h0
  unfold unk at ih ⊢
  cases a with
  |true=>
   rw[h0 rfl]
   exact ih
  |false=>
   cases b
   .show(r.filter λb=>!b).length+1 ≥ (s.filter λb=>!b).length+1
    omega
   .show(s.filter λb=>!b).length<=(r.filter λb=>!b).length+1
    omega
structure DS (n:Nat) (φ:Int->Int) (O:List Int) (K:List Bool):Prop where
 lo:O.length=n
 lk:K.length=n
 kn:∀v:Int,0<=v->v<n->boA K v=true->at0 O v.toNat=φ v
def Un(n:Nat)(O:List Int)(K:List Bool)(but:Int):Prop:=∀v:Int,0<=v->v<n->v≠but->boA K v=false->at0 O v.toNat=0
def Sub(n:Nat)(K L:List Bool):Prop:=∀v:Int,0<=v->v<n->boA K v=true->boA L v=true
theorem Sub.unk{K L:List Bool}(h:Sub n K L)(hk:K.length=n)(hl:L.length=n):unk L<=unk K:=unk_le (by omega) λk hk2 e=>by
 have:=h (k:Int) (by omega) (by omega) (by unfold boA;simpa using e)
 unfold boA at this
 simpa using this
def Clo(P:List Pq)(F:List Int)(K L:List Bool):Prop:=∀x,InF F x->boA K (frS P x)=false->boA L (frS P x)=true->boA L (toS P x)=true
def Cls(P:List Pq)(F:List Int)(K:List Bool):Prop:=∀x,InF F x->boA K (frS P x)=true->boA K (toS P x)=true
theorem Clo.trans(hP:∀p∈P,PqIn n p)(hr:∀i∈F,0<=i/\i<P.length){K L M:List Bool}(h:Clo P F K L)(h2:Clo P F L M)(hs:Sub n L M):Clo P F K M:=λx hx h0 h1=>by
 cases c:boA L (frS P x)with
 |true=>exact hs _ (xmh hP hr hx).2.1 (xmh hP hr hx).2.2 (h x hx h0 c)
 |false=>exact h2 x hx c h1
theorem Cls.grow(hP:∀p∈P,PqIn n p)(hr:∀i∈F,0<=i/\i<P.length){K L:List Bool}(h:Cls P F K)(h2:Clo P F K L)(hs:Sub n K L):Cls P F L:=λx hx h1=>by
 cases c:boA K (frS P x)with
 |true=>exact hs _ (xmh hP hr hx).2.1 (xmh hP hr hx).2.2 (h x hx c)
 |false=>exact h2 x hx c h1
theorem Cls.walk{K:List Bool}(h:Cls P F K):∀{w:List Sp} {a b:Int},Wk P w a b->AllF F w->boA K a=true->boA K b=true
 |[],_,_,hw,_,ha=>by cases hw;exact ha
 |x::r,a,b,hw,hF,ha=>Cls.walk h hw.2 hF.tail (h x hF.head (by rw[hw.1];exact ha))
theorem root_of(hP:∀p∈P,PqIn n p)(hF:For n P F){K:List Bool}(h:Cls P F K){i:Nat}(hi:i<n)(hk:∀j:Nat,j<i->boA K j=true)(hn:boA K i=false):at0 (joinsM (freshM n) (prs P F)) i=i:=by
 have hL:=(Lab.fresh n).joins (xm2 hP hF.rng)
 obtain⟨l0,l1,l2⟩:=hL.ok i hi
 apply Classical.byContradiction
 intro hne
 obtain⟨w,hw,hwF⟩:=xs2 hP hF.rng (v:=(at0 (joinsM (freshM n) (prs P F)) i).toNat) (w:=i) (by omega) hi (by unfold Sm;exact l2)
 have:=h.walk hw hwF (hk _ (by omega))
 rw[hn]at this
 cases this
def phiL(n:Nat)(φ:Int->Int):List Int:=(List.range n).map λ(v:Nat)=>φ v
theorem xls(n:Nat)(φ:Int->Int):(phiL n φ).length=n:=by simp[phiL]
theorem xow{φ:Int->Int}{v:Int}(h0:0<=v)(h1:v<n):at0 (phiL n φ) v.toNat=φ v:=by
 rw[xkl (by rw[xls];omega)]
 simp[phiL]
 rw[Int.max_eq_left h0]
theorem DS.all{φ:Int->Int}{O:List Int}{K:List Bool}(h:DS n φ O K)(hk:∀j:Nat,j<n->boA K j=true):O=phiL n φ:=by
 apply x15p
 .rw[h.lo,xls]
 .intro i h1 h2
  have hi:i<n:=by rw[<-h.lo];exact h1
  have:=h.kn i (by omega) (by omega) (hk i hi)
  rw[x12t,xkl h1]at this
  rw[this]
  simp[phiL]
open Go.Proofs
theorem Clo.refl{P:List Pq}{F:List Int}{K:List Bool}:Clo P F K K:=λx _ h0 h1=>by rw[h0]at h1;cases h1
def idA:Id:=(0,7,14)
def idK:Id:=(0,12,19)
structure SM (s p f v:AV) (n:Nat) (O:List Int) (K:List Bool) (m:Mem):Prop where
 b2:m.get (0,0,2)=some (.row [s,p] 0 false)
 b3:m.get (0,1,3)=some (.row [f] 0 false)
 b5:m.get (0,13,5)=some (.row [.sref idA 0 0 n 1 true] 0 false)
 b6:m.get (0,14,6)=some (.row [.sref idK 0 0 n 1 true] 0 false)
 b7:m.get (0,19,7)=some (.row [v] 0 false)
 b8:m.get (0,21,8)=some (.row [.clo xf [.ptr (0,14,6) 0 0,.ptr (0,0,2) 0 0,.ptr (0,19,7) 0 0,.ptr (0,13,5) 0 0,.ptr (0,1,3) 0 0,.ptr (0,21,8) 0 0]] 0 false)
 oA:Ow intE m idA O
 oK:Ow bE m idK K
 nx:1<=m.next
theorem SM.fr{s p f v:AV}{n:Nat}{O:List Int}{K:List Bool}{m m':Mem}(h:SM s p f v n O K m)(hn:1<=m'.next)(hg:∀j:Id,j.1=0->m'.get j=m.get j):SM s p f v n O K m':=
 ⟨by rw[hg _ rfl];exact h.b2,by rw[hg _ rfl];exact h.b3,by rw[hg _ rfl];exact h.b5,by rw[hg _ rfl];exact h.b6,by rw[hg _ rfl];exact h.b7,by rw[hg _ rfl];exact h.b8,h.oA.fr (hg _ rfl),h.oK.fr (hg _ rfl),hn⟩
def xpk:List AV:=[.ptr (0,14,6) 0 0,.ptr (0,0,2) 0 0,.ptr (0,19,7) 0 0,.ptr (0,13,5) 0 0,.ptr (0,1,3) 0 0,.ptr (0,21,8) 0 0]
def Fr1(m m':Mem):Prop:=∀j:Id,1<=j.1->j.1<m.next->m'.get j=m.get j
theorem c_spread(d:Nat){s p f v:AV}{l:List Scene}{P:List Pq}{F ph:List Int}(hs:Sl Scene.c s l)(hp:Sl Pq.c p P)(hf:Ints f ph)(hv:Ints v F)(hl:l.length<=60)(hP:∀p∈P,PqIn l.length p)(hF:For l.length P F)(hph:ph.length=P.length){φ:Int->Int}(hpot:Pot l.length P F (λi=>at0 ph i.toNat) φ){M:Nat}(hM:∀i∈F,(at0 ph i.toNat).natAbs<=M)(hMb:M<=10000000000):∀(k:Nat) (hh:FHs) (a:Int) (m:Mem) (O:List Int) (K:List Bool),SM s p f v l.length O K m->DS l.length φ O K->(0<=a/\a<l.length)->boA K a=false->at0 O a.toNat=φ a->Un l.length O K a->unk K<=k ->
 ∃m' O' K',xk2 (d+3+k) hh xf (I a::xpk) m=some (.tup [],m')/\SM s p f v l.length O' K' m'/\DS l.length φ O' K'/\Un l.length O' K' a/\Sub l.length K K'/\Clo P F K K'/\boA K' a=true/\m.next<=m'.next/\Fr1 m m':=by
 have hFl:=hF.len hP
 intro k
 induction k with
 |zero=>
  intro hh a m O K hS hD ha hka _ _ hu
  have h1:=xuh (K:=K) (k:=a.toNat) (by rw[hD.lk];omega) hka
  omega
 |succ k ih=>
  intro hh a m O K hS hD ha hka hoa hun hu
  suffices main:∀Q:O2->Prop,(∀m' O' K',SM s p f v l.length O' K' m'->DS l.length φ O' K'->Un l.length O' K' a->Sub l.length K K'->Clo P F K K'->boA K' a=true->m.next<=m'.next->Fr1 m m'->Q (some (.tup [],m')))->Q (xk2 (d+3+(k+1)) hh xf (I a::xpk) m)from
   main (λr=>∃m' O' K',r=some (.tup [],m')/\SM s p f v l.length O' K' m'/\DS l.length φ O' K'/\Un l.length O' K' a/\Sub l.length K K'/\Clo P F K K'/\boA K' a=true/\m.next<=m'.next/\Fr1 m m') λm' O' K' h1 h2 h3 h4 h5 h6 h7 h8=>⟨m',O',K',rfl,h1,h2,h3,h4,h5,h6,h7,h8⟩
  intro Q hQ
  rw[show d+3+(k+1)=(d+3+k)+1 by omega,xgn]
  unfold xpk xa8 x7b
  generalize hU:m.next=u
  have hu1:1<=u:=by rw[<-hU];exact hS.nx
  simp only[xrp,xti,x13o,x14l,one_I,x150,xlf]
  generalize hm1:Mem.new _ _ _=m1
  have g7:m1.get (u,0,7)=some (.row [I a] 0 false):=by rw[<-hm1];simp
  have hS1:SM s p f v l.length O K m1:=hS.fr (by rw[<-hm1];show 1<=u+1;omega) λj hj=>by
   rw[<-hm1,Mem.get_new,x12b (by rintro rfl;simp only at hj;omega)];rfl
  have hm1n:m1.next=u+1:=by rw[<-hm1];rfl
  have hm1f:Fr1 m m1:=λj h1 h2=>by rw[<-hm1,Mem.get_new,x12b (by rintro rfl;rw[hU]at h2;exact Nat.lt_irrefl _ h2)];rfl
  have ixK:sIx 1 (.sref idK 0 0 l.length 1 true) (I a)=some (.ptr idK 0 a.toNat):=xnp ha.1 ha.2
  obtain⟨st1,st2⟩:=hS1.oK.st1 (g:=B) (λ_=>rfl) (k:=a) ha.1 (by rw[hD.lk];exact ha.2) (x:=true) rfl rfl
  simp only[xlb,hS1.b6,g7,xmf,x13j,xlf,x12j,rd_f,xka,ixK,st1]
  generalize hm2:Mem.set _ _ _=m2 at st2
  obtain⟨K1,hK1⟩:∃K1,K1=K.set a.toNat true:=⟨_,rfl⟩
  rw[<-hK1]at st2
  have hm2g:∀j:Id,j≠idK->m2.get j=m1.get j:=λj hj=>by rw[<-hm2,Mem.get_set,x12b hj]
  have hS2:SM s p f v l.length O K1 m2:=⟨by rw[hm2g _ (by simp[idK])];exact hS1.b2,by rw[hm2g _ (by simp[idK])];exact hS1.b3,by rw[hm2g _ (by simp[idK])];exact hS1.b5,by rw[hm2g _ (by simp[idK])];exact hS1.b6,by rw[hm2g _ (by simp[idK])];exact hS1.b7,by rw[hm2g _ (by simp[idK])];exact hS1.b8,
   hS1.oA.fr (hm2g _ (by simp[idK,idA])),st2,by rw[<-hm2];exact hS1.nx⟩
  have hm2n:m2.next=u+1:=by rw[<-hm2];exact hm1n
  have g7':m2.get (u,0,7)=some (.row [I a] 0 false):=by rw[hm2g _ (by unfold idK;simp only[ne_eq,x12d,not_and];omega)];exact g7
  have hkb:∀w:Int,0<=w->boA K1 w=if w=a then true else boA K w:=λw hw=>by rw[hK1,xpj ha.1 (by rw[hD.lk];exact ha.2) hw]
  have hu2:=xuh (K:=K) (k:=a.toNat) (by rw[hD.lk];omega) hka
  rw[<-hK1]at hu2
  have hD1:DS l.length φ O K1:=⟨hD.lo,by rw[hK1];simp[hD.lk],λw w0 w1 hw=>by
   rw[hkb w w0]at hw
   by_cases c:w=a
   .rw[c];exact hoa
   .rw[x12b c]at hw;exact hD.kn w w0 w1 hw⟩
  have hUn1:Un l.length O K1 a:=λw w0 w1 hne hw=>by
   rw[hkb w w0,x12b hne]at hw
   exact hun w w0 w1 hne hw
  have hsub1:Sub l.length K K1:=λw w0 w1 hw=>by
   rw[hkb w w0];split
   .rfl
   .exact hw
  have hfrom:=w_from (d+2+k) hs hp hv a m2
  rw[show d+2+k+1=d+3+k by omega]at hfrom
  simp[g7',hS2.b2,hS2.b7,hfrom]
  unfold xdf
  simp only[sRng]
  generalize hH:(λ(args:List AV) (m:Mem)=>bif Nat.beq args.length 2&&true then x7a (xk2 (d+3+k)) hh m.next (.ptr (0,14,6) 0 0) (.ptr (0,13,5) 0 0) (.ptr (0,1,3) 0 0) (.ptr (0,21,8) 0 0) (.ptr (u,0,7) 0 0) (args.getD 0 U) (args.getD 1 U) ⟨m.hp,m.next+1⟩ 0 else none)=H
  obtain⟨m3,hc,hI⟩:=c_from (d:=d+1+k) (hh:=((u,9,0),H)::hh) (id:=(u,9,0)) (h:=H) hs hp hv (by omega) hF.rng (by simp[xnk]) a (m0:=m2)
   (λpre m=>∃O' K',SM s p f v l.length O' K' m/\DS l.length φ O' K'/\Un l.length O' K' a/\Sub l.length K1 K'/\Clo P F K1 K'/\(∀x∈pre,InF F x/\(frS P x=a->boA K' (toS P x)=true))/\u+1<m.next/\(∀j:Id,1<=j.1->j.1<u+1->m.get j=m2.get j))
   (λpre m m' ⟨O',K',h1,h2,h3,h4,h5,h6,h7,h8⟩ hn hg=>⟨O',K',h1.fr (by omega) (λj hj=>hg j (by omega)),h2,h3,h4,h5,h6,by omega,λj j1 j2=>by rw[hg j (by omega)];exact h8 j j1 j2⟩)
   (λpre x m hx hfx ⟨O',K',h1,h2,h3,h4,h5,h6,h7,h8⟩=>by
    suffices step:∀Q2:Option Mem->Prop,(∀mm O2 K2,SM s p f v l.length O2 K2 mm->DS l.length φ O2 K2->Un l.length O2 K2 a->Sub l.length K1 K2->Clo P F K1 K2->(∀y∈pre++[x],InF F y/\(frS P y=a->boA K2 (toS P y)=true))->u+1<mm.next->(∀j:Id,1<=j.1->j.1<u+1->mm.get j=m2.get j)->Q2 (some mm))->Q2 (H [.agg [I x.p,I x.s],I (toS P x)] m)from
     step (λr=>∃mm,r=some mm/\∃O2 K2,SM s p f v l.length O2 K2 mm/\DS l.length φ O2 K2/\Un l.length O2 K2 a/\Sub l.length K1 K2/\Clo P F K1 K2/\(∀y∈pre++[x],InF F y/\(frS P y=a->boA K2 (toS P y)=true))/\u+1<mm.next/\(∀j:Id,1<=j.1->j.1<u+1->mm.get j=m2.get j)) λmm O2 K2 a1 a2 a3 a4 a5 a6 a7 a8=>⟨mm,rfl,O2,K2,a1,a2,a3,a4,a5,a6,a7,a8⟩
    intro Q2 hQ2
    obtain⟨-,t0,t1⟩:=xmh hP hF.rng hx
    have hpx:=hF.rng x.p hx.1
    rw[<-hH]
    simp only[x12x,x14q,x13c,Nat.reduceAdd,x13j,x15a,xlf,List.getD_cons_zero,List.getD_cons_succ]
    unfold x7a xde
    generalize hU3:m.next=u3 at *
    simp only[xs9]
    simp
    generalize hm4:Mem.set _ _ _=m4
    have hm4g:∀j:Id,¬j.1=u3->m4.get j=m.get j:=λj hj=>by
     rw[<-hm4,Mem.get_set,x12b (by rintro rfl;exact hj rfl),Mem.get_new,x12b (by rintro rfl;exact hj rfl)];rfl
    have q8:m4.get (u3,0,8)=some (.row [I x.p,I x.s] 0 false):=by rw[<-hm4];simp
    have hm4n:m4.next=u3+1:=by rw[<-hm4];rfl
    have hS4:SM s p f v l.length O' K' m4:=h1.fr (by omega) λj hj=>hm4g j (by omega)
    have q7:m4.get (u,0,7)=some (.row [I a] 0 false):=by rw[hm4g _ (by simp only;omega),h8 _ (by simp only;omega) (by simp only;omega)];exact g7'
    have ixT:sIx 1 (.sref idK 0 0 l.length 1 true) (I (toS P x))=some (.ptr idK 0 (toS P x).toNat):=xnp t0 t1
    have ldT:=hS4.oK.ldB (k:=toS P x) t0 (by rw[h2.lk];exact t1)
    have ldT':sLd false 1 (.ptr idK 0 (toS P x).toNat) m4=some (B (boA K' (toS P x))):=ldT
    have hb:∀i,({hp:=m.hp,next:=u3+1}:Mem).get i=m.get i:=λ_=>rfl
    have q7m:m.get (u,0,7)=some (.row [I a] 0 false):=by rw[h8 _ (by simp only;omega) (by simp only;omega)];exact g7'
    have ixA:sIx 1 (.sref idA 0 0 l.length 1 true) (I a)=some (.ptr idA 0 a.toNat):=xnp ha.1 ha.2
    have ixA2:sIx 1 (.sref idA 0 0 l.length 1 true) (I (toS P x))=some (.ptr idA 0 (toS P x).toNat):=xnp t0 t1
    have ldA:=hS4.oA.ldI (k:=a) ha.1 (by rw[h2.lo];exact ha.2)
    have hKa:boA K' a=true:=h4 a ha.1 ha.2 (by rw[hkb a ha.1,x12c rfl])
    have hOa:at0 O' a.toNat=φ a:=h2.kn a ha.1 ha.2 hKa
    rw[hOa]at ldA
    have ixP:=hf.ixI xk7 (k:=x.p) hpx.1 (by rw[hph];exact hpx.2)
    have ldP:=xkn (m:=m4) (l:=ph) (k:=x.p.toNat) (by omega)
    cases hkt:boA K' (toS P x)with
    |true=>
     rw[hkt]at ldT'
     simp[hb,h1.b6,ixT,ldT']
     exact hQ2 m4 O' K' hS4 h2 h3 h4 h5 (λy hy=>by
      rcases x136.mp hy with hy|hy
      .exact h6 y hy
      .simp at hy;subst hy;exact⟨hx,λ_=>hkt⟩) (by omega) (λj j1 j2=>by rw[hm4g j (by omega)];exact h8 j j1 j2)
    |false=>
     rw[hkt]at ldT'
     have hstep:=hpot.st.step hx
     rw[hfx]at hstep
     have ba:=Pot.abs hP hF hpot hM (v:=a.toNat) (by omega)
     have bt:=Pot.abs hP hF hpot hM (v:=(toS P x).toNat) (by omega)
     rw[x13i ha.1]at ba
     rw[x13i t0]at bt
     have hnM:l.length*M<=60*10000000000:=x15e hl hMb
     obtain⟨st1,st2⟩:=hS4.oA.st1 (g:=I) (λ_=>rfl) (k:=toS P x) t0 (by rw[h2.lo];exact t1) (x:=φ (toS P x)) rfl rfl
     simp[-xok,hb,h1.b6,h1.b5,h1.b3,q7m,ixT,ldT',ixA,ixA2,ldA,ixP,ldP]
     have hw1:w64 (φ (toS P x)-φ a)=φ (toS P x)-φ a:=xk6 (by omega) (by omega)
     rw[hstep,hw1,xk6 (by omega) (by omega),show φ a+(φ (toS P x)-φ a)=φ (toS P x) by omega]
     simp only[st1]
     generalize hm5:Mem.set m4 _ _=m5 at st2 ⊢
     have hm5g:∀j:Id,j≠idA->m5.get j=m4.get j:=λj hj=>by rw[<-hm5,Mem.get_set,x12b hj]
     have hm5n:m5.next=u3+1:=by rw[<-hm5];exact hm4n
     have hS5:SM s p f v l.length (O'.set (toS P x).toNat (φ (toS P x))) K' m5:=⟨by rw[hm5g _ (by simp[idA])];exact hS4.b2,by rw[hm5g _ (by simp[idA])];exact hS4.b3,by rw[hm5g _ (by simp[idA])];exact hS4.b5,by rw[hm5g _ (by simp[idA])];exact hS4.b6,by rw[hm5g _ (by simp[idA])];exact hS4.b7,by rw[hm5g _ (by simp[idA])];exact hS4.b8,st2,hS4.oK.fr (hm5g _ (by simp[idK,idA])),by omega⟩
     have hog:∀w:Int,0<=w->at0 (O'.set (toS P x).toNat (φ (toS P x))) w.toNat=if w=toS P x then φ (toS P x)else at0 O' w.toNat:=λw hw=>at0_setI t0 (by rw[h2.lo];exact t1) hw
     have hD5:DS l.length φ (O'.set (toS P x).toNat (φ (toS P x))) K':=⟨by simp[h2.lo],h2.lk,λw w0 w1 hw=>by
      rw[hog w w0];split
      .rename_i e;rw[e]
      .exact h2.kn w w0 w1 hw⟩
     have hU5:Un l.length (O'.set (toS P x).toNat (φ (toS P x))) K' (toS P x):=λw w0 w1 hne hw=>by
      rw[hog w w0,x12b hne]
      refine h3 w w0 w1 ?_ hw
      rintro rfl
      rw[hKa]at hw;cases hw
     have hsu:=h4.unk (by rw[hK1];simp[hD.lk]) h2.lk
     obtain⟨m6,O6,K6,e1,e2,e3,e4,e5,e6,e7,e8,e9⟩:=ih hh (toS P x) m5 _ K' hS5 hD5 ⟨t0,t1⟩ hkt (by rw[hog _ t0,x12c rfl]) hU5 (by omega)
     have hinv:xlx (xk2 (d+3+k)) hh 2 (.clo xf xpk) [I (toS P x)] m5=some (.tup [],m6):=e1
     unfold xpk at hinv
     simp[hS5.b8,hinv]
     refine hQ2 m6 O6 K6 e2 e3 (λw w0 w1 hne hw=>?_) (λw w0 w1 hw=>e5 w w0 w1 (h4 w w0 w1 hw)) (h5.trans hP hF.rng e6 e5) (λy hy=>?_) (by omega) (λj j1 j2=>?_)
     .by_cases c:w=toS P x
      .rw[c,e7]at hw;cases hw
      .exact e4 w w0 w1 c hw
     .rcases x136.mp hy with hy|hy
      .obtain⟨y1,y2⟩:=h6 y hy
       exact⟨y1,λhfy=>e5 _ (xmh hP hF.rng y1).2.1 (xmh hP hF.rng y1).2.2 (y2 hfy)⟩
      .simp at hy;subst hy;exact⟨hx,λ_=>e7⟩
     .rw[e9 j j1 (by omega),hm5g j (by unfold idA;rintro rfl;simp at j1),hm4g j (by omega)]
      exact h8 j j1 j2)
   (λpre x m hx hfx ⟨O',K',h1,h2,h3,h4,h5,h6,h7,h8⟩=>⟨O',K',h1,h2,h3,h4,h5,λy hy=>by
    rcases x136.mp hy with hy|hy
    .exact h6 y hy
    .simp at hy;subst hy;exact⟨hx,λhfy=>absurd hfy hfx⟩,h7,h8⟩)
   (λm hn hg=>⟨O,K1,hS2.fr (by omega) (λj _=>hg j),hD1,hUn1,λ_ _ _ h=>h,Clo.refl,(λx hx=>by cases hx),by omega,λj _ _=>hg j⟩)
  obtain⟨O',K',h1,h2,h3,h4,h5,h6,h7,h8⟩:=hI
  rw[show d+1+k+2=d+3+k by omega]at hc
  simp only[hc,xka]
  refine hQ m3 O' K' h1 h2 h3 (λw w0 w1 hw=>h4 w w0 w1 (hsub1 w w0 w1 hw)) (λx hx x0 x1=>?_) (h4 a ha.1 ha.2 (by rw[hkb a ha.1,x12c rfl])) (by omega) (λj j1 j2=>?_)
  .by_cases c:frS P x=a
   .exact(h6 x (mem_stepsOf.mpr hx)).2 c
   .exact h5 x hx (by rw[hkb _ (xmh hP hF.rng hx).1.1,x12b c];exact x0) x1
  .rw[h8 j j1 (by omega),hm2g j (by unfold idK;rintro rfl;simp at j1),hm1f j j1 j2]
def phI(ph:List Int)(i:Int):Int:=at0 ph i.toNat
theorem z_func1:∃c,xc6=[c]:=by
 have:xc6.length=1:=by kernel_rfl
 exact List.length_eq_one_iff.mp this
theorem z_sli:xc5=[nilS]:=by kernel_rfl
theorem z_slb:xf7=[nilS]:=by kernel_rfl
theorem a_sums(d:Nat){s p f:AV}{l:List Scene}{P:List Pq}{ph:List Int}(hs:Sl Scene.c s l)(hp:Sl Pq.c p P)(hf:Ints f ph)(hR:Right7 l P)(hl:l.length<=8)(hPl:P.length<=14)(hph:ph.length=P.length){M:Nat}(hM:∀k,k<ph.length->(at0 ph k).natAbs<=M)(hMb:M<=10000000000) :
 RetF (λv=>Ints v (phiL l.length (potM l.length P (xl4 (fW l P) l.length P) (phI ph)))) (xk2 (d+12) [] xv [.agg [s,p],f] mem0):=by
 have hP:=hR.pr
 obtain⟨F,hFe⟩:∃F,F=xl4 (fW l P) l.length P:=⟨_,rfl⟩
 have hF:For l.length P F:=by rw[hFe];exact xq1 hP _
 have hpot:=xq2 hP (phI ph) hF
 rw[<-hFe]
 generalize potM l.length P F (phI ph)=φ at *
 rw[xfz]
 unfold x9k x5x
 obtain⟨zc,hzc⟩:=z_func1
 simp[mem0,hs.one,hp.one,hf.one,hf.cells,hs.len xl8,mkSl_i (n:=l.length) (by omega),mkSl_b (n:=l.length) (by omega),z_sli,z_slb,tR,tS,xk8,disj]
 generalize hm1:Mem.set _ (0,14,6) _=m1
 have i2:m1.get (0,0,2)=some (.row [s,p] 0 false):=by rw[<-hm1];simp
 have i3:m1.get (0,1,3)=some (.row [f] 0 false):=by rw[<-hm1];simp
 have i5:m1.get (0,13,5)=some (.row [.sref idA 0 0 l.length 1 true] 0 false):=by rw[<-hm1];simp[idA]
 have i6:m1.get (0,14,6)=some (.row [.sref idK 0 0 l.length 1 true] 0 false):=by rw[<-hm1];simp[idK]
 have iA:Ow intE m1 idA (List.replicate l.length 0):=by unfold Ow;rw[<-hm1];simp[idA]
 have iK:Ow bE m1 idK (List.replicate l.length false):=by unfold Ow;rw[<-hm1];simp[idK]
 have in1:m1.next=1:=by rw[<-hm1];rfl
 obtain⟨v,hv,hw⟩:=xzv (d+4) hs hp hR hl hPl m1
 rw[<-hFe]at hv
 have hcl:∀(g:FuncId) (c:List AV),(AV.clo g c).cells=[AV.clo g c]:=λ_ _=>rfl
 have hco:∀(g:FuncId) (c:List AV),(AV.clo g c).one=true:=λ_ _=>rfl
 simp[hw,hv.cells,hv.one,hzc,hcl,hco]
 generalize hm2:Mem.set _ (0,21,8) _=m2
 have hmg:∀j:Id,j≠(0,19,7)->j≠(0,21,8)->m2.get j=m1.get j:=λj h1 h2=>by rw[<-hm2,Mem.get_set,x12b h2,Mem.get_new,x12b h2,Mem.get_set,x12b h1,Mem.get_new,x12b h1]
 have hS:SM s p f v l.length (List.replicate l.length 0) (List.replicate l.length false) m2:=⟨by rw[hmg _ (by simp) (by simp)];exact i2,by rw[hmg _ (by simp) (by simp)];exact i3,by rw[hmg _ (by simp) (by simp)];exact i5,by rw[hmg _ (by simp) (by simp)];exact i6,by rw[<-hm2];simp,by rw[<-hm2];simp,
  iA.fr (hmg _ (by simp[idA]) (by simp[idA])),iK.fr (hmg _ (by simp[idK]) (by simp[idK])),by rw[<-hm2];show 1<=m1.next;omega⟩
 have hrep:∀v:Int,boA (List.replicate l.length false) v=false:=λv=>by
  unfold boA
  rw[x12n,x172]
  split<;>rfl
 have hrep0:∀v:Nat,at0 (List.replicate l.length 0) v=0:=λv=>by
  unfold at0
  rw[x12n,x172]
  split<;>rfl
 unfold xc4
 simp[hS.b5]
 rw[show sLen Tryz.prog x2 (.sref idA 0 0 l.length 1 true)=some (I l.length)from rfl]
 simp only[xka]
 refine xkq (N:=l.length) (σ:=Unit) (λn k _ m fc=>x3j (xk2 (d+11)) [] 0 n (.ptr (0,13,5) 0 0) (.ptr (0,14,6) 0 0) (.ptr (0,21,8) 0 0) (I l.length) (I k) m fc)
  (λk _ m=>∃O K,SM s p f v l.length O K m/\DS l.length φ O K/\Un l.length O K (-1)/\Cls P F K/\∀j:Nat,j<k->boA K j=true) _ ?_ ?_ NN 0 () m2 _ (by omega) (by rw[xkj];omega)
  ⟨_,_,hS,⟨by simp,by simp,λv _ _ h=>by rw[hrep]at h;cases h⟩,λv _ _ _ _=>hrep0 _,(show Cls P F _ from λx _ h=>by rw[hrep]at h;cases h),λj h=>by omega⟩
 .rintro n k-m fc hk ⟨O,K,hS,hD,hU,hC,hB⟩ next
  have hk':(k:Int)<(l.length:Int):=by omega
  have ixK:sIx 1 (.sref idK 0 0 l.length 1 true) (I (k:Int))=some (.ptr idK 0 (k:Int).toNat):=xnp (by omega) hk'
  have ldK:=hS.oK.ldB (k:=(k:Int)) (by omega) (by rw[hD.lk];exact hk')
  have ldK':sLd false 1 (.ptr idK 0 (k:Int).toNat) m=some (B (boA K k)):=ldK
  simp only[x3j]
  unfold x5w xc3
  simp only[xkx,hk',x12o,xku,xka,xlb,hS.b6,xmf,x13j,xlf,x12j,rd_f,ixK]
  rw[<-xlb,ldK']
  cases hkk:boA K k with
  |true=>
   unfold x4k
   simp(disch:=omega) [xk6]
   refine next () m _ ⟨O,K,hS,hD,hU,hC,λj hj=>?_⟩
   by_cases c:j=k
   .rw[c];exact hkk
   .exact hB j (by omega)
  |false=>
   have hz:=hpot.z k hk (root_of hP hF hC hk hB hkk)
   obtain⟨m3,O3,K3,e1,e2,e3,e4,e5,e6,e7,e8,e9⟩:=c_spread d hs hp hf hv hR.ll hP hF hph hpot (M:=M) (λi hi=>hM _ (by have:=hF.rng i hi;omega)) hMb 8 [] (k:Int) m O K hS hD ⟨by omega,hk'⟩ hkk (by rw[hU _ (by omega) hk' (by omega) hkk,hz]) (λw w0 w1 hne hw=>hU w w0 w1 (by omega) hw) (by
    have h1:unk K<=K.length:=x16c _ _
    rw[hD.lk]at h1
    omega)
   have hinv:xlx (xk2 (d+11)) [] 2 (.clo xf xpk) [I (k:Int)] m=some (.tup [],m3):=e1
   unfold xpk at hinv
   simp only[sNot_B,x13n,xka,xku,xlb,hS.b8,xmf,x13j,xlf,x12j,rd_f,hinv]
   unfold x4k
   simp(disch:=omega) [xk6]
   refine next () m3 _ ⟨O3,K3,e2,e3,λw w0 w1 hne hw=>?_,hC.grow hP hF.rng e6 e5,λj hj=>?_⟩
   .by_cases c:w=(k:Int)
    .rw[c,e7]at hw;cases hw
    .exact e4 w w0 w1 c hw
   .by_cases c:j=k
    .rw[c];exact e7
    .exact e5 _ (by omega) (by omega) (hB j (by omega))
 .rintro n-m fc ⟨O,K,hS,hD,hU,hC,hB⟩
  have:=hD.all hB
  subst this
  simp only[x3j]
  unfold x5w xc2
  simp[hS.b5]
  have hoA:=hS.oA
  unfold Ow at hoA
  have h1:=xoq (k:=4) xk7 xm5 (x:=true) (l:=phiL l.length φ) hoA
  have h2:Ints (.slit ((phiL l.length φ).flatMap intE) (phiL l.length φ).length false) (phiL l.length φ):=Sl.lit _ false
  rw[xls]at h1 h2
  exact RetF.mk h1 h2
theorem w_sums(d:Nat){s p f:AV}{l:List Scene}{P:List Pq}{ph:List Int}(hs:Sl Scene.c s l)(hp:Sl Pq.c p P)(hf:Ints f ph)(hR:Right7 l P)(hl:l.length<=8)(hPl:P.length<=14)(hph:ph.length=P.length){M:Nat}(hM:∀k,k<ph.length->(at0 ph k).natAbs<=M)(hMb:M<=10000000000)(m:Mem) :
 ∃v,Ints v (phiL l.length (potM l.length P (xl4 (fW l P) l.length P) (phI ph)))/\xk4 (xk2 (d+12)) xv [.agg [s,p],f] m=some (v,m):=
 xlq (by simp[hs.still1,hp.still1,hf.still]) (a_sums d hs hp hf hR hl hPl hph hM hMb) m
noncomputable def potL(l:List Scene)(P:List Pq)(ph:List Int):Int->Int:=potM l.length P (xl4 (fW l P) l.length P) (phI ph)
noncomputable def xki(l:List Scene)(P:List Pq)(ph:List Int):List Int:=(List.range P.length).map λ(k:Nat)=>at0 ph k-potL l P ph (prAt P k).b+potL l P ph (prAt P k).a
theorem xo4(l:List Scene)(P:List Pq)(ph:List Int):(xki l P ph).length=P.length:=by simp[xki]
theorem xui{l:List Scene}{P:List Pq}{ph:List Int}{k:Nat}(h:k<P.length):at0 (xki l P ph) k=at0 ph k-potL l P ph (prAt P k).b+potL l P ph (prAt P k).a:=by
 rw[xkl (by rw[xo4];exact h)]
 simp[xki]
theorem xxj{l:List Scene}{P:List Pq}{ph:List Int}{k:Nat}(h:k<P.length):(xki l P ph).take (k+1)=(xki l P ph).take k++[at0 ph k-potL l P ph (prAt P k).b+potL l P ph (prAt P k).a]:=by
 rw[x12y (by rw[xo4];exact h),<-xkl,xui h]
theorem xox{l:List Scene}{P:List Pq}{ph:List Int}(hR:Right7 l P)(hph:ph.length=P.length){M:Nat}(hM:∀k,k<ph.length->(at0 ph k).natAbs<=M){v:Int}(h0:0<=v)(h1:v<l.length):(potL l P ph v).natAbs<=l.length*M:=by
 have hF:=xq1 (P:=P) (n:=l.length) hR.pr (fW l P)
 have:=Pot.abs hR.pr hF (xq2 hR.pr (phI ph) hF) (M:=M) (λi hi=>hM _ (by have:=hF.rng i hi;omega)) (v:=v.toNat) (by omega)
 rw[x13i h0]at this
 exact this
theorem xq3{P:List Pq}{k:Nat}(h:k<P.length):prAt P (k:Int)=P[k]:=xnn (by simpa using h)
theorem a_misses(d:Nat){s p f:AV}{l:List Scene}{P:List Pq}{ph:List Int}(hs:Sl Scene.c s l)(hp:Sl Pq.c p P)(hf:Ints f ph)(hR:Right7 l P)(hl:l.length<=8)(hPl:P.length<=14)(hph:ph.length=P.length){M:Nat}(hM:∀k,k<ph.length->(at0 ph k).natAbs<=M)(hMb:M<=10000000000) :
 RetF (λv=>Ints v (xki l P ph)) (xk2 (d+13) [] x1g [.agg [s,p],f] mem0):=by
 rw[xfy]
 unfold x9j x5v
 have hw:=w_sums d hs hp hf hR hl hPl hph hM hMb ((⟨[],1⟩:Mem).new (0,0,2) (.row [s,p] 0 false))
 obtain⟨v,hv,hw⟩:=hw
 have hnM:l.length*M<=8*10000000000:=x15e hl hMb
 simp[mem0,hs.one,hp.one,hw]
 unfold xc1
 simp[hp.len xlc]
 refine xkq (N:=P.length) (λn k a m fc=>x3i (xk2 (d+12)) [] 0 n f v a p (I P.length) (I k) m fc)
  (λk a m=>Gr 1 intE 0 39 m a ((xki l P ph).take k)) _ ?_ ?_ NN 0 nilS _ _ (by omega) (by rw[xkj];omega) (by simpa using Gr.nil)
 .rintro n k a m fc hk hG next
  have hk':(k:Int)<(P.length:Int):=by omega
  have ip:=hp.ix Pq.len hk
  have lp:=λm=>xlt (m:=m) (enc:=Pq.c) Pq.len (by omega) hk
  have ixf:=hf.ix xk7 (show k<ph.length by omega)
  have ldf:=λm=>xkn (m:=m) (show k<ph.length by omega)
  have hsn:=xxj (l:=l) (P:=P) (ph:=ph) hk
  obtain⟨q0,q1,q2⟩:=hR.pr P[k] (x12s hk)
  rw[xq3 hk]at hsn
  generalize P[k]=q at *
  have ia:=hv.ixI xk7 (k:=q.a) q0 (by rw[xls];omega)
  have ib:=hv.ixI xk7 (k:=q.b) (by omega) (by rw[xls];omega)
  have la:=λm=>xkn (m:=m) (l:=phiL l.length (potL l P ph)) (k:=q.a.toNat) (by rw[xls];omega)
  have lb:=λm=>xkn (m:=m) (l:=phiL l.length (potL l P ph)) (k:=q.b.toNat) (by rw[xls];omega)
  rw[xow q0 (by omega)]at la
  rw[xow (by omega) q2]at lb
  have ba:=xox hR hph hM (v:=q.a) q0 (by omega)
  have bb:=xox hR hph hM (v:=q.b) (by omega) q2
  have bp:=hM k (by omega)
  unfold potL at *
  simp only[Pq.c]at lp
  simp only[x3i]
  unfold x5u
  simp[hk',ip,lp,xmn]
  generalize hm1:Mem.set _ _ _=m1
  have g8:m1.get (0,fc+4,8)=some (.row [I q.a,I q.b] 0 false):=by rw[<-hm1];simp
  have hG1:Gr 1 intE 0 39 m1 a ((xki l P ph).take k):=hG.frame λs=>by rw[<-hm1];simp
  obtain⟨a2,m2,e1,e2,e3,-⟩:=hG1.app (s0:=fc+25) (bytes:=8) xk7 (by omega) (by unfold xkg;simp[xo4];omega) (at0 ph k-potM l.length P (xl4 (fW l P) l.length P) (phI ph) q.b+potM l.length P (xl4 (fW l P) l.length P) (phI ph) q.a)
  simp[g8,ixf,ldf,ia,ib,la,lb,xlo]
  have hw1:w64 (at0 ph k-potM l.length P (xl4 (fW l P) l.length P) (phI ph) q.b)=at0 ph k-potM l.length P (xl4 (fW l P) l.length P) (phI ph) q.b:=xk6 (by omega) (by omega)
  rw[hw1,xk6 (by omega) (by omega),xk6 (by omega) (by omega)]
  rw[show ∀x:Int,elems m1.get 1 (.slit [I x] 1 true)=some (intE x,1)from λ_=>rfl,e1]
  exact next a2 m2 _ (by rw[hsn];exact e2)
 .rintro n a m fc hG
  rw[x12g (by rw[xo4];exact x12f _)]at hG
  simp only[x3i]
  unfold x5u xc0
  simp
  obtain⟨a',h1,h2⟩:=hG.frzk (k:=4) xk7 xm5
  exact RetF.mk h2 h1
theorem w_misses(d:Nat){s p f:AV}{l:List Scene}{P:List Pq}{ph:List Int}(hs:Sl Scene.c s l)(hp:Sl Pq.c p P)(hf:Ints f ph)(hR:Right7 l P)(hl:l.length<=8)(hPl:P.length<=14)(hph:ph.length=P.length){M:Nat}(hM:∀k,k<ph.length->(at0 ph k).natAbs<=M)(hMb:M<=10000000000)(m:Mem) :
 ∃v,Ints v (xki l P ph)/\xk4 (xk2 (d+13)) x1g [.agg [s,p],f] m=some (v,m):=
 xlq (by simp[hs.still1,hp.still1,hf.still]) (a_misses d hs hp hf hR hl hPl hph hM hMb) m
theorem sumW_snoc(ph:Int->Int){w:List Sp}{k:Nat}(hk:k<w.length):sumW ph (w.take (k+1))=sumW ph (w.take k)+w[k].s*ph w[k].p:=by
 rw[x12y hk,xx9]
 simp[sumW]
def StOK7(N:Nat)(w:List Sp):Prop:=∀x∈w,(0<=x.p/\x.p<N)/\(x.s=1\/x.s=-1)
theorem StOK7.abs{ph:List Int}{M:Nat}(hM:∀k,k<ph.length->(at0 ph k).natAbs<=M):∀{w:List Sp},StOK7 ph.length w->(sumW (phI ph) w).natAbs<=w.length*M
 |[],_=>by simp[sumW]
 |x::r,h=>by
  have ih:=StOK7.abs hM (w:=r) λy hy=>h y (x12l _ hy)
  obtain⟨h1,h2⟩:=h x (x12m ..)
  have h3:=hM x.p.toNat (by omega)
  have h4:(x.s*phI ph x.p).natAbs=(at0 ph x.p.toNat).natAbs:=by
   unfold phI
   rcases h2 with e|e<;>rw[e]<;>simp
  rw[sumW,x12x,x13g]
  omega
theorem w_rSum(d:Nat){f c:AV}{ph:List Int}{w:List Sp}(hf:Ints f ph)(hc:Sl Sp.c c w)(hw:StOK7 ph.length w)(hwl:w.length<=1000){M:Nat}(hM:∀k,k<ph.length->(at0 ph k).natAbs<=M)(hMb:M<=10000000000)(m:Mem) :
 xk4 (xk2 (d+1)) x2n [f,c] m=some (I (sumW (phI ph) w),m):=by
 refine xlu (by simp[hf.still,hc.still]) ?_ m
 rw[xgb]
 unfold x9w x6o xcu
 refine xkq (N:=w.length) (σ:=Unit) (λn k _ m fc=>x3s (xk2 d) [] 0 n f c (I (sumW (phI ph) (w.take k))) (I k) m fc) (λ_ _ _=>True) _ ?_ ?_ NN 0 () _ _ (by omega) (by rw[xkj];omega) trivial
 .rintro n k-m fc hk-next
  have hk':(k:Int)<(w.length:Int):=by omega
  have ix:=hc.ix Sp.len hk
  have l0:=λm=>xmy (m:=m) (enc:=Sp.c) hk 0 rfl
  have l1:=λm=>xmy (m:=m) (enc:=Sp.c) hk 1 rfl
  simp only[x12j]at l0
  simp only[x15q]at l1
  have hsn:=sumW_snoc (phI ph) hk
  obtain⟨h1,h2⟩:=hw w[k] (x12s hk)
  have ha:(sumW (phI ph) (w.take k)).natAbs<=(w.take k).length*M:=StOK7.abs hM λy hy=>hw y (x15r hy)
  have hb:(w.take k).length*M<=1000*10000000000:=x15e (by simp;omega) hMb
  generalize w[k]=x at *
  have ip:=hf.ixI xk7 h1.1 h1.2
  have lp:=λm=>xkn (m:=m) (show x.p.toNat<ph.length by omega)
  have h3:=hM x.p.toNat (by omega)
  have h4:(x.s*at0 ph x.p.toNat).natAbs=(at0 ph x.p.toNat).natAbs:=by rcases h2 with e|e<;>rw[e]<;>simp
  simp only[x3s]
  unfold x6n
  simp[hc.len xxi,hk',ix,l0,l1,ip,lp]
  have hw1:w64 (x.s*at0 ph x.p.toNat)=x.s*at0 ph x.p.toNat:=xk6 (by omega) (by omega)
  rw[hw1,xk6 (by omega) (by omega),xk6 (by omega) (by omega)]
  have:=next () m (fc+24) trivial
  rw[hsn]at this
  exact this
 .rintro n-m fc -
  simp only[x3s]
  unfold x6n xct
  simp[hc.len xxi]
  exact RetF.st rfl rfl
def allM(N:Nat)(but:Int):List Int:=(freshM N).filter λi=>!decide (i=but)
theorem all_1(N:Nat):allM N (-1)=freshM N:=by
 unfold allM
 rw[x15k]
 intro x hx
 have:=fresh_mem.mp hx
 simp;omega
theorem w_all(d:Nat){s p:AV}{P:List Pq}(hs:s.one=true/\still1 s=true)(hp:Sl Pq.c p P)(hpl:P.length<=1000)(but:Int)(m:Mem):∃a,Ints a (allM P.length but)/\xk4 (xk2 (d+1)) x2m [.agg [s,p],I but] m=some (a,m):=by
 refine xlq (by simp[hs.2,hp.still1]) ?_ m
 rw[xga]
 unfold x9v x6m xcs
 simp[mem0,hs.1,hp.one]
 refine xkq (N:=P.length) (λn k o m fc=>x3q (xk2 d) [] 0 n (I but) (.ptr (0,0,2) 0 0) o (I k) m fc)
  (λk o m=>m.get (0,0,2)=some (.row [s,p] 0 false)/\Gr 1 intE 0 20 m o (((freshM P.length).take k).filter λi=>!decide (i=but))) _ ?_ ?_ NN 0 nilS _ _ (by omega) (by rw[xkj];omega) ⟨by simp,by simpa using Gr.nil⟩
 .rintro n k o m fc hk ⟨hg,hG⟩ next
  have hk':(k:Int)<(P.length:Int):=by omega
  have hsn:((freshM P.length).take (k+1)).filter (λi=>!decide (i=but))=((freshM P.length).take k).filter (λi=>!decide (i=but))++(if(k:Int)=but then[]else[(k:Int)]):=by
   rw[<-xpi hk,x14x]
   congr 1
   by_cases c:(k:Int)=but<;>simp[x159,c]
  have hfl:(((freshM P.length).take k).filter λi=>!decide (i=but)).length<=P.length:=by
   have h1:=x16c (λi:Int=>!decide (i=but)) ((freshM P.length).take k)
   have h2:((freshM P.length).take k).length<=P.length:=by simp[freshM];omega
   omega
  simp only[x3q]
  unfold x6l xcr
  by_cases c:(k:Int)=but
  .rw[x12c c,x13y]at hsn
   obtain rfl:but=(k:Int):=c.symm
   simp[hg,hp.len xlc,hk]
   unfold x4p
   simp(disch:=omega) [xk6]
   exact next o m _ ⟨hg,by rw[hsn];exact hG⟩
  .rw[x12b c]at hsn
   obtain⟨o2,m2,e1,e2,e3,e4⟩:=hG.app (s0:=fc+5+6) (bytes:=8) xk7 (by omega) (by unfold xkg;omega) (k:Int)
   simp[hg,hp.len xlc,hk',c,xlo]
   rw[show ∀x:Int,elems m.get 1 (.slit [I x] 1 true)=some (intE x,1)from λ_=>rfl,e1]
   unfold x4p
   simp(disch:=omega) [xk6]
   exact next o2 m2 _ ⟨by rw[e4 _ (by simp)];exact hg,by rw[hsn];exact e2⟩
 .rintro n o m fc ⟨hg,hG⟩
  rw[x12g (by simp[freshM])]at hG
  simp only[x3q]
  unfold x6l xcq
  simp[hg,hp.len xlc]
  obtain⟨a',h1,h2⟩:=hG.frzk (k:=4) xk7 xm5
  exact RetF.mk h2 h1
theorem all_rng{l:List Scene}{P:List Pq}(hR:Right7 l P)(but:Int):Rng l.length P (allM P.length but):=λi hi=>by
 have:=fresh_mem.mp (x130.mp hi).1
 exact⟨this,hR.at this⟩
theorem xsa{n:Nat}{P:List Pq}:uniM n P (allM P.length (-1))=joinsM (freshM n) P:=by
 unfold uniM
 rw[all_1,prs_fresh]
theorem xxk(n:Nat)(φ:Int->Int){k:Nat}(hk:k<n):(phiL n φ).take (k+1)=(phiL n φ).take k++[φ k]:=by
 rw[x12y (by rw[xls];exact hk)]
 simp[phiL]
theorem root_way{l:List Scene}{P:List Pq}(hR:Right7 l P){ph:List Int}{k:Nat}(hk:k<l.length):∃w,Wk P w (at0 (joinsM (freshM l.length) P) k) k/\AllF (xl4 (fW l P) l.length P) w/\NB P w/\sumW (phI ph) w=potL l P ph k:=by
 have hF:=xq1 (P:=P) (n:=l.length) hR.pr (fW l P)
 have hT:=xub (P:=P) (n:=l.length) hR.pr (fW l P)
 have hL:=(Lab.fresh l.length).joins hR.pr
 obtain⟨l0,l1,l2⟩:=hL.ok k hk
 have hu:=hT.uni hR.pr
 obtain⟨w,hw,hwF⟩:=xs2 hR.pr hF.rng (v:=(at0 (joinsM (freshM l.length) P) k).toNat) (w:=k) (by omega) hk (by rw[hu];unfold Sm;exact l2)
 obtain⟨w2,hw2,hwF2,hN⟩:=nb_of hw hwF
 rw[x13i l0]at hw2
 have hpot:=xq2 hR.pr (phI ph) hF
 refine⟨w2,hw2,hwF2,hN,?_⟩
 have:=hpot.st.walk hw2 hwF2
 rw[this]
 have hz:=hpot.z (at0 (joinsM (freshM l.length) P) k).toNat (by omega) (by rw[hu,l2];omega)
 rw[x13i l0]at hz
 unfold potL
 omega
theorem a_rAlong(d:Nat){s p f g v:AV}{l:List Scene}{P:List Pq}{ph:List Int}(hs:Sl Scene.c s l)(hp:Sl Pq.c p P)(hf:Ints f ph)(hg1:g.one=true/\still1 g=true/\clean1 g=true)(hv:Ints v (xl4 (fW l P) l.length P))(hR:Right7 l P)(hph:ph.length=P.length){M:Nat}(hM:∀k,k<ph.length->(at0 ph k).natAbs<=M)(hMb:M<=10000000000) :
 RetF (λa=>Ints a (phiL l.length (potL l P ph))) (xk2 (d+3) [] xi [.agg [s,p,f,g],v] mem0):=by
 have hll:=hR.ll
 have hF:=xq1 (P:=P) (n:=l.length) hR.pr (fW l P)
 rw[xf4]
 unfold x4y x4i
 generalize hm1:(⟨[],1⟩:Mem).new (0,0,2) (.row [s,p,f,g] 0 false)=m1
 have g2:m1.get (0,0,2)=some (.row [s,p,f,g] 0 false):=by rw[<-hm1];simp
 obtain⟨a,ha,hca⟩:=w_all (d+1) ⟨hs.one,hs.still1⟩ hp (by have:=hR.pl;omega) (-1) m1
 have hal:(allM P.length (-1)).length=P.length:=by rw[all_1];simp[freshM]
 obtain⟨u,hu,hcu⟩:=xs6 (d+1) hs hp ha (all_rng hR (-1)) hll (by have:=hR.pl;omega) m1
 rw[xsa]at hu
 have hul:=((Lab.fresh l.length).joins hR.pr).len
 simp[mem0,hs.one,hp.one,hf.one,hg1.1,hm1,g2,hca,hcu,hs.clean1,hp.clean1,cAp,tR]
 unfold x5g
 refine xkq (N:=l.length) (λn k o m fc=>xr (xk2 (d+2)) [] 0 n v (.ptr (0,0,2) 0 0) u o (I k) m fc)
  (λk o m=>m.get (0,0,2)=some (.row [s,p,f,g] 0 false)/\Gr 1 intE 0 34 m o ((phiL l.length (potL l P ph)).take k)) _ ?_ ?_ NN 0 nilS m1 _ (by omega) (by rw[xkj];omega) ⟨g2,by simpa using Gr.nil⟩
 .rintro n k o m fc hk ⟨hg,hG⟩ next
  have hk':(k:Int)<(l.length:Int):=by omega
  have hku:(k:Int)<((joinsM (freshM l.length) P).length:Int):=by omega
  have ixu:=hu.ix xk7 (show k<(joinsM (freshM l.length) P).length by omega)
  have ldu:=λm=>xkn (m:=m) (show k<(joinsM (freshM l.length) P).length by omega)
  obtain⟨l0,l1,l2⟩:=((Lab.fresh l.length).joins hR.pr).ok k hk
  obtain⟨w,hw,hwF,hN,hsum⟩:=root_way hR (ph:=ph) hk
  have hwl:=xqs (hF.cut hR.pr) hw hwF hN
  have hFl:=hF.len hR.pr
  obtain⟨c,hc,hway⟩:=w_rway d hs hp hv hll hR.pr hF (fr:=at0 (joinsM (freshM l.length) P) k) (b:=k) l0 (by omega) (by omega) hk' hw hwF hN m
  have hS:=w_rSum (d+1) hf hc (λx hx=>⟨by have:=hF.rng x.p (hwF x hx).1;omega,(hwF x hx).2⟩) (by omega) hM hMb m
  rw[hsum]at hS
  have hsn:=xxk l.length (potL l P ph) hk
  obtain⟨o2,m2,e1,e2,e3,e4⟩:=hG.app (s0:=fc+18) (bytes:=8) xk7 (by omega) (by unfold xkg;simp[xls];omega) (potL l P ph k)
  simp only[xr]
  unfold x3c
  simp[hu.len xke,hku,hul,hg,ixu,ldu,hway,hS,xlo,hk']
  rw[show ∀x:Int,elems m.get 1 (.slit [I x] 1 true)=some (intE x,1)from λ_=>rfl,e1]
  simp[hs.clean1,hp.clean1,hv.clean,hf.clean,hc.clean,cAp,tR]
  rw[xk6 (by omega) (by omega)]
  exact next o2 m2 _ ⟨by rw[e4 _ (by simp)];exact hg,by rw[hsn];exact e2⟩
 .rintro n o m fc ⟨hg,hG⟩
  rw[x12g (by rw[xls];exact x12f _)]at hG
  simp only[xr]
  unfold x3c x5f
  simp[hu.len xke,hul]
  obtain⟨a',h1,h2⟩:=hG.frzk (k:=4) xk7 xm5
  exact RetF.mk h2 h1
def xmo(x:Int):Bool:=!(wi x (-100000000) 100000000)
def xmp(x:Int):Bool:=!(wi x 0 1000)
def taskE(l:List Scene)(P:List Pq)(ph wt:List Int):Int:=
 bif !decide ((net7 l P).2=0)then(net7 l P).2 else bif !decide (ph.length=P.length)||!decide (wt.length=P.length)then 10 else bif ph.any xmo then 2 else bif wt.any xmp then 2 else 0
structure TaskOK (l:List Scene) (P:List Pq) (ph wt:List Int):Prop where
 r:Right7 l P
 lp:ph.length=P.length
 lw:wt.length=P.length
 hp:∀k,k<ph.length->-100000000<=at0 ph k/\at0 ph k<=100000000
 hw:∀k,k<wt.length->0<=at0 wt k/\at0 wt k<=1000
theorem any_wi{q:Int->Bool}{a b:Int}(hq:∀x,q x=!(wi x a b)){l:List Int}(h:l.any q=false):∀k,k<l.length->a<=at0 l k/\at0 l k<=b:=λk hk=>by
 rw[x14j]at h
 have:=h l[k] (x12s hk)
 rw[hq]at this
 rw[xkl hk]
 exact wi_t (by simpa using this)
theorem xqy{l:List Scene}{P:List Pq}{ph wt:List Int}(h:taskE l P ph wt=0):TaskOK l P ph wt:=by
 unfold taskE at h
 by_cases he:(net7 l P).2=0
 .by_cases c1:ph.length=P.length
  .by_cases c2:wt.length=P.length
   .cases c3:ph.any xmo with
    |true=>rw[c3]at h;simp[he,c1,c2]at h
    |false=>
     cases c4:wt.any xmp with
     |true=>rw[c3,c4]at h;simp[he,c1,c2]at h
     |false=>exact⟨xs7 he,c1,c2,any_wi (λ_=>rfl) c3,any_wi (λ_=>rfl) c4⟩
   .simp[he,c2]at h
  .simp[he,c1]at h
 .simp[he]at h
theorem tells_ph(d:Nat):xpf (xk2 (d+3)) (.clo x1n []) xmo:=by
 intro hs x m
 refine⟨m.next+1,?_⟩
 show xk2 (d+3) hs x1n [I x] m=_
 rw[xgk]
 unfold xa5 x75 xmo
 simp[xtq]
theorem tells_wt(d:Nat):xpf (xk2 (d+2)) (.clo x1o []) xmp:=by
 intro hs x m
 refine⟨m.next+1,?_⟩
 show xk2 (d+2) hs x1o [I x] m=_
 rw[xgl]
 unfold xa6 x76 xmp
 simp[xon]
theorem x100(d:Nat){s p f g:AV}{l:List Scene}{P:List Pq}{ph wt:List Int}(hs:Sl Scene.c s l)(hp:Sl Pq.c p P)(hf:Ints f ph)(hg:Ints g wt)(h1:ph.length<1000000)(h2:wt.length<1000000)(m:Mem) :
 xk4 (xk2 (d+8)) x2k [.agg [s,p,f,g]] m=some (I (taskE l P ph wt),m):=by
 refine xlu (by simp[hs.still1,hp.still1,hf.still1,hg.still1]) ?_ m
 rw[xfw]
 unfold x9h x5s
 have c3:=λm=>xto (d+5) hf h1 (tells_ph (d+2)) rfl m
 have c4:=λm=>xto (d+5) hg h2 (tells_wt (d+3)) rfl m
 simp[mem0,hs.one,hp.one,hf.one,hg.one,xrw (d+1) hs hp]
 unfold taskE
 by_cases he:(net7 l P).2=0
 .simp[he,hp.len xlc,hf.len xke]
  by_cases e1:ph.length=P.length
  .simp[e1,hg.len xke]
   by_cases e2:wt.length=P.length
   .simp[e2,c3]
    cases a3:ph.any xmo with
    |true=>simp;exact RetF.st rfl rfl
    |false=>
     simp[c4]
     cases a4:wt.any xmp with
     |true=>simp;exact RetF.st rfl rfl
     |false=>simp;exact RetF.st rfl rfl
   .have e2':¬(wt.length:Int)=(P.length:Int):=by omega
    simp[e2,e2']
    exact RetF.st rfl rfl
  .have e1':¬(ph.length:Int)=(P.length:Int):=by omega
   simp[e1,e1']
   exact RetF.st rfl rfl
 .simp[he]
  exact RetF.st rfl rfl
theorem xuj(d:Nat){s p f g:AV}{l:List Scene}{P:List Pq}{ph wt:List Int}(hs:Sl Scene.c s l)(hp:Sl Pq.c p P)(hf:Ints f ph)(hg:Ints g wt)(h1:ph.length<1000000)(h2:wt.length<1000000)(m:Mem) :
 xk4 (xk2 (d+5)) xj [.agg [s,p,f,g]] m=some (I (taskE l P ph wt),m):=by
 refine xlu (by simp[hs.still1,hp.still1,hf.still1,hg.still1]) ?_ m
 rw[xfu]
 unfold x9f x5p
 simp[mem0,hs.one,hp.one,hf.one,hg.one,w_Err7 d hs hp]
 by_cases he:(net7 l P).2=0
 rotate_left
 .simp[he]
  exact RetF.st rfl (by unfold taskE;simp[he])
 simp[he,hp.len xlc,hf.len xke]
 by_cases e1:ph.length=P.length
 rotate_left
 .have e1':¬(ph.length:Int)=(P.length:Int):=by omega
  simp[e1']
  exact RetF.st rfl (by unfold taskE;simp[he,e1])
 simp[e1,hg.len xke,hp.len xlc]
 by_cases e2:wt.length=P.length
 rotate_left
 .have e2':¬(wt.length:Int)=(P.length:Int):=by omega
  simp[e2']
  exact RetF.st rfl (by unfold taskE;simp[he,e2])
 simp[e2]
 have hE:taskE l P ph wt=bif ph.any xmo then 2 else bif wt.any xmp then 2 else 0:=by unfold taskE;simp[he,e1,e2]
 rw[hE]
 unfold xbx
 refine xkq (N:=ph.length) (σ:=Unit) (λn k _ m fc=>x3g (xk2 (d+4)) [] 0 n (.ptr (0,0,1) 0 0) (I k) m fc) (λk _ m=>m.get (0,0,1)=some (.row [s,p,f,g] 0 false)/\ph.any xmo=(ph.drop k).any xmo) _ ?_ ?_ NN 0 () _ _ (by omega) (by rw[xkj];omega) ⟨by simp,by simp⟩
 .rintro n k-m fc hk ⟨hb,hA⟩ next
  have hk':(k:Int)<(ph.length:Int):=by omega
  have ix:=hf.ix xk7 hk
  have ld:=λm=>xkn (m:=m) hk
  rw[xl7 hk,x14c,<-xkl hk]at hA
  simp only[x3g]
  unfold x5o
  simp[hb,hf.len xke,hk,ix,ld,xom]
  cases c:wi (at0 ph k) (-100000000) 100000000 with
  |false=>
   simp
   rw[show xmo (at0 ph k)=true by unfold xmo;rw[c];rfl,x14i]at hA
   exact RetF.st rfl (by rw[hA];rfl)
  |true=>
   rw[show xmo (at0 ph k)=false by unfold xmo;rw[c];rfl,x15c]at hA
   simp(disch:=omega) [xk6]
   exact next () m _ ⟨hb,hA⟩
 .rintro n-m fc ⟨hb,hA⟩
  rw[x134 (x12f _)]at hA
  rw[show ph.any xmo=false from hA]
  simp only[x3g]
  unfold x5o xbw
  simp[hb,hf.len xke]
  refine xkq (N:=wt.length) (σ:=Unit) (λn k _ m fc=>x3f (xk2 (d+4)) [] 0 n (.ptr (0,0,1) 0 0) (I k) m fc) (λk _ m=>m.get (0,0,1)=some (.row [s,p,f,g] 0 false)/\wt.any xmp=(wt.drop k).any xmp) _ ?_ ?_ NN 0 () m _ (by omega) (by rw[xkj];omega) ⟨hb,by simp⟩
  .rintro n k-m fc hk ⟨hb,hA⟩ next
   have hk':(k:Int)<(wt.length:Int):=by omega
   have ix:=hg.ix xk7 hk
   have ld:=λm=>xkn (m:=m) hk
   rw[xl7 hk,x14c,<-xkl hk]at hA
   simp only[x3f]
   unfold x5n
   simp[hb,hg.len xke,hk,ix,ld,xom]
   cases c:wi (at0 wt k) 0 1000 with
   |false=>
    simp
    rw[show xmp (at0 wt k)=true by unfold xmp;rw[c];rfl,x14i]at hA
    exact RetF.st rfl (by rw[hA];rfl)
   |true=>
    rw[show xmp (at0 wt k)=false by unfold xmp;rw[c];rfl,x15c]at hA
    simp(disch:=omega) [xk6]
    exact next () m _ ⟨hb,hA⟩
  .rintro n-m fc ⟨hb,hA⟩
   rw[x134 (x12f _)]at hA
   rw[show wt.any xmp=false from hA]
   simp only[x3f]
   unfold x5n xbv
   simp[hb,hg.len xke]
   exact RetF.st rfl rfl
end Go.Ix
