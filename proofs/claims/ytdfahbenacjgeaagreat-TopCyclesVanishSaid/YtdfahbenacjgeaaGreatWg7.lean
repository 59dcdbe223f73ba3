import Derived.Test.YtdfahbenacjgeaaGreatWg5
import Derived.Test.YtdfahbenacjgeaaGreatWg6
import Derived.Test.YtdfahbenacjgeaaGreatWg2
set_option linter.unusedSimpArgs false
set_option linter.unusedVariables false
namespace Go.Ix
open Go.Proofs
theorem Clo.refl{P:List Pq}{F:List Int}{K:List Bool}:Clo P F K K:=λx _ h0 h1=>by rw[h0]at h1;cases h1
def idA:Id:=(0,7,14)
def idK:Id:=(0,12,19)
structure SM (s p f v:AV) (n:Nat) (O:List Int) (K:List Bool) (m:Mem):Prop where
 b2:m.get (0,0,2)=some (.row [s,p] 0 false)
 b3:m.get (0,1,3)=some (.row [f] 0 false)
 b5:m.get (0,13,5)=some (.row [.sref idA 0 0 n 1 true] 0 false)
 b6:m.get (0,14,6)=some (.row [.sref idK 0 0 n 1 true] 0 false)
 b7:m.get (0,19,7)=some (.row [v] 0 false)
 b8:m.get (0,21,8)=some (.row [.clo xt [.ptr (0,14,6) 0 0,.ptr (0,0,2) 0 0,.ptr (0,19,7) 0 0,.ptr (0,13,5) 0 0,.ptr (0,1,3) 0 0,.ptr (0,21,8) 0 0]] 0 false)
 oA:Ow intE m idA O
 oK:Ow bE m idK K
 nx:1<=m.next
theorem SM.fr{s p f v:AV}{n:Nat}{O:List Int}{K:List Bool}{m m':Mem}(h:SM s p f v n O K m)(hn:1<=m'.next)(hg:∀j:Id,j.1=0->m'.get j=m.get j):SM s p f v n O K m':=
 ⟨by rw[hg _ rfl];exact h.b2,by rw[hg _ rfl];exact h.b3,by rw[hg _ rfl];exact h.b5,by rw[hg _ rfl];exact h.b6,by rw[hg _ rfl];exact h.b7,by rw[hg _ rfl];exact h.b8,h.oA.fr (hg _ rfl),h.oK.fr (hg _ rfl),hn⟩
def xz7:List AV:=[.ptr (0,14,6) 0 0,.ptr (0,0,2) 0 0,.ptr (0,19,7) 0 0,.ptr (0,13,5) 0 0,.ptr (0,1,3) 0 0,.ptr (0,21,8) 0 0]
def Fr1(m m':Mem):Prop:=∀j:Id,1<=j.1->j.1<m.next->m'.get j=m.get j
theorem c_spread(d:Nat){s p f v:AV}{l:List Scene}{P:List Pq}{F ph:List Int}(hs:Sl Scene.c s l)(hp:Sl Pq.c p P)(hf:Ints f ph)(hv:Ints v F)(hl:l.length<=60)(hP:∀p∈P,PqIn l.length p)(hF:For l.length P F)(hph:ph.length=P.length){φ:Int->Int}(hpot:Pot l.length P F (λi=>at0 ph i.toNat) φ){M:Nat}(hM:∀i∈F,(at0 ph i.toNat).natAbs<=M)(hMb:M<=10000000000):∀(k:Nat) (hh:FHs) (a:Int) (m:Mem) (O:List Int) (K:List Bool),SM s p f v l.length O K m->DS l.length φ O K->(0<=a/\a<l.length)->boA K a=false->at0 O a.toNat=φ a->Un l.length O K a->unk K<=k ->
 ∃m' O' K',xsi (d+3+k) hh xt (I a::xz7) m=some (.tup [],m')/\SM s p f v l.length O' K' m'/\DS l.length φ O' K'/\Un l.length O' K' a/\Sub l.length K K'/\Clo P F K K'/\boA K' a=true/\m.next<=m'.next/\Fr1 m m':=by
 have hFl:=hF.len hP
 intro k
 induction k with
 |zero=>
  intro hh a m O K hS hD ha hka _ _ hu
  have h1:=x150 (K:=K) (k:=a.toNat) (by rw[hD.lk];omega) hka
  omega
 |succ k ih=>
  intro hh a m O K hS hD ha hka hoa hun hu
  suffices main:∀Q:O2->Prop,(∀m' O' K',SM s p f v l.length O' K' m'->DS l.length φ O' K'->Un l.length O' K' a->Sub l.length K K'->Clo P F K K'->boA K' a=true->m.next<=m'.next->Fr1 m m'->Q (some (.tup [],m')))->Q (xsi (d+3+(k+1)) hh xt (I a::xz7) m)from
   main (λr=>∃m' O' K',r=some (.tup [],m')/\SM s p f v l.length O' K' m'/\DS l.length φ O' K'/\Un l.length O' K' a/\Sub l.length K K'/\Clo P F K K'/\boA K' a=true/\m.next<=m'.next/\Fr1 m m') λm' O' K' h1 h2 h3 h4 h5 h6 h7 h8=>⟨m',O',K',rfl,h1,h2,h3,h4,h5,h6,h7,h8⟩
  intro Q hQ
  rw[show d+3+(k+1)=(d+3+k)+1 by omega,xnd]
  unfold xz7 xev xab
  generalize hU:m.next=u
  have hu1:1<=u:=by rw[<-hU];exact hS.nx
  simp only[xxi,x121,x1h4,x1hn,one_I,x1hp,xsr]
  generalize hm1:Mem.new _ _ _=m1
  have g7:m1.get (u,0,7)=some (.row [I a] 0 false):=by rw[<-hm1];simp
  have hS1:SM s p f v l.length O K m1:=hS.fr (by rw[<-hm1];show 1<=u+1;omega) λj hj=>by
   rw[<-hm1,Mem.get_new,x1g6 (by rintro rfl;simp only at hj;omega)];rfl
  have hm1n:m1.next=u+1:=by rw[<-hm1];rfl
  have hm1f:Fr1 m m1:=λj h1 h2=>by rw[<-hm1,Mem.get_new,x1g6 (by rintro rfl;rw[hU]at h2;exact Nat.lt_irrefl _ h2)];rfl
  have ixK:sIx 1 (.sref idK 0 0 l.length 1 true) (I a)=some (.ptr idK 0 a.toNat):=xwr ha.1 ha.2
  obtain⟨st1,st2⟩:=hS1.oK.st1 (g:=B) (λ_=>rfl) (k:=a) ha.1 (by rw[hD.lk];exact ha.2) (x:=true) rfl rfl
  simp only[xsv,hS1.b6,g7,xt1,x1gd,xsr,x1g8,rd_f,xsn,ixK,st1]
  generalize hm2:Mem.set _ _ _=m2 at st2
  obtain⟨K1,hK1⟩:∃K1,K1=K.set a.toNat true:=⟨_,rfl⟩
  rw[<-hK1]at st2
  have hm2g:∀j:Id,j≠idK->m2.get j=m1.get j:=λj hj=>by rw[<-hm2,Mem.get_set,x1g6 hj]
  have hS2:SM s p f v l.length O K1 m2:=⟨by rw[hm2g _ (by simp[idK])];exact hS1.b2,by rw[hm2g _ (by simp[idK])];exact hS1.b3,by rw[hm2g _ (by simp[idK])];exact hS1.b5,by rw[hm2g _ (by simp[idK])];exact hS1.b6,by rw[hm2g _ (by simp[idK])];exact hS1.b7,by rw[hm2g _ (by simp[idK])];exact hS1.b8,
   hS1.oA.fr (hm2g _ (by simp[idK,idA])),st2,by rw[<-hm2];exact hS1.nx⟩
  have hm2n:m2.next=u+1:=by rw[<-hm2];exact hm1n
  have g7':m2.get (u,0,7)=some (.row [I a] 0 false):=by rw[hm2g _ (by unfold idK;simp only[ne_eq,x1g9,not_and];omega)];exact g7
  have hkb:∀w:Int,0<=w->boA K1 w=if w=a then true else boA K w:=λw hw=>by rw[hK1,xz6 ha.1 (by rw[hD.lk];exact ha.2) hw]
  have hu2:=x150 (K:=K) (k:=a.toNat) (by rw[hD.lk];omega) hka
  rw[<-hK1]at hu2
  have hD1:DS l.length φ O K1:=⟨hD.lo,by rw[hK1];simp[hD.lk],λw w0 w1 hw=>by
   rw[hkb w w0]at hw
   by_cases c:w=a
   .rw[c];exact hoa
   .rw[x1g6 c]at hw;exact hD.kn w w0 w1 hw⟩
  have hUn1:Un l.length O K1 a:=λw w0 w1 hne hw=>by
   rw[hkb w w0,x1g6 hne]at hw
   exact hun w w0 w1 hne hw
  have hsub1:Sub l.length K K1:=λw w0 w1 hw=>by
   rw[hkb w w0];split
   .rfl
   .exact hw
  have hfrom:=w_from (d+2+k) hs hp hv a m2
  rw[show d+2+k+1=d+3+k by omega]at hfrom
  simp[g7',hS2.b2,hS2.b7,hfrom]
  unfold xio
  simp only[sRng]
  generalize hH:(λ(args:List AV) (m:Mem)=>bif Nat.beq args.length 2&&true then xaa (xsi (d+3+k)) hh m.next (.ptr (0,14,6) 0 0) (.ptr (0,13,5) 0 0) (.ptr (0,1,3) 0 0) (.ptr (0,21,8) 0 0) (.ptr (u,0,7) 0 0) (args.getD 0 U) (args.getD 1 U) ⟨m.hp,m.next+1⟩ 0 else none)=H
  obtain⟨m3,hc,hI⟩:=c_from (d:=d+1+k) (hh:=((u,9,0),H)::hh) (id:=(u,9,0)) (h:=H) hs hp hv (by omega) hF.rng (by simp[xvj]) a (m0:=m2)
   (λpre m=>∃O' K',SM s p f v l.length O' K' m/\DS l.length φ O' K'/\Un l.length O' K' a/\Sub l.length K1 K'/\Clo P F K1 K'/\(∀x∈pre,InF F x/\(frS P x=a->boA K' (toS P x)=true))/\u+1<m.next/\(∀j:Id,1<=j.1->j.1<u+1->m.get j=m2.get j))
   (λpre m m' ⟨O',K',h1,h2,h3,h4,h5,h6,h7,h8⟩ hn hg=>⟨O',K',h1.fr (by omega) (λj hj=>hg j (by omega)),h2,h3,h4,h5,h6,by omega,λj j1 j2=>by rw[hg j (by omega)];exact h8 j j1 j2⟩)
   (λpre x m hx hfx ⟨O',K',h1,h2,h3,h4,h5,h6,h7,h8⟩=>by
    suffices step:∀Q2:Option Mem->Prop,(∀mm O2 K2,SM s p f v l.length O2 K2 mm->DS l.length φ O2 K2->Un l.length O2 K2 a->Sub l.length K1 K2->Clo P F K1 K2->(∀y∈pre++[x],InF F y/\(frS P y=a->boA K2 (toS P y)=true))->u+1<mm.next->(∀j:Id,1<=j.1->j.1<u+1->mm.get j=m2.get j)->Q2 (some mm))->Q2 (H [.agg [I x.p,I x.s],I (toS P x)] m)from
     step (λr=>∃mm,r=some mm/\∃O2 K2,SM s p f v l.length O2 K2 mm/\DS l.length φ O2 K2/\Un l.length O2 K2 a/\Sub l.length K1 K2/\Clo P F K1 K2/\(∀y∈pre++[x],InF F y/\(frS P y=a->boA K2 (toS P y)=true))/\u+1<mm.next/\(∀j:Id,1<=j.1->j.1<u+1->mm.get j=m2.get j)) λmm O2 K2 a1 a2 a3 a4 a5 a6 a7 a8=>⟨mm,rfl,O2,K2,a1,a2,a3,a4,a5,a6,a7,a8⟩
    intro Q2 hQ2
    obtain⟨-,t0,t1⟩:=xvg hP hF.rng hx
    have hpx:=hF.rng x.p hx.1
    rw[<-hH]
    simp only[x1gq,x1i6,x1gl,Nat.reduceAdd,x1gd,x1if,xsr,x1kq,List.getD_cons_succ]
    unfold xaa xin
    generalize hU3:m.next=u3 at *
    simp only[xws]
    simp
    generalize hm4:Mem.set _ _ _=m4
    have hm4g:∀j:Id,¬j.1=u3->m4.get j=m.get j:=λj hj=>by
     rw[<-hm4,Mem.get_set,x1g6 (by rintro rfl;exact hj rfl),Mem.get_new,x1g6 (by rintro rfl;exact hj rfl)];rfl
    have q8:m4.get (u3,0,8)=some (.row [I x.p,I x.s] 0 false):=by rw[<-hm4];simp
    have hm4n:m4.next=u3+1:=by rw[<-hm4];rfl
    have hS4:SM s p f v l.length O' K' m4:=h1.fr (by omega) λj hj=>hm4g j (by omega)
    have q7:m4.get (u,0,7)=some (.row [I a] 0 false):=by rw[hm4g _ (by simp only;omega),h8 _ (by simp only;omega) (by simp only;omega)];exact g7'
    have ixT:sIx 1 (.sref idK 0 0 l.length 1 true) (I (toS P x))=some (.ptr idK 0 (toS P x).toNat):=xwr t0 t1
    have ldT:=hS4.oK.ldB (k:=toS P x) t0 (by rw[h2.lk];exact t1)
    have ldT':sLd false 1 (.ptr idK 0 (toS P x).toNat) m4=some (B (boA K' (toS P x))):=ldT
    have hb:∀i,({hp:=m.hp,next:=u3+1}:Mem).get i=m.get i:=λ_=>rfl
    have q7m:m.get (u,0,7)=some (.row [I a] 0 false):=by rw[h8 _ (by simp only;omega) (by simp only;omega)];exact g7'
    have ixA:sIx 1 (.sref idA 0 0 l.length 1 true) (I a)=some (.ptr idA 0 a.toNat):=xwr ha.1 ha.2
    have ixA2:sIx 1 (.sref idA 0 0 l.length 1 true) (I (toS P x))=some (.ptr idA 0 (toS P x).toNat):=xwr t0 t1
    have ldA:=hS4.oA.ldI (k:=a) ha.1 (by rw[h2.lo];exact ha.2)
    have hKa:boA K' a=true:=h4 a ha.1 ha.2 (by rw[hkb a ha.1,x1g7 rfl])
    have hOa:at0 O' a.toNat=φ a:=h2.kn a ha.1 ha.2 hKa
    rw[hOa]at ldA
    have ixP:=hf.ixI xt2 (k:=x.p) hpx.1 (by rw[hph];exact hpx.2)
    have ldP:=xte (m:=m4) (l:=ph) (k:=x.p.toNat) (by omega)
    cases hkt:boA K' (toS P x)with
    |true=>
     rw[hkt]at ldT'
     simp[hb,h1.b6,ixT,ldT']
     exact hQ2 m4 O' K' hS4 h2 h3 h4 h5 (λy hy=>by
      rcases x1h2.mp hy with hy|hy
      .exact h6 y hy
      .simp at hy;subst hy;exact⟨hx,λ_=>hkt⟩) (by omega) (λj j1 j2=>by rw[hm4g j (by omega)];exact h8 j j1 j2)
    |false=>
     rw[hkt]at ldT'
     have hstep:=hpot.st.step hx
     rw[hfx]at hstep
     have ba:=Pot.abs hP hF hpot hM (v:=a.toNat) (by omega)
     have bt:=Pot.abs hP hF hpot hM (v:=(toS P x).toNat) (by omega)
     rw[x1hg ha.1]at ba
     rw[x1hg t0]at bt
     have hnM:l.length*M<=60*10000000000:=x1j4 hl hMb
     obtain⟨st1,st2⟩:=hS4.oA.st1 (g:=I) (λ_=>rfl) (k:=toS P x) t0 (by rw[h2.lo];exact t1) (x:=φ (toS P x)) rfl rfl
     simp[-xtp,hb,h1.b6,h1.b5,h1.b3,q7m,ixT,ldT',ixA,ixA2,ldA,ixP,ldP]
     have hw1:w64 (φ (toS P x)-φ a)=φ (toS P x)-φ a:=xso (by omega) (by omega)
     rw[hstep,hw1,xso (by omega) (by omega),show φ a+(φ (toS P x)-φ a)=φ (toS P x) by omega]
     simp only[st1]
     generalize hm5:Mem.set m4 _ _=m5 at st2 ⊢
     have hm5g:∀j:Id,j≠idA->m5.get j=m4.get j:=λj hj=>by rw[<-hm5,Mem.get_set,x1g6 hj]
     have hm5n:m5.next=u3+1:=by rw[<-hm5];exact hm4n
     have hS5:SM s p f v l.length (O'.set (toS P x).toNat (φ (toS P x))) K' m5:=⟨by rw[hm5g _ (by simp[idA])];exact hS4.b2,by rw[hm5g _ (by simp[idA])];exact hS4.b3,by rw[hm5g _ (by simp[idA])];exact hS4.b5,by rw[hm5g _ (by simp[idA])];exact hS4.b6,by rw[hm5g _ (by simp[idA])];exact hS4.b7,by rw[hm5g _ (by simp[idA])];exact hS4.b8,st2,hS4.oK.fr (hm5g _ (by simp[idK,idA])),by omega⟩
     have hog:∀w:Int,0<=w->at0 (O'.set (toS P x).toNat (φ (toS P x))) w.toNat=if w=toS P x then φ (toS P x)else at0 O' w.toNat:=λw hw=>at0_setI t0 (by rw[h2.lo];exact t1) hw
     have hD5:DS l.length φ (O'.set (toS P x).toNat (φ (toS P x))) K':=⟨by simp[h2.lo],h2.lk,λw w0 w1 hw=>by
      rw[hog w w0];split
      .rename_i e;rw[e]
      .exact h2.kn w w0 w1 hw⟩
     have hU5:Un l.length (O'.set (toS P x).toNat (φ (toS P x))) K' (toS P x):=λw w0 w1 hne hw=>by
      rw[hog w w0,x1g6 hne]
      refine h3 w w0 w1 ?_ hw
      rintro rfl
      rw[hKa]at hw;cases hw
     have hsu:=h4.unk (by rw[hK1];simp[hD.lk]) h2.lk
     obtain⟨m6,O6,K6,e1,e2,e3,e4,e5,e6,e7,e8,e9⟩:=ih hh (toS P x) m5 _ K' hS5 hD5 ⟨t0,t1⟩ hkt (by rw[hog _ t0,x1g7 rfl]) hU5 (by omega)
     have hinv:xu2 (xsi (d+3+k)) hh 2 (.clo xt xz7) [I (toS P x)] m5=some (.tup [],m6):=e1
     unfold xz7 at hinv
     simp[hS5.b8,hinv]
     refine hQ2 m6 O6 K6 e2 e3 (λw w0 w1 hne hw=>?_) (λw w0 w1 hw=>e5 w w0 w1 (h4 w w0 w1 hw)) (h5.trans hP hF.rng e6 e5) (λy hy=>?_) (by omega) (λj j1 j2=>?_)
     .by_cases c:w=toS P x
      .rw[c,e7]at hw;cases hw
      .exact e4 w w0 w1 c hw
     .rcases x1h2.mp hy with hy|hy
      .obtain⟨y1,y2⟩:=h6 y hy
       exact⟨y1,λhfy=>e5 _ (xvg hP hF.rng y1).2.1 (xvg hP hF.rng y1).2.2 (y2 hfy)⟩
      .simp at hy;subst hy;exact⟨hx,λ_=>e7⟩
     .rw[e9 j j1 (by omega),hm5g j (by unfold idA;rintro rfl;simp at j1),hm4g j (by omega)]
      exact h8 j j1 j2)
   (λpre x m hx hfx ⟨O',K',h1,h2,h3,h4,h5,h6,h7,h8⟩=>⟨O',K',h1,h2,h3,h4,h5,λy hy=>by
    rcases x1h2.mp hy with hy|hy
    .exact h6 y hy
    .simp at hy;subst hy;exact⟨hx,λhfy=>absurd hfy hfx⟩,h7,h8⟩)
   (λm hn hg=>⟨O,K1,hS2.fr (by omega) (λj _=>hg j),hD1,hUn1,λ_ _ _ h=>h,Clo.refl,(λx hx=>by cases hx),by omega,λj _ _=>hg j⟩)
  obtain⟨O',K',h1,h2,h3,h4,h5,h6,h7,h8⟩:=hI
  rw[show d+1+k+2=d+3+k by omega]at hc
  simp only[hc,xsn]
  refine hQ m3 O' K' h1 h2 h3 (λw w0 w1 hw=>h4 w w0 w1 (hsub1 w w0 w1 hw)) (λx hx x0 x1=>?_) (h4 a ha.1 ha.2 (by rw[hkb a ha.1,x1g7 rfl])) (by omega) (λj j1 j2=>?_)
  .by_cases c:frS P x=a
   .exact(h6 x (mem_stepsOf.mpr hx)).2 c
   .exact h5 x hx (by rw[hkb _ (xvg hP hF.rng hx).1.1,x1g6 c];exact x0) x1
  .rw[h8 j j1 (by omega),hm2g j (by unfold idK;rintro rfl;simp at j1),hm1f j j1 j2]
def phI(ph:List Int)(i:Int):Int:=at0 ph i.toNat
theorem z_func1:∃c,xh8=[c]:=by
 have:xh8.length=1:=by kernel_rfl
 exact List.length_eq_one_iff.mp this
theorem z_sli:xw=[nilS]:=by kernel_rfl
theorem z_slb:xln=[nilS]:=by kernel_rfl
theorem a_sums(d:Nat){s p f:AV}{l:List Scene}{P:List Pq}{ph:List Int}(hs:Sl Scene.c s l)(hp:Sl Pq.c p P)(hf:Ints f ph)(hR:Right7 l P)(hl:l.length<=8)(hPl:P.length<=14)(hph:ph.length=P.length){M:Nat}(hM:∀k,k<ph.length->(at0 ph k).natAbs<=M)(hMb:M<=10000000000) :
 RetF (λv=>Ints v (phiL l.length (potM l.length P (xu0 (fW l P) l.length P) (phI ph)))) (xsi (d+12) [] x1h [.agg [s,p],f] mem0):=by
 have hP:=hR.pr
 obtain⟨F,hFe⟩:∃F,F=xu0 (fW l P) l.length P:=⟨_,rfl⟩
 have hF:For l.length P F:=by rw[hFe];exact x102 hP _
 have hpot:=x14w hP (phI ph) hF
 rw[<-hFe]
 generalize potM l.length P F (phI ph)=φ at *
 rw[xmj]
 unfold xe2 x8q
 obtain⟨zc,hzc⟩:=z_func1
 simp[mem0,hs.one,hp.one,hf.one,hf.cells,hs.len xtt,mkSl_i (n:=l.length) (by omega),mkSl_b (n:=l.length) (by omega),z_sli,z_slb,tR,tS,xsm,disj]
 generalize hm1:Mem.set _ (0,14,6) _=m1
 have i2:m1.get (0,0,2)=some (.row [s,p] 0 false):=by rw[<-hm1];simp
 have i3:m1.get (0,1,3)=some (.row [f] 0 false):=by rw[<-hm1];simp
 have i5:m1.get (0,13,5)=some (.row [.sref idA 0 0 l.length 1 true] 0 false):=by rw[<-hm1];simp[idA]
 have i6:m1.get (0,14,6)=some (.row [.sref idK 0 0 l.length 1 true] 0 false):=by rw[<-hm1];simp[idK]
 have iA:Ow intE m1 idA (List.replicate l.length 0):=by unfold Ow;rw[<-hm1];simp[idA]
 have iK:Ow bE m1 idK (List.replicate l.length false):=by unfold Ow;rw[<-hm1];simp[idK]
 have in1:m1.next=1:=by rw[<-hm1];rfl
 obtain⟨v,hv,hw⟩:=x1c8 (d+4) hs hp hR hl hPl m1
 rw[<-hFe]at hv
 have hcl:∀(g:FuncId) (c:List AV),(AV.clo g c).cells=[AV.clo g c]:=λ_ _=>rfl
 have hco:∀(g:FuncId) (c:List AV),(AV.clo g c).one=true:=λ_ _=>rfl
 simp[hw,hv.cells,hv.one,hzc,hcl,hco]
 generalize hm2:Mem.set _ (0,21,8) _=m2
 have hmg:∀j:Id,j≠(0,19,7)->j≠(0,21,8)->m2.get j=m1.get j:=λj h1 h2=>by rw[<-hm2,Mem.get_set,x1g6 h2,Mem.get_new,x1g6 h2,Mem.get_set,x1g6 h1,Mem.get_new,x1g6 h1]
 have hS:SM s p f v l.length (List.replicate l.length 0) (List.replicate l.length false) m2:=⟨by rw[hmg _ (by simp) (by simp)];exact i2,by rw[hmg _ (by simp) (by simp)];exact i3,by rw[hmg _ (by simp) (by simp)];exact i5,by rw[hmg _ (by simp) (by simp)];exact i6,by rw[<-hm2];simp,by rw[<-hm2];simp,
  iA.fr (hmg _ (by simp[idA]) (by simp[idA])),iK.fr (hmg _ (by simp[idK]) (by simp[idK])),by rw[<-hm2];show 1<=m1.next;omega⟩
 have hrep:∀v:Int,boA (List.replicate l.length false) v=false:=λv=>by
  unfold boA
  rw[x1gk,x1jw]
  split<;>rfl
 have hrep0:∀v:Nat,at0 (List.replicate l.length 0) v=0:=λv=>by
  unfold at0
  rw[x1gk,x1jw]
  split<;>rfl
 unfold xh7
 simp[hS.b5]
 rw[show sLen Tryz.prog x4 (.sref idA 0 0 l.length 1 true)=some (I l.length)from rfl]
 simp only[xsn]
 refine xtd (N:=l.length) (σ:=Unit) (λn k _ m fc=>x5f (xsi (d+11)) [] 0 n (.ptr (0,13,5) 0 0) (.ptr (0,14,6) 0 0) (.ptr (0,21,8) 0 0) (I l.length) (I k) m fc)
  (λk _ m=>∃O K,SM s p f v l.length O K m/\DS l.length φ O K/\Un l.length O K (-1)/\Cls P F K/\∀j:Nat,j<k->boA K j=true) _ ?_ ?_ NN 0 () m2 _ (by omega) (by rw[xsu];omega)
  ⟨_,_,hS,⟨by simp,by simp,λv _ _ h=>by rw[hrep]at h;cases h⟩,λv _ _ _ _=>hrep0 _,(show Cls P F _ from λx _ h=>by rw[hrep]at h;cases h),λj h=>by omega⟩
 .rintro n k-m fc hk ⟨O,K,hS,hD,hU,hC,hB⟩ next
  have hk':(k:Int)<(l.length:Int):=by omega
  have ixK:sIx 1 (.sref idK 0 0 l.length 1 true) (I (k:Int))=some (.ptr idK 0 (k:Int).toNat):=xwr (by omega) hk'
  have ldK:=hS.oK.ldB (k:=(k:Int)) (by omega) (by rw[hD.lk];exact hk')
  have ldK':sLd false 1 (.ptr idK 0 (k:Int).toNat) m=some (B (boA K k)):=ldK
  simp only[x5f]
  unfold x8p xh6
  simp only[xta,hk',x1gm,xt9,xsn,xsv,hS.b6,xt1,x1gd,xsr,x1g8,rd_f,ixK]
  rw[<-xsv,ldK']
  cases hkk:boA K k with
  |true=>
   unfold x6u
   simp(disch:=omega) [xso]
   refine next () m _ ⟨O,K,hS,hD,hU,hC,λj hj=>?_⟩
   by_cases c:j=k
   .rw[c];exact hkk
   .exact hB j (by omega)
  |false=>
   have hz:=hpot.z k hk (root_of hP hF hC hk hB hkk)
   obtain⟨m3,O3,K3,e1,e2,e3,e4,e5,e6,e7,e8,e9⟩:=c_spread d hs hp hf hv hR.ll hP hF hph hpot (M:=M) (λi hi=>hM _ (by have:=hF.rng i hi;omega)) hMb 8 [] (k:Int) m O K hS hD ⟨by omega,hk'⟩ hkk (by rw[hU _ (by omega) hk' (by omega) hkk,hz]) (λw w0 w1 hne hw=>hU w w0 w1 (by omega) hw) (by
    have h1:unk K<=K.length:=x1it _ _
    rw[hD.lk]at h1
    omega)
   have hinv:xu2 (xsi (d+11)) [] 2 (.clo xt xz7) [I (k:Int)] m=some (.tup [],m3):=e1
   unfold xz7 at hinv
   simp only[sNot_B,x1ht,xsn,xt9,xsv,hS.b8,xt1,x1gd,xsr,x1g8,rd_f,hinv]
   unfold x6u
   simp(disch:=omega) [xso]
   refine next () m3 _ ⟨O3,K3,e2,e3,λw w0 w1 hne hw=>?_,hC.grow hP hF.rng e6 e5,λj hj=>?_⟩
   .by_cases c:w=(k:Int)
    .rw[c,e7]at hw;cases hw
    .exact e4 w w0 w1 c hw
   .by_cases c:j=k
    .rw[c];exact e7
    .exact e5 _ (by omega) (by omega) (hB j (by omega))
 .rintro n-m fc ⟨O,K,hS,hD,hU,hC,hB⟩
  have:=hD.all hB
  subst this
  simp only[x5f]
  unfold x8p xh5
  simp[hS.b5]
  have hoA:=hS.oA
  unfold Ow at hoA
  have h1:=xxm (k:=4) xt2 xvc (x:=true) (l:=phiL l.length φ) hoA
  have h2:Ints (.slit ((phiL l.length φ).flatMap intE) (phiL l.length φ).length false) (phiL l.length φ):=Sl.lit _ false
  rw[xuv]at h1 h2
  exact RetF.mk h1 h2
theorem w_sums(d:Nat){s p f:AV}{l:List Scene}{P:List Pq}{ph:List Int}(hs:Sl Scene.c s l)(hp:Sl Pq.c p P)(hf:Ints f ph)(hR:Right7 l P)(hl:l.length<=8)(hPl:P.length<=14)(hph:ph.length=P.length){M:Nat}(hM:∀k,k<ph.length->(at0 ph k).natAbs<=M)(hMb:M<=10000000000)(m:Mem) :
 ∃v,Ints v (phiL l.length (potM l.length P (xu0 (fW l P) l.length P) (phI ph)))/\xsl (xsi (d+12)) x1h [.agg [s,p],f] m=some (v,m):=
 xu6 (by simp[hs.still1,hp.still1,hf.still]) (a_sums d hs hp hf hR hl hPl hph hM hMb) m
noncomputable def potL(l:List Scene)(P:List Pq)(ph:List Int):Int->Int:=potM l.length P (xu0 (fW l P) l.length P) (phI ph)
noncomputable def xsy(l:List Scene)(P:List Pq)(ph:List Int):List Int:=(List.range P.length).map λ(k:Nat)=>at0 ph k-potL l P ph (prAt P k).b+potL l P ph (prAt P k).a
theorem xx6(l:List Scene)(P:List Pq)(ph:List Int):(xsy l P ph).length=P.length:=by simp[xsy]
theorem x118{l:List Scene}{P:List Pq}{ph:List Int}{k:Nat}(h:k<P.length):at0 (xsy l P ph) k=at0 ph k-potL l P ph (prAt P k).b+potL l P ph (prAt P k).a:=by
 rw[xt5 (by rw[xx6];exact h)]
 simp[xsy]
theorem x18q{l:List Scene}{P:List Pq}{ph:List Int}{k:Nat}(h:k<P.length):(xsy l P ph).take (k+1)=(xsy l P ph).take k++[at0 ph k-potL l P ph (prAt P k).b+potL l P ph (prAt P k).a]:=by
 rw[x1gz (by rw[xx6];exact h),<-xt5,x118 h]
theorem xyf{l:List Scene}{P:List Pq}{ph:List Int}(hR:Right7 l P)(hph:ph.length=P.length){M:Nat}(hM:∀k,k<ph.length->(at0 ph k).natAbs<=M){v:Int}(h0:0<=v)(h1:v<l.length):(potL l P ph v).natAbs<=l.length*M:=by
 have hF:=x102 (P:=P) (n:=l.length) hR.pr (fW l P)
 have:=Pot.abs hR.pr hF (x14w hR.pr (phI ph) hF) (M:=M) (λi hi=>hM _ (by have:=hF.rng i hi;omega)) (v:=v.toNat) (by omega)
 rw[x1hg h0]at this
 exact this
theorem xz8{P:List Pq}{k:Nat}(h:k<P.length):prAt P (k:Int)=P[k]:=xxq (by simpa using h)
theorem a_misses(d:Nat){s p f:AV}{l:List Scene}{P:List Pq}{ph:List Int}(hs:Sl Scene.c s l)(hp:Sl Pq.c p P)(hf:Ints f ph)(hR:Right7 l P)(hl:l.length<=8)(hPl:P.length<=14)(hph:ph.length=P.length){M:Nat}(hM:∀k,k<ph.length->(at0 ph k).natAbs<=M)(hMb:M<=10000000000) :
 RetF (λv=>Ints v (xsy l P ph)) (xsi (d+13) [] x1g [.agg [s,p],f] mem0):=by
 rw[xmi]
 unfold xe1 x8o
 have hw:=w_sums d hs hp hf hR hl hPl hph hM hMb ((⟨[],1⟩:Mem).new (0,0,2) (.row [s,p] 0 false))
 obtain⟨v,hv,hw⟩:=hw
 have hnM:l.length*M<=8*10000000000:=x1j4 hl hMb
 simp[mem0,hs.one,hp.one,hw]
 unfold xh4
 simp[hp.len xu7]
 refine xtd (N:=P.length) (λn k a m fc=>x5e (xsi (d+12)) [] 0 n f v a p (I P.length) (I k) m fc)
  (λk a m=>Gr 1 intE 0 39 m a ((xsy l P ph).take k)) _ ?_ ?_ NN 0 nilS _ _ (by omega) (by rw[xsu];omega) (by simpa using Gr.nil)
 .rintro n k a m fc hk hG next
  have hk':(k:Int)<(P.length:Int):=by omega
  have ip:=hp.ix Pq.len hk
  have lp:=λm=>xtz (m:=m) (enc:=Pq.c) Pq.len (by omega) hk
  have ixf:=hf.ix xt2 (show k<ph.length by omega)
  have ldf:=λm=>xte (m:=m) (show k<ph.length by omega)
  have hsn:=x18q (l:=l) (P:=P) (ph:=ph) hk
  obtain⟨q0,q1,q2⟩:=hR.pr P[k] (x1go hk)
  rw[xz8 hk]at hsn
  generalize P[k]=q at *
  have ia:=hv.ixI xt2 (k:=q.a) q0 (by rw[xuv];omega)
  have ib:=hv.ixI xt2 (k:=q.b) (by omega) (by rw[xuv];omega)
  have la:=λm=>xte (m:=m) (l:=phiL l.length (potL l P ph)) (k:=q.a.toNat) (by rw[xuv];omega)
  have lb:=λm=>xte (m:=m) (l:=phiL l.length (potL l P ph)) (k:=q.b.toNat) (by rw[xuv];omega)
  rw[x106 q0 (by omega)]at la
  rw[x106 (by omega) q2]at lb
  have ba:=xyf hR hph hM (v:=q.a) q0 (by omega)
  have bb:=xyf hR hph hM (v:=q.b) (by omega) q2
  have bp:=hM k (by omega)
  unfold potL at *
  simp only[Pq.c]at lp
  simp only[x5e]
  unfold x8n
  simp[hk',ip,lp,xv3]
  generalize hm1:Mem.set _ _ _=m1
  have g8:m1.get (0,fc+4,8)=some (.row [I q.a,I q.b] 0 false):=by rw[<-hm1];simp
  have hG1:Gr 1 intE 0 39 m1 a ((xsy l P ph).take k):=hG.frame λs=>by rw[<-hm1];simp
  obtain⟨a2,m2,e1,e2,e3,-⟩:=hG1.app (s0:=fc+25) (bytes:=8) xt2 (by omega) (by unfold xt6;simp[xx6];omega) (at0 ph k-potM l.length P (xu0 (fW l P) l.length P) (phI ph) q.b+potM l.length P (xu0 (fW l P) l.length P) (phI ph) q.a)
  simp[g8,ixf,ldf,ia,ib,la,lb,xu3]
  have hw1:w64 (at0 ph k-potM l.length P (xu0 (fW l P) l.length P) (phI ph) q.b)=at0 ph k-potM l.length P (xu0 (fW l P) l.length P) (phI ph) q.b:=xso (by omega) (by omega)
  rw[hw1,xso (by omega) (by omega),xso (by omega) (by omega)]
  rw[show ∀x:Int,elems m1.get 1 (.slit [I x] 1 true)=some (intE x,1)from λ_=>rfl,e1]
  exact next a2 m2 _ (by rw[hsn];exact e2)
 .rintro n a m fc hG
  rw[x1gg (by rw[xx6];exact x1ga _)]at hG
  simp only[x5e]
  unfold x8n xh3
  simp
  obtain⟨a',h1,h2⟩:=hG.frzk (k:=4) xt2 xvc
  exact RetF.mk h2 h1
theorem x18r(d:Nat){s p f:AV}{l:List Scene}{P:List Pq}{ph:List Int}(hs:Sl Scene.c s l)(hp:Sl Pq.c p P)(hf:Ints f ph)(hR:Right7 l P)(hl:l.length<=8)(hPl:P.length<=14)(hph:ph.length=P.length){M:Nat}(hM:∀k,k<ph.length->(at0 ph k).natAbs<=M)(hMb:M<=10000000000)(m:Mem) :
 ∃v,Ints v (xsy l P ph)/\xsl (xsi (d+13)) x1g [.agg [s,p],f] m=some (v,m):=
 xu6 (by simp[hs.still1,hp.still1,hf.still]) (a_misses d hs hp hf hR hl hPl hph hM hMb) m
theorem x18s(ph:Int->Int){w:List Sp}{k:Nat}(hk:k<w.length):sumW ph (w.take (k+1))=sumW ph (w.take k)+w[k].s*ph w[k].p:=by
 rw[x1gz hk,x18j]
 simp[sumW]
def StOK7(N:Nat)(w:List Sp):Prop:=∀x∈w,(0<=x.p/\x.p<N)/\(x.s=1\/x.s=-1)
theorem StOK7.abs{ph:List Int}{M:Nat}(hM:∀k,k<ph.length->(at0 ph k).natAbs<=M):∀{w:List Sp},StOK7 ph.length w->(sumW (phI ph) w).natAbs<=w.length*M
 |[],_=>by simp[sumW]
 |x::r,h=>by
  have ih:=StOK7.abs hM (w:=r) λy hy=>h y (x1ge _ hy)
  obtain⟨h1,h2⟩:=h x (x1gf ..)
  have h3:=hM x.p.toNat (by omega)
  have h4:(x.s*phI ph x.p).natAbs=(at0 ph x.p.toNat).natAbs:=by
   unfold phI
   rcases h2 with e|e<;>rw[e]<;>simp
  rw[sumW,x1gq,x1hb]
  omega
theorem w_rSum(d:Nat){f c:AV}{ph:List Int}{w:List Sp}(hf:Ints f ph)(hc:Sl Sp.c c w)(hw:StOK7 ph.length w)(hwl:w.length<=1000){M:Nat}(hM:∀k,k<ph.length->(at0 ph k).natAbs<=M)(hMb:M<=10000000000)(m:Mem) :
 xsl (xsi (d+1)) x46 [f,c] m=some (I (sumW (phI ph) w),m):=by
 refine xua (by simp[hf.still,hc.still]) ?_ m
 rw[xmu]
 unfold xed x9c xhu
 refine xtd (N:=w.length) (σ:=Unit) (λn k _ m fc=>x5m (xsi d) [] 0 n f c (I (sumW (phI ph) (w.take k))) (I k) m fc) (λ_ _ _=>True) _ ?_ ?_ NN 0 () _ _ (by omega) (by rw[xsu];omega) trivial
 .rintro n k-m fc hk-next
  have hk':(k:Int)<(w.length:Int):=by omega
  have ix:=hc.ix Sp.len hk
  have l0:=λm=>xy8 (m:=m) (enc:=Sp.c) hk 0 rfl
  have l1:=λm=>xy8 (m:=m) (enc:=Sp.c) hk 1 rfl
  simp only[x1g8]at l0
  simp only[List.drop_one]at l1
  have hsn:=x18s (phI ph) hk
  obtain⟨h1,h2⟩:=hw w[k] (x1go hk)
  have ha:(sumW (phI ph) (w.take k)).natAbs<=(w.take k).length*M:=StOK7.abs hM λy hy=>hw y (x1j3 hy)
  have hb:(w.take k).length*M<=1000*10000000000:=x1j4 (by simp;omega) hMb
  generalize w[k]=x at *
  have ip:=hf.ixI xt2 h1.1 h1.2
  have lp:=λm=>xte (m:=m) (show x.p.toNat<ph.length by omega)
  have h3:=hM x.p.toNat (by omega)
  have h4:(x.s*at0 ph x.p.toNat).natAbs=(at0 ph x.p.toNat).natAbs:=by rcases h2 with e|e<;>rw[e]<;>simp
  simp only[x5m]
  unfold x9b
  simp[hc.len x105,hk',ix,l0,l1,ip,lp]
  have hw1:w64 (x.s*at0 ph x.p.toNat)=x.s*at0 ph x.p.toNat:=xso (by omega) (by omega)
  rw[hw1,xso (by omega) (by omega),xso (by omega) (by omega)]
  have:=next () m (fc+24) trivial
  rw[hsn]at this
  exact this
 .rintro n-m fc -
  simp only[x5m]
  unfold x9b xht
  simp[hc.len x105]
  exact RetF.st rfl rfl
def allM(N:Nat)(but:Int):List Int:=(freshM N).filter λi=>!decide (i=but)
theorem all_1(N:Nat):allM N (-1)=freshM N:=by
 unfold allM
 rw[x1k5]
 intro x hx
 have:=fresh_mem.mp hx
 simp;omega
theorem w_all(d:Nat){s p:AV}{P:List Pq}(hs:s.one=true/\still1 s=true)(hp:Sl Pq.c p P)(hpl:P.length<=1000)(but:Int)(m:Mem):∃a,Ints a (allM P.length but)/\xsl (xsi (d+1)) x45 [.agg [s,p],I but] m=some (a,m):=by
 refine xu6 (by simp[hs.2,hp.still1]) ?_ m
 rw[xmt]
 unfold xec x9a xhs
 simp[mem0,hs.1,hp.one]
 refine xtd (N:=P.length) (λn k o m fc=>x5l (xsi d) [] 0 n (I but) (.ptr (0,0,2) 0 0) o (I k) m fc)
  (λk o m=>m.get (0,0,2)=some (.row [s,p] 0 false)/\Gr 1 intE 0 20 m o (((freshM P.length).take k).filter λi=>!decide (i=but))) _ ?_ ?_ NN 0 nilS _ _ (by omega) (by rw[xsu];omega) ⟨by simp,by simpa using Gr.nil⟩
 .rintro n k o m fc hk ⟨hg,hG⟩ next
  have hk':(k:Int)<(P.length:Int):=by omega
  have hsn:((freshM P.length).take (k+1)).filter (λi=>!decide (i=but))=((freshM P.length).take k).filter (λi=>!decide (i=but))++(if(k:Int)=but then[]else[(k:Int)]):=by
   rw[<-xxp hk,x1iq]
   congr 1
   by_cases c:(k:Int)=but<;>simp[x1ja,c]
  have hfl:(((freshM P.length).take k).filter λi=>!decide (i=but)).length<=P.length:=by
   have h1:=x1it (λi:Int=>!decide (i=but)) ((freshM P.length).take k)
   have h2:((freshM P.length).take k).length<=P.length:=by simp[freshM];omega
   omega
  simp only[x5l]
  unfold x99 xhr
  by_cases c:(k:Int)=but
  .rw[x1g7 c,x1hc]at hsn
   obtain rfl:but=(k:Int):=c.symm
   simp[hg,hp.len xu7,hk]
   unfold x6w
   simp(disch:=omega) [xso]
   exact next o m _ ⟨hg,by rw[hsn];exact hG⟩
  .rw[x1g6 c]at hsn
   obtain⟨o2,m2,e1,e2,e3,e4⟩:=hG.app (s0:=fc+5+6) (bytes:=8) xt2 (by omega) (by unfold xt6;omega) (k:Int)
   simp[hg,hp.len xu7,hk',c,xu3]
   rw[show ∀x:Int,elems m.get 1 (.slit [I x] 1 true)=some (intE x,1)from λ_=>rfl,e1]
   unfold x6w
   simp(disch:=omega) [xso]
   exact next o2 m2 _ ⟨by rw[e4 _ (by simp)];exact hg,by rw[hsn];exact e2⟩
 .rintro n o m fc ⟨hg,hG⟩
  rw[x1gg (by simp[freshM])]at hG
  simp only[x5l]
  unfold x99 xhq
  simp[hg,hp.len xu7]
  obtain⟨a',h1,h2⟩:=hG.frzk (k:=4) xt2 xvc
  exact RetF.mk h2 h1
theorem all_rng{l:List Scene}{P:List Pq}(hR:Right7 l P)(but:Int):Rng l.length P (allM P.length but):=λi hi=>by
 have:=fresh_mem.mp (x1h1.mp hi).1
 exact⟨this,hR.at this⟩
theorem uni_all{n:Nat}{P:List Pq}:uniM n P (allM P.length (-1))=joinsM (freshM n) P:=by
 unfold uniM
 rw[all_1,prs_fresh]
theorem phi_snoc(n:Nat)(φ:Int->Int){k:Nat}(hk:k<n):(phiL n φ).take (k+1)=(phiL n φ).take k++[φ k]:=by
 rw[x1gz (by rw[xuv];exact hk)]
 simp[phiL]
theorem x18t{l:List Scene}{P:List Pq}(hR:Right7 l P){ph:List Int}{k:Nat}(hk:k<l.length):∃w,Wk P w (at0 (joinsM (freshM l.length) P) k) k/\AllF (xu0 (fW l P) l.length P) w/\NB P w/\sumW (phI ph) w=potL l P ph k:=by
 have hF:=x102 (P:=P) (n:=l.length) hR.pr (fW l P)
 have hT:=x18f (P:=P) (n:=l.length) hR.pr (fW l P)
 have hL:=(Lab.fresh l.length).joins hR.pr
 obtain⟨l0,l1,l2⟩:=hL.ok k hk
 have hu:=hT.uni hR.pr
 obtain⟨w,hw,hwF⟩:=x12f hR.pr hF.rng (v:=(at0 (joinsM (freshM l.length) P) k).toNat) (w:=k) (by omega) hk (by rw[hu];unfold Sm;exact l2)
 obtain⟨w2,hw2,hwF2,hN⟩:=nb_of hw hwF
 rw[x1hg l0]at hw2
 have hpot:=x14w hR.pr (phI ph) hF
 refine⟨w2,hw2,hwF2,hN,?_⟩
 have:=hpot.st.walk hw2 hwF2
 rw[this]
 have hz:=hpot.z (at0 (joinsM (freshM l.length) P) k).toNat (by omega) (by rw[hu,l2];omega)
 rw[x1hg l0]at hz
 unfold potL
 omega
theorem a_rAlong(d:Nat){s p f g v:AV}{l:List Scene}{P:List Pq}{ph:List Int}(hs:Sl Scene.c s l)(hp:Sl Pq.c p P)(hf:Ints f ph)(hg1:g.one=true/\still1 g=true/\clean1 g=true)(hv:Ints v (xu0 (fW l P) l.length P))(hR:Right7 l P)(hph:ph.length=P.length){M:Nat}(hM:∀k,k<ph.length->(at0 ph k).natAbs<=M)(hMb:M<=10000000000) :
 RetF (λa=>Ints a (phiL l.length (potL l P ph))) (xsi (d+3) [] x28 [.agg [s,p,f,g],v] mem0):=by
 have hll:=hR.ll
 have hF:=x102 (P:=P) (n:=l.length) hR.pr (fW l P)
 rw[xm8]
 unfold xdr x83
 generalize hm1:(⟨[],1⟩:Mem).new (0,0,2) (.row [s,p,f,g] 0 false)=m1
 have g2:m1.get (0,0,2)=some (.row [s,p,f,g] 0 false):=by rw[<-hm1];simp
 obtain⟨a,ha,hca⟩:=w_all (d+1) ⟨hs.one,hs.still1⟩ hp (by have:=hR.pl;omega) (-1) m1
 have hal:(allM P.length (-1)).length=P.length:=by rw[all_1];simp[freshM]
 obtain⟨u,hu,hcu⟩:=w_joined (d+1) hs hp ha (all_rng hR (-1)) hll (by have:=hR.pl;omega) m1
 rw[uni_all]at hu
 have hul:=((Lab.fresh l.length).joins hR.pr).len
 simp[mem0,hs.one,hp.one,hf.one,hg1.1,hm1,g2,hca,hcu,hs.clean1,hp.clean1,cAp,tR]
 unfold xgl
 refine xtd (N:=l.length) (λn k o m fc=>x55 (xsi (d+2)) [] 0 n v (.ptr (0,0,2) 0 0) u o (I k) m fc)
  (λk o m=>m.get (0,0,2)=some (.row [s,p,f,g] 0 false)/\Gr 1 intE 0 34 m o ((phiL l.length (potL l P ph)).take k)) _ ?_ ?_ NN 0 nilS m1 _ (by omega) (by rw[xsu];omega) ⟨g2,by simpa using Gr.nil⟩
 .rintro n k o m fc hk ⟨hg,hG⟩ next
  have hk':(k:Int)<(l.length:Int):=by omega
  have hku:(k:Int)<((joinsM (freshM l.length) P).length:Int):=by omega
  have ixu:=hu.ix xt2 (show k<(joinsM (freshM l.length) P).length by omega)
  have ldu:=λm=>xte (m:=m) (show k<(joinsM (freshM l.length) P).length by omega)
  obtain⟨l0,l1,l2⟩:=((Lab.fresh l.length).joins hR.pr).ok k hk
  obtain⟨w,hw,hwF,hN,hsum⟩:=x18t hR (ph:=ph) hk
  have hwl:=xzy (hF.cut hR.pr) hw hwF hN
  have hFl:=hF.len hR.pr
  obtain⟨c,hc,hway⟩:=w_rway d hs hp hv hll hR.pr hF (fr:=at0 (joinsM (freshM l.length) P) k) (b:=k) l0 (by omega) (by omega) hk' hw hwF hN m
  have hS:=w_rSum (d+1) hf hc (λx hx=>⟨by have:=hF.rng x.p (hwF x hx).1;omega,(hwF x hx).2⟩) (by omega) hM hMb m
  rw[hsum]at hS
  have hsn:=phi_snoc l.length (potL l P ph) hk
  obtain⟨o2,m2,e1,e2,e3,e4⟩:=hG.app (s0:=fc+18) (bytes:=8) xt2 (by omega) (by unfold xt6;simp[xuv];omega) (potL l P ph k)
  simp only[x55]
  unfold x82
  simp[hu.len xt8,hku,hul,hg,ixu,ldu,hway,hS,xu3,hk']
  rw[show ∀x:Int,elems m.get 1 (.slit [I x] 1 true)=some (intE x,1)from λ_=>rfl,e1]
  simp[hs.clean1,hp.clean1,hv.clean,hf.clean,hc.clean,cAp,tR]
  rw[xso (by omega) (by omega)]
  exact next o2 m2 _ ⟨by rw[e4 _ (by simp)];exact hg,by rw[hsn];exact e2⟩
 .rintro n o m fc ⟨hg,hG⟩
  rw[x1gg (by rw[xuv];exact x1ga _)]at hG
  simp only[x55]
  unfold x82 xgk
  simp[hu.len xt8,hul]
  obtain⟨a',h1,h2⟩:=hG.frzk (k:=4) xt2 xvc
  exact RetF.mk h2 h1
def xvy(x:Int):Bool:=!(wi x (-100000000) 100000000)
def xvz(x:Int):Bool:=!(wi x 0 1000)
def taskE(l:List Scene)(P:List Pq)(ph wt:List Int):Int:=
 bif !decide ((net7 l P).2=0)then(net7 l P).2 else bif !decide (ph.length=P.length)||!decide (wt.length=P.length)then 10 else bif ph.any xvy then 2 else bif wt.any xvz then 2 else 0
structure TaskOK (l:List Scene) (P:List Pq) (ph wt:List Int):Prop where
 r:Right7 l P
 lp:ph.length=P.length
 lw:wt.length=P.length
 hp:∀k,k<ph.length->-100000000<=at0 ph k/\at0 ph k<=100000000
 hw:∀k,k<wt.length->0<=at0 wt k/\at0 wt k<=1000
theorem any_wi{q:Int->Bool}{a b:Int}(hq:∀x,q x=!(wi x a b)){l:List Int}(h:l.any q=false):∀k,k<l.length->a<=at0 l k/\at0 l k<=b:=λk hk=>by
 rw[x1ir]at h
 have:=h l[k] (x1go hk)
 rw[hq]at this
 rw[xt5 hk]
 exact wi_t (by simpa using this)
theorem xxs{l:List Scene}{P:List Pq}{ph wt:List Int}(h:taskE l P ph wt=0):TaskOK l P ph wt:=by
 unfold taskE at h
 by_cases he:(net7 l P).2=0
 .by_cases c1:ph.length=P.length
  .by_cases c2:wt.length=P.length
   .cases c3:ph.any xvy with
    |true=>rw[c3]at h;simp[he,c1,c2]at h
    |false=>
     cases c4:wt.any xvz with
     |true=>rw[c3,c4]at h;simp[he,c1,c2]at h
     |false=>exact⟨x116 he,c1,c2,any_wi (λ_=>rfl) c3,any_wi (λ_=>rfl) c4⟩
   .simp[he,c2]at h
  .simp[he,c1]at h
 .simp[he]at h
theorem tells_ph(d:Nat):xy7 (xsi (d+3)) (.clo x2l []) xvy:=by
 intro hs x m
 refine⟨m.next+1,?_⟩
 show xsi (d+3) hs x2l [I x] m=_
 rw[xna]
 unfold xes xa5 xvy
 simp[x148]
theorem tells_wt(d:Nat):xy7 (xsi (d+2)) (.clo x2m []) xvz:=by
 intro hs x m
 refine⟨m.next+1,?_⟩
 show xsi (d+2) hs x2m [I x] m=_
 rw[xnb]
 unfold xet xa6 xvz
 simp[xy9]
theorem x12k(d:Nat){s p f g:AV}{l:List Scene}{P:List Pq}{ph wt:List Int}(hs:Sl Scene.c s l)(hp:Sl Pq.c p P)(hf:Ints f ph)(hg:Ints g wt)(h1:ph.length<1000000)(h2:wt.length<1000000)(m:Mem) :
 xsl (xsi (d+8)) x1f [.agg [s,p,f,g]] m=some (I (taskE l P ph wt),m):=by
 refine xua (by simp[hs.still1,hp.still1,hf.still1,hg.still1]) ?_ m
 rw[xmg]
 unfold xdz x8l
 have c3:=λm=>x147 (d+5) hf h1 (tells_ph (d+2)) rfl m
 have c4:=λm=>x147 (d+5) hg h2 (tells_wt (d+3)) rfl m
 simp[mem0,hs.one,hp.one,hf.one,hg.one,x111 (d+1) hs hp]
 unfold taskE
 by_cases he:(net7 l P).2=0
 .simp[he,hp.len xu7,hf.len xt8]
  by_cases e1:ph.length=P.length
  .simp[e1,hg.len xt8]
   by_cases e2:wt.length=P.length
   .simp[e2,c3]
    cases a3:ph.any xvy with
    |true=>simp;exact RetF.st rfl rfl
    |false=>
     simp[c4]
     cases a4:wt.any xvz with
     |true=>simp;exact RetF.st rfl rfl
     |false=>simp;exact RetF.st rfl rfl
   .have e2':¬(wt.length:Int)=(P.length:Int):=by omega
    simp[e2,e2']
    exact RetF.st rfl rfl
  .have e1':¬(ph.length:Int)=(P.length:Int):=by omega
   simp[e1,e1']
   exact RetF.st rfl rfl
 .simp[he]
  exact RetF.st rfl rfl
theorem x12l(d:Nat){s p f g:AV}{l:List Scene}{P:List Pq}{ph wt:List Int}(hs:Sl Scene.c s l)(hp:Sl Pq.c p P)(hf:Ints f ph)(hg:Ints g wt)(h1:ph.length<1000000)(h2:wt.length<1000000)(m:Mem) :
 xsl (xsi (d+5)) xq [.agg [s,p,f,g]] m=some (I (taskE l P ph wt),m):=by
 refine xua (by simp[hs.still1,hp.still1,hf.still1,hg.still1]) ?_ m
 rw[xmc]
 unfold xdv x8b
 simp[mem0,hs.one,hp.one,hf.one,hg.one,w_Err7 d hs hp]
 by_cases he:(net7 l P).2=0
 rotate_left
 .simp[he]
  exact RetF.st rfl (by unfold taskE;simp[he])
 simp[he,hp.len xu7,hf.len xt8]
 by_cases e1:ph.length=P.length
 rotate_left
 .have e1':¬(ph.length:Int)=(P.length:Int):=by omega
  simp[e1']
  exact RetF.st rfl (by unfold taskE;simp[he,e1])
 simp[e1,hg.len xt8,hp.len xu7]
 by_cases e2:wt.length=P.length
 rotate_left
 .have e2':¬(wt.length:Int)=(P.length:Int):=by omega
  simp[e2']
  exact RetF.st rfl (by unfold taskE;simp[he,e2])
 simp[e2]
 have hE:taskE l P ph wt=bif ph.any xvy then 2 else bif wt.any xvz then 2 else 0:=by unfold taskE;simp[he,e1,e2]
 rw[hE]
 unfold xgs
 refine xtd (N:=ph.length) (σ:=Unit) (λn k _ m fc=>x59 (xsi (d+4)) [] 0 n (.ptr (0,0,1) 0 0) (I k) m fc) (λk _ m=>m.get (0,0,1)=some (.row [s,p,f,g] 0 false)/\ph.any xvy=(ph.drop k).any xvy) _ ?_ ?_ NN 0 () _ _ (by omega) (by rw[xsu];omega) ⟨by simp,by simp⟩
 .rintro n k-m fc hk ⟨hb,hA⟩ next
  have hk':(k:Int)<(ph.length:Int):=by omega
  have ix:=hf.ix xt2 hk
  have ld:=λm=>xte (m:=m) hk
  rw[xtm hk,x1im,<-xt5 hk]at hA
  simp only[x59]
  unfold x8a
  simp[hb,hf.len xt8,hk,ix,ld,xy5]
  cases c:wi (at0 ph k) (-100000000) 100000000 with
  |false=>
   simp
   rw[show xvy (at0 ph k)=true by unfold xvy;rw[c];rfl,x1ie]at hA
   exact RetF.st rfl (by rw[hA];rfl)
  |true=>
   rw[show xvy (at0 ph k)=false by unfold xvy;rw[c];rfl,x1jc]at hA
   simp(disch:=omega) [xso]
   exact next () m _ ⟨hb,hA⟩
 .rintro n-m fc ⟨hb,hA⟩
  rw[x1h5 (x1ga _)]at hA
  rw[show ph.any xvy=false from hA]
  simp only[x59]
  unfold x8a xgr
  simp[hb,hf.len xt8]
  refine xtd (N:=wt.length) (σ:=Unit) (λn k _ m fc=>x58 (xsi (d+4)) [] 0 n (.ptr (0,0,1) 0 0) (I k) m fc) (λk _ m=>m.get (0,0,1)=some (.row [s,p,f,g] 0 false)/\wt.any xvz=(wt.drop k).any xvz) _ ?_ ?_ NN 0 () m _ (by omega) (by rw[xsu];omega) ⟨hb,by simp⟩
  .rintro n k-m fc hk ⟨hb,hA⟩ next
   have hk':(k:Int)<(wt.length:Int):=by omega
   have ix:=hg.ix xt2 hk
   have ld:=λm=>xte (m:=m) hk
   rw[xtm hk,x1im,<-xt5 hk]at hA
   simp only[x58]
   unfold x89
   simp[hb,hg.len xt8,hk,ix,ld,xy5]
   cases c:wi (at0 wt k) 0 1000 with
   |false=>
    simp
    rw[show xvz (at0 wt k)=true by unfold xvz;rw[c];rfl,x1ie]at hA
    exact RetF.st rfl (by rw[hA];rfl)
   |true=>
    rw[show xvz (at0 wt k)=false by unfold xvz;rw[c];rfl,x1jc]at hA
    simp(disch:=omega) [xso]
    exact next () m _ ⟨hb,hA⟩
  .rintro n-m fc ⟨hb,hA⟩
   rw[x1h5 (x1ga _)]at hA
   rw[show wt.any xvz=false from hA]
   simp only[x58]
   unfold x89 xgq
   simp[hb,hg.len xt8]
   exact RetF.st rfl rfl
def CI(m:Mem)(u:Nat)(a:AV)(l:List Int):Prop:=(l=[]/\a=.slit [] 0 true)\/(l≠[]/\a=.sref (u,3,5) 0 0 l.length 1 true/\Ow intE m (u,3,5) l)
theorem CI.one{m:Mem}{u:Nat}{a:AV}{l:List Int}(h:CI m u a l):a.cells=[a]/\a.one=true/\still1 a=still1 a:=by
 rcases h with ⟨-,rfl⟩|⟨-,rfl,-⟩<;>exact⟨rfl,rfl,rfl⟩
theorem CI.fr{m m':Mem}{u:Nat}{a:AV}{l:List Int}(h:CI m u a l)(e:m'.get (u,3,5)=m.get (u,3,5)):CI m' u a l:=by
 rcases h with h|⟨h0,h1,h2⟩
 .exact .inl h
 .exact .inr ⟨h0,h1,h2.fr e⟩
theorem CI.frz{m:Mem}{u:Nat}{a:AV}{l:List Int}(h:CI m u a l)(k:Nat):∃a',Ints a' l/\Go.Ix.frz m.get (k+2) a=some a':=by
 rcases h with ⟨rfl,rfl⟩|⟨-,rfl,h⟩
 .exact⟨.slit [] 0 true,Sl.lit [] true,rfl⟩
 .exact⟨_,Sl.lit l false,xxm (k:=k) xt2 xvc h⟩
theorem x12m(d:Nat){x:AV}{l:List Int}(h:Ints x l)(hl:l.length<=1000000)(m:Mem):∃a M,xvb (xsi (d+1)) xo [x] m=some (a,M)/\CI M m.next a l/\M.next=m.next+1/\∀j:Id,j.1<m.next->M.get j=m.get j:=by
 obtain⟨a,m',h1,h2,h3⟩:∃a m',xsi (d+1) [] xo [x] ⟨[],m.next⟩=some (a,m')/\CI m' m.next a l/\m'.next=m.next+1:=by
  rw[xg6]
  unfold x6k x54
  have hr:xt6 l.length 8:=by unfold xt6;omega
  rcases x14e xt2 h hr (m.next,3,5) (⟨[],m.next+1⟩:Mem)with ⟨rfl,h1⟩|⟨h0,h1⟩
  .refine⟨.slit [] 0 true,⟨[],m.next+1⟩,?_,.inl ⟨rfl,rfl⟩,rfl⟩
   simp[xu3,xtc,xtj,xtq,h1]
  .refine⟨.sref (m.next,3,5) 0 0 l.length 1 true,(⟨[],m.next+1⟩:Mem).new (m.next,3,5) (.row (l.flatMap intE) 0 false),?_,.inr ⟨h0,rfl,by unfold Ow;simp⟩,rfl⟩
   simp[xu3,xtc,xtj,xtq,h1]
 obtain⟨M,hc,hM,hj⟩:=xz4 (l:=[x]) (by simp[h.clean]) h1
 refine⟨a,M,hc,h2.fr ?_,by omega,λj hlt=>?_⟩
 .rw[hj,x1g7 (x1ga _)]
 .rw[hj,x1g6 (by omega)]
theorem x151:x39=[nilS,nilS,nilS,nilS]:=by kernel_rfl
theorem x18u{objs:Id->Option Ob}{a b c e a' b' c' e':AV}{k:Nat}(ha:Go.Ix.frz objs (k+1) a=some a')(hb:Go.Ix.frz objs (k+1) b=some b')(hc:Go.Ix.frz objs (k+1) c=some c')(he:Go.Ix.frz objs (k+1) e=some e'):Go.Ix.frz objs (k+2) (.agg [a,b,c,e])=some (.agg [a',b',c',e']):=by
 show([a,b,c,e].mapM (Go.Ix.frz objs (k+1))).map AV.agg=_
 simp only[x1gw,x1hd,ha,hb,hc,he]
 rfl
theorem x152(d:Nat){s p f g:AV}{l:List Scene}{P:List Pq}{ph wt:List Int}(hs:Sl Scene.c s l)(hp:Sl Pq.c p P)(hf:Ints f ph)(hg:Ints g wt)(h1:l.length<=1000000)(h2:P.length<=1000000)(h3:ph.length<=1000000)(h4:wt.length<=1000000)(m:Mem) :
 ∃s' p' f' g',Sl Scene.c s' l/\Sl Pq.c p' P/\Ints f' ph/\Ints g' wt/\xsl (xsi (d+2)) xf [.agg [s,p,f,g]] m=some (.agg [s',p',f',g'],m):=by
 have key:RetF (λv=>∃s' p' f' g',v=.agg [s',p',f',g']/\Sl Scene.c s' l/\Sl Pq.c p' P/\Ints f' ph/\Ints g' wt) (xsi (d+2) [] xf [.agg [s,p,f,g]] mem0):=by
  rw[xlh]
  unfold x7n x6p
  simp[mem0,hs.one,hp.one,hf.one,hg.one,x151]
  generalize hm1:Mem.new _ _ _=m1
  have g1:m1.get (0,0,1)=some (.row [s,p,f,g] 0 false):=by rw[<-hm1];simp
  have n1:m1.next=1:=by rw[<-hm1];rfl
  obtain⟨s',p',hs',hp',hcp⟩:=x14f d hs hp h1 h2 m1
  obtain⟨a,M,c1,c2,c3,c4⟩:=x12m d hf h3 m1
  obtain⟨b,M2,e1,e2,e3,e4⟩:=x12m d hg h4 M
  have gM:M.get (0,0,1)=some (.row [s,p,f,g] 0 false):=by rw[c4 _ (by show 0<m1.next;omega)];exact g1
  have hb:∀i,m1.get i=(if i=(0,1,2)then some (.row [nilS,nilS,nilS,nilS] 0 false)else(⟨[],1⟩:Mem).new (0,0,1) (.row [s,p,f,g] 0 false) |>.get i):=λi=>by rw[<-hm1,Mem.get_new]
  have g2:m1.get (0,1,2)=some (.row [nilS,nilS,nilS,nilS] 0 false):=by rw[<-hm1];simp
  have gM2:M2.get (0,1,2)=some (.row [nilS,nilS,nilS,nilS] 0 false):=by rw[e4 _ (by show 0<M.next;omega),c4 _ (by show 0<m1.next;omega)];exact g2
  have ca:=c2.one
  have cb:=e2.one
  simp[hcp,g1,c1,gM,e1]
  rw[show xsw [nilS,nilS,nilS,nilS] [(0,2,.agg [s',p']),(2,1,a),(3,1,b)]=some (.agg [s',p',a,b]) by simp[xsw,xtj,ca.1,cb.1]]
  simp[gM2,hs'.one,hp'.one,ca.2.1,cb.2.1,hs.clean1,hp.clean1,hf.clean,hg.clean,cAp,tR,n1,Nat.blt,sLdP]
  generalize hm3:Mem.set _ _ _=m3
  obtain⟨a',ha',fa⟩:=(c2.fr (m':=m3) (by rw[<-hm3,Mem.get_set,x1g6 (by rw[n1];simp),e4 _ (by show m1.next<M.next;omega)])).frz 3
  obtain⟨b',hb',fb⟩:=(e2.fr (m':=m3) (by rw[<-hm3,Mem.get_set,x1g6 (by rw[c3,n1];simp)])).frz 3
  refine RetF.mk (x18u (k:=4) ?_ ?_ fa fb) ⟨s',p',a',b',rfl,hs',hp',ha',hb'⟩
  .exact xuh _ 3 hs'.still
  .exact xuh _ 3 hp'.still
 obtain⟨v,⟨s',p',f',g',rfl,a1,a2,a3,a4⟩,hc⟩:=xu6 (by simp[hs.still1,hp.still1,hf.still1,hg.still1]) key m
 exact⟨s',p',f',g',a1,a2,a3,a4,hc⟩
structure Lt7 (l:List Scene) (P:List Pq) (ph wt:List Int):Prop where
 few:few7 l P=true
 a:ph.length<=204
 b:wt.length<=204
 c:taskE l P ph wt=0->∀k,k<ph.length->at0 wt k<=20/\((at0 ph k).natAbs<=30000\/ph.length<=5)
def IsLt(l:List Scene)(P:List Pq)(ph wt:List Int)(v:AV):Prop:=∃b,v=B b/\(b=true->Lt7 l P ph wt)
theorem w_light7(d:Nat){s p f g:AV}{l:List Scene}{P:List Pq}{ph wt:List Int}(hs:Sl Scene.c s l)(hp:Sl Pq.c p P)(hf:Ints f ph)(hg:Ints g wt)(m:Mem) :
 ∃b,(b=true->Lt7 l P ph wt)/\xsl (xsi (d+6)) x2j [.agg [s,p,f,g]] m=some (B b,m):=by
 suffices key:RetF (IsLt l P ph wt) (xsi (d+6) [] x2j [.agg [s,p,f,g]] mem0) by
  obtain⟨v,⟨b,rfl,h⟩,hc⟩:=xu6 (by simp[hs.still1,hp.still1,hf.still1,hg.still1]) key m
  exact⟨b,h,hc⟩
 have no:∀m,RetF (IsLt l P ph wt) (some (B false,m)):=λm=>RetF.st rfl ⟨false,rfl,λh=>by cases h⟩
 rw[xn7]
 unfold xep xa0
 simp[mem0,hs.one,hp.one,hf.one,hg.one,w_Few7 (d+4) hs hp]
 cases hfw:few7 l P with
 |false=>simp;exact no _
 |true=>
  have key2:ph.length<=204->wt.length<=204->∀fc,RetF (IsLt l P ph wt) ((xsl (xsi (d+5)) xq [.agg [s,p,f,g]] ((⟨[],1⟩:Mem).new (0,0,1) (.row [s,p,f,g] 0 false))).bind λp33=>(sNe p33.1 (I 0)).bind λt34=>xsk t34 (some (B true,p33.2)) (x9z (xsi (d+5)) [] 0 (.ptr (0,0,1) 0 0) p33.2 fc)):=λa1 a2 fc=>by
   rw[x12l d hs hp hf hg (by omega) (by omega)]
   by_cases hE:taskE l P ph wt=0
   rotate_left
   .simp[hE]
    exact RetF.st rfl ⟨true,rfl,λ_=>⟨hfw,a1,a2,λh=>absurd h hE⟩⟩
   have hT:=xxs hE
   have hlw:wt.length=ph.length:=by rw[hT.lw,hT.lp]
   simp[hE]
   unfold x9z
   refine xtd (N:=ph.length) (σ:=Unit) (λn k _ m fc=>x5t (xsi (d+5)) [] 0 n (.ptr (0,0,1) 0 0) (I k) m fc) (λk _ m=>m.get (0,0,1)=some (.row [s,p,f,g] 0 false)/\∀j,j<k->at0 wt j<=20/\((at0 ph j).natAbs<=30000\/ph.length<=5)) _ ?_ ?_ NN 0 () _ _ (by omega) (by rw[xsu];omega) ⟨by simp,λj hj=>by omega⟩
   .rintro n k-m fc hk ⟨hb,hA⟩ next
    have hk':(k:Int)<(ph.length:Int):=by omega
    have ix:=hf.ix xt2 hk
    have ld:=λm=>xte (m:=m) hk
    have ix2:=hg.ix xt2 (show k<wt.length by omega)
    have ld2:=λm=>xte (m:=m) (show k<wt.length by omega)
    have hph:=hT.hp k hk
    have hsz:=λm=>w_Size (d+4) (at0 ph k) m (by omega) (by omega)
    simp only[x5t]
    unfold x9y
    simp[hb,hf.len xt8,hk,ix,ld,hsz]
    by_cases c1:(30000:Int)<((at0 ph k).natAbs:Int)
    .simp[c1,hb,hf.len xt8]
     by_cases c2:(5:Int)<(ph.length:Int)
     .simp[c2]
      exact no _
     .simp[c2,hb,ix2,ld2]
      by_cases c3:(20:Int)<at0 wt k
      .simp[c3];exact no _
      .simp(disch:=omega) [c3,xso]
       exact next () m _ ⟨hb,λj hj=>by
        by_cases e:j=k
        .rw[e];omega
        .exact hA j (by omega)⟩
    .simp[c1,hb,ix2,ld2]
     by_cases c3:(20:Int)<at0 wt k
     .simp[c3];exact no _
     .simp(disch:=omega) [c3,xso]
      exact next () m _ ⟨hb,λj hj=>by
       by_cases e:j=k
       .rw[e];omega
       .exact hA j (by omega)⟩
   .rintro n-m fc ⟨hb,hA⟩
    simp only[x5t]
    unfold x9y xie
    simp[hb,hf.len xt8]
    exact RetF.st rfl ⟨true,rfl,λ_=>⟨hfw,a1,a2,λ_=>hA⟩⟩
  simp[hf.len xt8]
  by_cases c1:(20:Int)<(ph.length:Int)
  .simp[c1,hf.len xt8]
   by_cases c2:(ph.length:Int)<200
   .simp[c2];exact no _
   .simp[c2,hf.len xt8]
    by_cases c3:(204:Int)<(ph.length:Int)
    .simp[c3];exact no _
    .simp[c3,hg.len xt8]
     by_cases c4:(204:Int)<(wt.length:Int)
     .simp[c4];exact no _
     .simp[c4]
      exact key2 (by omega) (by omega) _
  .have c3:¬(204:Int)<(ph.length:Int):=by omega
   simp[c1,hf.len xt8,c3,hg.len xt8]
   by_cases c4:(204:Int)<(wt.length:Int)
   .simp[c4];exact no _
   .simp[c4]
    exact key2 (by omega) (by omega) _
end Go.Ix
