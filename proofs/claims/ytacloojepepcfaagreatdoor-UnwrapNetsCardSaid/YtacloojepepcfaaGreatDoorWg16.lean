import Derived.Test.YtacloojepepcfaaGreatDoorWg10
set_option linter.unusedSimpArgs false
set_option linter.unusedVariables false
namespace Go.Ix
open Go.Proofs
inductive Reach (nb:Nat->List Int) (r:Nat):Nat->Prop
 |refl:Reach nb r r
 |step {a b:Nat}:Reach nb r a->(b:Int)∈nb a->Reach nb r b
structure Sym (n:Nat) (nb:Nat->List Int):Prop where
 rng:∀a,a<n->∀b∈nb a,0<=b/\b<n
 sym:∀a b,a<n->b<n->(b:Int)∈nb a->(a:Int)∈nb b
structure BInv (n:Nat) (nb:Nat->List Int) (g:Int) (r:Nat) (out0 out q:List Int):Prop where
 l:out.length=n
 ch:∀v,at0 out v=at0 out0 v\/(v<n/\at0 out0 v<0/\at0 out v=g/\Reach nb r v)
 qi:∀a∈q,0<=a/\a<n/\at0 out a.toNat=g
 d:∀v,v<n->at0 out v=g->(v:Int)∈q\/∀b∈nb v,0<=at0 out b.toNat
theorem xze{n:Nat}{nb:Nat->List Int}{g:Int}{r:Nat}{out0:List Int}(hg:0<=g)(hfresh:∀v,v<n->at0 out0 v≠g){a:Nat}(han:a<n)(hra:Reach nb r a):∀(bs:List Int),(∀b∈bs,b∈nb a/\0<=b/\b<n)->∀(out q:List Int),out.length=n ->
 (∀v,at0 out v=at0 out0 v\/(v<n/\at0 out0 v<0/\at0 out v=g/\Reach nb r v))->(∀x∈q,0<=x/\x<n/\at0 out x.toNat=g)->(∀v,v<n->v≠a->at0 out v=g->(v:Int)∈q\/∀b∈nb v,0<=at0 out b.toNat) ->
 (xq2 g bs (out,q)).1.length=n/\(∀v,at0 (xq2 g bs (out,q)).1 v=at0 out0 v\/(v<n/\at0 out0 v<0/\at0 (xq2 g bs (out,q)).1 v=g/\Reach nb r v))/\(∀x∈(xq2 g bs (out,q)).2,0<=x/\x<n/\at0 (xq2 g bs (out,q)).1 x.toNat=g) /\
  (∀v,v<n->v≠a->at0 (xq2 g bs (out,q)).1 v=g->(v:Int)∈(xq2 g bs (out,q)).2\/∀b∈nb v,0<=at0 (xq2 g bs (out,q)).1 b.toNat)/\(∀v,0<=at0 out v->0<=at0 (xq2 g bs (out,q)).1 v)/\(∀b∈bs,0<=at0 (xq2 g bs (out,q)).1 b.toNat)
 |[],_,out,q,h1,h2,h3,h4=>⟨h1,h2,h3,h4,λ_ h=>h,λb hb=>by simp at hb⟩
 |b::bs,hb,out,q,h1,h2,h3,h4=>by
  obtain⟨b1,b2,b3⟩:=hb b (x18a ..)
  obtain⟨bn,rfl⟩:∃bn:Nat,b=bn:=⟨b.toNat,by omega⟩
  have hbn:bn<n:=by omega
  have e:xq2 g ((bn:Int)::bs) (out,q)=xq2 g bs (addM g (out,q) bn):=rfl
  rw[e]
  by_cases c:at0 out bn<0
  .have ea:addM g (out,q) bn=(out.set bn g,q++[(bn:Int)]):=by unfold addM;simp only[x18g];rw[x17u c]
   rw[ea]
   have hset:∀v,at0 (out.set bn g) v=if v=bn then g else at0 out v:=λv=>xtn (by omega)
   have mono:∀v,0<=at0 out v->0<=at0 (out.set bn g) v:=λv hv=>by rw[hset];split<;>omega
   obtain⟨r1,r2,r3,r4,r5,r6⟩:=xze hg hfresh han hra bs (λx hx=>hb x (x183 _ hx)) (out.set bn g) (q++[(bn:Int)]) (by simp[h1]) (λv=>by
    rw[hset]
    by_cases ev:v=bn
    .subst ev
     right
     rw[x17u rfl]
     refine⟨hbn,?_,rfl,.step hra b1⟩
     rcases h2 v with h|⟨_,h,_⟩<;>omega
    .rw[x17t ev];exact h2 v) (λx hx=>by
    rw[hset]
    rcases x19k.mp hx with hx|hx
    .obtain⟨x1,x2,x3⟩:=h3 x hx
     refine⟨x1,x2,?_⟩
     split
     .rfl
     .exact x3
    .rw[x18w]at hx
     subst hx
     exact⟨by omega,by omega,by simp⟩) (λv hv hva hvg=>by
    rw[hset]at hvg
    by_cases ev:v=bn
    .left;rw[ev];simp
    .rw[x17t ev]at hvg
     rcases h4 v hv hva hvg with h|h
     .left;exact x19k.mpr (Or.inl h)
     .right;exact λb hb=>mono _ (h b hb))
   refine⟨r1,r2,r3,r4,λv hv=>r5 v (mono v hv),λx hx=>?_⟩
   rcases x186.mp hx with rfl|hx
   .refine r5 _ ?_
    rw[x18g,hset,x17u rfl];exact hg
   .exact r6 x hx
  .have ea:addM g (out,q) bn=(out,q):=by unfold addM;simp only[x18g];rw[x17t c]
   rw[ea]
   obtain⟨r1,r2,r3,r4,r5,r6⟩:=xze hg hfresh han hra bs (λx hx=>hb x (x183 _ hx)) out q h1 h2 h3 h4
   refine⟨r1,r2,r3,r4,r5,λx hx=>?_⟩
   rcases x186.mp hx with rfl|hx
   .exact r5 _ (by rw[x18g];omega)
   .exact r6 x hx
theorem bfs_inv{n:Nat}{nb:Nat->List Int}(hS:Sym n nb){g:Int}{r:Nat}{out0:List Int}(hg:0<=g)(hfresh:∀v,v<n->at0 out0 v≠g):∀(F:Nat) (out q:List Int),negC out+q.length<F->BInv n nb g r out0 out q->BInv n nb g r out0 (bfsM nb g F (out,q)) []
 |0,out,q,h,_=>by omega
 |F+1,out,[],h,hB=>hB
 |F+1,out,a::q,h,hB=>by
  simp only[bfsM]
  obtain⟨a0,a1,a2⟩:=hB.qi a (x18a ..)
  obtain⟨an,rfl⟩:∃an:Nat,a=an:=⟨a.toNat,by omega⟩
  rw[x18g]at a2 ⊢
  have han:an<n:=by omega
  have hra:Reach nb r an:=by
   rcases hB.ch an with h|⟨_,_,_,h⟩
   .exact absurd (h.symm.trans a2) (hfresh an han)
   .exact h
  obtain⟨r1,r2,r3,r4,r5,r6⟩:=xze hg hfresh han hra (nb an) (λb hb=>⟨hb,hS.rng an han b hb⟩) out q hB.l hB.ch (λx hx=>hB.qi x (x183 _ hx)) (λv hv hva hvg=>by
   rcases hB.d v hv hvg with h|h
   .rcases x186.mp h with h|h
    .omega
    .exact Or.inl h
   .exact Or.inr h)
  obtain⟨-,hm⟩:=xvx hg (nb an) (out,q) ⟨hB.l,λb hb=>by obtain⟨x,y,_⟩:=hB.qi b (x183 _ hb);exact⟨x,y⟩⟩ (hS.rng an han)
  simp only[x188]at h hm
  refine bfs_inv hS hg hfresh F (xq2 g (nb an) (out,q)).1 (xq2 g (nb an) (out,q)).2 (by omega) ⟨r1,r2,r3,λv hv hvg=>?_⟩
  by_cases e:v=an
  .subst e
   right
   exact r6
  .exact r4 v hv e hvg
structure RInv (n:Nat) (nb:Nat->List Int) (k:Nat) (out:List Int) (g:Int):Prop where
 l:out.length=n
 g0:0<=g
 gk:g<=k
 lt:∀v,v<n->-1<=at0 out v/\at0 out v<g
 lab:∀v,v<k->v<n->0<=at0 out v
 cl:∀v,v<n->0<=at0 out v->∀b∈nb v,at0 out b.toNat=at0 out v
 rep:∃rep:Nat->Nat,∀c:Nat,(c:Int)<g->rep c<k/\rep c<n/\at0 out (rep c)=(c:Int)/\(∀v,v<n->at0 out v=(c:Int)->rep c<=v/\Reach nb (rep c) v)/\∀c',c'<c->rep c'<rep c
theorem root_step{n:Nat}{nb:Nat->List Int}(hn:n<=200)(hS:Sym n nb){k:Nat}{out:List Int}{g:Int}(hk:k<n)(h:RInv n nb k out g):RInv n nb (k+1) (xrh nb (out,g) k).1 (xrh nb (out,g) k).2:=by
 obtain⟨rep,hrep⟩:=h.rep
 have hgk:=h.gk
 have hg0:=h.g0
 unfold xrh
 by_cases c:0<=at0 out k
 .rw[x17u c]
  refine⟨h.l,h.g0,by simp only;omega,h.lt,λv hv hvn=>?_,h.cl,rep,λc hc=>?_⟩
  .by_cases e:v=k
   .rw[e];exact c
   .exact h.lab v (by omega) hvn
  .obtain⟨a,b⟩:=hrep c hc
   exact⟨by omega,b⟩
 .rw[x17t c]
  have fresh:∀v,v<n->at0 out v≠g:=λv e=>by have:=h.lt v e;omega
  simp only
  obtain⟨out',ho⟩:∃out',out'=bfsM nb g NN (out.set k g,[(k:Int)]):=⟨_,rfl⟩
  rw[<-ho]
  have hset:∀v,at0 (out.set k g) v=if v=k then g else at0 out v:=λv=>xtn (by rw[h.l];exact hk)
  have hng:=xz2 (out.set k g)
  rw[x19t,h.l]at hng
  have hk0:at0 out k<0:=by omega
  have core:BInv n nb g k out out' []:=by
   rw[ho]
   refine bfs_inv hS hg0 fresh NN _ _ (by rw[xq7];simp only[x1bw];omega) ⟨by simp[h.l],λv=>?_,λa ha=>?_,λv hv hvg=>?_⟩
   .rw[hset]
    by_cases e:v=k
    .subst e;right;rw[x17u rfl];exact⟨hk,hk0,rfl,.refl⟩
    .rw[x17t e];exact Or.inl rfl
   .rw[x18w]at ha
    subst ha
    rw[x18g,hset,x17u rfl]
    exact⟨by omega,by omega,rfl⟩
   .rw[hset]at hvg
    by_cases e:v=k
    .left;rw[e];simp
    .rw[x17t e]at hvg;exact absurd hvg (fresh v hv)
  have old:∀v,v<n->0<=at0 out v->at0 out' v=at0 out v:=λv hv h0=>by
   rcases core.ch v with e|⟨_,e,_⟩
   .exact e
   .omega
  have kg:at0 out' k=g:=by
   have mono:∀(F:Nat) (s:List Int×List Int),at0 s.1 k=g->StOK n s->at0 (bfsM nb g F s) k=g:=by
    intro F
    induction F with
    |zero=>intro s hs _;exact hs
    |succ F ih=>
     intro s hs hO
     obtain⟨so,sq⟩:=s
     cases sq with
     |nil=>exact hs
     |cons a sq=>
      simp only[bfsM]
      have hab:=hO.q a (x18a ..)
      have hO1:StOK n (so,sq):=⟨hO.l,λb hb=>hO.q b (x183 _ hb)⟩
      refine ih _ ?_ (xvx hg0 (nb a.toNat) (so,sq) hO1 (hS.rng _ (by omega))).1
      have keep:∀(bs:List Int) (s:List Int×List Int),at0 s.1 k=g->k<s.1.length->at0 (xq2 g bs s).1 k=g/\k<(xq2 g bs s).1.length:=by
       intro bs
       induction bs with
       |nil=>intro s h1 h2;exact⟨h1,h2⟩
       |cons b bs ihb=>
        intro s h1 h2
        refine ihb (addM g s b) ?_ ?_
        .unfold addM
         split
         .rename_i hc
          by_cases e:b.toNat=k
          .rw[e]at hc;omega
          .simp only
           by_cases hb:b.toNat<s.1.length
           .rw[xtn hb,x17t (λx=>e x.symm)];exact h1
           .rw[List.set_eq_of_length_le (by omega)];exact h1
         .exact h1
        .unfold addM
         split
         .simpa using h2
         .exact h2
      exact(keep (nb a.toNat) (so,sq) hs (by simp only;have:=hO.l;simp only at this;omega)).1
   rw[ho]
   exact mono NN _ (by simp only;rw[hset,x17u rfl]) ⟨by simp[h.l],λa ha=>by rw[x18w]at ha;subst ha;omega⟩
  have clg:∀v,v<n->at0 out' v=g->∀b∈nb v,at0 out' b.toNat=g:=by
   intro v hv hvg b hb
   obtain⟨b0,b1⟩:=hS.rng v hv b hb
   obtain⟨bn,rfl⟩:∃bn:Nat,b=bn:=⟨b.toNat,by omega⟩
   rw[x18g]
   have h0:0<=at0 out' bn:=by
    rcases core.d v hv hvg with h|h
    .simp at h
    .have:=h _ hb;rwa[x18g]at this
   rcases core.ch bn with e|⟨_,_,e,_⟩
   .exfalso
    have h1:at0 out v<0:=by
     rcases core.ch v with e'|⟨_,e',_⟩
     .exact absurd (e'.symm.trans hvg) (fresh v hv)
     .exact e'
    have:=h.cl bn (by omega) (by omega) v (hS.sym v bn hv (by omega) hb)
    rw[x18g]at this
    omega
   .exact e
  refine⟨core.l,by omega,by omega,λv hv=>?_,λv hv hvn=>?_,λv hv hv0 b hb=>?_,λc=>if(c:Int)<g then rep c else k,λc hc=>?_⟩
  .have:=h.lt v hv
   rcases core.ch v with e|⟨_,_,e,_⟩<;>omega
  .by_cases e:v=k
   .rw[e,kg];exact hg0
   .have:=h.lab v (by omega) hvn
    rw[old v hvn this];exact this
  .by_cases e:at0 out' v=g
   .rw[e];exact clg v hv e b hb
   .have e':at0 out' v=at0 out v:=by
     rcases core.ch v with e'|⟨_,_,e',_⟩
     .exact e'
     .exact absurd e' e
    obtain⟨b0,b1⟩:=hS.rng v hv b hb
    have:=h.cl v hv (by omega) b hb
    rw[e',<-this]
    exact old _ (by omega) (by omega)
  .simp only
   by_cases hcg:(c:Int)<g
   .rw[x17u hcg]
    obtain⟨a1,a2,a3,a4,a5⟩:=hrep c hcg
    refine⟨by omega,a2,by rw[old _ a2 (by omega)];exact a3,λv hv hvc=>a4 v hv ?_,λc' hc'=>by rw[x17u (by omega)];exact a5 c' hc'⟩
    rcases core.ch v with e|⟨_,_,e,_⟩
    .rw[<-e];exact hvc
    .omega
   .have hcg':(c:Int)=g:=by omega
    rw[x17t hcg]
    refine⟨by omega,hk,by rw[kg];exact hcg'.symm,λv hv hvc=>?_,λc' hc'=>?_⟩
    .rcases core.ch v with e|⟨_,e1,_,e2⟩
     .exact absurd (e.symm.trans (hvc.trans hcg')) (fresh v hv)
     .refine⟨?_,e2⟩
      apply Classical.byContradiction
      intro hlt
      have:=h.lab v (by omega) hv
      omega
    .rw[x17u (by omega)]
     exact(hrep c' (by omega)).1
theorem xx9{n:Nat}{nb:Nat->List Int}(hn:n<=200)(hS:Sym n nb):RInv n nb n (numM n nb).1 (numM n nb).2:=by
 have key:∀k,k<=n->RInv n nb k ((List.range k).foldl (xrh nb) (List.replicate n (-1),0)).1 ((List.range k).foldl (xrh nb) (List.replicate n (-1),0)).2:=by
  intro k
  induction k with
  |zero=>
   intro _
   have hr:∀v,v<n->at0 (List.replicate n (-1)) v=-1:=λv hv=>by rw[xs9 (by simpa using hv)];simp
   refine⟨by simp,by simp,by simp,λv hv=>?_,λv hv=>by omega,λv hv h0=>?_,λ_=>0,λc hc=>?_⟩
   .simp only[x1be,x1au];rw[hr v hv];omega
   .simp only[x1be,x1au]at h0;rw[hr v hv]at h0;omega
   .simp only[x1be,x1au]at hc;omega
  |succ k ih=>
   intro hk
   rw[x1ah,x1as]
   exact root_step hn hS (by omega) (ih (by omega))
 exact key n (x17z _)
theorem x14j{n:Nat}{nb:Nat->List Int}(hn:n<=200)(hS:Sym n nb){a b:Nat}(ha:a<n)(h:Reach nb a b):b<n/\at0 (numM n nb).1 b=at0 (numM n nb).1 a:=by
 have R:=xx9 hn hS
 induction h with
 |refl=>exact⟨ha,rfl⟩
 |step h1 h2 ih=>
  obtain⟨i1,i2⟩:=ih
  obtain⟨b0,b1⟩:=hS.rng _ i1 _ h2
  have:=R.cl _ i1 (R.lab _ i1 i1) _ h2
  rw[x18g]at this
  exact⟨by omega,by rw[this,i2]⟩
theorem mem_nearU{l:List Edge}{a b:Int}:b∈nearU l a↔∃e∈l,0<e.wt/\((e.fr=a/\e.to=b)\/(e.fr≠a/\e.to=a/\e.fr=b)):=by
 unfold nearU
 rw[x18y]
 constructor
 .rintro⟨e,he,hb⟩
  refine⟨e,he,?_⟩
  split at hb
  .rename_i hw
   refine⟨hw,?_⟩
   split at hb
   .rename_i h1
    rw[x18w]at hb
    exact Or.inl ⟨h1,hb.symm⟩
   .rename_i h1
    split at hb
    .rename_i h2
     rw[x18w]at hb
     exact Or.inr ⟨h1,h2,hb.symm⟩
    .simp at hb
  .simp at hb
 .rintro⟨e,he,hw,h⟩
  refine⟨e,he,?_⟩
  rw[x17u hw]
  rcases h with ⟨h1,h2⟩|⟨h1,h2,h3⟩
  .rw[x17u h1,h2];simp
  .rw[x17t h1,x17u h2,h3];simp
theorem xxa{n:Nat}{l:List Edge}(hed:∀e∈l,EdgeIn n e/\e.fr≠e.to):Sym n (λa=>nearU l (a:Nat)):=by
 refine⟨λa _ b hb=>xz3 hed hb,λa b _ _ h=>?_⟩
 rw[mem_nearU]at h ⊢
 obtain⟨e,he,hw,h⟩:=h
 have hne:=(hed e he).2
 refine⟨e,he,hw,?_⟩
 rcases h with ⟨h1,h2⟩|⟨h1,h2,h3⟩
 .right;exact⟨by omega,h2,h1⟩
 .left;exact⟨h3,h2⟩
theorem x14k{n:Nat}{l:List Edge}(hn:n<=200)(hed:∀e∈l,EdgeIn n e/\e.fr≠e.to){e:Edge}(he:e∈l)(hw:0<e.wt):at0 (xqb n l) e.fr.toNat=at0 (xqb n l) e.to.toNat:=by
 obtain⟨⟨f0,f1,t0,t1,-⟩,hne⟩:=hed e he
 obtain⟨a,ha⟩:∃a:Nat,e.fr=a:=⟨e.fr.toNat,by omega⟩
 obtain⟨b,hb⟩:∃b:Nat,e.to=b:=⟨e.to.toNat,by omega⟩
 have:=(x14j hn (xxa hed) (a:=a) (b:=b) (by omega) (.step .refl (mem_nearU.mpr ⟨e,he,hw,Or.inl ⟨ha,hb⟩⟩))).2
 rw[ha,hb,x18g,x18g]
 exact this.symm
end Go.Ix
