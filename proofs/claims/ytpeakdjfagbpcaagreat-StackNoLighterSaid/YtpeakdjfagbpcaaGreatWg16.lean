import Derived.Test.YtpeakdjfagbpcaaGreatWg13
import Derived.Test.YtpeakdjfagbpcaaGreatWg15
import Derived.Test.YtpeakdjfagbpcaaGreatWg3
import Derived.Test.YtpeakdjfagbpcaaGreatWg0
import Derived.ProofKit
import Derived.Test.YtpeakdjfagbpcaaGreatWg9
import Derived.Test.YtpeakdjfagbpcaaGreatWg1
set_option linter.unusedSimpArgs false
set_option linter.unusedVariables false
namespace Go.Ix
noncomputable def muN(P:Nat->Int)(v:Nat):Nat:=Classical.choose (least_of (P:=fun w=>P w=P v) v rfl)
def Rt(P:Nat->Int)(ls:List Int)(v:Nat):Prop:=at0 ls v=(muN P v:Nat)
noncomputable instance (P:Nat->Int)(ls:List Int)(v:Nat):Decidable (Rt P ls v):=Int.instDecidableEq ..
def Can(n:Nat)(q:Nat->Int):Prop:=∀i,i<n->0<=q i/\((∀k,k<i->q k≠q i)->∀c,0<=c->c<q i->∃k,k<i/\q k=c)
def nmS(ls:List Int)(s:List Int×Int)(i:Nat):List Int×Int:=
 if at0 ls i=i then(s.1.set i s.2,s.2+1)else(s.1.set i (at0 s.1 (at0 ls i).toNat),s.2)
def nmM(ls:List Int):List Int×Int:=(List.range ls.length).foldl (nmS ls) (List.replicate ls.length 0,0)
structure NInv (mu:Nat->Nat) (n k:Nat) (s:List Int×Int):Prop where
 len:s.1.length=n
 g0:0<=s.2
 gk:s.2<=k
 lt:∀v,v<k->0<=at0 s.1 v/\at0 s.1 v<s.2
 fix:∀v,v<k->at0 s.1 v=at0 s.1 (mu v)
 inj:∀a b,a<k->b<k->mu a=a->mu b=b->at0 s.1 a=at0 s.1 b->a=b
 all:∀c:Int,0<=c->c<s.2->∃a,a<k/\at0 s.1 a=c
 low:∀a,a<k->mu a=a->∀c:Int,0<=c->c<at0 s.1 a->∃b,b<a/\at0 s.1 b=c
theorem nb_inv{mu:Nat->Nat}(hle:∀v,mu v<=v)(hid:∀v,mu (mu v)=mu v){ls:List Int}{n:Nat}(hl:ls.length=n)(hls:∀v,v<n->at0 ls v=(mu v:Nat)):NInv mu n n (nmM ls):=by
 have key:∀k,k<=n->NInv mu n k ((List.range k).foldl (nmS ls) (List.replicate n 0,0)):=by
  intro k
  induction k with
  |zero=>intro _;exact⟨by simp,by simp,by simp,fun v h=>by omega,fun v h=>by omega,fun a b h=>by omega,fun c h0 h1=>by simp only[List.range_zero,List.foldl_nil]at h1;omega,fun a h=>by omega⟩
  |succ k ih=>
   intro hk
   have h:=ih (by omega)
   rw[List.range_succ,List.foldl_append]
   obtain⟨s,hs⟩:∃s,s=(List.range k).foldl (nmS ls) (List.replicate n 0,0):=⟨_,rfl⟩
   rw[<-hs]at h ⊢
   simp only[List.foldl_cons,List.foldl_nil]
   have hkn:k<s.1.length:=by rw[h.len];omega
   have hg0:=h.g0
   have hgk:=h.gk
   unfold nmS
   rw[hls k (by omega)]
   by_cases c:mu k=k
   .rw[if_pos (by rw[c])]
    have hset:∀v,at0 (s.1.set k s.2) v=if v=k then s.2 else at0 s.1 v:=fun v=>x2nz hkn
    have old:∀v,v<k->at0 (s.1.set k s.2) v=at0 s.1 v:=fun v hv=>by rw[hset,if_neg (by omega)]
    have new:at0 (s.1.set k s.2) k=s.2:=by rw[hset,if_pos rfl]
    refine⟨by simpa using h.len,by simp only;omega,by simp only;omega,fun v hv=>?_,fun v hv=>?_,fun a b ha hb ma mb e=>?_,fun x x0 x1=>?_,fun a ha ma x x0 x1=>?_⟩
    .simp only
     by_cases e:v=k
     .rw[e,new];omega
     .rw[old v (by omega)];have:=h.lt v (by omega);omega
    .simp only
     by_cases e:v=k
     .rw[e,c]
     .have:=hle v
      rw[old v (by omega),old (mu v) (by omega)];exact h.fix v (by omega)
    .simp only at e
     by_cases e1:a=k<;>by_cases e2:b=k
     .omega
     .rw[e1,new,old b (by omega)]at e;have:=h.lt b (by omega);omega
     .rw[e2,new,old a (by omega)]at e;have:=h.lt a (by omega);omega
     .rw[old a (by omega),old b (by omega)]at e;exact h.inj a b (by omega) (by omega) ma mb e
    .simp only at x1 ⊢
     by_cases e:x=s.2
     .exact⟨k,by omega,by rw[new,e]⟩
     .obtain⟨a,a1,a2⟩:=h.all x x0 (by omega)
      exact⟨a,by omega,by rw[old a a1];exact a2⟩
    .simp only at x1 ⊢
     by_cases e:a=k
     .rw[e,new]at x1
      obtain⟨b,b1,b2⟩:=h.all x x0 x1
      exact⟨b,by omega,by rw[old b b1];exact b2⟩
     .rw[old a (by omega)]at x1
      obtain⟨b,b1,b2⟩:=h.low a (by omega) ma x x0 x1
      exact⟨b,b1,by rw[old b (by omega)];exact b2⟩
   .have hmk:=hle k
    rw[if_neg (by omega),Int.toNat_natCast]
    have hset:∀v,at0 (s.1.set k (at0 s.1 (mu k))) v=if v=k then at0 s.1 (mu k)else at0 s.1 v:=fun v=>x2nz hkn
    have old:∀v,v<k->at0 (s.1.set k (at0 s.1 (mu k))) v=at0 s.1 v:=fun v hv=>by rw[hset,if_neg (by omega)]
    have new:at0 (s.1.set k (at0 s.1 (mu k))) k=at0 s.1 (mu k):=by rw[hset,if_pos rfl]
    refine⟨by simpa using h.len,hg0,by simp only;omega,fun v hv=>?_,fun v hv=>?_,fun a b ha hb ma mb e=>?_,fun x x0 x1=>?_,fun a ha ma x x0 x1=>?_⟩
    .simp only
     by_cases e:v=k
     .rw[e,new];exact h.lt _ (by omega)
     .rw[old v (by omega)];exact h.lt v (by omega)
    .simp only
     by_cases e:v=k
     .rw[e,new,old (mu k) (by omega)]
     .have:=hle v
      rw[old v (by omega),old (mu v) (by omega)];exact h.fix v (by omega)
    .simp only at e
     by_cases e1:a=k
     .exact absurd (e1▸ma) c
     .by_cases e2:b=k
      .exact absurd (e2▸mb) c
      .rw[old a (by omega),old b (by omega)]at e;exact h.inj a b (by omega) (by omega) ma mb e
    .simp only at x1 ⊢
     obtain⟨a,a1,a2⟩:=h.all x x0 x1
     exact⟨a,by omega,by rw[old a a1];exact a2⟩
    .simp only at x1 ⊢
     by_cases e:a=k
     .exact absurd (e▸ma) c
     .rw[old a (by omega)]at x1
      obtain⟨b,b1,b2⟩:=h.low a (by omega) ma x x0 x1
      exact⟨b,b1,by rw[old b (by omega)];exact b2⟩
 have:=key n (Nat.le_refl _)
 unfold nmM
 rw[hl]
 exact this
theorem nb_can{mu:Nat->Nat}(hle:∀v,mu v<=v)(hid:∀v,mu (mu v)=mu v){ls:List Int}{n:Nat}(hl:ls.length=n)(hls:∀v,v<n->at0 ls v=(mu v:Nat)) :
 (nmM ls).1.length=n/\Can n (at0 (nmM ls).1)/\∀i j,i<n->j<n->(at0 (nmM ls).1 i=at0 (nmM ls).1 j↔mu i=mu j):=by
 have h:=nb_inv hle hid hl hls
 refine⟨h.len,fun i hi=>⟨(h.lt i hi).1,fun hf c c0 c1=>?_⟩,fun i j hi hj=>⟨fun e=>?_,fun e=>?_⟩⟩
 .have hm:mu i=i:=by
   apply Classical.byContradiction
   intro hne
   have:=hle i
   exact hf (mu i) (by omega) (h.fix i hi).symm
  exact h.low i hi hm c c0 c1
 .have a:=hle i
  have b:=hle j
  exact h.inj (mu i) (mu j) (by omega) (by omega) (hid i) (hid j) (by rw[<-h.fix i hi,<-h.fix j hj,e])
 .rw[h.fix i hi,h.fix j hj,e]
open Go.Proofs
theorem at0_app{l:List Int}{x:Int}{k:Nat}:at0 (l++[x]) k=if k<l.length then at0 l k else if k=l.length then x else 0:=by
 unfold at0
 simp only[List.getD_eq_getElem?_getD]
 by_cases h:k<l.length
 .rw[if_pos h,List.getElem?_append_left h]
 .rw[if_neg h,List.getElem?_append_right (by omega)]
  by_cases h2:k=l.length
  .rw[if_pos h2,h2];simp
  .rw[if_neg h2,List.getElem?_eq_none (by simp;omega)];rfl
def OutIn(k:Int)(out:List Int):Prop:=∀i,-(2048*k)<=at0 out i/\at0 out i<=2048*k
theorem OutIn.app{k:Nat}{out:List Int}(h:OutIn k out){x:Int}(h1:-(2048*((k+1:Nat):Int))<=x)(h2:x<=2048*((k+1:Nat):Int)):OutIn ((k+1:Nat):Int) (out++[x]):=by
 intro i
 rw[at0_app]
 have:=h i
 split
 .omega
 .split<;>omega
def Edge.same(a b:Edge):Bool:=decide (a.fr=b.fr)&&(decide (a.to=b.to)&&(decide (a.jump=b.jump)&&decide (a.wt=b.wt)))
theorem Edge.same_iff{a b:Edge}:a.same b=true↔a=b:=by
 cases a;cases b
 simp[Edge.same]
theorem Edge.still1(e:Edge):e.c.all Go.Ix.still1=true:=rfl
end Go.Ix
