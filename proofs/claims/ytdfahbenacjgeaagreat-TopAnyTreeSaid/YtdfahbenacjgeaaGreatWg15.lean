import Derived.Test.YtdfahbenacjgeaaGreatWg14
import Derived.Test.YtdfahbenacjgeaaGreatWg12
import Derived.Test.YtdfahbenacjgeaaGreatWg3
import Derived.Test.YtdfahbenacjgeaaGreatWg2
import Derived.Test.YtdfahbenacjgeaaGreatWg0
import Derived.ProofKit
import Derived.Test.YtdfahbenacjgeaaGreatWg8
import Derived.Test.YtdfahbenacjgeaaGreatWg1
set_option linter.unusedSimpArgs false
set_option linter.unusedVariables false
namespace Go.Ix
open Go.Proofs
noncomputable def muN(P:Nat->Int)(v:Nat):Nat:=Classical.choose (least_of (P:=λw=>P w=P v) v rfl)
def Rt(P:Nat->Int)(ls:List Int)(v:Nat):Prop:=at0 ls v=(muN P v:Nat)
noncomputable instance (P:Nat->Int)(ls:List Int)(v:Nat):Decidable (Rt P ls v):=Int.instDecidableEq ..
def Can(n:Nat)(q:Nat->Int):Prop:=∀i,i<n->0<=q i/\((∀k,k<i->q k≠q i)->∀c,0<=c->c<q i->∃k,k<i/\q k=c)
def nmS(ls:List Int)(s:List Int×Int)(i:Nat):List Int×Int:=
 if at0 ls i=i then(s.1.set i s.2,s.2+1)else(s.1.set i (at0 s.1 (at0 ls i).toNat),s.2)
def nmM(ls:List Int):List Int×Int:=(List.range ls.length).foldl (nmS ls) (List.replicate ls.length 0,0)
structure NInv (mu:Nat->Nat) (n k:Nat) (s:List Int×Int):Prop where
 len:s.1.length=n
 g0:0<=s.2
 gk:s.2<=k
 lt:∀v,v<k->0<=at0 s.1 v/\at0 s.1 v<s.2
 fix:∀v,v<k->at0 s.1 v=at0 s.1 (mu v)
 inj:∀a b,a<k->b<k->mu a=a->mu b=b->at0 s.1 a=at0 s.1 b->a=b
 all:∀c:Int,0<=c->c<s.2->∃a,a<k/\at0 s.1 a=c
 low:∀a,a<k->mu a=a->∀c:Int,0<=c->c<at0 s.1 a->∃b,b<a/\at0 s.1 b=c
theorem nb_inv{mu:Nat->Nat}(hle:∀v,mu v<=v)(hid:∀v,mu (mu v)=mu v){ls:List Int}{n:Nat}(hl:ls.length=n)(hls:∀v,v<n->at0 ls v=(mu v:Nat)):NInv mu n n (nmM ls):=by
 have key:∀k,k<=n->NInv mu n k ((List.range k).foldl (nmS ls) (List.replicate n 0,0)):=by
  intro k
  induction k with
  |zero=>intro _;exact⟨by simp,by simp,by simp,λv h=>by omega,λv h=>by omega,λa b h=>by omega,λc h0 h1=>by simp only[List.range_zero,List.foldl_nil]at h1;omega,λa h=>by omega⟩
  |succ k ih=>
   intro hk
   have h:=ih (by omega)
   rw[x15b,x168]
   obtain⟨s,hs⟩:∃s,s=(List.range k).foldl (nmS ls) (List.replicate n 0,0):=⟨_,rfl⟩
   rw[<-hs]at h ⊢
   simp only[x14s,List.foldl_nil]
   have hkn:k<s.1.length:=by rw[h.len];omega
   have hg0:=h.g0
   have hgk:=h.gk
   unfold nmS
   rw[hls k (by omega)]
   by_cases c:mu k=k
   .rw[x12c (by rw[c])]
    have hset:∀v,at0 (s.1.set k s.2) v=if v=k then s.2 else at0 s.1 v:=λv=>xrz hkn
    have old:∀v,v<k->at0 (s.1.set k s.2) v=at0 s.1 v:=λv hv=>by rw[hset,x12b (by omega)]
    have new:at0 (s.1.set k s.2) k=s.2:=by rw[hset,x12c rfl]
    refine⟨by simpa using h.len,by simp only;omega,by simp only;omega,λv hv=>?_,λv hv=>?_,λa b ha hb ma mb e=>?_,λx x0 x1=>?_,λa ha ma x x0 x1=>?_⟩
    .simp only
     by_cases e:v=k
     .rw[e,new];omega
     .rw[old v (by omega)];have:=h.lt v (by omega);omega
    .simp only
     by_cases e:v=k
     .rw[e,c]
     .have:=hle v
      rw[old v (by omega),old (mu v) (by omega)];exact h.fix v (by omega)
    .simp only at e
     by_cases e1:a=k<;>by_cases e2:b=k
     .omega
     .rw[e1,new,old b (by omega)]at e;have:=h.lt b (by omega);omega
     .rw[e2,new,old a (by omega)]at e;have:=h.lt a (by omega);omega
     .rw[old a (by omega),old b (by omega)]at e;exact h.inj a b (by omega) (by omega) ma mb e
    .simp only at x1 ⊢
     by_cases e:x=s.2
     .exact⟨k,by omega,by rw[new,e]⟩
     .obtain⟨a,a1,a2⟩:=h.all x x0 (by omega)
      exact⟨a,by omega,by rw[old a a1];exact a2⟩
    .simp only at x1 ⊢
     by_cases e:a=k
     .rw[e,new]at x1
      obtain⟨b,b1,b2⟩:=h.all x x0 x1
      exact⟨b,by omega,by rw[old b b1];exact b2⟩
     .rw[old a (by omega)]at x1
      obtain⟨b,b1,b2⟩:=h.low a (by omega) ma x x0 x1
      exact⟨b,b1,by rw[old b (by omega)];exact b2⟩
   .have hmk:=hle k
    rw[x12b (by omega),x12t]
    have hset:∀v,at0 (s.1.set k (at0 s.1 (mu k))) v=if v=k then at0 s.1 (mu k)else at0 s.1 v:=λv=>xrz hkn
    have old:∀v,v<k->at0 (s.1.set k (at0 s.1 (mu k))) v=at0 s.1 v:=λv hv=>by rw[hset,x12b (by omega)]
    have new:at0 (s.1.set k (at0 s.1 (mu k))) k=at0 s.1 (mu k):=by rw[hset,x12c rfl]
    refine⟨by simpa using h.len,hg0,by simp only;omega,λv hv=>?_,λv hv=>?_,λa b ha hb ma mb e=>?_,λx x0 x1=>?_,λa ha ma x x0 x1=>?_⟩
    .simp only
     by_cases e:v=k
     .rw[e,new];exact h.lt _ (by omega)
     .rw[old v (by omega)];exact h.lt v (by omega)
    .simp only
     by_cases e:v=k
     .rw[e,new,old (mu k) (by omega)]
     .have:=hle v
      rw[old v (by omega),old (mu v) (by omega)];exact h.fix v (by omega)
    .simp only at e
     by_cases e1:a=k
     .exact absurd (e1▸ma) c
     .by_cases e2:b=k
      .exact absurd (e2▸mb) c
      .rw[old a (by omega),old b (by omega)]at e;exact h.inj a b (by omega) (by omega) ma mb e
    .simp only at x1 ⊢
     obtain⟨a,a1,a2⟩:=h.all x x0 x1
     exact⟨a,by omega,by rw[old a a1];exact a2⟩
    .simp only at x1 ⊢
     by_cases e:a=k
     .exact absurd (e▸ma) c
     .rw[old a (by omega)]at x1
      obtain⟨b,b1,b2⟩:=h.low a (by omega) ma x x0 x1
      exact⟨b,b1,by rw[old b (by omega)];exact b2⟩
 have:=key n (x12f _)
 unfold nmM
 rw[hl]
 exact this
theorem nb_can{mu:Nat->Nat}(hle:∀v,mu v<=v)(hid:∀v,mu (mu v)=mu v){ls:List Int}{n:Nat}(hl:ls.length=n)(hls:∀v,v<n->at0 ls v=(mu v:Nat)) :
 (nmM ls).1.length=n/\Can n (at0 (nmM ls).1)/\∀i j,i<n->j<n->(at0 (nmM ls).1 i=at0 (nmM ls).1 j↔mu i=mu j):=by
 have h:=nb_inv hle hid hl hls
 refine⟨h.len,λi hi=>⟨(h.lt i hi).1,λhf c c0 c1=>?_⟩,λi j hi hj=>⟨λe=>?_,λe=>?_⟩⟩
 .have hm:mu i=i:=by
   apply Classical.byContradiction
   intro hne
   have:=hle i
   exact hf (mu i) (by omega) (h.fix i hi).symm
  exact h.low i hi hm c c0 c1
 .have a:=hle i
  have b:=hle j
  exact h.inj (mu i) (mu j) (by omega) (by omega) (hid i) (hid j) (by rw[<-h.fix i hi,<-h.fix j hj,e])
 .rw[h.fix i hi,h.fix j hj,e]
theorem w_Mod(d:Nat){x y:Int}(h1:0<y)(h2:y<=1000000000000)(m:Mem):xk4 (xk2 (d+1)) x2v [I x,I y] m=some (I (x % y),m):=by
 refine Ans.call0 ?_ rfl rfl
 unfold Ans
 rw[xgy]
 unfold xai x7u xdu
 have h3:x.tmod y=if 0<=x\/y ∣ x then x % y else x % y-y:=by
  have:=Int.tmod_eq_emod (a:=x) (b:=y)
  rw[this]
  split<;>omega
 have h4:=Int.emod_nonneg x (show y≠0 by omega)
 have h5:=Int.emod_lt_of_pos x h1
 simp[mem0,sRem_I (show y≠0 by omega)]
 rw[h3]
 split
 .rename_i h
  simp[x4r,show ¬(x % y<0) by omega]
 .rename_i h
  have:x % y-y<0:=by omega
  simp(disch:=omega) [x4r,this]
theorem at0_app{l:List Int}{x:Int}{k:Nat}:at0 (l++[x]) k=if k<l.length then at0 l k else if k=l.length then x else 0:=by
 unfold at0
 simp only[x12n]
 by_cases h:k<l.length
 .rw[x12c h,x14v h]
 .rw[x12b h,x14w (by omega)]
  by_cases h2:k=l.length
  .rw[x12c h2,h2];simp
  .rw[x12b h2,x15j (by simp;omega)];rfl
def OutIn(k:Int)(out:List Int):Prop:=∀i,-(2048*k)<=at0 out i/\at0 out i<=2048*k
theorem OutIn.app{k:Nat}{out:List Int}(h:OutIn k out){x:Int}(h1:-(2048*((k+1:Nat):Int))<=x)(h2:x<=2048*((k+1:Nat):Int)):OutIn ((k+1:Nat):Int) (out++[x]):=by
 intro i
 rw[at0_app]
 have:=h i
 split
 .omega
 .split<;>omega
theorem l_Ints(d:Nat)(hs:FHs){a b:AV}{l k:List Int}(ha:Ints a l)(hb:Ints b k)(he:l.length=k.length)(hl:l.length<=1000000):∀(suf suk:List Int) (i j:Nat) (m:Mem) (fc:Nat),l.drop i=suf->k.drop i=suk->suf.length<j ->
 ∃m',x3e (xk2 d) hs 0 j a b (I i) m fc=some (B (decide (suf=suk)),m'):=by
 intro suf
 induction suf with
 |nil=>
  intro suk i j m fc hd hk hj
  obtain⟨j,rfl⟩:∃i,j=i+1:=⟨j-1,by simp at hj;omega⟩
  have hd0:=x13z.mp hd
  have hsk:suk=[]:=by rw[<-hk];exact x13z.mpr (by omega)
  have hi:¬((i:Int)<(l.length:Int)):=by omega
  simp only[x3e]
  unfold x5k
  simp[ha.len xke,hi,xbt,hsk]
 |cons x r ih=>
  intro suk i j m fc hd hk hj
  obtain⟨j,rfl⟩:∃i,j=i+1:=⟨j-1,by simp at hj;omega⟩
  obtain⟨hi,hie,hd⟩:=xmx hd
  have hi2:i<k.length:=by omega
  have hk2:suk=at0 k i::k.drop (i+1):=by rw[<-hk,xl7 hi2,xkl hi2]
  have hi':(i:Int)<(l.length:Int):=by omega
  have ix:=ha.ix xk7 hi
  have ix2:=hb.ix xk7 hi2
  have e1:at0 l i=x:=by rw[xkl hi,hie]
  simp only[x3e]
  unfold x5k
  simp(disch:=omega) [ha.len xke,hi',ix,ix2,xkn,e1,hk2]
  by_cases c:x=at0 k i
  .obtain⟨m',h'⟩:=ih _ (i+1) j m (fc+16) hd rfl (by simp at hj;omega)
   simp(disch:=omega) [c]
   exact⟨m',h'⟩
  .simp[c]
theorem w_Ints(d:Nat){a b:AV}{l k:List Int}(ha:Ints a l)(hb:Ints b k)(hl:l.length<=1000000)(m:Mem):xk4 (xk2 (d+1)) x2j [a,b] m=some (B (decide (l=k)),m):=by
 refine Ans.call0 ?_ (by simp[ha.still,hb.still]) rfl
 unfold Ans
 rw[xfs]
 unfold x9d x5l xbu
 by_cases he:l.length=k.length
 .obtain⟨m',h'⟩:=l_Ints d [] ha hb he hl l k 0 NN ⟨[],1⟩ 7 rfl rfl (by rw[xkj];omega)
  simp[mem0,ha.len xke,hb.len xke,he]
  exact⟨m',h'⟩
 .have:¬(l=k):=λe=>he (by rw[e])
  have he2:¬((l.length:Int)=(k.length:Int)):=by omega
  simp[mem0,ha.len xke,hb.len xke,he2,this]
def Edge.same(a b:Edge):Bool:=decide (a.fr=b.fr)&&(decide (a.to=b.to)&&(decide (a.jump=b.jump)&&decide (a.wt=b.wt)))
theorem Edge.same_iff{a b:Edge}:a.same b=true↔a=b:=by
 cases a;cases b
 simp[Edge.same]
end Go.Ix
