import Derived.Test.YtpeakdjfagbpcaaGreatWg13
import Derived.Test.YtpeakdjfagbpcaaGreatWg11
import Derived.Test.YtpeakdjfagbpcaaGreatWg3
import Derived.Test.YtpeakdjfagbpcaaGreatWg2
import Derived.Test.YtpeakdjfagbpcaaGreatWg0
import Derived.ProofKit
import Derived.Test.YtpeakdjfagbpcaaGreatWg8
import Derived.Test.YtpeakdjfagbpcaaGreatWg1
set_option linter.unusedSimpArgs false
set_option linter.unusedVariables false
namespace Go.Ix
theorem Solved.flow{J:Int}{n:Nat}{l:List Edge}{fl tu ex:List Int}(h:Solved J n l fl tu ex):FlowOK n l fl (xrt n (xrv n l) tu) ex:=by
 obtain⟨-,hC⟩:=h.best
 exact⟨h.f.nn,h.f.ll,h.f.ed,h.f.fll,xw4 _ _ _,h.f.exl,h.f.cap,λk hk=>hC _ ((xtq h.f.fll).mpr ⟨k,hk,rfl⟩),h.f.net⟩
theorem Solved.inn{J:Int}{n:Nat}{l:List Edge}{fl tu ex:List Int}(h:Solved J n l fl tu ex)(hS:Slim J n l):SolIn n l fl (xrt n (xrv n l) tu) ex:=by
 have hj0:=hS.j0
 have hj1:=hS.j1
 exact⟨h.f.nn,h.f.ll,h.f.ed,h.f.flb,λv=>by have:=h.turns hj0 v;omega,λv=>by have:=h.f.exb hS v;omega⟩
theorem way_of{n:Nat}{l:List Edge}{fl tu ex:List Int}(h:FlowOK n l fl tu ex){fr:Nat}{t:Tour}{rk:Nat->Nat}(W:WaysOK n l fl tu fr t rk):∀(r v:Nat),v<n->rk v<r->at0 t.len v<farM->Way (l.zip fl) fr v (at0 t.len v-at0 tu fr+at0 tu v):=by
 intro r
 induction r with
 |zero=>intro v _ hh;omega
 |succ r ih=>
  intro v hv hr hl
  by_cases e:v=fr
  .subst e
   rw[W.z,show(0:Int)-at0 tu v+at0 tu v=0 by omega]
   exact .nil
  .obtain⟨b,k,b1,⟨b2,b2'⟩,b3,b4,b5,b6,b7,b8⟩:=xyw h W hv e hl
   have hw:=ih b b1 (by omega) b2
   have hx:(edgeAt l k,at0 fl k)∈l.zip fl:=(xtq h.fll).mpr ⟨k,b5,rfl⟩
   rcases b8 with ⟨c1,c2,c3,c4,c5⟩|⟨c1,c2,c3,c4,c5⟩
   .have ha:Arc (l.zip fl) b v (edgeAt l k).jump:=⟨_,hx,Or.inr ⟨by simp only;omega,by simp only;omega,by simp only;omega,rfl⟩⟩
    have:=hw.cons ha
    rw[show at0 t.len b-at0 tu fr+at0 tu b+(edgeAt l k).jump=at0 t.len v-at0 tu fr+at0 tu v by omega]at this
    exact this
   .have ha:Arc (l.zip fl) b v (-(edgeAt l k).jump):=⟨_,hx,Or.inl ⟨by simp only;omega,by simp only;omega,by simp only;omega,rfl⟩⟩
    have:=hw.cons ha
    rw[show at0 t.len b-at0 tu fr+at0 tu b+-(edgeAt l k).jump=at0 t.len v-at0 tu fr+at0 tu v by omega]at this
    exact this
theorem arc_fin{n:Nat}{l:List Edge}{fl tu ex:List Int}(h:FlowOK n l fl tu ex){fr:Nat}{t:Tour}{rk:Nat->Nat}(W:WaysOK n l fl tu fr t rk)(hL:LenB ((200:Nat)*GB) t.len)(hT:∀k,-1000000<=at0 tu k/\at0 tu k<=1000000){u v:Nat}{c:Int}(ha:Arc (l.zip fl) u v c)(hu:u<n)(hl:at0 t.len u<farM) :
 v<n/\at0 t.len v<farM/\at0 t.len v<=at0 t.len u+c+at0 tu u-at0 tu v:=by
 have hG:((200:Nat):Int)*GB=400200000:=by rfl
 rw[hG]at hL
 obtain⟨-,hv⟩:=ha.lt (xy4 h.ed h.fll)
 obtain⟨i,h1,h2,h3⟩:=arc_out h.ed h.fll ha
 have h4:=W.cl u hu hl i h1
 rw[h2,x1f1,h3]at h4
 have h9:c<=1000:=by
  rw[<-h3]
  obtain⟨k,hk,rfl,hc⟩:=x101 h.ed fl h1.1
  obtain⟨⟨_,_,_,_,j0,j1,_⟩,_⟩:=xun h.ed hk
  rcases hc with ⟨_,_,c⟩|⟨_,_,c⟩<;>rw[c]<;>simp only<;>omega
 have h5:=hL u
 have h6:=hT u
 have h7:=hT v
 refine⟨hv,?_,h4⟩
 have hf:(1000000000:Int)<farM:=by decide
 omega
def xyx(n:Nat)(len tu:List Int)(fr:Nat)(v:Nat):Option Int:=if v<n/\at0 len v<farM then some (at0 len v-at0 tu fr+at0 tu v)else none
theorem dist_ok{n:Nat}{l:List Edge}{fl tu ex:List Int}(h:FlowOK n l fl tu ex){fr:Nat}(hfr:fr<n){t:Tour}{rk:Nat->Nat}(W:WaysOK n l fl tu fr t rk)(hL:LenB ((200:Nat)*GB) t.len)(hT:∀k,-1000000<=at0 tu k/\at0 tu k<=1000000):Dist n (l.zip fl) fr (xyx n t.len tu fr):=by
 have hff:(0:Int)<farM:=by decide
 refine⟨λv hv c hc=>?_,λv c hw=>?_⟩
 .unfold xyx at hc
  by_cases e:v<n/\at0 t.len v<farM
  .rw[x1ez e]at hc
   cases hc
   exact way_of h W _ v hv (x1hh _) e.2
  .rw[x1ey e]at hc;cases hc
 .have key:v<n/\at0 t.len v<farM/\at0 t.len v-at0 tu fr+at0 tu v<=c:=by
   induction hw with
   |nil=>exact⟨hfr,by rw[W.z];exact hff,by rw[W.z];omega⟩
   |cons h1 ha ih=>
    obtain⟨i1,i2,i3⟩:=ih
    obtain⟨j1,j2,j3⟩:=arc_fin h W hL hT ha i1 i2
    exact⟨j1,j2,by omega⟩
  refine⟨_,?_,key.2.2⟩
  unfold xyx
  rw[x1ez ⟨key.1,key.2.1⟩]
noncomputable def muN(P:Nat->Int)(v:Nat):Nat:=Classical.choose (x187 (P:=λw=>P w=P v) v rfl)
def Rt(P:Nat->Int)(ls:List Int)(v:Nat):Prop:=at0 ls v=(muN P v:Nat)
noncomputable instance (P:Nat->Int)(ls:List Int)(v:Nat):Decidable (Rt P ls v):=Int.instDecidableEq ..
open Go.Proofs
theorem w_Mod(d:Nat){x y:Int}(h1:0<y)(h2:y<=1000000000000)(m:Mem):xr8 (xr4 (d+1)) x4h [I x,I y] m=some (I (x % y),m):=by
 refine Ans.call0 ?_ rfl rfl
 unfold Ans
 rw[xm5]
 unfold xeb x9z xho
 have h3:x.tmod y=if 0<=x\/y ∣ x then x % y else x % y-y:=by
  have:=Int.tmod_eq_emod (a:=x) (b:=y)
  rw[this]
  split<;>omega
 have h4:=Int.emod_nonneg x (show y≠0 by omega)
 have h5:=Int.emod_lt_of_pos x h1
 simp[mem0,sRem_I (show y≠0 by omega)]
 rw[h3]
 split
 .rename_i h
  simp[x6r,show ¬(x % y<0) by omega]
 .rename_i h
  have:x % y-y<0:=by omega
  simp(disch:=omega) [x6r,this]
theorem at0_app{l:List Int}{x:Int}{k:Nat}:at0 (l++[x]) k=if k<l.length then at0 l k else if k=l.length then x else 0:=by
 unfold at0
 simp only[x1fd]
 by_cases h:k<l.length
 .rw[x1ez h,x1ho h]
 .rw[x1ey h,x1hp (by omega)]
  by_cases h2:k=l.length
  .rw[x1ez h2,h2];simp
  .rw[x1ey h2,x1hi (by simp;omega)];rfl
def OutIn(k:Int)(out:List Int):Prop:=∀i,-(2048*k)<=at0 out i/\at0 out i<=2048*k
theorem OutIn.app{k:Nat}{out:List Int}(h:OutIn k out){x:Int}(h1:-(2048*((k+1:Nat):Int))<=x)(h2:x<=2048*((k+1:Nat):Int)):OutIn ((k+1:Nat):Int) (out++[x]):=by
 intro i
 rw[at0_app]
 have:=h i
 split
 .omega
 .split<;>omega
theorem l_Ints(d:Nat)(hs:FHs){a b:AV}{l k:List Int}(ha:Ints a l)(hb:Ints b k)(he:l.length=k.length)(hl:l.length<=1000000):∀(suf suk:List Int) (i j:Nat) (m:Mem) (fc:Nat),l.drop i=suf->k.drop i=suk->suf.length<j ->
 ∃m',x54 (xr4 d) hs 0 j a b (I i) m fc=some (B (decide (suf=suk)),m'):=by
 intro suf
 induction suf with
 |nil=>
  intro suk i j m fc hd hk hj
  obtain⟨j,rfl⟩:∃i,j=i+1:=⟨j-1,by simp at hj;omega⟩
  have hd0:=x1g2.mp hd
  have hsk:suk=[]:=by rw[<-hk];exact x1g2.mpr (by omega)
  have hi:¬((i:Int)<(l.length:Int)):=by omega
  simp only[x54]
  unfold x87
  simp[ha.len xru,hi,xfu,hsk]
 |cons x r ih=>
  intro suk i j m fc hd hk hj
  obtain⟨j,rfl⟩:∃i,j=i+1:=⟨j-1,by simp at hj;omega⟩
  obtain⟨hi,hie,hd⟩:=xtf hd
  have hi2:i<k.length:=by omega
  have hk2:suk=at0 k i::k.drop (i+1):=by rw[<-hk,xsj hi2,xrn hi2]
  have hi':(i:Int)<(l.length:Int):=by omega
  have ix:=ha.ix xrm hi
  have ix2:=hb.ix xrm hi2
  have e1:at0 l i=x:=by rw[xrn hi,hie]
  simp only[x54]
  unfold x87
  simp(disch:=omega) [ha.len xru,hi',ix,ix2,xs2,e1,hk2]
  by_cases c:x=at0 k i
  .obtain⟨m',h'⟩:=ih _ (i+1) j m (fc+16) hd rfl (by simp at hj;omega)
   simp(disch:=omega) [c]
   exact⟨m',h'⟩
  .simp[c]
theorem w_Ints(d:Nat){a b:AV}{l k:List Int}(ha:Ints a l)(hb:Ints b k)(hl:l.length<=1000000)(m:Mem):xr8 (xr4 (d+1)) x45 [a,b] m=some (B (decide (l=k)),m):=by
 refine Ans.call0 ?_ (by simp[ha.still,hb.still]) rfl
 unfold Ans
 rw[xla]
 unfold xdh x88 xfv
 by_cases he:l.length=k.length
 .obtain⟨m',h'⟩:=l_Ints d [] ha hb he hl l k 0 NN ⟨[],1⟩ 7 rfl rfl (by rw[xrg];omega)
  simp[mem0,ha.len xru,hb.len xru,he]
  exact⟨m',h'⟩
 .have:¬(l=k):=λe=>he (by rw[e])
  have he2:¬((l.length:Int)=(k.length:Int)):=by omega
  simp[mem0,ha.len xru,hb.len xru,he2,this]
def Edge.same(a b:Edge):Bool:=decide (a.fr=b.fr)&&(decide (a.to=b.to)&&(decide (a.jump=b.jump)&&decide (a.wt=b.wt)))
theorem Edge.same_iff{a b:Edge}:a.same b=true↔a=b:=by
 cases a;cases b
 simp[Edge.same]
theorem Edge.still1(e:Edge):e.c.all Go.Ix.still1=true:=rfl
end Go.Ix
