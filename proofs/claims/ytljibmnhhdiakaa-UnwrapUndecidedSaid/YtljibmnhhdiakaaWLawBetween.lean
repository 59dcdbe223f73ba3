import Derived.Test.YtljibmnhhdiakaaWgG
import Derived.Test.YtljibmnhhdiakaaWEq
import Derived.Test.YtljibmnhhdiakaaWAlong
set_option linter.unusedSimpArgs false
set_option linter.unusedVariables false
namespace Go.Ix
open Go.Proofs
def mP(n:Nat)(l:List Edge)(fl T:List Int)(a b:Nat):Int:=at0 (x1t1 n (waysF n l fl T a).len T a) b
theorem mP_eq{n:Nat}{l:List Edge}{fl T:List Int}(hTb:∀k,-1000000<=at0 T k/\at0 T k<=1000000){a b:Nat}(hb:b<n)(hL:LenB ((200:Nat)*GB) (waysF n l fl T a).len) :
 (∃x,dOf n l fl T a b=some x/\mP n l fl T a b=x/\-402200000<=x/\x<=402200000)\/(dOf n l fl T a b=none/\¬mP n l fl T a b<farM):=by
 have hG:((200:Nat):Int)*GB=400200000:=by rfl
 rw[hG]at hL
 have h1:=hL b
 have h2:=hTb a
 have h3:=hTb b
 have hfar:farM=1152921504606846976:=rfl
 have e:mP n l fl T a b=if at0 (waysF n l fl T a).len b<farM then at0 (waysF n l fl T a).len b+(at0 T b-at0 T a)else at0 (waysF n l fl T a).len b:=by
  unfold mP
  rw[x1ri (by rw[x1vz];exact hb),x20h hb]
 rw[e]
 unfold dOf x1yb
 by_cases c:at0 (waysF n l fl T a).len b<farM
 .left
  rw[if_pos c,if_pos ⟨hb,c⟩]
  exact⟨_,rfl,by omega,by omega,by omega⟩
 .right
  rw[if_neg c,if_neg fun x=>c x.2]
  exact⟨rfl,c⟩
structure Facts (n:Nat) (l:List Edge) (fl T:List Int):Prop where
 tb:∀k,-1000000<=at0 T k/\at0 T k<=1000000
 cs:CS (at0 T) (l.zip fl)
 ds:∀a,a<n->Dist n (l.zip fl) a (dOf n l fl T a)
 lb:∀a,a<n->LenB ((200:Nat)*GB) (waysF n l fl T a).len
theorem x23a{J:Int}{n:Nat}{l:List Edge}{fl tu ex:List Int}(hS:Slim J n l)(h:Solved J n l fl tu ex):Facts n l fl (x1ra n (x1r9 n l) tu):=by
 have hj0:=hS.j0
 have hj1:=hS.j1
 have hT:=fun k=>h.turns hj0 k
 have tb:∀k,-1000000<=at0 (x1ra n (x1r9 n l) tu) k/\at0 (x1ra n (x1r9 n l) tu) k<=1000000:=fun k=>by have:=hT k;omega
 exact⟨tb,h.best.2,fun a ha=>x20r h.flow (fun k=>h.f.flb k) tb ha,fun a ha=>lenB_of h.flow (fun k=>h.f.flb k) tb ha⟩
theorem x26r{n:Nat}{l:List Edge}{fl T:List Int}(F:Facts n l fl T){a b:Nat}(ha:a<n)(hb:b<n):fixP (mP n l fl T) a b=true↔Fixd (dOf n l fl T) (at0 T) a b:=by
 rw[x26o F.cs F.ds ha hb]
 have hfar:farM=1152921504606846976:=rfl
 unfold fixP
 simp only[Bool.and_eq_true,decide_eq_true_eq]
 rcases mP_eq F.tb hb (F.lb a ha)with ⟨x,h1,h2,h3,h4⟩|⟨h1,h2⟩
 .rcases mP_eq F.tb ha (F.lb b hb)with ⟨y,k1,k2,k3,k4⟩|⟨k1,k2⟩
  .rw[h2,k2]
   constructor
   .rintro⟨-,-,e⟩;exact⟨x,y,h1,k1,e⟩
   .rintro⟨x',y',e1,e2,e3⟩
    rw[h1]at e1;rw[k1]at e2
    cases e1;cases e2
    exact⟨by omega,by omega,e3⟩
  .constructor
   .rintro⟨-,e,-⟩;exact absurd e k2
   .rintro⟨x',y',e1,e2,e3⟩;rw[k1]at e2;cases e2
 .constructor
  .rintro⟨e,-⟩;exact absurd e h2
  .rintro⟨x',y',e1,e2,e3⟩;rw[h1]at e1;cases e1
theorem dR_eq{J:Int}{n:Nat}{l:List Edge}{fl tu ex fr:List Int}(hS:Slim J n l)(hB:BestF n l fr)(h:Solved J n l fl tu ex){a b:Nat}(ha:a<n)(hb:b<n):dR n l fr a b=(dOf n l fl (x1ra n (x1r9 n l) tu) a b).getD farR:=(most_same hS hB h ha).2 b hb
theorem x26s{J:Int}{n:Nat}{l:List Edge}{fl tu ex fr:List Int}(hS:Slim J n l)(hB:BestF n l fr)(h:Solved J n l fl tu ex){a b:Nat}(ha:a<n)(hb:b<n):relB n l fr a b=true↔Fixd (dOf n l fl (x1ra n (x1r9 n l) tu)) (at0 (x1ra n (x1r9 n l) tu)) a b:=by
 have F:=x23a hS h
 rw[x26o F.cs F.ds ha hb]
 have hff:farR=1000000000:=rfl
 unfold relB
 rw[dR_eq hS hB h ha hb,dR_eq hS hB h hb ha]
 simp only[Bool.and_eq_true,decide_eq_true_eq,Bool.not_eq_true',Bool.or_eq_false_iff,decide_eq_false_iff_not]
 rcases mP_eq F.tb hb (F.lb a ha)with ⟨x,h1,h2,h3,h4⟩|⟨h1,h2⟩
 .rcases mP_eq F.tb ha (F.lb b hb)with ⟨y,k1,k2,k3,k4⟩|⟨k1,k2⟩
  .rw[h1,k1,Option.getD_some,Option.getD_some]
   constructor
   .rintro⟨-,e⟩;exact⟨x,y,rfl,rfl,by omega⟩
   .rintro⟨x',y',e1,e2,e3⟩
    cases e1;cases e2
    exact⟨⟨by omega,by omega⟩,by omega⟩
  .rw[k1,Option.getD_none]
   constructor
   .rintro⟨⟨-,e⟩,-⟩;exact absurd hff e
   .rintro⟨x',y',e1,e2,e3⟩;cases e2
 .rw[h1,Option.getD_none]
  constructor
  .rintro⟨⟨e,-⟩,-⟩;exact absurd hff e
  .rintro⟨x',y',e1,e2,e3⟩;cases e1
theorem nbP_mem{n:Nat}{M:Nat->Nat->Int}{a b:Nat}:(b:Int)∈nbP n M a↔b<n/\fixP M a b=true:=by
 unfold nbP
 rw[List.mem_map]
 constructor
 .rintro⟨k,hk,e⟩
  have:k=b:=by simp only[Int.ofNat_eq_natCast]at e;omega
  subst this
  obtain⟨h1,h2⟩:=List.mem_filter.mp hk
  exact⟨List.mem_range.mp h1,h2⟩
 .rintro⟨h1,h2⟩
  exact⟨b,List.mem_filter.mpr ⟨List.mem_range.mpr h1,h2⟩,rfl⟩
theorem cls_num{J:Int}{n:Nat}{l:List Edge}{fl tu ex:List Int}(hS:Slim J n l)(h:Solved J n l fl tu ex):Sym n (nbP n (mP n l fl (x1ra n (x1r9 n l) tu))) /\
 ∀a b,a<n->b<n->(at0 (numM n (nbP n (mP n l fl (x1ra n (x1r9 n l) tu)))).1 a=at0 (numM n (nbP n (mP n l fl (x1ra n (x1r9 n l) tu)))).1 b↔Fixd (dOf n l fl (x1ra n (x1r9 n l) tu)) (at0 (x1ra n (x1r9 n l) tu)) a b):=by
 have F:=x23a hS h
 refine num_fix (by have:=hS.nn;omega) F.cs F.ds (fun a b ha=>?_) (fun a _ b hb=>nbP_in hb)
 rw[nbP_mem]
 constructor
 .rintro⟨h1,h2⟩;exact⟨h1,(x26r F ha h1).mp h2⟩
 .rintro⟨h1,h2⟩;exact⟨h1,(x26r F ha h1).mpr h2⟩
theorem dR_bound{J:Int}{n:Nat}{l:List Edge}{fr:List Int}(hS:Slim J n l)(hB:BestF n l fr):(∀a,a<n->(x1s4 (x1r7 l fr) n (x1s5 n a)).length=n)/\∀a b,a<n->b<n->-1000000<=dR n l fr a b/\dR n l fr a b<=1000000000:=by
 have hA:=x238 hS hB.len
 have hnn:=hS.nn
 have hsl:(x1r7 l fr).length<=40:=by
  have:=x1ya l fr l.length
  have:=hS.ll
  unfold x1r7
  omega
 have hns:n*(x1r7 l fr).length<=12*40:=Nat.mul_le_mul hnn hsl
 have key:∀a,a<n->OInv n (l.zip fr) a (n*(x1r7 l fr).length) (x1s4 (x1r7 l fr) n (x1s5 n a)):=fun a ha=>(x1x3 hA (x20q ha (l.zip fr)).1 n (by omega)).1
 refine⟨fun a ha=>(key a ha).len,fun a b ha hb=>?_⟩
 have hff:farR=1000000000:=rfl
 unfold dR
 rcases(key a ha).ok b hb with e|⟨e1,e2,-⟩<;>omega
end Go.Ix
