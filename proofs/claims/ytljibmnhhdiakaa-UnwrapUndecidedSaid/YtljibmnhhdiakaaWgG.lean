import Derived.Test.YtljibmnhhdiakaaWgD
import Derived.Test.YtljibmnhhdiakaaWgC
import Derived.Test.YtljibmnhhdiakaaWLawWithin
set_option linter.unusedSimpArgs false
set_option linter.unusedVariables false
namespace Go.Ix
def farR:Int:=1000000000
def x1x2(S:List Stp)(i:Nat)(o:List Int):List Int:=
 if at0 o (stpAt S i).fr.toNat<farR/\at0 o (stpAt S i).fr.toNat-(stpAt S i).gain<at0 o (stpAt S i).to.toNat then o.set (stpAt S i).to.toNat (at0 o (stpAt S i).fr.toNat-(stpAt S i).gain)else o
def x1w2(S:List Stp):Nat->Nat->List Int->List Int
 |0,_,o=>o
 |k+1,i,o=>x1w2 S k (i+1) (x1x2 S i o)
def x1s4(S:List Stp):Nat->List Int->List Int
 |0,o=>o
 |k+1,o=>x1w2 S S.length 0 (x1s4 S k o)
def x1s5(n u:Nat):List Int:=(List.replicate n farR).set u 0
structure SArc (n:Nat) (z:List (Edge×Int)) (S:List Stp):Prop where
 ok:∀i,i<S.length->(0<=(stpAt S i).fr/\(stpAt S i).fr<n)/\(0<=(stpAt S i).to/\(stpAt S i).to<n)/\(stpAt S i).fr≠(stpAt S i).to/\(-5<=(stpAt S i).gain/\(stpAt S i).gain<=5)/\Arc z (stpAt S i).fr.toNat (stpAt S i).to.toNat (-(stpAt S i).gain)
 all:∀u v c,Arc z u v c->∃i,i<S.length/\(stpAt S i).fr.toNat=u/\(stpAt S i).to.toNat=v/\(stpAt S i).gain=-c
theorem x238{J:Int}{n:Nat}{l:List Edge}{fl:List Int}(hS:Slim J n l)(hl:fl.length=l.length):SArc n (l.zip fl) (x1r7 l fl):=by
 have hok:=x22l (fl:=fl) hS
 have hj:=hS.j1
 refine⟨fun i hi=>?_,fun u v c ha=>?_⟩
 .obtain⟨h1,h2,h3,h4,h5⟩:=hok.ok i hi
  refine⟨h1,h2,h3,by omega,?_⟩
  have:=arc_steps hl (List.getElem_mem hi)
  rwa[<-x1wk hi]at this
 .obtain⟨s,hs,e1,e2,e3⟩:=x25l hl ha
  obtain⟨i,hi,rfl⟩:=List.mem_iff_getElem.mp hs
  exact⟨i,hi,by rw[x1wk hi];exact e1,by rw[x1wk hi];exact e2,by rw[x1wk hi];exact e3⟩
structure OInv (n:Nat) (z:List (Edge×Int)) (u t:Nat) (o:List Int):Prop where
 len:o.length=n
 ok:∀v,v<n->at0 o v=farR\/(-(5*(t:Int))<=at0 o v/\at0 o v<=5*t/\Way z u v (at0 o v))
theorem x26m{n:Nat}{z:List (Edge×Int)}{S:List Stp}(hS:SArc n z S){u t i:Nat}{o:List Int}(h:OInv n z u t o)(hi:i<S.length)(ht:t<=100000) :
 OInv n z u (t+1) (x1x2 S i o)/\(∀v,v<n->at0 (x1x2 S i o) v<=at0 o v)/\(at0 o (stpAt S i).fr.toNat<farR->at0 (x1x2 S i o) (stpAt S i).to.toNat<=at0 o (stpAt S i).fr.toNat-(stpAt S i).gain):=by
 obtain⟨⟨f0,f1⟩,⟨t0,t1⟩,hne,⟨g0,g1⟩,ha⟩:=hS.ok i hi
 have hto:(stpAt S i).to.toNat<o.length:=by rw[h.len];omega
 have hff:farR=1000000000:=rfl
 unfold x1x2
 by_cases c:at0 o (stpAt S i).fr.toNat<farR/\at0 o (stpAt S i).fr.toNat-(stpAt S i).gain<at0 o (stpAt S i).to.toNat
 .rw[if_pos c]
  have hset:∀v,at0 (o.set (stpAt S i).to.toNat (at0 o (stpAt S i).fr.toNat-(stpAt S i).gain)) v=if v=(stpAt S i).to.toNat then at0 o (stpAt S i).fr.toNat-(stpAt S i).gain else at0 o v:=fun v=>x1sa hto
  refine⟨⟨by simpa using h.len,fun v hv=>?_⟩,fun v hv=>?_,fun _=>by rw[hset,if_pos rfl];exact Int.le_refl _⟩
  .rw[hset]
   by_cases e:v=(stpAt S i).to.toNat
   .rw[if_pos e]
    rcases h.ok (stpAt S i).fr.toNat (by omega)with hf|⟨b0,b1,hw⟩
    .omega
    .right
     refine⟨by omega,by omega,?_⟩
     have:=hw.cons ha
     rw[e]
     rwa[Int.sub_eq_add_neg]
   .rw[if_neg e]
    rcases h.ok v hv with hf|⟨b0,b1,hw⟩
    .exact Or.inl hf
    .exact Or.inr ⟨by omega,by omega,hw⟩
  .rw[hset]
   by_cases e:v=(stpAt S i).to.toNat
   .rw[if_pos e,e];omega
   .rw[if_neg e];exact Int.le_refl _
 .rw[if_neg c]
  refine⟨⟨h.len,fun v hv=>?_⟩,fun v hv=>Int.le_refl _,fun hlt=>?_⟩
  .rcases h.ok v hv with hf|⟨b0,b1,hw⟩
   .exact Or.inl hf
   .exact Or.inr ⟨by omega,by omega,hw⟩
  .have:¬(at0 o (stpAt S i).fr.toNat-(stpAt S i).gain<at0 o (stpAt S i).to.toNat):=fun x=>c ⟨hlt,x⟩
   omega
theorem x239{n:Nat}{z:List (Edge×Int)}{S:List Stp}(hS:SArc n z S){u:Nat}:∀(k i t:Nat) {o:List Int},i+k<=S.length->OInv n z u t o->t+k<=100000 ->
 OInv n z u (t+k) (x1w2 S k i o)/\(∀v,v<n->at0 (x1w2 S k i o) v<=at0 o v)/\∀j,i<=j->j<i+k->∀D,D<farR->at0 o (stpAt S j).fr.toNat<=D->at0 (x1w2 S k i o) (stpAt S j).to.toNat<=D-(stpAt S j).gain
 |0,i,t,o,_,h,_=>⟨h,fun _ _=>Int.le_refl _,fun j h1 h2=>by omega⟩
 |k+1,i,t,o,hk,h,ht=>by
  obtain⟨a1,a2,a3⟩:=x26m (i:=i) hS h (by omega) (by omega)
  obtain⟨b1,b2,b3⟩:=x239 hS k (i+1) (t+1) (by omega) a1 (by omega)
  simp only[x1w2]
  refine⟨by rw[show t+(k+1)=t+1+k by omega];exact b1,fun v hv=>by have:=a2 v hv;have:=b2 v hv;omega,fun j j1 j2 D hD hle=>?_⟩
  obtain⟨⟨f0,f1⟩,⟨t0,t1⟩,-⟩:=hS.ok j (by omega)
  by_cases e:j=i
  .subst e
   have h1:=a3 (by omega)
   have h2:=b2 (stpAt S j).to.toNat (by omega)
   omega
  .exact b3 j (by omega) (by omega) D hD (by have:=a2 (stpAt S j).fr.toNat (by omega);omega)
theorem x1x3{n:Nat}{z:List (Edge×Int)}{S:List Stp}(hS:SArc n z S){u:Nat}{o:List Int}(h:OInv n z u 0 o):∀r,r*S.length<=100000->OInv n z u (r*S.length) (x1s4 S r o)/\∀v,v<n->at0 (x1s4 S r o) v<=at0 o v
 |0,_=>⟨by rw[Nat.zero_mul];exact h,fun _ _=>Int.le_refl _⟩
 |r+1,hr=>by
  rw[Nat.succ_mul]at hr ⊢
  obtain⟨a1,a2⟩:=x1x3 hS h r (by omega)
  obtain⟨b1,b2,-⟩:=x239 hS S.length 0 _ (by omega) a1 hr
  exact⟨b1,fun v hv=>by have:=a2 v hv;have:=b2 v hv;simp only[x1s4];omega⟩
theorem x20q{n u:Nat}(hu:u<n)(z:List (Edge×Int)):OInv n z u 0 (x1s5 n u)/\at0 (x1s5 n u) u=0:=by
 have hget:∀v,v<n->at0 (x1s5 n u) v=if v=u then 0 else farR:=fun v hv=>by
  unfold x1s5
  rw[x1sa (by simpa using hu)]
  split
  .rfl
  .rw[x1ri (by simpa using hv)];simp
 refine⟨⟨by simp[x1s5],fun v hv=>?_⟩,by rw[hget u hu,if_pos rfl]⟩
 rw[hget v hv]
 by_cases e:v=u
 .subst e
  rw[if_pos rfl]
  exact Or.inr ⟨by omega,by omega,.nil⟩
 .rw[if_neg e];exact Or.inl rfl
inductive WayN (z:List (Edge×Int)) (u:Nat):Nat->Int->Nat->Prop
 |nil:WayN z u u 0 0
 |cons {v w:Nat} {c d:Int} {k:Nat}:WayN z u v c k->Arc z v w d->WayN z u w (c+d) (k+1)
theorem wayN_le{n:Nat}{z:List (Edge×Int)}{S:List Stp}(hS:SArc n z S){u:Nat}(hu:u<n){v:Nat}{c:Int}{k:Nat}(hw:WayN z u v c k)(hk:k<=1000):c<=5*k/\∀r,k<=r->r*S.length<=100000->at0 (x1s4 S r (x1s5 n u)) v<=c:=by
 have h0:=x20q hu z
 have hff:farR=1000000000:=rfl
 induction hw with
 |nil=>exact⟨by omega,fun r _ hr=>by have:=(x1x3 hS h0.1 r hr).2 u hu;omega⟩
 | @cons v w c d k h1 ha ih=>
   obtain⟨i1,i2⟩:=ih (by omega)
   obtain⟨i,hi,e1,e2,e3⟩:=hS.all _ _ _ ha
   obtain⟨-,-,-,⟨g0,g1⟩,-⟩:=hS.ok i hi
   refine⟨by omega,fun r hr hrl=>?_⟩
   obtain⟨r,rfl⟩:∃r',r=r'+1:=⟨r-1,by omega⟩
   rw[Nat.succ_mul]at hrl
   have h2:=i2 r (by omega) (by omega)
   have hO:=(x1x3 hS h0.1 r (by omega)).1
   have h3:=(x239 hS S.length 0 _ (by omega) hO hrl).2.2 i (by omega) (by omega) c (by omega) (by rw[e1];exact h2)
   rw[e2,e3]at h3
   simp only[x1s4]
   omega
theorem way_n{n:Nat}{l:List Edge}{fl tu ex:List Int}(h:FlowOK n l fl tu ex){fr:Nat}{t:Tour}{rk:Nat->Nat}(W:WaysOK n l fl tu fr t rk):∀(r v:Nat),v<n->rk v<r->at0 t.len v<farM ->
 ∃ps:List Nat,WayN (l.zip fl) fr v (at0 t.len v-at0 tu fr+at0 tu v) ps.length/\(∀w∈ps,w<n/\rk w<=rk v)/\ps.Nodup:=by
 intro r
 induction r with
 |zero=>intro v _ hh;omega
 |succ r ih=>
  intro v hv hr hl
  by_cases e:v=fr
  .subst e
   refine⟨[],?_,fun w hw=>by simp at hw,List.nodup_nil⟩
   rw[W.z,show(0:Int)-at0 tu v+at0 tu v=0 by omega]
   exact .nil
  .obtain⟨b,k,b1,⟨b2,b2'⟩,b3,b4,b5,b6,b7,b8⟩:=x1y9 h W hv e hl
   obtain⟨ps,p1,p2,p3⟩:=ih b b1 (by omega) b2
   have hx:(edgeAt l k,at0 fl k)∈l.zip fl:=(x1t0 h.fll).mpr ⟨k,b5,rfl⟩
   refine⟨v::ps,?_,fun w hw=>?_,List.nodup_cons.mpr ⟨fun hw=>by have:=(p2 v hw).2;omega,p3⟩⟩
   .rcases b8 with ⟨c1,c2,c3,c4,c5⟩|⟨c1,c2,c3,c4,c5⟩
    .have ha:Arc (l.zip fl) b v (edgeAt l k).jump:=⟨_,hx,Or.inr ⟨by simp only;omega,by simp only;omega,by simp only;omega,rfl⟩⟩
     have:=p1.cons ha
     rw[show at0 t.len b-at0 tu fr+at0 tu b+(edgeAt l k).jump=at0 t.len v-at0 tu fr+at0 tu v by omega]at this
     exact this
    .have ha:Arc (l.zip fl) b v (-(edgeAt l k).jump):=⟨_,hx,Or.inl ⟨by simp only;omega,by simp only;omega,by simp only;omega,rfl⟩⟩
     have:=p1.cons ha
     rw[show at0 t.len b-at0 tu fr+at0 tu b+-(edgeAt l k).jump=at0 t.len v-at0 tu fr+at0 tu v by omega]at this
     exact this
   .rcases List.mem_cons.mp hw with rfl|hw
    .exact⟨hv,Nat.le_refl _⟩
    .obtain⟨q1,q2⟩:=p2 w hw
     exact⟨q1,by omega⟩
theorem lenB_of{n:Nat}{l:List Edge}{fl tu ex:List Int}(h:FlowOK n l fl tu ex)(hf:∀k,-1000<=at0 fl k/\at0 fl k<=1000)(ht:∀k,-1000000<=at0 tu k/\at0 tu k<=1000000){p:Nat}(hp:p<n):LenB ((200:Nat)*GB) (waysF n l fl tu p).len:=by
 have hS:FrzS (.plit [I n,.slit (l.flatMap Edge.c) l.length false,.slit (fl.flatMap intE) fl.length false,.slit (tu.flatMap intE) tu.length false,.slit (ex.flatMap intE) ex.length false,.slit ((List.range n).map fun v=>.slit ((adjI l (v:Nat)).flatMap intE) (adjI l (v:Nat)).length false) n false]) n l fl tu ex:=by
  refine⟨⟨_,_,_,_,_,_,rfl,Sl.lit l false,Sl.lit fl false,Sl.lit tu false,Sl.lit ex false,by simp,fun v hv=>?_⟩,h.fll,h.tul,h.exl,h.nn,h.ll,h.ed,hf,ht⟩
  rw[List.getElem_map,List.getElem_range]
  exact Sl.lit _ false
 obtain⟨_,_,-,-,hL⟩:=w_ways 0 hS (p:=(p:Int)) (by omega) (by omega) 0
 exact hL
def dOf(n:Nat)(l:List Edge)(fl T:List Int)(a:Nat):Nat->Option Int:=x1yb n (waysF n l fl T a).len T a
theorem x20r{n:Nat}{l:List Edge}{fl T ex:List Int}(h:FlowOK n l fl T ex)(hf:∀k,-1000<=at0 fl k/\at0 fl k<=1000)(ht:∀k,-1000000<=at0 T k/\at0 T k<=1000000){a:Nat}(ha:a<n):Dist n (l.zip fl) a (dOf n l fl T a):=by
 obtain⟨rk,W⟩:=x22i h.red ha h.nn
 exact dist_ok h ha W (lenB_of h hf ht ha) ht
theorem x26n{J:Int}{n:Nat}{l:List Edge}{fr T:List Int}(hS:Slim J n l)(hB:BestF n l fr)(hT:T.length=n)(hC:CS (at0 T) (l.zip fr)):FlowOK n l fr T (List.replicate n 0):=by
 refine⟨by have:=hS.nn;omega,by have:=hS.ll;omega,hS.ed,hB.len,hT,by simp,fun k hk=>?_,fun k hk=>?_,fun v hv=>?_⟩
 .exact hB.feas.cap _ ((x1t0 hB.len).mpr ⟨k,hk,rfl⟩)
 .exact hC _ ((x1t0 hB.len).mpr ⟨k,hk,rfl⟩)
 .rw[x1z5,hB.feas.cons v hv]
theorem mostR_ok{J:Int}{n:Nat}{l:List Edge}{fr T:List Int}(hS:Slim J n l)(hB:BestF n l fr)(hT:T.length=n)(hTb:∀k,-1000000<=at0 T k/\at0 T k<=1000000)(hC:CS (at0 T) (l.zip fr)){a:Nat}(ha:a<n) :
 (x1s4 (x1r7 l fr) n (x1s5 n a)).length=n/\∀v,v<n->at0 (x1s4 (x1r7 l fr) n (x1s5 n a)) v=(dOf n l fr T a v).getD farR:=by
 have hF:=x26n hS hB hT hC
 have hfb:=fun k=>hB.bound hS k
 have hD:=x20r hF (fun k=>by have:=hfb k;omega) hTb ha
 obtain⟨rk,W⟩:=x22i hF.red ha hF.nn
 have hA:=x238 hS hB.len
 have hnn:=hS.nn
 have hsl:(x1r7 l fr).length<=40:=by
  have:=x1ya l fr l.length
  have:=hS.ll
  unfold x1r7
  omega
 have hns:n*(x1r7 l fr).length<=100000:=by
  have:=Nat.mul_le_mul hnn hsl
  omega
 obtain⟨hO,hO2⟩:=x1x3 hA (x20q ha (l.zip fr)).1 n hns
 refine⟨hO.len,fun v hv=>?_⟩
 have hff:farR=1000000000:=rfl
 have hnb:(n*(x1r7 l fr).length:Nat)<=100000:=hns
 cases hd:dOf n l fr T a v with
 |none=>
  rw[Option.getD_none]
  rcases hO.ok v hv with e|⟨-,-,hw⟩
  .exact e
  .obtain⟨d,e,-⟩:=hD.le v _ hw
   rw[hd]at e
   cases e
 |some d=>
  rw[Option.getD_some]
  have hd':=hd
  unfold dOf x1yb at hd'
  by_cases e:v<n/\at0 (waysF n l fr T a).len v<farM
  rotate_left
  .rw[if_neg e]at hd';cases hd'
  rw[if_pos e]at hd'
  obtain⟨ps,p1,p2,p3⟩:=way_n hF W _ v hv (Nat.lt_succ_self _) e.2
  have hpl:=x22j p3 fun w hw=>(p2 w hw).1
  rw[Option.some.inj hd']at p1
  obtain⟨q1,q2⟩:=wayN_le hA ha p1 (by omega)
  have h1:=q2 n hpl hns
  rcases hO.ok v hv with e2|⟨-,-,hw⟩
  .omega
  .obtain⟨d',e3,h2⟩:=hD.le v _ hw
   rw[hd]at e3
   cases e3
   omega
theorem most_same{J:Int}{n:Nat}{l:List Edge}{fr fl tu ex:List Int}(hS:Slim J n l)(hB:BestF n l fr)(h:Solved J n l fl tu ex){a:Nat}(ha:a<n) :
 (x1s4 (x1r7 l fr) n (x1s5 n a)).length=n/\∀v,v<n->at0 (x1s4 (x1r7 l fr) n (x1s5 n a)) v=(dOf n l fl (x1ra n (x1r9 n l) tu) a v).getD farR:=by
 obtain⟨T,hT⟩:∃T,T=x1ra n (x1r9 n l) tu:=⟨_,rfl⟩
 have hTl:T.length=n:=by rw[hT];exact x1v6 _ _ _
 have hj0:=hS.j0
 have hj1:=hS.j1
 have hTb:∀k,-1000000<=at0 T k/\at0 T k<=1000000:=fun k=>by have:=h.turns hj0 k;rw[<-hT]at this;omega
 obtain⟨hF,hC⟩:=h.best
 rw[<-hT]at hC ⊢
 obtain⟨p,hp⟩:=hB.cs
 have e1:(l.zip fl).map Prod.fst=l:=by rw[List.map_fst_zip];rw[h.f.fll];exact Nat.le_refl _
 have e2:(l.zip fr).map Prod.fst=l:=by rw[List.map_fst_zip];rw[hB.len];exact Nat.le_refl _
 have hCr:CS (at0 T) (l.zip fr):=cs_any hF hB.feas (by rw[e1,e2]) hC hp
 obtain⟨m1,m2⟩:=mostR_ok hS hB hTl hTb hCr ha
 refine⟨m1,fun v hv=>?_⟩
 rw[m2 v hv]
 have hFr:=x26n hS hB hTl hCr
 have hFs:=h.flow
 rw[<-hT]at hFs
 have hbr:=fun k=>hB.bound hS k
 have hD1:=x20r hFr (fun k=>by have:=hbr k;omega) hTb ha
 have hD2:=x20r hFs (fun k=>h.f.flb k) hTb ha
 rw[dist_any hB.feas hF (by rw[e1,e2]) hCr hC ha hD1 hD2 v hv]
open Go.Proofs
structure MMem (n:Nat) (ev:AV) (o:List Int) (m:Mem):Prop where
 a:m.get (0,0,3)=some (.row [I n,ev] 0 false)
 b:m.get (0,4,15)=some (.row (o.flatMap intE) 0 false)
theorem l_opass(d:Nat)(hs:FHs){n u:Nat}{z:List (Edge×Int)}{S:List Stp}{st ev:AV}(hst:Sl Stp.c st S)(hS:SArc n z S)(hSl:S.length<=40)(rec0:AV->AV->AV->AV->Mem->Nat->Option (AV×Mem))(t10:AV) :
 ∀(k i j t:Nat) (o:List Int) (m:Mem) (fc:Nat),i+k=S.length->k<j->OInv n z u t o->t+k<=100000->MMem n ev o m ->
 ∃m' fc',x2m (x1qp d) hs 0 rec0 j (.ptr (0,0,3) 0 0) (srI (0,4,15) n) st t10 (I i) m fc=xg (x1qp d) hs 0 rec0 (.ptr (0,0,3) 0 0) (srI (0,4,15) n) st t10 m' fc'/\MMem n ev (x1w2 S k i o) m':=by
 intro k
 induction k with
 |zero=>
  intro i j t o m fc hk hj hO ht hM
  obtain⟨j,rfl⟩:∃i,j=i+1:=⟨j-1,by omega⟩
  have hi:¬((i:Int)<(S.length:Int)):=by omega
  refine⟨m,fc+4,?_,hM⟩
  simp only[x2m]
  unfold x73
  simp[hst.len x1wz,hi]
 |succ k ih=>
  intro i j t o m fc hk hj hO ht hM
  obtain⟨j,rfl⟩:∃i,j=i+1:=⟨j-1,by omega⟩
  have hiS:i<S.length:=by omega
  have hi:(i:Int)<(S.length:Int):=by omega
  obtain⟨⟨f0,f1⟩,⟨t0,t1⟩,hne,⟨g0,g1⟩,-⟩:=hS.ok i hiS
  obtain⟨hO',-,-⟩:=x26m hS hO hiS (by omega)
  obtain⟨rest,ix⟩:=hst.ixS (i:=(i:Int)) (by omega) hi
  rw[Int.toNat_natCast]at ix
  have hb1:=hO.ok (stpAt S i).fr.toNat (by omega)
  have hb2:=hO.ok (stpAt S i).to.toNat (by omega)
  have hff:farR=1000000000:=rfl
  have hx:x1w2 S (k+1) i o=x1w2 S k (i+1) (x1x2 S i o):=rfl
  rw[hx]
  have hrx:x1x2 S i o=if at0 o (stpAt S i).fr.toNat<farR/\at0 o (stpAt S i).fr.toNat-(stpAt S i).gain<at0 o (stpAt S i).to.toNat then o.set (stpAt S i).to.toNat (at0 o (stpAt S i).fr.toNat-(stpAt S i).gain)else o:=rfl
  obtain⟨s,hs'⟩:∃s,s=stpAt S i:=⟨_,rfl⟩
  rw[<-hs']at f0 f1 t0 t1 hne g0 g1 ix hb1 hb2 hrx
  have i1:=x1re (id:=(0,4,15)) (n:=n) f0 (by omega)
  have i2:=x1re (id:=(0,4,15)) (n:=n) t0 (by omega)
  have hol:=hO.len
  have l1:s.fr.toNat<o.length:=by omega
  have l2:s.to.toNat<o.length:=by omega
  have c1b:-1000000<=at0 o s.fr.toNat/\at0 o s.fr.toNat<=1000000000:=by rcases hb1 with h|⟨h1,h2,-⟩<;>omega
  have hg:=hM.b
  by_cases c1:at0 o s.fr.toNat<1000000000
  .by_cases c2:at0 o s.fr.toNat-s.gain<at0 o s.to.toNat
   .rw[if_pos ⟨by omega,c2⟩]at hrx
    rw[hrx]at hO' ⊢
    obtain⟨m',fc',e1,e2⟩:=ih (i+1) j (t+1) _ (m.set (0,4,15) (.row ((o.set s.to.toNat (at0 o s.fr.toNat-s.gain)).flatMap intE) 0 false)) (fc+52) (by omega) (by omega) hO' (by omega)
     ⟨by rw[Mem.get_set,if_neg (by simp)];exact hM.a,by rw[Mem.get_set,if_pos rfl]⟩
    refine⟨m',fc',?_,e2⟩
    rw[<-e1]
    simp only[x2m]
    unfold x73 x72 x6b
    simp(disch:=omega) [hst.len x1wz,hi,ix,i1,i2,hg,c1,c2,Mem.get_set]
   .rw[if_neg (fun x=>c2 x.2)]at hrx
    rw[hrx]at hO' ⊢
    obtain⟨m',fc',e1,e2⟩:=ih (i+1) j (t+1) o m (fc+43) (by omega) (by omega) hO' (by omega) hM
    refine⟨m',fc',?_,e2⟩
    rw[<-e1]
    simp only[x2m]
    unfold x73 x72 x6b
    simp(disch:=omega) [hst.len x1wz,hi,ix,i1,i2,hg,c1,c2]
  .rw[if_neg (fun x=>c1 (by omega))]at hrx
   rw[hrx]at hO' ⊢
   obtain⟨m',fc',e1,e2⟩:=ih (i+1) j (t+1) o m (fc+43) (by omega) (by omega) hO' (by omega) hM
   refine⟨m',fc',?_,e2⟩
   rw[<-e1]
   simp only[x2m]
   unfold x73 x72 x6b
   simp(disch:=omega) [hst.len x1wz,hi,ix,i1,i2,hg,c1]
theorem l_orounds(d:Nat)(hs:FHs){n u:Nat}{z:List (Edge×Int)}{S:List Stp}{st ev:AV}(hst:Sl Stp.c st S)(hS:SArc n z S)(hn:n<=12)(hSl:S.length<=40){o:List Int}(hO:OInv n z u 0 o) :
 ∀(k r j:Nat) (m:Mem) (fc:Nat),r+k=n->k<j->MMem n ev (x1s4 S r o) m ->
 ∃m',x2n (x1qp d) hs 0 j (.ptr (0,0,3) 0 0) (srI (0,4,15) n) st (I r) m fc=some (srI (0,4,15) n,m')/\MMem n ev (x1s4 S n o) m':=by
 intro k
 induction k with
 |zero=>
  intro r j m fc hk hj hM
  obtain⟨j,rfl⟩:∃i,j=i+1:=⟨j-1,by omega⟩
  have hi:¬((r:Int)<(n:Int)):=by omega
  obtain rfl:r=n:=by omega
  refine⟨m,?_,hM⟩
  simp only[x2n]
  unfold x95 xq
  simp[hM.a]
 |succ k ih=>
  intro r j m fc hk hj hM
  obtain⟨j,rfl⟩:∃i,j=i+1:=⟨j-1,by omega⟩
  have hi:(r:Int)<(n:Int):=by omega
  have hmul:(r+1)*S.length<=13*40:=Nat.mul_le_mul (by omega) hSl
  rw[Nat.succ_mul]at hmul
  obtain⟨h1,-⟩:=x1x3 hS hO r (by omega)
  obtain⟨m1,fc1,e1,e2⟩:=l_opass d hs (ev:=ev) hst hS hSl (x2n (x1qp d) hs 0 j) (I r) S.length 0 NN (r*S.length) (x1s4 S r o) m (fc+5) (by omega) (by rw[x1r6];omega) h1 (by omega) hM
  obtain⟨m2,f1,f2⟩:=ih (r+1) j m1 (fc1+3) (by omega) (by omega) e2
  refine⟨m2,?_,f2⟩
  have hL:∀(t3 t7 t9 t10:AV) (M:Mem) (fc:Nat),x2n (x1qp d) hs 0 (j+1) t3 t7 t9 t10 M fc=x95 (x1qp d) hs 0 (x2n (x1qp d) hs 0 j) t3 t7 t9 t10 M fc:=fun _ _ _ _ _ _=>rfl
  rw[hL]
  unfold x95 x94
  rw[show((0:Nat):Int)=0 from rfl]at e1
  simp only[x1rh,x1qt,x1qy,hM.a,x1r0,Nat.beq_refl,x1qw,List.drop_zero,rd_f,x1s6,hi,decide_true,x1ru,Nat.zero_add]
  rw[e1]
  unfold xg
  simp(disch:=omega)
  simpa using f1
def x1ug(n k:Nat):List Int:=List.replicate k farR++List.replicate (n-k) 0
theorem fillM_len{n k:Nat}(h:k<=n):(x1ug n k).length=n:=by simp[x1ug];omega
theorem x28z{n k:Nat}(h:k<n):(x1ug n k).set k farR=x1ug n (k+1):=by
 unfold x1ug
 rw[show n-k=(n-(k+1))+1 by omega]
 rw[List.set_append_right _ _ (by simp),List.length_replicate,Nat.sub_self,List.replicate_succ,List.set_cons_zero,List.replicate_succ',List.append_assoc]
 rfl
theorem l_fill(d:Nat)(hs:FHs){n:Nat}{ev t1 t2:AV}(hn:n<=200) :
 ∀(r k j:Nat) (m:Mem) (fc:Nat),k+r=n->r<j->MMem n ev (x1ug n k) m ->
 ∃m' fc',x4n (x1qp d) hs 0 j t1 t2 (.ptr (0,0,3) 0 0) (srI (0,4,15) n) (I k) m fc=x39 (x1qp d) hs 0 t1 t2 (.ptr (0,0,3) 0 0) (srI (0,4,15) n) m' fc'/\MMem n ev (List.replicate n farR) m':=by
 intro r
 induction r with
 |zero=>
  intro k j m fc hk hj hM
  obtain⟨j,rfl⟩:∃i,j=i+1:=⟨j-1,by omega⟩
  obtain rfl:k=n:=by omega
  have e:x1ug k k=List.replicate k farR:=by simp[x1ug]
  rw[e]at hM
  refine⟨m,fc+4,?_,hM⟩
  simp only[x4n]
  unfold xc3
  simp[hM.a]
 |succ r ih=>
  intro k j m fc hk hj hM
  obtain⟨j,rfl⟩:∃i,j=i+1:=⟨j-1,by omega⟩
  have hi:(k:Int)<(n:Int):=by omega
  have l1:k<(x1ug n k).length:=by rw[fillM_len (by omega)];omega
  have i1:sIx 1 (srI (0,4,15) n) (I k)=some (.ptr (0,4,15) 0 k):=by simpa using x1re (id:=(0,4,15)) (n:=n) (k:=(k:Int)) (by omega) (by omega)
  obtain⟨m',fc',e1,e2⟩:=ih (k+1) j (m.set (0,4,15) (.row ((x1ug n (k+1)).flatMap intE) 0 false)) (fc+11) (by omega) (by omega) ⟨by rw[Mem.get_set,if_neg (by simp)];exact hM.a,by rw[Mem.get_set,if_pos rfl]⟩
  refine⟨m',fc',?_,e2⟩
  rw[<-e1,<-x28z (by omega)]
  simp only[x4n]
  unfold xc3
  have hfs:=x1ss (v:=farR) l1
  simp only[show farR=1000000000 from rfl]at hfs ⊢
  simp(disch:=omega) [hM.a,hM.b,hi,i1,hfs]
theorem w_rMost(d:Nat){J:Int}{n:Nat}{ev fa:AV}{l:List Edge}{fr:List Int}(h:Sl Edge.c ev l)(hSl:Slim J n l)(hf:Ints fa fr)(hB:BestF n l fr){a:Nat}(ha:a<n)(m:Mem) :
 x1qq (x1qp (d+2)) x5i [.agg [I n,ev],fa,I a] m=some (.slit ((x1s4 (x1r7 l fr) n (x1s5 n a)).flatMap intE) n false,m):=by
 obtain⟨S,hS'⟩:∃S,S=x1r7 l fr:=⟨_,rfl⟩
 have hA:=x238 hSl hB.len
 have hnn:=hSl.nn
 have hll:=hSl.ll
 have hSlen:S.length<=40:=by
  have:=x1ya l fr l.length
  rw[hS']
  unfold x1r7
  omega
 have hfb:=fun k=>hB.bound hSl k
 have hI:=(x20q ha (l.zip fr)).1
 obtain⟨m1,hm1⟩:∃m1:Mem,m1=((⟨[],1⟩:Mem).new (0,0,3) (.row [I n,ev] 0 false)).new (0,4,15) (.row ((List.replicate n (0:Int)).flatMap intE) 0 false):=⟨_,rfl⟩
 have hM1:MMem n ev (x1ug n 0) m1:=⟨by rw[hm1,Mem.get_new,if_neg (by simp)];simp,by rw[hm1];simp[x1ug]⟩
 obtain⟨m2,fc2,e1,hM2⟩:=l_fill (d+1) [] (ev:=ev) (t1:=fa) (t2:=I (a:Int)) (by omega) n 0 NN m1 7 (by omega) (by rw[x1r6];omega) hM1
 obtain⟨m3,hm3⟩:∃m3:Mem,m3=m2.set (0,4,15) (.row ((x1s5 n a).flatMap intE) 0 false):=⟨_,rfl⟩
 have hM3:MMem n ev (x1s5 n a) m3:=⟨by rw[hm3,Mem.get_set,if_neg (by simp)];exact hM2.a,by rw[hm3,Mem.get_set,if_pos rfl]⟩
 obtain⟨st,hst,hsteps⟩:=w_steps d (n:=n) h hf (by omega) hB.len (fun k hk=>(x1tw hSl.ed hk).1) (fun k=>by have:=hfb k;omega) m3
 rw[<-hS']at hst hA
 obtain⟨m4,e2,hM4⟩:=l_orounds (d+1) [] (ev:=ev) hst hA hnn hSlen hI n 0 NN m3 (fc2+9) (by omega) (by rw[x1r6];omega) hM3
 have hlen:(x1s4 S n (x1s5 n a)).length=n:=(x1x3 hA hI n (by have:=Nat.mul_le_mul hnn hSlen;omega)).1.len
 have zr:=x20g hM4.b 4
 rw[hlen]at zr
 rw[<-hS']
 refine x1t6 (m':=m4) (r:=srI (0,4,15) n) (by simp[h.still1,hf.still]) ?_ zr
 rw[xzn]
 unfold xej xgq xc4
 have e0:(0:Int)<=(n:Int):=by omega
 have e00:(n:Int)<=1000000:=by omega
 simp[mem0,h.one,x1t8,x1wh e0 e00]
 rw[<-hm1]
 rw[show((0:Nat):Int)=0 from rfl]at e1 e2
 rw[e1]
 unfold x39 xc2
 have i1:sIx 1 (srI (0,4,15) n) (I a)=some (.ptr (0,4,15) 0 a):=by simpa using x1re (id:=(0,4,15)) (n:=n) (k:=(a:Int)) (by omega) (by omega)
 have l1:a<(List.replicate n farR).length:=by simpa using ha
 have hini:(List.replicate n farR).set a 0=x1s5 n a:=rfl
 simp only[i1,x1qt,x1rl,hM2.b,x1ss l1,hini]
 rw[<-hm3]
 simp[hM3.a,h.one,hsteps]
 exact e2
def dR(n:Nat)(l:List Edge)(fr:List Int)(a b:Nat):Int:=at0 (x1s4 (x1r7 l fr) n (x1s5 n a)) b
theorem x290(d:Nat){J:Int}{n:Nat}{ev fa:AV}{l:List Edge}{fr:List Int}(h:Sl Edge.c ev l)(hSl:Slim J n l)(hf:Ints fa fr)(hB:BestF n l fr){a b:Nat}(ha:a<n)(hb:b<n)(hlen:∀a,a<n->(x1s4 (x1r7 l fr) n (x1s5 n a)).length=n)(hbd:∀a b,a<n->b<n->-1000000<=dR n l fr a b/\dR n l fr a b<=1000000000)(m:Mem) :
 x1qq (x1qp (d+3)) x2w [.agg [I n,ev],fa,I a,I b] m =
  some (.tup (bif decide (dR n l fr a b=1000000000)||decide (dR n l fr b a=1000000000)then[.agg [I 0,I 0],B false]else[.agg [I (-(dR n l fr b a)),I (dR n l fr a b)],B true]),m):=by
 obtain⟨m1,hm1⟩:∃m1:Mem,m1=((⟨[],1⟩:Mem).new (0,0,4) (.row [I n,ev] 0 false)).new (0,1,8) (.row [I 0,I 0] 0 false):=⟨_,rfl⟩
 have g4:m1.get (0,0,4)=some (.row [I n,ev] 0 false):=by rw[hm1,Mem.get_new,if_neg (by simp)];simp
 have g8:m1.get (0,1,8)=some (.row [I 0,I 0] 0 false):=by rw[hm1];simp
 have n1:m1.next=1:=by rw[hm1];rfl
 have c1:=w_rMost d h hSl hf hB ha m1
 have c2:=w_rMost d h hSl hf hB hb m1
 have A1:Ints (.slit ((x1s4 (x1r7 l fr) n (x1s5 n a)).flatMap intE) n false) (x1s4 (x1r7 l fr) n (x1s5 n a)):=by
  have:=Sl.lit (x1s4 (x1r7 l fr) n (x1s5 n a)) false (enc:=intE);rwa[hlen a ha]at this
 have A2:Ints (.slit ((x1s4 (x1r7 l fr) n (x1s5 n b)).flatMap intE) n false) (x1s4 (x1r7 l fr) n (x1s5 n b)):=by
  have:=Sl.lit (x1s4 (x1r7 l fr) n (x1s5 n b)) false (enc:=intE);rwa[hlen b hb]at this
 have i1:=A1.ix x1rk (k:=b) (by rw[hlen a ha];exact hb)
 have i2:=A2.ix x1rk (k:=a) (by rw[hlen b hb];exact ha)
 have l1:b<(x1s4 (x1r7 l fr) n (x1s5 n a)).length:=by rw[hlen a ha];exact hb
 have l2:a<(x1s4 (x1r7 l fr) n (x1s5 n b)).length:=by rw[hlen b hb];exact ha
 have d1:=fun m=>x1rg (m:=m) l1
 have d2:=fun m=>x1rg (m:=m) l2
 obtain⟨x,hx⟩:∃x,x=dR n l fr a b:=⟨_,rfl⟩
 obtain⟨y,hy⟩:∃y,y=dR n l fr b a:=⟨_,rfl⟩
 have hx':at0 (x1s4 (x1r7 l fr) n (x1s5 n a)) b=x:=hx.symm
 have hy':at0 (x1s4 (x1r7 l fr) n (x1s5 n b)) a=y:=hy.symm
 have hbx:=hbd a b ha hb
 have hby:=hbd b a hb ha
 rw[<-hx]at hbx ⊢
 rw[<-hy]at hby ⊢
 have hcl:=h.clean1
 refine Ans.call0_tup (r:=bif decide (x=1000000000)||decide (y=1000000000)then[.agg [I 0,I 0],B false]else[.agg [I (-y),I x],B true]) ?_ (by simp[h.still1,hf.still]) (by cases(decide (x=1000000000)||decide (y=1000000000))<;>rfl)
 unfold Ans
 rw[xz1]
 unfold xe3 xfs
 have hb0:x1qx [I 0,I 0] []=some (.agg [I 0,I 0]):=rfl
 have hb2:∀p q:Int,x1qx [I 0,I 0] [(0,1,I p),(1,1,I q)]=some (.agg [I p,I q]):=fun p q=>by simp[x1qx,x1rx]
 simp[mem0,h.one,z_range]
 rw[<-hm1]
 simp[c1,i1,d1,hx',g4,h.one,c2,i2,d2,hy']
 by_cases e1:x=1000000000
 .simp[e1,hb0,g8,Mem.get_set,sLdP,x1y4,hcl,hf.clean,n1,cAp,tR,Nat.blt]
 .by_cases e2:y=1000000000
  .simp[e1,e2,hb0,g8,Mem.get_set,sLdP,x1y4,hcl,hf.clean,n1,cAp,tR,Nat.blt]
  .simp(disch:=omega) [e1,e2,hb2,g8,Mem.get_set,sLdP,x1y4,hcl,hf.clean,n1,cAp,tR,Nat.blt]
def fixP(M:Nat->Nat->Int)(a b:Nat):Bool:=decide (M a b<farM)&&(decide (M b a<farM)&&decide (M a b+M b a=0))
def nbP(n:Nat)(M:Nat->Nat->Int)(a:Nat):List Int:=((List.range n).filter (fixP M a)).map Int.ofNat
theorem nbP_in{n:Nat}{M:Nat->Nat->Int}{a:Nat}{b:Int}(h:b∈nbP n M a):0<=b/\b<n:=by
 unfold nbP at h
 obtain⟨k,hk,rfl⟩:=List.mem_map.mp h
 have:=List.mem_range.mp (List.mem_filter.mp hk).1
 simp only[Int.ofNat_eq_natCast]
 omega
def ClassC(n u:Nat)(ev:AV)(M:Nat->List Int)(m:Mem):Prop:=
 m.get (0,0,1)=some (.row [I n,ev] 0 false)/\∃A,m.get (0,5,4)=some (.row [A] 0 false)/\(n=0\/∃id ver cs,id.1=0/\A=.sref id ver 0 n 1 true/\m.get id=some (.row cs ver false)/\cs.length=n /\
  ∀(v:Nat) (hv:v<cs.length),∃i:Id,i.1<u/\cs[v]=srI i n/\m.get i=some (.row ((M v).flatMap intE) 0 false))
theorem ClassC.frame{n u:Nat}{ev:AV}{M:Nat->List Int}{m m':Mem}(hu:0<u)(h:ClassC n u ev M m)(hm:∀id:Id,id.1<u->m'.get id=m.get id):ClassC n u ev M m':=by
 obtain⟨h1,A,h2,h3⟩:=h
 refine⟨by rw[hm _ hu];exact h1,A,by rw[hm _ hu];exact h2,?_⟩
 rcases h3 with h3|⟨id,ver,cs,a,b,c,d,e⟩
 .exact Or.inl h3
 .refine Or.inr ⟨id,ver,cs,a,b,by rw[hm _ (by omega)];exact c,d,fun v hv=>?_⟩
  obtain⟨i,i1,i2,i3⟩:=e v hv
  exact⟨i,i1,i2,by rw[hm _ i1];exact i3⟩
theorem ClassC.rd{n u:Nat}{ev:AV}{M:Nat->List Int}{m:Mem}(h:ClassC n u ev M m)(hMl:∀v,v<n->(M v).length=n)(hn:0<n):∃A,m.get (0,5,4)=some (.row [A] 0 false)/\∀a,a<n->∃p x,
 sIx 1 A (I (a:Nat))=some p/\sLd false 1 p m=some x/\∀b,b<n->∃q,sIx 1 x (I (b:Nat))=some q/\sLd false 1 q m=some (I (at0 (M a) b)):=by
 obtain⟨-,A,h2,h3⟩:=h
 rcases h3 with h3|⟨id,ver,cs,ha0,rfl,c,d,e⟩
 .omega
 refine⟨_,h2,fun a ha=>?_⟩
 obtain⟨i,i1,i2,i3⟩:=e a (by omega)
 refine⟨.ptr id ver a,cs[a]'(by omega),?_,?_,fun b hb=>?_⟩
 .simp[sIx,asI,ha]
 .rw[x1qy,c,x1r0,Nat.beq_refl,x1qw]
  exact x1y7 (by omega)
 .rw[i2]
  refine⟨.ptr i 0 b,by simpa using x1re (id:=i) (n:=n) (k:=(b:Int)) (by omega) (by omega),?_⟩
  rw[x1qy,i3]
  exact x1s7 (by rw[hMl a ha];exact hb)
theorem l_cls(d:Nat)(hs:FHs){u0 u sL fq n:Nat}{ev:AV}{M:Nat->List Int}(hu:0<u)(hn:n<=200)(hMl:∀v,v<n->(M v).length=n)(hMb:∀a b,a<n->b<n->at0 (M a) b<farM->-1000000000<=at0 (M a) b/\at0 (M a) b<=1000000000){a:Nat}(ha:a<n){g:Int}(hg:0<=g) :
 ∀(r k j:Nat) (out q:List Int) (m:Mem) (fc:Nat),k+r=n->r<j->ClassC n u ev M m->NumMem u sL fq n out q g m->StOK n (out,q)->negC out+q.length<=n ->
 ∃m',x1q (x1qp (d+1)) hs u0 j (I a) (.clo x1i [.ptr (u,4,5) 0 0,.ptr (u,6,6) 0 0,.ptr (u,fq,8) 0 0]) (.ptr (0,5,4) 0 0) (I n) (I k) m fc=some (.tup [],m') /\
  NumMem u sL fq n (x1rz g (((List.range' k r).filter (fixP (fun a b=>at0 (M a) b) a)).map Int.ofNat) (out,q)).1 (x1rz g (((List.range' k r).filter (fixP (fun a b=>at0 (M a) b) a)).map Int.ofNat) (out,q)).2 g m'/\m.next<=m'.next/\FrU u sL fq m m':=by
 have hfar:farM=1152921504606846976:=rfl
 intro r
 induction r with
 |zero=>
  intro k j out q m fc hk hj hC hM hO hq
  obtain⟨j,rfl⟩:∃i,j=i+1:=⟨j-1,by omega⟩
  have hi:¬((k:Int)<(n:Int)):=by omega
  refine⟨m,?_,hM,Nat.le_refl _,fun _ _ _ _=>rfl⟩
  simp only[x1q]
  unfold x6h
  simp[hi]
 |succ r ih=>
  intro k j out q m fc hk hj hC hM hO hq
  obtain⟨j,rfl⟩:∃i,j=i+1:=⟨j-1,by omega⟩
  have hkn:k<n:=by omega
  have hi:(k:Int)<(n:Int):=by omega
  obtain⟨A,hA,hr⟩:=hC.rd hMl (by omega)
  obtain⟨pa,xa,a1,a2,a3⟩:=hr a ha
  obtain⟨pk,xk,k1,k2,k3⟩:=hr k hkn
  obtain⟨qa,a4,a5⟩:=a3 k hkn
  obtain⟨qk,k4,k5⟩:=k3 a ha
  have hb1:=hMb a k ha hkn
  have hb2:=hMb k a hkn ha
  rw[List.range'_succ,List.filter_cons]
  obtain⟨X,hX⟩:∃X,X=at0 (M a) k:=⟨_,rfl⟩
  obtain⟨Y,hY⟩:∃Y,Y=at0 (M k) a:=⟨_,rfl⟩
  have hfx:fixP (fun a b=>at0 (M a) b) a k=(decide (X<1152921504606846976)&&(decide (Y<1152921504606846976)&&decide (X+Y=0))):=by rw[hX,hY];rfl
  rw[hfx]
  rw[<-hX]at a5 hb1
  rw[<-hY]at k5 hb2
  rw[hfar]at hb1 hb2
  have skip:(decide (X<1152921504606846976)&&(decide (Y<1152921504606846976)&&decide (X+Y=0)))=false->∀fc',∃m',x1q (x1qp (d+1)) hs u0 j (I a) (.clo x1i [.ptr (u,4,5) 0 0,.ptr (u,6,6) 0 0,.ptr (u,fq,8) 0 0]) (.ptr (0,5,4) 0 0) (I n) (I ((k:Int)+1)) m fc'=some (.tup [],m') /\
   NumMem u sL fq n (x1rz g (((if(decide (X<1152921504606846976)&&(decide (Y<1152921504606846976)&&decide (X+Y=0)))=true then k::(List.range' (k+1) r).filter (fixP (fun a b=>at0 (M a) b) a)else(List.range' (k+1) r).filter (fixP (fun a b=>at0 (M a) b) a))).map Int.ofNat) (out,q)).1 (x1rz g (((if(decide (X<1152921504606846976)&&(decide (Y<1152921504606846976)&&decide (X+Y=0)))=true then k::(List.range' (k+1) r).filter (fixP (fun a b=>at0 (M a) b) a)else(List.range' (k+1) r).filter (fixP (fun a b=>at0 (M a) b) a))).map Int.ofNat) (out,q)).2 g m'/\m.next<=m'.next/\FrU u sL fq m m':=by
   intro hc fc'
   rw[hc]
   simp only[Bool.false_eq_true,if_false]
   have:=ih (k+1) j out q m fc' (by omega) (by omega) hC hM hO hq
   simpa using this
  by_cases c1:X<1152921504606846976
  rotate_left
  .obtain⟨m',r1,r2⟩:=skip (by simp[c1]) (fc+1+38+2)
   refine⟨m',?_,r2⟩
   rw[<-r1]
   simp only[x1q]
   unfold x6h x6g x4z
   simp(disch:=omega) [hi,hA,a1,a2,a4,a5,c1]
  by_cases c2:Y<1152921504606846976
  rotate_left
  .obtain⟨m',r1,r2⟩:=skip (by simp[c2]) (fc+1+38+2)
   refine⟨m',?_,r2⟩
   rw[<-r1]
   simp only[x1q]
   unfold x6h x6g x4z
   simp(disch:=omega) [hi,hA,a1,a2,a4,a5,c1,k1,k2,k4,k5,c2]
  have hb1:=hb1 c1
  have hb2:=hb2 c2
  by_cases c3:X+Y=0
  rotate_left
  .obtain⟨m',r1,r2⟩:=skip (by simp[c3]) (fc+1+38+2)
   refine⟨m',?_,r2⟩
   rw[<-r1]
   simp only[x1q]
   unfold x6h x6g x4z
   simp(disch:=omega) [hi,hA,a1,a2,a4,a5,c1,k1,k2,k4,k5,c2,c3]
  .obtain⟨m1,h1,h2,h3,h4⟩:=a_add d hs hM (by omega) (b:=(k:Int)) (by omega) (by omega)
   obtain⟨o1,o2⟩:=x22p hO hg (b:=(k:Int)) (by omega) (by omega)
   simp only at o2
   obtain⟨m',r1,r2,r3,r4⟩:=ih (k+1) j (addM g (out,q) k).1 (addM g (out,q) k).2 m1 (fc+1+41+2) (by omega) (by omega) (hC.frame hu fun id hid=>h4 id (by omega) (by rintro rfl;simp only at hid;omega) (by rintro rfl;simp only at hid;omega)) h2 o1 (by omega)
   refine⟨m',?_,?_,by omega,fun id e1 e2 e3=>by rw[r4 id e1 e2 e3,h4 id e1 e2 e3]⟩
   .rw[<-r1]
    simp only[x1q]
    unfold x6h x6g x4z
    simp(disch:=omega) [hi,hA,a1,a2,a4,a5,c1,k1,k2,k4,k5,c2,c3,h1]
   .rw[if_pos (by simp[c1,c2,c3])]
    exact r2
theorem from_cls(d:Nat){u n:Nat}{ev:AV}{M:Nat->List Int}(hu:0<u)(hn:n<=200)(hMl:∀v,v<n->(M v).length=n)(hMb:∀a b,a<n->b<n->at0 (M a) b<farM->-1000000000<=at0 (M a) b/\at0 (M a) b<=1000000000) :
 x1zd (x1qp (d+2)) (.clo x3l [.ptr (0,0,1) 0 0,.ptr (0,5,4) 0 0]) n (nbP n fun a b=>at0 (M a) b) u (ClassC n u ev M):=by
 intro hs sL fq out q g a m han hC hM hg hO hq
 have hC':ClassC n u ev M ⟨m.hp,m.next+1⟩:=hC.frame hu fun _ _=>rfl
 obtain⟨m',r1,r2,r3,r4⟩:=l_cls d hs (u0:=m.next) (sL:=sL) (fq:=fq) hu hn hMl hMb han hg n 0 NN out q ⟨m.hp,m.next+1⟩ 4 (by omega) (by rw[x1r6];omega) hC' ⟨hM.t5,hM.t6,hM.o,by
  obtain⟨x,x1,x2⟩:=hM.t8
  exact⟨x,x1,x2.frame fun _ _=>rfl⟩,hM.ol,by have:=hM.nx;show u+1<m.next+1;omega⟩ hO hq
 rw[show List.range' 0 n=List.range n from(List.range_eq_range' ..).symm]at r2
 refine⟨.tup [],m',?_,r2,by have:m.next+1<=m'.next:=r3;omega,r4⟩
 show x1qp (d+2) hs x3l _ m=_
 rw[x109]
 show xcy (x1qp (d+1)) hs m.next (I a) _ (.ptr (0,0,1) 0 0) (.ptr (0,5,4) 0 0) ⟨m.hp,m.next+1⟩ 0=_
 unfold xcy
 have G1:(⟨m.hp,m.next+1⟩:Mem).get (0,0,1)=some (.row [I n,ev] 0 false):=hC.1
 simp only[x1rh,Nat.zero_add,x1qy,G1,x1r0,Nat.beq_refl,x1qw,List.drop_zero,rd_f,x1qt]
 exact r1
def okT(id:Id):Prop:=id.1=0/\id.2.2=19
def x1yf(a:AV):List AV:=[a]
theorem x291(l:List AV):l.flatMap x1yf=l:=by
 induction l with
 |nil=>rfl
 |cons a r ih=>rw[List.flatMap_cons,ih];rfl
theorem x292{R:Type}{z x:AV}{id:Id}{m:Mem}(h1:x.cells=[x])(h2:x.one=true)(h3:clean1 x=false)(k:AV->Mem->Option R):x1r2 [z] [(0,1,x)] 1 1 id m k=k (.sref id 0 0 1 1 true) (m.new id (.row [x] 0 false)):=by
 simp[x1r2,x1rx,x1rd,x1rc,h1,h2,h3]
theorem l_table(d:Nat){n:Nat}{ev:AV}{l:List Edge}{fl T ex:List Int}(hev:Sl Edge.c ev l)(hin:SolIn n l fl T ex) :
 ∀(r k j:Nat) (A:AV) (cs:List AV) (m:Mem) (fc:Nat),k+r=n->r<j->SolMem (1+1) n ev l fl T ex m->2<m.next->m.get (0,0,1)=some (.row [I n,ev] 0 false)->m.get (0,5,4)=some (.row [A] 0 false)->Gk 1 x1yf okT m A cs->cs.length=k ->
  (∀(v:Nat) (hv:v<cs.length),∃i:Id,2<i.1/\i.1<m.next/\cs[v]=srI i n/\m.get i=some (.row ((x1t1 n (waysF n l fl T v).len T v).flatMap intE) 0 false))->(∀v,v<k->LenB ((200:Nat)*GB) (waysF n l fl T v).len) ->
 ∃m' fc',x4m (x1qp (d+7)) [] 0 j (.ptr (0,0,1) 0 0) (.ptr (1+1,21,25) 0 0) (.ptr (0,5,4) 0 0) (I n) (I k) m fc=x38 (x1qp (d+7)) [] 0 (.ptr (0,0,1) 0 0) (.ptr (0,5,4) 0 0) m' fc' /\
  ClassC n m'.next ev (fun v:Nat=>x1t1 n (waysF n l fl T v).len T v) m'/\2<m'.next/\∀v,v<n->LenB ((200:Nat)*GB) (waysF n l fl T v).len:=by
 have hn:=hin.n0
 intro r
 induction r with
 |zero=>
  intro k j A cs m fc hk hj hM hnx g1 g5 hG hcl hcs hLB
  obtain⟨j,rfl⟩:∃i,j=i+1:=⟨j-1,by omega⟩
  obtain rfl:k=n:=by omega
  have hi:¬((k:Int)<(k:Int)):=by omega
  refine⟨m,fc+1,?_,⟨g1,A,g5,?_⟩,hnx,hLB⟩
  .simp only[x4m]
   unfold xbz
   simp[hi]
  .rcases hG with ⟨rfl,rfl⟩|⟨id,ver,ok,rfl,hg⟩
   .left;simpa using hcl.symm
   .right
    rw[x291]at hg
    refine⟨id,ver,cs,ok.1,by rw[hcl],hg,hcl,fun v hv=>?_⟩
    obtain⟨i,i1,i2,i3,i4⟩:=hcs v hv
    exact⟨i,i2,i3,i4⟩
 |succ r ih=>
  intro k j A cs m fc hk hj hM hnx g1 g5 hG hcl hcs hLB
  obtain⟨j,rfl⟩:∃i,j=i+1:=⟨j-1,by omega⟩
  have hkn:k<n:=by omega
  have hi:(k:Int)<(n:Int):=by omega
  obtain⟨Sv,hFz,hfz⟩:=hM.frz hin hev
  obtain⟨s1,mA,e1,e2,e3,e4⟩:=w_most (d+1) hFz hkn m.next
  have sci:∀k:List Int,(k.flatMap intE).all isSc=true:=fun k=>by rw[x1us,List.all_eq_true];intro x hx;obtain⟨y,_,rfl⟩:=List.mem_map.mp hx;rfl
  have rA:x1r1 mA.get deep (srL (m.next+1) s1 n)=[(m.next+1+1,s1,30)]:=x1ww (k:=5) e2 (sci _)
  have frI:∀(M:Mem) (x:Int),Go.Ix.frz M.get deep (I x)=some (I x):=fun _ _=>rfl
  obtain⟨m1,f1,f2,f3⟩:=call4 (call:=x1qp (d+7)) (f:=x2y) (l:=[.ptr (1+1,21,25) 0 0,I k]) (l':=[Sv,I k]) (m:=m) (m':=mA) (ids:=[(m.next+1+1,s1,30)]) (by simp only[List.mapM_cons,List.mapM_nil,hfz,frI];rfl) e1 rfl rA (by
   intro i hi
   rw[List.mem_singleton]at hi
   subst hi
   exact⟨by simp only;omega,_,_,e2,sci _⟩)
  have old:∀id:Id,id.1<m.next->m1.get id=m.get id:=fun id hid=>by rw[f3,if_neg (by rw[List.mem_singleton];rintro rfl;simp only at hid;omega)]
  obtain⟨m1b,hm1b⟩:∃m1b:Mem,m1b=m1.new (0,fc+7,18) (.row [srL (m.next+1) s1 n] 0 false):=⟨_,rfl⟩
  have q1b:∀id:Id,id≠(0,fc+7,18)->m1b.get id=m1.get id:=fun id h=>by rw[hm1b,Mem.get_new,if_neg h]
  have n1b:m1b.next=m1.next:=by rw[hm1b];rfl
  have hG1:Gk 1 x1yf okT m1b A cs:=hG.frame fun id hid=>by rw[q1b id (by rintro rfl;have:=hid.2;simp at this),old id (by have:=hid.1;omega)]
  obtain⟨A',m2,A2,hG2,c1,c2,n2,q2⟩:=hG1.app (z:=1) (enc:=x1yf) (fun _=>rfl) (by decide) (bytes:=24) (id0:=(0,fc+8,19)) ⟨rfl,rfl⟩ (by unfold x1r4;omega) (srL (m.next+1) s1 n)
  have g5':m2.get (0,5,4)=some (.row [A] 0 false):=by rw[q2 _ (by unfold okT;simp),q1b _ (by simp),old _ (by simp only;omega)];exact g5
  obtain⟨m3,hm3⟩:∃m3,m3=m2.set (0,5,4) (.row [A'] 0 false):=⟨_,rfl⟩
  have n3:m3.next=mA.next:=by rw[hm3];simp only[Mem.next_set];rw[n2,n1b,f2]
  have k3:∀id:Id,id≠(0,5,4)->¬okT id->id≠(0,fc+7,18)->m3.get id=m1.get id:=fun id h1 h2 h3=>by rw[hm3,Mem.get_set,if_neg h1,q2 id h2,q1b id h3]
  obtain⟨m',fc',r1,r2⟩:=ih (k+1) j A' (cs++[srL (m.next+1) s1 n]) m3 (fc+12) (by omega) (by omega)
   (hM.frame fun id hid=>by rw[k3 id (by rintro rfl;simp at hid) (by rintro⟨h,-⟩;omega) (by rintro rfl;simp at hid),old id (by omega)]) (by omega)
   (by rw[k3 _ (by simp) (by unfold okT;simp) (by simp),old _ (by simp only;omega)];exact g1) (by rw[hm3];simp)
   (hG2.frame fun id hid=>by rw[hm3,Mem.get_set,if_neg (by rintro rfl;have:=hid.2;simp at this)]) (by simp[hcl])
   (fun v hv=>by
    by_cases hvk:v<cs.length
    .obtain⟨i,i1,i2,i3,i4⟩:=hcs v hvk
     refine⟨i,i1,by omega,by rw[List.getElem_append_left hvk];exact i3,?_⟩
     rw[k3 i (by rintro rfl;simp at i1) (by rintro⟨h,-⟩;omega) (by rintro rfl;simp at i1),old i i2]
     exact i4
    .have hvk':v=cs.length:=by simp at hv;omega
     subst hvk'
     refine⟨(m.next+1+1,s1,30),by simp only;omega,by simp only;omega,by rw[List.getElem_append_right (Nat.le_refl _)];simp,?_⟩
     rw[k3 _ (by simp) (by rintro⟨h,-⟩;simp at h) (by simp),f3,if_pos (by simp),hcl]
     exact e2) (fun v hv=>by
    by_cases e:v=k
    .rw[e];exact e3
    .exact hLB v (by omega))
  refine⟨m',fc',?_,r2⟩
  rw[<-r1,hm3]
  simp only[x4m]
  unfold xbz
  have hz:x13=[nilS]:=x1vx
  have hel:elems m1b.get 1 (.sref (0,fc+7,18) 0 0 1 1 true)=some (x1yf (srL (m.next+1) s1 n),1):=by
   rw[hm1b]
   simp[elems,x1yf]
  have hst:x1s2 1 0 0 A' (some (.row [A] 0 false))=some (.row [A'] 0 false):=by
   rw[x1we];simp[c1,c2]
  have hmk:mkM 4 [.ptr (1+1,21,25) 0 0,I (k:Int)]=1:=rfl
  simp only[x1s6,x1qt,hi,decide_true,x1ru,x1qy,g5,x1r0,Nat.beq_refl,x1qw,List.drop_zero,rd_f,f1,hz,x292 (x:=srL (m.next+1) s1 n) rfl rfl rfl,<-hm1b,hel,A2,x1rl,g5',hst,hmk,cAp_R1]
  simp(disch:=omega) [x1qs,disj,tR]
theorem w_classes(d:Nat){n:Nat}{J:Int}{ev:AV}{l:List Edge}(hev:Sl Edge.c ev l)(hS:Slim J n l)(m:Mem) :
 ∃fl tu ex,Solved J n l fl tu ex/\(∀v,v<n->LenB ((200:Nat)*GB) (waysF n l fl (x1ra n (x1r9 n l) tu) v).len) /\
  x1qq (x1qp (d+8)) x3x [.agg [I n,ev]] m=some (.slit ((numM n (nbP n fun(a b:Nat)=>at0 (x1t1 n (waysF n l fl (x1ra n (x1r9 n l) tu) a).len (x1ra n (x1r9 n l) tu) a) b)).1.flatMap intE) n false,m) /\
  (numM n (nbP n fun(a b:Nat)=>at0 (x1t1 n (waysF n l fl (x1ra n (x1r9 n l) tu) a).len (x1ra n (x1r9 n l) tu) a) b)).1.length=n:=by
 have hn:n<=200:=by have:=hS.nn;omega
 obtain⟨m1,hm1⟩:∃m1,m1=(⟨[],1⟩:Mem).new (0,0,1) (.row [I n,ev] 0 false):=⟨_,rfl⟩
 have g1:m1.get (0,0,1)=some (.row [I n,ev] 0 false):=by rw[hm1];simp
 have n1:m1.next=1:=by rw[hm1];rfl
 obtain⟨mS,fl,tu,ex,a1,a2,a3,a4⟩:=w_solve (d+1) hev hS 1
 obtain⟨m2,b1,b2,b3⟩:=x1vw (call:=x1qp (d+7)) (f:=x1w) (l:=[.agg [I n,ev]]) (m:=m1) (m':=mS) (r:=.ptr (1+1,21,25) 0 0) (by simp[clean,hev.clean1]) (by rw[n1];exact a1)
 obtain⟨T,hT⟩:∃T,T=x1ra n (x1r9 n l) tu:=⟨_,rfl⟩
 have hin:=a3.inn hS
 rw[<-hT]at a2 hin
 refine⟨fl,tu,ex,a3,?_⟩
 rw[<-hT]
 have hM2:SolMem (1+1) n ev l fl T ex m2:=a2.frame fun id hid=>by rw[b3,if_pos (by omega)]
 have n2:2<m2.next:=by rw[b2];exact a4
 have low:∀s t:Nat,m2.get (0,s,t)=m1.get (0,s,t):=fun s t=>by rw[b3,if_neg (by simp[n1])]
 obtain⟨m3,hm3⟩:∃m3,m3=m2.new (0,5,4) (.row [nilS] 0 false):=⟨_,rfl⟩
 have n3:m3.next=m2.next:=by rw[hm3];rfl
 have q3:∀id:Id,id≠(0,5,4)->m3.get id=m2.get id:=fun id h=>by rw[hm3,Mem.get_new,if_neg h]
 have g31:m3.get (0,0,1)=some (.row [I n,ev] 0 false):=by rw[q3 _ (by simp),low];exact g1
 obtain⟨m4,fc4,r1,hC,n4,hLB⟩:=l_table d hev hin n 0 NN nilS [] m3 10 (by omega) (by rw[x1r6];omega) (hM2.frame fun id hid=>q3 id (by rintro rfl;simp at hid)) (by omega) g31 (by rw[hm3];simp) Gk.nil rfl (fun v hv=>by simp at hv) (fun v hv=>by omega)
 obtain⟨M,hMe⟩:∃M:Nat->List Int,M=fun v:Nat=>x1t1 n (waysF n l fl T v).len T v:=⟨_,rfl⟩
 rw[<-hMe]at hC
 have hMl:∀v,v<n->(M v).length=n:=fun v _=>by rw[hMe];exact x1vz _ _ _ _
 have hMb:∀a b,a<n->b<n->at0 (M a) b<farM->-1000000000<=at0 (M a) b/\at0 (M a) b<=1000000000:=fun a b ha hb hlt=>by
  have hG:((200:Nat):Int)*GB=400200000:=by rfl
  have h1:=hLB a ha
  rw[hG]at h1
  have z1:=h1 b
  have z2:=hin.tub a
  have z3:=hin.tub b
  have e:at0 (M a) b=if at0 (waysF n l fl T a).len b<farM then at0 (waysF n l fl T a).len b+(at0 T b-at0 T a)else at0 (waysF n l fl T a).len b:=by
   rw[hMe,x1ri (by rw[x1vz];exact hb),x20h hb]
  rw[e]at hlt ⊢
  split
  .rename_i c
   rcases z1 with z1|z1<;>omega
  .rename_i c
   rw[if_neg c]at hlt
   omega
 obtain⟨sL,m5,s1,s2,s3,s4,s5⟩:=x261 (d+3) [] hn (m:=m4) (f:=.clo x3l [.ptr (0,0,1) 0 0,.ptr (0,5,4) 0 0]) (nb:=nbP n fun a b=>at0 (M a) b) (C:=ClassC n m4.next ev M) (from_cls (d+4) (by omega) hn hMl hMb) (fun a b h1 h2=>h1.frame (by omega) h2) (fun a _ b hb=>nbP_in hb) hC
 have hMM:(fun a b=>at0 (M a) b)=fun(a b:Nat)=>at0 (x1t1 n (waysF n l fl T a).len T a) b:=by rw[hMe]
 rw[hMM]at s2 s3
 refine⟨hLB,?_,s3⟩
 have hfz:=frz_own (m:=m5) (id:=(m4.next+1,sL,30)) s2
 rw[s3]at hfz
 refine x1t6 (m':=m5) (r:=srL m4.next sL n) (by simp[hev.still1]) ?_ hfz
 rw[xzm]
 show xc1 (x1qp (d+7)) [] 0 (.agg [I (n:Int),ev]) ⟨[],1⟩ 0=_
 unfold xc1 xc0
 have hz2:xbw=[nilS]:=by kernel_rfl
 simp[hev.one]
 rw[<-hm1]
 simp[b1,hz2]
 rw[<-hm3]
 rw[show m2.get (0,0,1)=some (.row [I n,ev] 0 false)from by rw[low];exact g1]
 simp only[x1r0,Nat.beq_refl,x1qw,List.drop_zero,rd_f,x1qt]
 rw[show((0:Nat):Int)=0 from rfl]at r1
 refine Eq.trans r1 ?_
 unfold x38
 have g41:=hC.1
 simp only[x1rh,Nat.zero_add,x1qy,g41,x1r0,Nat.beq_refl,x1qw,List.drop_zero,rd_f,x1qt,s1]
theorem Way.app{z:List (Edge×Int)}{u v w:Nat}{c d:Int}(h1:Way z u v c)(h2:Way z v w d):Way z u w (c+d):=by
 induction h2 with
 |nil=>rw[Int.add_zero];exact h1
 |cons _ ha ih=>rw[<-Int.add_assoc];exact ih.cons ha
def Fixd(D:Nat->Nat->Option Int)(T:Nat->Int)(a b:Nat):Prop:=D a b=some (T b-T a)/\D b a=some (T a-T b)
theorem x26o{n:Nat}{z:List (Edge×Int)}{D:Nat->Nat->Option Int}{T:Nat->Int}(hC:CS T z)(hD:∀a,a<n->Dist n z a (D a)){a b:Nat}(ha:a<n)(hb:b<n):Fixd D T a b↔∃x y,D a b=some x/\D b a=some y/\x+y=0:=by
 constructor
 .rintro⟨h1,h2⟩
  exact⟨_,_,h1,h2,by omega⟩
 .rintro⟨x,y,h1,h2,h3⟩
  have e1:=((hD a ha).way b hb x h1).le hC
  have e2:=((hD b hb).way a ha y h2).le hC
  exact⟨by rw[h1];congr 1;omega,by rw[h2];congr 1;omega⟩
theorem fixd_refl{n:Nat}{z:List (Edge×Int)}{D:Nat->Nat->Option Int}{T:Nat->Int}(hC:CS T z)(hD:∀a,a<n->Dist n z a (D a)){a:Nat}(ha:a<n):Fixd D T a a:=by
 obtain⟨d,h1,h2⟩:=(hD a ha).le a 0 .nil
 have:=((hD a ha).way a ha d h1).le hC
 have e:D a a=some (T a-T a):=by rw[h1];congr 1;omega
 exact⟨e,e⟩
theorem x26p{D:Nat->Nat->Option Int}{T:Nat->Int}{a b:Nat}(h:Fixd D T a b):Fixd D T b a:=⟨h.2,h.1⟩
theorem x26q{n:Nat}{z:List (Edge×Int)}{D:Nat->Nat->Option Int}{T:Nat->Int}(hC:CS T z)(hD:∀a,a<n->Dist n z a (D a)){a b c:Nat}(ha:a<n)(hb:b<n)(hc:c<n)(h1:Fixd D T a b)(h2:Fixd D T b c):Fixd D T a c:=by
 have key:∀{a b c:Nat},a<n->b<n->c<n->D a b=some (T b-T a)->D b c=some (T c-T b)->D a c=some (T c-T a):=by
  intro a b c ha hb hc h1 h2
  obtain⟨d,e1,e2⟩:=(hD a ha).le c _ (((hD a ha).way b hb _ h1).app ((hD b hb).way c hc _ h2))
  have:=((hD a ha).way c hc d e1).le hC
  rw[e1];congr 1;omega
 exact⟨key ha hb hc h1.1 h2.1,key hc hb ha h2.2 h1.2⟩
theorem num_fix{n:Nat}{z:List (Edge×Int)}{D:Nat->Nat->Option Int}{T:Nat->Int}(hn:n<=200)(hC:CS T z)(hD:∀a,a<n->Dist n z a (D a)){nb:Nat->List Int}(hnb:∀a b:Nat,a<n->((b:Int)∈nb a↔b<n/\Fixd D T a b))(hnn:∀a,a<n->∀b∈nb a,0<=b/\b<n) :
 Sym n nb/\∀a b,a<n->b<n->(at0 (numM n nb).1 a=at0 (numM n nb).1 b↔Fixd D T a b):=by
 have hS:Sym n nb:=⟨hnn,fun a b ha hb h=>(hnb b a hb).mpr ⟨ha,x26p ((hnb a b ha).mp h).2⟩⟩
 have R:=x22t hn hS
 obtain⟨rep,hrep⟩:=R.rep
 have hreach:∀{r v:Nat},r<n->Reach nb r v->v<n/\Fixd D T r v:=by
  intro r v hr h
  induction h with
  |refl=>exact⟨hr,fixd_refl hC hD hr⟩
  |step _ h2 ih=>
   obtain⟨i1,i2⟩:=ih
   obtain⟨j1,j2⟩:=(hnb _ _ i1).mp h2
   exact⟨j1,x26q hC hD hr i1 j1 i2 j2⟩
 refine⟨hS,fun a b ha hb=>⟨fun e=>?_,fun h=>?_⟩⟩
 .have h1:=R.lab a ha ha
  have h2:=(R.lt a ha).2
  obtain⟨c,hc⟩:∃c:Nat,at0 (numM n nb).1 a=c:=⟨(at0 (numM n nb).1 a).toNat,by omega⟩
  obtain⟨r1,r2,r3,r4,r5⟩:=hrep c (by omega)
  have ra:=(hreach r2 (r4 a ha hc).2).2
  have rb:=(hreach r2 (r4 b hb (by rw[<-e];exact hc)).2).2
  exact x26q hC hD ha r2 hb (x26p ra) rb
 .exact((x266 hn hS ha (.step .refl ((hnb a b ha).mpr ⟨hb,h⟩))).2).symm
def relB(n:Nat)(l:List Edge)(fr:List Int)(a b:Nat):Bool:=!(decide (dR n l fr a b=1000000000)||decide (dR n l fr b a=1000000000))&&decide (-(dR n l fr b a)=dR n l fr a b)
end Go.Ix
