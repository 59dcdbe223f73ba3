import Derived.Test.YtljibmnhhdiakaaWgB
import Derived.Test.YtljibmnhhdiakaaWgF
import Derived.Test.YtljibmnhhdiakaaWgA
import Derived.Test.YtljibmnhhdiakaaWCopy
import Derived.Test.YtljibmnhhdiakaaWgE
import Derived.Test.YtljibmnhhdiakaaWgC
set_option linter.unusedSimpArgs false
set_option linter.unusedVariables false
namespace Go.Ix
structure Stp where
 fr:Int
 to:Int
 ed:Int
 sg:Int
 gain:Int
 room:Int
def s00:Stp:=⟨0,0,0,0,0,0⟩
def stpAt(S:List Stp)(i:Nat):Stp:=S.getD i s00
theorem x1wk{S:List Stp}{i:Nat}(h:i<S.length):stpAt S i=S[i]:=by
 unfold stpAt;rw[List.getD_eq_getElem?_getD,List.getElem?_eq_getElem h];rfl
def stpE(l:List Edge)(fl:List Int)(k:Nat):List Stp:=
 (if at0 fl k<(edgeAt l k).wt then[⟨(edgeAt l k).fr,(edgeAt l k).to,k,1,(edgeAt l k).jump,(edgeAt l k).wt-at0 fl k⟩]else[]) ++
 (if -(edgeAt l k).wt<at0 fl k then[⟨(edgeAt l k).to,(edgeAt l k).fr,k,-1,-(edgeAt l k).jump,(edgeAt l k).wt+at0 fl k⟩]else[])
def x1r7(l:List Edge)(fl:List Int):List Stp:=(List.range l.length).flatMap (stpE l fl)
def StpOf(l:List Edge)(fl:List Int)(s:Stp):Prop:=∃k:Nat,k<l.length/\s.ed=k/\0<s.room /\
 ((s.fr=(edgeAt l k).fr/\s.to=(edgeAt l k).to/\s.sg=1/\s.gain=(edgeAt l k).jump/\s.room=(edgeAt l k).wt-at0 fl k) \/
  (s.fr=(edgeAt l k).to/\s.to=(edgeAt l k).fr/\s.sg=-1/\s.gain=-(edgeAt l k).jump/\s.room=(edgeAt l k).wt+at0 fl k))
theorem x20d{l:List Edge}{fl:List Int}{s:Stp}(h:s∈x1r7 l fl):StpOf l fl s:=by
 unfold x1r7 at h
 obtain⟨k,hk,hs⟩:=List.mem_flatMap.mp h
 rw[List.mem_range]at hk
 refine⟨k,hk,?_⟩
 unfold stpE at hs
 rcases List.mem_append.mp hs with hs|hs
 .split at hs
  .rw[List.mem_singleton]at hs
   subst hs
   exact⟨rfl,by simp only;omega,Or.inl ⟨rfl,rfl,rfl,rfl,rfl⟩⟩
  .simp at hs
 .split at hs
  .rw[List.mem_singleton]at hs
   subst hs
   exact⟨rfl,by simp only;omega,Or.inr ⟨rfl,rfl,rfl,rfl,rfl⟩⟩
  .simp at hs
theorem x25l{l:List Edge}{fl:List Int}(hl:fl.length=l.length){u v:Nat}{c:Int}(h:Arc (l.zip fl) u v c):∃s∈x1r7 l fl,s.fr.toNat=u/\s.to.toNat=v/\s.gain=-c:=by
 obtain⟨x,hx,h⟩:=h
 obtain⟨k,hk,rfl⟩:=(x1t0 hl).mp hx
 rcases h with ⟨h1,rfl,rfl,rfl⟩|⟨h1,rfl,rfl,rfl⟩
 .simp only at h1
  refine⟨⟨(edgeAt l k).fr,(edgeAt l k).to,k,1,(edgeAt l k).jump,(edgeAt l k).wt-at0 fl k⟩,?_,rfl,rfl,by simp⟩
  exact List.mem_flatMap.mpr ⟨k,List.mem_range.mpr hk,List.mem_append_left _ (by rw[if_pos h1];exact List.mem_singleton.mpr rfl)⟩
 .simp only at h1
  refine⟨⟨(edgeAt l k).to,(edgeAt l k).fr,k,-1,-(edgeAt l k).jump,(edgeAt l k).wt+at0 fl k⟩,?_,rfl,rfl,rfl⟩
  exact List.mem_flatMap.mpr ⟨k,List.mem_range.mpr hk,List.mem_append_right _ (by rw[if_pos h1];exact List.mem_singleton.mpr rfl)⟩
theorem arc_steps{l:List Edge}{fl:List Int}(hl:fl.length=l.length){s:Stp}(h:s∈x1r7 l fl):Arc (l.zip fl) s.fr.toNat s.to.toNat (-s.gain):=by
 obtain⟨k,hk,he,hr,h⟩:=x20d h
 refine⟨(edgeAt l k,at0 fl k),(x1t0 hl).mpr ⟨k,hk,rfl⟩,?_⟩
 rcases h with ⟨a,b,c,d,e⟩|⟨a,b,c,d,e⟩
 .exact Or.inl ⟨by simp only;omega,by rw[a],by rw[b],by rw[d]⟩
 .exact Or.inr ⟨by simp only;omega,by rw[a],by rw[b],by rw[d];simp⟩
structure SOK (J:Int) (n:Nat) (S:List Stp):Prop where
 ok:∀i,i<S.length->(0<=(stpAt S i).fr/\(stpAt S i).fr<n)/\(0<=(stpAt S i).to/\(stpAt S i).to<n)/\(stpAt S i).fr≠(stpAt S i).to/\(-J<=(stpAt S i).gain/\(stpAt S i).gain<=J)
theorem x22l{J:Int}{n:Nat}{l:List Edge}{fl:List Int}(hS:Slim J n l):SOK J n (x1r7 l fl):=by
 constructor
 intro i hi
 rw[x1wk hi]
 obtain⟨k,hk,he,hr,h⟩:=x20d (List.getElem_mem hi)
 obtain⟨⟨f0,f1,t0,t1,-⟩,hne⟩:=x1tw hS.ed hk
 have hj:-J<=(edgeAt l k).jump/\(edgeAt l k).jump<=J:=by rw[x1t9 hk];have:=hS.jw _ (List.getElem_mem hk);omega
 rcases h with ⟨a,b,c,d,e⟩|⟨a,b,c,d,e⟩<;>omega
structure BF where
 far:List Int
 by':List Int
 last:Int
def x1u4(S:List Stp)(i:Nat)(b:BF):BF:=
 if at0 b.far (stpAt S i).to.toNat<at0 b.far (stpAt S i).fr.toNat+(stpAt S i).gain then
  ⟨b.far.set (stpAt S i).to.toNat (at0 b.far (stpAt S i).fr.toNat+(stpAt S i).gain),b.by'.set (stpAt S i).to.toNat i,(stpAt S i).to⟩else b
def x1u5(S:List Stp):Nat->Nat->BF->BF
 |0,_,b=>b
 |k+1,i,b=>x1u5 S k (i+1) (x1u4 S i b)
def x1sf(S:List Stp)(b:BF):BF:=x1u5 S S.length 0 ⟨b.far,b.by',-1⟩
def x1s0(S:List Stp):Nat->BF->BF
 |0,b=>b
 |k+1,b=>if(x1sf S b).last<0 then x1sf S b else x1s0 S k (x1sf S b)
def sT(len r i j:Nat):Nat:=if j<i then r*len+j+1 else r*len+j+1-len
structure BFI (J:Int) (n:Nat) (S:List Stp) (r i:Nat) (b:BF) (ta:Nat->Nat):Prop where
 fl:b.far.length=n
 bl:b.by'.length=n
 le:∀v,ta v<=r*S.length+i
 inj:∀u v,ta u=ta v->0<ta u->u=v
 bnd:∀v,0<=at0 b.far v/\at0 b.far v<=J*(r*S.length+i:Nat)
 bb:∀v,0<=at0 b.by' v/\(at0 b.by' v).toNat<=S.length
 arc:∀j,j<S.length->0<sT S.length r i j->at0 b.far (stpAt S j).fr.toNat+(stpAt S j).gain<=at0 b.far (stpAt S j).to.toNat\/sT S.length r i j<ta (stpAt S j).fr.toNat
 pre:∀v,v<n->0<ta v->(at0 b.by' v).toNat<S.length/\(stpAt S (at0 b.by' v).toNat).to=v /\
  at0 b.far v<=at0 b.far (stpAt S (at0 b.by' v).toNat).fr.toNat+(stpAt S (at0 b.by' v).toNat).gain /\
  (ta v<ta (stpAt S (at0 b.by' v).toNat).fr.toNat->at0 b.far v<at0 b.far (stpAt S (at0 b.by' v).toNat).fr.toNat+(stpAt S (at0 b.by' v).toNat).gain) /\
  (S.length<ta v->ta v<ta (stpAt S (at0 b.by' v).toNat).fr.toNat+S.length)
 la:b.last=-1\/∃v,v<n/\b.last=(v:Nat)/\r*S.length<ta v
theorem x25m{J:Int}{n:Nat}{S:List Stp}(hS:SOK J n S)(hJ:0<=J){r i:Nat}{b:BF}{ta:Nat->Nat}(h:BFI J n S r i b ta)(hi:i<S.length):∃ta',BFI J n S r (i+1) (x1u4 S i b) ta':=by
 obtain⟨⟨f0,f1⟩,⟨t0,t1⟩,hne,g0,g1⟩:=hS.ok i hi
 have hst:∀j,j≠i->sT S.length r (i+1) j=sT S.length r i j:=fun j hj=>by
  unfold sT
  by_cases c:j<i
  .rw[if_pos c,if_pos (by omega)]
  .rw[if_neg c,if_neg (by omega)]
 have hsi:sT S.length r (i+1) i=r*S.length+i+1:=by unfold sT;rw[if_pos (by omega)]
 have hsi0:sT S.length r i i=r*S.length+i+1-S.length:=by unfold sT;rw[if_neg (by omega)]
 have hmul:J*((r*S.length+(i+1):Nat):Int)=J*((r*S.length+i:Nat):Int)+J:=by
  rw[show((r*S.length+(i+1):Nat):Int)=((r*S.length+i:Nat):Int)+1 by omega,Int.mul_add,Int.mul_one]
 obtain⟨x,hx⟩:∃x:Nat,(stpAt S i).fr=x:=⟨(stpAt S i).fr.toNat,by omega⟩
 obtain⟨y,hy⟩:∃y:Nat,(stpAt S i).to=y:=⟨(stpAt S i).to.toNat,by omega⟩
 unfold x1u4
 by_cases c:at0 b.far (stpAt S i).to.toNat<at0 b.far (stpAt S i).fr.toNat+(stpAt S i).gain
 rotate_left
 .rw[if_neg c]
  refine⟨ta,h.fl,h.bl,fun v=>by have:=h.le v;omega,h.inj,fun v=>by have:=h.bnd v;omega,h.bb,fun j hj hs=>?_,h.pre,h.la⟩
  by_cases e:j=i
  .subst e;left;omega
  .rw[hst j e]at hs ⊢;exact h.arc j hj hs
 rw[if_pos c]
 rw[hx,hy,Int.toNat_natCast,Int.toNat_natCast]at c ⊢
 have hyn:y<n:=by omega
 have hxn:x<n:=by omega
 have hxy:x≠y:=by omega
 have hF:∀v,at0 (b.far.set y (at0 b.far x+(stpAt S i).gain)) v=if v=y then at0 b.far x+(stpAt S i).gain else at0 b.far v:=fun v=>x1sa (by rw[h.fl];exact hyn)
 have hB:∀v,at0 (b.by'.set y (i:Nat)) v=if v=y then((i:Nat):Int)else at0 b.by' v:=fun v=>x1sa (by rw[h.bl];exact hyn)
 refine⟨fun v=>if v=y then r*S.length+i+1 else ta v,by simpa using h.fl,by simpa using h.bl,fun v=>?_,fun u v hu h0=>?_,fun v=>?_,fun v=>?_,fun j hj hs=>?_,fun v hv h0=>?_,?_⟩
 .have:=h.le v
  split<;>omega
 .have hu':=h.le u
  have hv':=h.le v
  by_cases e1:u=y<;>by_cases e2:v=y
  .omega
  .rw[if_pos e1,if_neg e2]at hu;omega
  .rw[if_neg e1,if_pos e2]at hu;omega
  .rw[if_neg e1,if_neg e2]at hu;rw[if_neg e1]at h0;exact h.inj u v hu h0
 .rw[hF]
  have h1:=h.bnd v
  have h2:=h.bnd x
  have h3:=h.bnd y
  split<;>omega
 .rw[hB]
  have:=h.bb v
  split<;>omega
 .by_cases e:j=i
  .subst e
   left
   rw[hx,hy,Int.toNat_natCast,Int.toNat_natCast,hF,hF,if_neg hxy,if_pos rfl]
   exact Int.le_refl _
  .rw[hst j e]at hs ⊢
   obtain⟨⟨j0,j1⟩,⟨k0,k1⟩,jne,-⟩:=hS.ok j hj
   have hle:sT S.length r i j<r*S.length+i+1:=by unfold sT;split<;>omega
   by_cases e2:(stpAt S j).fr.toNat=y
   .right
    rw[if_pos e2]
    exact hle
   .rcases h.arc j hj hs with g|g
    .left
     rw[hF,hF,if_neg e2]
     split
     .rename_i e3;rw[e3]at g;omega
     .exact g
    .right
     rw[if_neg e2]
     exact g
 .by_cases e:v=y
  .subst e
   have e1:at0 (b.by'.set v (i:Nat)) v=(i:Nat):=by rw[hB,if_pos rfl]
   rw[e1,Int.toNat_natCast,hx,Int.toNat_natCast,hF,hF,if_pos rfl,if_neg hxy,if_pos rfl,if_neg hxy]
   refine⟨hi,hy,Int.le_refl _,fun g=>by have:=h.le x;omega,fun g=>?_⟩
   have:=h.arc i hi (by rw[hsi0];omega)
   rw[hsi0,hx,hy,Int.toNat_natCast,Int.toNat_natCast]at this
   rcases this with g2|g2<;>omega
  .rw[if_neg e]at h0
   have e1:at0 (b.by'.set y (i:Nat)) v=at0 b.by' v:=by rw[hB,if_neg e]
   obtain⟨p1,p2,p3,p4,p5⟩:=h.pre v hv h0
   have hv2:=h.le v
   rw[e1,hF,hF,if_neg e,if_neg e]
   refine⟨p1,p2,?_,?_,?_⟩
   .split
    .rename_i e3;rw[e3]at p3;omega
    .exact p3
   .split
    .rename_i e3;rw[e3]at p3;intro _;omega
    .exact p4
   .split
    .intro _;omega
    .exact p5
 .right
  refine⟨y,hyn,rfl,?_⟩
  rw[if_pos rfl]
  omega
theorem pss_ok{J:Int}{n:Nat}{S:List Stp}(hS:SOK J n S)(hJ:0<=J){r:Nat}:∀(k i:Nat) {b:BF} {ta:Nat->Nat},i+k<=S.length->BFI J n S r i b ta->∃ta',BFI J n S r (i+k) (x1u5 S k i b) ta'
 |0,i,b,ta,_,h=>⟨ta,h⟩
 |k+1,i,b,ta,hk,h=>by
  obtain⟨ta',h'⟩:=x25m hS hJ h (by omega)
  obtain⟨t2,h2⟩:=pss_ok hS hJ k (i+1) (by omega) h'
  rw[show i+1+k=i+(k+1) by omega]at h2
  exact⟨t2,h2⟩
theorem rnd_ok{J:Int}{n:Nat}{S:List Stp}(hS:SOK J n S)(hJ:0<=J){r:Nat}{b:BF}{ta:Nat->Nat}(h:BFI J n S r 0 b ta):∃ta',BFI J n S r S.length (x1sf S b) ta':=by
 have h1:BFI J n S r 0 ⟨b.far,b.by',-1⟩ ta:=⟨h.fl,h.bl,h.le,h.inj,h.bnd,h.bb,h.arc,h.pre,Or.inl rfl⟩
 have:=pss_ok hS hJ S.length 0 (by omega) h1
 rw[Nat.zero_add]at this
 exact this
theorem x25n{J:Int}{n:Nat}{S:List Stp}{r:Nat}{b:BF}{ta:Nat->Nat}(h:BFI J n S r S.length b ta):BFI J n S (r+1) 0 ⟨b.far,b.by',-1⟩ ta:=by
 have e:(r+1)*S.length=r*S.length+S.length:=Nat.succ_mul _ _
 refine⟨h.fl,h.bl,fun v=>by have:=h.le v;omega,h.inj,fun v=>by have:=h.bnd v;rw[show(r+1)*S.length+0=r*S.length+S.length by omega];exact this,h.bb,fun j hj=>?_,h.pre,Or.inl rfl⟩
 have e2:sT S.length (r+1) 0 j=sT S.length r S.length j:=by
  unfold sT
  rw[if_neg (by omega),if_pos hj]
  omega
 rw[e2]
 exact h.arc j hj
theorem x25o{S:List Stp}(hS:∀i,i<S.length->0<=(stpAt S i).to):∀(k i:Nat) (b:BF),i+k<=S.length->0<=b.last->0<=(x1u5 S k i b).last
 |0,_,_,_,h=>h
 |k+1,i,b,hk,h=>by
  refine x25o hS k (i+1) _ (by omega) ?_
  unfold x1u4
  split
  .exact hS i (by omega)
  .exact h
theorem x25p{S:List Stp}(hS:∀i,i<S.length->0<=(stpAt S i).to):∀(k i:Nat) (b:BF),i+k<=S.length->(x1u5 S k i b).last<0 ->
 x1u5 S k i b=b/\∀j,i<=j->j<i+k->at0 b.far (stpAt S j).fr.toNat+(stpAt S j).gain<=at0 b.far (stpAt S j).to.toNat
 |0,i,b,_,h=>⟨rfl,fun j h1 h2=>by omega⟩
 |k+1,i,b,hk,h=>by
  simp only[x1u5]at h ⊢
  by_cases c:at0 b.far (stpAt S i).to.toNat<at0 b.far (stpAt S i).fr.toNat+(stpAt S i).gain
  .exfalso
   have:=x25o hS k (i+1) (x1u4 S i b) (by omega) (by unfold x1u4;rw[if_pos c];exact hS i (by omega))
   omega
  .have e:x1u4 S i b=b:=by unfold x1u4;rw[if_neg c]
   rw[e]at h ⊢
   obtain⟨h1,h2⟩:=x25p hS k (i+1) b (by omega) h
   refine⟨h1,fun j j1 j2=>?_⟩
   by_cases e2:j=i
   .subst e2;omega
   .exact h2 j (by omega) (by omega)
theorem x25q{J:Int}{n:Nat}{S:List Stp}(hS:SOK J n S)(hJ:0<=J):∀(k r:Nat) {b:BF} {ta:Nat->Nat},BFI J n S r 0 b ta ->
 ((x1s0 S (k+1) b).last<0/\(x1s0 S (k+1) b).far.length=n/\∀j,j<S.length->at0 (x1s0 S (k+1) b).far (stpAt S j).fr.toNat+(stpAt S j).gain<=at0 (x1s0 S (k+1) b).far (stpAt S j).to.toNat) \/
 (∃ta',BFI J n S (r+k) S.length (x1s0 S (k+1) b) ta'/\∃v,v<n/\(x1s0 S (k+1) b).last=(v:Nat)/\(r+k)*S.length<ta' v)
 |k,r,b,ta,h=>by
  obtain⟨t1,h1⟩:=rnd_ok hS hJ h
  have hto:∀i,i<S.length->0<=(stpAt S i).to:=fun i hi=>(hS.ok i hi).2.1.1
  by_cases c:(x1sf S b).last<0
  .left
   have e:x1s0 S (k+1) b=x1sf S b:=by simp only[x1s0];rw[if_pos c]
   rw[e]
   obtain⟨e1,e2⟩:=x25p hto S.length 0 ⟨b.far,b.by',-1⟩ (by omega) c
   refine⟨c,h1.fl,fun j hj=>?_⟩
   have e3:(x1sf S b).far=b.far:=by unfold x1sf;rw[e1]
   rw[e3]
   exact e2 j (by omega) (by omega)
  .have e:x1s0 S (k+1) b=x1s0 S k (x1sf S b):=by rw[x1s0];rw[if_neg c]
   rw[e]
   cases k with
   |zero=>
    right
    refine⟨t1,h1,?_⟩
    rcases h1.la with g|g
    .simp only[x1s0]at c ⊢;omega
    .exact g
   |succ k=>
    have h2:=x25n h1
    have e4:x1s0 S (k+1) (x1sf S b)=x1s0 S (k+1) ⟨(x1sf S b).far,(x1sf S b).by',-1⟩:=rfl
    rw[e4]
    have:=x25q hS hJ k (r+1) h2
    rw[show r+1+k=r+(k+1) by omega]at this
    exact this
theorem BFI.init{J:Int}{n:Nat}{S:List Stp}(hJ:0<=J):BFI J n S 0 0 ⟨List.replicate n 0,List.replicate n 0,-1⟩ (fun _=>0):=by
 refine⟨by simp,by simp,fun v=>Nat.zero_le _,fun u v _ h=>by omega,fun v=>?_,fun v=>?_,fun j hj hs=>?_,fun v _ h=>by omega,Or.inl rfl⟩
 .simp only[x1z5];simp
 .simp only[x1z5];simp
 .unfold sT at hs
  rw[if_neg (by omega)]at hs
  omega
def itr(f:Nat->Nat):Nat->Nat->Nat
 |0,v=>v
 |m+1,v=>itr f m (f v)
theorem x1ud(f:Nat->Nat):∀(a b v:Nat),itr f (a+b) v=itr f b (itr f a v)
 |0,b,v=>by rw[Nat.zero_add];rfl
 |a+1,b,v=>by rw[show a+1+b=(a+b)+1 by omega];exact x1ud f a b (f v)
theorem x1vy(f:Nat->Nat)(a v:Nat):itr f (a+1) v=f (itr f a v):=x1ud f a 1 v
def prN(S:List Stp)(by':List Int)(v:Nat):Nat:=(stpAt S (at0 by' v).toNat).fr.toNat
def stB(S:List Stp)(by':List Int)(v:Nat):Stp:=stpAt S (at0 by' v).toNat
theorem pigeon(V:Nat->Nat)(n:Nat)(h:∀i,i<=n->V i<n):∃i j,i<j/\j<=n/\V i=V j:=by
 have key:∀k,k<=n+1->(∃i j,i<j/\j<k/\V i=V j)\/((List.range k).map V).Nodup:=by
  intro k
  induction k with
  |zero=>intro _;right;simp
  |succ k ih=>
   intro hk
   rcases ih (by omega)with ⟨i,j,a,b,c⟩|hn
   .left;exact⟨i,j,a,by omega,c⟩
   .by_cases hm:V k∈(List.range k).map V
    .left
     obtain⟨i,hi,hv⟩:=List.mem_map.mp hm
     rw[List.mem_range]at hi
     exact⟨i,k,hi,by omega,hv⟩
    .right
     rw[List.range_succ,List.map_append,List.nodup_append]
     refine⟨hn,by simp,fun a ha b hb=>?_⟩
     simp only[List.map_cons,List.map_nil,List.mem_singleton]at hb
     subst hb
     exact fun e=>hm (e▸ha)
 rcases key (n+1) (Nat.le_refl _)with ⟨i,j,a,b,c⟩|hn
 .exact⟨i,j,a,by omega,c⟩
 .exfalso
  have:=x22j (n:=n) hn (fun w hw=>by
   obtain⟨i,hi,rfl⟩:=List.mem_map.mp hw
   rw[List.mem_range]at hi
   exact h i (by omega))
  rw[List.length_map,List.length_range]at this
  omega
theorem x25r{P:Nat->Prop}:∀d,P d->∃d,P d/\∀e,e<d->¬P e:=by
 intro d
 induction d using Nat.strongRecOn with
 |_ d ih=>
  intro h
  by_cases c:∃e,e<d/\P e
  .obtain⟨e,h1,h2⟩:=c
   exact ih e h1 h2
  .exact⟨d,h,fun e he hp=>c ⟨e,he,hp⟩⟩
structure Cyc (n:Nat) (S:List Stp) (by' far:List Int) (ta:Nat->Nat) (x d:Nat):Prop where
 d0:1<=d
 d1:d<=n
 back:itr (prN S by') d x=x
 min:∀e,1<=e->e<d->itr (prN S by') e x≠x
 good:∀m,itr (prN S by') m x<n/\0<ta (itr (prN S by') m x)
theorem cycle_ok{J:Int}{n:Nat}{S:List Stp}(hS:SOK J n S){b:BF}{ta:Nat->Nat}(h:BFI J n S n S.length b ta){v0:Nat}(hv:v0<n)(hta:n*S.length<ta v0) :
 (∀m,itr (prN S b.by') m v0<n/\0<ta (itr (prN S b.by') m v0))/\∃d,Cyc n S b.by' b.far ta (itr (prN S b.by') n v0) d:=by
 obtain⟨f,hf⟩:∃f,f=prN S b.by':=⟨_,rfl⟩
 have hpr:∀v,v<n->0<ta v->f v<n/\(S.length<ta v->ta v<ta (f v)+S.length):=fun v hv h0=>by
  obtain⟨p1,p2,p3,p4,p5⟩:=h.pre v hv h0
  have:=(hS.ok _ p1).1
  rw[hf]
  unfold prN
  exact⟨by omega,p5⟩
 have hV:∀k,k<=n->itr f k v0<n/\(n-k)*S.length<ta (itr f k v0):=by
  intro k
  induction k with
  |zero=>intro _;exact⟨hv,hta⟩
  |succ k ih=>
   intro hk
   obtain⟨i1,i2⟩:=ih (by omega)
   obtain⟨q1,q2⟩:=hpr _ i1 (by omega)
   rw[x1vy]
   refine⟨q1,?_⟩
   have e:(n-k)*S.length=(n-(k+1))*S.length+S.length:=by
    rw[show n-k=(n-(k+1))+1 by omega,Nat.succ_mul]
   have:=q2 (by omega)
   omega
 obtain⟨i,j,hij,hj,he⟩:=pigeon (fun k=>itr f k v0) n (fun k hk=>(hV k hk).1)
 have he:itr f i v0=itr f j v0:=he
 have hall:∀m,∃k,k<=n/\itr f m v0=itr f k v0:=by
  intro m
  induction m with
  |zero=>exact⟨0,Nat.zero_le _,rfl⟩
  |succ m ih=>
   obtain⟨k,hk,e⟩:=ih
   by_cases c:k<n
   .exact⟨k+1,by omega,by rw[x1vy,x1vy,e]⟩
   .have hk':k=n:=by omega
    refine⟨i+(n+1-j),by omega,?_⟩
    rw[x1vy,e,<-x1vy f,hk',x1ud f i,he,<-x1ud]
    congr 1
    omega
 have hgood:∀m,itr f m v0<n/\0<ta (itr f m v0):=fun m=>by
  obtain⟨k,hk,e⟩:=hall m
  rw[e]
  have:=hV k hk
  exact⟨this.1,by omega⟩
 have hback:itr f (j-i) (itr f n v0)=itr f n v0:=by
  rw[<-x1ud,show n+(j-i)=j+(n-i) by omega,x1ud,<-he,<-x1ud]
  congr 1
  omega
 obtain⟨d,⟨hd1,hd2⟩,hd3⟩:=x25r (P:=fun d=>1<=d/\itr f d (itr f n v0)=itr f n v0) (j-i) ⟨by omega,hback⟩
 rw[<-hf]
 refine⟨hgood,d,⟨hd1,?_,by rw[<-hf];exact hd2,fun e h1 h2 h3=>hd3 e h2 ⟨h1,by rw[<-hf]at h3;exact h3⟩,fun m=>by rw[<-hf,<-x1ud];exact hgood _⟩⟩
 by_cases c:d<=j-i
 .omega
 .exact absurd ⟨by omega,hback⟩ (hd3 (j-i) (by omega))
def tl(f:Nat->Nat):Nat->Nat->List Nat
 |0,_=>[]
 |k+1,a=>a::tl f k (f a)
theorem tl_len(f:Nat->Nat):∀k a,(tl f k a).length=k
 |0,_=>rfl
 |k+1,a=>by simp[tl,tl_len f k]
theorem x20e{f:Nat->Nat}:∀{k a w:Nat},w∈tl f k a->∃j,j<k/\w=itr f j a
 |0,a,w,h=>by simp[tl]at h
 |k+1,a,w,h=>by
  rcases List.mem_cons.mp h with rfl|h
  .exact⟨0,by omega,rfl⟩
  .obtain⟨j,hj,e⟩:=x20e h
   exact⟨j+1,by omega,e⟩
def CyI(f:Nat->Nat)(x:Nat):Nat->List Nat->Prop
 |a,[]=>a=x
 |a,w::ws=>a=w/\w≠x/\CyI f x (f w) ws
theorem cyc_back{n:Nat}{S:List Stp}{by' far:List Int}{ta:Nat->Nat}{x d:Nat}(h:Cyc n S by' far ta x d):CyI (prN S by') x (prN S by' x) (tl (prN S by') (d-1) (prN S by' x)):=by
 have key:∀k,k+1<=d->CyI (prN S by') x (itr (prN S by') (d-k) x) (tl (prN S by') k (itr (prN S by') (d-k) x)):=by
  intro k
  induction k with
  |zero=>intro _;exact h.back
  |succ k ih=>
   intro hk
   refine⟨rfl,h.min _ (by omega) (by omega),?_⟩
   have:=ih (by omega)
   rw[show d-k=(d-(k+1))+1 by omega,x1vy]at this
   exact this
 have:=key (d-1) (by have:=h.d0;omega)
 rw[show d-(d-1)=0+1 by have:=h.d0;omega,x1vy]at this
 exact this
theorem tl_nodup{n:Nat}{S:List Stp}{by' far:List Int}{ta:Nat->Nat}{x d:Nat}(h:Cyc n S by' far ta x d):(tl (prN S by') d x).Nodup:=by
 have key:∀k,k<=d->(tl (prN S by') k (itr (prN S by') (d-k) x)).Nodup:=by
  intro k
  induction k with
  |zero=>intro _;exact List.nodup_nil
  |succ k ih=>
   intro hk
   have i1:=ih (by omega)
   rw[show d-k=(d-(k+1))+1 by omega,x1vy]at i1
   refine List.nodup_cons.mpr ⟨fun hm=>?_,i1⟩
   obtain⟨j,hj,e⟩:=x20e hm
   rw[<-x1vy (prN S by'),<-x1ud]at e
   have e2:itr (prN S by') (k+1) (itr (prN S by') (d-(k+1)) x)=itr (prN S by') (k+1) (itr (prN S by') (d-(k+1)+1+j) x):=by rw[<-e]
   rw[<-x1ud,<-x1ud,show d-(k+1)+(k+1)=d by omega,show d-(k+1)+1+j+(k+1)=d+(j+1) by omega,x1ud,h.back]at e2
   exact h.min (j+1) (by omega) (by omega) e2.symm
 have:=key d (Nat.le_refl _)
 rw[Nat.sub_self]at this
 exact this
def gsum(S:List Stp)(by':List Int):List Nat->Int
 |[]=>0
 |w::ws=>(stB S by' w).gain+gsum S by' ws
theorem BFI.step{J:Int}{n:Nat}{S:List Stp}(hS:SOK J n S){r i:Nat}{b:BF}{ta:Nat->Nat}(h:BFI J n S r i b ta){v:Nat}(hv:v<n)(h0:0<ta v) :
 stB S b.by' v∈S/\(stB S b.by' v).to=v/\(stB S b.by' v).fr=(prN S b.by' v:Nat)/\prN S b.by' v≠v/\at0 b.far v<=at0 b.far (prN S b.by' v)+(stB S b.by' v).gain /\
  (ta v<ta (prN S b.by' v)->at0 b.far v<at0 b.far (prN S b.by' v)+(stB S b.by' v).gain):=by
 obtain⟨p1,p2,p3,p4,p5⟩:=h.pre v hv h0
 have hok:=hS.ok _ p1
 refine⟨?_,p2,?_,?_,p3,p4⟩
 .unfold stB;rw[x1wk p1];exact List.getElem_mem p1
 .unfold stB prN;omega
 .unfold prN;omega
theorem gsum_ge{J:Int}{n:Nat}{S:List Stp}(hS:SOK J n S){r i:Nat}{b:BF}{ta:Nat->Nat}(h:BFI J n S r i b ta):∀(k a:Nat),(∀m,m<=k->itr (prN S b.by') m a<n/\0<ta (itr (prN S b.by') m a)) ->
 at0 b.far a<=at0 b.far (itr (prN S b.by') k a)+gsum S b.by' (tl (prN S b.by') k a)/\(at0 b.far a<at0 b.far (itr (prN S b.by') k a)+gsum S b.by' (tl (prN S b.by') k a)\/ta (itr (prN S b.by') k a)<ta a\/k=0)
 |0,a,_=>⟨by simp[itr,tl,gsum],Or.inr (Or.inr rfl)⟩
 |k+1,a,hg=>by
  obtain⟨g1,g2⟩:=hg 0 (by omega)
  have g1:a<n:=g1
  have g2:0<ta a:=g2
  obtain⟨s1,s2,s3,s4,s5,s6⟩:=h.step hS g1 g2
  obtain⟨i1,i2⟩:=gsum_ge hS h k (prN S b.by' a) (fun m hm=>hg (m+1) (by omega))
  have e:itr (prN S b.by') (k+1) a=itr (prN S b.by') k (prN S b.by' a):=rfl
  simp only[tl,gsum]
  rw[e]
  refine⟨by omega,?_⟩
  by_cases c:ta a<ta (prN S b.by' a)
  .left;have:=s6 c;omega
  .have hne:ta (prN S b.by' a)≠ta a:=fun e=>s4 (h.inj _ _ e (by omega))
   rcases i2 with g|g|g
   .left;omega
   .right;left;omega
   .subst g
    right;left
    show ta (prN S b.by' a)<ta a
    omega
theorem gain_pos{J:Int}{n:Nat}{S:List Stp}(hS:SOK J n S){r i:Nat}{b:BF}{ta:Nat->Nat}(h:BFI J n S r i b ta){x d:Nat}(hc:Cyc n S b.by' b.far ta x d):0<gsum S b.by' (tl (prN S b.by') d x):=by
 obtain⟨h1,h2⟩:=gsum_ge hS h d x (fun m _=>hc.good m)
 rw[hc.back]at h1 h2
 have:=hc.d0
 rcases h2 with g|g|g<;>omega
def x1tc(S:List Stp)(by':List Int)(room:Int)(ws:List Nat)(fl:List Int):List Int:=ws.foldl (fun o w=>o.set (stB S by' w).ed.toNat (at0 o (stB S by' w).ed.toNat+(stB S by' w).sg*room)) fl
def x1ue(S:List Stp)(by':List Int)(ws:List Nat)(r:Int):Int:=ws.foldl (fun r w=>minI r (stB S by' w).room) r
theorem room_le(S:List Stp)(by':List Int):∀(ws:List Nat) (r:Int),x1ue S by' ws r<=r/\∀w∈ws,x1ue S by' ws r<=(stB S by' w).room
 |[],r=>⟨Int.le_refl _,fun w h=>by simp at h⟩
 |v::ws,r=>by
  have e:x1ue S by' (v::ws) r=x1ue S by' ws (minI r (stB S by' v).room):=rfl
  obtain⟨h1,h2⟩:=room_le S by' ws (minI r (stB S by' v).room)
  have h3:minI r (stB S by' v).room<=r:=by unfold minI;split<;>omega
  have h4:minI r (stB S by' v).room<=(stB S by' v).room:=by unfold minI;split<;>omega
  rw[e]
  refine⟨by omega,fun w hw=>?_⟩
  rcases List.mem_cons.mp hw with rfl|hw
  .omega
  .exact h2 w hw
theorem x25s(S:List Stp)(by':List Int):∀(ws:List Nat) (r:Int),0<r->(∀w∈ws,0<(stB S by' w).room)->0<x1ue S by' ws r
 |[],r,h,_=>h
 |v::ws,r,h,hp=>by
  have e:x1ue S by' (v::ws) r=x1ue S by' ws (minI r (stB S by' v).room):=rfl
  rw[e]
  refine x25s S by' ws _ ?_ (fun w hw=>hp w (List.mem_cons_of_mem _ hw))
  have:=hp v (List.mem_cons_self ..)
  unfold minI;split<;>omega
theorem x22m(S:List Stp)(by':List Int)(room:Int):∀(ws:List Nat) (fl:List Int),(x1tc S by' room ws fl).length=fl.length
 |[],_=>rfl
 |v::ws,fl=>by
  have e:x1tc S by' room (v::ws) fl=x1tc S by' room ws (fl.set (stB S by' v).ed.toNat (at0 fl (stB S by' v).ed.toNat+(stB S by' v).sg*room)):=rfl
  rw[e,x22m S by' room ws];simp
theorem x25t(S:List Stp)(by':List Int)(room:Int):∀(ws:List Nat) (fl:List Int),(∀w∈ws,(stB S by' w).ed.toNat<fl.length)->ws.Pairwise (fun v w=>(stB S by' v).ed.toNat≠(stB S by' w).ed.toNat)->∀k,
 (∀w∈ws,(stB S by' w).ed.toNat=k->at0 (x1tc S by' room ws fl) k=at0 fl k+(stB S by' w).sg*room)/\((∀w∈ws,(stB S by' w).ed.toNat≠k)->at0 (x1tc S by' room ws fl) k=at0 fl k)
 |[],fl,_,_,k=>⟨fun w hw=>by simp at hw,fun _=>rfl⟩
 |v::ws,fl,h,hp,k=>by
  have e:x1tc S by' room (v::ws) fl=x1tc S by' room ws (fl.set (stB S by' v).ed.toNat (at0 fl (stB S by' v).ed.toNat+(stB S by' v).sg*room)):=rfl
  obtain⟨h1,h2⟩:=List.pairwise_cons.mp hp
  have hv:=h v (List.mem_cons_self ..)
  obtain⟨i1,i2⟩:=x25t S by' room ws (fl.set (stB S by' v).ed.toNat (at0 fl (stB S by' v).ed.toNat+(stB S by' v).sg*room)) (fun w hw=>by simpa using h w (List.mem_cons_of_mem _ hw)) h2 k
  rw[e]
  rw[x1sa hv]at i1 i2
  refine⟨fun w hw hk=>?_,fun hk=>?_⟩
  .rcases List.mem_cons.mp hw with rfl|hw
   .rw[i2 (fun x hx=>by rw[<-hk];exact fun y=>h1 x hx y.symm),if_pos hk.symm,hk]
   .rw[i1 w hw hk,if_neg (by rw[<-hk];exact fun y=>h1 w hw y.symm)]
  .rw[i2 (fun w hw=>hk w (List.mem_cons_of_mem _ hw)),if_neg (fun y=>hk v (List.mem_cons_self ..) y.symm)]
theorem x25u:∀(l:List Edge) (fl:List Int) (k:Nat) (x:Int),k<l.length->fl.length=l.length ->
 valF (l.zip (fl.set k x))=valF (l.zip fl)+(x-at0 fl k)*(edgeAt l k).jump
 |e::l,f::fl,0,x,hk,hl=>by
  simp only[List.set_cons_zero,List.zip_cons_cons,valF,show edgeAt (e::l) 0=e from rfl,show at0 (f::fl) 0=f from rfl]
  grind
 |e::l,f::fl,k+1,x,hk,hl=>by
  have:=x25u l fl k x (by simpa using hk) (by simpa using hl)
  simp only[List.set_cons_succ,List.zip_cons_cons,valF,show edgeAt (e::l) (k+1)=edgeAt l k from rfl,show at0 (f::fl) (k+1)=at0 fl k from rfl,this]
  omega
 |[],_,k,x,hk,_=>by simp at hk
 |_::_,[],k,x,_,hl=>by simp at hl
theorem x25v{l:List Edge}{fl0:List Int}{S:List Stp}{by':List Int}(room:Int)(v:Nat):∀(k a:Nat) (fl:List Int),fl.length=l.length ->
 (∀m,m<k->StpOf l fl0 (stB S by' (itr (prN S by') m a))/\(stB S by' (itr (prN S by') m a)).to=(itr (prN S by') m a:Nat)/\(stB S by' (itr (prN S by') m a)).fr=(prN S by' (itr (prN S by') m a):Nat)) ->
 netF v (l.zip (x1tc S by' room (tl (prN S by') k a) fl))=netF v (l.zip fl)+room*(ind (a=v)-ind (itr (prN S by') k a=v)) /\
 valF (l.zip (x1tc S by' room (tl (prN S by') k a) fl))=valF (l.zip fl)+room*gsum S by' (tl (prN S by') k a)
 |0,a,fl,hl,_=>⟨by show _=_+room*(ind (a=v)-ind (a=v));rw[Int.sub_self,Int.mul_zero,Int.add_zero];rfl,by simp[x1tc,tl,gsum]⟩
 |k+1,a,fl,hl,h=>by
  obtain⟨⟨j,hj,he,hr,hc⟩,ht,hf⟩:=h 0 (by omega)
  have ht:(stB S by' a).to=(a:Nat):=ht
  have hf:(stB S by' a).fr=(prN S by' a:Nat):=hf
  have he:(stB S by' a).ed=(j:Nat):=he
  obtain⟨i1,i2⟩:=x25v room v k (prN S by' a) (fl.set (stB S by' a).ed.toNat (at0 fl (stB S by' a).ed.toNat+(stB S by' a).sg*room)) (by simpa using hl) (fun m hm=>h (m+1) (by omega))
  have e:x1tc S by' room (tl (prN S by') (k+1) a) fl=x1tc S by' room (tl (prN S by') k (prN S by' a)) (fl.set (stB S by' a).ed.toNat (at0 fl (stB S by' a).ed.toNat+(stB S by' a).sg*room)):=rfl
  have e2:itr (prN S by') (k+1) a=itr (prN S by') k (prN S by' a):=rfl
  have e3:gsum S by' (tl (prN S by') (k+1) a)=(stB S by' a).gain+gsum S by' (tl (prN S by') k (prN S by' a)):=rfl
  rw[e,e2,e3,i1,i2,he,Int.toNat_natCast,x22k v l fl j _ hj hl,x25u l fl j _ hj hl]
  simp only[itr]at hc
  rcases hc with ⟨a1,a2,a3,a4,a5⟩|⟨a1,a2,a3,a4,a5⟩
  .rw[show(edgeAt l j).to.toNat=a by omega,show(edgeAt l j).fr.toNat=prN S by' a by omega,a3,a4]
   constructor<;>grind
  .rw[show(edgeAt l j).to.toNat=prN S by' a by omega,show(edgeAt l j).fr.toNat=a by omega,a3,a4]
   constructor<;>grind
theorem grow_ok{J:Int}{n:Nat}{l:List Edge}{fl:List Int}(hSl:Slim J n l)(hl:fl.length=l.length)(hF:Feas n (l.zip fl)){r i:Nat}{b:BF}{ta:Nat->Nat}(h:BFI J n (x1r7 l fl) r i b ta){x d:Nat}(hc:Cyc n (x1r7 l fl) b.by' b.far ta x d){room:Int}(hr0:0<room)(hr:∀w∈tl (prN (x1r7 l fl) b.by') d x,room<=(stB (x1r7 l fl) b.by' w).room) :
 Feas n (l.zip (x1tc (x1r7 l fl) b.by' room (tl (prN (x1r7 l fl) b.by') d x) fl))/\valF (l.zip fl)<valF (l.zip (x1tc (x1r7 l fl) b.by' room (tl (prN (x1r7 l fl) b.by') d x) fl)):=by
 have hS:=x22l (fl:=fl) hSl
 have hG:=gain_pos hS h hc
 obtain⟨S,hSe⟩:∃S,S=x1r7 l fl:=⟨_,rfl⟩
 rw[<-hSe]at hS h hc hr hG ⊢
 have hmem:∀w∈tl (prN S b.by') d x,w<n/\0<ta w:=fun w hw=>by
  obtain⟨j,hj,rfl⟩:=x20e hw
  exact hc.good j
 have hof:∀{w:Nat},w<n->0<ta w->StpOf l fl (stB S b.by' w):=fun{w} h1 h2=>by
  have:=(h.step hS h1 h2).1
  rw[hSe]at this ⊢
  exact x20d this
 have hpw:(tl (prN S b.by') d x).Pairwise (fun v w=>(stB S b.by' v).ed.toNat≠(stB S b.by' w).ed.toNat):=by
  refine List.Pairwise.imp_of_mem ?_ (tl_nodup hc)
  intro v w hv hw hne
  obtain⟨v1,v2⟩:=hmem v hv
  obtain⟨w1,w2⟩:=hmem w hw
  obtain⟨s1,s2,s3,s4,s5,s6⟩:=h.step hS v1 v2
  obtain⟨u1,u2,u3,u4,u5,u6⟩:=h.step hS w1 w2
  obtain⟨j,hj,je,jr,jc⟩:=hof v1 v2
  obtain⟨k,hk,ke,kr,kc⟩:=hof w1 w2
  rw[je,ke]
  intro e
  have e:j=k:=by omega
  subst e
  have ht:ta v≠ta w:=fun e=>hne (h.inj _ _ e v2)
  rcases jc with ⟨a1,a2,a3,a4,a5⟩|⟨a1,a2,a3,a4,a5⟩<;>rcases kc with ⟨b1,b2,b3,b4,b5⟩|⟨b1,b2,b3,b4,b5⟩
  .exact hne (by omega)
  .have e1:prN S b.by' v=w:=by omega
   have e2:prN S b.by' w=v:=by omega
   rw[e1]at s5 s6
   rw[e2]at u5 u6
   rcases Nat.lt_or_gt_of_ne ht with g|g
   .have:=s6 g;omega
   .have:=u6 g;omega
  .have e1:prN S b.by' v=w:=by omega
   have e2:prN S b.by' w=v:=by omega
   rw[e1]at s5 s6
   rw[e2]at u5 u6
   rcases Nat.lt_or_gt_of_ne ht with g|g
   .have:=s6 g;omega
   .have:=u6 g;omega
  .exact hne (by omega)
 have hlt:∀w∈tl (prN S b.by') d x,(stB S b.by' w).ed.toNat<fl.length:=fun w hw=>by
  obtain⟨w1,w2⟩:=hmem w hw
  obtain⟨k,hk,ke,-⟩:=hof w1 w2
  omega
 have hgn:=fun v=>x25v (l:=l) (fl0:=fl) (S:=S) (by':=b.by') room v d x fl hl (fun m hm=>by
  obtain⟨g1,g2⟩:=hc.good m
  obtain⟨s1,s2,s3,-⟩:=h.step hS g1 g2
  exact⟨hof g1 g2,s2,s3⟩)
 have hGl:(x1tc S b.by' room (tl (prN S b.by') d x) fl).length=l.length:=by rw[x22m];exact hl
 refine⟨⟨fun y hy=>?_,fun v hv=>?_,x1wy hSl.ed hGl⟩,?_⟩
 .obtain⟨k,hk,rfl⟩:=(x1t0 hGl).mp hy
  have hcap:=hF.cap _ ((x1t0 hl).mpr ⟨k,hk,rfl⟩)
  obtain⟨g1,g2⟩:=x25t S b.by' room _ fl hlt hpw k
  simp only at hcap ⊢
  by_cases c:∃w∈tl (prN S b.by') d x,(stB S b.by' w).ed.toNat=k
  .obtain⟨w,hw,e⟩:=c
   rw[g1 w hw e]
   obtain⟨w1,w2⟩:=hmem w hw
   obtain⟨j,hj,je,jr,jc⟩:=hof w1 w2
   have hrw:=hr w hw
   obtain rfl:j=k:=by omega
   rcases jc with ⟨a1,a2,a3,a4,a5⟩|⟨a1,a2,a3,a4,a5⟩
   .rw[a3];omega
   .rw[a3];omega
  .rw[g2 (fun w hw e=>c ⟨w,hw,e⟩)]
   exact hcap
 .rw[(hgn v).1,hF.cons v hv,hc.back]
  omega
 .rw[(hgn 0).2]
  have:=Int.mul_pos hr0 hG
  omega
theorem far_cs{l:List Edge}{fl far:List Int}(hl:fl.length=l.length)(h:∀j,j<(x1r7 l fl).length->at0 far (stpAt (x1r7 l fl) j).fr.toNat+(stpAt (x1r7 l fl) j).gain<=at0 far (stpAt (x1r7 l fl) j).to.toNat) :
 CS (fun v=>-at0 far v) (l.zip fl):=by
 rw[cs_iff]
 intro u v c ha
 obtain⟨s,hs,e1,e2,e3⟩:=x25l hl ha
 obtain⟨j,hj,e⟩:=List.mem_iff_getElem.mp hs
 have:=h j hj
 rw[x1wk hj,e,e1,e2,e3]at this
 omega
open Go.Proofs
def Stp.c(s:Stp):List AV:=[I s.fr,I s.to,I s.ed,I s.sg,I s.gain,I s.room]
theorem Stp.len(s:Stp):s.c.length=6:=rfl
theorem Stp.still1(s:Stp):s.c.all Go.Ix.still1=true:=rfl
theorem x20f:x4o=[I 0,I 0,I 0,I 0,I 0,I 0]:=by kernel_rfl
theorem x25w(a b c d e f:Int):x1qx x4o [(0,1,I a),(1,1,I b),(2,1,I c),(3,1,I d),(4,1,I e),(5,1,I f)]=some (.agg [I a,I b,I c,I d,I e,I f]):=by
 simp[x1qx,x1rx,x20f]
theorem mkLit_6{id:Id}{a b c d e f:Int}{m:Mem}{R:Type}(k:AV->Mem->Option R):x1r2 x4o [(0,6,.agg [I a,I b,I c,I d,I e,I f])] 1 6 id m k=k (.slit [I a,I b,I c,I d,I e,I f] 1 true) m:=by
 simp[x1r2,x1rx,x1rd,x20f,List.range_succ,x1rc]
def okS(id:Id):Prop:=id.2.2=71\/id.2.2=44
theorem x25x(call:x1qo)(hs:FHs){n:Nat}{fa o t2:AV}{fl:List Int}{e:Edge}{acc:List Stp}{k:Nat}{id7:Id}{M:Mem}(hf:Ints fa fl)(hk:k<fl.length)(hkl:k<=1000)(he:EdgeIn n e)(hb:-1000<=at0 fl k/\at0 fl k<=1000)(h7:M.get id7=some (.row e.c 0 false))(hG:Gk 6 Stp.c okS M o acc)(ha:acc.length<=1000)(fc:Nat) :
 ∃m' o' fc',(∀rec0,x6i call hs 0 rec0 fa t2 o (I k) (.ptr id7 0 0) M fc=rec0 fa t2 o' (I ((k+1:Nat):Int)) m' fc') /\
  Gk 6 Stp.c okS m' o' (acc++if -e.wt<at0 fl k then[⟨e.to,e.fr,k,-1,-e.jump,e.wt+at0 fl k⟩]else[])/\∀id,¬okS id->m'.get id=M.get id:=by
 obtain⟨f0,f1,t0,t1,j0,j1,w0,w1⟩:=he
 have ix:=hf.ix x1rk hk
 simp only[Edge.c]at h7
 by_cases c:-e.wt<at0 fl k
 .obtain⟨a',m2,A,hG2,c1,c2,n2,f2⟩:=hG.app Stp.len (by omega) (bytes:=48) (id0:=(0,fc+26,71)) (Or.inl rfl) (by unfold x1r4;omega) ⟨e.to,e.fr,k,-1,-e.jump,e.wt+at0 fl k⟩
  refine⟨m2,a',fc+31,fun rec0=>?_,by rw[if_pos c];exact hG2,f2⟩
  unfold x6i x1h
  have hel:∀M:Mem,elems M.get 6 (.slit [I e.to,I e.fr,I (k:Int),I (-1),I (-e.jump),I (e.wt+at0 fl k)] 1 true)=some ((⟨e.to,e.fr,k,-1,-e.jump,e.wt+at0 fl k⟩:Stp).c,1):=fun _=>rfl
  simp(disch:=omega) [ix,x1rg,h7,c,x25w,mkLit_6,hel,A]
 .refine⟨M,o,fc+11,fun rec0=>?_,by rw[if_neg c,List.append_nil];exact hG,fun _ _=>rfl⟩
  unfold x6i x1h
  simp(disch:=omega) [ix,x1rg,h7,c]
theorem b_steps3(call:x1qo)(hs:FHs){n:Nat}{fa o t2:AV}{fl:List Int}{e:Edge}{acc:List Stp}{k:Nat}{id7:Id}{M:Mem}(hf:Ints fa fl)(hk:k<fl.length)(hkl:k<=1000)(he:EdgeIn n e)(hb:-1000<=at0 fl k/\at0 fl k<=1000)(h7:M.get id7=some (.row e.c 0 false))(h7':¬okS id7)(hG:Gk 6 Stp.c okS M o acc)(ha:acc.length<=900)(fc:Nat) :
 ∃m' o' fc',(∀rec0,x7c call hs 0 rec0 fa t2 o (I k) (.ptr id7 0 0) M fc=rec0 fa t2 o' (I ((k+1:Nat):Int)) m' fc') /\
  Gk 6 Stp.c okS m' o' (acc++((if at0 fl k<e.wt then[⟨e.fr,e.to,k,1,e.jump,e.wt-at0 fl k⟩]else[])++if -e.wt<at0 fl k then[⟨e.to,e.fr,k,-1,-e.jump,e.wt+at0 fl k⟩]else[]))/\∀id,¬okS id->m'.get id=M.get id:=by
 have he':=he
 obtain⟨f0,f1,t0,t1,j0,j1,w0,w1⟩:=he'
 have ix:=hf.ix x1rk hk
 have h7c:=h7
 simp only[Edge.c]at h7c
 by_cases c:at0 fl k<e.wt
 .obtain⟨a',m2,A,hG2,c1,c2,n2,f2⟩:=hG.app Stp.len (by omega) (bytes:=48) (id0:=(0,fc+24,44)) (Or.inr rfl) (by unfold x1r4;omega) ⟨e.fr,e.to,k,1,e.jump,e.wt-at0 fl k⟩
  obtain⟨m3,o3,fc3,r1,r2,r3⟩:=x25x call hs (t2:=t2) hf hk hkl he hb (by rw[f2 _ h7'];exact h7) hG2 (by simp;omega) (fc+26)
  refine⟨m3,o3,fc3,fun rec0=>?_,by rw[if_pos c,<-List.append_assoc];exact r2,fun id hid=>by rw[r3 id hid,f2 id hid]⟩
  rw[<-r1 rec0]
  unfold x7c
  have hel:∀M:Mem,elems M.get 6 (.slit [I e.fr,I e.to,I (k:Int),I 1,I e.jump,I (e.wt-at0 fl k)] 1 true)=some ((⟨e.fr,e.to,k,1,e.jump,e.wt-at0 fl k⟩:Stp).c,1):=fun _=>rfl
  simp(disch:=omega) [ix,x1rg,h7c,c,x25w,mkLit_6,hel,A]
 .obtain⟨m3,o3,fc3,r1,r2,r3⟩:=x25x call hs (t2:=t2) hf hk hkl he hb h7 hG (by omega) (fc+7)
  refine⟨m3,o3,fc3,fun rec0=>?_,by rw[if_neg c,List.nil_append];exact r2,r3⟩
  rw[<-r1 rec0]
  unfold x7c
  simp(disch:=omega) [ix,x1rg,h7c,c]
theorem stpE_len(l:List Edge)(fl:List Int)(k:Nat):(stpE l fl k).length<=2:=by
 unfold stpE
 split<;>split<;>simp
theorem x1ya(l:List Edge)(fl:List Int):∀k,((List.range k).flatMap (stpE l fl)).length<=2*k
 |0=>by simp
 |k+1=>by
  have:=x1ya l fl k
  have:=stpE_len l fl k
  rw[List.range_succ,List.flatMap_append,List.length_append]
  simp only[List.flatMap_cons,List.flatMap_nil,List.append_nil]
  omega
theorem l_steps(d:Nat)(hs:FHs){n:Nat}{ev fa:AV}{l:List Edge}{fl:List Int}(h:Sl Edge.c ev l)(hf:Ints fa fl)(hl:l.length<=400)(hfl:fl.length=l.length)(he:∀k,k<l.length->EdgeIn n (edgeAt l k))(hb:∀k,-1000<=at0 fl k/\at0 fl k<=1000) :
 ∀(r k j:Nat) (o:AV) (m:Mem) (fc:Nat),k+r=l.length->r<j->m.get (0,0,2)=some (.row [I n,ev] 0 false)->Gk 6 Stp.c okS m o ((List.range k).flatMap (stpE l fl)) ->
 ∃m' o',x3j (x1qp d) hs 0 j fa (.ptr (0,0,2) 0 0) o (I k) m fc=some (o',m')/\Gk 6 Stp.c okS m' o' (x1r7 l fl):=by
 intro r
 induction r with
 |zero=>
  intro k j o m fc hk hj h2 hG
  obtain⟨j,rfl⟩:∃i,j=i+1:=⟨j-1,by omega⟩
  obtain rfl:k=l.length:=by omega
  refine⟨m,o,?_,hG⟩
  simp only[x3j]
  unfold xcz x18
  simp[h2,h.one,h.len x1v5]
 |succ r ih=>
  intro k j o m fc hk hj h2 hG
  obtain⟨j,rfl⟩:∃i,j=i+1:=⟨j-1,by omega⟩
  have hkl:k<l.length:=by omega
  have hk':(k:Int)<(l.length:Int):=by omega
  have ix:=h.ix Edge.len hkl
  have ld:=x1vt (m:=m) Edge.len (by omega) hkl
  rw[<-x1t9 hkl]at ld
  simp only[Edge.c]at ld
  obtain⟨M,hM⟩:∃M:Mem,M=(m.new (0,fc+5+5,7) (.row [I 0,I 0,I 0,I 0] 0 false)).set (0,fc+5+5,7) (.row (edgeAt l k).c 0 false):=⟨_,rfl⟩
  have hMg:∀id:Id,id≠(0,fc+5+5,7)->M.get id=m.get id:=fun id hid=>by rw[hM,Mem.get_set,if_neg hid,Mem.get_new,if_neg hid]
  have h7':¬okS (0,fc+5+5,7):=by unfold okS;simp
  have hlen:=x1ya l fl k
  obtain⟨m3,o3,fc3,r1,r2,r3⟩:=b_steps3 (x1qp d) hs (t2:=.ptr (0,0,2) 0 0) (M:=M) hf (show k<fl.length by omega) (by omega) (he k hkl) (hb k) (id7:=(0,fc+5+5,7)) (by rw[hM];simp) h7' (hG.frame fun id hid=>hMg id (by rintro rfl;exact h7' hid)) (by omega) (fc+5+7)
  obtain⟨m',o',e1,e2⟩:=ih (k+1) j o3 m3 fc3 (by omega) (by omega) (by rw[r3 _ (by unfold okS;simp),hMg _ (by simp)];exact h2) (by
   rw[List.range_succ,List.flatMap_append]
   simp only[List.flatMap_cons,List.flatMap_nil,List.append_nil]
   exact r2)
  refine⟨m',o',?_,e2⟩
  rw[<-e1]
  refine Eq.trans ?_ (r1 (x3j (x1qp d) hs 0 j))
  simp only[x3j]
  unfold xcz x9l
  rw[hM]
  simp(disch:=omega) [h2,h.one,h.len x1v5,hk',ix,ld,x1t7,Edge.c]
theorem w_steps(d:Nat){n:Nat}{ev fa:AV}{l:List Edge}{fl:List Int}(h:Sl Edge.c ev l)(hf:Ints fa fl)(hl:l.length<=400)(hfl:fl.length=l.length)(he:∀k,k<l.length->EdgeIn n (edgeAt l k))(hb:∀k,-1000<=at0 fl k/\at0 fl k<=1000)(m:Mem) :
 ∃st,Sl Stp.c st (x1r7 l fl)/\x1qq (x1qp (d+1)) x5u [.agg [I n,ev],fa] m=some (st,m):=by
 obtain⟨m',o',e1,e2⟩:=l_steps d [] h hf hl hfl he hb l.length 0 NN nilS ((⟨[],1⟩:Mem).new (0,0,2) (.row [I n,ev] 0 false)) 4 (by omega) (by rw[x1r6];omega) (by simp) Gk.nil
 obtain⟨st,hst,hfz⟩:=e2.frz (k:=4) Stp.len Stp.still1
 refine⟨st,hst,x1t6 (m':=m') (r:=o') (by simp[h.still1,hf.still]) ?_ hfz⟩
 rw[x10a]
 unfold xex xhc xd0
 simp[mem0,h.one]
 exact e1
theorem x1wz:Try.prog.underlying xgp=some (.slice xnm):=by kernel_rfl
theorem Sl.ixS{st:AV}{S:List Stp}(h:Sl Stp.c st S){i:Int}(h0:0<=i)(hi:i<S.length):∃rest,sIx 6 st (I i)=some (.plit (I (stpAt S i.toNat).fr::I (stpAt S i.toNat).to::I (stpAt S i.toNat).ed::I (stpAt S i.toNat).sg::I (stpAt S i.toNat).gain::I (stpAt S i.toNat).room::rest)):=by
 have hi':i.toNat<S.length:=by omega
 refine⟨(S.drop (i.toNat+1)).flatMap Stp.c,?_⟩
 rw[h.ixI Stp.len h0 hi,x1t5 hi',List.flatMap_cons,x1wk hi']
 rfl
theorem ldS{a b c d e f:AV}{rest:List AV}{m:Mem}:sLd true 6 (.plit (a::b::c::d::e::f::rest)) m=some (.agg [a,b,c,d,e,f]):=by
 simp only[sLd,List.isEmpty_cons,Bool.false_eq_true,if_false]
 rw[rd_t]
 simp only[List.length_cons]
 rw[decide_eq_true (by omega)]
 rfl
structure GrowMem (n:Nat) (ev:AV) (b:BF) (m:Mem):Prop where
 a:m.get (0,0,2)=some (.row [I n,ev] 0 false)
 f:m.get (0,9,24)=some (.row (b.far.flatMap intE) 0 false)
 g:m.get (0,12,27)=some (.row (b.by'.flatMap intE) 0 false)
 nx:1<=m.next
theorem l_pass(d:Nat)(hs:FHs){J:Int}{n:Nat}{S:List Stp}{st ev fa:AV}(hst:Sl Stp.c st S)(hS:SOK J n S)(hJ:0<=J/\J<=5){r:Nat}(hr:r<=12)(hSl:S.length<=40)(rec3:AV->AV->AV->AV->AV->AV->AV->Mem->Nat->Option (AV×Mem))(t10:AV) :
 ∀(k i j:Nat) (b:BF) (ta:Nat->Nat) (m:Mem) (fc:Nat),i+k=S.length->k<j->BFI J n S r i b ta->GrowMem n ev b m ->
 ∃m' fc',x3c (x1qp d) hs 0 rec3 j fa (.ptr (0,0,2) 0 0) st (srI (0,9,24) n) (srI (0,12,27) n) (I b.last) t10 (I i) m fc =
  x1g (x1qp d) hs 0 rec3 fa (.ptr (0,0,2) 0 0) st (srI (0,9,24) n) (srI (0,12,27) n) (I (x1u5 S k i b).last) t10 m' fc'/\GrowMem n ev (x1u5 S k i b) m':=by
 intro k
 induction k with
 |zero=>
  intro i j b ta m fc hk hj hB hM
  obtain⟨j,rfl⟩:∃i,j=i+1:=⟨j-1,by omega⟩
  have hi:¬((i:Int)<(S.length:Int)):=by omega
  refine⟨m,fc+4,?_,hM⟩
  simp only[x3c]
  unfold x97
  simp[hst.len x1wz,hi,x1u5]
 |succ k ih=>
  intro i j b ta m fc hk hj hB hM
  obtain⟨j,rfl⟩:∃i,j=i+1:=⟨j-1,by omega⟩
  have hiS:i<S.length:=by omega
  have hi:(i:Int)<(S.length:Int):=by omega
  obtain⟨⟨f0,f1⟩,⟨t0,t1⟩,hne,g0,g1⟩:=hS.ok i hiS
  obtain⟨rest,ix⟩:=hst.ixS (i:=(i:Int)) (by omega) hi
  rw[Int.toNat_natCast]at ix
  obtain⟨s,hs'⟩:∃s,s=stpAt S i:=⟨_,rfl⟩
  rw[<-hs']at f0 f1 t0 t1 hne g0 g1 ix
  have i1:=x1re (id:=(0,9,24)) (n:=n) f0 (by omega)
  have i2:=x1re (id:=(0,9,24)) (n:=n) t0 (by omega)
  have i3:=x1re (id:=(0,12,27)) (n:=n) t0 (by omega)
  have hfl:=hB.fl
  have hbl:=hB.bl
  have l1:s.fr.toNat<b.far.length:=by omega
  have l2:s.to.toNat<b.far.length:=by omega
  have l3:s.to.toNat<b.by'.length:=by omega
  have b1:=hB.bnd s.fr.toNat
  have b2:=hB.bnd s.to.toNat
  have hbd:J*((r*S.length+i:Nat):Int)<=5*10000:=by
   have:=Nat.mul_le_mul hr hSl
   exact Int.mul_le_mul hJ.2 (by omega) (by omega) (by omega)
  obtain⟨ta',hB'⟩:=x25m hS hJ.1 hB hiS
  have hx:x1u5 S (k+1) i b=x1u5 S k (i+1) (x1u4 S i b):=rfl
  rw[hx]
  have hf:=hM.f
  have hg:=hM.g
  by_cases c:at0 b.far s.to.toNat<at0 b.far s.fr.toNat+s.gain
  .have hrx:x1u4 S i b=⟨b.far.set s.to.toNat (at0 b.far s.fr.toNat+s.gain),b.by'.set s.to.toNat i,s.to⟩:=by unfold x1u4;rw[<-hs',if_pos c]
   rw[hrx]at hB' ⊢
   obtain⟨m',fc',e1,e2⟩:=ih (i+1) j _ ta' ((m.set (0,9,24) (.row ((b.far.set s.to.toNat (at0 b.far s.fr.toNat+s.gain)).flatMap intE) 0 false)).set (0,12,27) (.row ((b.by'.set s.to.toNat (i:Int)).flatMap intE) 0 false)) (fc+56) (by omega) (by omega) hB'
    ⟨by rw[Mem.get_set,if_neg (by simp),Mem.get_set,if_neg (by simp)];exact hM.a,by rw[Mem.get_set,if_neg (by simp),Mem.get_set,if_pos rfl],by rw[Mem.get_set,if_pos rfl],by simp only[Mem.next_set];exact hM.nx⟩
   refine⟨m',fc',?_,e2⟩
   rw[<-e1]
   simp only[x3c]
   unfold x97 x96 x74
   simp(disch:=omega) [hst.len x1wz,hi,ix,i1,i2,i3,hf,hg,c,Mem.get_set]
  .have hrx:x1u4 S i b=b:=by unfold x1u4;rw[<-hs',if_neg c]
   rw[hrx]at hB' ⊢
   obtain⟨m',fc',e1,e2⟩:=ih (i+1) j b ta' m (fc+32) (by omega) (by omega) hB' hM
   refine⟨m',fc',?_,e2⟩
   rw[<-e1]
   simp only[x3c]
   unfold x97 x96 x74
   simp(disch:=omega) [hst.len x1wz,hi,ix,i1,i2,i3,hf,hg,c]
theorem l_rounds(d:Nat)(hs:FHs){J:Int}{n:Nat}{S:List Stp}{st ev fa:AV}(hev:ev.one=true)(hst:Sl Stp.c st S)(hS:SOK J n S)(hJ:0<=J/\J<=5)(hn:n<=12)(hSl:S.length<=40) :
 ∀(k r j:Nat) (b:BF) (ta:Nat->Nat) (m:Mem) (fc:Nat),r+k=n+1->k<j->BFI J n S r 0 ⟨b.far,b.by',-1⟩ ta->GrowMem n ev b m ->
 ∃m' fc',GrowMem n ev (x1s0 S k b) m'/\x1a (x1qp d) hs 0 j fa (.ptr (0,0,2) 0 0) st (srI (0,9,24) n) (srI (0,12,27) n) (I b.last) (I r) m fc =
  if 0<k/\(x1s0 S k b).last<0 then some (.tup [fa,B false],m')else x9 (x1qp d) hs 0 fa (.ptr (0,0,2) 0 0) st (srI (0,12,27) n) (I (x1s0 S k b).last) m' fc':=by
 intro k
 induction k with
 |zero=>
  intro r j b ta m fc hk hj hB hM
  obtain⟨j,rfl⟩:∃i,j=i+1:=⟨j-1,by omega⟩
  have hi:¬((r:Int)<=(n:Int)):=by omega
  refine⟨m,fc+4,hM,?_⟩
  rw[if_neg (by omega)]
  simp only[x1a]
  unfold x99
  simp[hM.a,hi,x1s0]
 |succ k ih=>
  intro r j b ta m fc hk hj hB hM
  obtain⟨j,rfl⟩:∃i,j=i+1:=⟨j-1,by omega⟩
  have hi:(r:Int)<=(n:Int):=by omega
  obtain⟨m1,fc1,e1,hM1⟩:=l_pass d hs (fa:=fa) (ev:=ev) hst hS hJ (r:=r) (by omega) hSl (x1a (x1qp d) hs 0 j) (I r) S.length 0 NN ⟨b.far,b.by',-1⟩ ta m (fc+6) (by omega) (by rw[x1r6];omega) hB ⟨hM.a,hM.f,hM.g,hM.nx⟩
  obtain⟨t1,hB2⟩:=rnd_ok hS hJ.1 hB
  have hrd:x1u5 S S.length 0 ⟨b.far,b.by',-1⟩=x1sf S b:=rfl
  rw[hrd]at e1 hM1
  have start:x1a (x1qp d) hs 0 (j+1) fa (.ptr (0,0,2) 0 0) st (srI (0,9,24) n) (srI (0,12,27) n) (I b.last) (I r) m fc=x1g (x1qp d) hs 0 (x1a (x1qp d) hs 0 j) fa (.ptr (0,0,2) 0 0) st (srI (0,9,24) n) (srI (0,12,27) n) (I (x1sf S b).last) (I r) m1 fc1:=by
   rw[<-e1]
   have hL:∀(t1 t2 t6 t7 t8 t9 t10:AV) (M:Mem) (fc:Nat),x1a (x1qp d) hs 0 (j+1) t1 t2 t6 t7 t8 t9 t10 M fc=x99 (x1qp d) hs 0 (x1a (x1qp d) hs 0 j) t1 t2 t6 t7 t8 t9 t10 M fc:=fun _ _ _ _ _ _ _ _ _=>rfl
   rw[hL]
   unfold x99 x98 xc9
   simp[hM.a,hi]
  rw[start]
  unfold x1g xu
  by_cases c:(x1sf S b).last<0
  .have e:x1s0 S (k+1) b=x1sf S b:=by rw[x1s0];rw[if_pos c]
   rw[e]
   refine⟨m1,0,hM1,?_⟩
   rw[if_pos ⟨by omega,c⟩]
   simp[c]
  .have e:x1s0 S (k+1) b=x1s0 S k (x1sf S b):=by rw[x1s0];rw[if_neg c]
   have hB3:=x25n hB2
   rw[e]
   have hB4:BFI J n S (r+1) 0 ⟨(x1sf S b).far,(x1sf S b).by',-1⟩ t1:=hB3
   obtain⟨m',fc',e2,e3⟩:=ih (r+1) j (x1sf S b) t1 m1 (fc1+5) (by omega) (by omega) hB4 hM1
   refine⟨m',fc',e2,?_⟩
   have e4:(if 0<k+1/\(x1s0 S k (x1sf S b)).last<0 then some (AV.tup [fa,B false],m')else x9 (x1qp d) hs 0 fa (.ptr (0,0,2) 0 0) st (srI (0,12,27) n) (I (x1s0 S k (x1sf S b)).last) m' fc') =
    if 0<k/\(x1s0 S k (x1sf S b)).last<0 then some (AV.tup [fa,B false],m')else x9 (x1qp d) hs 0 fa (.ptr (0,0,2) 0 0) st (srI (0,12,27) n) (I (x1s0 S k (x1sf S b)).last) m' fc':=by
    cases k with
    |zero=>
     have:¬(x1s0 S 0 (x1sf S b)).last<0:=c
     rw[if_neg (fun h=>this h.2),if_neg (fun h=>this h.2)]
    |succ k=>simp only[Nat.succ_pos,true_and]
   rw[e4,<-e3]
   simp(disch:=omega) [c]
structure GoodV (n:Nat) (S:List Stp) (by':List Int) (v:Nat):Prop where
 v0:v<n
 b0:0<=at0 by' v
 b1:at0 by' v<S.length
 fr:(stB S by' v).fr=(prN S by' v:Nat)
 to:(stB S by' v).to=(v:Nat)
 mem:stB S by' v∈S
theorem BFI.good{J:Int}{n:Nat}{S:List Stp}(hS:SOK J n S){r i:Nat}{b:BF}{ta:Nat->Nat}(h:BFI J n S r i b ta){v:Nat}(hv:v<n)(h0:0<ta v):GoodV n S b.by' v:=by
 obtain⟨s1,s2,s3,-⟩:=h.step hS hv h0
 have:=(h.pre v hv h0).1
 exact⟨hv,(h.bb v).1,by have:=(h.bb v).1;omega,s3,s2,s1⟩
theorem GoodV.ixs{n:Nat}{S:List Stp}{by':List Int}{v:Nat}(h:GoodV n S by' v)(hl:by'.length=n){st:AV}(hst:Sl Stp.c st S):∃rest,
 sIx 1 (srI (0,12,27) n) (I v)=some (.ptr (0,12,27) 0 v)/\v<by'.length /\
 sIx 6 st (I (at0 by' v))=some (.plit (I (prN S by' v:Nat)::I v::I (stB S by' v).ed::I (stB S by' v).sg::I (stB S by' v).gain::I (stB S by' v).room::rest)):=by
 obtain⟨rest,hr⟩:=hst.ixS h.b0 h.b1
 have hv:=h.v0
 have e1:stpAt S (at0 by' v).toNat=stB S by' v:=rfl
 rw[e1,h.fr,h.to]at hr
 exact⟨rest,by simpa using x1re (id:=(0,12,27)) (n:=n) (k:=(v:Int)) (by omega) (by omega),by omega,hr⟩
theorem l_back(d:Nat)(hs:FHs){n:Nat}{S:List Stp}{st ev fa:AV}(hst:Sl Stp.c st S){b:BF}(hbl:b.by'.length=n)(hn:n<=1000) :
 ∀(r i j v:Nat) (m:Mem) (fc:Nat),i+r=n->r<j->(∀k,k<r->GoodV n S b.by' (itr (prN S b.by') k v))->GrowMem n ev b m ->
 ∃fc',x4r (x1qp d) hs 0 j fa (.ptr (0,0,2) 0 0) st (srI (0,12,27) n) (I v) (I i) m fc=x3b (x1qp d) hs 0 fa st (srI (0,12,27) n) (I (itr (prN S b.by') r v:Nat)) m fc':=by
 intro r
 induction r with
 |zero=>
  intro i j v m fc hk hj hg hM
  obtain⟨j,rfl⟩:∃i,j=i+1:=⟨j-1,by omega⟩
  have hi:¬((i:Int)<(n:Int)):=by omega
  refine⟨fc+4,?_⟩
  simp only[x4r]
  unfold xc8
  simp[hM.a,hi,itr]
 |succ r ih=>
  intro i j v m fc hk hj hg hM
  obtain⟨j,rfl⟩:∃i,j=i+1:=⟨j-1,by omega⟩
  have hi:(i:Int)<(n:Int):=by omega
  obtain⟨rest,q1,q2,q3⟩:=(hg 0 (by omega)).ixs hbl hst
  simp only[itr]at q1 q2 q3
  obtain⟨fc',e1⟩:=ih (i+1) j (prN S b.by' v) m (fc+16) (by omega) (by omega) (fun k hk=>hg (k+1) (by omega)) hM
  refine⟨fc',?_⟩
  have e2:itr (prN S b.by') (r+1) v=itr (prN S b.by') r (prN S b.by' v):=rfl
  rw[e2,<-e1]
  simp only[x4r]
  unfold xc8
  simp(disch:=omega) [hM.a,hM.g,hi,q1,q3,x1s7 q2]
theorem l_room(d:Nat)(hs:FHs){n:Nat}{S:List Stp}{st ev fa:AV}(hst:Sl Stp.c st S){b:BF}(hbl:b.by'.length=n)(hn:n<=1000){x:Nat} :
 ∀(ws:List Nat) (j a:Nat) (room:Int) (m:Mem) (fc:Nat),ws.length<j->CyI (prN S b.by') x a ws->(∀w∈ws,GoodV n S b.by' w)->GrowMem n ev b m ->
 ∃fc',x4q (x1qp d) hs 0 j fa st (srI (0,12,27) n) (I x) (I room) (I a) m fc=x3a (x1qp d) hs 0 fa st (srI (0,12,27) n) (I x) (I (x1ue S b.by' ws room)) m fc':=by
 intro ws
 induction ws with
 |nil=>
  intro j a room m fc hj hc hg hM
  obtain⟨j,rfl⟩:∃i,j=i+1:=⟨j-1,by simp at hj;omega⟩
  have hc:a=x:=hc
  subst hc
  refine⟨fc+3,?_⟩
  simp only[x4q]
  unfold xc6
  simp[x1ue]
 |cons w ws ih=>
  intro j a room m fc hj hc hg hM
  obtain⟨j,rfl⟩:∃i,j=i+1:=⟨j-1,by simp at hj;omega⟩
  obtain⟨rfl,hne,hc⟩:=hc
  obtain⟨rest,q1,q2,q3⟩:=(hg a (List.mem_cons_self ..)).ixs hbl hst
  have hne':¬((a:Int)=(x:Int)):=by omega
  obtain⟨fc',e1⟩:=ih j (prN S b.by' a) (minI room (stB S b.by' a).room) m (fc+23) (by simp at hj;omega) hc (fun w hw=>hg w (List.mem_cons_of_mem _ hw)) hM
  refine⟨fc',?_⟩
  have e2:x1ue S b.by' (a::ws) room=x1ue S b.by' ws (minI room (stB S b.by' a).room):=rfl
  rw[e2,<-e1]
  simp only[x4q]
  unfold xc6
  simp(disch:=omega) [hM.g,hne',q1,q3,x1s7 q2,minI]
theorem b_out(call:x1qo)(hs:FHs){n N L:Nat}{S:List Stp}{st ev:AV}(hst:Sl Stp.c st S){b:BF}(hbl:b.by'.length=n)(hn:n<=1000){x:Nat}{room:Int}(hr:0<=room/\room<=1000)(hN:0<N){w:Nat}(hw:GoodV n S b.by' w)(hed:(0<=(stB S b.by' w).ed/\(stB S b.by' w).ed<L)/\(-1<=(stB S b.by' w).sg/\(stB S b.by' w).sg<=1)){o:List Int}{bd:Int}{m:Mem}(fc:Nat)(hM:GrowMem n ev b m)(ho:o.length=L)(hget:m.get (N,3,5)=some (.row (o.flatMap intE) 0 false))(hB:∀k,-bd<=at0 o k/\at0 o k<=bd)(hBB:bd<=1000000) :
 ∃m1,GrowMem n ev b m1/\m1.get (N,3,5)=some (.row ((o.set (stB S b.by' w).ed.toNat (at0 o (stB S b.by' w).ed.toNat+(stB S b.by' w).sg*room)).flatMap intE) 0 false) /\
  (∀k,-(bd+1000)<=at0 (o.set (stB S b.by' w).ed.toNat (at0 o (stB S b.by' w).ed.toNat+(stB S b.by' w).sg*room)) k/\at0 (o.set (stB S b.by' w).ed.toNat (at0 o (stB S b.by' w).ed.toNat+(stB S b.by' w).sg*room)) k<=bd+1000) /\
  ∀rec0,xc5 call hs 0 rec0 st (srI (0,12,27) n) (I x) (I room) (srI (N,3,5) L) (I w) m fc=if prN S b.by' w=x then some (.tup [srI (N,3,5) L,B true],m1)else rec0 st (srI (0,12,27) n) (I x) (I room) (srI (N,3,5) L) (I (prN S b.by' w:Nat)) m1 (fc+30):=by
 obtain⟨rest,q1,q2,q3⟩:=hw.ixs hbl hst
 obtain⟨⟨d0,d1⟩,g0,g1⟩:=hed
 obtain⟨s,hs'⟩:∃s,s=stB S b.by' w:=⟨_,rfl⟩
 rw[<-hs']at q3 d0 d1 g0 g1 ⊢
 have hmul:=mul_in (a:=s.sg) (b:=room) (x:=1) (y:=1000) (by omega) (by omega)
 have he:=hB s.ed.toNat
 have l1:s.ed.toNat<o.length:=by omega
 have i1:=x1re (id:=(N,3,5)) (n:=L) d0 d1
 refine⟨((m.new (0,fc+7,18) (.row [I 0,I 0,I 0,I 0,I 0,I 0] 0 false)).set (0,fc+7,18) (.row [I (prN S b.by' w:Nat),I w,I s.ed,I s.sg,I s.gain,I s.room] 0 false)).set (N,3,5) (.row ((o.set s.ed.toNat (at0 o s.ed.toNat+s.sg*room)).flatMap intE) 0 false),⟨?_,?_,?_,?_⟩,?_,?_,fun rec0=>?_⟩
 .rw[Mem.get_set,if_neg (by simp),Mem.get_set,if_neg (by simp),Mem.get_new,if_neg (by simp)];exact hM.a
 .rw[Mem.get_set,if_neg (by simp),Mem.get_set,if_neg (by simp),Mem.get_new,if_neg (by simp)];exact hM.f
 .rw[Mem.get_set,if_neg (by simp),Mem.get_set,if_neg (by simp),Mem.get_new,if_neg (by simp)];exact hM.g
 .simp only[Mem.next_set];exact hM.nx
 .rw[Mem.get_set,if_pos rfl]
 .intro k
  rw[x1sa l1]
  have:=hB k
  split<;>omega
 .unfold xc5
  have hne:(N,3,5)≠((0,fc+7,18):Id):=by simp
  have hne2:((0,fc+7,18):Id)≠(N,3,5):=by simp
  by_cases c:prN S b.by' w=x
  .have c':((prN S b.by' w:Nat):Int)=(x:Int):=by omega
   rw[if_pos c]
   simp(disch:=omega) [hM.g,q1,q3,x1s7 q2,ldS,x20f,i1,hget,Mem.get_set,Mem.get_new,hne,hne2,c']
  .have c':¬((prN S b.by' w:Nat):Int)=(x:Int):=by omega
   rw[if_neg c]
   simp(disch:=omega) [hM.g,q1,q3,x1s7 q2,ldS,x20f,i1,hget,Mem.get_set,Mem.get_new,hne,hne2,c']
theorem l_out(d:Nat)(hs:FHs){n N L:Nat}{S:List Stp}{st ev:AV}(hst:Sl Stp.c st S){b:BF}(hbl:b.by'.length=n)(hn:n<=1000){x:Nat}{room:Int}(hr:0<=room/\room<=1000)(hN:0<N)(hed:∀s∈S,(0<=s.ed/\s.ed<L)/\(-1<=s.sg/\s.sg<=1)) :
 ∀(ws:List Nat) (j w:Nat) (o:List Int) (bd:Int) (m:Mem) (fc:Nat),ws.length<j->CyI (prN S b.by') x (prN S b.by' w) ws->GoodV n S b.by' w->(∀w∈ws,GoodV n S b.by' w)->GrowMem n ev b m->o.length=L->m.get (N,3,5)=some (.row (o.flatMap intE) 0 false) ->
  (∀k,-bd<=at0 o k/\at0 o k<=bd)->bd+ws.length*1000<=1000000 ->
 ∃m',x4p (x1qp d) hs 0 j st (srI (0,12,27) n) (I x) (I room) (srI (N,3,5) L) (I w) m fc=some (.tup [srI (N,3,5) L,B true],m')/\m'.get (N,3,5)=some (.row ((x1tc S b.by' room (w::ws) o).flatMap intE) 0 false):=by
 intro ws
 induction ws with
 |nil=>
  intro j w o bd m fc hj hc hw hg hM ho hget hB hBB
  obtain⟨j,rfl⟩:∃i,j=i+1:=⟨j-1,by omega⟩
  have hc:prN S b.by' w=x:=hc
  obtain⟨m1,r1,r2,r3,r4⟩:=b_out (x1qp d) hs (x:=x) hst hbl hn hr hN hw (hed _ hw.mem) fc hM ho hget hB (by simp at hBB;omega)
  refine⟨m1,?_,r2⟩
  simp only[x4p]
  rw[r4,if_pos hc]
 |cons w2 ws ih=>
  intro j w o bd m fc hj hc hw hg hM ho hget hB hBB
  obtain⟨j,rfl⟩:∃i,j=i+1:=⟨j-1,by omega⟩
  obtain⟨rfl,hne,hc⟩:=hc
  simp only[List.length_cons]at hj hBB
  obtain⟨m1,r1,r2,r3,r4⟩:=b_out (x1qp d) hs (x:=x) hst hbl hn hr hN hw (hed _ hw.mem) fc hM ho hget hB (by omega)
  obtain⟨m',e1,e2⟩:=ih j (prN S b.by' w) _ (bd+1000) m1 (fc+30) (by omega) hc (hg _ (List.mem_cons_self ..)) (fun v hv=>hg v (List.mem_cons_of_mem _ hv)) r1 (by rw[List.length_set];exact ho) r2 r3 (by omega)
  refine⟨m',?_,e2⟩
  simp only[x4p]
  rw[r4,if_neg hne]
  exact e1
theorem x28e(d:Nat){a:AV}{l:List Int}(h:Ints a l)(h0:l≠[])(hl:l.length<=1000000)(u:Nat):∃m',x1qp (d+1) [] xi [a] ⟨[],u⟩=some (srI (u,3,5) l.length,m')/\m'.get (u,3,5)=some (.row (l.flatMap intE) 0 false)/\m'.next=u+1:=by
 have hr:x1r4 l.length 8:=by unfold x1r4;omega
 have he:=h.elems x1rk
 have hq:l.length≠0:=fun e=>h0 (List.length_eq_zero_iff.mp e)
 refine⟨(⟨[],u+1⟩:Mem).new (u,3,5) (.row (l.flatMap intE) 0 false),?_,by simp,rfl⟩
 rw[xf1]
 unfold x7p x8k
 simp[he,x224 hr,hq,h0]
theorem a_grow(d:Nat){J:Int}{n:Nat}{ev fa:AV}{l:List Edge}{fl:List Int}(h:Sl Edge.c ev l)(hSl:Slim J n l)(hf:Ints fa fl)(hfl:fl.length=l.length)(hF:Feas n (l.zip fl)) :
 ∃r m' r',x1qp (d+2) [] x5j [.agg [I n,ev],fa] mem0=some (r,m')/\frz m'.get deep r=some r' /\
  ((r'=.tup [fa,B false]/\∃p:Nat->Int,CS p (l.zip fl))\/∃oa out,r'=.tup [oa,B true]/\Ints oa out/\out.length=l.length/\Feas n (l.zip out)/\valF (l.zip fl)<valF (l.zip out)):=by
 obtain⟨j0,j1,hnn,hll,hed,hjw⟩:=hSl
 have hSl:Slim J n l:=⟨j0,j1,hnn,hll,hed,hjw⟩
 have hcap:∀k,k<l.length->-20<=at0 fl k/\at0 fl k<=20:=fun k hk=>by
  have:=hF.cap _ ((x1t0 hfl).mpr ⟨k,hk,rfl⟩)
  have hw:=(hjw _ (List.getElem_mem hk)).2.2
  rw[x1t9 hk]at this
  simp only at this
  omega
 have hb:∀k,-20<=at0 fl k/\at0 fl k<=20:=fun k=>by
  by_cases hk:k<l.length
  .exact hcap k hk
  .unfold at0
   rw[List.getD_eq_getElem?_getD,List.getElem?_eq_none (by omega)]
   decide
 obtain⟨m0,hm0⟩:∃m0:Mem,m0=(⟨[],1⟩:Mem).new (0,0,2) (.row [I n,ev] 0 false):=⟨_,rfl⟩
 obtain⟨st,hst,hsteps⟩:=w_steps d (n:=n) h hf (by omega) hfl (fun k hk=>(x1tw hed hk).1) (fun k=>by have:=hb k;omega) m0
 obtain⟨S,hS'⟩:∃S,S=x1r7 l fl:=⟨_,rfl⟩
 have hS:=x22l (fl:=fl) hSl
 have hSlen:S.length<=40:=by
  have:=x1ya l fl l.length
  rw[hS']
  unfold x1r7
  omega
 rw[<-hS']at hst hS
 obtain⟨m1,hm1⟩:∃m1:Mem,m1=(m0.new (0,9,24) (.row ((List.replicate n (0:Int)).flatMap intE) 0 false)).new (0,12,27) (.row ((List.replicate n (0:Int)).flatMap intE) 0 false):=⟨_,rfl⟩
 have hM1:GrowMem n ev ⟨List.replicate n 0,List.replicate n 0,-1⟩ m1:=by
  refine⟨?_,?_,?_,?_⟩
  .rw[hm1,Mem.get_new,if_neg (by simp),Mem.get_new,if_neg (by simp),hm0];simp
  .rw[hm1,Mem.get_new,if_neg (by simp)];simp
  .rw[hm1];simp
  .rw[hm1,hm0];exact Nat.le_refl _
 have hB0:=BFI.init (n:=n) (S:=S) j0
 obtain⟨m2,fc2,hM2,e2⟩:=l_rounds (d+1) [] (fa:=fa) h.one hst hS ⟨j0,j1⟩ hnn hSlen (n+1) 0 NN ⟨List.replicate n 0,List.replicate n 0,-1⟩ _ m1 17 (by omega) (by rw[x1r6];omega) hB0 hM1
 have start:x1qp (d+2) [] x5j [.agg [I n,ev],fa] mem0=x1a (x1qp (d+1)) [] 0 NN fa (.ptr (0,0,2) 0 0) st (srI (0,9,24) n) (srI (0,12,27) n) (I (-1)) (I 0) m1 17:=by
  rw[xzo]
  unfold xek xgr xca
  have hnI:(0:Int)<=(n:Int):=by omega
  have hnI2:(n:Int)<=1000000:=by omega
  simp[mem0,h.one]
  rw[<-hm0,hsteps]
  have g0:m0.get (0,0,2)=some (.row [I n,ev] 0 false):=by rw[hm0];simp
  simp[g0,x1t8,x1wh hnI hnI2,Mem.get_new,x1qs,disj,tR]
  rw[<-hm1]
 rw[start]
 have e2:x1a (x1qp (d+1)) [] 0 NN fa (.ptr (0,0,2) 0 0) st (srI (0,9,24) n) (srI (0,12,27) n) (I (-1)) (I 0) m1 17=_:=e2
 rw[e2]
 obtain⟨b,hb'⟩:∃b,b=x1s0 S (n+1) ⟨List.replicate n 0,List.replicate n 0,-1⟩:=⟨_,rfl⟩
 have hrk:=x25q hS j0 n 0 hB0
 rw[<-hb']at hrk hM2 ⊢
 rcases hrk with ⟨r1,r2,r3⟩|⟨ta,r1,v0,r2,r3,r4⟩
 .rw[if_pos ⟨by omega,r1⟩]
  have hz:frz m2.get 5 fa=some fa:=x1y2 _ 3 hf.still
  refine⟨_,_,.tup [fa,B false],rfl,?_,Or.inl ⟨rfl,fun v=>-at0 b.far v,?_⟩⟩
  .show([fa,B false].mapM (frz m2.get 5)).map AV.tup=_
   simp only[List.mapM_cons,List.mapM_nil,hz]
   rfl
  .rw[hS']at r3
   exact far_cs hfl r3
 rw[Nat.zero_add]at r1 r4
 rw[if_neg (by omega)]
 obtain⟨hgood,dd,hC⟩:=cycle_ok hS r1 r2 r4
 have hgv:∀k,GoodV n S b.by' (itr (prN S b.by') k v0):=fun k=>r1.good hS (hgood k).1 (hgood k).2
 obtain⟨x,hx⟩:∃x,x=itr (prN S b.by') n v0:=⟨_,rfl⟩
 rw[<-hx]at hC
 have hgx:∀k,GoodV n S b.by' (itr (prN S b.by') k x):=fun k=>by
  have:=hC.good k
  exact r1.good hS this.1 this.2
 obtain⟨fc3,e3⟩:=l_back (d+1) [] (fa:=fa) (ev:=ev) hst r1.bl (by omega) n 0 NN v0 m2 (fc2+1) (by omega) (by rw[x1r6];omega) (fun k _=>hgv k) hM2
 rw[<-hx]at e3
 have hx0:GoodV n S b.by' x:=hgx 0
 obtain⟨rest,q1,q2,q3⟩:=hx0.ixs r1.bl hst
 obtain⟨ws,hws⟩:∃ws,ws=tl (prN S b.by') (dd-1) (prN S b.by' x):=⟨_,rfl⟩
 have hwl:ws.length=dd-1:=by rw[hws,tl_len]
 have hd0:=hC.d0
 have hd1:=hC.d1
 have hback:=cyc_back hC
 rw[<-hws]at hback
 have hwg:∀w∈ws,GoodV n S b.by' w:=fun w hw=>by
  rw[hws]at hw
  obtain⟨j,hj,rfl⟩:=x20e hw
  exact hgx (j+1)
 have htl:tl (prN S b.by') dd x=x::ws:=by
  rw[hws]
  obtain⟨k,rfl⟩:∃k,dd=k+1:=⟨dd-1,by omega⟩
  rfl
 obtain⟨room,hroom⟩:∃room,room=x1ue S b.by' ws (stB S b.by' x).room:=⟨_,rfl⟩
 obtain⟨fc4,e4⟩:=l_room (d+1) [] (fa:=fa) (ev:=ev) hst r1.bl (by omega) (x:=x) ws NN (prN S b.by' x) (stB S b.by' x).room m2 (fc3+18) (by rw[x1r6];omega) hback hwg hM2
 rw[<-hroom]at e4
 have hsof:∀s∈S,StpOf l fl s:=fun s hs=>by rw[hS']at hs;exact x20d hs
 have hrp:∀s∈S,0<s.room/\s.room<=40:=fun s hs=>by
  obtain⟨k,hk,-,h1,h2⟩:=hsof s hs
  have h3:=hcap k hk
  have h4:=(hjw _ (List.getElem_mem hk)).2.2
  rw[<-x1t9 hk]at h4
  rcases h2 with ⟨-,-,-,-,h2⟩|⟨-,-,-,-,h2⟩<;>omega
 have hroom0:0<room:=by
  rw[hroom]
  exact x25s _ _ ws _ (hrp _ hx0.mem).1 (fun w hw=>(hrp _ (hwg w hw).mem).1)
 have hrle:=room_le S b.by' ws (stB S b.by' x).room
 rw[<-hroom]at hrle
 have hx40:=(hrp _ hx0.mem).2
 have hne:fl≠[]:=by
  rintro rfl
  obtain⟨k,hk,-⟩:=hsof _ hx0.mem
  simp at hfl
  omega
 obtain⟨mC,c1,c2,c3⟩:=x28e d hf hne (by omega) m2.next
 obtain⟨m3,f1,f2,f3⟩:=x1vw (call:=x1qp (d+1)) (f:=xi) (l:=[fa]) (m:=m2) (m':=mC) (r:=srI (m2.next,3,5) fl.length) (by simp[hf.clean]) c1
 have hnx:=hM2.nx
 have hM3:GrowMem n ev b m3:=⟨by rw[f3,if_neg (by simp only;omega)];exact hM2.a,by rw[f3,if_neg (by simp only;omega)];exact hM2.f,by rw[f3,if_neg (by simp only;omega)];exact hM2.g,by omega⟩
 obtain⟨m4,e5,e6⟩:=l_out (d+1) [] (ev:=ev) hst r1.bl (by omega) (x:=x) (room:=room) ⟨by omega,by omega⟩ hnx (L:=fl.length) (fun s hs=>by
  obtain⟨k,hk,h1,h2,h3⟩:=hsof s hs
  rcases h3 with ⟨-,-,h3,-⟩|⟨-,-,h3,-⟩<;>exact⟨⟨by omega,by omega⟩,by omega,by omega⟩) ws NN x fl 1000 m3 (fc4+5) (by rw[x1r6];omega) hback hx0 hwg hM3 rfl (by rw[f3,if_pos (Nat.le_refl _)];exact c2) (fun k=>by have:=hb k;omega) (by omega)
 obtain⟨out,hout⟩:∃out,out=x1tc S b.by' room (x::ws) fl:=⟨_,rfl⟩
 rw[<-hout]at e6
 have hol:out.length=fl.length:=by rw[hout];exact x22m _ _ _ _ _
 have z1:=x207 (objs:=m4.get) (id:=(m2.next,3,5)) (l:=out) (k:=3) e6
 obtain⟨oa,hoa,z2⟩:=z1
 rw[hol]at z2
 have hgo:=grow_ok (room:=room) hSl hfl hF (by rw[<-hS'];exact r1) (by rw[<-hS'];exact hC) hroom0 (fun w hw=>by
  rw[<-hS']at hw ⊢
  rw[htl]at hw
  rcases List.mem_cons.mp hw with rfl|hw
  .exact hrle.1
  .exact hrle.2 w hw)
 rw[<-hS',htl,<-hout]at hgo
 refine⟨.tup [srI (m2.next,3,5) fl.length,B true],m4,.tup [oa,B true],?_,?_,Or.inr ⟨oa,out,rfl,hoa,by omega,hgo.1,hgo.2⟩⟩
 .rw[r3]
  unfold x9
  rw[show((0:Nat):Int)=0 from rfl]at e3
  rw[e3]
  unfold x3b xc7
  simp[q1,q3,hM2.g,x1s7 q2]
  rw[e4]
  unfold x3a
  rw[f1]
  simp only[x1qt]
  exact e5
 .show([srI (m2.next,3,5) fl.length,B true].mapM (frz m4.get 5)).map AV.tup=_
  simp only[List.mapM_cons,List.mapM_nil,z2]
  rfl
theorem shut1_row{h:Hp}{j i:Id}{cs:List AV}{v:Nat}{b:Bool}(hi:hget h i=some (.row cs v b)):∃b',hget (shut1 h j) i=some (.row cs v b'):=by
 unfold shut1
 cases hj:hget h j with
 |none=>exact⟨b,hi⟩
 |some o=>
  cases o with
  |row cs2 v2 b2=>
   cases b2 with
   |true=>exact⟨b,hi⟩
   |false=>
    have:=Mem.get_set (m:=⟨h,0⟩) (i:=j) (j:=i) (o:=.row cs2 v2 true)
    unfold Mem.get Mem.set at this
    simp only at this ⊢
    rw[this]
    by_cases e:i=j
    .subst e
     rw[hi]at hj
     cases hj
     rw[if_pos rfl]
     exact⟨true,rfl⟩
    .rw[if_neg e];exact⟨b,hi⟩
  |_=>exact⟨b,hi⟩
theorem x25y{i:Id}{cs:List AV}{v:Nat}:∀(ids:List Id) {h:Hp} {b:Bool},hget h i=some (.row cs v b)->∃b',hget (x1wc ids h) i=some (.row cs v b')
 |[],h,b,hi=>⟨b,hi⟩
 |j::r,h,b,hi=>by
  obtain⟨b',h'⟩:=shut1_row (j:=j) hi
  exact x25y r h'
theorem x28f{call:x1qo}{f:FuncId}{l l':List AV}{m m':Mem}{r r':AV}(hl:l.mapM (Go.Ix.frz m.get deep)=some l')(h:call [] f l' mem0=some (r,m'))(hr:Go.Ix.frz m'.get deep r=some r') :
 ∃m2:Mem,x1qq call f l m=some (r',m2)/\∀i cs v b,m.get i=some (.row cs v b)->∃b',m2.get i=some (.row cs v b'):=by
 refine⟨⟨x1wc (l.flatMap (x1r1 m.get deep)) m.hp,m.next⟩,?_,fun i cs v b hi=>x25y _ hi⟩
 unfold x1qq
 rw[hl]
 simp only[h,hr]
 rfl
structure BestF (n:Nat) (l:List Edge) (fl:List Int):Prop where
 len:fl.length=l.length
 feas:Feas n (l.zip fl)
 cs:∃p:Nat->Int,CS p (l.zip fl)
theorem l_best(d:Nat){J:Int}{n:Nat}{ev:AV}{l:List Edge}(h:Sl Edge.c ev l)(hSl:Slim J n l) :
 ∀(K j:Nat) (fa:AV) (fl:List Int) (m:Mem) (fc:Nat),Ints fa fl->fl.length=l.length->Feas n (l.zip fl)->x1tb (fun _=>0) l-valF (l.zip fl)<=K->K<j->(∃b,m.get (0,0,1)=some (.row [I n,ev] 0 b)) ->
 ∃m' fa' fl',x1e (x1qp (d+2)) [] 0 j (.ptr (0,0,1) 0 0) fa m fc=some (fa',m')/\Ints fa' fl'/\BestF n l fl':=by
 intro K
 induction K with
 |zero=>
  intro j fa fl m fc hf hfl hF hK hj hm
  obtain⟨j,rfl⟩:∃i,j=i+1:=⟨j-1,by omega⟩
  obtain⟨b,hm⟩:=hm
  obtain⟨r,m',r',g1,g2,g3⟩:=a_grow d h hSl hf hfl hF
  have hcall:=x1t6 (m:=m) (l:=[.agg [I n,ev],fa]) (by simp[h.still1,hf.still]) g1 g2
  rcases g3 with ⟨rfl,p,hp⟩|⟨oa,out,rfl,ho,hol,hFo,hv⟩
  .refine⟨m,fa,fl,?_,hf,hfl,hF,p,hp⟩
   simp only[x1e]
   unfold x4d
   simp[hm,hcall]
  .exfalso
   have:=weak hFo (fun _=>0)
   rw[List.map_fst_zip (by omega)]at this
   omega
 |succ K ih=>
  intro j fa fl m fc hf hfl hF hK hj hm
  obtain⟨j,rfl⟩:∃i,j=i+1:=⟨j-1,by omega⟩
  obtain⟨b,hm⟩:=hm
  obtain⟨r,m',r',g1,g2,g3⟩:=a_grow d h hSl hf hfl hF
  have hcall:=x1t6 (m:=m) (l:=[.agg [I n,ev],fa]) (by simp[h.still1,hf.still]) g1 g2
  rcases g3 with ⟨rfl,p,hp⟩|⟨oa,out,rfl,ho,hol,hFo,hv⟩
  .refine⟨m,fa,fl,?_,hf,hfl,hF,p,hp⟩
   simp only[x1e]
   unfold x4d
   simp[hm,hcall]
  .obtain⟨m2,fa',fl',e1,e2,e3⟩:=ih j oa out m (fc+12) ho hol hFo (by omega) (by omega) ⟨b,hm⟩
   refine⟨m2,fa',fl',?_,e2,e3⟩
   rw[<-e1]
   simp only[x1e]
   unfold x4d
   simp[hm,hcall]
theorem x25z{J:Int}{n:Nat}:∀{l:List Edge},(∀e∈l,EdgeIn n e/\-5<=e.jump/\e.jump<=5/\e.wt<=20)->0<=x1tb (fun _=>0) l/\x1tb (fun _=>0) l<=100*l.length
 |[],_=>⟨Int.le_refl _,Int.le_refl _⟩
 |e::r,h=>by
  obtain⟨h1,h2⟩:=x25z (J:=J) (l:=r) fun x hx=>h x (List.mem_cons_of_mem _ hx)
  obtain⟨⟨-,-,-,-,-,-,w0,w1⟩,j0,j1,w2⟩:=h e (List.mem_cons_self ..)
  have e1:exF (fun _=>0) e=e.jump:=by simp[exF]
  have h3:e.wt*(e.jump.natAbs:Int)<=20*5:=Int.mul_le_mul w2 (by omega) (by omega) (by omega)
  have h4:0<=e.wt*(e.jump.natAbs:Int):=Int.mul_nonneg w0 (by omega)
  unfold x1tb
  rw[e1,List.length_cons]
  omega
theorem x28g{J:Int}{n:Nat}{l:List Edge}(hS:Slim J n l):0<=x1tb (fun _=>0) l/\x1tb (fun _=>0) l<=1700:=by
 have:=x25z (J:=J) (n:=n) (l:=l) fun e he=>by
  have:=hS.jw e he
  have h1:=hS.j1
  exact⟨(hS.ed e he).1,by omega,by omega,by omega⟩
 have:=hS.ll
 omega
theorem zero_feas{n:Nat}{l:List Edge}(hed:∀e∈l,EdgeIn n e/\e.fr≠e.to):Feas n (l.zip (List.replicate l.length 0))/\valF (l.zip (List.replicate l.length 0))=0:=by
 have hz:∀x∈l.zip (List.replicate l.length (0:Int)),x.2=0:=fun x hx=>by
  have:=(List.of_mem_zip hx).2
  exact(List.mem_replicate.mp this).2
 have hn:∀(v:Nat) (z:List (Edge×Int)),(∀x∈z,x.2=0)->netF v z=0/\valF z=0:=by
  intro v z
  induction z with
  |nil=>intro _;exact⟨rfl,rfl⟩
  |cons x r ih=>
   intro h
   obtain⟨a,b⟩:=ih fun y hy=>h y (List.mem_cons_of_mem _ hy)
   have:=h x (List.mem_cons_self ..)
   unfold netF valF
   rw[this,a,b]
   simp
 refine⟨⟨fun x hx=>?_,fun v hv=>(hn v _ hz).1,x1wy hed (by simp)⟩,(hn 0 _ hz).2⟩
 have h1:=(List.of_mem_zip hx).1
 have:=(hed _ h1).1.w0
 rw[hz x hx]
 omega
theorem x28h(d:Nat){J:Int}{n:Nat}{ev:AV}{l:List Edge}(h:Sl Edge.c ev l)(hSl:Slim J n l)(m:Mem) :
 ∃fa fl,Ints fa fl/\BestF n l fl/\x1qq (x1qp (d+3)) x2c [.agg [I n,ev]] m=some (fa,m):=by
 obtain⟨j0,j1,hnn,hll,hed,hjw⟩:=hSl
 have hSl:Slim J n l:=⟨j0,j1,hnn,hll,hed,hjw⟩
 obtain⟨z,hz⟩:∃z,z=List.replicate l.length (0:Int):=⟨_,rfl⟩
 have hzl:z.length=l.length:=by rw[hz];simp
 obtain⟨hF0,hv0⟩:=zero_feas hed
 rw[<-hz]at hF0 hv0
 obtain⟨m1,hm1⟩:∃m1:Mem,m1=((⟨[],1⟩:Mem).new (0,0,1) (.row [I n,ev] 0 false)).new (0,5,9) (.row (z.flatMap intE) 0 false):=⟨_,rfl⟩
 have g1:m1.get (0,0,1)=some (.row [I n,ev] 0 false):=by rw[hm1,Mem.get_new,if_neg (by simp)];simp
 have g5:m1.get (0,5,9)=some (.row (z.flatMap intE) 0 false):=by rw[hm1];simp
 have hza:Ints (.slit (z.flatMap intE) z.length false) z:=Sl.lit z false
 have zf:∀(M:Mem) (b:Bool),M.get (0,5,9)=some (.row (z.flatMap intE) 0 b)->∀k,Go.Ix.frz M.get (k+2) (srI (0,5,9) z.length)=some (.slit (z.flatMap intE) z.length false):=fun M b hM k=>by
  have hl:=x1th z
  have:=x1v4 (objs:=M.get) (id:=(0,5,9)) (cs:=z.flatMap intE) (ver:=0) (off:=0) (n:=z.length) (z:=1) (k:=k) (f:=b) (x:=true) hM (by omega) (by
   rw[List.drop_zero,List.take_of_length_le (by omega)];exact x1ur x1wf z)
  rw[List.drop_zero,List.take_of_length_le (by omega)]at this
  exact this
 have hc0:=x28g hSl
 obtain⟨r,mg,r',a1,a2,a3⟩:=a_grow d h hSl hza hzl hF0
 have hfz:[AV.agg [I n,ev],srI (0,5,9) z.length].mapM (Go.Ix.frz m1.get deep)=some [.agg [I n,ev],.slit (z.flatMap intE) z.length false]:=by
  have z1:Go.Ix.frz m1.get deep (.agg [I n,ev])=some (.agg [I n,ev]):=x1y2 _ 4 (by simp[still,h.still1])
  simp only[List.mapM_cons,List.mapM_nil,z1]
  rw[show Go.Ix.frz m1.get deep (srI (0,5,9) z.length)=_ from zf m1 false g5 4]
  rfl
 obtain⟨m2,b1,b2⟩:=x28f hfz a1 a2
 obtain⟨f1,b3⟩:=b2 _ _ _ _ g1
 obtain⟨f5,b5⟩:=b2 _ _ _ _ g5
 obtain⟨j,hj⟩:∃j,NN=j+1:=⟨NN-1,by rw[x1r6]⟩
 have hj2:1700<j:=by rw[x1r6]at hj;omega
 have start:x1qp (d+3) [] x2c [.agg [I n,ev]] mem0=x1e (x1qp (d+2)) [] 0 (j+1) (.ptr (0,0,1) 0 0) (srI (0,5,9) z.length) m1 7:=by
  rw[xz2]
  unfold xe4 xft
  have e0:(0:Int)<=(l.length:Int):=by omega
  have e1:(l.length:Int)<=1000000:=by omega
  simp[mem0,h.one,h.len x1v5,x1t8,x1wh e0 e1]
  rw[<-hz,<-hm1,hzl,hj]
 rcases a3 with ⟨rfl,p,hp⟩|⟨oa,out,rfl,ho,hol,hFo,hv⟩
 .refine⟨_,z,hza,⟨hzl,hF0,p,hp⟩,x1t6 (m':=m2) (r:=srI (0,5,9) z.length) (by simp[h.still1]) ?_ (zf m2 f5 b5 4)⟩
  rw[start]
  simp only[x1e]
  unfold x4d
  simp[g1,b1]
 .obtain⟨m3,fa',fl',e1,e2,e3⟩:=l_best d h hSl 1700 j oa out m2 19 ho hol hFo (by omega) hj2 ⟨f1,b3⟩
  refine⟨fa',fl',e2,e3,call0 (m':=m3) (by simp[h.still1]) ?_ e2.still⟩
  rw[start,<-e1]
  have hL:∀(t1 t3:AV) (M:Mem) (fc:Nat),x1e (x1qp (d+2)) [] 0 (j+1) t1 t3 M fc=x4d (x1qp (d+2)) [] 0 (x1e (x1qp (d+2)) [] 0 j) t1 t3 M fc:=fun _ _ _ _=>rfl
  rw[hL]
  unfold x4d
  simp[g1,b1]
theorem BestF.bound{J:Int}{n:Nat}{l:List Edge}{fl:List Int}(h:BestF n l fl)(hS:Slim J n l)(k:Nat):-20<=at0 fl k/\at0 fl k<=20:=by
 by_cases hk:k<l.length
 .have:=h.feas.cap _ ((x1t0 h.len).mpr ⟨k,hk,rfl⟩)
  have hw:=(hS.jw _ (List.getElem_mem hk)).2.2
  rw[x1t9 hk]at this
  simp only at this
  omega
 .have:=h.len
  unfold at0
  rw[List.getD_eq_getElem?_getD,List.getElem?_eq_none (by omega)]
  decide
noncomputable def muN(P:Nat->Int)(v:Nat):Nat:=Classical.choose (x25r (P:=fun w=>P w=P v) v rfl)
def Rt(P:Nat->Int)(ls:List Int)(v:Nat):Prop:=at0 ls v=(muN P v:Nat)
noncomputable instance (P:Nat->Int)(ls:List Int)(v:Nat):Decidable (Rt P ls v):=Int.instDecidableEq ..
end Go.Ix
