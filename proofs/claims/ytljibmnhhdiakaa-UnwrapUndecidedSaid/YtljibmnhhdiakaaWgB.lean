import Derived.Test.YtljibmnhhdiakaaWgA
import Derived.Test.YtljibmnhhdiakaaMFlow
set_option linter.unusedSimpArgs false
set_option linter.unusedVariables false
namespace Go.Ix
theorem x28b{t:Tour}{k:Nat}{a:Ar}(hk:k<t.last.length)(L B:List Int)(v:Nat):lastAt ⟨L,t.last.set k a,B⟩ v=if v=k then a else lastAt t v:=by
 unfold lastAt
 simp only
 rw[List.getD_eq_getElem?_getD,List.getD_eq_getElem?_getD,List.getElem?_set]
 by_cases e:k=v
 .subst e;simp[hk]
 .rw[if_neg e,if_neg (fun x=>e x.symm)]
def OutA(l:List Edge)(fl:List Int)(a:Nat)(i:Int):Prop:=i∈adjI l a/\0<(arcAt l fl a i).room
structure RedOK (n:Nat) (l:List Edge) (fl tu:List Int):Prop where
 rng:∀a i,a<n->i∈adjI l (a:Nat)->0<=(arcAt l fl a i).to/\(arcAt l fl a i).to<n/\(arcAt l fl a i).to≠a
 red:∀a i,a<n->OutA l fl a i->0<=(arcAt l fl a i).cost+at0 tu a-at0 tu (arcAt l fl a i).to.toNat
structure Rel (n:Nat) (l:List Edge) (fl tu:List Int) (a:Nat) (is:List Int) (t t':Tour):Prop where
 ll:t'.len.length=n
 al:t'.last.length=n
 bl:t'.bef.length=n
 le:∀v,at0 t'.len v<=at0 t.len v
 ch:∀v,(at0 t'.len v=at0 t.len v/\lastAt t' v=lastAt t v/\at0 t'.bef v=at0 t.bef v) \/
  (at0 t'.len v<at0 t.len v/\at0 t'.bef v=a/\∃i∈is,0<(arcAt l fl a i).room/\lastAt t' v=arcAt l fl a i/\(arcAt l fl a i).to=v/\at0 t'.len v=at0 t.len a+(arcAt l fl a i).cost+at0 tu a-at0 tu v)
 cl:∀i∈is,0<(arcAt l fl a i).room->at0 t'.len (arcAt l fl a i).to.toNat<=at0 t.len a+(arcAt l fl a i).cost+at0 tu a-at0 tu (arcAt l fl a i).to.toNat
theorem x25g{n:Nat}{l:List Edge}{fl tu:List Int}{a:Nat}(ha:a<n)(hR:RedOK n l fl tu):∀(is:List Int) (t:Tour),(∀i∈is,i∈adjI l a)->t.len.length=n->t.last.length=n->t.bef.length=n ->
 Rel n l fl tu a is t (is.foldl (fun t i=>if 0<(arcAt l fl a i).room then x1uc tu a t (arcAt l fl a i)else t) t)
 |[],t,_,h1,h2,h3=>⟨h1,h2,h3,fun v=>Int.le_refl _,fun v=>Or.inl ⟨rfl,rfl,rfl⟩,fun i hi=>by simp at hi⟩
 |i::is,t,hi,h1,h2,h3=>by
  rw[List.foldl_cons]
  obtain⟨r0,r1,r2⟩:=hR.rng a i ha (hi i (List.mem_cons_self ..))
  obtain⟨A,hA⟩:∃A,A=arcAt l fl a i:=⟨_,rfl⟩
  rw[<-hA]at r0 r1 r2
  obtain⟨k,hk⟩:∃k:Nat,A.to=k:=⟨A.to.toNat,by omega⟩
  have hkn:k<n:=by omega
  have hka:k≠a:=by omega
  obtain⟨t1,ht1⟩:∃t1,t1=(if 0<(arcAt l fl a i).room then x1uc tu a t (arcAt l fl a i)else t):=⟨_,rfl⟩
  rw[<-ht1]
  have one:Rel n l fl tu a [i] t t1:=by
   rw[ht1,<-hA]
   split
   .rename_i hr
    unfold x1uc
    simp only[Int.toNat_natCast,hk]
    split
    .rename_i hx
     refine⟨by simp[h1],by simp[h2],by simp[h3],fun v=>?_,fun v=>?_,fun j hj hjr=>?_⟩
     .simp only
      rw[x1sa (by omega)]
      split
      .rename_i e;subst e;omega
      .exact Int.le_refl _
     .simp only
      rw[x1sa (by omega),x1sa (by omega),x28b (by omega)]
      by_cases e:v=k
      .subst e
       right
       simp only[if_true]
       exact⟨hx,trivial,i,List.mem_cons_self ..,by rw[<-hA];exact hr,hA,by rw[<-hA];exact hk,by rw[<-hA]⟩
      .left
       simp only[if_neg e]
       exact⟨trivial,trivial,trivial⟩
     .rw[List.mem_singleton]at hj
      subst hj
      rw[<-hA,hk,Int.toNat_natCast]
      simp only
      rw[x1sa (by omega),if_pos rfl]
      omega
    .rename_i hx
     refine⟨h1,h2,h3,fun v=>Int.le_refl _,fun v=>Or.inl ⟨rfl,rfl,rfl⟩,fun j hj hjr=>?_⟩
     rw[List.mem_singleton]at hj
     subst hj
     rw[<-hA,hk,Int.toNat_natCast]
     omega
   .rename_i hr
    refine⟨h1,h2,h3,fun v=>Int.le_refl _,fun v=>Or.inl ⟨rfl,rfl,rfl⟩,fun j hj hjr=>?_⟩
    rw[List.mem_singleton]at hj
    subst hj
    rw[<-hA]at hjr
    exact absurd hjr hr
  have rest:=x25g ha hR is t1 (fun j hj=>hi j (List.mem_cons_of_mem _ hj)) one.ll one.al one.bl
  have ea:at0 t1.len a=at0 t.len a:=by
   rcases one.ch a with h|⟨_,_,j,hj,_,_,hj2,_⟩
   .exact h.1
   .rw[List.mem_singleton]at hj
    subst hj
    rw[<-hA,hk]at hj2
    omega
  refine⟨rest.ll,rest.al,rest.bl,fun v=>Int.le_trans (rest.le v) (one.le v),fun v=>?_,fun j hj hjr=>?_⟩
  .rcases rest.ch v with ⟨e1,e2,e3⟩|⟨e1,e2,j,hj,e3,e4,e5,e6⟩
   .rcases one.ch v with ⟨f1,f2,f3⟩|⟨f1,f2,j,hj,f3,f4,f5,f6⟩
    .left;exact⟨by rw[e1,f1],by rw[e2,f2],by rw[e3,f3]⟩
    .right
     rw[List.mem_singleton]at hj
     subst hj
     exact⟨by rw[e1];exact f1,by rw[e3,f2],j,List.mem_cons_self ..,f3,by rw[e2,f4],f5,by rw[e1];exact f6⟩
   .right
    have:=one.le v
    exact⟨by omega,e2,j,List.mem_cons_of_mem _ hj,e3,e4,e5,by rw[e6,ea]⟩
  .rcases List.mem_cons.mp hj with rfl|hj
   .have h1:=one.cl j (List.mem_cons_self ..) hjr
    have h2:=rest.le (arcAt l fl a j).to.toNat
    omega
   .have:=rest.cl j hj hjr
    rw[ea]at this
    exact this
structure Dij (n:Nat) (l:List Edge) (fl tu:List Int) (fr:Nat) (t:Tour) (ds:List Bool) (rk:Nat->Nat) (R:Nat):Prop where
 ll:t.len.length=n
 al:t.last.length=n
 bl:t.bef.length=n
 dl:ds.length=n
 le:∀v,at0 t.len v<=farM
 z:at0 t.len fr=0
 st:dn ds fr=true\/∀v,v<n->v≠fr->at0 t.len v=farM
 pre:∀v,v<n->v≠fr->at0 t.len v<farM->∃w,w<n/\dn ds w=true/\at0 t.bef v=(w:Nat)/\(dn ds v=true->rk w<rk v) /\
  ∃i,OutA l fl w i/\lastAt t v=arcAt l fl w i/\(arcAt l fl w i).to=v/\at0 t.len v=at0 t.len w+(arcAt l fl w i).cost+at0 tu w-at0 tu v
 don:∀a,a<n->dn ds a=true->at0 t.len a<farM/\rk a<R/\(∀b,b<n->dn ds b=false->at0 t.len a<=at0 t.len b) /\
  ∀i,OutA l fl a i->at0 t.len (arcAt l fl a i).to.toNat<=at0 t.len a+(arcAt l fl a i).cost+at0 tu a-at0 tu (arcAt l fl a i).to.toNat
theorem dij_step{n:Nat}{l:List Edge}{fl tu:List Int}{fr:Nat}{t:Tour}{ds:List Bool}{rk:Nat->Nat}{R:Nat}(hR:RedOK n l fl tu)(h:Dij n l fl tu fr t ds rk R)(hfr:fr<n){a:Nat}(ha:a<n)(hda:dn ds a=false)(hla:at0 t.len a<farM)(hmin:∀i,i<n->dn ds i=false->at0 t.len a<=at0 t.len i) :
 Dij n l fl tu fr (x1y6 l fl tu a t) (ds.set a true) (fun v=>if v=a then R else rk v) (R+1):=by
 have rel:Rel n l fl tu a (adjI l a) t (x1y6 l fl tu a t):=x25g ha hR (adjI l a) t (fun i hi=>hi) h.ll h.al h.bl
 obtain⟨t',ht'⟩:∃t',t'=x1y6 l fl tu a t:=⟨_,rfl⟩
 rw[<-ht']at rel ⊢
 have dset:∀j,dn (ds.set a true) j=if j=a then true else dn ds j:=fun j=>dn_set (by rw[h.dl];exact ha)
 have same:∀b,b<n->(b=a\/dn ds b=true)->at0 t'.len b=at0 t.len b/\lastAt t' b=lastAt t b/\at0 t'.bef b=at0 t.bef b:=by
  intro b hb hd
  rcases rel.ch b with h1|⟨h1,h2,i,hi,h3,h4,h5,h6⟩
  .exact h1
  .exfalso
   have hr:=hR.red a i ha ⟨hi,h3⟩
   have hg:=hR.rng a i ha hi
   rw[h5,Int.toNat_natCast]at hr
   rcases hd with rfl|hd
   .exact hg.2.2 h5
   .have:=(h.don b hb hd).2.2.1 a ha hda
    omega
 have sa:=same a ha (Or.inl rfl)
 refine⟨rel.ll,rel.al,rel.bl,by simp[h.dl],fun v=>Int.le_trans (rel.le v) (h.le v),?_,?_,?_,?_⟩
 .rcases h.st with hs|hs
  .rw[(same fr hfr (Or.inr hs)).1];exact h.z
  .have:a=fr:=by
    by_cases e:a=fr
    .exact e
    .have:=hs a ha e;omega
   rw[<-this,sa.1,this];exact h.z
 .left
  rw[dset]
  split
  .rfl
  .rename_i e
   rcases h.st with hs|hs
   .exact hs
   .have:=hs a ha (fun x=>e x.symm);omega
 .intro v hv hvf hlv
  rcases rel.ch v with ⟨e1,e2,e3⟩|⟨e1,e2,i,hi,e3,e4,e5,e6⟩
  .obtain⟨w,w1,w2,w3,w4,i,w5,w6,w7,w8⟩:=h.pre v hv hvf (by omega)
   have hwa:w≠a:=by rintro rfl;rw[w2]at hda;cases hda
   refine⟨w,w1,by rw[dset,if_neg hwa];exact w2,by rw[e3];exact w3,fun hd=>?_,i,w5,by rw[e2];exact w6,w7,by rw[e1,(same w w1 (Or.inr w2)).1];exact w8⟩
   rw[if_neg hwa]
   by_cases e:v=a
   .rw[if_pos e];exact(h.don w w1 w2).2.1
   .rw[if_neg e]
    rw[dset,if_neg e]at hd
    exact w4 hd
  .refine⟨a,ha,by rw[dset,if_pos rfl],e2,fun hd=>?_,i,⟨hi,e3⟩,e4,e5,by rw[sa.1];exact e6⟩
   exfalso
   have:v=a\/dn ds v=true:=by
    rw[dset]at hd
    by_cases e:v=a
    .exact Or.inl e
    .rw[if_neg e]at hd;exact Or.inr hd
   have:=(same v hv this).1
   omega
 .intro b hb hd
  have hd':b=a\/dn ds b=true:=by
   rw[dset]at hd
   by_cases e:b=a
   .exact Or.inl e
   .rw[if_neg e]at hd;exact Or.inr hd
  have sb:=same b hb hd'
  have lba:at0 t.len b<=at0 t.len a:=by
   rcases hd' with rfl|hd'
   .exact Int.le_refl _
   .exact(h.don b hb hd').2.2.1 a ha hda
  refine⟨by omega,?_,fun c hc hdc=>?_,fun i hi=>?_⟩
  .split
   .omega
   .rename_i e
    rcases hd' with e'|hd'
    .exact absurd e' e
    .have:=(h.don b hb hd').2.1;omega
  .rw[dset]at hdc
   have hca:c≠a:=by rintro rfl;simp at hdc
   rw[if_neg hca]at hdc
   have hac:=hmin c hc hdc
   rcases rel.ch c with ⟨e1,-,-⟩|⟨e1,e2,i,hi,e3,e4,e5,e6⟩
   .omega
   .have hr:=hR.red a i ha ⟨hi,e3⟩
    rw[e5,Int.toNat_natCast]at hr
    omega
  .rw[sb.1]
   rcases hd' with rfl|hd'
   .exact rel.cl i hi.1 hi.2
   .have h1:=(h.don b hb hd').2.2.2 i hi
    have h2:=rel.le (arcAt l fl b i).to.toNat
    omega
theorem ways_dij{n:Nat}{l:List Edge}{fl tu:List Int}{fr:Nat}(hR:RedOK n l fl tu)(hfr:fr<n):∀(f:Nat) (t:Tour) (ds:List Bool) (rk:Nat->Nat) (R:Nat),Dij n l fl tu fr t ds rk R->cntF ds<f ->
 ∃ds' rk' R',Dij n l fl tu fr (x1wj l fl tu f t ds) ds' rk' R'/\∀v,v<n->dn ds' v=false->at0 (x1wj l fl tu f t ds).len v=farM:=by
 intro f
 induction f with
 |zero=>intro t ds rk R _ h;omega
 |succ f ih=>
  intro t ds rk R h hf
  simp only[x1wj]
  have hp:=x22b (len:=t.len) (ds:=ds) (by rw[h.dl,h.ll]) t.len ds 0 (-1) rfl rfl (by omega) (Or.inl ⟨rfl,fun i hi=>by omega⟩)
  rw[show((0:Nat):Int)=0 from rfl]at hp
  obtain⟨p,hpe⟩:∃p,p=x1wi t.len (-1) 0 t.len ds:=⟨_,rfl⟩
  rw[<-hpe]at hp ⊢
  rcases hp with ⟨h1,h2⟩|⟨h1,h2,h3,h4,h5⟩
  .rw[if_pos (by omega)]
   exact⟨ds,rk,R,h,fun v hv hd=>by have:=h2 v (by rw[h.ll];exact hv) hd;have:=h.le v;omega⟩
  .rw[if_neg (by omega)]
   have hpn:p.toNat<n:=by have:=h.ll;omega
   have:=dij_step hR h hfr hpn h3 h4 (fun i hi hd=>h5 i (by rw[h.ll];exact hi) hd)
   rw[Int.toNat_of_nonneg h1]at this
   exact ih _ _ _ _ this (by have:=x206 (ds:=ds) (k:=p.toNat) (by rw[h.dl];exact hpn) h3;omega)
structure WaysOK (n:Nat) (l:List Edge) (fl tu:List Int) (fr:Nat) (t:Tour) (rk:Nat->Nat):Prop where
 ll:t.len.length=n
 al:t.last.length=n
 bl:t.bef.length=n
 le:∀v,at0 t.len v<=farM
 z:at0 t.len fr=0
 pre:∀v,v<n->v≠fr->at0 t.len v<farM->∃w,w<n/\at0 t.len w<farM/\at0 t.bef v=(w:Nat)/\rk w<rk v /\
  ∃i,OutA l fl w i/\lastAt t v=arcAt l fl w i/\(arcAt l fl w i).to=v/\at0 t.len v=at0 t.len w+(arcAt l fl w i).cost+at0 tu w-at0 tu v
 cl:∀a,a<n->at0 t.len a<farM->∀i,OutA l fl a i->at0 t.len (arcAt l fl a i).to.toNat<=at0 t.len a+(arcAt l fl a i).cost+at0 tu a-at0 tu (arcAt l fl a i).to.toNat
 nn:∀v,v<n->0<=at0 t.len v
theorem dij_start{n:Nat}{l:List Edge}{fl tu:List Int}{fr:Nat}(hfr:fr<n):Dij n l fl tu fr (x1ta n fr) (List.replicate n false) (fun _=>0) 0:=by
 have hl:∀v,at0 (x1ta n fr).len v=if v=fr then 0 else if v<n then farM else 0:=by
  intro v
  unfold x1ta
  simp only[Int.toNat_natCast]
  rw[x1sa (by simp;omega)]
  split
  .rfl
  .unfold at0
   rw[List.getD_eq_getElem?_getD,List.getElem?_replicate]
   split<;>rfl
 refine⟨by simp[x1ta],by simp[x1ta],by simp[x1ta],by simp,fun v=>?_,?_,?_,?_,?_⟩
 .have:(0:Int)<=farM:=by decide
  rw[hl]
  split
  .exact this
  .split
   .exact Int.le_refl _
   .exact this
 .rw[hl,if_pos rfl]
 .right;intro v hv hvf;rw[hl,if_neg hvf,if_pos hv]
 .intro v hv hvf h;rw[hl,if_neg hvf,if_pos hv]at h;exact absurd h (Int.lt_irrefl _)
 .intro a ha hd
  exfalso
  rw[dn_lt (by simpa using ha)]at hd
  simp at hd
theorem x22i{n:Nat}{l:List Edge}{fl tu:List Int}{fr:Nat}(hR:RedOK n l fl tu)(hfr:fr<n)(hn:n<=200):∃rk,WaysOK n l fl tu fr (waysF n l fl tu fr) rk:=by
 obtain⟨ds,rk,R,h,hd⟩:=ways_dij hR hfr NN (x1ta n fr) (List.replicate n false) _ _ (dij_start hfr) (by rw[x22a,x1r6];omega)
 have fin:∀v,v<n->at0 (waysF n l fl tu fr).len v<farM->dn ds v=true:=by
  intro v hv hl
  cases c:dn ds v with
  |true=>rfl
  |false=>have:=hd v hv c;unfold waysF at hl;omega
 have nn:∀r v,v<n->rk v<r->at0 (waysF n l fl tu fr).len v<farM->0<=at0 (waysF n l fl tu fr).len v:=by
  intro r
  induction r with
  |zero=>intro v _ h;omega
  |succ r ih=>
   intro v hv hr hl
   by_cases e:v=fr
   .rw[e];unfold waysF;rw[h.z];omega
   .obtain⟨w,w1,w2,w3,w4,i,w5,w6,w7,w8⟩:=h.pre v hv e hl
    have h1:=w4 (fin v hv hl)
    have h2:=ih w w1 (by omega) (h.don w w1 w2).1
    have h3:=hR.red w i w1 w5
    rw[w7,Int.toNat_natCast]at h3
    unfold waysF at *
    omega
 refine⟨rk,h.ll,h.al,h.bl,h.le,h.z,fun v hv hvf hl=>?_,fun a ha hl i hi=>((h.don a ha (fin a ha hl)).2.2.2 i hi),fun v hv=>?_⟩
 .obtain⟨w,w1,w2,w3,w4,w5⟩:=h.pre v hv hvf hl
  exact⟨w,w1,(h.don w w1 w2).1,w3,w4 (fin v hv hl),w5⟩
 .by_cases c:at0 (waysF n l fl tu fr).len v<farM
  .exact nn _ v hv (Nat.lt_succ_self _) c
  .have:(0:Int)<=farM:=by decide
   omega
theorem x25h:∀(ps:List Nat) (ds:List Bool),ps.Nodup->(∀w∈ps,w<ds.length/\dn ds w=false)->ps.length<=cntF ds
 |[],_,_,_=>Nat.zero_le _
 |w::ps,ds,h,hd=>by
  obtain⟨h1,h2⟩:=List.nodup_cons.mp h
  obtain⟨h3,h4⟩:=hd w (List.mem_cons_self ..)
  have:=x25h ps (ds.set w true) h2 (fun x hx=>by
   obtain⟨h5,h6⟩:=hd x (List.mem_cons_of_mem _ hx)
   exact⟨by simpa using h5,by rw[dn_set h3,if_neg (by rintro rfl;exact h1 hx)];exact h6⟩)
  have:=x206 h3 h4
  simp only[List.length_cons];omega
theorem x22j{n:Nat}{ps:List Nat}(h:ps.Nodup)(hp:∀w∈ps,w<n):ps.length<=n:=by
 have:=x25h ps (List.replicate n false) h (fun w hw=>⟨by simpa using hp w hw,by rw[dn_lt (by simpa using hp w hw)];simp⟩)
 rwa[x22a]at this
structure FlowOK (n:Nat) (l:List Edge) (fl tu ex:List Int):Prop where
 nn:n<=200
 ll:l.length<=600
 ed:∀e∈l,EdgeIn n e/\e.fr≠e.to
 fll:fl.length=l.length
 tul:tu.length=n
 exl:ex.length=n
 cap:∀k,k<l.length->-(edgeAt l k).wt<=at0 fl k/\at0 fl k<=(edgeAt l k).wt
 cs:∀k,k<l.length->(at0 fl k<(edgeAt l k).wt->exI tu (edgeAt l k)<=0)/\(-(edgeAt l k).wt<at0 fl k->0<=exI tu (edgeAt l k))
 net:∀v,v<n->at0 ex v=netF v (l.zip fl)
theorem x1tw{n:Nat}{l:List Edge}(hed:∀e∈l,EdgeIn n e/\e.fr≠e.to){k:Nat}(hk:k<l.length):EdgeIn n (edgeAt l k)/\(edgeAt l k).fr≠(edgeAt l k).to:=by
 rw[x1t9 hk];exact hed _ (List.getElem_mem hk)
theorem x1za{n:Nat}{l:List Edge}(hed:∀e∈l,EdgeIn n e/\e.fr≠e.to)(fl:List Int){a i:Int}(hi:i∈adjI l a):∃k:Nat,k<l.length/\i=k /\
 (((edgeAt l k).to=a/\(edgeAt l k).fr≠a/\arcAt l fl a i=⟨k,(edgeAt l k).fr,-1,(edgeAt l k).wt+at0 fl k,(edgeAt l k).jump⟩) \/
  ((edgeAt l k).fr=a/\(edgeAt l k).to≠a/\arcAt l fl a i=⟨k,(edgeAt l k).to,1,(edgeAt l k).wt-at0 fl k,-(edgeAt l k).jump⟩)):=by
 obtain⟨h0,h1,h2⟩:=x228 hi
 obtain⟨k,rfl⟩:∃k:Nat,i=k:=⟨i.toNat,by omega⟩
 rw[Int.toNat_natCast]at h2
 have hk:k<l.length:=by omega
 obtain⟨he,hne⟩:=x1tw hed hk
 refine⟨k,hk,rfl,?_⟩
 unfold arcAt
 simp only[Int.toNat_natCast]
 by_cases c:(edgeAt l k).to=a
 .left
  rw[if_pos c]
  exact⟨c,by omega,rfl⟩
 .right
  rw[if_neg c]
  exact⟨by rcases h2 with h|h;exact h;exact absurd h c,c,rfl⟩
theorem x20c{l:List Edge}{k:Nat}{a:Int}(hk:k<l.length)(h:(edgeAt l k).fr=a\/(edgeAt l k).to=a):(k:Int)∈adjI l a:=by
 unfold adjI
 rw[List.mem_map]
 exact⟨k,List.mem_filter.mpr ⟨List.mem_range.mpr hk,by simpa using h⟩,rfl⟩
theorem FlowOK.red{n:Nat}{l:List Edge}{fl tu ex:List Int}(h:FlowOK n l fl tu ex):RedOK n l fl tu:=by
 refine⟨fun a i ha hi=>?_,fun a i ha hi=>?_⟩
 .obtain⟨k,hk,rfl,hc⟩:=x1za h.ed fl hi
  obtain⟨⟨f0,f1,t0,t1,-⟩,hne⟩:=x1tw h.ed hk
  rcases hc with ⟨c1,c2,c3⟩|⟨c1,c2,c3⟩<;>rw[c3]<;>exact⟨by assumption,by assumption,c2⟩
 .obtain⟨hi,hr⟩:=hi
  obtain⟨k,hk,rfl,hc⟩:=x1za h.ed fl hi
  obtain⟨s1,s2⟩:=h.cs k hk
  rcases hc with ⟨c1,c2,c3⟩|⟨c1,c2,c3⟩
  .rw[c3]at hr ⊢
   simp only at hr ⊢
   have:=s2 (by omega)
   unfold exI at this
   rw[c1,Int.toNat_natCast]at this
   omega
  .rw[c3]at hr ⊢
   simp only at hr ⊢
   have:=s1 (by omega)
   unfold exI at this
   rw[c1,Int.toNat_natCast]at this
   omega
theorem path_ok{n:Nat}{l:List Edge}{fl tu ex:List Int}(h:FlowOK n l fl tu ex){fr:Nat}{t:Tour}{rk:Nat->Nat}(W:WaysOK n l fl tu fr t rk):∀(r v:Nat),v<n->rk v<r->at0 t.len v<farM ->
 ∃ps,PathI n t.bef fr (v:Nat) ps/\(∀w∈ps,w<n/\w≠fr/\at0 t.len w<=at0 t.len v/\rk w<=rk v)/\ps.Nodup:=by
 intro r
 induction r with
 |zero=>intro v _ hh;omega
 |succ r ih=>
  intro v hv hr hl
  by_cases e:v=fr
  .exact⟨[],by rw[e];rfl,fun w hw=>by simp at hw,List.nodup_nil⟩
  .obtain⟨b,b1,b2,b3,b4,i,b5,b6,b7,b8⟩:=W.pre v hv e hl
   obtain⟨ps,p1,p2,p3⟩:=ih b b1 (by omega) b2
   have hred:=h.red.red b i b1 b5
   rw[b7,Int.toNat_natCast]at hred
   refine⟨v::ps,⟨by omega,rfl,hv,by rw[b3];exact p1⟩,fun w hw=>?_,List.nodup_cons.mpr ⟨fun hw=>?_,p3⟩⟩
   .rcases List.mem_cons.mp hw with rfl|hw
    .exact⟨hv,e,Int.le_refl _,Nat.le_refl _⟩
    .obtain⟨q1,q2,q3,q4⟩:=p2 w hw
     exact⟨q1,q2,by omega,by omega⟩
   .have:=(p2 v hw).2.2.2
    omega
theorem x1y9{n:Nat}{l:List Edge}{fl tu ex:List Int}(h:FlowOK n l fl tu ex){fr:Nat}{t:Tour}{rk:Nat->Nat}(W:WaysOK n l fl tu fr t rk){w:Nat}(hw:w<n)(hf:w≠fr)(hl:at0 t.len w<farM) :
 ∃b k:Nat,b<n/\(at0 t.len b<farM/\at0 t.len b<=at0 t.len w)/\at0 t.bef w=(b:Nat)/\rk b<rk w/\k<l.length/\(lastAt t w).edge=(k:Nat)/\0<(lastAt t w).room /\
  (((edgeAt l k).to=(b:Nat)/\(edgeAt l k).fr=(w:Nat)/\(lastAt t w).sign=-1/\(lastAt t w).room=(edgeAt l k).wt+at0 fl k/\at0 t.len w=at0 t.len b+(edgeAt l k).jump+at0 tu b-at0 tu w) \/
   ((edgeAt l k).fr=(b:Nat)/\(edgeAt l k).to=(w:Nat)/\(lastAt t w).sign=1/\(lastAt t w).room=(edgeAt l k).wt-at0 fl k/\at0 t.len w=at0 t.len b-(edgeAt l k).jump+at0 tu b-at0 tu w)):=by
 obtain⟨b,b1,b2,b3,b4,i,⟨b5,b6⟩,b7,b8,b9⟩:=W.pre w hw hf hl
 have hred:=h.red.red b i b1 ⟨b5,b6⟩
 rw[b8,Int.toNat_natCast]at hred
 obtain⟨k,hk,rfl,hc⟩:=x1za h.ed fl b5
 refine⟨b,k,b1,⟨b2,by omega⟩,b3,b4,hk,?_,by rw[b7];exact b6,?_⟩
 .rw[b7];rcases hc with ⟨_,_,c⟩|⟨_,_,c⟩<;>rw[c]
 .rw[b7]
  rcases hc with ⟨c1,c2,c⟩|⟨c1,c2,c⟩
  .left
   rw[c]at b8 b9 ⊢
   exact⟨c1,b8,rfl,rfl,by simp only at b9;omega⟩
  .right
   rw[c]at b8 b9 ⊢
   exact⟨c1,b8,rfl,rfl,by simp only at b9;omega⟩
theorem x28c{n:Nat}{l:List Edge}{fl tu ex:List Int}(h:FlowOK n l fl tu ex){fr:Nat}{t:Tour}{rk:Nat->Nat}(W:WaysOK n l fl tu fr t rk){w v:Nat}(hw:w<n)(hf:w≠fr)(hl:at0 t.len w<farM)(hv:v<n)(hvf:v≠fr)(hvl:at0 t.len v<farM)(hwv:w≠v) :
 (lastAt t w).edge≠(lastAt t v).edge:=by
 obtain⟨b,k,b1,b2,b3,b4,b5,b6,b7,b8⟩:=x1y9 h W hw hf hl
 obtain⟨c,j,c1,c2,c3,c4,c5,c6,c7,c8⟩:=x1y9 h W hv hvf hvl
 rw[b6,c6]
 intro e
 have e:k=j:=by omega
 subst e
 have:b=v/\c=w:=by
  rcases b8 with ⟨d1,d2,-⟩|⟨d1,d2,-⟩<;>rcases c8 with ⟨e1,e2,-⟩|⟨e1,e2,-⟩<;>omega
 obtain⟨rfl,rfl⟩:=this
 omega
theorem amt_le(t:Tour):∀(ps:List Nat) (a:Int),amtM t ps a<=a/\∀w∈ps,amtM t ps a<=(lastAt t w).room
 |[],a=>⟨Int.le_refl _,fun w hw=>by simp at hw⟩
 |v::ps,a=>by
  have e:amtM t (v::ps) a=amtM t ps (minI a (lastAt t v).room):=rfl
  obtain⟨h1,h2⟩:=amt_le t ps (minI a (lastAt t v).room)
  rw[e]
  have h3:minI a (lastAt t v).room<=a:=by unfold minI;split<;>omega
  have h4:minI a (lastAt t v).room<=(lastAt t v).room:=x209
  refine⟨by omega,fun w hw=>?_⟩
  rcases List.mem_cons.mp hw with rfl|hw
  .omega
  .exact h2 w hw
theorem amt_pos(t:Tour):∀(ps:List Nat) (a:Int),0<a->(∀w∈ps,0<(lastAt t w).room)->0<amtM t ps a
 |[],a,h,_=>h
 |v::ps,a,h,hp=>by
  have e:amtM t (v::ps) a=amtM t ps (minI a (lastAt t v).room):=rfl
  rw[e]
  refine amt_pos t ps _ ?_ (fun w hw=>hp w (List.mem_cons_of_mem _ hw))
  have:=hp v (List.mem_cons_self ..)
  unfold minI;split<;>omega
theorem x25i(t:Tour)(amt:Int):∀(ps:List Nat) (fl:List Int),(flowP t amt ps fl).length=fl.length
 |[],_=>rfl
 |v::ps,fl=>by
  have e:flowP t amt (v::ps) fl=flowP t amt ps (fl.set (lastAt t v).edge.toNat (at0 fl (lastAt t v).edge.toNat+(lastAt t v).sign*amt)):=rfl
  rw[e,x25i t amt ps];simp
theorem x25j(t:Tour)(amt:Int):∀(ps:List Nat) (fl:List Int),(∀w∈ps,(lastAt t w).edge.toNat<fl.length)->ps.Pairwise (fun v w=>(lastAt t v).edge.toNat≠(lastAt t w).edge.toNat)->∀k,
 (∀w∈ps,(lastAt t w).edge.toNat=k->at0 (flowP t amt ps fl) k=at0 fl k+(lastAt t w).sign*amt)/\((∀w∈ps,(lastAt t w).edge.toNat≠k)->at0 (flowP t amt ps fl) k=at0 fl k)
 |[],fl,_,_,k=>⟨fun w hw=>by simp at hw,fun _=>rfl⟩
 |v::ps,fl,h,hp,k=>by
  have e:flowP t amt (v::ps) fl=flowP t amt ps (fl.set (lastAt t v).edge.toNat (at0 fl (lastAt t v).edge.toNat+(lastAt t v).sign*amt)):=rfl
  obtain⟨h1,h2⟩:=List.pairwise_cons.mp hp
  have hv:=h v (List.mem_cons_self ..)
  obtain⟨i1,i2⟩:=x25j t amt ps (fl.set (lastAt t v).edge.toNat (at0 fl (lastAt t v).edge.toNat+(lastAt t v).sign*amt)) (fun w hw=>by simpa using h w (List.mem_cons_of_mem _ hw)) h2 k
  rw[e]
  rw[x1sa hv]at i1 i2
  refine⟨fun w hw hk=>?_,fun hk=>?_⟩
  .rcases List.mem_cons.mp hw with rfl|hw
   .rw[i2 (fun x hx=>by rw[<-hk];exact fun y=>h1 x hx y.symm),if_pos hk.symm,hk]
   .rw[i1 w hw hk,if_neg (by rw[<-hk];exact fun y=>h1 w hw y.symm)]
  .rw[i2 (fun w hw=>hk w (List.mem_cons_of_mem _ hw)),if_neg (fun y=>hk v (List.mem_cons_self ..) y.symm)]
def ind(p:Prop)[Decidable p]:Int:=if p then 1 else 0
theorem x22k(v:Nat):∀(l:List Edge) (fl:List Int) (k:Nat) (x:Int),k<l.length->fl.length=l.length ->
 netF v (l.zip (fl.set k x))=netF v (l.zip fl)+(x-at0 fl k)*(ind ((edgeAt l k).to.toNat=v)-ind ((edgeAt l k).fr.toNat=v))
 |e::l,f::fl,0,x,hk,hl=>by
  simp only[List.set_cons_zero,List.zip_cons_cons,netF,ind,show edgeAt (e::l) 0=e from rfl,show at0 (f::fl) 0=f from rfl]
  split<;>split<;>omega
 |e::l,f::fl,k+1,x,hk,hl=>by
  have:=x22k v l fl k x (by simpa using hk) (by simpa using hl)
  simp only[List.set_cons_succ,List.zip_cons_cons,netF,show edgeAt (e::l) (k+1)=edgeAt l k from rfl,show at0 (f::fl) (k+1)=at0 fl k from rfl,this]
  omega
 |[],_,k,x,hk,_=>by simp at hk
 |_::_,[],k,x,_,hl=>by simp at hl
theorem x25k{n:Nat}{l:List Edge}{fr:Nat}{t:Tour}(amt:Int)(v:Nat):∀(ps:List Nat) (a:Int) (fl:List Int),fl.length=l.length->PathI n t.bef fr a ps ->
 (∀w∈ps,∃b k:Nat,at0 t.bef w=(b:Nat)/\k<l.length/\(lastAt t w).edge=(k:Nat)/\(((edgeAt l k).to=(b:Nat)/\(edgeAt l k).fr=(w:Nat)/\(lastAt t w).sign=-1)\/((edgeAt l k).fr=(b:Nat)/\(edgeAt l k).to=(w:Nat)/\(lastAt t w).sign=1))) ->
 netF v (l.zip (flowP t amt ps fl))=netF v (l.zip fl)+amt*(ind (a.toNat=v)-ind (fr=v))
 |[],a,fl,_,hp,_=>by
  have hp:a=(fr:Nat):=hp
  subst hp
  simp[flowP]
 |w::ps,a,fl,hl,hp,hA=>by
  obtain⟨h1,rfl,h3,h4⟩:=hp
  obtain⟨b,k,b1,b2,b3,b4⟩:=hA w (List.mem_cons_self ..)
  have e:flowP t amt (w::ps) fl=flowP t amt ps (fl.set (lastAt t w).edge.toNat (at0 fl (lastAt t w).edge.toNat+(lastAt t w).sign*amt)):=rfl
  rw[b1]at h4
  have ih:=x25k (n:=n) amt v ps (b:Nat) (fl.set (lastAt t w).edge.toNat (at0 fl (lastAt t w).edge.toNat+(lastAt t w).sign*amt)) (by simpa using hl) h4 (fun x hx=>hA x (List.mem_cons_of_mem _ hx))
  rw[e,ih,b3,Int.toNat_natCast,x22k v l fl k _ b2 hl]
  rcases b4 with ⟨c1,c2,c3⟩|⟨c1,c2,c3⟩
  .rw[c1,c2,c3,Int.toNat_natCast,Int.toNat_natCast]
   grind
  .rw[c1,c2,c3,Int.toNat_natCast,Int.toNat_natCast]
   grind
theorem x1t0{l:List Edge}{fl:List Int}(hl:fl.length=l.length){x:Edge×Int}:x∈l.zip fl↔∃k,k<l.length/\x=(edgeAt l k,at0 fl k):=by
 constructor
 .intro h
  obtain⟨k,hk,rfl⟩:=List.mem_iff_getElem.mp h
  have h1:k<l.length:=by simp at hk;omega
  refine⟨k,h1,?_⟩
  rw[List.getElem_zip,x1t9 h1,x1ri (by omega)]
 .rintro⟨k,hk,rfl⟩
  rw[x1t9 hk,x1ri (by omega)]
  have:k<(l.zip fl).length:=by simp;omega
  rw[<-List.getElem_zip (h:=this)]
  exact List.getElem_mem this
theorem FlowOK.capz{n:Nat}{l:List Edge}{fl tu ex:List Int}(h:FlowOK n l fl tu ex):Cap (l.zip fl):=by
 intro x hx
 obtain⟨k,hk,rfl⟩:=(x1t0 h.fll).mp hx
 exact h.cap k hk
theorem x1wy{n:Nat}{l:List Edge}{fl:List Int}(hed:∀e∈l,EdgeIn n e/\e.fr≠e.to)(hl:fl.length=l.length):Ends n (l.zip fl):=by
 intro x hx
 obtain⟨k,hk,rfl⟩:=(x1t0 hl).mp hx
 obtain⟨⟨f0,f1,t0,t1,-⟩,-⟩:=x1tw hed hk
 simp only
 omega
theorem arc_out{n:Nat}{l:List Edge}{fl:List Int}(hed:∀e∈l,EdgeIn n e/\e.fr≠e.to)(hl:fl.length=l.length){u v:Nat}{c:Int}(h:Arc (l.zip fl) u v c) :
 ∃i,OutA l fl u i/\(arcAt l fl u i).to=(v:Nat)/\(arcAt l fl u i).cost=c:=by
 obtain⟨x,hx,h⟩:=h
 obtain⟨k,hk,rfl⟩:=(x1t0 hl).mp hx
 obtain⟨⟨f0,f1,t0,t1,-⟩,hne⟩:=x1tw hed hk
 rcases h with ⟨h1,h2,h3,h4⟩|⟨h1,h2,h3,h4⟩
 .simp only at h1 h2 h3 h4
  have hi:=x20c (a:=(u:Nat)) hk (Or.inl (by omega))
  refine⟨k,?_⟩
  unfold OutA
  have e:arcAt l fl (u:Nat) (k:Nat)=⟨k,(edgeAt l k).to,1,(edgeAt l k).wt-at0 fl k,-(edgeAt l k).jump⟩:=by
   unfold arcAt
   simp only[Int.toNat_natCast]
   rw[if_neg (by omega)]
  rw[e]
  exact⟨⟨hi,by simp only;omega⟩,by simp only;omega,h4.symm⟩
 .simp only at h1 h2 h3 h4
  have hi:=x20c (a:=(u:Nat)) hk (Or.inr (by omega))
  refine⟨k,?_⟩
  unfold OutA
  have e:arcAt l fl (u:Nat) (k:Nat)=⟨k,(edgeAt l k).fr,-1,(edgeAt l k).wt+at0 fl k,(edgeAt l k).jump⟩:=by
   unfold arcAt
   simp only[Int.toNat_natCast]
   rw[if_pos (by omega)]
  rw[e]
  exact⟨⟨hi,by simp only;omega⟩,by simp only;omega,h4.symm⟩
structure Slim (J:Int) (n:Nat) (l:List Edge):Prop where
 j0:0<=J
 j1:J<=5
 nn:n<=12
 ll:l.length<=17
 ed:∀e∈l,EdgeIn n e/\e.fr≠e.to
 jw:∀e∈l,-J<=e.jump/\e.jump<=J/\e.wt<=20
structure TurnB (n:Nat) (tu ex:List Int) (P:Int):Prop where
 b:∀v,v<n->0<=at0 tu v/\at0 tu v<=P
 m:∀v,v<n->at0 ex v<0->at0 tu v=P
theorem way_len{n:Nat}{l:List Edge}{fl tu ex:List Int}(h:FlowOK n l fl tu ex){fr:Nat}{t:Tour}{rk:Nat->Nat}(W:WaysOK n l fl tu fr t rk){J:Int}(hJ:∀e∈l,-J<=e.jump/\e.jump<=J):∀(ps:List Nat) (v:Nat),PathI n t.bef fr (v:Nat) ps->v<n->at0 t.len v<farM ->
 at0 t.len v<=J*ps.length+at0 tu fr-at0 tu v
 |[],v,hp,hv,hl=>by
  have hp:(v:Int)=(fr:Nat):=hp
  have:v=fr:=by omega
  subst this
  rw[W.z];simp
 |w::ps,v,hp,hv,hl=>by
  obtain⟨h1,h2,h3,h4⟩:=hp
  have:v=w:=by omega
  subst this
  obtain⟨b,k,b1,⟨b2,b2'⟩,b3,b4,b5,b6,b7,b8⟩:=x1y9 h W hv (by omega) hl
  rw[b3]at h4
  have ih:=way_len h W hJ ps b h4 b1 b2
  have hj:=hJ (edgeAt l k) (by rw[x1t9 b5];exact List.getElem_mem b5)
  have e:J*((v::ps).length:Int)=J*(ps.length:Int)+J:=by rw[List.length_cons,Int.natCast_succ,Int.mul_add];omega
  rw[e]
  rcases b8 with ⟨_,_,_,_,b8⟩|⟨_,_,_,_,b8⟩<;>omega
theorem fin_len{n:Nat}{l:List Edge}{fl tu ex:List Int}(h:FlowOK n l fl tu ex){fr:Nat}{t:Tour}{rk:Nat->Nat}(W:WaysOK n l fl tu fr t rk){J P:Int}(hS:Slim J n l)(hT:∀v,v<n->0<=at0 tu v/\at0 tu v<=P)(hfr:fr<n){v:Nat}(hv:v<n)(hl:at0 t.len v<farM) :
 ∃ps,PathI n t.bef fr (v:Nat) ps/\(∀w∈ps,w<n/\w≠fr/\at0 t.len w<=at0 t.len v/\rk w<=rk v)/\ps.Nodup/\ps.length<=n/\at0 t.len v<=J*12+at0 tu fr-at0 tu v:=by
 obtain⟨ps,p1,p2,p3⟩:=path_ok h W (rk v+1) v hv (by omega) hl
 have hn:=x22j p3 (fun w hw=>(p2 w hw).1)
 refine⟨ps,p1,p2,p3,hn,?_⟩
 have h1:=way_len h W (fun e he=>⟨(hS.jw e he).1,(hS.jw e he).2.1⟩) ps v p1 hv hl
 have h2:J*(ps.length:Int)<=J*12:=Int.mul_le_mul_of_nonneg_left (by have:=hS.nn;omega) hS.j0
 omega
theorem to_ok{n:Nat}{l:List Edge}{fl tu ex:List Int}(h:FlowOK n l fl tu ex){fr:Nat}{t:Tour}{rk:Nat->Nat}(W:WaysOK n l fl tu fr t rk){J P:Int}(hS:Slim J n l)(hT:∀v,v<n->0<=at0 tu v/\at0 tu v<=P)(hP:P<=1000000)(hfr:fr<n)(hex:0<at0 ex fr) :
 ∃v,v<n/\at0 ex v<0/\at0 t.len v<farM:=by
 have hj0:=hS.j0
 have hj1:=hS.j1
 apply Classical.byContradiction
 intro hno
 have hall:∀v,v<n->at0 t.len v<farM->0<=at0 ex v:=fun v hv hl=>by
  apply Classical.byContradiction
  intro hx
  exact hno ⟨v,hv,by omega,hl⟩
 obtain⟨S,hSd⟩:∃S:Nat->Bool,S=fun v=>decide (v<n/\at0 t.len v<farM):=⟨_,rfl⟩
 have hSi:∀v,S v=true↔v<n/\at0 t.len v<farM:=fun v=>by rw[hSd];simp
 have hcut:=(cut_sum n S (l.zip fl) (x1wy h.ed h.fll) h.capz (by
  intro u v c ha hu
  rw[hSi]at hu ⊢
  obtain⟨hu1,hu2⟩:=hu
  obtain⟨-,hv⟩:=ha.lt (x1wy h.ed h.fll)
  obtain⟨i,h1,h2,h3⟩:=arc_out h.ed h.fll ha
  have h4:=W.cl u hu1 hu2 i h1
  obtain⟨ps,-,-,-,-,h5⟩:=fin_len h W hS hT hfr hu1 hu2
  have h6:=hT fr hfr
  have h7:=hT u hu1
  have h8:=hT v hv
  rw[h2,Int.toNat_natCast]at h4
  have h9:(arcAt l fl u i).cost<=1000:=by
   obtain⟨k,hk,rfl,hc⟩:=x1za h.ed fl h1.1
   obtain⟨⟨_,_,_,_,j0,j1,_⟩,_⟩:=x1tw h.ed hk
   rcases hc with ⟨_,_,c⟩|⟨_,_,c⟩<;>rw[c]<;>simp only<;>omega
  refine⟨hv,?_⟩
  have:(100000000:Int)<farM:=by decide
  omega)).1
 have hpos:sumN n (fun _=>0)<sumN n (fun v=>(if S v then 1 else 0)*netF v (l.zip fl)):=by
  refine sumN_lt (j:=fr) (fun v hv=>?_) hfr ?_
  .split
   .rename_i c
    have:=hall v hv ((hSi v).mp c).2
    rw[h.net v hv]at this
    omega
   .omega
  .rw[if_pos ((hSi fr).mpr ⟨hfr,by rw[W.z];decide⟩),<-h.net fr hfr]
   omega
 rw[x1y8 (fun _ _=>rfl)]at hpos
 omega
def posS(n:Nat)(ex:List Int):Int:=sumN n (fun v=>if 0<at0 ex v then at0 ex v else 0)
theorem x1zb(n:Nat)(ex:List Int):0<=posS n ex:=x28a fun k _=>by split<;>omega
structure PushOK (J:Int) (n:Nat) (l:List Edge) (fl tu ex:List Int) (P:Int) (fr:Nat):Prop where
 ex:∃(to:Nat) (ps:List Nat) (amt:Int),(to:Int)=nearM (waysF n l fl tu fr).len ex (-1) 0 (waysF n l fl tu fr).len/\to<n/\to≠fr/\at0 (waysF n l fl tu fr).len to<farM /\
  PathI n (waysF n l fl tu fr).bef fr (to:Nat) ps/\ArcsIn l.length (waysF n l fl tu fr) ps/\ps.length<=1000/\amt=amtM (waysF n l fl tu fr) ps (minI (at0 ex fr) (-(at0 ex to)))/\0<amt/\amt<=1000000 /\
  FlowOK n l (flowP (waysF n l fl tu fr) amt ps fl) (turnsP tu (waysF n l fl tu fr).len (at0 (waysF n l fl tu fr).len to) n) ((ex.set fr (at0 ex fr-amt)).set to (at0 ex to+amt)) /\
  (∃P',P<=P'/\P'<=P+J*12/\TurnB n (turnsP tu (waysF n l fl tu fr).len (at0 (waysF n l fl tu fr).len to) n) ((ex.set fr (at0 ex fr-amt)).set to (at0 ex to+amt)) P') /\
  posS n ((ex.set fr (at0 ex fr-amt)).set to (at0 ex to+amt))+amt=posS n ex
theorem x28d{tu len:List Int}{b:Int}{n k:Nat}(h:k<n):at0 (turnsP tu len b n) k=at0 tu k+minI (at0 len k) b:=by
 rw[x1ri (by rw[x1wx];exact h),x25b h]
theorem push_ok{J:Int}{n:Nat}{l:List Edge}{fl tu ex:List Int}{P:Int}{fr:Nat}(h:FlowOK n l fl tu ex)(hS:Slim J n l)(hT:TurnB n tu ex P)(hP:P<=900000)(hfr:fr<n)(hex:0<at0 ex fr)(hexb:∀v,at0 ex v<=1000000):PushOK J n l fl tu ex P fr:=by
 obtain⟨t,ht⟩:∃t,t=waysF n l fl tu fr:=⟨_,rfl⟩
 obtain⟨rk,W⟩:=x22i h.red hfr h.nn
 rw[<-ht]at W
 have hj0:=hS.j0
 have hj1:=hS.j1
 have hns:=x259 (len:=t.len) (ex:=ex) t.len 0 (-1) rfl (Nat.zero_le _) (Or.inl ⟨rfl,fun i hi=>by omega⟩)
 rw[show((0:Nat):Int)=0 from rfl]at hns
 obtain⟨T,hT0⟩:∃T,T=nearM t.len ex (-1) 0 t.len:=⟨_,rfl⟩
 rw[<-hT0]at hns
 rcases hns with ⟨h1,h2⟩|⟨h1,h2,h3,h4,h5⟩
 .exfalso
  obtain⟨v,v1,v2,v3⟩:=to_ok h W hS hT.b (by omega) hfr hex
  have:=h2 v (by rw[W.ll];exact v1) v2
  omega
 obtain⟨to,rfl⟩:∃to:Nat,T=to:=⟨T.toNat,by omega⟩
 rw[Int.toNat_natCast]at h2 h3 h4 h5
 rw[W.ll]at h2 h5
 have hne:to≠fr:=by rintro rfl;omega
 obtain⟨ps,p1,p2,p3,p4,p5⟩:=fin_len h W hS hT.b hfr h2 h4
 obtain⟨D,hD⟩:∃D,D=at0 t.len to:=⟨_,rfl⟩
 have hD0:0<=D:=by rw[hD];exact W.nn to h2
 have hDP:D<=J*12:=by have:=hT.m to h2 h3;have:=(hT.b fr hfr).2;omega
 have arcs:∀w∈ps,∃b k:Nat,b<n/\(at0 t.len b<farM/\at0 t.len b<=at0 t.len w)/\at0 t.bef w=(b:Nat)/\rk b<rk w/\k<l.length/\(lastAt t w).edge=(k:Nat)/\0<(lastAt t w).room /\
  (((edgeAt l k).to=(b:Nat)/\(edgeAt l k).fr=(w:Nat)/\(lastAt t w).sign=-1/\(lastAt t w).room=(edgeAt l k).wt+at0 fl k/\at0 t.len w=at0 t.len b+(edgeAt l k).jump+at0 tu b-at0 tu w) \/
   ((edgeAt l k).fr=(b:Nat)/\(edgeAt l k).to=(w:Nat)/\(lastAt t w).sign=1/\(lastAt t w).room=(edgeAt l k).wt-at0 fl k/\at0 t.len w=at0 t.len b-(edgeAt l k).jump+at0 tu b-at0 tu w)):=by
  intro w hw
  obtain⟨q1,q2,q3,q4⟩:=p2 w hw
  exact x1y9 h W q1 q2 (by omega)
 obtain⟨amt,hamt⟩:∃amt,amt=amtM t ps (minI (at0 ex fr) (-(at0 ex to))):=⟨_,rfl⟩
 have hmf:minI (at0 ex fr) (-(at0 ex to))<=at0 ex fr:=by unfold minI;split<;>omega
 have hmt:minI (at0 ex fr) (-(at0 ex to))<=-(at0 ex to):=x209
 have hmp:0<minI (at0 ex fr) (-(at0 ex to)):=by unfold minI;split<;>omega
 obtain⟨al1,al2⟩:=amt_le t ps (minI (at0 ex fr) (-(at0 ex to)))
 rw[<-hamt]at al1 al2
 have hap:0<amt:=by
  rw[hamt]
  refine amt_pos t ps _ hmp (fun w hw=>?_)
  obtain⟨b,k,b1,b2,b3,b4,b5,b6,b7,b8⟩:=arcs w hw
  exact b7
 have hEl:∀w∈ps,(lastAt t w).edge.toNat<fl.length:=fun w hw=>by
  obtain⟨b,k,b1,b2,b3,b4,b5,b6,b7,b8⟩:=arcs w hw
  rw[b6,Int.toNat_natCast,h.fll];exact b5
 have hPw:ps.Pairwise (fun v w=>(lastAt t v).edge.toNat≠(lastAt t w).edge.toNat):=by
  refine List.Pairwise.imp_of_mem (R:=fun a b=>a≠b) ?_ p3
  intro v w hv hw hvw
  obtain⟨q1,q2,q3,q4⟩:=p2 v hv
  obtain⟨r1,r2,r3,r4⟩:=p2 w hw
  have:=x28c h W q1 q2 (by omega) r1 r2 (by omega) hvw
  obtain⟨_,k,_,_,_,_,_,b6,_⟩:=arcs v hv
  obtain⟨_,j,_,_,_,_,_,c6,_⟩:=arcs w hw
  rw[b6,c6]at this ⊢
  omega
 obtain⟨fl',hfl'⟩:∃fl',fl'=flowP t amt ps fl:=⟨_,rfl⟩
 obtain⟨tu',htu'⟩:∃tu',tu'=turnsP tu t.len D n:=⟨_,rfl⟩
 obtain⟨ex',hex'⟩:∃ex',ex'=(ex.set fr (at0 ex fr-amt)).set to (at0 ex to+amt):=⟨_,rfl⟩
 have lfr:fr<ex.length:=by rw[h.exl];exact hfr
 have lto:to<(ex.set fr (at0 ex fr-amt)).length:=by simp[h.exl,h2]
 have exv:∀v,at0 ex' v=if v=to then at0 ex to+amt else if v=fr then at0 ex fr-amt else at0 ex v:=fun v=>by rw[hex',x1sa lto,x1sa lfr]
 have tuv:∀v,v<n->at0 tu' v=at0 tu v+minI (at0 t.len v) D:=fun v hv=>by rw[htu',x28d hv]
 have flg:=fun k=>x25j t amt ps fl hEl hPw k
 rw[<-hfl']at flg
 have kcase:∀k,(∃w∈ps,(lastAt t w).edge.toNat=k)\/∀w∈ps,(lastAt t w).edge.toNat≠k:=fun k=>by
  by_cases c:∃w∈ps,(lastAt t w).edge.toNat=k
  .exact Or.inl c
  .exact Or.inr fun w hw e=>c ⟨w,hw,e⟩
 have hfo:FlowOK n l fl' tu' ex':=by
  refine⟨h.nn,h.ll,h.ed,by rw[hfl',x25i];exact h.fll,by rw[htu'];exact x1wx _ _ _ _,by rw[hex'];simp[h.exl],fun k hk=>?_,fun k hk=>?_,fun v hv=>?_⟩
  .have hc:=h.cap k hk
   rcases kcase k with ⟨w,hw,hwk⟩|hno
   .rw[(flg k).1 w hw hwk]
    have hr:=al2 w hw
    obtain⟨b,j,b1,b2,b3,b4,b5,b6,b7,b8⟩:=arcs w hw
    have:j=k:=by rw[b6]at hwk;omega
    subst this
    rcases b8 with ⟨_,_,c3,c4,_⟩|⟨_,_,c3,c4,_⟩<;>rw[c3]<;>omega
   .rw[(flg k).2 hno];exact hc
  .obtain⟨⟨f0,f1,t0,t1,-⟩,hfe⟩:=x1tw h.ed hk
   have c0:=h.cs k hk
   rcases kcase k with ⟨w,hw,hwk⟩|hno
   .obtain⟨b,j,b1,⟨b2,b2'⟩,b3,b4,b5,b6,b7,b8⟩:=arcs w hw
    have:j=k:=by rw[b6]at hwk;omega
    subst this
    obtain⟨q1,q2,q3,q4⟩:=p2 w hw
    have hb:at0 tu' b=at0 tu b+at0 t.len b:=by rw[tuv b b1];unfold minI;rw[if_neg (by omega)]
    have hw':at0 tu' w=at0 tu w+at0 t.len w:=by rw[tuv w q1];unfold minI;rw[if_neg (by omega)]
    have hz:exI tu' (edgeAt l j)=0:=by
     unfold exI
     rcases b8 with ⟨c1,c2,_,_,c5⟩|⟨c1,c2,_,_,c5⟩
     .rw[c1,c2,Int.toNat_natCast,Int.toNat_natCast,hb,hw'];omega
     .rw[c1,c2,Int.toNat_natCast,Int.toNat_natCast,hb,hw'];omega
    rw[hz]
    exact⟨fun _=>Int.le_refl _,fun _=>Int.le_refl _⟩
   .rw[(flg k).2 hno]
    obtain⟨a,ha⟩:∃a:Nat,(edgeAt l k).fr=a:=⟨(edgeAt l k).fr.toNat,by omega⟩
    obtain⟨c,hc⟩:∃c:Nat,(edgeAt l k).to=c:=⟨(edgeAt l k).to.toNat,by omega⟩
    have han:a<n:=by omega
    have hcn:c<n:=by omega
    unfold exI at c0 ⊢
    rw[ha,hc,Int.toNat_natCast,Int.toNat_natCast]at c0
    rw[ha,hc,Int.toNat_natCast,Int.toNat_natCast,tuv a han,tuv c hcn]
    refine⟨fun hlt=>?_,fun hlt=>?_⟩
    .have e0:=c0.1 hlt
     have hi:=x20c (a:=(a:Nat)) hk (Or.inl ha)
     have e:arcAt l fl (a:Nat) (k:Nat)=⟨k,(edgeAt l k).to,1,(edgeAt l k).wt-at0 fl k,-(edgeAt l k).jump⟩:=by
      unfold arcAt
      simp only[Int.toNat_natCast]
      rw[if_neg (by omega)]
     by_cases hfa:at0 t.len a<farM
     .have:=W.cl a han hfa k ⟨hi,by rw[e];simp only;omega⟩
      rw[e]at this
      simp only[hc,Int.toNat_natCast]at this
      unfold minI;split<;>split<;>omega
     .unfold minI;split<;>split<;>omega
    .have e0:=c0.2 hlt
     have hi:=x20c (a:=(c:Nat)) hk (Or.inr hc)
     have e:arcAt l fl (c:Nat) (k:Nat)=⟨k,(edgeAt l k).fr,-1,(edgeAt l k).wt+at0 fl k,(edgeAt l k).jump⟩:=by
      unfold arcAt
      simp only[Int.toNat_natCast]
      rw[if_pos (by omega)]
     by_cases hfc:at0 t.len c<farM
     .have:=W.cl c hcn hfc k ⟨hi,by rw[e];simp only;omega⟩
      rw[e]at this
      simp only[ha,Int.toNat_natCast]at this
      unfold minI;split<;>split<;>omega
     .unfold minI;split<;>split<;>omega
  .have hN:=x25k (n:=n) (l:=l) (fr:=fr) (t:=t) amt v ps (to:Nat) fl h.fll p1 (fun w hw=>by
    obtain⟨b,j,b1,b2,b3,b4,b5,b6,b7,b8⟩:=arcs w hw
    refine⟨b,j,b3,b5,b6,?_⟩
    rcases b8 with ⟨c1,c2,c3,_⟩|⟨c1,c2,c3,_⟩
    .exact Or.inl ⟨c1,c2,c3⟩
    .exact Or.inr ⟨c1,c2,c3⟩)
   rw[hfl',hN,exv v,Int.toNat_natCast,<-h.net v hv]
   unfold ind
   by_cases e1:v=to
   .have a1:¬fr=v:=fun e=>hne (by omega)
    have a2:to=v:=e1.symm
    rw[if_pos e1,if_pos a2,if_neg a1,e1];omega
   .have a2:¬to=v:=fun e=>e1 e.symm
    by_cases e2:v=fr
    .have a1:fr=v:=e2.symm
     rw[if_neg e1,if_pos e2,if_neg a2,if_pos a1,e2];omega
    .have a1:¬fr=v:=fun e=>e2 e.symm
     rw[if_neg e1,if_neg e2,if_neg a2,if_neg a1];omega
 refine⟨to,ps,amt,?_⟩
 rw[<-ht,<-hD,<-hfl',<-htu',<-hex']
 refine⟨hT0,h2,hne,by rw[hD];exact h4,p1,fun w hw=>?_,by have:=h.nn;omega,hamt,hap,by have:=hexb fr;omega,hfo,⟨P+D,by omega,by omega,fun v hv=>?_,fun v hv hv'=>?_⟩,?_⟩
 .obtain⟨b,j,b1,b2,b3,b4,b5,b6,b7,b8⟩:=arcs w hw
  have hc:=h.cap j b5
  obtain⟨⟨_,_,_,_,_,_,w0,w1⟩,_⟩:=x1tw h.ed b5
  rw[b6]
  refine⟨by omega,by omega,?_,by omega,?_⟩
  .rcases b8 with ⟨_,_,c,_⟩|⟨_,_,c,_⟩
   .exact Or.inr c
   .exact Or.inl c
  .rcases b8 with ⟨_,_,_,c,_⟩|⟨_,_,_,c,_⟩<;>omega
 .rw[tuv v hv]
  have h6:=hT.b v hv
  have h7:=W.nn v hv
  have h8:=x209 (x:=at0 t.len v) (b:=D)
  have h9:0<=minI (at0 t.len v) D:=minI_ge h7 hD0
  omega
 .rw[tuv v hv]
  have hv0:at0 ex v<0:=by
   rw[exv v]at hv'
   by_cases e1:v=to
   .rw[e1];exact h3
   .rw[if_neg e1]at hv'
    by_cases e2:v=fr
    .rw[if_pos e2]at hv';omega
    .rw[if_neg e2]at hv';exact hv'
  rw[hT.m v hv hv0]
  have:=h5 v hv hv0
  unfold minI
  split<;>omega
 .unfold posS
  have e:∀v,(if 0<at0 ex v then at0 ex v else 0)=(if 0<at0 ex' v then at0 ex' v else 0)+(if fr=v then(fun _=>1) v*amt else 0):=by
   intro v
   rw[exv v]
   by_cases e1:v=to
   .have a1:¬fr=v:=fun e=>hne (by omega)
    have a3:at0 ex v=at0 ex to:=by rw[e1]
    rw[if_pos e1,if_neg a1,if_neg (by omega),if_neg (by omega)];rfl
   .rw[if_neg e1]
    by_cases e2:v=fr
    .have a1:fr=v:=e2.symm
     have a3:at0 ex v=at0 ex fr:=by rw[e2]
     rw[if_pos e2,if_pos a1,if_pos (by omega)]
     simp only[Int.one_mul]
     split<;>omega
    .have a1:¬fr=v:=fun e=>e2 e.symm
     rw[if_neg e2,if_neg a1];omega
  rw[x22g (fun v _=>e v),x1z8,x1z9 hfr]
  omega
end Go.Ix
