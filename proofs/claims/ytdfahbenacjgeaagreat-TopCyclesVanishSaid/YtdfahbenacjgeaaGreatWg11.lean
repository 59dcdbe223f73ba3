import Derived.Test.YtdfahbenacjgeaaGreatWg10
set_option linter.unusedSimpArgs false
set_option linter.unusedVariables false
namespace Go.Ix
structure Slim (J:Int) (n:Nat) (l:List Edge):Prop where
 j0:0<=J
 j1:J<=20
 nn:n<=12
 ll:l.length<=17
 ed:∀e∈l,EdgeIn n e/\e.fr≠e.to
 jw:∀e∈l,-J<=e.jump/\e.jump<=J/\e.wt<=20
structure TurnB (n:Nat) (tu ex:List Int) (P:Int):Prop where
 b:∀v,v<n->0<=at0 tu v/\at0 tu v<=P
 m:∀v,v<n->at0 ex v<0->at0 tu v=P
theorem way_len{n:Nat}{l:List Edge}{fl tu ex:List Int}(h:FlowOK n l fl tu ex){fr:Nat}{t:Tour}{rk:Nat->Nat}(W:WaysOK n l fl tu fr t rk){J:Int}(hJ:∀e∈l,-J<=e.jump/\e.jump<=J):∀(ps:List Nat) (v:Nat),PathI n t.bef fr (v:Nat) ps->v<n->at0 t.len v<farM ->
 at0 t.len v<=J*ps.length+at0 tu fr-at0 tu v
 |[],v,hp,hv,hl=>by
  have hp:(v:Int)=(fr:Nat):=hp
  have:v=fr:=by omega
  subst this
  rw[W.z];simp
 |w::ps,v,hp,hv,hl=>by
  obtain⟨h1,h2,h3,h4⟩:=hp
  have:v=w:=by omega
  subst this
  obtain⟨b,k,b1,⟨b2,b2'⟩,b3,b4,b5,b6,b7,b8⟩:=x12u h W hv (by omega) hl
  rw[b3]at h4
  have ih:=way_len h W hJ ps b h4 b1 b2
  have hj:=hJ (edgeAt l k) (by rw[xwc b5];exact x1go b5)
  have e:J*((v::ps).length:Int)=J*(ps.length:Int)+J:=by rw[x1gq,Int.natCast_succ,Int.mul_add];omega
  rw[e]
  rcases b8 with ⟨_,_,_,_,b8⟩|⟨_,_,_,_,b8⟩<;>omega
theorem fin_len{n:Nat}{l:List Edge}{fl tu ex:List Int}(h:FlowOK n l fl tu ex){fr:Nat}{t:Tour}{rk:Nat->Nat}(W:WaysOK n l fl tu fr t rk){J P:Int}(hS:Slim J n l)(hT:∀v,v<n->0<=at0 tu v/\at0 tu v<=P)(hfr:fr<n){v:Nat}(hv:v<n)(hl:at0 t.len v<farM) :
 ∃ps,PathI n t.bef fr (v:Nat) ps/\(∀w∈ps,w<n/\w≠fr/\at0 t.len w<=at0 t.len v/\rk w<=rk v)/\ps.Nodup/\ps.length<=n/\at0 t.len v<=J*12+at0 tu fr-at0 tu v:=by
 obtain⟨ps,p1,p2,p3⟩:=path_ok h W (rk v+1) v hv (by omega) hl
 have hn:=nodup_len p3 (λw hw=>(p2 w hw).1)
 refine⟨ps,p1,p2,p3,hn,?_⟩
 have h1:=way_len h W (λe he=>⟨(hS.jw e he).1,(hS.jw e he).2.1⟩) ps v p1 hv hl
 have h2:J*(ps.length:Int)<=J*12:=x1lk (by have:=hS.nn;omega) hS.j0
 omega
theorem to_ok{n:Nat}{l:List Edge}{fl tu ex:List Int}(h:FlowOK n l fl tu ex){fr:Nat}{t:Tour}{rk:Nat->Nat}(W:WaysOK n l fl tu fr t rk){J P:Int}(hS:Slim J n l)(hT:∀v,v<n->0<=at0 tu v/\at0 tu v<=P)(hP:P<=1000000)(hfr:fr<n)(hex:0<at0 ex fr) :
 ∃v,v<n/\at0 ex v<0/\at0 t.len v<farM:=by
 have hj0:=hS.j0
 have hj1:=hS.j1
 apply Classical.byContradiction
 intro hno
 have hall:∀v,v<n->at0 t.len v<farM->0<=at0 ex v:=λv hv hl=>by
  apply Classical.byContradiction
  intro hx
  exact hno ⟨v,hv,by omega,hl⟩
 obtain⟨S,hSd⟩:∃S:Nat->Bool,S=λv=>decide (v<n/\at0 t.len v<farM):=⟨_,rfl⟩
 have hSi:∀v,S v=true↔v<n/\at0 t.len v<farM:=λv=>by rw[hSd];simp
 have hcut:=(cut_sum n S (l.zip fl) (x12v h.ed h.fll) h.capz (by
  intro u v c ha hu
  rw[hSi]at hu ⊢
  obtain⟨hu1,hu2⟩:=hu
  obtain⟨-,hv⟩:=ha.lt (x12v h.ed h.fll)
  obtain⟨i,h1,h2,h3⟩:=arc_out h.ed h.fll ha
  have h4:=W.cl u hu1 hu2 i h1
  obtain⟨ps,-,-,-,-,h5⟩:=fin_len h W hS hT hfr hu1 hu2
  have h6:=hT fr hfr
  have h7:=hT u hu1
  have h8:=hT v hv
  rw[h2,x1gb]at h4
  have h9:(arcAt l fl u i).cost<=1000:=by
   obtain⟨k,hk,rfl,hc⟩:=x12s h.ed fl h1.1
   obtain⟨⟨_,_,_,_,j0,j1,_⟩,_⟩:=xx8 h.ed hk
   rcases hc with ⟨_,_,c⟩|⟨_,_,c⟩<;>rw[c]<;>simp only<;>omega
  refine⟨hv,?_⟩
  have:(100000000:Int)<farM:=by decide
  omega)).1
 have hpos:sumN n (λ_=>0)<sumN n (λv=>(if S v then 1 else 0)*netF v (l.zip fl)):=by
  refine sumN_lt (j:=fr) (λv hv=>?_) hfr ?_
  .split
   .rename_i c
    have:=hall v hv ((hSi v).mp c).2
    rw[h.net v hv]at this
    omega
   .omega
  .rw[x1g7 ((hSi fr).mpr ⟨hfr,by rw[W.z];decide⟩),<-h.net fr hfr]
   omega
 rw[x10a (λ_ _=>rfl)]at hpos
 omega
def posS(n:Nat)(ex:List Int):Int:=sumN n (λv=>if 0<at0 ex v then at0 ex v else 0)
theorem x11c(n:Nat)(ex:List Int):0<=posS n ex:=x1cm λk _=>by split<;>omega
structure PushOK (J:Int) (n:Nat) (l:List Edge) (fl tu ex:List Int) (P:Int) (fr:Nat):Prop where
 ex:∃(to:Nat) (ps:List Nat) (amt:Int),(to:Int)=nearM (waysF n l fl tu fr).len ex (-1) 0 (waysF n l fl tu fr).len/\to<n/\to≠fr/\at0 (waysF n l fl tu fr).len to<farM /\
  PathI n (waysF n l fl tu fr).bef fr (to:Nat) ps/\ArcsIn l.length (waysF n l fl tu fr) ps/\ps.length<=1000/\amt=amtM (waysF n l fl tu fr) ps (minI (at0 ex fr) (-(at0 ex to)))/\0<amt/\amt<=1000000 /\
  FlowOK n l (flowP (waysF n l fl tu fr) amt ps fl) (turnsP tu (waysF n l fl tu fr).len (at0 (waysF n l fl tu fr).len to) n) ((ex.set fr (at0 ex fr-amt)).set to (at0 ex to+amt)) /\
  (∃P',P<=P'/\P'<=P+J*12/\TurnB n (turnsP tu (waysF n l fl tu fr).len (at0 (waysF n l fl tu fr).len to) n) ((ex.set fr (at0 ex fr-amt)).set to (at0 ex to+amt)) P') /\
  posS n ((ex.set fr (at0 ex fr-amt)).set to (at0 ex to+amt))+amt=posS n ex
theorem x1cp{tu len:List Int}{b:Int}{n k:Nat}(h:k<n):at0 (turnsP tu len b n) k=at0 tu k+minI (at0 len k) b:=by
 rw[xt5 (by rw[xz9];exact h),x194 h]
theorem push_ok{J:Int}{n:Nat}{l:List Edge}{fl tu ex:List Int}{P:Int}{fr:Nat}(h:FlowOK n l fl tu ex)(hS:Slim J n l)(hT:TurnB n tu ex P)(hP:P<=900000)(hfr:fr<n)(hex:0<at0 ex fr)(hexb:∀v,at0 ex v<=1000000):PushOK J n l fl tu ex P fr:=by
 obtain⟨t,ht⟩:∃t,t=waysF n l fl tu fr:=⟨_,rfl⟩
 obtain⟨rk,W⟩:=ways_ok h.red hfr h.nn
 rw[<-ht]at W
 have hj0:=hS.j0
 have hj1:=hS.j1
 have hns:=x190 (len:=t.len) (ex:=ex) t.len 0 (-1) rfl (x1jl _) (Or.inl ⟨rfl,λi hi=>by omega⟩)
 rw[show((0:Nat):Int)=0 from rfl]at hns
 obtain⟨T,hT0⟩:∃T,T=nearM t.len ex (-1) 0 t.len:=⟨_,rfl⟩
 rw[<-hT0]at hns
 rcases hns with ⟨h1,h2⟩|⟨h1,h2,h3,h4,h5⟩
 .exfalso
  obtain⟨v,v1,v2,v3⟩:=to_ok h W hS hT.b (by omega) hfr hex
  have:=h2 v (by rw[W.ll];exact v1) v2
  omega
 obtain⟨to,rfl⟩:∃to:Nat,T=to:=⟨T.toNat,by omega⟩
 rw[x1gb]at h2 h3 h4 h5
 rw[W.ll]at h2 h5
 have hne:to≠fr:=by rintro rfl;omega
 obtain⟨ps,p1,p2,p3,p4,p5⟩:=fin_len h W hS hT.b hfr h2 h4
 obtain⟨D,hD⟩:∃D,D=at0 t.len to:=⟨_,rfl⟩
 have hD0:0<=D:=by rw[hD];exact W.nn to h2
 have hDP:D<=J*12:=by have:=hT.m to h2 h3;have:=(hT.b fr hfr).2;omega
 have arcs:∀w∈ps,∃b k:Nat,b<n/\(at0 t.len b<farM/\at0 t.len b<=at0 t.len w)/\at0 t.bef w=(b:Nat)/\rk b<rk w/\k<l.length/\(lastAt t w).edge=(k:Nat)/\0<(lastAt t w).room /\
  (((edgeAt l k).to=(b:Nat)/\(edgeAt l k).fr=(w:Nat)/\(lastAt t w).sign=-1/\(lastAt t w).room=(edgeAt l k).wt+at0 fl k/\at0 t.len w=at0 t.len b+(edgeAt l k).jump+at0 tu b-at0 tu w) \/
   ((edgeAt l k).fr=(b:Nat)/\(edgeAt l k).to=(w:Nat)/\(lastAt t w).sign=1/\(lastAt t w).room=(edgeAt l k).wt-at0 fl k/\at0 t.len w=at0 t.len b-(edgeAt l k).jump+at0 tu b-at0 tu w)):=by
  intro w hw
  obtain⟨q1,q2,q3,q4⟩:=p2 w hw
  exact x12u h W q1 q2 (by omega)
 obtain⟨amt,hamt⟩:∃amt,amt=amtM t ps (minI (at0 ex fr) (-(at0 ex to))):=⟨_,rfl⟩
 have hmf:minI (at0 ex fr) (-(at0 ex to))<=at0 ex fr:=by unfold minI;split<;>omega
 have hmt:minI (at0 ex fr) (-(at0 ex to))<=-(at0 ex to):=x12p
 have hmp:0<minI (at0 ex fr) (-(at0 ex to)):=by unfold minI;split<;>omega
 obtain⟨al1,al2⟩:=amt_le t ps (minI (at0 ex fr) (-(at0 ex to)))
 rw[<-hamt]at al1 al2
 have hap:0<amt:=by
  rw[hamt]
  refine amt_pos t ps _ hmp (λw hw=>?_)
  obtain⟨b,k,b1,b2,b3,b4,b5,b6,b7,b8⟩:=arcs w hw
  exact b7
 have hEl:∀w∈ps,(lastAt t w).edge.toNat<fl.length:=λw hw=>by
  obtain⟨b,k,b1,b2,b3,b4,b5,b6,b7,b8⟩:=arcs w hw
  rw[b6,x1gb,h.fll];exact b5
 have hPw:ps.Pairwise (λv w=>(lastAt t v).edge.toNat≠(lastAt t w).edge.toNat):=by
  refine List.Pairwise.imp_of_mem (R:=λa b=>a≠b) ?_ p3
  intro v w hv hw hvw
  obtain⟨q1,q2,q3,q4⟩:=p2 v hv
  obtain⟨r1,r2,r3,r4⟩:=p2 w hw
  have:=x1co h W q1 q2 (by omega) r1 r2 (by omega) hvw
  obtain⟨_,k,_,_,_,_,_,b6,_⟩:=arcs v hv
  obtain⟨_,j,_,_,_,_,_,c6,_⟩:=arcs w hw
  rw[b6,c6]at this ⊢
  omega
 obtain⟨fl',hfl'⟩:∃fl',fl'=flowP t amt ps fl:=⟨_,rfl⟩
 obtain⟨tu',htu'⟩:∃tu',tu'=turnsP tu t.len D n:=⟨_,rfl⟩
 obtain⟨ex',hex'⟩:∃ex',ex'=(ex.set fr (at0 ex fr-amt)).set to (at0 ex to+amt):=⟨_,rfl⟩
 have lfr:fr<ex.length:=by rw[h.exl];exact hfr
 have lto:to<(ex.set fr (at0 ex fr-amt)).length:=by simp[h.exl,h2]
 have exv:∀v,at0 ex' v=if v=to then at0 ex to+amt else if v=fr then at0 ex fr-amt else at0 ex v:=λv=>by rw[hex',xue lto,xue lfr]
 have tuv:∀v,v<n->at0 tu' v=at0 tu v+minI (at0 t.len v) D:=λv hv=>by rw[htu',x1cp hv]
 have flg:=λk=>x19d t amt ps fl hEl hPw k
 rw[<-hfl']at flg
 have kcase:∀k,(∃w∈ps,(lastAt t w).edge.toNat=k)\/∀w∈ps,(lastAt t w).edge.toNat≠k:=λk=>by
  by_cases c:∃w∈ps,(lastAt t w).edge.toNat=k
  .exact Or.inl c
  .exact Or.inr λw hw e=>c ⟨w,hw,e⟩
 have hfo:FlowOK n l fl' tu' ex':=by
  refine⟨h.nn,h.ll,h.ed,by rw[hfl',x19c];exact h.fll,by rw[htu'];exact xz9 _ _ _ _,by rw[hex'];simp[h.exl],λk hk=>?_,λk hk=>?_,λv hv=>?_⟩
  .have hc:=h.cap k hk
   rcases kcase k with ⟨w,hw,hwk⟩|hno
   .rw[(flg k).1 w hw hwk]
    have hr:=al2 w hw
    obtain⟨b,j,b1,b2,b3,b4,b5,b6,b7,b8⟩:=arcs w hw
    have:j=k:=by rw[b6]at hwk;omega
    subst this
    rcases b8 with ⟨_,_,c3,c4,_⟩|⟨_,_,c3,c4,_⟩<;>rw[c3]<;>omega
   .rw[(flg k).2 hno];exact hc
  .obtain⟨⟨f0,f1,t0,t1,-⟩,hfe⟩:=xx8 h.ed hk
   have c0:=h.cs k hk
   rcases kcase k with ⟨w,hw,hwk⟩|hno
   .obtain⟨b,j,b1,⟨b2,b2'⟩,b3,b4,b5,b6,b7,b8⟩:=arcs w hw
    have:j=k:=by rw[b6]at hwk;omega
    subst this
    obtain⟨q1,q2,q3,q4⟩:=p2 w hw
    have hb:at0 tu' b=at0 tu b+at0 t.len b:=by rw[tuv b b1];unfold minI;rw[x1g6 (by omega)]
    have hw':at0 tu' w=at0 tu w+at0 t.len w:=by rw[tuv w q1];unfold minI;rw[x1g6 (by omega)]
    have hz:exI tu' (edgeAt l j)=0:=by
     unfold exI
     rcases b8 with ⟨c1,c2,_,_,c5⟩|⟨c1,c2,_,_,c5⟩
     .rw[c1,c2,x1gb,x1gb,hb,hw'];omega
     .rw[c1,c2,x1gb,x1gb,hb,hw'];omega
    rw[hz]
    exact⟨λ_=>x1ho _,λ_=>x1ho _⟩
   .rw[(flg k).2 hno]
    obtain⟨a,ha⟩:∃a:Nat,(edgeAt l k).fr=a:=⟨(edgeAt l k).fr.toNat,by omega⟩
    obtain⟨c,hc⟩:∃c:Nat,(edgeAt l k).to=c:=⟨(edgeAt l k).to.toNat,by omega⟩
    have han:a<n:=by omega
    have hcn:c<n:=by omega
    unfold exI at c0 ⊢
    rw[ha,hc,x1gb,x1gb]at c0
    rw[ha,hc,x1gb,x1gb,tuv a han,tuv c hcn]
    refine⟨λhlt=>?_,λhlt=>?_⟩
    .have e0:=c0.1 hlt
     have hi:=x12t (a:=(a:Nat)) hk (Or.inl ha)
     have e:arcAt l fl (a:Nat) (k:Nat)=⟨k,(edgeAt l k).to,1,(edgeAt l k).wt-at0 fl k,-(edgeAt l k).jump⟩:=by
      unfold arcAt
      simp only[x1gb]
      rw[x1g6 (by omega)]
     by_cases hfa:at0 t.len a<farM
     .have:=W.cl a han hfa k ⟨hi,by rw[e];simp only;omega⟩
      rw[e]at this
      simp only[hc,x1gb]at this
      unfold minI;split<;>split<;>omega
     .unfold minI;split<;>split<;>omega
    .have e0:=c0.2 hlt
     have hi:=x12t (a:=(c:Nat)) hk (Or.inr hc)
     have e:arcAt l fl (c:Nat) (k:Nat)=⟨k,(edgeAt l k).fr,-1,(edgeAt l k).wt+at0 fl k,(edgeAt l k).jump⟩:=by
      unfold arcAt
      simp only[x1gb]
      rw[x1g7 (by omega)]
     by_cases hfc:at0 t.len c<farM
     .have:=W.cl c hcn hfc k ⟨hi,by rw[e];simp only;omega⟩
      rw[e]at this
      simp only[ha,x1gb]at this
      unfold minI;split<;>split<;>omega
     .unfold minI;split<;>split<;>omega
  .have hN:=x19f (n:=n) (l:=l) (fr:=fr) (t:=t) amt v ps (to:Nat) fl h.fll p1 (λw hw=>by
    obtain⟨b,j,b1,b2,b3,b4,b5,b6,b7,b8⟩:=arcs w hw
    refine⟨b,j,b3,b5,b6,?_⟩
    rcases b8 with ⟨c1,c2,c3,_⟩|⟨c1,c2,c3,_⟩
    .exact Or.inl ⟨c1,c2,c3⟩
    .exact Or.inr ⟨c1,c2,c3⟩)
   rw[hfl',hN,exv v,x1gb,<-h.net v hv]
   unfold ind
   by_cases e1:v=to
   .have a1:¬fr=v:=λe=>hne (by omega)
    have a2:to=v:=e1.symm
    rw[x1g7 e1,x1g7 a2,x1g6 a1,e1];omega
   .have a2:¬to=v:=λe=>e1 e.symm
    by_cases e2:v=fr
    .have a1:fr=v:=e2.symm
     rw[x1g6 e1,x1g7 e2,x1g6 a2,x1g7 a1,e2];omega
    .have a1:¬fr=v:=λe=>e2 e.symm
     rw[x1g6 e1,x1g6 e2,x1g6 a2,x1g6 a1];omega
 refine⟨to,ps,amt,?_⟩
 rw[<-ht,<-hD,<-hfl',<-htu',<-hex']
 refine⟨hT0,h2,hne,by rw[hD];exact h4,p1,λw hw=>?_,by have:=h.nn;omega,hamt,hap,by have:=hexb fr;omega,hfo,⟨P+D,by omega,by omega,λv hv=>?_,λv hv hv'=>?_⟩,?_⟩
 .obtain⟨b,j,b1,b2,b3,b4,b5,b6,b7,b8⟩:=arcs w hw
  have hc:=h.cap j b5
  obtain⟨⟨_,_,_,_,_,_,w0,w1⟩,_⟩:=xx8 h.ed b5
  rw[b6]
  refine⟨by omega,by omega,?_,by omega,?_⟩
  .rcases b8 with ⟨_,_,c,_⟩|⟨_,_,c,_⟩
   .exact Or.inr c
   .exact Or.inl c
  .rcases b8 with ⟨_,_,_,c,_⟩|⟨_,_,_,c,_⟩<;>omega
 .rw[tuv v hv]
  have h6:=hT.b v hv
  have h7:=W.nn v hv
  have h8:=x12p (x:=at0 t.len v) (b:=D)
  have h9:0<=minI (at0 t.len v) D:=minI_ge h7 hD0
  omega
 .rw[tuv v hv]
  have hv0:at0 ex v<0:=by
   rw[exv v]at hv'
   by_cases e1:v=to
   .rw[e1];exact h3
   .rw[x1g6 e1]at hv'
    by_cases e2:v=fr
    .rw[x1g7 e2]at hv';omega
    .rw[x1g6 e2]at hv';exact hv'
  rw[hT.m v hv hv0]
  have:=h5 v hv hv0
  unfold minI
  split<;>omega
 .unfold posS
  have e:∀v,(if 0<at0 ex v then at0 ex v else 0)=(if 0<at0 ex' v then at0 ex' v else 0)+(if fr=v then(λ_=>1) v*amt else 0):=by
   intro v
   rw[exv v]
   by_cases e1:v=to
   .have a1:¬fr=v:=λe=>hne (by omega)
    have a3:at0 ex v=at0 ex to:=by rw[e1]
    rw[x1g7 e1,x1g6 a1,x1g6 (by omega),x1g6 (by omega)];rfl
   .rw[x1g6 e1]
    by_cases e2:v=fr
    .have a1:fr=v:=e2.symm
     have a3:at0 ex v=at0 ex fr:=by rw[e2]
     rw[x1g7 e2,x1g7 a1,x1g7 (by omega)]
     simp only[Int.one_mul]
     split<;>omega
    .have a1:¬fr=v:=λe=>e2 e.symm
     rw[x1g6 e2,x1g6 a1];omega
  rw[x15c (λv _=>e v),x11a,x11b hfr]
  omega
structure Stp where
 fr:Int
 to:Int
 ed:Int
 sg:Int
 gain:Int
 room:Int
def s00:Stp:=⟨0,0,0,0,0,0⟩
def stpAt(S:List Stp)(i:Nat):Stp:=S.getD i s00
theorem x19g{S:List Stp}{i:Nat}(h:i<S.length):stpAt S i=S[i]:=by
 unfold stpAt;rw[x1gk,x1gv h];rfl
structure SOK (J:Int) (n:Nat) (S:List Stp):Prop where
 ok:∀i,i<S.length->(0<=(stpAt S i).fr/\(stpAt S i).fr<n)/\(0<=(stpAt S i).to/\(stpAt S i).to<n)/\(stpAt S i).fr≠(stpAt S i).to/\(-J<=(stpAt S i).gain/\(stpAt S i).gain<=J)
structure BF where
 far:List Int
 by':List Int
 last:Int
def sT(len r i j:Nat):Nat:=if j<i then r*len+j+1 else r*len+j+1-len
structure BFI (J:Int) (n:Nat) (S:List Stp) (r i:Nat) (b:BF) (ta:Nat->Nat):Prop where
 fl:b.far.length=n
 bl:b.by'.length=n
 le:∀v,ta v<=r*S.length+i
 inj:∀u v,ta u=ta v->0<ta u->u=v
 bnd:∀v,0<=at0 b.far v/\at0 b.far v<=J*(r*S.length+i:Nat)
 bb:∀v,0<=at0 b.by' v/\(at0 b.by' v).toNat<=S.length
 arc:∀j,j<S.length->0<sT S.length r i j->at0 b.far (stpAt S j).fr.toNat+(stpAt S j).gain<=at0 b.far (stpAt S j).to.toNat\/sT S.length r i j<ta (stpAt S j).fr.toNat
 pre:∀v,v<n->0<ta v->(at0 b.by' v).toNat<S.length/\(stpAt S (at0 b.by' v).toNat).to=v /\
  at0 b.far v<=at0 b.far (stpAt S (at0 b.by' v).toNat).fr.toNat+(stpAt S (at0 b.by' v).toNat).gain /\
  (ta v<ta (stpAt S (at0 b.by' v).toNat).fr.toNat->at0 b.far v<at0 b.far (stpAt S (at0 b.by' v).toNat).fr.toNat+(stpAt S (at0 b.by' v).toNat).gain) /\
  (S.length<ta v->ta v<ta (stpAt S (at0 b.by' v).toNat).fr.toNat+S.length)
 la:b.last=-1\/∃v,v<n/\b.last=(v:Nat)/\r*S.length<ta v
def prN(S:List Stp)(by':List Int)(v:Nat):Nat:=(stpAt S (at0 by' v).toNat).fr.toNat
def stB(S:List Stp)(by':List Int)(v:Nat):Stp:=stpAt S (at0 by' v).toNat
theorem least_of{P:Nat->Prop}:∀d,P d->∃d,P d/\∀e,e<d->¬P e:=by
 intro d
 induction d using Nat.strongRecOn with
 |_ d ih=>
  intro h
  by_cases c:∃e,e<d/\P e
  .obtain⟨e,h1,h2⟩:=c
   exact ih e h1 h2
  .exact⟨d,h,λe he hp=>c ⟨e,he,hp⟩⟩
def tl(f:Nat->Nat):Nat->Nat->List Nat
 |0,_=>[]
 |k+1,a=>a::tl f k (f a)
theorem BFI.step{J:Int}{n:Nat}{S:List Stp}(hS:SOK J n S){r i:Nat}{b:BF}{ta:Nat->Nat}(h:BFI J n S r i b ta){v:Nat}(hv:v<n)(h0:0<ta v) :
 stB S b.by' v∈S/\(stB S b.by' v).to=v/\(stB S b.by' v).fr=(prN S b.by' v:Nat)/\prN S b.by' v≠v/\at0 b.far v<=at0 b.far (prN S b.by' v)+(stB S b.by' v).gain /\
  (ta v<ta (prN S b.by' v)->at0 b.far v<at0 b.far (prN S b.by' v)+(stB S b.by' v).gain):=by
 obtain⟨p1,p2,p3,p4,p5⟩:=h.pre v hv h0
 have hok:=hS.ok _ p1
 refine⟨?_,p2,?_,?_,p3,p4⟩
 .unfold stB;rw[x19g p1];exact x1go p1
 .unfold stB prN;omega
 .unfold prN;omega
end Go.Ix
