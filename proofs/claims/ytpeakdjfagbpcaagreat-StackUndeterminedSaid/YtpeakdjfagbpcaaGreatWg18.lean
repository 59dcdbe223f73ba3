import Derived.Test.YtpeakdjfagbpcaaGreatWg17
import Derived.Test.YtpeakdjfagbpcaaGreatWg15
import Derived.Test.YtpeakdjfagbpcaaGreatWg14
import Derived.Test.YtpeakdjfagbpcaaGreatWg16
set_option linter.unusedSimpArgs false
set_option linter.unusedVariables false
namespace Go.Ix
open Go.Proofs
structure MMem (n:Nat) (ev:AV) (o:List Int) (m:Mem):Prop where
 a:m.get (0,0,3)=some (.row [I n,ev] 0 false)
 b:m.get (0,4,15)=some (.row (o.flatMap intE) 0 false)
theorem l_opass(d:Nat)(hs:FHs){n u:Nat}{z:List (Edge×Int)}{S:List Stp}{st ev:AV}(hst:Sl Stp.c st S)(hS:SArc n z S)(hSl:S.length<=40)(rec0:AV->AV->AV->AV->Mem->Nat->Option (AV×Mem))(t10:AV) :
 ∀(k i j t:Nat) (o:List Int) (m:Mem) (fc:Nat),i+k=S.length->k<j->OInv n z u t o->t+k<=40000->MMem n ev o m ->
 ∃m' fc',x1q (xr4 d) hs 0 rec0 j (.ptr (0,0,3) 0 0) (srI (0,4,15) n) st t10 (I i) m fc=xbb (xr4 d) hs 0 rec0 (.ptr (0,0,3) 0 0) (srI (0,4,15) n) st t10 m' fc'/\MMem n ev (xwp S k i o) m':=by
 intro k
 induction k with
 |zero=>
  intro i j t o m fc hk hj hO ht hM
  obtain⟨j,rfl⟩:∃i,j=i+1:=⟨j-1,by omega⟩
  have hi:¬((i:Int)<(S.length:Int)):=by omega
  refine⟨m,fc+4,?_,hM⟩
  simp only[x1q]
  unfold x63
  simp[hst.len xy6,hi]
 |succ k ih=>
  intro i j t o m fc hk hj hO ht hM
  obtain⟨j,rfl⟩:∃i,j=i+1:=⟨j-1,by omega⟩
  have hiS:i<S.length:=by omega
  have hi:(i:Int)<(S.length:Int):=by omega
  obtain⟨⟨f0,f1⟩,⟨t0,t1⟩,hne,⟨g0,g1⟩,-⟩:=hS.ok i hiS
  obtain⟨hO',-,-⟩:=x18w hS hO hiS (by omega)
  obtain⟨rest,ix⟩:=hst.ixS (i:=(i:Int)) (by omega) hi
  rw[x1f1]at ix
  have hb1:=hO.ok (stpAt S i).fr.toNat (by omega)
  have hb2:=hO.ok (stpAt S i).to.toNat (by omega)
  have hff:farR=1000000000:=rfl
  have hx:xwp S (k+1) i o=xwp S k (i+1) (xy7 S i o):=rfl
  rw[hx]
  have hrx:xy7 S i o=if at0 o (stpAt S i).fr.toNat<farR/\at0 o (stpAt S i).fr.toNat-(stpAt S i).gain<at0 o (stpAt S i).to.toNat then o.set (stpAt S i).to.toNat (at0 o (stpAt S i).fr.toNat-(stpAt S i).gain)else o:=rfl
  obtain⟨s,hs'⟩:∃s,s=stpAt S i:=⟨_,rfl⟩
  rw[<-hs']at f0 f1 t0 t1 hne g0 g1 ix hb1 hb2 hrx
  have i1:=xs7 (id:=(0,4,15)) (n:=n) f0 (by omega)
  have i2:=xs7 (id:=(0,4,15)) (n:=n) t0 (by omega)
  have hol:=hO.len
  have l1:s.fr.toNat<o.length:=by omega
  have l2:s.to.toNat<o.length:=by omega
  have c1b:-1000000<=at0 o s.fr.toNat/\at0 o s.fr.toNat<=1000000000:=by rcases hb1 with h|⟨h1,h2,-⟩<;>omega
  have hg:=hM.b
  by_cases c1:at0 o s.fr.toNat<1000000000
  .by_cases c2:at0 o s.fr.toNat-s.gain<at0 o s.to.toNat
   .rw[x1ez ⟨by omega,c2⟩]at hrx
    rw[hrx]at hO' ⊢
    obtain⟨m',fc',e1,e2⟩:=ih (i+1) j (t+1) _ (m.set (0,4,15) (.row ((o.set s.to.toNat (at0 o s.fr.toNat-s.gain)).flatMap intE) 0 false)) (fc+52) (by omega) (by omega) hO' (by omega)
     ⟨by rw[Mem.get_set,x1ey (by simp)];exact hM.a,by rw[Mem.get_set,x1ez rfl]⟩
    refine⟨m',fc',?_,e2⟩
    rw[<-e1]
    simp only[x1q]
    unfold x63 x72 x62
    simp(disch:=omega) [hst.len xy6,hi,ix,i1,i2,hg,c1,c2,Mem.get_set]
   .rw[x1ey (λx=>c2 x.2)]at hrx
    rw[hrx]at hO' ⊢
    obtain⟨m',fc',e1,e2⟩:=ih (i+1) j (t+1) o m (fc+43) (by omega) (by omega) hO' (by omega) hM
    refine⟨m',fc',?_,e2⟩
    rw[<-e1]
    simp only[x1q]
    unfold x63 x72 x62
    simp(disch:=omega) [hst.len xy6,hi,ix,i1,i2,hg,c1,c2]
  .rw[x1ey (λx=>c1 (by omega))]at hrx
   rw[hrx]at hO' ⊢
   obtain⟨m',fc',e1,e2⟩:=ih (i+1) j (t+1) o m (fc+43) (by omega) (by omega) hO' (by omega) hM
   refine⟨m',fc',?_,e2⟩
   rw[<-e1]
   simp only[x1q]
   unfold x63 x72 x62
   simp(disch:=omega) [hst.len xy6,hi,ix,i1,i2,hg,c1]
theorem l_orounds(d:Nat)(hs:FHs){n u:Nat}{z:List (Edge×Int)}{S:List Stp}{st ev:AV}(hst:Sl Stp.c st S)(hS:SArc n z S)(hn:n<=12)(hSl:S.length<=40){o:List Int}(hO:OInv n z u 0 o) :
 ∀(k r j:Nat) (m:Mem) (fc:Nat),r+k=n->k<j->MMem n ev (xss S r o) m ->
 ∃m',x1r (xr4 d) hs 0 j (.ptr (0,0,3) 0 0) (srI (0,4,15) n) st (I r) m fc=some (srI (0,4,15) n,m')/\MMem n ev (xss S n o) m':=by
 intro k
 induction k with
 |zero=>
  intro r j m fc hk hj hM
  obtain⟨j,rfl⟩:∃i,j=i+1:=⟨j-1,by omega⟩
  have hi:¬((r:Int)<(n:Int)):=by omega
  obtain rfl:r=n:=by omega
  refine⟨m,?_,hM⟩
  simp only[x1r]
  unfold x73 xio
  simp[hM.a]
 |succ k ih=>
  intro r j m fc hk hj hM
  obtain⟨j,rfl⟩:∃i,j=i+1:=⟨j-1,by omega⟩
  have hi:(r:Int)<(n:Int):=by omega
  have hmul:(r+1)*S.length<=13*40:=x1h1 (by omega) hSl
  rw[x1fx]at hmul
  obtain⟨h1,-⟩:=xy8 hS hO r (by omega)
  obtain⟨m1,fc1,e1,e2⟩:=l_opass d hs (ev:=ev) hst hS hSl (x1r (xr4 d) hs 0 j) (I r) S.length 0 NN (r*S.length) (xss S r o) m (fc+5) (by omega) (by rw[xrg];omega) h1 (by omega) hM
  obtain⟨m2,f1,f2⟩:=ih (r+1) j m1 (fc1+3) (by omega) (by omega) e2
  refine⟨m2,?_,f2⟩
  have hL:∀(t3 t7 t9 t10:AV) (M:Mem) (fc:Nat),x1r (xr4 d) hs 0 (j+1) t3 t7 t9 t10 M fc=x73 (xr4 d) hs 0 (x1r (xr4 d) hs 0 j) t3 t7 t9 t10 M fc:=λ_ _ _ _ _ _=>rfl
  rw[hL]
  unfold x73 xip
  rw[show((0:Nat):Int)=0 from rfl]at e1
  simp only[xs5,xr9,xrh,hM.a,xri,x1f4,xre,x1f0,rd_f,xry,hi,x1ff,xrw,x1f9]
  rw[e1]
  unfold xbb
  simp(disch:=omega)
  simpa using f1
def xvd(n k:Nat):List Int:=List.replicate k farR++List.replicate (n-k) 0
theorem fillM_len{n k:Nat}(h:k<=n):(xvd n k).length=n:=by simp[xvd];omega
theorem x1bz{n k:Nat}(h:k<n):(xvd n k).set k farR=xvd n (k+1):=by
 unfold xvd
 rw[show n-k=(n-(k+1))+1 by omega]
 rw[x1j0 _ _ (by simp),x1ke,x1h3,x1ii,x1ht,List.replicate_succ',x1gy]
 rfl
theorem l_fill(d:Nat)(hs:FHs){n:Nat}{ev t1 t2:AV}(hn:n<=200) :
 ∀(r k j:Nat) (m:Mem) (fc:Nat),k+r=n->r<j->MMem n ev (xvd n k) m ->
 ∃m' fc',x64 (xr4 d) hs 0 j t1 t2 (.ptr (0,0,3) 0 0) (srI (0,4,15) n) (I k) m fc=xbc (xr4 d) hs 0 t1 t2 (.ptr (0,0,3) 0 0) (srI (0,4,15) n) m' fc'/\MMem n ev (List.replicate n farR) m':=by
 intro r
 induction r with
 |zero=>
  intro k j m fc hk hj hM
  obtain⟨j,rfl⟩:∃i,j=i+1:=⟨j-1,by omega⟩
  obtain rfl:k=n:=by omega
  have e:xvd k k=List.replicate k farR:=by simp[xvd]
  rw[e]at hM
  refine⟨m,fc+4,?_,hM⟩
  simp only[x64]
  unfold xbd
  simp[hM.a]
 |succ r ih=>
  intro k j m fc hk hj hM
  obtain⟨j,rfl⟩:∃i,j=i+1:=⟨j-1,by omega⟩
  have hi:(k:Int)<(n:Int):=by omega
  have l1:k<(xvd n k).length:=by rw[fillM_len (by omega)];omega
  have i1:sIx 1 (srI (0,4,15) n) (I k)=some (.ptr (0,4,15) 0 k):=by simpa using xs7 (id:=(0,4,15)) (n:=n) (k:=(k:Int)) (by omega) (by omega)
  obtain⟨m',fc',e1,e2⟩:=ih (k+1) j (m.set (0,4,15) (.row ((xvd n (k+1)).flatMap intE) 0 false)) (fc+11) (by omega) (by omega) ⟨by rw[Mem.get_set,x1ey (by simp)];exact hM.a,by rw[Mem.get_set,x1ez rfl]⟩
  refine⟨m',fc',?_,e2⟩
  rw[<-e1,<-x1bz (by omega)]
  simp only[x64]
  unfold xbd
  have hfs:=xtm (v:=farR) l1
  simp only[show farR=1000000000 from rfl]at hfs ⊢
  simp(disch:=omega) [hM.a,hM.b,hi,i1,hfs]
theorem w_rMost(d:Nat){J:Int}{n:Nat}{ev fa:AV}{l:List Edge}{fr:List Int}(h:Sl Edge.c ev l)(hSl:Slim J n l)(hf:Ints fa fr)(hB:BestF n l fr){a:Nat}(ha:a<n)(m:Mem) :
 xr8 (xr4 (d+2)) x2t [.agg [I n,ev],fa,I a] m=some (.slit ((xss (xrz l fr) n (xst n a)).flatMap intE) n false,m):=by
 obtain⟨S,hS'⟩:∃S,S=xrz l fr:=⟨_,rfl⟩
 have hA:=x14o hSl hB.len
 have hnn:=hSl.nn
 have hll:=hSl.ll
 have hSlen:S.length<=40:=by
  have:=xyz l fr l.length
  rw[hS']
  unfold xrz
  omega
 have hfb:=λk=>hB.bound hSl k
 have hI:=(x11w ha (l.zip fr)).1
 obtain⟨m1,hm1⟩:∃m1:Mem,m1=((⟨[],1⟩:Mem).new (0,0,3) (.row [I n,ev] 0 false)).new (0,4,15) (.row ((List.replicate n (0:Int)).flatMap intE) 0 false):=⟨_,rfl⟩
 have hM1:MMem n ev (xvd n 0) m1:=⟨by rw[hm1,Mem.get_new,x1ey (by simp)];simp,by rw[hm1];simp[xvd]⟩
 obtain⟨m2,fc2,e1,hM2⟩:=l_fill (d+1) [] (ev:=ev) (t1:=fa) (t2:=I (a:Int)) (by omega) n 0 NN m1 7 (by omega) (by rw[xrg];omega) hM1
 obtain⟨m3,hm3⟩:∃m3:Mem,m3=m2.set (0,4,15) (.row ((xst n a).flatMap intE) 0 false):=⟨_,rfl⟩
 have hM3:MMem n ev (xst n a) m3:=⟨by rw[hm3,Mem.get_set,x1ey (by simp)];exact hM2.a,by rw[hm3,Mem.get_set,x1ez rfl]⟩
 obtain⟨st,hst,hsteps⟩:=w_steps d (n:=n) h hf (by omega) hB.len (λk hk=>(xun hSl.ed hk).1) (λk=>by have:=hfb k;omega) m3
 rw[<-hS']at hst hA
 obtain⟨m4,e2,hM4⟩:=l_orounds (d+1) [] (ev:=ev) hst hA hnn hSlen hI n 0 NN m3 (fc2+9) (by omega) (by rw[xrg];omega) hM3
 have hlen:(xss S n (xst n a)).length=n:=(xy8 hA hI n (by have:=x1h1 hnn hSlen;omega)).1.len
 have zr:=x11r hM4.b 4
 rw[hlen]at zr
 rw[<-hS']
 refine xw0 (m':=m4) (r:=srI (0,4,15) n) (by simp[h.still1,hf.still]) ?_ zr
 rw[xmv]
 unfold xez xbe xir
 have e0:(0:Int)<=(n:Int):=by omega
 have e00:(n:Int)<=1000000:=by omega
 simp[mem0,h.one,xso,xxy e0 e00]
 rw[<-hm1]
 rw[show((0:Nat):Int)=0 from rfl]at e1 e2
 rw[e1]
 unfold xbc xiq
 have i1:sIx 1 (srI (0,4,15) n) (I a)=some (.ptr (0,4,15) 0 a):=by simpa using xs7 (id:=(0,4,15)) (n:=n) (k:=(a:Int)) (by omega) (by omega)
 have l1:a<(List.replicate n farR).length:=by simpa using ha
 have hini:(List.replicate n farR).set a 0=xst n a:=rfl
 simp only[i1,xr9,xs9,hM2.b,xtm l1,hini]
 rw[<-hm3]
 simp[hM3.a,h.one,hsteps]
 exact e2
def dR(n:Nat)(l:List Edge)(fr:List Int)(a b:Nat):Int:=at0 (xss (xrz l fr) n (xst n a)) b
theorem x1c0(d:Nat){J:Int}{n:Nat}{ev fa:AV}{l:List Edge}{fr:List Int}(h:Sl Edge.c ev l)(hSl:Slim J n l)(hf:Ints fa fr)(hB:BestF n l fr){a b:Nat}(ha:a<n)(hb:b<n)(hlen:∀a,a<n->(xss (xrz l fr) n (xst n a)).length=n)(hbd:∀a b,a<n->b<n->-1000000<=dR n l fr a b/\dR n l fr a b<=1000000000)(m:Mem) :
 xr8 (xr4 (d+3)) x4i [.agg [I n,ev],fa,I a,I b] m =
  some (.tup (bif decide (dR n l fr a b=1000000000)||decide (dR n l fr b a=1000000000)then[.agg [I 0,I 0],B false]else[.agg [I (-(dR n l fr b a)),I (dR n l fr a b)],B true]),m):=by
 obtain⟨m1,hm1⟩:∃m1:Mem,m1=((⟨[],1⟩:Mem).new (0,0,4) (.row [I n,ev] 0 false)).new (0,1,8) (.row [I 0,I 0] 0 false):=⟨_,rfl⟩
 have g4:m1.get (0,0,4)=some (.row [I n,ev] 0 false):=by rw[hm1,Mem.get_new,x1ey (by simp)];simp
 have g8:m1.get (0,1,8)=some (.row [I 0,I 0] 0 false):=by rw[hm1];simp
 have n1:m1.next=1:=by rw[hm1];rfl
 have c1:=w_rMost d h hSl hf hB ha m1
 have c2:=w_rMost d h hSl hf hB hb m1
 have A1:Ints (.slit ((xss (xrz l fr) n (xst n a)).flatMap intE) n false) (xss (xrz l fr) n (xst n a)):=by
  have:=Sl.lit (xss (xrz l fr) n (xst n a)) false (enc:=intE);rwa[hlen a ha]at this
 have A2:Ints (.slit ((xss (xrz l fr) n (xst n b)).flatMap intE) n false) (xss (xrz l fr) n (xst n b)):=by
  have:=Sl.lit (xss (xrz l fr) n (xst n b)) false (enc:=intE);rwa[hlen b hb]at this
 have i1:=A1.ix xrm (k:=b) (by rw[hlen a ha];exact hb)
 have i2:=A2.ix xrm (k:=a) (by rw[hlen b hb];exact ha)
 have l1:b<(xss (xrz l fr) n (xst n a)).length:=by rw[hlen a ha];exact hb
 have l2:a<(xss (xrz l fr) n (xst n b)).length:=by rw[hlen b hb];exact ha
 have d1:=λm=>xs2 (m:=m) l1
 have d2:=λm=>xs2 (m:=m) l2
 obtain⟨x,hx⟩:∃x,x=dR n l fr a b:=⟨_,rfl⟩
 obtain⟨y,hy⟩:∃y,y=dR n l fr b a:=⟨_,rfl⟩
 have hx':at0 (xss (xrz l fr) n (xst n a)) b=x:=hx.symm
 have hy':at0 (xss (xrz l fr) n (xst n b)) a=y:=hy.symm
 have hbx:=hbd a b ha hb
 have hby:=hbd b a hb ha
 rw[<-hx]at hbx ⊢
 rw[<-hy]at hby ⊢
 have hcl:=h.clean1
 refine Ans.call0_tup (r:=bif decide (x=1000000000)||decide (y=1000000000)then[.agg [I 0,I 0],B false]else[.agg [I (-y),I x],B true]) ?_ (by simp[h.still1,hf.still]) (by cases(decide (x=1000000000)||decide (y=1000000000))<;>rfl)
 unfold Ans
 rw[xm7]
 unfold xed xa1
 have hb0:xrr [I 0,I 0] []=some (.agg [I 0,I 0]):=rfl
 have hb2:∀p q:Int,xrr [I 0,I 0] [(0,1,I p),(1,1,I q)]=some (.agg [I p,I q]):=λp q=>by simp[xrr,xsd]
 simp[mem0,h.one,z_range]
 rw[<-hm1]
 simp[c1,i1,d1,hx',g4,h.one,c2,i2,d2,hy']
 by_cases e1:x=1000000000
 .simp[e1,hb0,g8,Mem.get_set,sLdP,mkM_0,hcl,hf.clean,n1,cAp,tR,Nat.blt]
 .by_cases e2:y=1000000000
  .simp[e1,e2,hb0,g8,Mem.get_set,sLdP,mkM_0,hcl,hf.clean,n1,cAp,tR,Nat.blt]
  .simp(disch:=omega) [e1,e2,hb2,g8,Mem.get_set,sLdP,mkM_0,hcl,hf.clean,n1,cAp,tR,Nat.blt]
def fixP(M:Nat->Nat->Int)(a b:Nat):Bool:=decide (M a b<farM)&&(decide (M b a<farM)&&decide (M a b+M b a=0))
def nbP(n:Nat)(M:Nat->Nat->Int)(a:Nat):List Int:=((List.range n).filter (fixP M a)).map Int.ofNat
theorem nbP_in{n:Nat}{M:Nat->Nat->Int}{a:Nat}{b:Int}(h:b∈nbP n M a):0<=b/\b<n:=by
 unfold nbP at h
 obtain⟨k,hk,rfl⟩:=x1fj.mp h
 have:=x1fn.mp (x1fr.mp hk).1
 simp only[x1j8]
 omega
def ClassC(n u:Nat)(ev:AV)(M:Nat->List Int)(m:Mem):Prop:=
 m.get (0,0,1)=some (.row [I n,ev] 0 false)/\∃A,m.get (0,5,4)=some (.row [A] 0 false)/\(n=0\/∃id ver cs,id.1=0/\A=.sref id ver 0 n 1 true/\m.get id=some (.row cs ver false)/\cs.length=n /\
  ∀(v:Nat) (hv:v<cs.length),∃i:Id,i.1<u/\cs[v]=srI i n/\m.get i=some (.row ((M v).flatMap intE) 0 false))
theorem ClassC.frame{n u:Nat}{ev:AV}{M:Nat->List Int}{m m':Mem}(hu:0<u)(h:ClassC n u ev M m)(hm:∀id:Id,id.1<u->m'.get id=m.get id):ClassC n u ev M m':=by
 obtain⟨h1,A,h2,h3⟩:=h
 refine⟨by rw[hm _ hu];exact h1,A,by rw[hm _ hu];exact h2,?_⟩
 rcases h3 with h3|⟨id,ver,cs,a,b,c,d,e⟩
 .exact Or.inl h3
 .refine Or.inr ⟨id,ver,cs,a,b,by rw[hm _ (by omega)];exact c,d,λv hv=>?_⟩
  obtain⟨i,i1,i2,i3⟩:=e v hv
  exact⟨i,i1,i2,by rw[hm _ i1];exact i3⟩
theorem ClassC.rd{n u:Nat}{ev:AV}{M:Nat->List Int}{m:Mem}(h:ClassC n u ev M m)(hMl:∀v,v<n->(M v).length=n)(hn:0<n):∃A,m.get (0,5,4)=some (.row [A] 0 false)/\∀a,a<n->∃p x,
 sIx 1 A (I (a:Nat))=some p/\sLd false 1 p m=some x/\∀b,b<n->∃q,sIx 1 x (I (b:Nat))=some q/\sLd false 1 q m=some (I (at0 (M a) b)):=by
 obtain⟨-,A,h2,h3⟩:=h
 rcases h3 with h3|⟨id,ver,cs,ha0,rfl,c,d,e⟩
 .omega
 refine⟨_,h2,λa ha=>?_⟩
 obtain⟨i,i1,i2,i3⟩:=e a (by omega)
 refine⟨.ptr id ver a,cs[a]'(by omega),?_,?_,λb hb=>?_⟩
 .simp[sIx,asI,ha]
 .rw[xrh,c,xri,x1f4,xre]
  exact xyu (by omega)
 .rw[i2]
  refine⟨.ptr i 0 b,by simpa using xs7 (id:=i) (n:=n) (k:=(b:Int)) (by omega) (by omega),?_⟩
  rw[xrh,i3]
  exact xsv (by rw[hMl a ha];exact hb)
theorem l_cls(d:Nat)(hs:FHs){u0 u sL fq n:Nat}{ev:AV}{M:Nat->List Int}(hu:0<u)(hn:n<=200)(hMl:∀v,v<n->(M v).length=n)(hMb:∀a b,a<n->b<n->at0 (M a) b<farM->-1000000000<=at0 (M a) b/\at0 (M a) b<=1000000000){a:Nat}(ha:a<n){g:Int}(hg:0<=g) :
 ∀(r k j:Nat) (out q:List Int) (m:Mem) (fc:Nat),k+r=n->r<j->ClassC n u ev M m->NumMem u sL fq n out q g m->StOK n (out,q)->negC out+q.length<=n ->
 ∃m',xy (xr4 (d+1)) hs u0 j (I a) (.clo xh [.ptr (u,4,5) 0 0,.ptr (u,6,6) 0 0,.ptr (u,fq,8) 0 0]) (.ptr (0,5,4) 0 0) (I n) (I k) m fc=some (.tup [],m') /\
  NumMem u sL fq n (xsp g (((List.range' k r).filter (fixP (λa b=>at0 (M a) b) a)).map Int.ofNat) (out,q)).1 (xsp g (((List.range' k r).filter (fixP (λa b=>at0 (M a) b) a)).map Int.ofNat) (out,q)).2 g m'/\m.next<=m'.next/\FrU u sL fq m m':=by
 have hfar:farM=1152921504606846976:=rfl
 intro r
 induction r with
 |zero=>
  intro k j out q m fc hk hj hC hM hO hq
  obtain⟨j,rfl⟩:∃i,j=i+1:=⟨j-1,by omega⟩
  have hi:¬((k:Int)<(n:Int)):=by omega
  refine⟨m,?_,hM,x1f3 _,λ_ _ _ _=>rfl⟩
  simp only[xy]
  unfold x3r
  simp[hi]
 |succ r ih=>
  intro k j out q m fc hk hj hC hM hO hq
  obtain⟨j,rfl⟩:∃i,j=i+1:=⟨j-1,by omega⟩
  have hkn:k<n:=by omega
  have hi:(k:Int)<(n:Int):=by omega
  obtain⟨A,hA,hr⟩:=hC.rd hMl (by omega)
  obtain⟨pa,xa,a1,a2,a3⟩:=hr a ha
  obtain⟨pk,xk,k1,k2,k3⟩:=hr k hkn
  obtain⟨qa,a4,a5⟩:=a3 k hkn
  obtain⟨qk,k4,k5⟩:=k3 a ha
  have hb1:=hMb a k ha hkn
  have hb2:=hMb k a hkn ha
  rw[List.range'_succ,x1id]
  obtain⟨X,hX⟩:∃X,X=at0 (M a) k:=⟨_,rfl⟩
  obtain⟨Y,hY⟩:∃Y,Y=at0 (M k) a:=⟨_,rfl⟩
  have hfx:fixP (λa b=>at0 (M a) b) a k=(decide (X<1152921504606846976)&&(decide (Y<1152921504606846976)&&decide (X+Y=0))):=by rw[hX,hY];rfl
  rw[hfx]
  rw[<-hX]at a5 hb1
  rw[<-hY]at k5 hb2
  rw[hfar]at hb1 hb2
  have skip:(decide (X<1152921504606846976)&&(decide (Y<1152921504606846976)&&decide (X+Y=0)))=false->∀fc',∃m',xy (xr4 (d+1)) hs u0 j (I a) (.clo xh [.ptr (u,4,5) 0 0,.ptr (u,6,6) 0 0,.ptr (u,fq,8) 0 0]) (.ptr (0,5,4) 0 0) (I n) (I ((k:Int)+1)) m fc'=some (.tup [],m') /\
   NumMem u sL fq n (xsp g (((if(decide (X<1152921504606846976)&&(decide (Y<1152921504606846976)&&decide (X+Y=0)))=true then k::(List.range' (k+1) r).filter (fixP (λa b=>at0 (M a) b) a)else(List.range' (k+1) r).filter (fixP (λa b=>at0 (M a) b) a))).map Int.ofNat) (out,q)).1 (xsp g (((if(decide (X<1152921504606846976)&&(decide (Y<1152921504606846976)&&decide (X+Y=0)))=true then k::(List.range' (k+1) r).filter (fixP (λa b=>at0 (M a) b) a)else(List.range' (k+1) r).filter (fixP (λa b=>at0 (M a) b) a))).map Int.ofNat) (out,q)).2 g m'/\m.next<=m'.next/\FrU u sL fq m m':=by
   intro hc fc'
   rw[hc]
   simp only[x1fu,x1fm]
   have:=ih (k+1) j out q m fc' (by omega) (by omega) hC hM hO hq
   simpa using this
  by_cases c1:X<1152921504606846976
  rotate_left
  .obtain⟨m',r1,r2⟩:=skip (by simp[c1]) (fc+1+38+2)
   refine⟨m',?_,r2⟩
   rw[<-r1]
   simp only[xy]
   unfold x3r x69 x3q
   simp(disch:=omega) [hi,hA,a1,a2,a4,a5,c1]
  by_cases c2:Y<1152921504606846976
  rotate_left
  .obtain⟨m',r1,r2⟩:=skip (by simp[c2]) (fc+1+38+2)
   refine⟨m',?_,r2⟩
   rw[<-r1]
   simp only[xy]
   unfold x3r x69 x3q
   simp(disch:=omega) [hi,hA,a1,a2,a4,a5,c1,k1,k2,k4,k5,c2]
  have hb1:=hb1 c1
  have hb2:=hb2 c2
  by_cases c3:X+Y=0
  rotate_left
  .obtain⟨m',r1,r2⟩:=skip (by simp[c3]) (fc+1+38+2)
   refine⟨m',?_,r2⟩
   rw[<-r1]
   simp only[xy]
   unfold x3r x69 x3q
   simp(disch:=omega) [hi,hA,a1,a2,a4,a5,c1,k1,k2,k4,k5,c2,c3]
  .obtain⟨m1,h1,h2,h3,h4⟩:=a_add d hs hM (by omega) (b:=(k:Int)) (by omega) (by omega)
   obtain⟨o1,o2⟩:=x14f hO hg (b:=(k:Int)) (by omega) (by omega)
   simp only at o2
   obtain⟨m',r1,r2,r3,r4⟩:=ih (k+1) j (addM g (out,q) k).1 (addM g (out,q) k).2 m1 (fc+1+41+2) (by omega) (by omega) (hC.frame hu λid hid=>h4 id (by omega) (by rintro rfl;simp only at hid;omega) (by rintro rfl;simp only at hid;omega)) h2 o1 (by omega)
   refine⟨m',?_,?_,by omega,λid e1 e2 e3=>by rw[r4 id e1 e2 e3,h4 id e1 e2 e3]⟩
   .rw[<-r1]
    simp only[xy]
    unfold x3r x69 x3q
    simp(disch:=omega) [hi,hA,a1,a2,a4,a5,c1,k1,k2,k4,k5,c2,c3,h1]
   .rw[x1ez (by simp[c1,c2,c3])]
    exact r2
theorem from_cls(d:Nat){u n:Nat}{ev:AV}{M:Nat->List Int}(hu:0<u)(hn:n<=200)(hMl:∀v,v<n->(M v).length=n)(hMb:∀a b,a<n->b<n->at0 (M a) b<farM->-1000000000<=at0 (M a) b/\at0 (M a) b<=1000000000) :
 x104 (xr4 (d+2)) (.clo x1e [.ptr (0,0,1) 0 0,.ptr (0,5,4) 0 0]) n (nbP n λa b=>at0 (M a) b) u (ClassC n u ev M):=by
 intro hs sL fq out q g a m han hC hM hg hO hq
 have hC':ClassC n u ev M ⟨m.hp,m.next+1⟩:=hC.frame hu λ_ _=>rfl
 obtain⟨m',r1,r2,r3,r4⟩:=l_cls d hs (u0:=m.next) (sL:=sL) (fq:=fq) hu hn hMl hMb han hg n 0 NN out q ⟨m.hp,m.next+1⟩ 4 (by omega) (by rw[xrg];omega) hC' ⟨hM.t5,hM.t6,hM.o,by
  obtain⟨x,x1,x2⟩:=hM.t8
  exact⟨x,x1,x2.frame λ_ _=>rfl⟩,hM.ol,by have:=hM.nx;show u+1<m.next+1;omega⟩ hO hq
 rw[show List.range' 0 n=List.range n from(List.range_eq_range' ..).symm]at r2
 refine⟨.tup [],m',?_,r2,by have:m.next+1<=m'.next:=r3;omega,r4⟩
 show xr4 (d+2) hs x1e _ m=_
 rw[xn7]
 show x7d (xr4 (d+1)) hs m.next (I a) _ (.ptr (0,0,1) 0 0) (.ptr (0,5,4) 0 0) ⟨m.hp,m.next+1⟩ 0=_
 unfold x7d
 have G1:(⟨m.hp,m.next+1⟩:Mem).get (0,0,1)=some (.row [I n,ev] 0 false):=hC.1
 simp only[xs5,x1f9,xrh,G1,xri,x1f4,xre,x1f0,rd_f,xr9]
 exact r1
def okT(id:Id):Prop:=id.1=0/\id.2.2=19
def xz0(a:AV):List AV:=[a]
theorem x1c1(l:List AV):l.flatMap xz0=l:=by
 induction l with
 |nil=>rfl
 |cons a r ih=>rw[x1fo,ih];rfl
theorem x1c2{R:Type}{z x:AV}{id:Id}{m:Mem}(h1:x.cells=[x])(h2:x.one=true)(h3:clean1 x=false)(k:AV->Mem->Option R):xs0 [z] [(0,1,x)] 1 1 id m k=k (.sref id 0 0 1 1 true) (m.new id (.row [x] 0 false)):=by
 simp[xs0,xsd,xsc,xs3,h1,h2,h3]
theorem l_table(d:Nat){n:Nat}{ev:AV}{l:List Edge}{fl T ex:List Int}(hev:Sl Edge.c ev l)(hin:SolIn n l fl T ex) :
 ∀(r k j:Nat) (A:AV) (cs:List AV) (m:Mem) (fc:Nat),k+r=n->r<j->SolMem (1+1) n ev l fl T ex m->2<m.next->m.get (0,0,1)=some (.row [I n,ev] 0 false)->m.get (0,5,4)=some (.row [A] 0 false)->Gk 1 xz0 okT m A cs->cs.length=k ->
  (∀(v:Nat) (hv:v<cs.length),∃i:Id,2<i.1/\i.1<m.next/\cs[v]=srI i n/\m.get i=some (.row ((xtr n (waysF n l fl T v).len T v).flatMap intE) 0 false))->(∀v,v<k->LenB ((200:Nat)*GB) (waysF n l fl T v).len) ->
 ∃m' fc',x5x (xr4 (d+7)) [] 0 j (.ptr (0,0,1) 0 0) (.ptr (1+1,21,25) 0 0) (.ptr (0,5,4) 0 0) (I n) (I k) m fc=xb1 (xr4 (d+7)) [] 0 (.ptr (0,0,1) 0 0) (.ptr (0,5,4) 0 0) m' fc' /\
  ClassC n m'.next ev (λv:Nat=>xtr n (waysF n l fl T v).len T v) m'/\2<m'.next/\∀v,v<n->LenB ((200:Nat)*GB) (waysF n l fl T v).len:=by
 have hn:=hin.n0
 intro r
 induction r with
 |zero=>
  intro k j A cs m fc hk hj hM hnx g1 g5 hG hcl hcs hLB
  obtain⟨j,rfl⟩:∃i,j=i+1:=⟨j-1,by omega⟩
  obtain rfl:k=n:=by omega
  have hi:¬((k:Int)<(k:Int)):=by omega
  refine⟨m,fc+1,?_,⟨g1,A,g5,?_⟩,hnx,hLB⟩
  .simp only[x5x]
   unfold xb2
   simp[hi]
  .rcases hG with ⟨rfl,rfl⟩|⟨id,ver,ok,rfl,hg⟩
   .left;simpa using hcl.symm
   .right
    rw[x1c1]at hg
    refine⟨id,ver,cs,ok.1,by rw[hcl],hg,hcl,λv hv=>?_⟩
    obtain⟨i,i1,i2,i3,i4⟩:=hcs v hv
    exact⟨i,i2,i3,i4⟩
 |succ r ih=>
  intro k j A cs m fc hk hj hM hnx g1 g5 hG hcl hcs hLB
  obtain⟨j,rfl⟩:∃i,j=i+1:=⟨j-1,by omega⟩
  have hkn:k<n:=by omega
  have hi:(k:Int)<(n:Int):=by omega
  obtain⟨Sv,hFz,hfz⟩:=hM.frz hin hev
  obtain⟨s1,mA,e1,e2,e3,e4⟩:=w_most (d+1) hFz hkn m.next
  have sci:∀k:List Int,(k.flatMap intE).all isSc=true:=λk=>by rw[xuk,x1fa];intro x hx;obtain⟨y,_,rfl⟩:=x1fj.mp hx;rfl
  have rA:xrk mA.get deep (srL (m.next+1) s1 n)=[(m.next+1+1,s1,30)]:=xy2 (k:=5) e2 (sci _)
  have frI:∀(M:Mem) (x:Int),Go.Ix.frz M.get deep (I x)=some (I x):=λ_ _=>rfl
  obtain⟨m1,f1,f2,f3⟩:=call4 (call:=xr4 (d+7)) (f:=x2y) (l:=[.ptr (1+1,21,25) 0 0,I k]) (l':=[Sv,I k]) (m:=m) (m':=mA) (ids:=[(m.next+1+1,s1,30)]) (by simp only[x1fq,x1g8,hfz,frI];rfl) e1 rfl rA (by
   intro i hi
   rw[x1fv]at hi
   subst hi
   exact⟨by simp only;omega,_,_,e2,sci _⟩)
  have old:∀id:Id,id.1<m.next->m1.get id=m.get id:=λid hid=>by rw[f3,x1ey (by rw[x1fv];rintro rfl;simp only at hid;omega)]
  obtain⟨m1b,hm1b⟩:∃m1b:Mem,m1b=m1.new (0,fc+7,18) (.row [srL (m.next+1) s1 n] 0 false):=⟨_,rfl⟩
  have q1b:∀id:Id,id≠(0,fc+7,18)->m1b.get id=m1.get id:=λid h=>by rw[hm1b,Mem.get_new,x1ey h]
  have n1b:m1b.next=m1.next:=by rw[hm1b];rfl
  have hG1:Gk 1 xz0 okT m1b A cs:=hG.frame λid hid=>by rw[q1b id (by rintro rfl;have:=hid.2;simp at this),old id (by have:=hid.1;omega)]
  obtain⟨A',m2,A2,hG2,c1,c2,n2,q2⟩:=hG1.app (z:=1) (enc:=xz0) (λ_=>rfl) (by decide) (bytes:=24) (id0:=(0,fc+8,19)) ⟨rfl,rfl⟩ (by unfold xrq;omega) (srL (m.next+1) s1 n)
  have g5':m2.get (0,5,4)=some (.row [A] 0 false):=by rw[q2 _ (by unfold okT;simp),q1b _ (by simp),old _ (by simp only;omega)];exact g5
  obtain⟨m3,hm3⟩:∃m3,m3=m2.set (0,5,4) (.row [A'] 0 false):=⟨_,rfl⟩
  have n3:m3.next=mA.next:=by rw[hm3];simp only[Mem.next_set];rw[n2,n1b,f2]
  have k3:∀id:Id,id≠(0,5,4)->¬okT id->id≠(0,fc+7,18)->m3.get id=m1.get id:=λid h1 h2 h3=>by rw[hm3,Mem.get_set,x1ey h1,q2 id h2,q1b id h3]
  obtain⟨m',fc',r1,r2⟩:=ih (k+1) j A' (cs++[srL (m.next+1) s1 n]) m3 (fc+12) (by omega) (by omega)
   (hM.frame λid hid=>by rw[k3 id (by rintro rfl;simp at hid) (by rintro⟨h,-⟩;omega) (by rintro rfl;simp at hid),old id (by omega)]) (by omega)
   (by rw[k3 _ (by simp) (by unfold okT;simp) (by simp),old _ (by simp only;omega)];exact g1) (by rw[hm3];simp)
   (hG2.frame λid hid=>by rw[hm3,Mem.get_set,x1ey (by rintro rfl;have:=hid.2;simp at this)]) (by simp[hcl])
   (λv hv=>by
    by_cases hvk:v<cs.length
    .obtain⟨i,i1,i2,i3,i4⟩:=hcs v hvk
     refine⟨i,i1,by omega,by rw[List.getElem_append_left hvk];exact i3,?_⟩
     rw[k3 i (by rintro rfl;simp at i1) (by rintro⟨h,-⟩;omega) (by rintro rfl;simp at i1),old i i2]
     exact i4
    .have hvk':v=cs.length:=by simp at hv;omega
     subst hvk'
     refine⟨(m.next+1+1,s1,30),by simp only;omega,by simp only;omega,by rw[x1jj (x1f3 _)];simp,?_⟩
     rw[k3 _ (by simp) (by rintro⟨h,-⟩;simp at h) (by simp),f3,x1ez (by simp),hcl]
     exact e2) (λv hv=>by
    by_cases e:v=k
    .rw[e];exact e3
    .exact hLB v (by omega))
  refine⟨m',fc',?_,r2⟩
  rw[<-r1,hm3]
  simp only[x5x]
  unfold xb2
  have hz:xl=[nilS]:=xzx
  have hel:elems m1b.get 1 (.sref (0,fc+7,18) 0 0 1 1 true)=some (xz0 (srL (m.next+1) s1 n),1):=by
   rw[hm1b]
   simp[elems,xz0]
  have hst:xsz 1 0 0 A' (some (.row [A] 0 false))=some (.row [A'] 0 false):=by
   rw[xx2];simp[c1,c2]
  have hmk:mkM 4 [.ptr (1+1,21,25) 0 0,I (k:Int)]=1:=rfl
  simp only[xry,xr9,hi,x1ff,xrw,xrh,g5,xri,x1f4,xre,x1f0,rd_f,f1,hz,x1c2 (x:=srL (m.next+1) s1 n) rfl rfl rfl,<-hm1b,hel,A2,xs9,g5',hst,hmk,cAp_R1]
  simp(disch:=omega) [xr6,disj,tR]
theorem w_classes(d:Nat){n:Nat}{J:Int}{ev:AV}{l:List Edge}(hev:Sl Edge.c ev l)(hS:Slim J n l)(m:Mem) :
 ∃fl tu ex,Solved J n l fl tu ex/\(∀v,v<n->LenB ((200:Nat)*GB) (waysF n l fl (xrt n (xrv n l) tu) v).len) /\
  xr8 (xr4 (d+8)) x2r [.agg [I n,ev]] m=some (.slit ((numM n (nbP n λ(a b:Nat)=>at0 (xtr n (waysF n l fl (xrt n (xrv n l) tu) a).len (xrt n (xrv n l) tu) a) b)).1.flatMap intE) n false,m) /\
  (numM n (nbP n λ(a b:Nat)=>at0 (xtr n (waysF n l fl (xrt n (xrv n l) tu) a).len (xrt n (xrv n l) tu) a) b)).1.length=n:=by
 have hn:n<=200:=by have:=hS.nn;omega
 obtain⟨m1,hm1⟩:∃m1,m1=(⟨[],1⟩:Mem).new (0,0,1) (.row [I n,ev] 0 false):=⟨_,rfl⟩
 have g1:m1.get (0,0,1)=some (.row [I n,ev] 0 false):=by rw[hm1];simp
 have n1:m1.next=1:=by rw[hm1];rfl
 obtain⟨mS,fl,tu,ex,a1,a2,a3,a4⟩:=w_solve (d+1) hev hS 1
 obtain⟨m2,b1,b2,b3⟩:=xwj (call:=xr4 (d+7)) (f:=x19) (l:=[.agg [I n,ev]]) (m:=m1) (m':=mS) (r:=.ptr (1+1,21,25) 0 0) (by simp[clean,hev.clean1]) (by rw[n1];exact a1)
 obtain⟨T,hT⟩:∃T,T=xrt n (xrv n l) tu:=⟨_,rfl⟩
 have hin:=a3.inn hS
 rw[<-hT]at a2 hin
 refine⟨fl,tu,ex,a3,?_⟩
 rw[<-hT]
 have hM2:SolMem (1+1) n ev l fl T ex m2:=a2.frame λid hid=>by rw[b3,x1ez (by omega)]
 have n2:2<m2.next:=by rw[b2];exact a4
 have low:∀s t:Nat,m2.get (0,s,t)=m1.get (0,s,t):=λs t=>by rw[b3,x1ey (by simp[n1])]
 obtain⟨m3,hm3⟩:∃m3,m3=m2.new (0,5,4) (.row [nilS] 0 false):=⟨_,rfl⟩
 have n3:m3.next=m2.next:=by rw[hm3];rfl
 have q3:∀id:Id,id≠(0,5,4)->m3.get id=m2.get id:=λid h=>by rw[hm3,Mem.get_new,x1ey h]
 have g31:m3.get (0,0,1)=some (.row [I n,ev] 0 false):=by rw[q3 _ (by simp),low];exact g1
 obtain⟨m4,fc4,r1,hC,n4,hLB⟩:=l_table d hev hin n 0 NN nilS [] m3 10 (by omega) (by rw[xrg];omega) (hM2.frame λid hid=>q3 id (by rintro rfl;simp at hid)) (by omega) g31 (by rw[hm3];simp) Gk.nil rfl (λv hv=>by simp at hv) (λv hv=>by omega)
 obtain⟨M,hMe⟩:∃M:Nat->List Int,M=λv:Nat=>xtr n (waysF n l fl T v).len T v:=⟨_,rfl⟩
 rw[<-hMe]at hC
 have hMl:∀v,v<n->(M v).length=n:=λv _=>by rw[hMe];exact xwn _ _ _ _
 have hMb:∀a b,a<n->b<n->at0 (M a) b<farM->-1000000000<=at0 (M a) b/\at0 (M a) b<=1000000000:=λa b ha hb hlt=>by
  have hG:((200:Nat):Int)*GB=400200000:=by rfl
  have h1:=hLB a ha
  rw[hG]at h1
  have z1:=h1 b
  have z2:=hin.tub a
  have z3:=hin.tub b
  have e:at0 (M a) b=if at0 (waysF n l fl T a).len b<farM then at0 (waysF n l fl T a).len b+(at0 T b-at0 T a)else at0 (waysF n l fl T a).len b:=by
   rw[hMe,xrn (by rw[xwn];exact hb),x11s hb]
  rw[e]at hlt ⊢
  split
  .rename_i c
   rcases z1 with z1|z1<;>omega
  .rename_i c
   rw[x1ey c]at hlt
   omega
 obtain⟨sL,m5,s1,s2,s3,s4,s5⟩:=x18d (d+3) [] hn (m:=m4) (f:=.clo x1e [.ptr (0,0,1) 0 0,.ptr (0,5,4) 0 0]) (nb:=nbP n λa b=>at0 (M a) b) (C:=ClassC n m4.next ev M) (from_cls (d+4) (by omega) hn hMl hMb) (λa b h1 h2=>h1.frame (by omega) h2) (λa _ b hb=>nbP_in hb) hC
 have hMM:(λa b=>at0 (M a) b)=λ(a b:Nat)=>at0 (xtr n (waysF n l fl T a).len T a) b:=by rw[hMe]
 rw[hMM]at s2 s3
 refine⟨hLB,?_,s3⟩
 have hfz:=frz_own (m:=m5) (id:=(m4.next+1,sL,30)) s2
 rw[s3]at hfz
 refine xw0 (m':=m5) (r:=srL m4.next sL n) (by simp[hev.still1]) ?_ hfz
 rw[xmt]
 show x6x (xr4 (d+7)) [] 0 (.agg [I (n:Int),ev]) ⟨[],1⟩ 0=_
 unfold x6x xih
 have hz2:xb3=[nilS]:=by kernel_rfl
 simp[hev.one]
 rw[<-hm1]
 simp[b1,hz2]
 rw[<-hm3]
 rw[show m2.get (0,0,1)=some (.row [I n,ev] 0 false)from by rw[low];exact g1]
 simp only[xri,x1f4,xre,x1f0,rd_f,xr9]
 rw[show((0:Nat):Int)=0 from rfl]at r1
 refine Eq.trans r1 ?_
 unfold xb1
 have g41:=hC.1
 simp only[xs5,x1f9,xrh,g41,xri,x1f4,xre,x1f0,rd_f,xr9,s1]
theorem Way.app{z:List (Edge×Int)}{u v w:Nat}{c d:Int}(h1:Way z u v c)(h2:Way z v w d):Way z u w (c+d):=by
 induction h2 with
 |nil=>rw[Int.add_zero];exact h1
 |cons _ ha ih=>rw[<-Int.add_assoc];exact ih.cons ha
def Fixd(D:Nat->Nat->Option Int)(T:Nat->Int)(a b:Nat):Prop:=D a b=some (T b-T a)/\D b a=some (T a-T b)
theorem x18y{n:Nat}{z:List (Edge×Int)}{D:Nat->Nat->Option Int}{T:Nat->Int}(hC:CS T z)(hD:∀a,a<n->Dist n z a (D a)){a b:Nat}(ha:a<n)(hb:b<n):Fixd D T a b↔∃x y,D a b=some x/\D b a=some y/\x+y=0:=by
 constructor
 .rintro⟨h1,h2⟩
  exact⟨_,_,h1,h2,by omega⟩
 .rintro⟨x,y,h1,h2,h3⟩
  have e1:=((hD a ha).way b hb x h1).le hC
  have e2:=((hD b hb).way a ha y h2).le hC
  exact⟨by rw[h1];congr 1;omega,by rw[h2];congr 1;omega⟩
theorem fixd_refl{n:Nat}{z:List (Edge×Int)}{D:Nat->Nat->Option Int}{T:Nat->Int}(hC:CS T z)(hD:∀a,a<n->Dist n z a (D a)){a:Nat}(ha:a<n):Fixd D T a a:=by
 obtain⟨d,h1,h2⟩:=(hD a ha).le a 0 .nil
 have:=((hD a ha).way a ha d h1).le hC
 have e:D a a=some (T a-T a):=by rw[h1];congr 1;omega
 exact⟨e,e⟩
theorem x18z{D:Nat->Nat->Option Int}{T:Nat->Int}{a b:Nat}(h:Fixd D T a b):Fixd D T b a:=⟨h.2,h.1⟩
theorem x190{n:Nat}{z:List (Edge×Int)}{D:Nat->Nat->Option Int}{T:Nat->Int}(hC:CS T z)(hD:∀a,a<n->Dist n z a (D a)){a b c:Nat}(ha:a<n)(hb:b<n)(hc:c<n)(h1:Fixd D T a b)(h2:Fixd D T b c):Fixd D T a c:=by
 have key:∀{a b c:Nat},a<n->b<n->c<n->D a b=some (T b-T a)->D b c=some (T c-T b)->D a c=some (T c-T a):=by
  intro a b c ha hb hc h1 h2
  obtain⟨d,e1,e2⟩:=(hD a ha).le c _ (((hD a ha).way b hb _ h1).app ((hD b hb).way c hc _ h2))
  have:=((hD a ha).way c hc d e1).le hC
  rw[e1];congr 1;omega
 exact⟨key ha hb hc h1.1 h2.1,key hc hb ha h2.2 h1.2⟩
theorem num_fix{n:Nat}{z:List (Edge×Int)}{D:Nat->Nat->Option Int}{T:Nat->Int}(hn:n<=200)(hC:CS T z)(hD:∀a,a<n->Dist n z a (D a)){nb:Nat->List Int}(hnb:∀a b:Nat,a<n->((b:Int)∈nb a↔b<n/\Fixd D T a b))(hnn:∀a,a<n->∀b∈nb a,0<=b/\b<n) :
 Sym n nb/\∀a b,a<n->b<n->(at0 (numM n nb).1 a=at0 (numM n nb).1 b↔Fixd D T a b):=by
 have hS:Sym n nb:=⟨hnn,λa b ha hb h=>(hnb b a hb).mpr ⟨ha,x18z ((hnb a b ha).mp h).2⟩⟩
 have R:=x14j hn hS
 obtain⟨rep,hrep⟩:=R.rep
 have hreach:∀{r v:Nat},r<n->Reach nb r v->v<n/\Fixd D T r v:=by
  intro r v hr h
  induction h with
  |refl=>exact⟨hr,fixd_refl hC hD hr⟩
  |step _ h2 ih=>
   obtain⟨i1,i2⟩:=ih
   obtain⟨j1,j2⟩:=(hnb _ _ i1).mp h2
   exact⟨j1,x190 hC hD hr i1 j1 i2 j2⟩
 refine⟨hS,λa b ha hb=>⟨λe=>?_,λh=>?_⟩⟩
 .have h1:=R.lab a ha ha
  have h2:=(R.lt a ha).2
  obtain⟨c,hc⟩:∃c:Nat,at0 (numM n nb).1 a=c:=⟨(at0 (numM n nb).1 a).toNat,by omega⟩
  obtain⟨r1,r2,r3,r4,r5⟩:=hrep c (by omega)
  have ra:=(hreach r2 (r4 a ha hc).2).2
  have rb:=(hreach r2 (r4 b hb (by rw[<-e];exact hc)).2).2
  exact x190 hC hD ha r2 hb (x18z ra) rb
 .exact((x18i hn hS ha (.step .refl ((hnb a b ha).mpr ⟨hb,h⟩))).2).symm
def relB(n:Nat)(l:List Edge)(fr:List Int)(a b:Nat):Bool:=!(decide (dR n l fr a b=1000000000)||decide (dR n l fr b a=1000000000))&&decide (-(dR n l fr b a)=dR n l fr a b)
def mP(n:Nat)(l:List Edge)(fl T:List Int)(a b:Nat):Int:=at0 (xtr n (waysF n l fl T a).len T a) b
theorem mP_eq{n:Nat}{l:List Edge}{fl T:List Int}(hTb:∀k,-1000000<=at0 T k/\at0 T k<=1000000){a b:Nat}(hb:b<n)(hL:LenB ((200:Nat)*GB) (waysF n l fl T a).len) :
 (∃x,dOf n l fl T a b=some x/\mP n l fl T a b=x/\-402200000<=x/\x<=402200000)\/(dOf n l fl T a b=none/\¬mP n l fl T a b<farM):=by
 have hG:((200:Nat):Int)*GB=400200000:=by rfl
 rw[hG]at hL
 have h1:=hL b
 have h2:=hTb a
 have h3:=hTb b
 have hfar:farM=1152921504606846976:=rfl
 have e:mP n l fl T a b=if at0 (waysF n l fl T a).len b<farM then at0 (waysF n l fl T a).len b+(at0 T b-at0 T a)else at0 (waysF n l fl T a).len b:=by
  unfold mP
  rw[xrn (by rw[xwn];exact hb),x11s hb]
 rw[e]
 unfold dOf xyx
 by_cases c:at0 (waysF n l fl T a).len b<farM
 .left
  rw[x1ez c,x1ez ⟨hb,c⟩]
  exact⟨_,rfl,by omega,by omega,by omega⟩
 .right
  rw[x1ey c,x1ey λx=>c x.2]
  exact⟨rfl,c⟩
structure Facts (n:Nat) (l:List Edge) (fl T:List Int):Prop where
 tb:∀k,-1000000<=at0 T k/\at0 T k<=1000000
 cs:CS (at0 T) (l.zip fl)
 ds:∀a,a<n->Dist n (l.zip fl) a (dOf n l fl T a)
 lb:∀a,a<n->LenB ((200:Nat)*GB) (waysF n l fl T a).len
theorem x14q{J:Int}{n:Nat}{l:List Edge}{fl tu ex:List Int}(hS:Slim J n l)(h:Solved J n l fl tu ex):Facts n l fl (xrt n (xrv n l) tu):=by
 have hj0:=hS.j0
 have hj1:=hS.j1
 have hT:=λk=>h.turns hj0 k
 have tb:∀k,-1000000<=at0 (xrt n (xrv n l) tu) k/\at0 (xrt n (xrv n l) tu) k<=1000000:=λk=>by have:=hT k;omega
 exact⟨tb,h.best.2,λa ha=>x11x h.flow (λk=>h.f.flb k) tb ha,λa ha=>lenB_of h.flow (λk=>h.f.flb k) tb ha⟩
theorem x191{n:Nat}{l:List Edge}{fl T:List Int}(F:Facts n l fl T){a b:Nat}(ha:a<n)(hb:b<n):fixP (mP n l fl T) a b=true↔Fixd (dOf n l fl T) (at0 T) a b:=by
 rw[x18y F.cs F.ds ha hb]
 have hfar:farM=1152921504606846976:=rfl
 unfold fixP
 simp only[x1fb,x1hf]
 rcases mP_eq F.tb hb (F.lb a ha)with ⟨x,h1,h2,h3,h4⟩|⟨h1,h2⟩
 .rcases mP_eq F.tb ha (F.lb b hb)with ⟨y,k1,k2,k3,k4⟩|⟨k1,k2⟩
  .rw[h2,k2]
   constructor
   .rintro⟨-,-,e⟩;exact⟨x,y,h1,k1,e⟩
   .rintro⟨x',y',e1,e2,e3⟩
    rw[h1]at e1;rw[k1]at e2
    cases e1;cases e2
    exact⟨by omega,by omega,e3⟩
  .constructor
   .rintro⟨-,e,-⟩;exact absurd e k2
   .rintro⟨x',y',e1,e2,e3⟩;rw[k1]at e2;cases e2
 .constructor
  .rintro⟨e,-⟩;exact absurd e h2
  .rintro⟨x',y',e1,e2,e3⟩;rw[h1]at e1;cases e1
theorem dR_eq{J:Int}{n:Nat}{l:List Edge}{fl tu ex fr:List Int}(hS:Slim J n l)(hB:BestF n l fr)(h:Solved J n l fl tu ex){a b:Nat}(ha:a<n)(hb:b<n):dR n l fr a b=(dOf n l fl (xrt n (xrv n l) tu) a b).getD farR:=(most_same hS hB h ha).2 b hb
theorem x192{J:Int}{n:Nat}{l:List Edge}{fl tu ex fr:List Int}(hS:Slim J n l)(hB:BestF n l fr)(h:Solved J n l fl tu ex){a b:Nat}(ha:a<n)(hb:b<n):relB n l fr a b=true↔Fixd (dOf n l fl (xrt n (xrv n l) tu)) (at0 (xrt n (xrv n l) tu)) a b:=by
 have F:=x14q hS h
 rw[x18y F.cs F.ds ha hb]
 have hff:farR=1000000000:=rfl
 unfold relB
 rw[dR_eq hS hB h ha hb,dR_eq hS hB h hb ha]
 simp only[x1fb,x1hf,x1j7,Bool.or_eq_false_iff,decide_eq_false_iff_not]
 rcases mP_eq F.tb hb (F.lb a ha)with ⟨x,h1,h2,h3,h4⟩|⟨h1,h2⟩
 .rcases mP_eq F.tb ha (F.lb b hb)with ⟨y,k1,k2,k3,k4⟩|⟨k1,k2⟩
  .rw[h1,k1,Option.getD_some,Option.getD_some]
   constructor
   .rintro⟨-,e⟩;exact⟨x,y,rfl,rfl,by omega⟩
   .rintro⟨x',y',e1,e2,e3⟩
    cases e1;cases e2
    exact⟨⟨by omega,by omega⟩,by omega⟩
  .rw[k1,Option.getD_none]
   constructor
   .rintro⟨⟨-,e⟩,-⟩;exact absurd hff e
   .rintro⟨x',y',e1,e2,e3⟩;cases e2
 .rw[h1,Option.getD_none]
  constructor
  .rintro⟨⟨e,-⟩,-⟩;exact absurd hff e
  .rintro⟨x',y',e1,e2,e3⟩;cases e1
theorem nbP_mem{n:Nat}{M:Nat->Nat->Int}{a b:Nat}:(b:Int)∈nbP n M a↔b<n/\fixP M a b=true:=by
 unfold nbP
 rw[x1fj]
 constructor
 .rintro⟨k,hk,e⟩
  have:k=b:=by simp only[x1j8]at e;omega
  subst this
  obtain⟨h1,h2⟩:=x1fr.mp hk
  exact⟨x1fn.mp h1,h2⟩
 .rintro⟨h1,h2⟩
  exact⟨b,x1fr.mpr ⟨x1fn.mpr h1,h2⟩,rfl⟩
theorem cls_num{J:Int}{n:Nat}{l:List Edge}{fl tu ex:List Int}(hS:Slim J n l)(h:Solved J n l fl tu ex):Sym n (nbP n (mP n l fl (xrt n (xrv n l) tu))) /\
 ∀a b,a<n->b<n->(at0 (numM n (nbP n (mP n l fl (xrt n (xrv n l) tu)))).1 a=at0 (numM n (nbP n (mP n l fl (xrt n (xrv n l) tu)))).1 b↔Fixd (dOf n l fl (xrt n (xrv n l) tu)) (at0 (xrt n (xrv n l) tu)) a b):=by
 have F:=x14q hS h
 refine num_fix (by have:=hS.nn;omega) F.cs F.ds (λa b ha=>?_) (λa _ b hb=>nbP_in hb)
 rw[nbP_mem]
 constructor
 .rintro⟨h1,h2⟩;exact⟨h1,(x191 F ha h1).mp h2⟩
 .rintro⟨h1,h2⟩;exact⟨h1,(x191 F ha h1).mpr h2⟩
theorem dR_bound{J:Int}{n:Nat}{l:List Edge}{fr:List Int}(hS:Slim J n l)(hB:BestF n l fr):(∀a,a<n->(xss (xrz l fr) n (xst n a)).length=n)/\∀a b,a<n->b<n->-1000000<=dR n l fr a b/\dR n l fr a b<=1000000000:=by
 have hA:=x14o hS hB.len
 have hnn:=hS.nn
 have hsl:(xrz l fr).length<=40:=by
  have:=xyz l fr l.length
  have:=hS.ll
  unfold xrz
  omega
 have hns:n*(xrz l fr).length<=12*40:=x1h1 hnn hsl
 have key:∀a,a<n->OInv n (l.zip fr) a (n*(xrz l fr).length) (xss (xrz l fr) n (xst n a)):=λa ha=>(xy8 hA (x11w ha (l.zip fr)).1 n (by omega)).1
 refine⟨λa ha=>(key a ha).len,λa b ha hb=>?_⟩
 have hff:farR=1000000000:=rfl
 unfold dR
 rcases(key a ha).ok b hb with e|⟨e1,e2,-⟩<;>omega
theorem x1c3(d:Nat){n:Nat}{J:Int}{ev:AV}{l:List Edge}(hev:Sl Edge.c ev l)(hc:(xur n l).2=0)(hS:Slim J n l)(m:Mem) :
 ∃fl tu ex,Solved J n l fl tu ex/\(numM n (nbP n (mP n l fl (xrt n (xrv n l) tu)))).1.length=n /\
  xr8 (xr4 (d+9)) x4g [.agg [I n,ev]] m=some (.tup [.slit ((numM n (nbP n (mP n l fl (xrt n (xrv n l) tu)))).1.flatMap intE) n false,I 0],m):=by
 obtain⟨m2,hm2⟩:∃m2:Mem,m2=(((⟨[],1⟩:Mem).new (0,0,1) (.row [I n,ev] 0 false)).new (0,8,4) (.row [I 0,nilS] 0 false)).set (0,8,4) (.row [I n,ev] 0 false):=⟨_,rfl⟩
 have g4:m2.get (0,8,4)=some (.row [I n,ev] 0 false):=by rw[hm2];simp
 obtain⟨fl,tu,ex,h1,h2,h3,h4⟩:=w_classes d hev hS m2
 refine⟨fl,tu,ex,h1,h4,?_⟩
 have h3:xr8 (xr4 (d+8)) x2r [.agg [I n,ev]] m2=some (.slit ((numM n (nbP n (mP n l fl (xrt n (xrv n l) tu)))).1.flatMap intE) n false,m2):=h3
 refine Ans.call0_tup ⟨m2,?_⟩ (by simp[hev.still1]) rfl
 rw[xm4]
 unfold xea x9y
 simp[mem0,hev.one,w_open _ hev,z_pnet,hc]
 rw[<-hm2]
 simp[g4,h3]
def idxL(q:Edge->Bool):Int->List Edge->List Int
 |_,[]=>[]
 |k,e::r=>(bif q e then[k]else[])++idxL q (k+1) r
theorem x193{q r:Edge->Bool}:∀{l:List Edge} {k:Int},(∀e∈l,q e=r e)->idxL q k l=idxL r k l
 |[],_,_=>rfl
 |e::l,k,h=>by
  rw[idxL,idxL,h e (x1f7 ..),x193 λx hx=>h x (x1f6 _ hx)]
theorem x11y(q:Edge->Bool):∀(l:List Edge) (k:Int),(idxL q k l).length<=l.length
 |[],_=>by simp[idxL]
 |e::l,k=>by
  have:=x11y q l (k+1)
  rw[idxL]
  cases q e<;>simp<;>omega
theorem x194{q:Edge->Bool}:∀{l:List Edge} {k:Nat} {j:Nat} (hj:j<l.length),((k+j:Nat):Int)∉idxL q k l->q l[j]=false
 |e::l,k,0,_,h=>by
  rw[idxL]at h
  cases hq:q e with
  |false=>simpa using hq
  |true=>rw[hq]at h;simp at h
 |e::l,k,j+1,hj,h=>by
  rw[idxL,x1fw,not_or]at h
  have:=x194 (q:=q) (l:=l) (k:=k+1) (j:=j) (by simpa using hj) (by
   rw[show k+1+j=k+(j+1) by omega]
   have:=h.2
   simpa using this)
  simpa using this
def twC(q:List Int)(e:Edge):Bool:=!decide (at0 q e.fr.toNat=at0 q e.to.toNat)
theorem two_rel{J:Int}{n:Nat}{l:List Edge}{fl tu ex fr:List Int}(hS:Slim J n l)(hB:BestF n l fr)(h:Solved J n l fl tu ex):∀e∈l,
 twC (numM n (nbP n (mP n l fl (xrt n (xrv n l) tu)))).1 e=!(relB n l fr e.fr.toNat e.to.toNat):=λe he=>by
 obtain⟨⟨f0,f1,t0,t1,-⟩,-⟩:=hS.ed e he
 obtain⟨-,hK⟩:=cls_num hS h
 have h1:=hK e.fr.toNat e.to.toNat (by omega) (by omega)
 have h2:=x192 hS hB h (a:=e.fr.toNat) (b:=e.to.toNat) (by omega) (by omega)
 rw[<-h2]at h1
 unfold twC
 congr 1
 rw[x1jg,x1hf]
 exact h1
theorem same_ex1{J:Int}{n:Nat}{l:List Edge}{fl tu ex fr:List Int}{t:Nat->Int}(hS:Slim J n l)(hB:BestF n l fr)(h:Solved J n l fl tu ex)(hc:xti t l=xti (at0 (xrt n (xrv n l) tu)) l){e:Edge}(he:e∈l)(hrel:relB n l fr e.fr.toNat e.to.toNat=true) :
 exF t e=exF (at0 (xrt n (xrv n l) tu)) e:=by
 obtain⟨⟨f0,f1,t0,t1,-⟩,-⟩:=hS.ed e he
 have F:=x14q hS h
 have hf:=(x192 hS hB h (a:=e.fr.toNat) (b:=e.to.toNat) (by omega) (by omega)).mp hrel
 have e1:(l.zip fl).map Prod.fst=l:=by rw[x1jp];rw[h.f.fll];exact x1f3 _
 have hCt:CS t (l.zip fl):=by
  rw[<-tight h.best.1 t,e1,hc]
  have:=(tight h.best.1 _).mpr F.cs
  rwa[e1]at this
 have w1:=((F.ds e.fr.toNat (by omega)).way e.to.toNat (by omega) _ hf.1).le hCt
 have w2:=((F.ds e.to.toNat (by omega)).way e.fr.toNat (by omega) _ hf.2).le hCt
 unfold exF
 omega
theorem x195{q:Edge->Bool}{l:List Edge}{k:Nat}(hk:k<l.length):idxL q 0 (l.take (k+1))=idxL q 0 (l.take k)++(bif q l[k]then[(k:Int)]else[]):=by
 have key:∀(a:List Edge) (e:Edge) (j:Int),idxL q j (a++[e])=idxL q j a++(bif q e then[j+(a.length:Int)]else[]):=by
  intro a
  induction a with
  |nil=>intro e j;simp[idxL]
  |cons x r ih=>
   intro e j
   rw[x1gw,idxL,idxL,ih,x1gy,x1fi,show j+1+(r.length:Int)=j+((r.length+1:Nat):Int) by omega]
 rw[x1g3 hk,key,x1go,x1jd (by omega),Int.zero_add]
theorem x196:x5c=[I 0,I 0]:=by kernel_rfl
theorem x11z:xse=[I 0]:=by kernel_rfl
def UnR(n:Nat)(l:List Edge)(v:AV):Prop:=∃fl tu ex a,v=.tup [a,I 0]/\Solved 20 n l fl tu ex/\Ints a (idxL (twC (numM n (nbP n (mP n l fl (xrt n (xrv n l) tu)))).1) 0 l)
theorem xy9{l:List Scene}{P:List Pq}{ph wt:List Int}(h:nfE l P ph wt=0):taskE l P ph wt=0/\nofE l P ph=0/\nfN l P ph wt=l.length/\nfL l P ph wt=netL l P ph wt:=by
 unfold nfE at h
 by_cases c:taskE l P ph wt=0
 .simp[c]at h
  exact⟨c,h,by simp[nfN,nofN,c,h],by simp[nfL,nofL,c,h]⟩
 .simp[c]at h
theorem a_Und(d:Nat){s p f g:AV}{l:List Scene}{P:List Pq}{ph wt:List Int}(hs:Sl Scene.c s l)(hp:Sl Pq.c p P)(hf:Ints f ph)(hg:Ints g wt)(h1:ph.length<1000000)(h2:wt.length<1000000)(hfw:few7 l P=true)(hE:nfE l P ph wt=0)(hS:Slim 20 l.length (netL l P ph wt)) :
 RetF (UnR l.length (netL l P ph wt)) (xr4 (d+16) [] x27 [.agg [s,p,f,g]] mem0):=by
 obtain⟨hE1,hE2,hN,hL⟩:=xy9 hE
 have hT:=xwl hE1
 have hck:=x18q (wt:=wt) hT hE2
 rw[xki]
 unfold x7t x6m
 generalize hm1:(⟨[],1⟩:Mem).new (0,0,1) (.row [s,p,f,g] 0 false)=m1
 have g1:m1.get (0,0,1)=some (.row [s,p,f,g] 0 false):=by rw[<-hm1];simp
 obtain⟨e,he,hec⟩:=x14l d hs hp hf hg h1 h2 hfw m1
 rw[hL]at he
 simp[mem0,hs.one,hp.one,hf.one,hg.one,hm1,g1,hec,hE,hN,xuz,he.one]
 generalize hm2:Mem.set _ _ _=m2
 have g4:m2.get (0,8,4)=some (.row [I l.length,e] 0 false):=by rw[<-hm2];simp
 obtain⟨fl,tu,ex,hSo,hql,hnc⟩:=x1c3 (d+6) he (by rw[hck]) hS m2
 simp[g4,hnc]
 generalize hq:(numM l.length (nbP l.length (mP l.length (netL l P ph wt) fl (xrt l.length (xrv l.length (netL l P ph wt)) tu)))).1=q at *
 have hqs:Ints (.slit (q.flatMap intE) l.length false) q:=by rw[<-hql];exact Sl.lit q false
 unfold xg7
 simp[g4,he.len xua]
 generalize hnet:netL l P ph wt=N at *
 have hNl:N.length<=17:=hS.ll
 refine xsf (N:=N.length) (λn k t7 m fc=>x58 (xr4 (d+15)) [] 0 n (.slit (q.flatMap intE) l.length false) t7 e (I N.length) (I k) m fc) (λk t7 m=>Gr 1 intE 0 48 m t7 (idxL (twC q) 0 (N.take k))) _ ?_ ?_ NN 0 nilS m2 _ (by omega) (by rw[xrg];omega) (by simpa[idxL]using Gr.nil)
 .rintro n k t7 m fc hk hG next
  have hk':(k:Int)<(N.length:Int):=by omega
  obtain⟨⟨f0,f1,t0,t1,-⟩,-⟩:=hS.ed N[k] (x1fg hk)
  have ix:=he.ix Edge.len hk
  have ld:=λm=>xsy (m:=m) Edge.len (by omega) hk
  have hts:=x195 (q:=twC q) hk
  have hlen:=x11y (twC q) (N.take k) 0
  rw[x1go]at hlen
  generalize N[k]=x at *
  have ia:=hqs.ixI xrm f0 (by omega)
  have ib:=hqs.ixI xrm t0 (by omega)
  have la:=λm=>xs2 (m:=m) (l:=q) (k:=x.fr.toNat) (by omega)
  have lb:=λm=>xs2 (m:=m) (l:=q) (k:=x.to.toNat) (by omega)
  simp only[x58]
  unfold x8k xg6
  simp only[Edge.c]at ld
  simp[hk',ix,ld,x11u]
  generalize hm3:Mem.set _ _ _=m3
  have e3:∀j:Id,j.2.2≠9->m3.get j=m.get j:=λj hj=>by
   rw[<-hm3,Mem.get_set,x1ey (by rintro rfl;exact hj rfl),Mem.get_new,x1ey (by rintro rfl;exact hj rfl)]
  have q9:m3.get (0,fc+1+3,9)=some (.row [I x.fr,I x.to,I x.jump,I x.wt] 0 false):=by rw[<-hm3];simp
  have hG3:Gr 1 intE 0 48 m3 t7 (idxL (twC q) 0 (N.take k)):=hG.frame λs=>e3 _ (by simp)
  simp[q9,ia,ib,la,lb]
  by_cases c:at0 q x.fr.toNat=at0 q x.to.toNat
  .have e1:twC q x=false:=by simp[twC,c]
   rw[e1]at hts
   simp[c]
   unfold x6l
   simp(disch:=omega) [xrc]
   exact next t7 m3 _ (by rw[hts];simpa using hG3)
  .have e1:twC q x=true:=by simp[twC,c]
   rw[e1]at hts
   obtain⟨a',m4,k1,k2,k3,k4⟩:=hG3.app (s0:=fc+1+20) (bytes:=8) xrm (by omega) (by unfold xrq;omega) (k:Int)
   have hel:∀M:Mem,elems M.get 1 (.slit [I (k:Int)] 1 true)=some (intE k,1):=λ_=>rfl
   simp[c,x11z,hel,k1]
   unfold x6l
   simp(disch:=omega) [xrc]
   exact next a' m4 _ (by rw[hts];exact k2)
 .rintro n t7 m fc hG
  rw[x1hy]at hG
  simp only[x58]
  unfold x8k xg5
  simp
  obtain⟨a',f1,f2⟩:=hG.frzk (k:=3) xrm xto
  exact RetF.mk (T:=UnR l.length N) (x10y f2 (frz_I (k:=4))) ⟨fl,tu,ex,a',rfl,hSo,by rw[hq];exact f1⟩
theorem w_Und0(d:Nat){s p f g:AV}{l:List Scene}{P:List Pq}{ph wt:List Int}(hs:Sl Scene.c s l)(hp:Sl Pq.c p P)(hf:Ints f ph)(hg:Ints g wt)(h1:ph.length<1000000)(h2:wt.length<1000000)(hfw:few7 l P=true)(hE:nfE l P ph wt≠0)(m:Mem) :
 xr8 (xr4 (d+16)) x27 [.agg [s,p,f,g]] m=some (.tup [nilS,I (nfE l P ph wt)],m):=by
 refine xth (by simp[hs.still1,hp.still1,hf.still1,hg.still1]) ?_ m
 rw[xki]
 unfold x7t x6m
 generalize hm1:(⟨[],1⟩:Mem).new (0,0,1) (.row [s,p,f,g] 0 false)=m1
 have g1:m1.get (0,0,1)=some (.row [s,p,f,g] 0 false):=by rw[<-hm1];simp
 obtain⟨e,he,hec⟩:=x14l d hs hp hf hg h1 h2 hfw m1
 simp[mem0,hs.one,hp.one,hf.one,hg.one,hm1,g1,hec,hE,xuz,he.one]
 exact RetF.mk (T:=λv=>v=.tup [nilS,I (nfE l P ph wt)]) (x10y rfl rfl) rfl
theorem w_rUnd7(d:Nat){n:Nat}{ev:AV}{l:List Edge}(h:Sl Edge.c ev l)(hS:Slim 20 n l)(m:Mem) :
 ∃fr a,BestF n l fr/\Ints a (idxL (λe=>!(relB n l fr e.fr.toNat e.to.toNat)) 0 l)/\xr8 (xr4 (d+4)) x49 [.agg [I n,ev]] m=some (a,m):=by
 have hNl:l.length<=17:=hS.ll
 refine(λ⟨v,⟨fr,h1,h2⟩,h3⟩=>⟨fr,v,h1,h2,h3⟩:(∃v,(∃fr,BestF n l fr/\Ints v (idxL (λe=>!(relB n l fr e.fr.toNat e.to.toNat)) 0 l))/\_)->_) (xtg (T:=λv=>∃fr,BestF n l fr/\Ints v (idxL (λe=>!(relB n l fr e.fr.toNat e.to.toNat)) 0 l)) (by simp[h.still1]) ?_ m)
 rw[xlh]
 unfold xdo x8p
 generalize hm1:(⟨[],1⟩:Mem).new (0,0,1) (.row [I n,ev] 0 false)=m1
 have g1:m1.get (0,0,1)=some (.row [I n,ev] 0 false):=by rw[<-hm1];simp
 have hn1:m1.next=1:=by rw[<-hm1];rfl
 obtain⟨fa,fr,hfa,hB,hbc⟩:=x1by d h hS m1
 obtain⟨hlen,hbd⟩:=dR_bound hS hB
 simp[mem0,h.one,hm1,g1,hbc]
 unfold xgd
 refine xsf (N:=l.length) (λj k t4 m fc=>x38 (xr4 (d+3)) [] 0 j (.ptr (0,0,1) 0 0) fa t4 (I k) m fc) (λk t4 m=>m.get (0,0,1)=some (.row [I n,ev] 0 false)/\1<=m.next/\Gr 1 intE 0 47 m t4 (idxL (λe=>!(relB n l fr e.fr.toNat e.to.toNat)) 0 (l.take k))) _ ?_ ?_ NN 0 nilS m1 _ (by omega) (by rw[xrg];omega) ⟨g1,by omega,by simpa[idxL]using Gr.nil⟩
 .rintro j k t4 m fc hk ⟨hg,hn,hG⟩ next
  have hk':(k:Int)<(l.length:Int):=by omega
  obtain⟨⟨f0,f1,t0,t1,-⟩,-⟩:=hS.ed l[k] (x1fg hk)
  have ix:=h.ix Edge.len hk
  have la:=λm=>xw1 (enc:=Edge.c) (m:=m) (l:=l) hk 0 (v:=I (l[k]).fr) rfl
  have lb:=λm=>xw1 (enc:=Edge.c) (m:=m) (l:=l) hk 1 (v:=I (l[k]).to) rfl
  rw[x1f0]at la
  simp only[x1jk]at lb
  have hts:=x195 (q:=λe=>!(relB n l fr e.fr.toNat e.to.toNat)) hk
  have hil:=x11y (λe=>!(relB n l fr e.fr.toNat e.to.toNat)) (l.take k) 0
  rw[x1go]at hil
  have hbt:=λm=>x1c0 d (a:=(l[k]).fr.toNat) (b:=(l[k]).to.toNat) h hS hfa hB (by omega) (by omega) hlen hbd m
  rw[x1ge f0,x1ge t0]at hbt
  generalize l[k]=x at *
  have hblt:Nat.blt 0 m.next=true:=x1j9 (by omega)
  have hel:∀M:Mem,elems M.get 1 (.slit [I (k:Int)] 1 true)=some (intE k,1):=λ_=>rfl
  have hrl:relB n l fr x.fr.toNat x.to.toNat=(!(decide (dR n l fr x.fr.toNat x.to.toNat=1000000000)||decide (dR n l fr x.to.toNat x.fr.toNat=1000000000))&&decide (-(dR n l fr x.to.toNat x.fr.toNat)=dR n l fr x.fr.toNat x.to.toNat)):=rfl
  have more:relB n l fr x.fr.toNat x.to.toNat=false->∀(m2:Mem) (fc2 s0:Nat),(∀j:Id,j.2.2≠6->m2.get j=m.get j)->1<=m2.next->∃a' m4,(∀{R:Type} (K:AV->Mem->Option R),sApp 1 8 (0,s0,47) (some (intE k,1)) t4 m2 K=K a' m4)/\∀fc3,RetF (λv=>∃fr,BestF n l fr/\Ints v (idxL (λe=>!(relB n l fr e.fr.toNat e.to.toNat)) 0 l)) (x5b (xr4 (d+3)) [] 0 (x38 (xr4 (d+3)) [] 0 j) (.ptr (0,0,1) 0 0) fa a' (I k) m4 fc3):=λhr m2 fc2 s0 hf2 hn2=>by
   rw[hr]at hts
   obtain⟨a',m4,k1,k2,k3,k4⟩:=Gr.app (s0:=s0) (bytes:=8) xrm (by omega) (by unfold xrq;omega) (hG.frame (m':=m2) λs=>hf2 _ (by simp)) (k:Int)
   refine⟨a',m4,k1,λfc3=>?_⟩
   unfold x5b
   simp(disch:=omega) [xrc]
   exact next a' m4 _ ⟨by rw[k4 _ (by simp),hf2 _ (by simp)];exact hg,by omega,by rw[hts];exact k2⟩
  simp only[x38]
  unfold x8o xgc
  cases hc:(decide (dR n l fr x.fr.toNat x.to.toNat=1000000000)||decide (dR n l fr x.to.toNat x.fr.toNat=1000000000))with
  |true=>
   rw[hc]at hrl hbt
   simp only[xre]at hbt
   simp[hg,h.len xua,hk',ix,la,lb,hbt,x196]
   generalize hm2:Mem.set _ _ _=m2
   have e2:∀j:Id,j.2.2≠6->m2.get j=m.get j:=λj hj=>by
    rw[<-hm2,Mem.get_set,x1ey (by rintro rfl;exact hj rfl),Mem.get_new,x1ey (by rintro rfl;exact hj rfl)]
   have hn2:m2.next=m.next:=by rw[<-hm2];rfl
   obtain⟨a',m4,k1,k2⟩:=more (by rw[hrl];rfl) m2 fc (fc+5+33) e2 (by omega)
   simp[xr6,disj,tR,cAp,hblt,h.clean1,hfa.clean,x11z,hel,k1]
   exact k2 _
  |false=>
   rw[hc]at hrl hbt
   simp only[xxu]at hbt
   simp[hg,h.len xua,hk',ix,la,lb,hbt,x196]
   generalize hm2:Mem.set _ _ _=m2
   have e2:∀j:Id,j.2.2≠6->m2.get j=m.get j:=λj hj=>by
    rw[<-hm2,Mem.get_set,x1ey (by rintro rfl;exact hj rfl),Mem.get_new,x1ey (by rintro rfl;exact hj rfl)]
   have hn2:m2.next=m.next:=by rw[<-hm2];rfl
   have q6:m2.get (0,fc+5+18,6)=some (.row [I (-(dR n l fr x.to.toNat x.fr.toNat)),I (dR n l fr x.fr.toNat x.to.toNat)] 0 false):=by rw[<-hm2];simp
   by_cases c:-(dR n l fr x.to.toNat x.fr.toNat)=dR n l fr x.fr.toNat x.to.toNat
   .have hr:relB n l fr x.fr.toNat x.to.toNat=true:=by rw[hrl,x1fy c];rfl
    rw[hr]at hts
    simp[xr6,disj,tR,cAp,hblt,h.clean1,hfa.clean,q6,c]
    unfold x5b
    simp(disch:=omega) [xrc]
    exact next t4 m2 _ ⟨by rw[e2 _ (by simp)];exact hg,by omega,by rw[hts];simpa using hG.frame λs=>e2 _ (by simp)⟩
   .obtain⟨a',m4,k1,k2⟩:=more (by rw[hrl,x1h4 c];rfl) m2 fc (fc+5+33) e2 (by omega)
    simp[xr6,disj,tR,cAp,hblt,h.clean1,hfa.clean,q6,c,x11z,hel,k1]
    exact k2 _
 .rintro j t4 m fc ⟨hg,hn,hG⟩
  rw[x1hy]at hG
  simp only[x38]
  unfold x8o xgb
  simp[hg,h.len xua]
  obtain⟨a',f1,f2⟩:=hG.frz xrm xto
  exact RetF.mk f2 ⟨fr,hB,f1⟩
end Go.Ix
