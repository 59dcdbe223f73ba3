import Derived.Test.YtacloojepepcfaaGreatDoorWg17
import Derived.Test.YtacloojepepcfaaGreatDoorWg12
import Derived.Test.YtacloojepepcfaaGreatDoorWg6
import Derived.Test.YtacloojepepcfaaGreatDoorWg14
import Derived.Test.YtacloojepepcfaaGreatDoorWg11
set_option linter.unusedSimpArgs false
set_option linter.unusedVariables false
namespace Go.Ix
open Go.Proofs
theorem x14m(d:Nat)(hs:FHs){a:AV}{ls:List Int}{n:Nat}(h:Ints a ls)(hl:ls.length=n)(hn:n<=1000)(hls:∀v,v<n->0<=at0 ls v/\at0 ls v<=v) :
 ∀(r k j:Nat) (s:List Int×Int) (m:Mem) (fc:Nat),k+r=n->r<j->s.1.length=n->0<=s.2->s.2<=k->m.get (0,3,8)=some (.row (s.1.flatMap intE) 0 false) ->
 ∃m',x1v (xow d) hs 0 j a (srI (0,3,8) n) (I s.2) (I k) m fc=some (srI (0,3,8) n,m')/\m'.get (0,3,8)=some (.row (((List.range' k r).foldl (nmS ls) s).1.flatMap intE) 0 false)/\(((List.range' k r).foldl (nmS ls) s).1.length=n):=by
 intro r
 induction r with
 |zero=>
  intro k j s m fc hk hj hsl g0 g1 hm
  obtain⟨j,rfl⟩:∃i,j=i+1:=⟨j-1,by omega⟩
  have hi:¬((k:Int)<(ls.length:Int)):=by omega
  refine⟨m,?_,hm,hsl⟩
  simp only[x1v]
  unfold x3l x9o
  simp[h.len xr3,hi]
 |succ r ih=>
  intro k j s m fc hk hj hsl g0 g1 hm
  obtain⟨j,rfl⟩:∃i,j=i+1:=⟨j-1,by omega⟩
  have hkn:k<n:=by omega
  have hi:(k:Int)<(ls.length:Int):=by omega
  have hkl:k<ls.length:=by omega
  obtain⟨v0,v1⟩:=hls k hkn
  have ix:=h.ix xt5 hkl
  have i1:sIx 1 (srI (0,3,8) n) (I k)=some (.ptr (0,3,8) 0 k):=by simpa using xso (id:=(0,3,8)) (n:=n) (k:=(k:Int)) (by omega) (by omega)
  have i2:=xso (id:=(0,3,8)) (n:=n) v0 (by omega)
  have l1:k<s.1.length:=by omega
  have l2:(at0 ls k).toNat<s.1.length:=by omega
  have e1:(List.range' k (r+1)).foldl (nmS ls) s=(List.range' (k+1) r).foldl (nmS ls) (nmS ls s k):=by rw[List.range'_succ,x1a9]
  rw[e1]
  by_cases c:at0 ls k=k
  .have e2:nmS ls s k=(s.1.set k s.2,s.2+1):=by unfold nmS;rw[x17u c]
   rw[e2]
   obtain⟨m',r1,r2,r3⟩:=ih (k+1) j (s.1.set k s.2,s.2+1) (m.set (0,3,8) (.row ((s.1.set k s.2).flatMap intE) 0 false)) (fc+21) (by omega) (by omega) (by simpa using hsl) (by simp only;omega) (by simp only;omega) (by rw[Mem.get_set,x17u rfl])
   refine⟨m',?_,r2,r3⟩
   rw[<-r1]
   simp only[x1v]
   unfold x3l x6j x3k
   simp(disch:=omega) [h.len xr3,hi,ix,ld_int,c,i1,hm]
  .have e2:nmS ls s k=(s.1.set k (at0 s.1 (at0 ls k).toNat),s.2):=by unfold nmS;rw[x17t c]
   rw[e2]
   obtain⟨m',r1,r2,r3⟩:=ih (k+1) j (s.1.set k (at0 s.1 (at0 ls k).toNat),s.2) (m.set (0,3,8) (.row ((s.1.set k (at0 s.1 (at0 ls k).toNat)).flatMap intE) 0 false)) (fc+24) (by omega) (by omega) (by simpa using hsl) (by simp only;omega) (by simp only;omega) (by rw[Mem.get_set,x17u rfl])
   refine⟨m',?_,r2,r3⟩
   rw[<-r1]
   simp only[x1v]
   unfold x3l x6j x3k
   simp(disch:=omega) [h.len xr3,hi,ix,ld_int,c,i1,i2,hm]
theorem x14n(d:Nat){a:AV}{ls:List Int}{n:Nat}(h:Ints a ls)(hl:ls.length=n)(hn:n<=1000)(hls:∀v,v<n->0<=at0 ls v/\at0 ls v<=v) :
 ∃m',xow (d+1) [] x1m [a] mem0=some (srI (0,3,8) n,m')/\m'.get (0,3,8)=some (.row ((nmM ls).1.flatMap intE) 0 false)/\(nmM ls).1.length=n:=by
 obtain⟨m',r1,r2,r3⟩:=x14m d [] h hl hn hls n 0 NN (List.replicate n 0,0) ((⟨[],1⟩:Mem).new (0,3,8) (.row ((List.replicate n (0:Int)).flatMap intE) 0 false)) 7 (by omega) (by rw[xq7];omega) (by simp) (by simp) (by simp) (by simp)
 have e:(List.range' 0 n).foldl (nmS ls) (List.replicate n 0,0)=nmM ls:=by unfold nmM;rw[hl,List.range_eq_range']
 rw[e]at r2 r3
 refine⟨m',?_,r2,r3⟩
 rw[xkw]
 unfold x7s x6k x9p
 have e0:(0:Int)<=(n:Int):=by omega
 have e1:(n:Int)<=1000000:=by omega
 simp[mem0,h.len xr3,hl,xtl,xyu e0 e1]
 exact r1
structure PMem (n:Nat) (ev:AV) (ls:List Int) (m:Mem):Prop where
 a:m.get (0,0,1)=some (.row [I n,ev] 0 false)
 b:m.get (0,4,12)=some (.row (ls.flatMap intE) 0 false)
theorem l_pedges(d:Nat)(hs:FHs){n:Nat}{ev:AV}{l:List Edge}(h:Sl Edge.c ev l)(hn:n<=200)(hl:l.length<=600)(hed:∀e∈l,EdgeIn n e/\e.fr≠e.to)(rec0:AV->AV->AV->Mem->Nat->Option (AV×Mem))(t5:AV) :
 ∀(suf:List Edge) (k j:Nat) (s:List Int×Bool) (m:Mem) (fc:Nat),l.drop k=suf->suf.length<j->s.1.length=n->PMem n ev s.1 m ->
 ∃m' fc',x19 (xow d) hs 0 rec0 j (.ptr (0,0,1) 0 0) (srI (0,4,12) n) t5 (B s.2) (I k) m fc=x3c (xow d) hs 0 rec0 (.ptr (0,0,1) 0 0) (srI (0,4,12) n) t5 (B (xqc suf s).2) m' fc'/\PMem n ev (xqc suf s).1 m'/\(xqc suf s).1.length=n:=by
 intro suf
 induction suf with
 |nil=>
  intro k j s m fc hd hj hsl hM
  obtain⟨j,rfl⟩:∃i,j=i+1:=⟨j-1,by simp at hj;omega⟩
  have hk:¬((k:Int)<(l.length:Int)):=by have:=x19a.mp hd;omega
  refine⟨m,fc+5,?_,hM,hsl⟩
  simp only[x19]
  unfold x2o
  simp[hM.a,h.one,h.len xqf,hk,xqc]
 |cons e r ih=>
  intro k j s m fc hd hj hsl hM
  obtain⟨j,rfl⟩:∃i,j=i+1:=⟨j-1,by simp at hj;omega⟩
  obtain⟨hk,hke,hd⟩:=xrx hd
  have hk':(k:Int)<(l.length:Int):=by omega
  have ix:=h.ix Edge.len hk
  have ld:=xuw (m:=m) Edge.len (by omega) hk
  rw[hke]at ld
  simp only[Edge.c]at ld
  obtain⟨⟨f0,f1,t0,t1,j0,j1,w0,w1⟩,hne⟩:=hed e (hke▸x194 hk)
  have i1:=xso (id:=(0,4,12)) (n:=n) f0 f1
  have i2:=xso (id:=(0,4,12)) (n:=n) t0 t1
  have l1:e.fr.toNat<s.1.length:=by omega
  have l2:e.to.toNat<s.1.length:=by omega
  have hMa:=hM.a
  have hMb:=hM.b
  have ep:xqc (e::r) s=xqc r (xr5 s e):=rfl
  rw[ep]
  obtain⟨M,hMM⟩:∃M:Mem,M=(m.new (0,fc+5+5,8) (.row [I 0,I 0,I 0,I 0] 0 false)).set (0,fc+5+5,8) (.row e.c 0 false):=⟨_,rfl⟩
  have ga:M.get (0,0,1)=some (.row [I n,ev] 0 false):=by rw[hMM,Mem.get_set,x17t (by simp),Mem.get_new,x17t (by simp)];exact hMa
  have gb:M.get (0,4,12)=some (.row (s.1.flatMap intE) 0 false):=by rw[hMM,Mem.get_set,x17t (by simp),Mem.get_new,x17t (by simp)];exact hMb
  by_cases c1:0<e.wt
  rotate_left
  .have e2:xr5 s e=s:=by unfold xr5;rw[x17t λx=>c1 x.1]
   rw[e2]
   obtain⟨m',fc',r1,r2,r3⟩:=ih (k+1) j s M (fc+43) hd (by simp at hj;omega) hsl ⟨ga,gb⟩
   refine⟨m',fc',?_,r2,r3⟩
   rw[<-r1,hMM]
   simp only[x19]
   unfold x2o x3d x2n
   simp(disch:=omega) [hMa,hMb,h.one,h.len xqf,hk',ix,ld,xsa,Edge.c,i1,i2,c1,Mem.get_set,Mem.get_new]
  .by_cases c2:at0 s.1 e.fr.toNat=at0 s.1 e.to.toNat
   .have e2:xr5 s e=s:=by unfold xr5;rw[x17t λx=>x.2 c2]
    rw[e2]
    obtain⟨m',fc',r1,r2,r3⟩:=ih (k+1) j s M (fc+43) hd (by simp at hj;omega) hsl ⟨ga,gb⟩
    refine⟨m',fc',?_,r2,r3⟩
    rw[<-r1,hMM]
    simp only[x19]
    unfold x2o x3d x2n
    simp(disch:=omega) [hMa,hMb,h.one,h.len xqf,hk',ix,ld,xsa,Edge.c,i1,i2,c1,c2,Mem.get_set,Mem.get_new]
   .have e2:xr5 s e=((s.1.set e.fr.toNat (minI (at0 s.1 e.fr.toNat) (at0 s.1 e.to.toNat))).set e.to.toNat (minI (at0 s.1 e.fr.toNat) (at0 s.1 e.to.toNat)),true):=by unfold xr5;rw[x17u ⟨c1,c2⟩]
    rw[e2]
    obtain⟨mi,hmi⟩:∃mi,mi=minI (at0 s.1 e.fr.toNat) (at0 s.1 e.to.toNat):=⟨_,rfl⟩
    rw[<-hmi]
    have hmi':(if at0 s.1 e.to.toNat<at0 s.1 e.fr.toNat then at0 s.1 e.to.toNat else at0 s.1 e.fr.toNat)=mi:=hmi.symm
    have l3:e.to.toNat<(s.1.set e.fr.toNat mi).length:=by simpa using l2
    obtain⟨m',fc',r1,r2,r3⟩:=ih (k+1) j ((s.1.set e.fr.toNat mi).set e.to.toNat mi,true) ((M.set (0,4,12) (.row ((s.1.set e.fr.toNat mi).flatMap intE) 0 false)).set (0,4,12) (.row (((s.1.set e.fr.toNat mi).set e.to.toNat mi).flatMap intE) 0 false)) (fc+56) hd (by simp at hj;omega) (by simpa using hsl)
     ⟨by rw[Mem.get_set,x17t (by simp),Mem.get_set,x17t (by simp)];exact ga,by rw[Mem.get_set,x17u rfl]⟩
    refine⟨m',fc',?_,r2,r3⟩
    rw[<-r1,hMM]
    simp only[x19]
    unfold x2o x3d x2n
    simp(disch:=omega) [hMa,hMb,h.one,h.len xqf,hk',ix,ld,xsa,Edge.c,i1,i2,c1,c2,Mem.get_set,Mem.get_new,hmi',xoz,disj,tR,tS]
theorem l_prounds(d:Nat)(hs:FHs){n:Nat}{ev:AV}{l:List Edge}(h:Sl Edge.c ev l)(hn:n<=200)(hl:l.length<=600)(hed:∀e∈l,EdgeIn n e/\e.fr≠e.to) :
 ∀(k r j:Nat) (ls:List Int) (m:Mem) (fc:Nat),r+k=n->k<j->ls.length=n->PMem n ev ls m ->
 ∃m' fc',xy (xow d) hs 0 j (.ptr (0,0,1) 0 0) (srI (0,4,12) n) (I r) m fc=x3b (xow d) hs 0 (srI (0,4,12) n) m' fc'/\PMem n ev (xsc l k ls) m':=by
 intro k
 induction k with
 |zero=>
  intro r j ls m fc hk hj hls hM
  obtain⟨j,rfl⟩:∃i,j=i+1:=⟨j-1,by omega⟩
  have hi:¬((r:Int)<(n:Int)):=by omega
  refine⟨m,fc+4,?_,hM⟩
  simp only[xy]
  unfold x5w
  simp[hM.a,hi]
 |succ k ih=>
  intro r j ls m fc hk hj hls hM
  obtain⟨j,rfl⟩:∃i,j=i+1:=⟨j-1,by omega⟩
  have hi:(r:Int)<(n:Int):=by omega
  obtain⟨m1,fc1,e1,e2,e3⟩:=l_pedges d hs h hn hl hed (xy (xow d) hs 0 j) (I r) l 0 NN (ls,false) m (fc+6) rfl (by rw[xq7];omega) hls hM
  have start:xy (xow d) hs 0 (j+1) (.ptr (0,0,1) 0 0) (srI (0,4,12) n) (I r) m fc=x3c (xow d) hs 0 (xy (xow d) hs 0 j) (.ptr (0,0,1) 0 0) (srI (0,4,12) n) (I r) (B (xqc l (ls,false)).2) m1 fc1:=by
   rw[<-e1]
   simp only[xy]
   unfold x5w x92 x91
   simp[hM.a,hi]
  rw[start]
  simp only[xsc]
  unfold x3c x90
  cases c:(xqc l (ls,false)).2
  .refine⟨m1,fc1+2,?_,?_⟩
   .simp
   .simpa using e2
  .obtain⟨m2,fc2,f1,f2⟩:=ih (r+1) j (xqc l (ls,false)).1 m1 (fc1+5) (by omega) (by omega) e3 e2
   refine⟨m2,fc2,?_,?_⟩
   .rw[<-f1]
    simp(disch:=omega)
   .simpa using f2
def ownM(n k:Nat):List Int:=(List.range k).foldl (λls i=>ls.set i (i:Int)) (List.replicate n 0)
theorem xw0(n:Nat):∀k,(ownM n k).length=n
 |0=>by simp[ownM]
 |k+1=>by
  have:=xw0 n k
  unfold ownM at this ⊢
  rw[x1ah,x1as]
  simpa using this
theorem x12i(n k:Nat):ownM n (k+1)=(ownM n k).set k k:=by
 unfold ownM
 rw[x1ah,x1as]
 rfl
theorem x12j(n:Nat):∀k,k<=n->∀v,v<k->at0 (ownM n k) v=v
 |0,_,v,h=>by omega
 |k+1,hk,v,h=>by
  rw[x12i,xtn (by rw[xw0];omega)]
  by_cases e:v=k
  .rw[x17u e,e]
  .rw[x17t e];exact x12j n k (by omega) v (by omega)
theorem l_own(d:Nat)(hs:FHs){n:Nat}{ev:AV}(hev:ev.one=true)(hn:n<=200) :
 ∀(r k j:Nat) (m:Mem) (fc:Nat),k+r=n->r<j->PMem n ev (ownM n k) m ->
 ∃m' fc',x2p (xow d) hs 0 j (.ptr (0,0,1) 0 0) (srI (0,4,12) n) (I k) m fc=x5x (xow d) hs 0 (.ptr (0,0,1) 0 0) (srI (0,4,12) n) m' fc'/\PMem n ev (ownM n n) m':=by
 intro r
 induction r with
 |zero=>
  intro k j m fc hk hj hM
  obtain⟨j,rfl⟩:∃i,j=i+1:=⟨j-1,by omega⟩
  obtain rfl:k=n:=by omega
  refine⟨m,fc+4,?_,hM⟩
  simp only[x2p]
  unfold x5y
  simp[hM.a]
 |succ r ih=>
  intro k j m fc hk hj hM
  obtain⟨j,rfl⟩:∃i,j=i+1:=⟨j-1,by omega⟩
  have hi:(k:Int)<(n:Int):=by omega
  have l1:k<(ownM n k).length:=by rw[xw0];omega
  have i1:sIx 1 (srI (0,4,12) n) (I k)=some (.ptr (0,4,12) 0 k):=by simpa using xso (id:=(0,4,12)) (n:=n) (k:=(k:Int)) (by omega) (by omega)
  obtain⟨m',fc',e1,e2⟩:=ih (k+1) j (m.set (0,4,12) (.row ((ownM n (k+1)).flatMap intE) 0 false)) (fc+12) (by omega) (by omega) ⟨by rw[Mem.get_set,x17t (by simp)];exact hM.a,by rw[Mem.get_set,x17u rfl]⟩
  refine⟨m',fc',?_,e2⟩
  rw[<-e1,x12i]
  simp only[x2p]
  unfold x5y
  simp(disch:=omega) [hM.a,hM.b,hi,i1,xyt l1]
theorem w_rParts(d:Nat){n:Nat}{ev:AV}{l:List Edge}(h:Sl Edge.c ev l)(hn:n<=200)(hl:l.length<=600)(hed:∀e∈l,EdgeIn n e/\e.fr≠e.to)(m:Mem) :
 xox (xow (d+2)) x1i [.agg [I n,ev]] m=some (.slit ((xqb n l).flatMap intE) n false,m):=by
 obtain⟨m1,hm1⟩:∃m1:Mem,m1=((⟨[],1⟩:Mem).new (0,0,1) (.row [I n,ev] 0 false)).new (0,4,12) (.row ((List.replicate n (0:Int)).flatMap intE) 0 false):=⟨_,rfl⟩
 have hM1:PMem n ev (ownM n 0) m1:=⟨by rw[hm1,Mem.get_new,x17t (by simp)];simp,by rw[hm1];simp[ownM]⟩
 obtain⟨m2,fc2,e1,e2⟩:=l_own (d+1) [] h.one hn n 0 NN m1 7 (by omega) (by rw[xq7];omega) hM1
 obtain⟨m3,fc3,e3,e4⟩:=l_prounds (d+1) [] h hn hl hed n 0 NN (ownM n n) m2 (fc2+1) (by omega) (by rw[xq7];omega) (xw0 n n) e2
 obtain⟨p1,p2,p3⟩:=parts_eq hn hed (xw0 n n) (x12j n n (x17z _))
 obtain⟨ls,hls⟩:∃ls,ls=xsc l n (ownM n n):=⟨_,rfl⟩
 rw[<-hls]at p1 p2 p3 e4
 have hza:Ints (.slit (ls.flatMap intE) ls.length false) ls:=Sl.lit ls false
 obtain⟨mN,n1,n2,n3⟩:=x14n d hza p2 (by omega) p3
 have zf:=x12d e4.b 4
 rw[p1]at n2 n3
 have zr:=x12d n2 4
 rw[n3]at zr
 obtain⟨m4,-,hc⟩:=call0_any (m:=m3) (call:=xow (d+1)) (f:=x1m) (l:=[srI (0,4,12) n]) (l':=[.slit (ls.flatMap intE) ls.length false]) (by
  simp only[x18h,x196]
  rw[p2]at zf
  rw[show Go.Ix.frz m3.get deep (srI (0,4,12) n)=_ from zf,p2]
  rfl) n1 zr
 refine call0 (m':=m4) (by simp[h.still1]) ?_ rfl
 rw[xkj]
 unfold x7h x5z x93
 have e0:(0:Int)<=(n:Int):=by omega
 have e00:(n:Int)<=1000000:=by omega
 simp[mem0,h.one,xtl,xyu e0 e00]
 rw[<-hm1]
 rw[show((0:Nat):Int)=0 from rfl]at e1 e3
 rw[e1]
 unfold x5x
 rw[e3]
 unfold x3b
 rw[hc]
 rfl
end Go.Ix
set_option maxRecDepth 10000
namespace Go.Ix
open Go.Proofs
theorem xzf:∀(K u k:Nat),u<10 ^ k->1<=k->(digF K u).length<=k
 |0,u,k,_,_=>by simp[digF]
 |K+1,u,k,h,hk=>by
  unfold digF
  split
  .simp;omega
  .rename_i c
   obtain⟨k,rfl⟩:∃q,k=q+1:=⟨k-1,by omega⟩
   have h2:u / 10<10 ^ k:=by rw[Nat.pow_succ]at h;omega
   have hk1:1<=k:=by
    rcases Nat.eq_zero_or_pos k with rfl|h3
    .simp at h;omega
    .exact h3
   have:=xzf K (u / 10) k h2 hk1
   simp;omega
theorem nbr_small{n:Int}(h0:-9999999<=n)(h1:n<=9999999):nbrM (decM n) 7=some n:=by
 rw[xyr (by omega) (by omega),x17u]
 unfold unsg decM
 by_cases c:n<0
 .rw[x17u c]
  have:=xzf 20 n.natAbs 7 (by omega) (by omega)
  simpa using this
 .rw[x17t c]
  have:=xzf 20 n.toNat 7 (by omega) (by omega)
  split
  .simp;omega
  .exact this
theorem x12k:∀l:List Int,(∀x∈l,-9999999<=x/\x<=9999999)->xqi 7 (l.map decM)=some l
 |[],_=>rfl
 |x::l,h=>by
  have ih:=x12k l λy hy=>h y (x183 _ hy)
  have hx:=h x (by simp)
  show xqi 7 (decM x::l.map decM)=_
  unfold xqi
  rw[nbr_small hx.1 hx.2,ih]
def xt7(e:Edge):List Int:=[e.fr,e.to,e.jump,e.wt]
theorem x12l:∀l:List Edge,xq8 (l.flatMap xt7)=l
 |[]=>rfl
 |e::l=>by
  show xq8 (e.fr::e.to::e.jump::e.wt::l.flatMap xt7)=_
  unfold xq8
  rw[x12l l]
theorem edgeN_len(l:List Edge):(l.flatMap xt7).length=4*l.length:=by
 induction l with
 |nil=>rfl
 |cons e l ih=>simp[xt7]at ih ⊢;omega
theorem x12m(n:Int)(l:List Edge):decM n::l.flatMap xri=(n::l.flatMap xt7).map decM:=by
 rw[x18f,List.map_flatMap];rfl
theorem x14o{n:Int}{l:List Edge}(h:(xpo n l).2=0):xpt (xsp n l)=(n,l,0):=by
 have hr:=xyo h
 have hb:∀x∈n::l.flatMap xt7,-9999999<=x/\x<=9999999:=by
  intro x hx
  rcases x186.1 hx with rfl|hx
  .have:=hr.lo;have:=hr.hi;omega
  .obtain⟨e,he,hx⟩:=x18y.1 hx
   have:=hr.ed e he
   have:=hr.lo;have:=hr.hi
   unfold xt7 at hx
   simp only[x186,x1bd,or_false]at hx
   rcases hx with rfl|rfl|rfl|rfl<;>omega
 have hcut:cutM 32 (xsp n l)=decM n::l.flatMap xri:=by
  unfold xsp
  refine x11u (by simp) λw hw=>?_
  rw[x12m]at hw
  obtain⟨x,hx,rfl⟩:=x18z.1 hw
  have:=hb x hx
  exact dec_no32 x (by omega) (by omega)
 unfold xpt
 rw[hcut,x12m,x12k _ hb]
 show netL (n::l.flatMap xt7)=_
 unfold netL
 have h1:=edgeN_len l
 rw[x17t (by simp only[x188,h1];omega)]
 have h2:at0 (n::l.flatMap xt7) 0=n:=rfl
 rw[h2,x19h,x180,x12l,x17t (by simp[h])]
theorem w_pParts(d:Nat){n:Int}{ev:AV}{l:List Edge}(h:Sl Edge.c ev l)(m:Mem) :
 ∃a,Ints a (if(xpo n l).2=0 then xqb n.toNat l else[])/\xox (xow (d+6)) x20 [.agg [I n,ev]] m=some (.tup [a,I (xpo n l).2],m):=by
 have ho:[I n,ev].all AV.one=true:=by simp[h.one]
 have hop:=λm=>w_open (d+1) (n:=n) h m
 obtain⟨m1,hm1⟩:∃m1:Mem,m1=(⟨[],1⟩:Mem).new (0,0,1) (.row [I n,ev] 0 false):=⟨_,rfl⟩
 have q1:m1.get (0,0,1)=some (.row [I n,ev] 0 false):=by rw[hm1];simp
 have l1:∀{m:Mem} {id:Id},m.get id=some (.row [I n,ev] 0 false)->sLd true 2 (.ptr id 0 0) m=some (.agg [I n,ev]):=λhg=>by rw[xqe hg];simp[h.one]
 obtain⟨m2,hm2⟩:∃m2:Mem,m2=m1.new (0,0+8,4) (.row [I 0,nilS] 0 false):=⟨_,rfl⟩
 have q2:m2.get (0,0+8,4)=some (.row [I 0,nilS] 0 false):=by rw[hm2,Mem.get_new,x17u rfl]
 obtain⟨m3,hm3⟩:∃m3:Mem,m3=m2.set (0,0+8,4) (.row (xp7 [I 0,nilS] 0 (AV.agg [I n,ev]).cells) 0 false):=⟨_,rfl⟩
 have q3:m3.get (0,0+8,4)=some (.row [I n,ev] 0 false):=by rw[hm3,Mem.get_set,x17u rfl,xpz];rfl
 by_cases c:(xpo n l).2=0
 .have hr:=xyo c
  have hnn:n=(n.toNat:Int):=by have:=hr.lo;omega
  obtain⟨k,hk⟩:∃k,k=n.toNat:=⟨_,rfl⟩
  have hi:=hr.hi
  have hed:∀e∈l,EdgeIn k e/\e.fr≠e.to:=by rw[hk];exact inEdge hr
  rw[x17u c,c]
  have hpt:=λm=>w_parts d (n:=k) h hr.len (by omega) hed m
  rw[<-hk]at hnn ⊢
  have hlen:=(hpt mem0).2
  refine⟨.slit ((xqb k l).flatMap intE) k false,by have:=Sl.lit (xqb k l) false (enc:=intE);rwa[hlen]at this,?_⟩
  refine call0_tup (m':=m3) (by simp[h.still1]) ?_ rfl
  rw[xds]
  unfold x43 x38
  simp only[mem0,xtk,xpz,ho,xpf,x187]
  rw[<-hm1]
  simp only[l1 q1,xoy,hop,xrw,x192,x193,xrj,z_pnet]
  rw[show(0,8,4)=((0,0+8,4):Id)from rfl,<-hm2,xq6 (z:=2) (x:=.agg [I n,ev]) q2 (by rw[xpz];rfl) (by simp) (by rw[xpz];exact ho),<-hm3]
  simp only[c,xro,x184,x18k,xoy,xpl,l1 q3]
  rw[hnn,(hpt m3).1]
  rfl
 .rw[x17t c]
  refine⟨nilS,.inl ⟨rfl,rfl⟩,?_⟩
  refine call0_tup (m':=m3) (by simp[h.still1]) ?_ rfl
  rw[xds]
  unfold x43 x38
  simp only[mem0,xtk,xpz,ho,xpf,x187]
  rw[<-hm1]
  simp only[l1 q1,xoy,hop,xrw,x192,x193,xrj,z_pnet]
  rw[show(0,8,4)=((0,0+8,4):Id)from rfl,<-hm2,xq6 (z:=2) (x:=.agg [I n,ev]) q2 (by rw[xpz];rfl) (by simp) (by rw[xpz];exact ho),<-hm3]
  simp only[c,xro,x185,x18b,xoy,xph]
theorem law_UnwrapNets{n:Int}{ev:AV}{l:List Edge}(h:Sl Edge.c ev l)(hn:I64 n)(hb:∀e∈l,e.i64)(s:ByteArray):∃m',xow 31 [] x2y [.agg [I n,ev],T s] mem0=some (B true,m'):=by
 obtain⟨q,hq⟩:∃q,q=s.data.toList:=⟨_,rfl⟩
 rw[Tx_of s,<-hq]
 rw[xkb]
 unfold x79 x5c
 have ho:[I n,ev].all AV.one=true:=by simp[h.one]
 simp only[mem0,xtk,xpz,ho,xpf,x187]
 obtain⟨m1,hm1⟩:∃m1:Mem,m1=(⟨[],1⟩:Mem).new (0,0,2) (.row [I n,ev] 0 false):=⟨_,rfl⟩
 have q1:m1.get (0,0,2)=some (.row [I n,ev] 0 false):=by rw[hm1];simp
 rw[<-hm1]
 have l2:∀{m:Mem} {id:Id} {a b:AV},m.get id=some (.row [a,b] 0 false)->a.one=true->b.one=true->sLd true 2 (.ptr id 0 0) m=some (.agg [a,b]):=λhg h1 h2=>by rw[xqe hg];simp[h1,h2]
 have le:sLd false 1 (.ptr (0,0,2) 0 1) m1=some ev:=by rw[xqe q1];simp[h.one]
 simp only[w_awake,xoy,xtj,x18k,xpl,xqw,x187,le,h.len xqf,xsm,xt4,xt3,sW_t,sW_f]
 by_cases g0:(16<l.length/\l.length<=600)\/602<l.length\/300<q.length
 .by_cases g1:(16:Int)<l.length<;>by_cases g2:(l.length:Int)<=600<;>by_cases g3:(602:Int)<l.length<;>by_cases g4:(300:Int)<q.length<;>first
   |(exfalso;omega)
   |(simp only[g1,g2,g3,g4,x184,x185,xpf,xqa,xoy,xq5,sLe_I,xsm,le,h.len xqf,xqw,x187,xr4,x18k,x18b,sW_U,sW_t,sW_f,xph];exact⟨_,rfl⟩)
 have hl7:l.length<=700:=by omega
 have hq3:q.length<=300:=by omega
 obtain⟨ev',hev,hcp⟩:=w_CopyNet 29 (n:=n) h (by omega) m1
 have hck:=λm=>xyn 27 (n:=n) hev m
 obtain⟨pa,hpa,hpp⟩:=w_pParts 24 (n:=n) hev m1
 have hfm:=λm=>x14h 28 (n:=n) hev hn hb hl7 m
 have hrc:=λm=>x11r 28 (n:=n) h m
 have hrf:=λm=>x14i 27 (n:=n) h hn hb hl7 m
 obtain⟨F,hF⟩:∃F,F=xsp n l:=⟨_,rfl⟩
 have hFl:F.length<=100000:=by rw[hF];exact formM_len n hl7
 rw[<-hF]at hfm hrf
 have ld1':=l2 q1 rfl h.one
 obtain⟨a1,⟨e1,ha1,he1⟩,hp1⟩:=callF (l:=[Tx F]) rfl (x12a 24 hFl) m1
 subst ha1
 obtain⟨m2,hm2⟩:∃m2:Mem,m2=m1.new (0,85,12) (.row [I 0,nilS] 0 false):=⟨_,rfl⟩
 have q2:m2.get (0,85,12)=some (.row [I 0,nilS] 0 false):=by rw[hm2,Mem.get_new,x17u rfl]
 obtain⟨m3,hm3⟩:∃m3:Mem,m3=m2.set (0,85,12) (.row (xp7 [I 0,nilS] 0 (AV.agg [I (xpt F).1,e1]).cells) 0 false):=⟨_,rfl⟩
 have q3:m3.get (0,85,12)=some (.row [I (xpt F).1,e1] 0 false):=by rw[hm3,Mem.get_set,x17u rfl,xpz];rfl
 obtain⟨a2,⟨e2,ha2,he2⟩,hp2⟩:=callF (l:=[Tx F]) rfl (x12b 26 hFl) m3
 subst ha2
 obtain⟨m4,hm4⟩:∃m4:Mem,m4=m3.new (0,93,14) (.row [I 0,nilS] 0 false):=⟨_,rfl⟩
 have q4:m4.get (0,93,14)=some (.row [I 0,nilS] 0 false):=by rw[hm4,Mem.get_new,x17u rfl]
 obtain⟨m5,hm5⟩:∃m5:Mem,m5=m4.set (0,93,14) (.row (xp7 [I 0,nilS] 0 (AV.agg [I (xpt F).1,e2]).cells) 0 false):=⟨_,rfl⟩
 have q5:m5.get (0,93,14)=some (.row [I (xpt F).1,e2] 0 false):=by rw[hm5,Mem.get_set,x17u rfl,xpz];rfl
 have q5b:m5.get (0,85,12)=some (.row [I (xpt F).1,e1] 0 false):=by rw[hm5,Mem.get_set,x17t (by simp),hm4,Mem.get_new,x17t (by simp)];exact q3
 have q5c:m5.get (0,0,2)=some (.row [I n,ev] 0 false):=by
  rw[hm5,Mem.get_set,x17t (by simp),hm4,Mem.get_new,x17t (by simp),hm3,Mem.get_set,x17t (by simp),hm2,Mem.get_new,x17t (by simp)];exact q1
 obtain⟨a3,⟨e3,ha3,he3⟩,hp3⟩:=callF (l:=[Tx q]) rfl (x12a 24 (s:=q) (by omega)) m5
 subst ha3
 obtain⟨m6,hm6⟩:∃m6:Mem,m6=m5.new (0,127,16) (.row [I 0,nilS] 0 false):=⟨_,rfl⟩
 have q6:m6.get (0,127,16)=some (.row [I 0,nilS] 0 false):=by rw[hm6,Mem.get_new,x17u rfl]
 obtain⟨m7,hm7⟩:∃m7:Mem,m7=m6.set (0,127,16) (.row (xp7 [I 0,nilS] 0 (AV.agg [I (xpt q).1,e3]).cells) 0 false):=⟨_,rfl⟩
 have q7:m7.get (0,127,16)=some (.row [I (xpt q).1,e3] 0 false):=by rw[hm7,Mem.get_set,x17u rfl,xpz];rfl
 obtain⟨a4,⟨e4,ha4,he4⟩,hp4⟩:=callF (l:=[Tx q]) rfl (x12b 26 (s:=q) (by omega)) m7
 subst ha4
 obtain⟨m8,hm8⟩:∃m8:Mem,m8=m7.new (0,135,18) (.row [I 0,nilS] 0 false):=⟨_,rfl⟩
 have q8:m8.get (0,135,18)=some (.row [I 0,nilS] 0 false):=by rw[hm8,Mem.get_new,x17u rfl]
 obtain⟨m9,hm9⟩:∃m9:Mem,m9=m8.set (0,135,18) (.row (xp7 [I 0,nilS] 0 (AV.agg [I (xpt q).1,e4]).cells) 0 false):=⟨_,rfl⟩
 have q9:m9.get (0,135,18)=some (.row [I (xpt q).1,e4] 0 false):=by rw[hm9,Mem.get_set,x17u rfl,xpz];rfl
 have q9b:m9.get (0,127,16)=some (.row [I (xpt q).1,e3] 0 false):=by rw[hm9,Mem.get_set,x17t (by simp),hm8,Mem.get_new,x17t (by simp)];exact q7
 have bound:∀(s:List UInt8),s.length<=100000->(xpt s).2.1.length<=1000000:=λs hs=>by
  unfold xpt
  split
  .simp
  .rename_i l hl
   have h1:=xv1 hl
   have h2:=xvy 32 s
   have h3:=xx6 (l.drop 1)
   rw[x19i]at h3
   unfold netL
   split
   .simp
   .split
    .simp
    .show(xq8 (l.drop 1)).length<=_
     omega
 obtain⟨r1,hs1,hr1⟩:=xza 29 (n:=(xpt F).1) (n':=(xpt F).1) he1 he2 (bound F hFl) m5
 have hr1:r1=true:=hr1.2 ⟨rfl,rfl⟩
 subst hr1
 obtain⟨r2,hs2,hr2⟩:=xza 29 (n:=(xpt q).1) (n':=(xpt q).1) he3 he4 (bound q (by omega)) m9
 have hr2:r2=true:=hr2.2 ⟨rfl,rfl⟩
 subst hr2
 obtain⟨r3,hs3,hr3⟩:=xza 29 (n:=(xpt F).1) (n':=n) he1 h (bound F hFl) m5
 have u12:=l2 q5b rfl he1.one
 have u14:=l2 q5 rfl he2.one
 have u2:=l2 q5c rfl h.one
 have u16:=l2 q9b rfl he3.one
 have u18:=l2 q9 rfl he4.one
 have st3:∀{R:Type} (k:Mem->Option R),sSt 2 (.ptr (0,85,12) 0 0) (.agg [I (xpt F).1,e1]) m2 k=k m3:=λk=>by
  rw[xq6 (z:=2) (x:=.agg [I (xpt F).1,e1]) q2 (by rw[xpz];rfl) (by simp) (by rw[xpz];simp[he1.one]),<-hm3]
 have st5:∀{R:Type} (k:Mem->Option R),sSt 2 (.ptr (0,93,14) 0 0) (.agg [I (xpt F).1,e2]) m4 k=k m5:=λk=>by
  rw[xq6 (z:=2) (x:=.agg [I (xpt F).1,e2]) q4 (by rw[xpz];rfl) (by simp) (by rw[xpz];simp[he2.one]),<-hm5]
 have st7:∀{R:Type} (k:Mem->Option R),sSt 2 (.ptr (0,127,16) 0 0) (.agg [I (xpt q).1,e3]) m6 k=k m7:=λk=>by
  rw[xq6 (z:=2) (x:=.agg [I (xpt q).1,e3]) q6 (by rw[xpz];rfl) (by simp) (by rw[xpz];simp[he3.one]),<-hm7]
 have st9:∀{R:Type} (k:Mem->Option R),sSt 2 (.ptr (0,135,18) 0 0) (.agg [I (xpt q).1,e4]) m8 k=k m9:=λk=>by
  rw[xq6 (z:=2) (x:=.agg [I (xpt q).1,e4]) q8 (by rw[xpz];rfl) (by simp) (by rw[xpz];simp[he4.one]),<-hm9]
 by_cases c:(xpo n l).2=0
 .have hr:=xyo c
  have hpb:=x14o c
  rw[<-hF]at hpb
  have hr3:r3=true:=hr3.2 ⟨by rw[hpb],by rw[hpb]⟩
  subst hr3
  rw[x17u c]at hpa
  obtain⟨k,hk⟩:∃k,k=n.toNat:=⟨_,rfl⟩
  have hnn:n=(k:Int):=by have:=hr.lo;omega
  have hi:=hr.hi
  have hed:∀e∈l,EdgeIn k e/\e.fr≠e.to:=by rw[hk];exact inEdge hr
  rw[<-hk]at hpa
  have hrp:xox (xow 30) x1i [.agg [I n,ev]] m5=some (.slit ((xqb k l).flatMap intE) k false,m5):=by
   rw[hnn];exact w_rParts 28 h (by omega) hr.len hed m5
  have hpl:(xqb k l).length=k:=(w_parts 0 (n:=k) h hr.len (by omega) hed mem0).2
  have hrpi:Ints (.slit ((xqb k l).flatMap intE) k false) (xqb k l):=by have:=Sl.lit (xqb k l) false (enc:=intE);rwa[hpl]at this
  have hit:=w_Ints 29 hpa hrpi (by omega) m5
  rw[x190 rfl]at hit
  by_cases g1:(16:Int)<l.length
  .exfalso;have:=hr.len;omega
  have g3:¬(602:Int)<l.length:=by omega
  have g4:¬(300:Int)<q.length:=by omega
  simp only[g1,g3,g4,x184,x185,xpf,xqa,xoy,xq5,sLe_I,xsm,le,h.len xqf,xqw,x187,xr4,x18k,x18b,sW_U,sW_t,sW_f,xpl,xph,ld1',hcp,hck,hpp,hfm,hrc,hrf,xrw,x192,x193,xro,c,x_ne,xwt]
  simp only[hp1,xoy,xrw,x192,x193,xrj,xv3,<-hm2,st3,hp2,<-hm4,st5,xro,x184,x18k,x18b,xpf,xqa,u12,u14,u2,hs1,hs3,xq5,xtj,xu4,hrp,hit,sW_t,sW_f,xpl,xph,hp3,<-hm6,st7,hp4,<-hm8,st9,u16,u18,hs2]
  exact⟨_,rfl⟩
 .rw[x17t c]at hpa
  have hpz:sLen Tryz.prog x8 pa=some (I 0):=hpa.len xr3
  have g4:¬(300:Int)<q.length:=by omega
  have g3:¬(602:Int)<l.length:=by omega
  by_cases g1:(16:Int)<l.length<;>by_cases g2:(l.length:Int)<=600<;>first
   |(exfalso;omega)
   |(simp only[g1,g2,g3,g4,x184,x185,xpf,xqa,xoy,xq5,sLe_I,xsm,le,h.len xqf,xqw,x187,xr4,x18k,x18b,sW_U,sW_t,sW_f,xpl,xph,ld1',hcp,hck,hpp,hfm,hrc,hrf,xrw,x192,x193,xro,c,x_ne,xwt,hpz]
     simp only[hp1,xoy,xrw,x192,x193,xrj,xv3,<-hm2,st3,hp2,<-hm4,st5,xro,x184,x185,c,x18k,x18b,xpf,xqa,u12,u14,u2,hs1,xq5,xtj,xu4,sW_U,sW_t,sW_f,xpl,xph,hp3,<-hm6,st7,hp4,<-hm8,st9,u16,u18,hs2]
     exact⟨_,rfl⟩)
end Go.Ix
