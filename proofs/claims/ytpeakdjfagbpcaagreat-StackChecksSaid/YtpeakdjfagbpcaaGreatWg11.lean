import Derived.Test.YtpeakdjfagbpcaaGreatWg3
import Derived.Test.YtpeakdjfagbpcaaGreatWg10
set_option linter.unusedSimpArgs false
namespace Go.Ix
open Go.Proofs
theorem mul_in{a b:Int}{x y:Nat}(h1:a.natAbs<=x)(h2:b.natAbs<=y):-((x*y:Nat):Int)<=a*b/\a*b<=((x*y:Nat):Int):=by
 have:=Nat.mul_le_mul h1 h2
 rw[<-Int.natAbs_mul]at this
 omega
def x2kr(p:List Int)(e:Edge)(f:Int):List Int:=(p.set e.to.toNat (at0 p e.to.toNat+f)).set e.fr.toNat (at0 p e.fr.toNat-f)
def x2kg(p:List Int)(v:Int):List Edge->List Int->Int×Int
 |e::es,f::fs=>bif wi f (-e.wt) e.wt then x2kg (x2kr p e f) (v+f*e.jump) es fs else(0,2)
 |_,_=>bif p.any (fun x=>!decide (x=0))then(0,25)else(v,0)
def x2kh(n:Int)(l:List Edge)(f:List Int):Int×Int:=
 bif !decide ((f.length:Int)=(l.length:Int))then(0,10)else x2kg (List.replicate n.toNat 0) 0 l f
theorem x2u3(p:List Int)(e:Edge)(f:Int):(x2kr p e f).length=p.length:=by simp[x2kr]
theorem x2zr{p:List Int}{e:Edge}{f:Int}(h1:e.to.toNat≠e.fr.toNat):((p.set e.fr.toNat (at0 p e.fr.toNat-f)).set e.to.toNat (at0 p e.to.toNat+f))=x2kr p e f:=by
 unfold x2kr
 rw[List.set_comm _ _ h1]
def NodeIn(p:List Int)(b:Int):Prop:=∀k,-b<=at0 p k/\at0 p k<=b
theorem NodeIn.up{p:List Int}{b:Int}(h:NodeIn p b){e:Edge}(he:EdgeIn p.length e){f:Int}(h1:-1000<=f)(h2:f<=1000):NodeIn (x2kr p e f) (b+1000):=by
 obtain⟨f0,f1,t0,t1,-⟩:=he
 intro k
 have a:=h k
 have b1:=h e.to.toNat
 have b2:=h e.fr.toNat
 unfold x2kr
 rw[x2qo (by simp;omega),x2qo (by omega)]
 split
 .omega
 .split<;>omega
theorem l_value(d:Nat)(hs:FHs){ev fa:AV}{l:List Edge}{fl:List Int}{n:Nat}(h:Sl Edge.c ev l)(hl:l.length<=600)(hf:Ints fa fl)(hfl:fl.length=l.length)(hn:n<=200)(he:∀e∈l,EdgeIn n e/\e.fr≠e.to) :
 ∀(suf:List Edge) (sf:List Int) (k j:Nat) (p:List Int) (v:Int) (m:Mem) (fc:Nat),l.drop k=suf->fl.drop k=sf->suf.length<j->p.length=n->NodeIn p (k*1000)->-(k*1000000)<=v->v<=k*1000000->OwnI m (0,13,20) p ->
 ∃m',x5h (x2i6 (d+3)) hs 0 j fa (srI (0,13,20) n) (I v) ev (I l.length) (I k) m fc=some (.tup [I (x2kg p v suf sf).1,I (x2kg p v suf sf).2],m'):=by
 intro suf
 induction suf with
 |nil=>
  intro sf k j p v m fc hd hdf hj hp hN v0 v1 ho
  obtain⟨j,rfl⟩:∃i,j=i+1:=⟨j-1,by simp at hj;omega⟩
  have hk0:=List.drop_eq_nil_iff.mp hd
  have hk:¬((k:Int)<(l.length:Int)):=by omega
  simp only[x5h]
  unfold xfo
  subst hp
  have ha:Ints (.slit (p.flatMap intE) p.length false) p:=Sl.lit p false
  have ht:x2mg (x2i6 (d+1)) (.clo x2z []) (fun x=>!decide (x=0)):=by
   intro hs x m
   refine⟨m.next+1,?_⟩
   show x2i6 (d+1) hs x2z [I x] m=_
   rw[x1fk]
   unfold xin xmg
   simp
  obtain⟨n1,hans⟩:=x2vx (d+1) [] ha (by omega) ht mem0
  obtain⟨m2,-,hcall⟩:=call0_any (m:=m) (l:=[srI (0,13,20) p.length,.clo x2z []]) (l':=[.slit (p.flatMap intE) p.length false,.clo x2z []]) (by
   simp only[List.mapM_cons,List.mapM_nil,frz_own ho]
   rfl) hans (x2kc _ 4 rfl)
  have e:x2kg p v [] sf=bif p.any (fun x=>!decide (x=0))then(0,25)else(v,0):=by
   cases sf<;>rfl
  rw[e]
  simp[hk,x5g,hcall]
  cases p.any (fun x=>!decide (x=0))<;>simp
 |cons e r ih=>
  intro sf k j p v m fc hd hdf hj hp hN v0 v1 ho
  obtain⟨j,rfl⟩:∃i,j=i+1:=⟨j-1,by simp at hj;omega⟩
  obtain⟨hk,hke,hd⟩:=x2l7 hd
  have hk':(k:Int)<(l.length:Int):=by omega
  have hkf:k<fl.length:=by omega
  subst hdf
  have ix:=h.ix Edge.len hk
  have ld:=x2jr (m:=m) Edge.len (by omega) hk
  rw[hke]at ld
  simp only[Edge.c]at ld
  obtain⟨hee,hne⟩:=he e (hke▸List.getElem_mem hk)
  have hee':=hee
  obtain⟨f0,f1,t0,t1,j0,j1,w0,w1⟩:=hee'
  have ixf:=hf.ix x2im hkf
  have e1:at0 fl k=fl[k]:=x2io hkf
  have i1:=x2qn (id:=(0,13,20)) t0 t1
  have i2:=x2qn (id:=(0,13,20)) f0 f1
  have b1:=hN e.to.toNat
  have b2:=hN e.fr.toNat
  have htf:e.to.toNat≠e.fr.toNat:=by omega
  have l1:e.to.toNat<p.length:=by omega
  have l2:e.fr.toNat<p.length:=by omega
  unfold OwnI at ho
  have hfm:x2kg p v (e::r) (fl.drop k)=bif wi fl[k] (-e.wt) e.wt then x2kg (x2kr p e fl[k]) (v+fl[k]*e.jump) r (fl.drop (k+1))else(0,2):=by rw[x2j9 hkf];rfl
  rw[hfm]
  simp only[x5h]
  unfold xfo
  cases c:wi fl[k] (-e.wt) e.wt
  .simp(disch:=omega) [hk',ix,ld,x2qj,Edge.c,ixf,x2j0,e1,x2oa,c]
  have hw:=wi_t c
  have hmul:-1000000<=fl[k]*e.jump/\fl[k]*e.jump<=1000000:=by
   have:=mul_in (a:=fl[k]) (b:=e.jump) (x:=1000) (y:=1000) (by omega) (by omega)
   omega
  obtain⟨m',h'⟩:=ih (fl.drop (k+1)) (k+1) j (x2kr p e fl[k]) (v+fl[k]*e.jump)
   ((((m.new (0,fc+4,9) (.row [I 0,I 0,I 0,I 0] 0 false)).set (0,fc+4,9) (.row e.c 0 false)).set (0,13,20) (.row ((p.set e.fr.toNat (at0 p e.fr.toNat-fl[k])).flatMap intE) 0 false)).set (0,13,20) (.row ((x2kr p e fl[k]).flatMap intE) 0 false)) (fc+54) hd rfl (by simp at hj;omega) (by rw[x2u3];exact hp)
   (by have:=hN.up (hp▸hee) (f:=fl[k]) (by omega) (by omega);rwa[show(k:Int)*1000+1000=((k+1:Nat):Int)*1000 by omega]at this) (by omega) (by omega) (by unfold OwnI;simp)
  have l3:e.to.toNat<(p.set e.fr.toNat (at0 p e.fr.toNat-fl[k])).length:=by simpa using l1
  have e2:at0 (p.set e.fr.toNat (at0 p e.fr.toNat-fl[k])) e.to.toNat=at0 p e.to.toNat:=by rw[x2qo l2,if_neg htf]
  simp(disch:=omega) [hk',ix,ld,x2qj,Edge.c,x2oa,i1,i2,ho,ixf,x2j0,e1,e2,c,x2zr htf]
  exact⟨m',h'⟩
theorem inEdge{n:Int}{l:List Edge}(hr:Right n l):∀e∈l,EdgeIn n.toNat e/\e.fr≠e.to:=by
 intro e he
 have:=hr.lo
 obtain⟨⟨a,b⟩,⟨c,d⟩,hne,⟨j0,j1⟩,w0,w1⟩:=hr.ed e he
 exact⟨⟨a,by omega,c,by omega,j0,j1,w0,w1⟩,hne⟩
theorem rep_in(n:Nat):NodeIn (List.replicate n 0) ((0:Nat)*1000):=by
 intro k
 rw[at0_rep]
 omega
theorem w_value(d:Nat){n:Int}{ev fa:AV}{l:List Edge}{fl:List Int}(h:Sl Edge.c ev l)(hr:Right n l)(hf:Ints fa fl)(m:Mem) :
 x2i8 (x2i6 (d+4)) x7l [.agg [I n,ev],fa] m=some (.tup [I (x2kh n l fl).1,I (x2kh n l fl).2],m):=by
 refine Ans.call0_tup ?_ (by simp[h.still1,hf.still]) rfl
 unfold Ans
 rw[x1fb]
 unfold xif xlr
 have hn0:=hr.lo
 have hn1:=hr.hi
 have hl:=hr.len
 simp[mem0,h.one,hf.len x2il,h.len x2qi]
 by_cases c1:(fl.length:Int)=(l.length:Int)
 rotate_left
 .simp[x2kh,c1]
 obtain⟨m',h'⟩:=l_value d [] h hl hf (by omega) (n:=n.toNat) (by omega) (inEdge hr) l fl 0 NN (List.replicate n.toNat 0) 0 (((⟨[],1⟩:Mem).new (0,0,2) (.row [I n,ev] 0 false)).new (0,13,20) (.row ((List.replicate n.toNat (0:Int)).flatMap intE) 0 false)) 21 rfl rfl (by rw[x2in];omega) (by simp) (rep_in _) (by omega) (by omega) (by unfold OwnI;simp)
 simp[x2kh,c1,x2jy,x2wc hn0 (show n<=1000000 by omega),xfp,h.len x2qi]
 exact⟨m',h'⟩
def x2pp(n:Int)(l:List Edge)(f:List Int):Int×Int:=bif decide ((x2ke n l).2=0)then x2kh n l f else(0,(x2ke n l).2)
theorem x2zs(d:Nat){n:Int}{ev fa:AV}{l:List Edge}{fl:List Int}(h:Sl Edge.c ev l)(hf:Ints fa fl)(m:Mem) :
 x2i8 (x2i6 (d+5)) x7d [.agg [I n,ev],fa] m=some (.tup [I (x2pp n l fl).1,I (x2pp n l fl).2],m):=by
 refine Ans.call0_tup ?_ (by simp[h.still1,hf.still]) rfl
 unfold Ans
 rw[x1eu]
 unfold xhz xl2
 simp[mem0,h.one,w_open _ h,z_pnet]
 by_cases c1:(x2ke n l).2=0
 rotate_left
 .simp[x2pp,c1]
 simp[x2pp,c1,w_value d h (x2vv c1) hf]
theorem l_flowOf0(d:Nat)(hs:FHs){n:Nat}{ev:AV}{p:List Int}(hn:n<=200)(hp:p.length=n)(v:Int):∀(suf:List Int) (k j:Nat) (m:Mem) (fc:Nat),p.drop k=suf->suf.length<j ->
 m.get (0,0,2)=some (.row [I n,ev] 0 false)->OwnI m (0,11,19) p ->
 x4i (x2i6 d) hs 0 j (.ptr (0,0,2) 0 0) (srI (0,11,19) n) (I v) (I k) m fc=some (.tup (bif suf.any (fun x=>!decide (x=0))then[I 0,I 25]else[I v,I 0]),m):=by
 intro suf
 induction suf with
 |nil=>
  intro k j m fc hd hj hg ho
  obtain⟨j,rfl⟩:∃i,j=i+1:=⟨j-1,by simp at hj;omega⟩
  have hk0:=List.drop_eq_nil_iff.mp hd
  have hk:¬((k:Int)<(n:Int)):=by omega
  simp only[x4i]
  unfold xdn
  simp[hg,hk,x4h]
 |cons x r ih=>
  intro k j m fc hd hj hg ho
  obtain⟨j,rfl⟩:∃i,j=i+1:=⟨j-1,by simp at hj;omega⟩
  obtain⟨hk,hke,hd⟩:=x2l7 hd
  have hk':(k:Int)<(n:Int):=by omega
  have i1:=x2qn (id:=(0,11,19)) (n:=n) (k:=(k:Int)) (by omega) hk'
  have e1:at0 p k=x:=by rw[x2io hk,hke]
  unfold OwnI at ho
  simp only[x4i]
  unfold xdn
  simp(disch:=omega) [hg,hk',i1,ho,e1]
  by_cases c:x=0
  rotate_left
  .simp[c]
  have h':=ih (k+1) j m (fc+12) hd (by simp at hj;omega) hg ho
  simp[c]
  exact h'
theorem l_flowOf1(d:Nat)(hs:FHs){ev fa:AV}{l:List Edge}{fl:List Int}{n:Nat}(h:Sl Edge.c ev l)(hl:l.length<=600)(hf:Ints fa fl)(hfl:fl.length=l.length)(hn:n<=200)(he:∀e∈l,EdgeIn n e/\e.fr≠e.to) :
 ∀(suf:List Edge) (sf:List Int) (k j:Nat) (p:List Int) (v:Int) (m:Mem) (fc:Nat),l.drop k=suf->fl.drop k=sf->suf.length<j->p.length=n->NodeIn p (k*1000)->-(k*1000000)<=v->v<=k*1000000 ->
 m.get (0,0,2)=some (.row [I n,ev] 0 false)->OwnI m (0,11,19) p ->
 ∃m',x4j (x2i6 (d+1)) hs 0 j fa (.ptr (0,0,2) 0 0) (srI (0,11,19) n) (I v) (I k) m fc=some (.tup [I (x2kg p v suf sf).1,I (x2kg p v suf sf).2],m'):=by
 intro suf
 induction suf with
 |nil=>
  intro sf k j p v m fc hd hdf hj hp hN v0 v1 hg ho
  obtain⟨j,rfl⟩:∃i,j=i+1:=⟨j-1,by simp at hj;omega⟩
  have hk0:=List.drop_eq_nil_iff.mp hd
  have hk:¬((k:Int)<(l.length:Int)):=by omega
  have e:x2kg p v [] sf=bif p.any (fun x=>!decide (x=0))then(0,25)else(v,0):=by
   cases sf<;>rfl
  have h':=l_flowOf0 (d+1) hs hn hp v p 0 NN m (fc+4+1) rfl (by rw[x2in];omega) hg ho
  rw[e]
  simp only[x4j]
  unfold xdo
  simp[hk,hfl,hf.len x2il,x34]
  refine⟨m,?_⟩
  refine Eq.trans h' ?_
  cases p.any (fun x=>!decide (x=0))<;>rfl
 |cons e r ih=>
  intro sf k j p v m fc hd hdf hj hp hN v0 v1 hg ho
  obtain⟨j,rfl⟩:∃i,j=i+1:=⟨j-1,by simp at hj;omega⟩
  obtain⟨hk,hke,hd⟩:=x2l7 hd
  have hk':(k:Int)<(l.length:Int):=by omega
  have hkf:k<fl.length:=by omega
  subst hdf
  have ix:=h.ix Edge.len hk
  have ld:=x2jr (m:=m) Edge.len (by omega) hk
  rw[hke]at ld
  simp only[Edge.c]at ld
  obtain⟨hee,hne⟩:=he e (hke▸List.getElem_mem hk)
  have hee':=hee
  obtain⟨f0,f1,t0,t1,j0,j1,w0,w1⟩:=hee'
  have ixf:=hf.ix x2im hkf
  have e1:at0 fl k=fl[k]:=x2io hkf
  have i1:=x2qn (id:=(0,11,19)) t0 t1
  have i2:=x2qn (id:=(0,11,19)) f0 f1
  have b1:=hN e.to.toNat
  have b2:=hN e.fr.toNat
  have htf:e.to.toNat≠e.fr.toNat:=by omega
  have l1:e.to.toNat<p.length:=by omega
  have l2:e.fr.toNat<p.length:=by omega
  unfold OwnI at ho
  have hfm:x2kg p v (e::r) (fl.drop k)=bif wi fl[k] (-e.wt) e.wt then x2kg (x2kr p e fl[k]) (v+fl[k]*e.jump) r (fl.drop (k+1))else(0,2):=by rw[x2j9 hkf];rfl
  rw[hfm]
  simp only[x4j]
  unfold xdo
  simp only[hf.len x2il,hfl,x2ig,x2iv,hk',decide_true,x2iw,x2m0,Nat.zero_add,x2jm,hg,x2kd,Nat.beq_refl,x2jf,List.drop_succ_cons,List.drop_zero,rd_f,ix,ld]
  simp only[x2qg]
  simp only[x2ll]
  simp only[x2qj,Mem.get_new,if_true,stRow_4,List.all_cons,List.all_nil,one_I,Bool.and_self,x2jf,x2ig]
  cases c:wi fl[k] (-e.wt) e.wt
  .simp(disch:=omega) [hg,hfl,hf.len x2il,hk',ix,ld,x2qj,Edge.c,ixf,x2j0,e1,x2mf,c]
  have hw:=wi_t c
  have hmul:-1000000<=fl[k]*e.jump/\fl[k]*e.jump<=1000000:=by
   have:=mul_in (a:=fl[k]) (b:=e.jump) (x:=1000) (y:=1000) (by omega) (by omega)
   omega
  obtain⟨m',h'⟩:=ih (fl.drop (k+1)) (k+1) j (x2kr p e fl[k]) (v+fl[k]*e.jump)
   ((((m.new (0,fc+9,9) (.row [I 0,I 0,I 0,I 0] 0 false)).set (0,fc+9,9) (.row e.c 0 false)).set (0,11,19) (.row ((p.set e.to.toNat (at0 p e.to.toNat+fl[k])).flatMap intE) 0 false)).set (0,11,19) (.row ((x2kr p e fl[k]).flatMap intE) 0 false)) (fc+65) hd rfl (by simp at hj;omega) (by rw[x2u3];exact hp)
   (by have:=hN.up (hp▸hee) (f:=fl[k]) (by omega) (by omega);rwa[show(k:Int)*1000+1000=((k+1:Nat):Int)*1000 by omega]at this) (by omega) (by omega) (by simp[hg]) (by unfold OwnI;simp)
  have l3:e.fr.toNat<(p.set e.to.toNat (at0 p e.to.toNat+fl[k])).length:=by simpa using l2
  simp(disch:=omega) [x2mf,i1,i2,ho,ixf,x2j0,e1,c,-x2ll]
  simp only[x2ll]
  simp(disch:=omega) [i2,ho,-x2ll]
  simp(disch:=omega) [apart_RS]
  exact⟨m',h'⟩
theorem x2zt(d:Nat){n:Int}{ev fa:AV}{l:List Edge}{fl:List Int}(h:Sl Edge.c ev l)(hr:Right n l)(hf:Ints fa fl)(m:Mem) :
 x2i8 (x2i6 (d+2)) x77 [.agg [I n,ev],fa] m=some (.tup [I (x2kh n l fl).1,I (x2kh n l fl).2],m):=by
 refine Ans.call0_tup ?_ (by simp[h.still1,hf.still]) rfl
 unfold Ans
 rw[x1e0]
 unfold xh5 xk1
 have hn0:=hr.lo
 have hn1:=hr.hi
 have hl:=hr.len
 simp[mem0,h.one,hf.len x2il,h.len x2qi]
 by_cases c1:(fl.length:Int)=(l.length:Int)
 rotate_left
 .simp[x2kh,c1]
 have hnn:((n.toNat:Nat):Int)=n:=by omega
 obtain⟨m',h'⟩:=l_flowOf1 d [] h hl hf (by omega) (n:=n.toNat) (by omega) (inEdge hr) l fl 0 NN (List.replicate n.toNat 0) 0 (((⟨[],1⟩:Mem).new (0,0,2) (.row [I n,ev] 0 false)).new (0,11,19) (.row ((List.replicate n.toNat (0:Int)).flatMap intE) 0 false)) 15 rfl rfl (by rw[x2in];omega) (by simp) (rep_in _) (by omega) (by omega) (by simp[hnn]) (by unfold OwnI;simp)
 simp[x2kh,c1,x2jy,x2wc hn0 (show n<=1000000 by omega),xdp]
 exact⟨m',h'⟩
end Go.Ix
set_option linter.unusedVariables false
namespace Go.Ix
def sumN:Nat->(Nat->Int)->Int
 |0,_=>0
 |n+1,g=>sumN n g+g n
theorem x2zu{n:Nat}{g h:Nat->Int}(H:∀k,k<n->g k=h k):sumN n g=sumN n h:=by
 induction n with
 |zero=>rfl
 |succ n ih=>simp only[sumN];rw[ih fun k hk=>H k (by omega),H n (by omega)]
theorem x2u4{n:Nat}{g:Nat->Int}(H:∀k,k<n->g k=0):sumN n g=0:=by
 induction n with
 |zero=>rfl
 |succ n ih=>simp only[sumN];rw[ih fun k hk=>H k (by omega),H n (by omega)];rfl
theorem x2x7{n:Nat}{g h:Nat->Int}:sumN n (fun k=>g k+h k)=sumN n g+sumN n h:=by
 induction n with
 |zero=>rfl
 |succ n ih=>simp only[sumN];rw[ih];omega
theorem x2zv{n:Nat}{g:Nat->Int}(H:∀k,k<n->0<=g k):0<=sumN n g:=by
 induction n with
 |zero=>simp[sumN]
 |succ n ih=>simp only[sumN];have:=ih fun k hk=>H k (by omega);have:=H n (by omega);omega
theorem x2x8{n v:Nat}(h:v<n)(c:Int)(p:Nat->Int):sumN n (fun k=>if v=k then p k*c else 0)=p v*c:=by
 induction n with
 |zero=>omega
 |succ n ih=>
  simp only[sumN]
  by_cases e:v=n
  .subst e
   rw[x2u4 (fun k hk=>if_neg (by omega)),if_pos rfl];omega
  .rw[ih (by omega),if_neg e];omega
def exF(p:Nat->Int)(e:Edge):Int:=p e.to.toNat-p e.fr.toNat+e.jump
def x2nu(p:Nat->Int):List Edge->Int
 |[]=>0
 |e::r=>e.wt*((exF p e).natAbs:Int)+x2nu p r
def valF:List (Edge×Int)->Int
 |[]=>0
 |x::r=>x.2*x.1.jump+valF r
def netF(v:Nat):List (Edge×Int)->Int
 |[]=>0
 |x::r=>(if x.1.to.toNat=v then x.2 else 0)-(if x.1.fr.toNat=v then x.2 else 0)+netF v r
def gapF(p:Nat->Int):List (Edge×Int)->Int
 |[]=>0
 |x::r=>x.1.wt*((exF p x.1).natAbs:Int)-x.2*exF p x.1+gapF p r
def Cap(z:List (Edge×Int)):Prop:=∀x∈z,-x.1.wt<=x.2/\x.2<=x.1.wt
def Ends(n:Nat)(z:List (Edge×Int)):Prop:=∀x∈z,x.1.fr.toNat<n/\x.1.to.toNat<n
def CS(p:Nat->Int)(z:List (Edge×Int)):Prop:=∀x∈z,(x.2<x.1.wt->exF p x.1<=0)/\(-x.1.wt<x.2->0<=exF p x.1)
structure Feas (n:Nat) (z:List (Edge×Int)):Prop where
 cap:Cap z
 cons:∀v,v<n->netF v z=0
 ends:Ends n z
theorem sum_net(n:Nat)(p:Nat->Int):∀z:List (Edge×Int),Ends n z->sumN n (fun v=>p v*netF v z)=valF z*0+(z.foldr (fun x s=>x.2*(p x.1.to.toNat-p x.1.fr.toNat)+s) 0)
 |[],_=>by simp only[netF,Int.mul_zero,List.foldr_nil,valF];rw[x2u4 (fun _ _=>rfl)];rfl
 |x::r,h=>by
  have ih:=sum_net n p r (fun y hy=>h y (List.mem_cons_of_mem _ hy))
  obtain⟨h1,h2⟩:=h x (List.mem_cons_self ..)
  have e:∀v,p v*netF v (x::r)=(if x.1.to.toNat=v then p v*x.2 else 0)+((if x.1.fr.toNat=v then p v*(-x.2)else 0)+p v*netF v r):=by
   intro v
   simp only[netF]
   split<;>split<;>grind
  rw[x2zu (fun k _=>e k),x2x7,x2x7,x2x8 h1,x2x8 h2,ih]
  simp only[List.foldr_cons]
  grind
theorem x2x9(p:Nat->Int):∀z:List (Edge×Int),x2nu p (z.map Prod.fst)=gapF p z+valF z+z.foldr (fun x s=>x.2*(p x.1.to.toNat-p x.1.fr.toNat)+s) 0
 |[]=>rfl
 |x::r=>by
  have ih:=x2x9 p r
  simp only[List.map_cons,x2nu,gapF,valF,List.foldr_cons,ih,exF]
  grind
theorem cost_val{n:Nat}{z:List (Edge×Int)}(h:Feas n z)(p:Nat->Int):x2nu p (z.map Prod.fst)=gapF p z+valF z:=by
 have h1:=x2x9 p z
 have h2:=sum_net n p z h.ends
 rw[x2u4 (fun k hk=>by rw[h.cons k hk];simp)]at h2
 omega
theorem gap1{w f e:Int}(h1:-w<=f)(h2:f<=w):0<=w*(e.natAbs:Int)-f*e:=by
 rcases Int.le_total 0 e with h|h
 .rw[Int.natAbs_of_nonneg h]
  have:=Int.mul_le_mul_of_nonneg_right h2 h
  omega
 .rw[show(e.natAbs:Int)=-e by omega]
  have:=Int.mul_le_mul_of_nonneg_right (show -f<=w by omega) (show 0<=-e by omega)
  grind
theorem x2xa(p:Nat->Int):∀{z:List (Edge×Int)},Cap z->0<=gapF p z
 |[],_=>by simp[gapF]
 |x::r,h=>by
  have h1:=x2xa p (z:=r) fun y hy=>h y (List.mem_cons_of_mem _ hy)
  have h2:=h x (List.mem_cons_self ..)
  have h3:=gap1 (e:=exF p x.1) h2.1 h2.2
  simp only[gapF];omega
theorem weak{n:Nat}{z:List (Edge×Int)}(h:Feas n z)(p:Nat->Int):valF z<=x2nu p (z.map Prod.fst):=by
 have:=cost_val h p
 have:=x2xa p h.cap
 omega
def Arc(z:List (Edge×Int))(u v:Nat)(c:Int):Prop:=∃x∈z,(x.2<x.1.wt/\u=x.1.fr.toNat/\v=x.1.to.toNat/\c=-x.1.jump)\/(-x.1.wt<x.2/\u=x.1.to.toNat/\v=x.1.fr.toNat/\c=x.1.jump)
inductive Way (z:List (Edge×Int)) (u:Nat):Nat->Int->Prop
 |nil:Way z u u 0
 |cons {v w:Nat} {c d:Int}:Way z u v c->Arc z v w d->Way z u w (c+d)
theorem cs_iff{p:Nat->Int}{z:List (Edge×Int)}:CS p z↔∀u v c,Arc z u v c->p v-p u<=c:=by
 constructor
 .rintro h u v c ⟨x,hx,⟨h1,rfl,rfl,rfl⟩|⟨h1,rfl,rfl,rfl⟩⟩
  .have:=(h x hx).1 h1;unfold exF at this;omega
  .have:=(h x hx).2 h1;unfold exF at this;omega
 .intro h x hx
  refine⟨fun h1=>?_,fun h1=>?_⟩
  .have:=h _ _ _ ⟨x,hx,Or.inl ⟨h1,rfl,rfl,rfl⟩⟩;unfold exF;omega
  .have:=h _ _ _ ⟨x,hx,Or.inr ⟨h1,rfl,rfl,rfl⟩⟩;unfold exF;omega
theorem Way.le{p:Nat->Int}{z:List (Edge×Int)}(h:CS p z){u v:Nat}{c:Int}(hw:Way z u v c):p v-p u<=c:=by
 induction hw with
 |nil=>omega
 |cons _ ha ih=>have:=cs_iff.mp h _ _ _ ha;omega
theorem Arc.lt{n:Nat}{z:List (Edge×Int)}(h:Ends n z){u v:Nat}{c:Int}(ha:Arc z u v c):u<n/\v<n:=by
 obtain⟨x,hx,⟨h1,rfl,rfl,rfl⟩|⟨h1,rfl,rfl,rfl⟩⟩:=ha
 .exact h x hx
 .exact⟨(h x hx).2,(h x hx).1⟩
theorem Way.lt{n:Nat}{z:List (Edge×Int)}(h:Ends n z){u v:Nat}{c:Int}(hu:u<n)(hw:Way z u v c):v<n:=by
 cases hw with
 |nil=>exact hu
 |cons _ ha=>exact(ha.lt h).2
structure FlowOK (n:Nat) (l:List Edge) (fl tu ex:List Int):Prop where
 nn:n<=200
 ll:l.length<=600
 ed:∀e∈l,EdgeIn n e/\e.fr≠e.to
 fll:fl.length=l.length
 tul:tu.length=n
 exl:ex.length=n
 cap:∀k,k<l.length->-(edgeAt l k).wt<=at0 fl k/\at0 fl k<=(edgeAt l k).wt
 cs:∀k,k<l.length->(at0 fl k<(edgeAt l k).wt->exI tu (edgeAt l k)<=0)/\(-(edgeAt l k).wt<at0 fl k->0<=exI tu (edgeAt l k))
 net:∀v,v<n->at0 ex v=netF v (l.zip fl)
theorem edge_in{n:Nat}{l:List Edge}(hed:∀e∈l,EdgeIn n e/\e.fr≠e.to){k:Nat}(hk:k<l.length):EdgeIn n (edgeAt l k)/\(edgeAt l k).fr≠(edgeAt l k).to:=by
 rw[x2s5 hk];exact hed _ (List.getElem_mem hk)
def ind(p:Prop)[Decidable p]:Int:=if p then 1 else 0
theorem x2xb{l:List Edge}{fl:List Int}(hl:fl.length=l.length){x:Edge×Int}:x∈l.zip fl↔∃k,k<l.length/\x=(edgeAt l k,at0 fl k):=by
 constructor
 .intro h
  obtain⟨k,hk,rfl⟩:=List.mem_iff_getElem.mp h
  have h1:k<l.length:=by simp at hk;omega
  refine⟨k,h1,?_⟩
  rw[List.getElem_zip,x2s5 h1,x2io (by omega)]
 .rintro⟨k,hk,rfl⟩
  rw[x2s5 hk,x2io (by omega)]
  have:k<(l.zip fl).length:=by simp;omega
  rw[<-List.getElem_zip (h:=this)]
  exact List.getElem_mem this
theorem ends_zip{n:Nat}{l:List Edge}{fl:List Int}(hed:∀e∈l,EdgeIn n e/\e.fr≠e.to)(hl:fl.length=l.length):Ends n (l.zip fl):=by
 intro x hx
 obtain⟨k,hk,rfl⟩:=(x2xb hl).mp hx
 obtain⟨⟨f0,f1,t0,t1,-⟩,-⟩:=edge_in hed hk
 simp only
 omega
end Go.Ix
