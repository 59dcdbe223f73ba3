import Derived.Test.YtdfahbenacjgeaaGreatWg9
import Derived.Test.YtdfahbenacjgeaaGreatWg2
set_option linter.unusedSimpArgs false
set_option linter.unusedVariables false
namespace Go.Ix
open Go.Proofs
theorem x195{k:Nat}{l:List Edge}(hk:k<l.length)(v:Int):((l.map f0M).take k++List.replicate (l.length-k) 0).set k v=(l.map f0M).take k++v::List.replicate (l.length-(k+1)) 0:=by
 have h:((l.map f0M).take k).length=k:=by simp;omega
 rw[x1ko _ _ (by omega),h,x1ip,show l.length-k=(l.length-(k+1))+1 by omega,x1kb,x1jx]
theorem x15b{k:Nat}{l:List Edge}(hk:k<l.length){e:Edge}(he:l[k]=e):(l.map f0M).take (k+1)++List.replicate (l.length-(k+1)) 0=(l.map f0M).take k++f0M e::List.replicate (l.length-(k+1)) 0:=by
 rw[x1gz (by simpa using hk)]
 simp[he]
theorem x1ci{k:Nat}{l:List Edge}(hk:k<l.length):(l.map f0M).take k++List.replicate (l.length-k) 0=(l.map f0M).take k++(0:Int)::List.replicate (l.length-(k+1)) 0:=by
 rw[show l.length-k=(l.length-(k+1))+1 by omega,x1kb]
theorem ns_loop(d:Nat)(hs:FHs){u n:Nat}{ev:AV}{l:List Edge}(hev:Sl Edge.c ev l)(hl:l.length<=600)(hn:n<=200)(hed:∀e∈l,EdgeIn n e/\e.fr≠e.to):∀(suf:List Edge) (k j:Nat) (m:Mem) (fc:Nat),l.drop k=suf->suf.length<j->k<=l.length->NSInv u fc n ev l k m ->
 ∃m',x1u (xsi d) hs u j (.ptr (u,21,25) 0 0) ev (I l.length) (I k) m fc=some (.ptr (u,21,25) 0 0,m')/\(∃fc',NSInv u fc' n ev l l.length m')/\m'.next=m.next:=by
 intro suf
 induction suf with
 |nil=>
  intro k j m fc hd hj hk hi
  obtain⟨j,rfl⟩:∃i,j=i+1:=⟨j-1,by simp at hj;omega⟩
  have hke:k=l.length:=by have:=x1ha.mp hd;omega
  subst hke
  refine⟨m,?_,⟨fc,hi⟩,rfl⟩
  simp only[x1u]
  unfold xbi
  simp[xjk]
 |cons e r ih=>
  intro k j m fc hd hj hk hi
  obtain⟨j,rfl⟩:∃i,j=i+1:=⟨j-1,by simp at hj;omega⟩
  obtain⟨hk,hke,hd⟩:=xul hd
  have hk':(k:Int)<(l.length:Int):=by omega
  have ix:=hev.ix Edge.len hk
  have ld:=xtz (m:=m) Edge.len (by omega) hk
  rw[hke]at ld
  have hee:=(hed e (hke▸x1go hk)).1
  obtain⟨f0,f1,t0,t1,j0,j1,w0,w1⟩:=hee
  obtain⟨m1,hm1⟩:∃m1:Mem,m1=(m.new (u,fc+1+3,5) (.row [I 0,I 0,I 0,I 0] 0 false)).set (u,fc+1+3,5) (.row e.c 0 false):=⟨_,rfl⟩
  have q1:∀id:Id,id≠(u,fc+1+3,5)->m1.get id=m.get id:=λid hid=>by rw[hm1,Mem.get_set,x1g6 hid,Mem.get_new,x1g6 hid]
  have hE:m1.get (u,fc+1+3,5)=some (.row [I e.fr,I e.to,I e.jump,I e.wt] 0 false):=by rw[hm1];simp[Edge.c]
  have hn1:m1.next=m.next:=by rw[hm1];simp
  have main:∀(m2:Mem) (g:Nat),fc<=g->(∀id:Id,id≠(u,7,11)->m2.get id=m1.get id)->m2.next=m1.next->m2.get (u,7,11)=some (.row (((l.map f0M).take (k+1)++List.replicate (l.length-(k+1)) 0).flatMap intE) 0 false) ->
   ∃m',x3m (xsi d) hs u (x1u (xsi d) hs u j) (.ptr (u,21,25) 0 0) (I k) (.ptr (u,fc+1+3,5) 0 0) ev (I l.length) (I k) m2 g=some (.ptr (u,21,25) 0 0,m')/\(∃fc',NSInv u fc' n ev l l.length m')/\m'.next=m.next:=by
   intro m2 g hg q2 n2 hf2
   obtain⟨cells,ha,hcl,hA⟩:=hi.a
   obtain⟨m',h1,h2,h3⟩:=ns_tail d hs hl hn hed hk hke (x1u (xsi d) hs u j) (fE:=fc+1+3) (fc:=g) (m:=m2) (cells:=cells)
    (by rw[q2 _ (by simp),q1 _ (by simp)];exact hi.s) hf2 (by rw[q2 _ (by simp),q1 _ (by simp)];exact hi.t) (by rw[q2 _ (by simp),q1 _ (by simp)];exact hi.x)
    (by rw[q2 _ (by simp),q1 _ (by simp)];exact ha) hcl (hA.frame (λid hid=>by rw[q2 _ (by rintro rfl;rcases hid.2.1 with h|h<;>simp at h),q1 _ (by rintro rfl;rcases hid.2.1 with h|h<;>simp at h)]) hg)
    (by rw[n2,hn1];exact hi.nx) (by rw[q2 _ (by simp)];exact hE)
   obtain⟨m'',e1,e2,e3⟩:=ih (k+1) j m' (g+76) hd (by simp at hj;omega) (by omega) h2
   exact⟨m'',by rw[h1];exact e1,e2,by rw[e3,h3,n2,hn1]⟩
  have g1s:m1.get (u,21,25)=some (.row [I n,ev,srI (u,7,11) l.length,srI (u,11,15) n,srI (u,15,19) n,srI (u,19,23) n] 0 false):=by rw[q1 _ (by simp)];exact hi.s
  obtain⟨fl,hfl⟩:∃fl,fl=(l.map f0M).take k++List.replicate (l.length-k) 0:=⟨_,rfl⟩
  have g1f:m1.get (u,7,11)=some (.row (fl.flatMap intE) 0 false):=by rw[q1 _ (by simp),hfl];exact hi.f
  have hlk:k<fl.length:=by rw[hfl];simp;omega
  have ifk:sIx 1 (srI (u,7,11) l.length) (I k)=some (.ptr (u,7,11) 0 k):=by simpa using xtu (id:=(u,7,11)) (n:=l.length) (k:=(k:Int)) (by omega) (by omega)
  simp only[x1u]
  unfold xbi xjn
  simp only[xy6]
  simp(disch:=omega) [hk',ix,ld,Edge.c]
  rw[show(m.new (u,fc+1+3,5) (.row [I 0,I 0,I 0,I 0] 0 false)).set (u,fc+1+3,5) (.row [I e.fr,I e.to,I e.jump,I e.wt] 0 false)=m1 from hm1.symm]
  unfold xjm
  by_cases c1:0<e.jump
  .simp(disch:=omega) [hE,c1,sNil,g1s,ifk,g1f,xvf hlk]
   refine main _ _ ?_ (λid hid=>?_) ?_ ?_
   .omega
   .rw[Mem.get_set,x1g6 hid]
   .simp
   rw[x15b hk hke,<-x195 hk,<-hfl,show f0M e=e.wt by unfold f0M;rw[x1g7 c1]]
   simp
  .by_cases c2:e.jump<0
   .simp(disch:=omega) [hE,c1,c2,sNil,g1s,ifk,g1f,xso,xvf hlk]
    refine main _ _ ?_ (λid hid=>?_) ?_ ?_
    .omega
    .rw[Mem.get_set,x1g6 hid]
    .simp
    rw[x15b hk hke,<-x195 hk,<-hfl,show f0M e=-e.wt by unfold f0M;rw[x1g6 c1,x1g7 c2]]
    simp
   .simp(disch:=omega) [hE,c1,c2]
    refine main _ _ (by omega) (λid hid=>rfl) rfl ?_
    rw[g1f,hfl,x1ci hk,x15b hk hke,show f0M e=0 by unfold f0M;rw[x1g6 c1,x1g6 c2]]
theorem z_solver:xlp=[I 0,nilS,nilS,nilS,nilS,nilS]:=by kernel_rfl
theorem mkSl_sl{R:Type}{n:Nat}{id:Id}{m:Mem}(k:AV->Mem->Option R)(hn:n<=200):xty [nilS] 1 24 (I n) (I n) id m k=k (srI id n) (m.new id (.row (List.replicate n nilS) 0 false)):=by
 simp only[xty,asI]
 rw[x1g7 ⟨by omega,x1ho _,by omega,by omega⟩]
 have:xtq [nilS] (((n:Int).toNat)*1)=List.replicate n nilS:=by
  simp only[xtq,x1gb,x1i4]
  apply x1j2
  .simp
  .intro i h1 h2
   simp[Nat.mod_one]
 rw[this]
 simp
theorem x1cj(d:Nat){n:Nat}{ev:AV}{l:List Edge}(hev:Sl Edge.c ev l)(hl:l.length<=600)(hn:n<=200)(hed:∀e∈l,EdgeIn n e/\e.fr≠e.to)(u:Nat) :
 ∃m',xsi (d+1) [] x30 [.agg [I n,ev]] ⟨[],u⟩=some (.ptr (u,21,25) 0 0,m')/\SolMem u n ev l (l.map f0M) (List.replicate n 0) (ex0M n l) m'/\m'.next=u+1:=by
 have hel:=hev.len xwo
 have ho:=hev.one
 have hc:=hev.cells
 obtain⟨m1,hm1⟩:∃m1,m1=(⟨[],u+1⟩:Mem).new (u,0,1) (.row [I n,ev] 0 false):=⟨_,rfl⟩
 obtain⟨m2,hm2⟩:∃m2,m2=m1.new (u,7,11) (.row ((List.replicate l.length (0:Int)).flatMap intE) 0 false):=⟨_,rfl⟩
 obtain⟨m3,hm3⟩:∃m3,m3=m2.new (u,11,15) (.row ((List.replicate n (0:Int)).flatMap intE) 0 false):=⟨_,rfl⟩
 obtain⟨m4,hm4⟩:∃m4,m4=m3.new (u,15,19) (.row ((List.replicate n (0:Int)).flatMap intE) 0 false):=⟨_,rfl⟩
 obtain⟨m5,hm5⟩:∃m5,m5=m4.new (u,19,23) (.row (List.replicate n nilS) 0 false):=⟨_,rfl⟩
 obtain⟨m6,hm6⟩:∃m6,m6=m5.new (u,21,25) (.row [I n,ev,srI (u,7,11) l.length,srI (u,11,15) n,srI (u,15,19) n,srI (u,19,23) n] 0 false):=⟨_,rfl⟩
 have h0:NSInv u 28 n ev l 0 m6:=by
  refine⟨?_,?_,?_,?_,⟨List.replicate n nilS,?_,by simp,⟨λ_=>(0,0,0),λv hv=>Or.inl ⟨by simp,by rw[x1hw];rfl⟩,λv w hv hw n1=>absurd (by rw[x1hw];rfl) n1⟩⟩,by rw[hm6,hm5,hm4,hm3,hm2,hm1];simp only[Mem.next_new];omega⟩
  .rw[hm6];simp[Mem.get_new]
  .rw[hm6,hm5,hm4,hm3,hm2];simp[Mem.get_new]
  .rw[hm6,hm5,hm4,hm3];simp[Mem.get_new]
  .rw[hm6,hm5,hm4];simp[Mem.get_new,ex0M]
  .rw[hm6,hm5];simp[Mem.get_new]
 obtain⟨m',h1,⟨fc',hI⟩,h3⟩:=ns_loop d [] hev hl hn hed l 0 NN m6 28 rfl (by rw[xsu];omega) (by omega) h0
 obtain⟨cells,ha,hcl,hA⟩:=hI.a
 have hat:l.take l.length=l:=x1gg (x1ga _)
 rw[hat]at hA
 refine⟨m',?_,⟨hI.s,?_,hI.t,by have:=hI.x;rwa[hat]at this,⟨cells,ha,hcl,λv hv=>?_⟩,by simp,by simp,x15a n l⟩,by rw[h3,hm6,hm5,hm4,hm3,hm2,hm1];simp only[Mem.next_new]⟩
 .rw[xo4]
  unfold xfk xbj xjo
  have hb:∀x y z w,x.cells=[x]->y.cells=[y]->z.cells=[z]->w.cells=[w]->xsw [I 0,nilS,nilS,nilS,nilS,nilS] [(0,2,.agg [I n,ev]),(2,1,x),(3,1,y),(4,1,z),(5,1,w)]=some (.agg [I n,ev,x,y,z,w]):=by
   intro x y z w h1 h2 h3 h4
   simp[xsw,xtj,h1,h2,h3,h4]
  have g1:m1.get (u,0,1)=some (.row [I n,ev] 0 false):=by rw[hm1];simp
  have g2:m2.get (u,0,1)=some (.row [I n,ev] 0 false):=by rw[hm2];simp[Mem.get_new,g1]
  have g3:m3.get (u,0,1)=some (.row [I n,ev] 0 false):=by rw[hm3];simp[Mem.get_new,g2]
  have g4:m4.get (u,0,1)=some (.row [I n,ev] 0 false):=by rw[hm4];simp[Mem.get_new,g3]
  have g6:m6.get (u,0,1)=some (.row [I n,ev] 0 false):=by rw[hm6,hm5];simp[Mem.get_new,g4]
  have mkn:∀(id:Id) (m:Mem) (k:AV->Mem->Option (AV×Mem)),xty [I 0] 1 8 (I n) (I n) id m k=k (srI id n) (m.new id (.row ((List.replicate n (0:Int)).flatMap intE) 0 false)):=λid m k=>by rw[x112 (by omega) (by omega),x1gb]
  have mkl:∀(id:Id) (m:Mem) (k:AV->Mem->Option (AV×Mem)),xty [I 0] 1 8 (I l.length) (I l.length) id m k=k (srI id l.length) (m.new id (.row ((List.replicate l.length (0:Int)).flatMap intE) 0 false)):=λid m k=>by rw[x112 (by omega) (by omega),x1gb]
  simp only[xxi,AV.cells,x1h4,x1hn,ho,show(I (n:Int)).one=true from rfl,x1hp,xsr,xu3,x12n,z_solver]
  rw[<-hm1]
  simp only[xsv,xtn,g1,xt1,x1gd,xsr,x1g8,x1gl,x1gr,rd_f,rd_2,xsn,hel,mkl]
  rw[<-hm2]
  simp only[xsv,xtn,g2,xt1,x1gd,xsr,x1g8,x1gl,x1gr,rd_f,xsn,mkn]
  rw[<-hm3]
  simp only[xsv,xtn,g3,xt1,x1gd,xsr,x1g8,x1gl,x1gr,rd_f,xsn,mkn]
  rw[<-hm4]
  simp only[xsv,xtn,g4,xt1,x1gd,xsr,x1g8,x1gl,x1gr,rd_f,xsn,mkSl_sl _ hn]
  rw[<-hm5,hb _ _ _ _ rfl rfl rfl rfl]
  simp only[xsn,AV.cells,x1h4,x1hn,ho,show(I (n:Int)).one=true from rfl,show ∀id k,(srI id k).one=true from λ_ _=>rfl,x1hp,xsr]
  rw[<-hm6]
  simp[xsm,disj,tR]
  simp only[xsv,xtn,g6,xt1,x1gd,xsr,x1g8,x1gl,x1gr,rd_f,xsn,hel]
  exact h1
 .have:=hI.f
  rw[x1ip,List.replicate_zero,x1hc,x1gg (by simp)]at this
  exact this
 .obtain⟨ids,e1,e2⟩:=hA.sh
  rcases e1 v hv with ⟨a,b⟩|⟨ver,a,b,c,-⟩
  .exact Or.inl ⟨a,b⟩
  .exact Or.inr ⟨ids v,ver,⟨c.1,c.2.1⟩,a,b⟩
theorem mul_in{a b:Int}{x y:Nat}(h1:a.natAbs<=x)(h2:b.natAbs<=y):-((x*y:Nat):Int)<=a*b/\a*b<=((x*y:Nat):Int):=by
 have:=x1j4 h1 h2
 rw[<-Int.natAbs_mul]at this
 omega
def xwe(p:List Int)(e:Edge)(f:Int):List Int:=(p.set e.to.toNat (at0 p e.to.toNat+f)).set e.fr.toNat (at0 p e.fr.toNat-f)
def xx7(p:List Int)(v:Int):List Edge->List Int->Int×Int
 |e::es,f::fs=>bif wi f (-e.wt) e.wt then xx7 (xwe p e f) (v+f*e.jump) es fs else(0,2)
 |_,_=>bif p.any (λx=>!decide (x=0))then(0,25)else(v,0)
def xza(n:Int)(l:List Edge)(f:List Int):Int×Int:=
 bif !decide ((f.length:Int)=(l.length:Int))then(0,10)else xx7 (List.replicate n.toNat 0) 0 l f
theorem x196(p:List Int)(e:Edge)(f:Int):(xwe p e f).length=p.length:=by simp[xwe]
theorem x1ck{p:List Int}{e:Edge}{f:Int}(h1:e.to.toNat≠e.fr.toNat):((p.set e.fr.toNat (at0 p e.fr.toNat-f)).set e.to.toNat (at0 p e.to.toNat+f))=xwe p e f:=by
 unfold xwe
 rw[List.set_comm _ _ h1]
def NodeIn(p:List Int)(b:Int):Prop:=∀k,-b<=at0 p k/\at0 p k<=b
theorem NodeIn.up{p:List Int}{b:Int}(h:NodeIn p b){e:Edge}(he:EdgeIn p.length e){f:Int}(h1:-1000<=f)(h2:f<=1000):NodeIn (xwe p e f) (b+1000):=by
 obtain⟨f0,f1,t0,t1,-⟩:=he
 intro k
 have a:=h k
 have b1:=h e.to.toNat
 have b2:=h e.fr.toNat
 unfold xwe
 rw[xue (by simp;omega),xue (by omega)]
 split
 .omega
 .split<;>omega
theorem l_value(d:Nat)(hs:FHs){ev fa:AV}{l:List Edge}{fl:List Int}{n:Nat}(h:Sl Edge.c ev l)(hl:l.length<=600)(hf:Ints fa fl)(hfl:fl.length=l.length)(hn:n<=200)(he:∀e∈l,EdgeIn n e/\e.fr≠e.to) :
 ∀(suf:List Edge) (sf:List Int) (k j:Nat) (p:List Int) (v:Int) (m:Mem) (fc:Nat),l.drop k=suf->fl.drop k=sf->suf.length<j->p.length=n->NodeIn p (k*1000)->-(k*1000000)<=v->v<=k*1000000->OwnI m (0,13,20) p ->
 ∃m',x5r (xsi (d+3)) hs 0 j fa (srI (0,13,20) n) (I v) ev (I l.length) (I k) m fc=some (.tup [I (xx7 p v suf sf).1,I (xx7 p v suf sf).2],m'):=by
 intro suf
 induction suf with
 |nil=>
  intro sf k j p v m fc hd hdf hj hp hN v0 v1 ho
  obtain⟨j,rfl⟩:∃i,j=i+1:=⟨j-1,by simp at hj;omega⟩
  have hk0:=x1ha.mp hd
  have hk:¬((k:Int)<(l.length:Int)):=by omega
  simp only[x5r]
  unfold x9n
  subst hp
  have ha:Ints (.slit (p.flatMap intE) p.length false) p:=Sl.lit p false
  have ht:xy7 (xsi (d+1)) (.clo x17 []) (λx=>!decide (x=0)):=by
   intro hs x m
   refine⟨m.next+1,?_⟩
   show xsi (d+1) hs x17 [I x] m=_
   rw[xno]
   unfold xf4 xas
   simp
  obtain⟨n1,hans⟩:=x17l (d+1) [] ha (by omega) ht mem0
  obtain⟨m2,-,hcall⟩:=call0_any (m:=m) (l:=[srI (0,13,20) p.length,.clo x17 []]) (l':=[.slit (p.flatMap intE) p.length false,.clo x17 []]) (by
   simp only[x1gw,x1hd,frz_own ho]
   rfl) hans (xuh _ 4 rfl)
  have e:xx7 p v [] sf=bif p.any (λx=>!decide (x=0))then(0,25)else(v,0):=by
   cases sf<;>rfl
  rw[e]
  simp[hk,xi6,hcall]
  cases p.any (λx=>!decide (x=0))<;>simp
 |cons e r ih=>
  intro sf k j p v m fc hd hdf hj hp hN v0 v1 ho
  obtain⟨j,rfl⟩:∃i,j=i+1:=⟨j-1,by simp at hj;omega⟩
  obtain⟨hk,hke,hd⟩:=xul hd
  have hk':(k:Int)<(l.length:Int):=by omega
  have hkf:k<fl.length:=by omega
  subst hdf
  have ix:=h.ix Edge.len hk
  have ld:=xtz (m:=m) Edge.len (by omega) hk
  rw[hke]at ld
  simp only[Edge.c]at ld
  obtain⟨hee,hne⟩:=he e (hke▸x1go hk)
  have hee':=hee
  obtain⟨f0,f1,t0,t1,j0,j1,w0,w1⟩:=hee'
  have ixf:=hf.ix xt2 hkf
  have e1:at0 fl k=fl[k]:=xt5 hkf
  have i1:=xtu (id:=(0,13,20)) t0 t1
  have i2:=xtu (id:=(0,13,20)) f0 f1
  have b1:=hN e.to.toNat
  have b2:=hN e.fr.toNat
  have htf:e.to.toNat≠e.fr.toNat:=by omega
  have l1:e.to.toNat<p.length:=by omega
  have l2:e.fr.toNat<p.length:=by omega
  unfold OwnI at ho
  have hfm:xx7 p v (e::r) (fl.drop k)=bif wi fl[k] (-e.wt) e.wt then xx7 (xwe p e fl[k]) (v+fl[k]*e.jump) r (fl.drop (k+1))else(0,2):=by rw[xtm hkf];rfl
  rw[hfm]
  simp only[x5r]
  unfold x9n
  cases c:wi fl[k] (-e.wt) e.wt
  .simp(disch:=omega) [hk',ix,ld,xy6,Edge.c,ixf,xte,e1,xz2,c]
  have hw:=wi_t c
  have hmul:-1000000<=fl[k]*e.jump/\fl[k]*e.jump<=1000000:=by
   have:=mul_in (a:=fl[k]) (b:=e.jump) (x:=1000) (y:=1000) (by omega) (by omega)
   omega
  obtain⟨m',h'⟩:=ih (fl.drop (k+1)) (k+1) j (xwe p e fl[k]) (v+fl[k]*e.jump)
   ((((m.new (0,fc+4,9) (.row [I 0,I 0,I 0,I 0] 0 false)).set (0,fc+4,9) (.row e.c 0 false)).set (0,13,20) (.row ((p.set e.fr.toNat (at0 p e.fr.toNat-fl[k])).flatMap intE) 0 false)).set (0,13,20) (.row ((xwe p e fl[k]).flatMap intE) 0 false)) (fc+54) hd rfl (by simp at hj;omega) (by rw[x196];exact hp)
   (by have:=hN.up (hp▸hee) (f:=fl[k]) (by omega) (by omega);rwa[show(k:Int)*1000+1000=((k+1:Nat):Int)*1000 by omega]at this) (by omega) (by omega) (by unfold OwnI;simp)
  have l3:e.to.toNat<(p.set e.fr.toNat (at0 p e.fr.toNat-fl[k])).length:=by simpa using l1
  have e2:at0 (p.set e.fr.toNat (at0 p e.fr.toNat-fl[k])) e.to.toNat=at0 p e.to.toNat:=by rw[xue l2,x1g6 htf]
  simp(disch:=omega) [hk',ix,ld,xy6,Edge.c,xz2,i1,i2,ho,ixf,xte,e1,e2,c,x1ck htf]
  exact⟨m',h'⟩
theorem inEdge{n:Int}{l:List Edge}(hr:Right n l):∀e∈l,EdgeIn n.toNat e/\e.fr≠e.to:=by
 intro e he
 have:=hr.lo
 obtain⟨⟨a,b⟩,⟨c,d⟩,hne,⟨j0,j1⟩,w0,w1⟩:=hr.ed e he
 exact⟨⟨a,by omega,c,by omega,j0,j1,w0,w1⟩,hne⟩
theorem rep_in(n:Nat):NodeIn (List.replicate n 0) ((0:Nat)*1000):=by
 intro k
 rw[x12c]
 omega
theorem w_value(d:Nat){n:Int}{ev fa:AV}{l:List Edge}{fl:List Int}(h:Sl Edge.c ev l)(hr:Right n l)(hf:Ints fa fl)(m:Mem) :
 xsl (xsi (d+4)) x49 [.agg [I n,ev],fa] m=some (.tup [I (xza n l fl).1,I (xza n l fl).2],m):=by
 refine Ans.call0_tup ?_ (by simp[h.still1,hf.still]) rfl
 unfold Ans
 rw[xn1]
 unfold xej x9o
 have hn0:=hr.lo
 have hn1:=hr.hi
 have hl:=hr.len
 simp[mem0,h.one,hf.len xt8,h.len xwo]
 by_cases c1:(fl.length:Int)=(l.length:Int)
 rotate_left
 .simp[xza,c1]
 obtain⟨m',h'⟩:=l_value d [] h hl hf (by omega) (n:=n.toNat) (by omega) (inEdge hr) l fl 0 NN (List.replicate n.toNat 0) 0 (((⟨[],1⟩:Mem).new (0,0,2) (.row [I n,ev] 0 false)).new (0,13,20) (.row ((List.replicate n.toNat (0:Int)).flatMap intE) 0 false)) 21 rfl rfl (by rw[xsu];omega) (by simp) (rep_in _) (by omega) (by omega) (by unfold OwnI;simp)
 simp[xza,c1,xu3,x112 hn0 (show n<=1000000 by omega),xi7,h.len xwo]
 exact⟨m',h'⟩
def x109(n:Int)(l:List Edge)(f:List Int):Int×Int:=bif decide ((xv1 n l).2=0)then xza n l f else(0,(xv1 n l).2)
theorem x1cl(d:Nat){n:Int}{ev fa:AV}{l:List Edge}{fl:List Int}(h:Sl Edge.c ev l)(hf:Ints fa fl)(m:Mem) :
 xsl (xsi (d+5)) x43 [.agg [I n,ev],fa] m=some (.tup [I (x109 n l fl).1,I (x109 n l fl).2],m):=by
 refine Ans.call0_tup ?_ (by simp[h.still1,hf.still]) rfl
 unfold Ans
 rw[xm9]
 unfold xds x85
 simp[mem0,h.one,w_open _ h,z_pnet]
 by_cases c1:(xv1 n l).2=0
 rotate_left
 .simp[x109,c1]
 simp[x109,c1,w_value d h (right_of c1) hf]
def sumN:Nat->(Nat->Int)->Int
 |0,_=>0
 |n+1,g=>sumN n g+g n
theorem x15c{n:Nat}{g h:Nat->Int}(H:∀k,k<n->g k=h k):sumN n g=sumN n h:=by
 induction n with
 |zero=>rfl
 |succ n ih=>simp only[sumN];rw[ih λk hk=>H k (by omega),H n (by omega)]
theorem x10a{n:Nat}{g:Nat->Int}(H:∀k,k<n->g k=0):sumN n g=0:=by
 induction n with
 |zero=>rfl
 |succ n ih=>simp only[sumN];rw[ih λk hk=>H k (by omega),H n (by omega)];rfl
theorem x11a{n:Nat}{g h:Nat->Int}:sumN n (λk=>g k+h k)=sumN n g+sumN n h:=by
 induction n with
 |zero=>rfl
 |succ n ih=>simp only[sumN];rw[ih];omega
theorem x1cm{n:Nat}{g:Nat->Int}(H:∀k,k<n->0<=g k):0<=sumN n g:=by
 induction n with
 |zero=>simp[sumN]
 |succ n ih=>simp only[sumN];have:=ih λk hk=>H k (by omega);have:=H n (by omega);omega
theorem sumN_le{n:Nat}{g h:Nat->Int}(H:∀k,k<n->g k<=h k):sumN n g<=sumN n h:=by
 induction n with
 |zero=>simp[sumN]
 |succ n ih=>simp only[sumN];have:=ih λk hk=>H k (by omega);have:=H n (by omega);omega
theorem sumN_lt{n:Nat}{g h:Nat->Int}(H:∀k,k<n->g k<=h k){j:Nat}(hj:j<n)(hl:g j<h j):sumN n g<sumN n h:=by
 induction n with
 |zero=>omega
 |succ n ih=>
  simp only[sumN]
  have h1:=H n (by omega)
  by_cases e:j=n
  .subst e
   have:=sumN_le (n:=j) (g:=g) (h:=h) λk hk=>H k (by omega)
   omega
  .have:=ih (λk hk=>H k (by omega)) (by omega)
   omega
theorem x11b{n v:Nat}(h:v<n)(c:Int)(p:Nat->Int):sumN n (λk=>if v=k then p k*c else 0)=p v*c:=by
 induction n with
 |zero=>omega
 |succ n ih=>
  simp only[sumN]
  by_cases e:v=n
  .subst e
   rw[x10a (λk hk=>x1g6 (by omega)),x1g7 rfl];omega
  .rw[ih (by omega),x1g6 e];omega
def exF(p:Nat->Int)(e:Edge):Int:=p e.to.toNat-p e.fr.toNat+e.jump
def xyi(p:Nat->Int):List Edge->Int
 |[]=>0
 |e::r=>e.wt*((exF p e).natAbs:Int)+xyi p r
def valF:List (Edge×Int)->Int
 |[]=>0
 |x::r=>x.2*x.1.jump+valF r
def netF(v:Nat):List (Edge×Int)->Int
 |[]=>0
 |x::r=>(if x.1.to.toNat=v then x.2 else 0)-(if x.1.fr.toNat=v then x.2 else 0)+netF v r
def gapF(p:Nat->Int):List (Edge×Int)->Int
 |[]=>0
 |x::r=>x.1.wt*((exF p x.1).natAbs:Int)-x.2*exF p x.1+gapF p r
def Cap(z:List (Edge×Int)):Prop:=∀x∈z,-x.1.wt<=x.2/\x.2<=x.1.wt
def Ends(n:Nat)(z:List (Edge×Int)):Prop:=∀x∈z,x.1.fr.toNat<n/\x.1.to.toNat<n
def CS(p:Nat->Int)(z:List (Edge×Int)):Prop:=∀x∈z,(x.2<x.1.wt->exF p x.1<=0)/\(-x.1.wt<x.2->0<=exF p x.1)
structure Feas (n:Nat) (z:List (Edge×Int)):Prop where
 cap:Cap z
 cons:∀v,v<n->netF v z=0
 ends:Ends n z
theorem x12r(n:Nat)(p:Nat->Int):∀z:List (Edge×Int),Ends n z->sumN n (λv=>p v*netF v z)=valF z*0+(z.foldr (λx s=>x.2*(p x.1.to.toNat-p x.1.fr.toNat)+s) 0)
 |[],_=>by simp only[netF,Int.mul_zero,List.foldr_nil,valF];rw[x10a (λ_ _=>rfl)];rfl
 |x::r,h=>by
  have ih:=x12r n p r (λy hy=>h y (x1ge _ hy))
  obtain⟨h1,h2⟩:=h x (x1gf ..)
  have e:∀v,p v*netF v (x::r)=(if x.1.to.toNat=v then p v*x.2 else 0)+((if x.1.fr.toNat=v then p v*(-x.2)else 0)+p v*netF v r):=by
   intro v
   simp only[netF]
   split<;>split<;>grind
  rw[x15c (λk _=>e k),x11a,x11a,x11b h1,x11b h2,ih]
  simp only[x1k8]
  grind
theorem x197(p:Nat->Int):∀z:List (Edge×Int),xyi p (z.map Prod.fst)=gapF p z+valF z+z.foldr (λx s=>x.2*(p x.1.to.toNat-p x.1.fr.toNat)+s) 0
 |[]=>rfl
 |x::r=>by
  have ih:=x197 p r
  simp only[x1gt,xyi,gapF,valF,x1k8,ih,exF]
  grind
theorem cost_val{n:Nat}{z:List (Edge×Int)}(h:Feas n z)(p:Nat->Int):xyi p (z.map Prod.fst)=gapF p z+valF z:=by
 have h1:=x197 p z
 have h2:=x12r n p z h.ends
 rw[x10a (λk hk=>by rw[h.cons k hk];simp)]at h2
 omega
theorem gap1{w f e:Int}(h1:-w<=f)(h2:f<=w):0<=w*(e.natAbs:Int)-f*e:=by
 rcases Int.le_total 0 e with h|h
 .rw[Int.natAbs_of_nonneg h]
  have:=x1kr h2 h
  omega
 .rw[show(e.natAbs:Int)=-e by omega]
  have:=x1kr (show -f<=w by omega) (show 0<=-e by omega)
  grind
theorem gap1_zero{w f e:Int}(h1:-w<=f)(h2:f<=w):w*(e.natAbs:Int)-f*e=0↔(f<w->e<=0)/\(-w<f->0<=e):=by
 rcases Int.lt_trichotomy e 0 with h|h|h
 .rw[show(e.natAbs:Int)=-e by omega,show w*-e-f*e=(w+f)*-e by grind,Int.mul_eq_zero]
  constructor
  .rintro(h3|h3)
   .exact⟨λ_=>by omega,λ_=>by omega⟩
   .omega
  .intro⟨_,h4⟩
   by_cases c:-w<f
   .have:=h4 c;omega
   .left;omega
 .subst h;simp
 .rw[Int.natAbs_of_nonneg (by omega),show w*e-f*e=(w-f)*e by grind,Int.mul_eq_zero]
  constructor
  .rintro(h3|h3)
   .exact⟨λ_=>by omega,λ_=>by omega⟩
   .omega
  .intro⟨h4,_⟩
   by_cases c:f<w
   .have:=h4 c;omega
   .left;omega
theorem x198(p:Nat->Int):∀{z:List (Edge×Int)},Cap z->0<=gapF p z
 |[],_=>by simp[gapF]
 |x::r,h=>by
  have h1:=x198 p (z:=r) λy hy=>h y (x1ge _ hy)
  have h2:=h x (x1gf ..)
  have h3:=gap1 (e:=exF p x.1) h2.1 h2.2
  simp only[gapF];omega
theorem x199(p:Nat->Int):∀{z:List (Edge×Int)},Cap z->(gapF p z=0↔CS p z)
 |[],_=>by simp[gapF,CS]
 |x::r,h=>by
  have hr:Cap r:=λy hy=>h y (x1ge _ hy)
  have ih:=x199 p hr
  have h0:=x198 p hr
  have h2:=h x (x1gf ..)
  have h3:=gap1 (e:=exF p x.1) h2.1 h2.2
  have h4:=gap1_zero (e:=exF p x.1) h2.1 h2.2
  have e:CS p (x::r)↔((x.2<x.1.wt->exF p x.1<=0)/\(-x.1.wt<x.2->0<=exF p x.1))/\CS p r:=by
   simp[CS]
  rw[e,<-ih,<-h4]
  simp only[gapF];omega
theorem tight{n:Nat}{z:List (Edge×Int)}(h:Feas n z)(p:Nat->Int):xyi p (z.map Prod.fst)=valF z↔CS p z:=by
 rw[<-x199 p h.cap]
 have:=cost_val h p
 omega
def Arc(z:List (Edge×Int))(u v:Nat)(c:Int):Prop:=∃x∈z,(x.2<x.1.wt/\u=x.1.fr.toNat/\v=x.1.to.toNat/\c=-x.1.jump)\/(-x.1.wt<x.2/\u=x.1.to.toNat/\v=x.1.fr.toNat/\c=x.1.jump)
inductive Way (z:List (Edge×Int)) (u:Nat):Nat->Int->Prop
 |nil:Way z u u 0
 |cons {v w:Nat} {c d:Int}:Way z u v c->Arc z v w d->Way z u w (c+d)
theorem cs_iff{p:Nat->Int}{z:List (Edge×Int)}:CS p z↔∀u v c,Arc z u v c->p v-p u<=c:=by
 constructor
 .rintro h u v c ⟨x,hx,⟨h1,rfl,rfl,rfl⟩|⟨h1,rfl,rfl,rfl⟩⟩
  .have:=(h x hx).1 h1;unfold exF at this;omega
  .have:=(h x hx).2 h1;unfold exF at this;omega
 .intro h x hx
  refine⟨λh1=>?_,λh1=>?_⟩
  .have:=h _ _ _ ⟨x,hx,Or.inl ⟨h1,rfl,rfl,rfl⟩⟩;unfold exF;omega
  .have:=h _ _ _ ⟨x,hx,Or.inr ⟨h1,rfl,rfl,rfl⟩⟩;unfold exF;omega
theorem Way.le{p:Nat->Int}{z:List (Edge×Int)}(h:CS p z){u v:Nat}{c:Int}(hw:Way z u v c):p v-p u<=c:=by
 induction hw with
 |nil=>omega
 |cons _ ha ih=>have:=cs_iff.mp h _ _ _ ha;omega
theorem Arc.lt{n:Nat}{z:List (Edge×Int)}(h:Ends n z){u v:Nat}{c:Int}(ha:Arc z u v c):u<n/\v<n:=by
 obtain⟨x,hx,⟨h1,rfl,rfl,rfl⟩|⟨h1,rfl,rfl,rfl⟩⟩:=ha
 .exact h x hx
 .exact⟨(h x hx).2,(h x hx).1⟩
theorem Way.lt{n:Nat}{z:List (Edge×Int)}(h:Ends n z){u v:Nat}{c:Int}(hu:u<n)(hw:Way z u v c):v<n:=by
 cases hw with
 |nil=>exact hu
 |cons _ ha=>exact(ha.lt h).2
theorem cut_sum(n:Nat)(S:Nat->Bool):∀z:List (Edge×Int),Ends n z->Cap z->(∀u v c,Arc z u v c->S u=true->S v=true) ->
 sumN n (λv=>(if S v then 1 else 0)*netF v z)<=0/\(0<=sumN n (λv=>(if S v then 1 else 0)*netF v z)->∀x∈z,0<x.1.wt->S x.1.fr.toNat=S x.1.to.toNat):=by
 intro z he hc ha
 rw[x12r n (λv=>if S v then 1 else 0) z he]
 simp only[Int.mul_zero,Int.zero_add]
 induction z with
 |nil=>simp
 |cons x r ih=>
  have hx:=hc x (x1gf ..)
  obtain⟨i1,i2⟩:=ih (λy hy=>he y (x1ge _ hy)) (λy hy=>hc y (x1ge _ hy)) (λu v c ⟨y,hy,h⟩=>ha u v c ⟨y,x1ge _ hy,h⟩)
  simp only[x1k8]
  have a1:x.2<x.1.wt->S x.1.fr.toNat=true->S x.1.to.toNat=true:=λh=>ha _ _ _ ⟨x,x1gf ..,Or.inl ⟨h,rfl,rfl,rfl⟩⟩
  have a2:-x.1.wt<x.2->S x.1.to.toNat=true->S x.1.fr.toNat=true:=λh=>ha _ _ _ ⟨x,x1gf ..,Or.inr ⟨h,rfl,rfl,rfl⟩⟩
  cases c1:S x.1.fr.toNat<;>cases c2:S x.1.to.toNat
  .simp only[x1h3,x1gu]
   refine⟨by omega,λh y hy hw=>?_⟩
   rcases x1gn.mp hy with rfl|hy
   .rw[c1,c2]
   .exact i2 (by omega) y hy hw
  .have:¬(-x.1.wt<x.2):=λh=>by have:=a2 h c2;rw[c1]at this;cases this
   simp only[x1h3,x1gu,x1gp]
   refine⟨by omega,λh y hy hw=>?_⟩
   rcases x1gn.mp hy with rfl|hy
   .omega
   .exact i2 (by omega) y hy hw
  .have:¬(x.2<x.1.wt):=λh=>by have:=a1 h c1;rw[c2]at this;cases this
   simp only[x1h3,x1gu,x1gp]
   refine⟨by omega,λh y hy hw=>?_⟩
   rcases x1gn.mp hy with rfl|hy
   .omega
   .exact i2 (by omega) y hy hw
  .simp only[x1gp]
   refine⟨by omega,λh y hy hw=>?_⟩
   rcases x1gn.mp hy with rfl|hy
   .rw[c1,c2]
   .exact i2 (by omega) y hy hw
theorem x1cn{t:Tour}{k:Nat}{a:Ar}(hk:k<t.last.length)(L B:List Int)(v:Nat):lastAt ⟨L,t.last.set k a,B⟩ v=if v=k then a else lastAt t v:=by
 unfold lastAt
 simp only
 rw[x1gk,x1gk,x1jd]
 by_cases e:k=v
 .subst e;simp[hk]
 .rw[x1g6 e,x1g6 (λx=>e x.symm)]
def OutA(l:List Edge)(fl:List Int)(a:Nat)(i:Int):Prop:=i∈adjI l a/\0<(arcAt l fl a i).room
structure RedOK (n:Nat) (l:List Edge) (fl tu:List Int):Prop where
 rng:∀a i,a<n->i∈adjI l (a:Nat)->0<=(arcAt l fl a i).to/\(arcAt l fl a i).to<n/\(arcAt l fl a i).to≠a
 red:∀a i,a<n->OutA l fl a i->0<=(arcAt l fl a i).cost+at0 tu a-at0 tu (arcAt l fl a i).to.toNat
structure Rel (n:Nat) (l:List Edge) (fl tu:List Int) (a:Nat) (is:List Int) (t t':Tour):Prop where
 ll:t'.len.length=n
 al:t'.last.length=n
 bl:t'.bef.length=n
 le:∀v,at0 t'.len v<=at0 t.len v
 ch:∀v,(at0 t'.len v=at0 t.len v/\lastAt t' v=lastAt t v/\at0 t'.bef v=at0 t.bef v) \/
  (at0 t'.len v<at0 t.len v/\at0 t'.bef v=a/\∃i∈is,0<(arcAt l fl a i).room/\lastAt t' v=arcAt l fl a i/\(arcAt l fl a i).to=v/\at0 t'.len v=at0 t.len a+(arcAt l fl a i).cost+at0 tu a-at0 tu v)
 cl:∀i∈is,0<(arcAt l fl a i).room->at0 t'.len (arcAt l fl a i).to.toNat<=at0 t.len a+(arcAt l fl a i).cost+at0 tu a-at0 tu (arcAt l fl a i).to.toNat
theorem x19a{n:Nat}{l:List Edge}{fl tu:List Int}{a:Nat}(ha:a<n)(hR:RedOK n l fl tu):∀(is:List Int) (t:Tour),(∀i∈is,i∈adjI l a)->t.len.length=n->t.last.length=n->t.bef.length=n ->
 Rel n l fl tu a is t (is.foldl (λt i=>if 0<(arcAt l fl a i).room then xwd tu a t (arcAt l fl a i)else t) t)
 |[],t,_,h1,h2,h3=>⟨h1,h2,h3,λv=>x1ho _,λv=>Or.inl ⟨rfl,rfl,rfl⟩,λi hi=>by simp at hi⟩
 |i::is,t,hi,h1,h2,h3=>by
  rw[x1ic]
  obtain⟨r0,r1,r2⟩:=hR.rng a i ha (hi i (x1gf ..))
  obtain⟨A,hA⟩:∃A,A=arcAt l fl a i:=⟨_,rfl⟩
  rw[<-hA]at r0 r1 r2
  obtain⟨k,hk⟩:∃k:Nat,A.to=k:=⟨A.to.toNat,by omega⟩
  have hkn:k<n:=by omega
  have hka:k≠a:=by omega
  obtain⟨t1,ht1⟩:∃t1,t1=(if 0<(arcAt l fl a i).room then xwd tu a t (arcAt l fl a i)else t):=⟨_,rfl⟩
  rw[<-ht1]
  have one:Rel n l fl tu a [i] t t1:=by
   rw[ht1,<-hA]
   split
   .rename_i hr
    unfold xwd
    simp only[x1gb,hk]
    split
    .rename_i hx
     refine⟨by simp[h1],by simp[h2],by simp[h3],λv=>?_,λv=>?_,λj hj hjr=>?_⟩
     .simp only
      rw[xue (by omega)]
      split
      .rename_i e;subst e;omega
      .exact x1ho _
     .simp only
      rw[xue (by omega),xue (by omega),x1cn (by omega)]
      by_cases e:v=k
      .subst e
       right
       simp only[x1gp]
       exact⟨hx,trivial,i,x1gf ..,by rw[<-hA];exact hr,hA,by rw[<-hA];exact hk,by rw[<-hA]⟩
      .left
       simp only[x1g6 e]
       exact⟨trivial,trivial,trivial⟩
     .rw[x1hk]at hj
      subst hj
      rw[<-hA,hk,x1gb]
      simp only
      rw[xue (by omega),x1g7 rfl]
      omega
    .rename_i hx
     refine⟨h1,h2,h3,λv=>x1ho _,λv=>Or.inl ⟨rfl,rfl,rfl⟩,λj hj hjr=>?_⟩
     rw[x1hk]at hj
     subst hj
     rw[<-hA,hk,x1gb]
     omega
   .rename_i hr
    refine⟨h1,h2,h3,λv=>x1ho _,λv=>Or.inl ⟨rfl,rfl,rfl⟩,λj hj hjr=>?_⟩
    rw[x1hk]at hj
    subst hj
    rw[<-hA]at hjr
    exact absurd hjr hr
  have rest:=x19a ha hR is t1 (λj hj=>hi j (x1ge _ hj)) one.ll one.al one.bl
  have ea:at0 t1.len a=at0 t.len a:=by
   rcases one.ch a with h|⟨_,_,j,hj,_,_,hj2,_⟩
   .exact h.1
   .rw[x1hk]at hj
    subst hj
    rw[<-hA,hk]at hj2
    omega
  refine⟨rest.ll,rest.al,rest.bl,λv=>Int.le_trans (rest.le v) (one.le v),λv=>?_,λj hj hjr=>?_⟩
  .rcases rest.ch v with ⟨e1,e2,e3⟩|⟨e1,e2,j,hj,e3,e4,e5,e6⟩
   .rcases one.ch v with ⟨f1,f2,f3⟩|⟨f1,f2,j,hj,f3,f4,f5,f6⟩
    .left;exact⟨by rw[e1,f1],by rw[e2,f2],by rw[e3,f3]⟩
    .right
     rw[x1hk]at hj
     subst hj
     exact⟨by rw[e1];exact f1,by rw[e3,f2],j,x1gf ..,f3,by rw[e2,f4],f5,by rw[e1];exact f6⟩
   .right
    have:=one.le v
    exact⟨by omega,e2,j,x1ge _ hj,e3,e4,e5,by rw[e6,ea]⟩
  .rcases x1gn.mp hj with rfl|hj
   .have h1:=one.cl j (x1gf ..) hjr
    have h2:=rest.le (arcAt l fl a j).to.toNat
    omega
   .have:=rest.cl j hj hjr
    rw[ea]at this
    exact this
structure Dij (n:Nat) (l:List Edge) (fl tu:List Int) (fr:Nat) (t:Tour) (ds:List Bool) (rk:Nat->Nat) (R:Nat):Prop where
 ll:t.len.length=n
 al:t.last.length=n
 bl:t.bef.length=n
 dl:ds.length=n
 le:∀v,at0 t.len v<=farM
 z:at0 t.len fr=0
 st:dn ds fr=true\/∀v,v<n->v≠fr->at0 t.len v=farM
 pre:∀v,v<n->v≠fr->at0 t.len v<farM->∃w,w<n/\dn ds w=true/\at0 t.bef v=(w:Nat)/\(dn ds v=true->rk w<rk v) /\
  ∃i,OutA l fl w i/\lastAt t v=arcAt l fl w i/\(arcAt l fl w i).to=v/\at0 t.len v=at0 t.len w+(arcAt l fl w i).cost+at0 tu w-at0 tu v
 don:∀a,a<n->dn ds a=true->at0 t.len a<farM/\rk a<R/\(∀b,b<n->dn ds b=false->at0 t.len a<=at0 t.len b) /\
  ∀i,OutA l fl a i->at0 t.len (arcAt l fl a i).to.toNat<=at0 t.len a+(arcAt l fl a i).cost+at0 tu a-at0 tu (arcAt l fl a i).to.toNat
theorem dij_step{n:Nat}{l:List Edge}{fl tu:List Int}{fr:Nat}{t:Tour}{ds:List Bool}{rk:Nat->Nat}{R:Nat}(hR:RedOK n l fl tu)(h:Dij n l fl tu fr t ds rk R)(hfr:fr<n){a:Nat}(ha:a<n)(hda:dn ds a=false)(hla:at0 t.len a<farM)(hmin:∀i,i<n->dn ds i=false->at0 t.len a<=at0 t.len i) :
 Dij n l fl tu fr (x107 l fl tu a t) (ds.set a true) (λv=>if v=a then R else rk v) (R+1):=by
 have rel:Rel n l fl tu a (adjI l a) t (x107 l fl tu a t):=x19a ha hR (adjI l a) t (λi hi=>hi) h.ll h.al h.bl
 obtain⟨t',ht'⟩:∃t',t'=x107 l fl tu a t:=⟨_,rfl⟩
 rw[<-ht']at rel ⊢
 have dset:∀j,dn (ds.set a true) j=if j=a then true else dn ds j:=λj=>dn_set (by rw[h.dl];exact ha)
 have same:∀b,b<n->(b=a\/dn ds b=true)->at0 t'.len b=at0 t.len b/\lastAt t' b=lastAt t b/\at0 t'.bef b=at0 t.bef b:=by
  intro b hb hd
  rcases rel.ch b with h1|⟨h1,h2,i,hi,h3,h4,h5,h6⟩
  .exact h1
  .exfalso
   have hr:=hR.red a i ha ⟨hi,h3⟩
   have hg:=hR.rng a i ha hi
   rw[h5,x1gb]at hr
   rcases hd with rfl|hd
   .exact hg.2.2 h5
   .have:=(h.don b hb hd).2.2.1 a ha hda
    omega
 have sa:=same a ha (Or.inl rfl)
 refine⟨rel.ll,rel.al,rel.bl,by simp[h.dl],λv=>Int.le_trans (rel.le v) (h.le v),?_,?_,?_,?_⟩
 .rcases h.st with hs|hs
  .rw[(same fr hfr (Or.inr hs)).1];exact h.z
  .have:a=fr:=by
    by_cases e:a=fr
    .exact e
    .have:=hs a ha e;omega
   rw[<-this,sa.1,this];exact h.z
 .left
  rw[dset]
  split
  .rfl
  .rename_i e
   rcases h.st with hs|hs
   .exact hs
   .have:=hs a ha (λx=>e x.symm);omega
 .intro v hv hvf hlv
  rcases rel.ch v with ⟨e1,e2,e3⟩|⟨e1,e2,i,hi,e3,e4,e5,e6⟩
  .obtain⟨w,w1,w2,w3,w4,i,w5,w6,w7,w8⟩:=h.pre v hv hvf (by omega)
   have hwa:w≠a:=by rintro rfl;rw[w2]at hda;cases hda
   refine⟨w,w1,by rw[dset,x1g6 hwa];exact w2,by rw[e3];exact w3,λhd=>?_,i,w5,by rw[e2];exact w6,w7,by rw[e1,(same w w1 (Or.inr w2)).1];exact w8⟩
   rw[x1g6 hwa]
   by_cases e:v=a
   .rw[x1g7 e];exact(h.don w w1 w2).2.1
   .rw[x1g6 e]
    rw[dset,x1g6 e]at hd
    exact w4 hd
  .refine⟨a,ha,by rw[dset,x1g7 rfl],e2,λhd=>?_,i,⟨hi,e3⟩,e4,e5,by rw[sa.1];exact e6⟩
   exfalso
   have:v=a\/dn ds v=true:=by
    rw[dset]at hd
    by_cases e:v=a
    .exact Or.inl e
    .rw[x1g6 e]at hd;exact Or.inr hd
   have:=(same v hv this).1
   omega
 .intro b hb hd
  have hd':b=a\/dn ds b=true:=by
   rw[dset]at hd
   by_cases e:b=a
   .exact Or.inl e
   .rw[x1g6 e]at hd;exact Or.inr hd
  have sb:=same b hb hd'
  have lba:at0 t.len b<=at0 t.len a:=by
   rcases hd' with rfl|hd'
   .exact x1ho _
   .exact(h.don b hb hd').2.2.1 a ha hda
  refine⟨by omega,?_,λc hc hdc=>?_,λi hi=>?_⟩
  .split
   .omega
   .rename_i e
    rcases hd' with e'|hd'
    .exact absurd e' e
    .have:=(h.don b hb hd').2.1;omega
  .rw[dset]at hdc
   have hca:c≠a:=by rintro rfl;simp at hdc
   rw[x1g6 hca]at hdc
   have hac:=hmin c hc hdc
   rcases rel.ch c with ⟨e1,-,-⟩|⟨e1,e2,i,hi,e3,e4,e5,e6⟩
   .omega
   .have hr:=hR.red a i ha ⟨hi,e3⟩
    rw[e5,x1gb]at hr
    omega
  .rw[sb.1]
   rcases hd' with rfl|hd'
   .exact rel.cl i hi.1 hi.2
   .have h1:=(h.don b hb hd').2.2.2 i hi
    have h2:=rel.le (arcAt l fl b i).to.toNat
    omega
theorem ways_dij{n:Nat}{l:List Edge}{fl tu:List Int}{fr:Nat}(hR:RedOK n l fl tu)(hfr:fr<n):∀(f:Nat) (t:Tour) (ds:List Bool) (rk:Nat->Nat) (R:Nat),Dij n l fl tu fr t ds rk R->cntF ds<f ->
 ∃ds' rk' R',Dij n l fl tu fr (xyh l fl tu f t ds) ds' rk' R'/\∀v,v<n->dn ds' v=false->at0 (xyh l fl tu f t ds).len v=farM:=by
 intro f
 induction f with
 |zero=>intro t ds rk R _ h;omega
 |succ f ih=>
  intro t ds rk R h hf
  simp only[xyh]
  have hp:=x157 (len:=t.len) (ds:=ds) (by rw[h.dl,h.ll]) t.len ds 0 (-1) rfl rfl (by omega) (Or.inl ⟨rfl,λi hi=>by omega⟩)
  rw[show((0:Nat):Int)=0 from rfl]at hp
  obtain⟨p,hpe⟩:∃p,p=xyg t.len (-1) 0 t.len ds:=⟨_,rfl⟩
  rw[<-hpe]at hp ⊢
  rcases hp with ⟨h1,h2⟩|⟨h1,h2,h3,h4,h5⟩
  .rw[x1g7 (by omega)]
   exact⟨ds,rk,R,h,λv hv hd=>by have:=h2 v (by rw[h.ll];exact hv) hd;have:=h.le v;omega⟩
  .rw[x1g6 (by omega)]
   have hpn:p.toNat<n:=by have:=h.ll;omega
   have:=dij_step hR h hfr hpn h3 h4 (λi hi hd=>h5 i (by rw[h.ll];exact hi) hd)
   rw[x1hg h1]at this
   exact ih _ _ _ _ this (by have:=x12o (ds:=ds) (k:=p.toNat) (by rw[h.dl];exact hpn) h3;omega)
structure WaysOK (n:Nat) (l:List Edge) (fl tu:List Int) (fr:Nat) (t:Tour) (rk:Nat->Nat):Prop where
 ll:t.len.length=n
 al:t.last.length=n
 bl:t.bef.length=n
 le:∀v,at0 t.len v<=farM
 z:at0 t.len fr=0
 pre:∀v,v<n->v≠fr->at0 t.len v<farM->∃w,w<n/\at0 t.len w<farM/\at0 t.bef v=(w:Nat)/\rk w<rk v /\
  ∃i,OutA l fl w i/\lastAt t v=arcAt l fl w i/\(arcAt l fl w i).to=v/\at0 t.len v=at0 t.len w+(arcAt l fl w i).cost+at0 tu w-at0 tu v
 cl:∀a,a<n->at0 t.len a<farM->∀i,OutA l fl a i->at0 t.len (arcAt l fl a i).to.toNat<=at0 t.len a+(arcAt l fl a i).cost+at0 tu a-at0 tu (arcAt l fl a i).to.toNat
 nn:∀v,v<n->0<=at0 t.len v
theorem dij_start{n:Nat}{l:List Edge}{fl tu:List Int}{fr:Nat}(hfr:fr<n):Dij n l fl tu fr (xv5 n fr) (List.replicate n false) (λ_=>0) 0:=by
 have hl:∀v,at0 (xv5 n fr).len v=if v=fr then 0 else if v<n then farM else 0:=by
  intro v
  unfold xv5
  simp only[x1gb]
  rw[xue (by simp;omega)]
  split
  .rfl
  .unfold at0
   rw[x1gk,x1jw]
   split<;>rfl
 refine⟨by simp[xv5],by simp[xv5],by simp[xv5],by simp,λv=>?_,?_,?_,?_,?_⟩
 .have:(0:Int)<=farM:=by decide
  rw[hl]
  split
  .exact this
  .split
   .exact x1ho _
   .exact this
 .rw[hl,x1g7 rfl]
 .right;intro v hv hvf;rw[hl,x1g6 hvf,x1g7 hv]
 .intro v hv hvf h;rw[hl,x1g6 hvf,x1g7 hv]at h;exact absurd h (Int.lt_irrefl _)
 .intro a ha hd
  exfalso
  rw[dn_lt (by simpa using ha)]at hd
  simp at hd
theorem ways_ok{n:Nat}{l:List Edge}{fl tu:List Int}{fr:Nat}(hR:RedOK n l fl tu)(hfr:fr<n)(hn:n<=200):∃rk,WaysOK n l fl tu fr (waysF n l fl tu fr) rk:=by
 obtain⟨ds,rk,R,h,hd⟩:=ways_dij hR hfr NN (xv5 n fr) (List.replicate n false) _ _ (dij_start hfr) (by rw[x156,xsu];omega)
 have fin:∀v,v<n->at0 (waysF n l fl tu fr).len v<farM->dn ds v=true:=by
  intro v hv hl
  cases c:dn ds v with
  |true=>rfl
  |false=>have:=hd v hv c;unfold waysF at hl;omega
 have nn:∀r v,v<n->rk v<r->at0 (waysF n l fl tu fr).len v<farM->0<=at0 (waysF n l fl tu fr).len v:=by
  intro r
  induction r with
  |zero=>intro v _ h;omega
  |succ r ih=>
   intro v hv hr hl
   by_cases e:v=fr
   .rw[e];unfold waysF;rw[h.z];omega
   .obtain⟨w,w1,w2,w3,w4,i,w5,w6,w7,w8⟩:=h.pre v hv e hl
    have h1:=w4 (fin v hv hl)
    have h2:=ih w w1 (by omega) (h.don w w1 w2).1
    have h3:=hR.red w i w1 w5
    rw[w7,x1gb]at h3
    unfold waysF at *
    omega
 refine⟨rk,h.ll,h.al,h.bl,h.le,h.z,λv hv hvf hl=>?_,λa ha hl i hi=>((h.don a ha (fin a ha hl)).2.2.2 i hi),λv hv=>?_⟩
 .obtain⟨w,w1,w2,w3,w4,w5⟩:=h.pre v hv hvf hl
  exact⟨w,w1,(h.don w w1 w2).1,w3,w4 (fin v hv hl),w5⟩
 .by_cases c:at0 (waysF n l fl tu fr).len v<farM
  .exact nn _ v hv (x1j7 _) c
  .have:(0:Int)<=farM:=by decide
   omega
theorem x19b:∀(ps:List Nat) (ds:List Bool),ps.Nodup->(∀w∈ps,w<ds.length/\dn ds w=false)->ps.length<=cntF ds
 |[],_,_,_=>x1jl _
 |w::ps,ds,h,hd=>by
  obtain⟨h1,h2⟩:=x1hz.mp h
  obtain⟨h3,h4⟩:=hd w (x1gf ..)
  have:=x19b ps (ds.set w true) h2 (λx hx=>by
   obtain⟨h5,h6⟩:=hd x (x1ge _ hx)
   exact⟨by simpa using h5,by rw[dn_set h3,x1g6 (by rintro rfl;exact h1 hx)];exact h6⟩)
  have:=x12o h3 h4
  simp only[x1gq];omega
theorem nodup_len{n:Nat}{ps:List Nat}(h:ps.Nodup)(hp:∀w∈ps,w<n):ps.length<=n:=by
 have:=x19b ps (List.replicate n false) h (λw hw=>⟨by simpa using hp w hw,by rw[dn_lt (by simpa using hp w hw)];simp⟩)
 rwa[x156]at this
structure FlowOK (n:Nat) (l:List Edge) (fl tu ex:List Int):Prop where
 nn:n<=200
 ll:l.length<=600
 ed:∀e∈l,EdgeIn n e/\e.fr≠e.to
 fll:fl.length=l.length
 tul:tu.length=n
 exl:ex.length=n
 cap:∀k,k<l.length->-(edgeAt l k).wt<=at0 fl k/\at0 fl k<=(edgeAt l k).wt
 cs:∀k,k<l.length->(at0 fl k<(edgeAt l k).wt->exI tu (edgeAt l k)<=0)/\(-(edgeAt l k).wt<at0 fl k->0<=exI tu (edgeAt l k))
 net:∀v,v<n->at0 ex v=netF v (l.zip fl)
theorem xx8{n:Nat}{l:List Edge}(hed:∀e∈l,EdgeIn n e/\e.fr≠e.to){k:Nat}(hk:k<l.length):EdgeIn n (edgeAt l k)/\(edgeAt l k).fr≠(edgeAt l k).to:=by
 rw[xwc hk];exact hed _ (x1go hk)
theorem x12s{n:Nat}{l:List Edge}(hed:∀e∈l,EdgeIn n e/\e.fr≠e.to)(fl:List Int){a i:Int}(hi:i∈adjI l a):∃k:Nat,k<l.length/\i=k /\
 (((edgeAt l k).to=a/\(edgeAt l k).fr≠a/\arcAt l fl a i=⟨k,(edgeAt l k).fr,-1,(edgeAt l k).wt+at0 fl k,(edgeAt l k).jump⟩) \/
  ((edgeAt l k).fr=a/\(edgeAt l k).to≠a/\arcAt l fl a i=⟨k,(edgeAt l k).to,1,(edgeAt l k).wt-at0 fl k,-(edgeAt l k).jump⟩)):=by
 obtain⟨h0,h1,h2⟩:=x154 hi
 obtain⟨k,rfl⟩:∃k:Nat,i=k:=⟨i.toNat,by omega⟩
 rw[x1gb]at h2
 have hk:k<l.length:=by omega
 obtain⟨he,hne⟩:=xx8 hed hk
 refine⟨k,hk,rfl,?_⟩
 unfold arcAt
 simp only[x1gb]
 by_cases c:(edgeAt l k).to=a
 .left
  rw[x1g7 c]
  exact⟨c,by omega,rfl⟩
 .right
  rw[x1g6 c]
  exact⟨by rcases h2 with h|h;exact h;exact absurd h c,c,rfl⟩
theorem x12t{l:List Edge}{k:Nat}{a:Int}(hk:k<l.length)(h:(edgeAt l k).fr=a\/(edgeAt l k).to=a):(k:Int)∈adjI l a:=by
 unfold adjI
 rw[x1gs]
 exact⟨k,x1h1.mpr ⟨x1h0.mpr hk,by simpa using h⟩,rfl⟩
theorem FlowOK.red{n:Nat}{l:List Edge}{fl tu ex:List Int}(h:FlowOK n l fl tu ex):RedOK n l fl tu:=by
 refine⟨λa i ha hi=>?_,λa i ha hi=>?_⟩
 .obtain⟨k,hk,rfl,hc⟩:=x12s h.ed fl hi
  obtain⟨⟨f0,f1,t0,t1,-⟩,hne⟩:=xx8 h.ed hk
  rcases hc with ⟨c1,c2,c3⟩|⟨c1,c2,c3⟩<;>rw[c3]<;>exact⟨by assumption,by assumption,c2⟩
 .obtain⟨hi,hr⟩:=hi
  obtain⟨k,hk,rfl,hc⟩:=x12s h.ed fl hi
  obtain⟨s1,s2⟩:=h.cs k hk
  rcases hc with ⟨c1,c2,c3⟩|⟨c1,c2,c3⟩
  .rw[c3]at hr ⊢
   simp only at hr ⊢
   have:=s2 (by omega)
   unfold exI at this
   rw[c1,x1gb]at this
   omega
  .rw[c3]at hr ⊢
   simp only at hr ⊢
   have:=s1 (by omega)
   unfold exI at this
   rw[c1,x1gb]at this
   omega
theorem path_ok{n:Nat}{l:List Edge}{fl tu ex:List Int}(h:FlowOK n l fl tu ex){fr:Nat}{t:Tour}{rk:Nat->Nat}(W:WaysOK n l fl tu fr t rk):∀(r v:Nat),v<n->rk v<r->at0 t.len v<farM ->
 ∃ps,PathI n t.bef fr (v:Nat) ps/\(∀w∈ps,w<n/\w≠fr/\at0 t.len w<=at0 t.len v/\rk w<=rk v)/\ps.Nodup:=by
 intro r
 induction r with
 |zero=>intro v _ hh;omega
 |succ r ih=>
  intro v hv hr hl
  by_cases e:v=fr
  .exact⟨[],by rw[e];rfl,λw hw=>by simp at hw,List.nodup_nil⟩
  .obtain⟨b,b1,b2,b3,b4,i,b5,b6,b7,b8⟩:=W.pre v hv e hl
   obtain⟨ps,p1,p2,p3⟩:=ih b b1 (by omega) b2
   have hred:=h.red.red b i b1 b5
   rw[b7,x1gb]at hred
   refine⟨v::ps,⟨by omega,rfl,hv,by rw[b3];exact p1⟩,λw hw=>?_,x1hz.mpr ⟨λhw=>?_,p3⟩⟩
   .rcases x1gn.mp hw with rfl|hw
    .exact⟨hv,e,x1ho _,x1ga _⟩
    .obtain⟨q1,q2,q3,q4⟩:=p2 w hw
     exact⟨q1,q2,by omega,by omega⟩
   .have:=(p2 v hw).2.2.2
    omega
theorem x12u{n:Nat}{l:List Edge}{fl tu ex:List Int}(h:FlowOK n l fl tu ex){fr:Nat}{t:Tour}{rk:Nat->Nat}(W:WaysOK n l fl tu fr t rk){w:Nat}(hw:w<n)(hf:w≠fr)(hl:at0 t.len w<farM) :
 ∃b k:Nat,b<n/\(at0 t.len b<farM/\at0 t.len b<=at0 t.len w)/\at0 t.bef w=(b:Nat)/\rk b<rk w/\k<l.length/\(lastAt t w).edge=(k:Nat)/\0<(lastAt t w).room /\
  (((edgeAt l k).to=(b:Nat)/\(edgeAt l k).fr=(w:Nat)/\(lastAt t w).sign=-1/\(lastAt t w).room=(edgeAt l k).wt+at0 fl k/\at0 t.len w=at0 t.len b+(edgeAt l k).jump+at0 tu b-at0 tu w) \/
   ((edgeAt l k).fr=(b:Nat)/\(edgeAt l k).to=(w:Nat)/\(lastAt t w).sign=1/\(lastAt t w).room=(edgeAt l k).wt-at0 fl k/\at0 t.len w=at0 t.len b-(edgeAt l k).jump+at0 tu b-at0 tu w)):=by
 obtain⟨b,b1,b2,b3,b4,i,⟨b5,b6⟩,b7,b8,b9⟩:=W.pre w hw hf hl
 have hred:=h.red.red b i b1 ⟨b5,b6⟩
 rw[b8,x1gb]at hred
 obtain⟨k,hk,rfl,hc⟩:=x12s h.ed fl b5
 refine⟨b,k,b1,⟨b2,by omega⟩,b3,b4,hk,?_,by rw[b7];exact b6,?_⟩
 .rw[b7];rcases hc with ⟨_,_,c⟩|⟨_,_,c⟩<;>rw[c]
 .rw[b7]
  rcases hc with ⟨c1,c2,c⟩|⟨c1,c2,c⟩
  .left
   rw[c]at b8 b9 ⊢
   exact⟨c1,b8,rfl,rfl,by simp only at b9;omega⟩
  .right
   rw[c]at b8 b9 ⊢
   exact⟨c1,b8,rfl,rfl,by simp only at b9;omega⟩
theorem x1co{n:Nat}{l:List Edge}{fl tu ex:List Int}(h:FlowOK n l fl tu ex){fr:Nat}{t:Tour}{rk:Nat->Nat}(W:WaysOK n l fl tu fr t rk){w v:Nat}(hw:w<n)(hf:w≠fr)(hl:at0 t.len w<farM)(hv:v<n)(hvf:v≠fr)(hvl:at0 t.len v<farM)(hwv:w≠v) :
 (lastAt t w).edge≠(lastAt t v).edge:=by
 obtain⟨b,k,b1,b2,b3,b4,b5,b6,b7,b8⟩:=x12u h W hw hf hl
 obtain⟨c,j,c1,c2,c3,c4,c5,c6,c7,c8⟩:=x12u h W hv hvf hvl
 rw[b6,c6]
 intro e
 have e:k=j:=by omega
 subst e
 have:b=v/\c=w:=by
  rcases b8 with ⟨d1,d2,-⟩|⟨d1,d2,-⟩<;>rcases c8 with ⟨e1,e2,-⟩|⟨e1,e2,-⟩<;>omega
 obtain⟨rfl,rfl⟩:=this
 omega
theorem amt_le(t:Tour):∀(ps:List Nat) (a:Int),amtM t ps a<=a/\∀w∈ps,amtM t ps a<=(lastAt t w).room
 |[],a=>⟨x1ho _,λw hw=>by simp at hw⟩
 |v::ps,a=>by
  have e:amtM t (v::ps) a=amtM t ps (minI a (lastAt t v).room):=rfl
  obtain⟨h1,h2⟩:=amt_le t ps (minI a (lastAt t v).room)
  rw[e]
  have h3:minI a (lastAt t v).room<=a:=by unfold minI;split<;>omega
  have h4:minI a (lastAt t v).room<=(lastAt t v).room:=x12p
  refine⟨by omega,λw hw=>?_⟩
  rcases x1gn.mp hw with rfl|hw
  .omega
  .exact h2 w hw
theorem amt_pos(t:Tour):∀(ps:List Nat) (a:Int),0<a->(∀w∈ps,0<(lastAt t w).room)->0<amtM t ps a
 |[],a,h,_=>h
 |v::ps,a,h,hp=>by
  have e:amtM t (v::ps) a=amtM t ps (minI a (lastAt t v).room):=rfl
  rw[e]
  refine amt_pos t ps _ ?_ (λw hw=>hp w (x1ge _ hw))
  have:=hp v (x1gf ..)
  unfold minI;split<;>omega
theorem x19c(t:Tour)(amt:Int):∀(ps:List Nat) (fl:List Int),(flowP t amt ps fl).length=fl.length
 |[],_=>rfl
 |v::ps,fl=>by
  have e:flowP t amt (v::ps) fl=flowP t amt ps (fl.set (lastAt t v).edge.toNat (at0 fl (lastAt t v).edge.toNat+(lastAt t v).sign*amt)):=rfl
  rw[e,x19c t amt ps];simp
theorem x19d(t:Tour)(amt:Int):∀(ps:List Nat) (fl:List Int),(∀w∈ps,(lastAt t w).edge.toNat<fl.length)->ps.Pairwise (λv w=>(lastAt t v).edge.toNat≠(lastAt t w).edge.toNat)->∀k,
 (∀w∈ps,(lastAt t w).edge.toNat=k->at0 (flowP t amt ps fl) k=at0 fl k+(lastAt t w).sign*amt)/\((∀w∈ps,(lastAt t w).edge.toNat≠k)->at0 (flowP t amt ps fl) k=at0 fl k)
 |[],fl,_,_,k=>⟨λw hw=>by simp at hw,λ_=>rfl⟩
 |v::ps,fl,h,hp,k=>by
  have e:flowP t amt (v::ps) fl=flowP t amt ps (fl.set (lastAt t v).edge.toNat (at0 fl (lastAt t v).edge.toNat+(lastAt t v).sign*amt)):=rfl
  obtain⟨h1,h2⟩:=x1i9.mp hp
  have hv:=h v (x1gf ..)
  obtain⟨i1,i2⟩:=x19d t amt ps (fl.set (lastAt t v).edge.toNat (at0 fl (lastAt t v).edge.toNat+(lastAt t v).sign*amt)) (λw hw=>by simpa using h w (x1ge _ hw)) h2 k
  rw[e]
  rw[xue hv]at i1 i2
  refine⟨λw hw hk=>?_,λhk=>?_⟩
  .rcases x1gn.mp hw with rfl|hw
   .rw[i2 (λx hx=>by rw[<-hk];exact λy=>h1 x hx y.symm),x1g7 hk.symm,hk]
   .rw[i1 w hw hk,x1g6 (by rw[<-hk];exact λy=>h1 w hw y.symm)]
  .rw[i2 (λw hw=>hk w (x1ge _ hw)),x1g6 (λy=>hk v (x1gf ..) y.symm)]
def ind(p:Prop)[Decidable p]:Int:=if p then 1 else 0
theorem x19e(v:Nat):∀(l:List Edge) (fl:List Int) (k:Nat) (x:Int),k<l.length->fl.length=l.length ->
 netF v (l.zip (fl.set k x))=netF v (l.zip fl)+(x-at0 fl k)*(ind ((edgeAt l k).to.toNat=v)-ind ((edgeAt l k).fr.toNat=v))
 |e::l,f::fl,0,x,hk,hl=>by
  simp only[x1jx,x1jo,netF,ind,show edgeAt (e::l) 0=e from rfl,show at0 (f::fl) 0=f from rfl]
  split<;>split<;>omega
 |e::l,f::fl,k+1,x,hk,hl=>by
  have:=x19e v l fl k x (by simpa using hk) (by simpa using hl)
  simp only[x1jy,x1jo,netF,show edgeAt (e::l) (k+1)=edgeAt l k from rfl,show at0 (f::fl) (k+1)=at0 fl k from rfl,this]
  omega
 |[],_,k,x,hk,_=>by simp at hk
 |_::_,[],k,x,_,hl=>by simp at hl
theorem x19f{n:Nat}{l:List Edge}{fr:Nat}{t:Tour}(amt:Int)(v:Nat):∀(ps:List Nat) (a:Int) (fl:List Int),fl.length=l.length->PathI n t.bef fr a ps ->
 (∀w∈ps,∃b k:Nat,at0 t.bef w=(b:Nat)/\k<l.length/\(lastAt t w).edge=(k:Nat)/\(((edgeAt l k).to=(b:Nat)/\(edgeAt l k).fr=(w:Nat)/\(lastAt t w).sign=-1)\/((edgeAt l k).fr=(b:Nat)/\(edgeAt l k).to=(w:Nat)/\(lastAt t w).sign=1))) ->
 netF v (l.zip (flowP t amt ps fl))=netF v (l.zip fl)+amt*(ind (a.toNat=v)-ind (fr=v))
 |[],a,fl,_,hp,_=>by
  have hp:a=(fr:Nat):=hp
  subst hp
  simp[flowP]
 |w::ps,a,fl,hl,hp,hA=>by
  obtain⟨h1,rfl,h3,h4⟩:=hp
  obtain⟨b,k,b1,b2,b3,b4⟩:=hA w (x1gf ..)
  have e:flowP t amt (w::ps) fl=flowP t amt ps (fl.set (lastAt t w).edge.toNat (at0 fl (lastAt t w).edge.toNat+(lastAt t w).sign*amt)):=rfl
  rw[b1]at h4
  have ih:=x19f (n:=n) amt v ps (b:Nat) (fl.set (lastAt t w).edge.toNat (at0 fl (lastAt t w).edge.toNat+(lastAt t w).sign*amt)) (by simpa using hl) h4 (λx hx=>hA x (x1ge _ hx))
  rw[e,ih,b3,x1gb,x19e v l fl k _ b2 hl]
  rcases b4 with ⟨c1,c2,c3⟩|⟨c1,c2,c3⟩
  .rw[c1,c2,c3,x1gb,x1gb]
   grind
  .rw[c1,c2,c3,x1gb,x1gb]
   grind
theorem xzb{l:List Edge}{fl:List Int}(hl:fl.length=l.length){x:Edge×Int}:x∈l.zip fl↔∃k,k<l.length/\x=(edgeAt l k,at0 fl k):=by
 constructor
 .intro h
  obtain⟨k,hk,rfl⟩:=x1is.mp h
  have h1:k<l.length:=by simp at hk;omega
  refine⟨k,h1,?_⟩
  rw[List.getElem_zip,xwc h1,xt5 (by omega)]
 .rintro⟨k,hk,rfl⟩
  rw[xwc hk,xt5 (by omega)]
  have:k<(l.zip fl).length:=by simp;omega
  rw[<-List.getElem_zip (h:=this)]
  exact x1go this
theorem FlowOK.capz{n:Nat}{l:List Edge}{fl tu ex:List Int}(h:FlowOK n l fl tu ex):Cap (l.zip fl):=by
 intro x hx
 obtain⟨k,hk,rfl⟩:=(xzb h.fll).mp hx
 exact h.cap k hk
theorem x12v{n:Nat}{l:List Edge}{fl:List Int}(hed:∀e∈l,EdgeIn n e/\e.fr≠e.to)(hl:fl.length=l.length):Ends n (l.zip fl):=by
 intro x hx
 obtain⟨k,hk,rfl⟩:=(xzb hl).mp hx
 obtain⟨⟨f0,f1,t0,t1,-⟩,-⟩:=xx8 hed hk
 simp only
 omega
theorem arc_out{n:Nat}{l:List Edge}{fl:List Int}(hed:∀e∈l,EdgeIn n e/\e.fr≠e.to)(hl:fl.length=l.length){u v:Nat}{c:Int}(h:Arc (l.zip fl) u v c) :
 ∃i,OutA l fl u i/\(arcAt l fl u i).to=(v:Nat)/\(arcAt l fl u i).cost=c:=by
 obtain⟨x,hx,h⟩:=h
 obtain⟨k,hk,rfl⟩:=(xzb hl).mp hx
 obtain⟨⟨f0,f1,t0,t1,-⟩,hne⟩:=xx8 hed hk
 rcases h with ⟨h1,h2,h3,h4⟩|⟨h1,h2,h3,h4⟩
 .simp only at h1 h2 h3 h4
  have hi:=x12t (a:=(u:Nat)) hk (Or.inl (by omega))
  refine⟨k,?_⟩
  unfold OutA
  have e:arcAt l fl (u:Nat) (k:Nat)=⟨k,(edgeAt l k).to,1,(edgeAt l k).wt-at0 fl k,-(edgeAt l k).jump⟩:=by
   unfold arcAt
   simp only[x1gb]
   rw[x1g6 (by omega)]
  rw[e]
  exact⟨⟨hi,by simp only;omega⟩,by simp only;omega,h4.symm⟩
 .simp only at h1 h2 h3 h4
  have hi:=x12t (a:=(u:Nat)) hk (Or.inr (by omega))
  refine⟨k,?_⟩
  unfold OutA
  have e:arcAt l fl (u:Nat) (k:Nat)=⟨k,(edgeAt l k).fr,-1,(edgeAt l k).wt+at0 fl k,(edgeAt l k).jump⟩:=by
   unfold arcAt
   simp only[x1gb]
   rw[x1g7 (by omega)]
  rw[e]
  exact⟨⟨hi,by simp only;omega⟩,by simp only;omega,h4.symm⟩
end Go.Ix
