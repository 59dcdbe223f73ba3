import Derived.Test.YtpeakdjfagbpcaaGreatWg12
set_option linter.unusedSimpArgs false
set_option linter.unusedVariables false
namespace Go.Ix
open Go.Proofs
theorem Gk.atP{ok:Id->Prop}{m:Mem}{a:AV}{l:List Int}(h:Gk 1 intE ok m a l){k:Nat}(hk:k<l.length):∃p,sIx 1 a (I k)=some p/\sLd false 1 p m=some (I (at0 l k)):=by
 rcases h with ⟨rfl,rfl⟩|⟨id,ver,h0,rfl,hg⟩
 .simp at hk
 .refine⟨.ptr id ver k,?_,?_⟩
  .simp[sIx,asI,hk]
  .rw[xrh,hg]
   simp only[xwe,x1f4,cond_true]
   exact xt6 hk
theorem Gk.lenP{ok:Id->Prop}{m:Mem}{a:AV}{l:List Int}(h:Gk 1 intE ok m a l):sLen Tryz.prog x4 a=some (I l.length):=by
 rcases h with ⟨rfl,rfl⟩|⟨id,ver,h0,rfl,hg⟩
 .exact xxt xru
 .rfl
def PartC(n:Nat)(l:List Edge)(m:Mem):Prop:=m.get (0,6,3)=some (.row [srI (0,5,9) n] 0 false)/\∃cells,m.get (0,5,9)=some (.row cells 0 false)/\cells.length=n/\∀(v:Nat) (hv:v<cells.length),Gk 1 intE (λid=>id.1=0) m cells[v] (nearU l v)
theorem PartC.frame{n:Nat}{l:List Edge}{m m':Mem}(h:PartC n l m)(hm:∀id:Id,id.1<1->m'.get id=m.get id):PartC n l m':=by
 obtain⟨h1,cells,h2,h3,h4⟩:=h
 exact⟨by rw[hm _ (by simp)];exact h1,cells,by rw[hm _ (by simp)];exact h2,h3,λv hv=>(h4 v hv).frame λid hid=>hm id (by omega)⟩
theorem l_from(d:Nat)(hs:FHs){u0 sL fq n:Nat}{a:AV}{nb:List Int}(hn:n<=200)(hnb:∀b∈nb,0<=b/\b<n)(hnl:nb.length<=100000){g:Int}(hg:0<=g):∀(suf:List Int) (k j:Nat) (out q:List Int) (m:Mem) (fc:Nat),nb.drop k=suf->suf.length<j->Gk 1 intE (λid=>id.1=0) m a nb ->
 NumMem 1 sL fq n out q g m->StOK n (out,q)->negC out+q.length<=n ->
 ∃m',x6g (xr4 (d+1)) hs u0 j (.clo xh [.ptr (1,4,5) 0 0,.ptr (1,6,6) 0 0,.ptr (1,fq,8) 0 0]) a (I nb.length) (I k) m fc=some (.tup [],m') /\
  NumMem 1 sL fq n (xsp g suf (out,q)).1 (xsp g suf (out,q)).2 g m'/\m.next<=m'.next/\FrU 1 sL fq m m':=by
 intro suf
 induction suf with
 |nil=>
  intro k j out q m fc hd hj hG hM hO hq
  obtain⟨j,rfl⟩:∃i,j=i+1:=⟨j-1,by simp at hj;omega⟩
  have hk:¬((k:Int)<(nb.length:Int)):=by have:=x1g2.mp hd;omega
  refine⟨m,?_,hM,x1f3 _,λ_ _ _ _=>rfl⟩
  simp only[x6g]
  unfold xcr
  simp[hk]
 |cons b r ih=>
  intro k j out q m fc hd hj hG hM hO hq
  obtain⟨j,rfl⟩:∃i,j=i+1:=⟨j-1,by simp at hj;omega⟩
  obtain⟨hk,hke,hd⟩:=xtf hd
  have hk':(k:Int)<(nb.length:Int):=by omega
  obtain⟨p,p1,p2⟩:=hG.atP hk
  have e1:at0 nb k=b:=by rw[xrn hk,hke]
  rw[e1]at p2
  obtain⟨b0,b1⟩:=hnb b (hke▸x1fg hk)
  obtain⟨m1,h1,h2,h3,h4⟩:=a_add d hs hM (by omega) b0 b1
  obtain⟨o1,o2⟩:=x14f hO hg b0 b1
  simp only at o2
  obtain⟨m',r1,r2,r3,r4⟩:=ih (k+1) j (addM g (out,q) b).1 (addM g (out,q) b).2 m1 (fc+9) hd (by simp at hj;omega) (hG.frame λid hid=>h4 id (by omega) (by rintro rfl;have:(1:Nat)+1=0:=hid;omega) (by rintro rfl;have:(1:Nat)=0:=hid;omega)) h2 o1 (by omega)
  refine⟨m',?_,r2,by omega,λid e1 e2 e3=>by rw[r4 id e1 e2 e3,h4 id e1 e2 e3]⟩
  rw[<-r1]
  simp only[x6g]
  unfold xcr
  simp(disch:=omega)only[xry,xr9,hk',x1ff,xrw,p1,p2,h1,xte,xrc]
  rfl
theorem x1bp(d:Nat){n:Nat}{l:List Edge}(hn:n<=200)(hl:l.length<=600)(hed:∀e∈l,EdgeIn n e/\e.fr≠e.to):x104 (xr4 (d+2)) (.clo x1d [.ptr (0,6,3) 0 0]) n (λa=>nearU l a) 1 (PartC n l):=by
 intro hs sL fq out q g a m han hC hM hg hO hq
 obtain⟨h1,cells,h2,h3,h4⟩:=hC
 have hac:a<cells.length:=by omega
 have hG:=h4 a hac
 have hlen:=x18f l (a:Int)
 obtain⟨m',r1,r2,r3,r4⟩:=l_from d hs (u0:=m.next) (sL:=sL) (fq:=fq) (a:=cells[a]) (nb:=nearU l a) hn (λb hb=>x14g hed hb) (by omega) hg (nearU l a) 0 NN out q ⟨m.hp,m.next+1⟩ 6 rfl (by rw[xrg];omega) (hG.frame λ_ _=>rfl) ⟨hM.t5,hM.t6,hM.o,by
  obtain⟨x,x1,x2⟩:=hM.t8
  exact⟨x,x1,x2.frame λ_ _=>rfl⟩,hM.ol,by have:=hM.nx;show 1+1<m.next+1;omega⟩ hO hq
 refine⟨.tup [],m',?_,r2,by have:m.next+1<=m'.next:=r3;omega,r4⟩
 show xr4 (d+2) hs x1d _ m=_
 rw[xnn]
 have ia:sIx 1 (srI (0,5,9) n) (I a)=some (.ptr (0,5,9) 0 a):=by simpa using xs7 (id:=(0,5,9)) (n:=n) (k:=(a:Int)) (by omega) (by omega)
 show x7m (xr4 (d+1)) hs m.next (I a) _ (.ptr (0,6,3) 0 0) ⟨m.hp,m.next+1⟩ 0=_
 unfold x7m
 have G1:(⟨m.hp,m.next+1⟩:Mem).get (0,6,3)=some (.row [srI (0,5,9) n] 0 false):=h1
 have G2:(⟨m.hp,m.next+1⟩:Mem).get (0,5,9)=some (.row cells 0 false):=h2
 simp only[xrh,G1,G2,xri,x1f4,xre,x1f0,rd_f,xr9,ia,xyu hac,hG.lenP]
 exact r1
def xrv(n:Nat)(l:List Edge):List Int:=(numM n (λa=>nearU l a)).1
theorem w_parts(d:Nat){n:Nat}{ev:AV}{l:List Edge}(hev:Sl Edge.c ev l)(hl:l.length<=600)(hn:n<=200)(hed:∀e∈l,EdgeIn n e/\e.fr≠e.to)(m:Mem) :
 xr8 (xr4 (d+5)) x4u [.agg [I n,ev]] m=some (.slit ((xrv n l).flatMap intE) n false,m)/\(xrv n l).length=n:=by
 have hel:=hev.len xua
 have ho:=hev.one
 obtain⟨m1,hm1⟩:∃m1,m1=(⟨[],1⟩:Mem).new (0,0,1) (.row [I n,ev] 0 false):=⟨_,rfl⟩
 obtain⟨m2,hm2⟩:∃m2,m2=m1.new (0,5,9) (.row (List.replicate n nilS) 0 false):=⟨_,rfl⟩
 obtain⟨m3,hm3⟩:∃m3,m3=(m2.new (0,6,3) (.row [nilS] 0 false)).set (0,6,3) (.row [srI (0,5,9) n] 0 false):=⟨_,rfl⟩
 have g1:m1.get (0,0,1)=some (.row [I n,ev] 0 false):=by rw[hm1];simp
 have g3:m3.get (0,0,1)=some (.row [I n,ev] 0 false):=by rw[hm3,hm2];simp[Mem.get_set,Mem.get_new,g1]
 have h0:PInv 13 n ev l 0 m3:=⟨g3,by rw[hm3];simp,⟨List.replicate n nilS,by rw[hm3,hm2];simp[Mem.get_set,Mem.get_new],by simp,⟨λ_=>(0,0,0),λv hv=>Or.inl ⟨by simp,by rw[x1gi];rfl⟩,λv w hv hw n1=>absurd (by rw[x1gi];rfl) n1⟩⟩,by rw[hm3,hm2,hm1];rfl⟩
 obtain⟨m4,fc4,r1,⟨fcx,r2⟩⟩:=p_loop (d+4) [] hev hl hn hed l 0 NN m3 13 rfl (by rw[xrg];omega) (by omega) h0
 have hat:l.take l.length=l:=x1f8 (x1f3 _)
 obtain⟨cells,ha,hcl,hA⟩:=r2.a
 rw[hat]at hA
 have hC:PartC n l m4:=⟨r2.t3,cells,ha,hcl,λv hv=>by
  obtain⟨ids,e1,e2⟩:=hA.sh
  rcases e1 v hv with ⟨a,b⟩|⟨ver,a,b,c,-⟩
  .exact Or.inl ⟨a,b⟩
  .exact Or.inr ⟨ids v,ver,c.1,a,b⟩⟩
 have hn4:=r2.nx
 obtain⟨sL,m5,s1,s2,s3,s4,s5⟩:=x18d d [] hn (m:=m4) (f:=.clo x1d [.ptr (0,6,3) 0 0]) (nb:=λa=>nearU l a) (C:=PartC n l) (by rw[hn4];exact x1bp (d+1) hn hl hed) (by rw[hn4];exact λa b h1 h2=>h1.frame h2) (λa _ b hb=>x14g hed hb) hC
 rw[hn4]at s1 s2
 refine⟨?_,s3⟩
 have hfz:=frz_own (m:=m5) (id:=(1+1,sL,30)) (l:=xrv n l) s2
 have hpl:(xrv n l).length=n:=s3
 rw[hpl]at hfz
 refine xw0 (m':=m5) (r:=srL 1 sL n) (by simp[hev.still1]) ?_ hfz
 rw[xnc]
 show x7j (xr4 (d+4)) [] 0 (.agg [I (n:Int),ev]) ⟨[],1⟩ 0=_
 unfold x7j xjk
 simp only[xwd,AV.cells,x1ga,x1gq,ho,show(I (n:Int)).one=true from rfl,x1gr,xre,xzx]
 rw[<-hm1]
 simp only[xrh,xs5,g1,xri,x1f4,xre,x1f0,x1f9,rd_f,xr9,mkSl_sl _ hn]
 rw[<-hm2]
 have hz2:xb3=[nilS]:=by kernel_rfl
 have hst:xsz 1 0 0 (srI (0,5,9) n) (some (.row [nilS] 0 false))=some (.row [srI (0,5,9) n] 0 false):=by
  rw[xx2];simp[AV.one]
 simp only[hz2,xu9,xs9,Mem.get_new,x1fh,hst,xr9]
 rw[<-hm3]
 simp only[xrh,xs5,g3,xri,x1f4,xre,x1f0,x1f9,x1fk,rd_f,xr9,hel]
 rw[show((0:Nat):Int)=0 from rfl]at r1
 show x1y (xr4 (d+4)) [] 0 NN (.ptr (0,0,1) 0 0) (.ptr (0,6,3) 0 0) ev (I l.length) (I 0) m3 13=_
 rw[r1]
 unfold xca
 simp only[xrh,xs5,r2.b,xri,x1f4,xre,x1f0,x1f9,rd_f,xr9,s1]
theorem um_map:Tryz.prog.underlying x1s=some (.map xs6 xs6):=by kernel_rfl
theorem um_int:Tryz.prog.underlying xs6=some (.int .i64):=by kernel_rfl
theorem zv_int:xyb Tryz.prog xs6=some (I 0):=by kernel_rfl
def mpE(E:List (Int×Int)):List (Value×AV):=E.map λx=>(.int .i64 x.1,I x.2)
def lkp:List (Int×Int)->Int->Option Int
 |[],_=>none
 |x::r,p=>if p=x.1 then some x.2 else lkp r p
theorem lkp_app(E:List (Int×Int))(p v q:Int)(h:lkp E p=none):lkp (E++[(p,v)]) q=if q=p then some v else lkp E q:=by
 induction E with
 |nil=>simp[lkp]
 |cons x r ih=>
  simp only[lkp,x1gw]at h ⊢
  by_cases c:p=x.1
  .rw[x1ez c]at h;cases h
  .rw[x1ey c]at h
   rw[ih h]
   by_cases e:q=x.1
   .rw[x1ez e,x1ey (by omega),x1ez e]
   .rw[x1ey e,x1ey e]
theorem plain_mp(E:List (Int×Int))(p:Int):xv1 (.int .i64) (.int .i64 p) (mpE E)=true:=by
 unfold xv1 mpE
 simp only[x1ga,List.map_map,List.all_map]
 rw[x1fb]
 exact⟨rfl,by rw[x1fa];intro x _;rfl⟩
theorem x18g(p q:Int):xta (.int .i64 p) (.int .i64 q)=decide (p=q):=by
 unfold xta
 rfl
theorem find_mp(E:List (Int×Int))(p:Int):findKey (.int .i64 p) (mpE E)=(lkp E p).map I:=by
 induction E with
 |nil=>rfl
 |cons x r ih=>
  unfold mpE at ih ⊢
  simp only[x1fl,findKey,lkp,x18g]
  by_cases c:p=x.1
  .simp[c]
  .simp only[c,x1g1,x1fu,x1fm];exact ih
theorem set_mp(E:List (Int×Int))(p v:Int)(h:lkp E p=none):setKey (.int .i64 p) (I v) (mpE E)=mpE (E++[(p,v)]):=by
 induction E with
 |nil=>rfl
 |cons x r ih=>
  simp only[lkp]at h
  unfold mpE at ih ⊢
  simp only[x1fl,x1gw,setKey,x18g]
  by_cases c:p=x.1
  .rw[x1ez c]at h;cases h
  .rw[x1ey c]at h
   simp only[c,x1g1,x1fu,x1fm,ih h]
theorem x14h(E:List (Int×Int))(p:Int):xvu Tryz.prog xs6 (.int .i64) (.int .i64 p) (mpE E)=true:=by
 unfold xvu
 rw[plain_mp E p,x1hq]
theorem look_ok(id:Id)(E:List (Int×Int))(p:Int)(m:Mem)(h:m.get id=some (.map (mpE E))):xvl Tryz.prog x1s (.mp id) (I p) true m=some (.tup [I ((lkp E p).getD 0),B (lkp E p).isSome]):=by
 unfold xvl
 simp only[um_map,um_int,zv_int,xs8,xw6,h]
 rw[x1ez (x14h E p),find_mp]
 cases lkp E p<;>rfl
theorem look_at(id:Id)(E:List (Int×Int))(p:Int)(m:Mem)(h:m.get id=some (.map (mpE E))):xvl Tryz.prog x1s (.mp id) (I p) false m=some (I ((lkp E p).getD 0)):=by
 unfold xvl
 simp only[um_map,um_int,zv_int,xs8,xw6,h]
 rw[x1ez (x14h E p),find_mp]
 cases lkp E p<;>rfl
theorem up_ok{R:Type}(id:Id)(E:List (Int×Int))(p v:Int)(m:Mem)(k:Mem->Option R)(h:m.get id=some (.map (mpE E)))(hn:lkp E p=none):xwa Tryz.prog x1s (.mp id) (I p) (I v) m k=k (m.set id (.map (mpE (E++[(p,v)])))):=by
 unfold xwa
 simp only[um_map,um_int,xs8,h]
 rw[x1ez (x14h E p),set_mp E p v hn]
def fst0(parts:List Int)(i:Nat):Nat:=parts.findIdx (λx=>x == at0 parts i)
theorem fst0_le{parts:List Int}{i:Nat}(h:i<parts.length):fst0 parts i<=i/\at0 parts (fst0 parts i)=at0 parts i:=by
 have h1:parts.findIdx (λx=>x == at0 parts i)<=i:=by
  apply Classical.byContradiction
  intro hc
  have:=List.not_of_lt_findIdx (p:=λx=>x == at0 parts i) (xs:=parts) (i:=i) (by omega)
  exact absurd (xrn h).symm (by simpa using this)
 refine⟨h1,?_⟩
 have hl:parts.findIdx (λx=>x == at0 parts i)<parts.length:=by omega
 have:=List.findIdx_getElem (p:=λx=>x == at0 parts i) (w:=hl)
 unfold fst0
 rw[xrn hl]
 simpa using this
def xrt(n:Nat)(parts tu:List Int):List Int:=(List.range n).map λi=>at0 tu i-at0 tu (fst0 parts i)
theorem xw4(n:Nat)(parts tu:List Int):(xrt n parts tu).length=n:=by simp[xrt]
theorem x18h{n:Nat}{parts tu:List Int}{k:Nat}(h:k<n):(xrt n parts tu)[k]'(by rw[xw4];exact h)=at0 tu k-at0 tu (fst0 parts k):=by simp[xrt]
theorem l_norm(d:Nat)(hs:FHs){us u n:Nat}{ev:AV}{l:List Edge}{fl tu ex parts:List Int}{idM:Id}(hM:idM.1<us)(hn:n<=200)(htl:tu.length=n)(hpl:parts.length=n)(htb:∀k,-1000000<=at0 tu k/\at0 tu k<=1000000) :
 ∀(s k j:Nat) (m:Mem) (fc:Nat) (E:List (Int×Int)),k+s=n->s<j->SolMem us n ev l fl ((xrt n parts tu).take k++tu.drop k) ex m->m.get idM=some (.map (mpE E)) ->
 (∀p,lkp E p=if parts.findIdx (λx=>x == p)<k then some (at0 tu (parts.findIdx (λx=>x == p)))else none) ->
 ∃m',xx (xr4 d) hs u j (.ptr (us,21,25) 0 0) (.mp idM) (.slit (parts.flatMap intE) n false) (I n) (I k) m fc=some (.ptr (us,21,25) 0 0,m')/\SolMem us n ev l fl (xrt n parts tu) ex m'/\m'.next=m.next:=by
 intro s
 induction s with
 |zero=>
  intro k j m fc E hk hj hS hE hL
  obtain⟨j,rfl⟩:∃i,j=i+1:=⟨j-1,by omega⟩
  have hkn:k=n:=by omega
  subst hkn
  rw[x1f8 (by rw[xw4];omega),x1ik (by omega),x1g5]at hS
  refine⟨m,?_,hS,rfl⟩
  simp only[xx]
  unfold xbf xis
  simp
 |succ s ih=>
  intro k j m fc E hk hj hS hE hL
  obtain⟨j,rfl⟩:∃i,j=i+1:=⟨j-1,by omega⟩
  have hkn:k<n:=by omega
  have hk':(k:Int)<(n:Int):=by omega
  have hkp:k<parts.length:=by omega
  obtain⟨p,hp⟩:∃p,p=at0 parts k:=⟨_,rfl⟩
  have hix:sIx 1 (.slit (parts.flatMap intE) n false) (I k)=some (.plit ((parts.drop k).flatMap intE)):=by
   have:=(Sl.lit parts false (enc:=intE)).ixI xrm (k:=(k:Int)) (by omega) (by omega)
   rw[hpl]at this;simpa using this
  have hld:sLd false 1 (.plit ((parts.drop k).flatMap intE)) m=some (I p):=by rw[xs2 hkp,hp]
  have iT:sIx 1 (srI (us,11,15) n) (I k)=some (.ptr (us,11,15) 0 k):=by simpa using xs7 (id:=(us,11,15)) (n:=n) (k:=(k:Int)) (by omega) hk'
  obtain⟨cur,hcur⟩:∃cur,cur=(xrt n parts tu).take k++tu.drop k:=⟨_,rfl⟩
  rw[<-hcur]at hS
  have hcl:k<cur.length:=by rw[hcur];simp[xw4];omega
  have hck:at0 cur k=at0 tu k:=by rw[hcur];exact x142 (by omega) (by rw[xw4];omega)
  obtain⟨f0,f1⟩:=fst0_le hkp
  have hfi:parts.findIdx (λx=>x == p)=fst0 parts k:=by rw[hp];rfl
  have hb1:=htb k
  have hb2:=htb (fst0 parts k)
  have hnext:cur.set k (at0 tu k-at0 tu (fst0 parts k))=(xrt n parts tu).take (k+1)++tu.drop (k+1):=by
   rw[hcur,<-x18h hkn]
   exact x11k (by omega) (by rw[xw4];exact hkn)
  have main:∀(E':List (Int×Int)) (m1:Mem) (g:Nat),(∀id:Id,id≠idM->m1.get id=m.get id)->m1.next=m.next->m1.get idM=some (.map (mpE E'))->lkp E' p=some (at0 tu (fst0 parts k)) ->
   (∀q,lkp E' q=if parts.findIdx (λx=>x == q)<k+1 then some (at0 tu (parts.findIdx (λx=>x == q)))else none) ->
   ∃m',x3m (xr4 d) hs u (xx (xr4 d) hs u j) (.ptr (us,21,25) 0 0) (.mp idM) (I k) (I p) (.slit (parts.flatMap intE) n false) (I n) (I k) m1 g=some (.ptr (us,21,25) 0 0,m')/\SolMem us n ev l fl (xrt n parts tu) ex m'/\m'.next=m.next:=by
   intro E' m1 g q1 n1 hE1 hL1 hL2
   have hS1:SolMem us n ev l fl cur ex m1:=hS.frame λid hid=>q1 id (by rintro rfl;omega)
   obtain⟨M,hMM⟩:∃M,M=m1.set (us,11,15) (.row ((cur.set k (at0 tu k-at0 tu (fst0 parts k))).flatMap intE) 0 false):=⟨_,rfl⟩
   have q:∀id:Id,id≠(us,11,15)->M.get id=m1.get id:=λid hid=>by rw[hMM,Mem.get_set,x1ey hid]
   have hSM:SolMem us n ev l fl ((xrt n parts tu).take (k+1)++tu.drop (k+1)) ex M:=by
    obtain⟨a1,a2,a3,a4,⟨cells,c1,c2,c3⟩,a5,a6,a7⟩:=hS1
    refine⟨?_,?_,by rw[hMM,<-hnext];simp,?_,⟨cells,?_,c2,λw hw=>(c3 w hw).frame λid hid=>q id (by rintro rfl;rcases hid with ⟨_,h|h⟩<;>simp at h)⟩,a5,by rw[<-hnext];simp[a6],a7⟩<;>rw[q _ (by simp)]<;>assumption
   obtain⟨m',h1,h2,h3⟩:=ih (k+1) j M (g+13+2) E' (by omega) (by omega) hSM (by rw[q _ (by rintro rfl;simp at hM)];exact hE1) hL2
   refine⟨m',?_,h2,by rw[h3,hMM,Mem.next_set,n1]⟩
   rw[<-h1]
   unfold x3m xit
   simp(disch:=omega)only[sNil,xr9,xs5,x1f9,xrh,hS1.s,xri,x1f4,xre,x1f0,x1fk,rd_f,iT,hS1.t,xt6 hcl,hck,look_at idM E' p m1 hE1,hL1,Option.getD_some,xup,xrc,xs9]
   rw[xtm hcl]
   simp(disch:=omega)only[xte,xrc,xr9]
   rw[<-hMM]
   rfl
  have pre:∀K,xr7 (B (!(lkp E p).isSome))
   ((sNil (.ptr (us,21,25) 0 0)).bind λt44=>(sFA 3 t44).bind λt45=>(sLd false 1 t45 m).bind λt46=>(sIx 1 t46 (I k)).bind λt48=>(sLd false 1 t48 m).bind λt49=>xwa Tryz.prog x1s (.mp idM) (I p) t49 m λm_2=>
     x3m (xr4 d) hs u (xx (xr4 d) hs u j) (.ptr (us,21,25) 0 0) (.mp idM) (I k) (I p) (.slit (parts.flatMap intE) n false) (I n) (I k) m_2 (fc+1+5+20))
   (x3m (xr4 d) hs u (xx (xr4 d) hs u j) (.ptr (us,21,25) 0 0) (.mp idM) (I k) (I p) (.slit (parts.flatMap intE) n false) (I n) (I k) m (fc+1+5+10))=K ->
   xx (xr4 d) hs u (j+1) (.ptr (us,21,25) 0 0) (.mp idM) (.slit (parts.flatMap intE) n false) (I n) (I k) m fc=K:=by
   intro K hK
   rw[<-hK]
   simp only[xx]
   unfold xbf xiv xiu
   simp only[xry,xr9,hk',x1ff,xrw,hix,hld,look_ok idM E p m hE]
   rfl
  have hLp:=hL p
  rw[hfi]at hLp
  have other:∀q,q≠p->(parts.findIdx (λx=>x == q)<k+1↔parts.findIdx (λx=>x == q)<k):=by
   intro q hq
   constructor
   .intro h
    apply Classical.byContradiction
    intro hc
    have e:parts.findIdx (λx=>x == q)=k:=by omega
    have hl:parts.findIdx (λx=>x == q)<parts.length:=by omega
    have:=List.findIdx_getElem (p:=λx=>x == q) (w:=hl)
    simp only[e,beq_iff_eq]at this
    rw[hp,xrn hkp]at hq
    exact hq this.symm
   .intro h;omega
  by_cases c:fst0 parts k<k
  .rw[x1ez c]at hLp
   obtain⟨m',h1,h2,h3⟩:=main E m (fc+1+5+10) (λ_ _=>rfl) rfl hE hLp (λq=>by
    rw[hL q]
    by_cases e:q=p
    .subst e;rw[hfi,x1ez c,x1ez (by omega)]
    .simp only[other q e])
   refine⟨m',pre _ ?_,h2,h3⟩
   rw[hLp]
   exact h1
  .rw[x1ey c]at hLp
   have hfk:fst0 parts k=k:=by omega
   obtain⟨m',h1,h2,h3⟩:=main (E++[(p,at0 tu k)]) (m.set idM (.map (mpE (E++[(p,at0 tu k)])))) (fc+1+5+20) (λid hid=>by rw[Mem.get_set,x1ey hid]) rfl (by simp) (by rw[lkp_app _ _ _ _ hLp,x1ez rfl,hfk]) (λq=>by
    rw[lkp_app _ _ _ _ hLp]
    by_cases e:q=p
    .subst e;rw[x1ez rfl,hfi,x1ez (by omega),hfk]
    .rw[x1ey e,hL q];simp only[other q e])
   refine⟨m',pre _ ?_,h2,h3⟩
   rw[hLp]
   simp only[Option.isSome_none,x1gh,xrw,sNil,xr9,xs5,x1f9,xrh,hS.s,xri,x1f4,xre,x1f0,x1fk,rd_f,iT,hS.t,xt6 hcl,hck]
   rw[up_ok idM E p (at0 tu k) m _ hE hLp]
   exact h1
structure Solved (J:Int) (n:Nat) (l:List Edge) (fl tu ex:List Int):Prop where
 f:FlowOK n l fl tu ex
 e:∀v,at0 ex v<=0
 t:∃P,TurnB n tu ex P/\P<=J*12000
theorem w_solve(d:Nat){n:Nat}{J:Int}{ev:AV}{l:List Edge}(hev:Sl Edge.c ev l)(hS:Slim J n l)(u:Nat) :
 ∃m' fl tu ex,xr4 (d+6) [] x19 [.agg [I n,ev]] ⟨[],u⟩=some (.ptr (u+1,21,25) 0 0,m')/\SolMem (u+1) n ev l fl (xrt n (xrv n l) tu) ex m'/\Solved J n l fl tu ex/\u+1<m'.next:=by
 have hn:n<=200:=by have:=hS.nn;omega
 have hl:l.length<=600:=by have:=hS.ll;omega
 have hj0:=hS.j0
 have hj1:=hS.j1
 have ho:=hev.one
 obtain⟨m1,hm1⟩:∃m1,m1=(⟨[],u+1⟩:Mem).new (u,0,1) (.row [I n,ev] 0 false):=⟨_,rfl⟩
 have g1:m1.get (u,0,1)=some (.row [I n,ev] 0 false):=by rw[hm1];simp
 have n1:m1.next=u+1:=by rw[hm1];rfl
 obtain⟨mN,a1,a2,a3⟩:=x1bj (d+4) hev hl hn hS.ed (u+1)
 obtain⟨m2,b1,b2,b3⟩:=xwj (call:=xr4 (d+5)) (f:=x31) (l:=[.agg [I n,ev]]) (m:=m1) (m':=mN) (r:=.ptr (u+1,21,25) 0 0) (by simp[clean,hev.clean1]) (by rw[n1];exact a1)
 have hM2:SolMem (u+1) n ev l (l.map f0M) (List.replicate n 0) (ex0M n l) m2:=a2.frame λid hid=>by rw[b3,x1ez (by omega)]
 have g2:m2.get (u,0,1)=some (.row [I n,ev] 0 false):=by rw[b3,x1ey (by simp only[n1];omega)];exact g1
 obtain⟨hF,hT,hP,hp⟩:=start_ok hS
 obtain⟨m3,fc3,fl,tu,ex,P,c1,c2,c3,c4,c5,c6,c7,c8⟩:=l_solve d [] hev hS u (.ptr (u,0,1) 0 0) (posS n (ex0M n l)).toNat _ _ _ 0 m2 NN 5 (by omega) (by rw[xrg];omega) (by rw[b2,a3];omega) hM2 hF hT hP
 have g3:m3.get (u,0,1)=some (.row [I n,ev] 0 false):=by rw[c8 _ (by show u<m2.next;rw[b2,a3];omega) (by simp) (by simp) (by simp)];exact g2
 have hPl:=c5.le hj0
 obtain⟨p1,p2⟩:=w_parts d hev hl hn hS.ed m3
 obtain⟨m4,hm4⟩:∃m4,m4=m3.new (u,fc3+3,25) (.map (mpE [])):=⟨_,rfl⟩
 have hM4:SolMem (u+1) n ev l fl tu ex m4:=c2.frame λid hid=>by rw[hm4,Mem.get_new,x1ey (by rintro rfl;simp at hid)]
 have htb:=(c3.inn hS c4 (by omega)).tub
 obtain⟨m5,d1,d2,d3⟩:=l_norm (d+5) [] (us:=u+1) (u:=u) (ev:=ev) (l:=l) (fl:=fl) (ex:=ex) (parts:=xrv n l) (idM:=(u,fc3+3,25)) (by show u<u+1;omega) hn c3.tul p2 htb n 0 NN m4 (fc3+5+3) [] (by omega) (by rw[xrg];omega) (by rw[x1gi,x1f0,x1gp];exact hM4) (by rw[hm4];simp) (λp=>by rw[x1ey (by omega)];rfl)
 refine⟨m5,fl,tu,ex,?_,d2,⟨c3,c6,P,c4,hPl⟩,?_⟩
 .rw[xmw]
  show x75 (xr4 (d+5)) [] u (.agg [I (n:Int),ev]) ⟨[],u+1⟩ 0=_
  unfold x75
  simp only[xwd,AV.cells,x1ga,x1gq,ho,show(I (n:Int)).one=true from rfl,x1gr,xre]
  rw[<-hm1]
  simp only[xrh,g1,xri,x1f4,xre,x1f0,rd_2,xr9,b1]
  show x1t (xr4 (d+5)) [] u NN (.ptr (u,0,1) 0 0) (.ptr (u+1,21,25) 0 0) m2 5=_
  rw[c1]
  unfold x74 xiw
  have hlen:sLen Tryz.prog x4 (.slit ((xrv n l).flatMap intE) n false)=some (I n):=rfl
  simp only[xrh,g3,xri,x1f4,xre,x1f0,rd_2,xr9,p1,xzb,hlen]
  exact hm4▸d1
 .rw[d3,hm4,Mem.next_new]
  rw[b2,a3]at c7
  omega
inductive Reach (nb:Nat->List Int) (r:Nat):Nat->Prop
 |refl:Reach nb r r
 |step {a b:Nat}:Reach nb r a->(b:Int)∈nb a->Reach nb r b
structure Sym (n:Nat) (nb:Nat->List Int):Prop where
 rng:∀a,a<n->∀b∈nb a,0<=b/\b<n
 sym:∀a b,a<n->b<n->(b:Int)∈nb a->(a:Int)∈nb b
structure BInv (n:Nat) (nb:Nat->List Int) (g:Int) (r:Nat) (out0 out q:List Int):Prop where
 l:out.length=n
 ch:∀v,at0 out v=at0 out0 v\/(v<n/\at0 out0 v<0/\at0 out v=g/\Reach nb r v)
 qi:∀a∈q,0<=a/\a<n/\at0 out a.toNat=g
 d:∀v,v<n->at0 out v=g->(v:Int)∈q\/∀b∈nb v,0<=at0 out b.toNat
theorem x14i{n:Nat}{nb:Nat->List Int}{g:Int}{r:Nat}{out0:List Int}(hg:0<=g)(hfresh:∀v,v<n->at0 out0 v≠g){a:Nat}(han:a<n)(hra:Reach nb r a):∀(bs:List Int),(∀b∈bs,b∈nb a/\0<=b/\b<n)->∀(out q:List Int),out.length=n ->
 (∀v,at0 out v=at0 out0 v\/(v<n/\at0 out0 v<0/\at0 out v=g/\Reach nb r v))->(∀x∈q,0<=x/\x<n/\at0 out x.toNat=g)->(∀v,v<n->v≠a->at0 out v=g->(v:Int)∈q\/∀b∈nb v,0<=at0 out b.toNat) ->
 (xsp g bs (out,q)).1.length=n/\(∀v,at0 (xsp g bs (out,q)).1 v=at0 out0 v\/(v<n/\at0 out0 v<0/\at0 (xsp g bs (out,q)).1 v=g/\Reach nb r v))/\(∀x∈(xsp g bs (out,q)).2,0<=x/\x<n/\at0 (xsp g bs (out,q)).1 x.toNat=g) /\
  (∀v,v<n->v≠a->at0 (xsp g bs (out,q)).1 v=g->(v:Int)∈(xsp g bs (out,q)).2\/∀b∈nb v,0<=at0 (xsp g bs (out,q)).1 b.toNat)/\(∀v,0<=at0 out v->0<=at0 (xsp g bs (out,q)).1 v)/\(∀b∈bs,0<=at0 (xsp g bs (out,q)).1 b.toNat)
 |[],_,out,q,h1,h2,h3,h4=>⟨h1,h2,h3,h4,λ_ h=>h,λb hb=>by simp at hb⟩
 |b::bs,hb,out,q,h1,h2,h3,h4=>by
  obtain⟨b1,b2,b3⟩:=hb b (x1f7 ..)
  obtain⟨bn,rfl⟩:∃bn:Nat,b=bn:=⟨b.toNat,by omega⟩
  have hbn:bn<n:=by omega
  have e:xsp g ((bn:Int)::bs) (out,q)=xsp g bs (addM g (out,q) bn):=rfl
  rw[e]
  by_cases c:at0 out bn<0
  .have ea:addM g (out,q) bn=(out.set bn g,q++[(bn:Int)]):=by unfold addM;simp only[x1f1];rw[x1ez c]
   rw[ea]
   have hset:∀v,at0 (out.set bn g) v=if v=bn then g else at0 out v:=λv=>xt0 (by omega)
   have mono:∀v,0<=at0 out v->0<=at0 (out.set bn g) v:=λv hv=>by rw[hset];split<;>omega
   obtain⟨r1,r2,r3,r4,r5,r6⟩:=x14i hg hfresh han hra bs (λx hx=>hb x (x1f6 _ hx)) (out.set bn g) (q++[(bn:Int)]) (by simp[h1]) (λv=>by
    rw[hset]
    by_cases ev:v=bn
    .subst ev
     right
     rw[x1ez rfl]
     refine⟨hbn,?_,rfl,.step hra b1⟩
     rcases h2 v with h|⟨_,h,_⟩<;>omega
    .rw[x1ey ev];exact h2 v) (λx hx=>by
    rw[hset]
    rcases x1fw.mp hx with hx|hx
    .obtain⟨x1,x2,x3⟩:=h3 x hx
     refine⟨x1,x2,?_⟩
     split
     .rfl
     .exact x3
    .rw[x1fv]at hx
     subst hx
     exact⟨by omega,by omega,by simp⟩) (λv hv hva hvg=>by
    rw[hset]at hvg
    by_cases ev:v=bn
    .left;rw[ev];simp
    .rw[x1ey ev]at hvg
     rcases h4 v hv hva hvg with h|h
     .left;exact x1fw.mpr (Or.inl h)
     .right;exact λb hb=>mono _ (h b hb))
   refine⟨r1,r2,r3,r4,λv hv=>r5 v (mono v hv),λx hx=>?_⟩
   rcases x1fe.mp hx with rfl|hx
   .refine r5 _ ?_
    rw[x1f1,hset,x1ez rfl];exact hg
   .exact r6 x hx
  .have ea:addM g (out,q) bn=(out,q):=by unfold addM;simp only[x1f1];rw[x1ey c]
   rw[ea]
   obtain⟨r1,r2,r3,r4,r5,r6⟩:=x14i hg hfresh han hra bs (λx hx=>hb x (x1f6 _ hx)) out q h1 h2 h3 h4
   refine⟨r1,r2,r3,r4,r5,λx hx=>?_⟩
   rcases x1fe.mp hx with rfl|hx
   .exact r5 _ (by rw[x1f1];omega)
   .exact r6 x hx
theorem bfs_inv{n:Nat}{nb:Nat->List Int}(hS:Sym n nb){g:Int}{r:Nat}{out0:List Int}(hg:0<=g)(hfresh:∀v,v<n->at0 out0 v≠g):∀(F:Nat) (out q:List Int),negC out+q.length<F->BInv n nb g r out0 out q->BInv n nb g r out0 (bfsM nb g F (out,q)) []
 |0,out,q,h,_=>by omega
 |F+1,out,[],h,hB=>hB
 |F+1,out,a::q,h,hB=>by
  simp only[bfsM]
  obtain⟨a0,a1,a2⟩:=hB.qi a (x1f7 ..)
  obtain⟨an,rfl⟩:∃an:Nat,a=an:=⟨a.toNat,by omega⟩
  rw[x1f1]at a2 ⊢
  have han:an<n:=by omega
  have hra:Reach nb r an:=by
   rcases hB.ch an with h|⟨_,_,_,h⟩
   .exact absurd (h.symm.trans a2) (hfresh an han)
   .exact h
  obtain⟨r1,r2,r3,r4,r5,r6⟩:=x14i hg hfresh han hra (nb an) (λb hb=>⟨hb,hS.rng an han b hb⟩) out q hB.l hB.ch (λx hx=>hB.qi x (x1f6 _ hx)) (λv hv hva hvg=>by
   rcases hB.d v hv hvg with h|h
   .rcases x1fe.mp h with h|h
    .omega
    .exact Or.inl h
   .exact Or.inr h)
  obtain⟨-,hm⟩:=x103 hg (nb an) (out,q) ⟨hB.l,λb hb=>by obtain⟨x,y,_⟩:=hB.qi b (x1f6 _ hb);exact⟨x,y⟩⟩ (hS.rng an han)
  simp only[x1fi]at h hm
  refine bfs_inv hS hg hfresh F (xsp g (nb an) (out,q)).1 (xsp g (nb an) (out,q)).2 (by omega) ⟨r1,r2,r3,λv hv hvg=>?_⟩
  by_cases e:v=an
  .subst e
   right
   exact r6
  .exact r4 v hv e hvg
structure RInv (n:Nat) (nb:Nat->List Int) (k:Nat) (out:List Int) (g:Int):Prop where
 l:out.length=n
 g0:0<=g
 gk:g<=k
 lt:∀v,v<n->-1<=at0 out v/\at0 out v<g
 lab:∀v,v<k->v<n->0<=at0 out v
 cl:∀v,v<n->0<=at0 out v->∀b∈nb v,at0 out b.toNat=at0 out v
 rep:∃rep:Nat->Nat,∀c:Nat,(c:Int)<g->rep c<k/\rep c<n/\at0 out (rep c)=(c:Int)/\(∀v,v<n->at0 out v=(c:Int)->rep c<=v/\Reach nb (rep c) v)/\∀c',c'<c->rep c'<rep c
theorem root_step{n:Nat}{nb:Nat->List Int}(hn:n<=200)(hS:Sym n nb){k:Nat}{out:List Int}{g:Int}(hk:k<n)(h:RInv n nb k out g):RInv n nb (k+1) (xue nb (out,g) k).1 (xue nb (out,g) k).2:=by
 obtain⟨rep,hrep⟩:=h.rep
 have hgk:=h.gk
 have hg0:=h.g0
 unfold xue
 by_cases c:0<=at0 out k
 .rw[x1ez c]
  refine⟨h.l,h.g0,by simp only;omega,h.lt,λv hv hvn=>?_,h.cl,rep,λc hc=>?_⟩
  .by_cases e:v=k
   .rw[e];exact c
   .exact h.lab v (by omega) hvn
  .obtain⟨a,b⟩:=hrep c hc
   exact⟨by omega,b⟩
 .rw[x1ey c]
  have fresh:∀v,v<n->at0 out v≠g:=λv e=>by have:=h.lt v e;omega
  simp only
  obtain⟨out',ho⟩:∃out',out'=bfsM nb g NN (out.set k g,[(k:Int)]):=⟨_,rfl⟩
  rw[<-ho]
  have hset:∀v,at0 (out.set k g) v=if v=k then g else at0 out v:=λv=>xt0 (by rw[h.l];exact hk)
  have hng:=x14e (out.set k g)
  rw[x1hc,h.l]at hng
  have hk0:at0 out k<0:=by omega
  have core:BInv n nb g k out out' []:=by
   rw[ho]
   refine bfs_inv hS hg0 fresh NN _ _ (by rw[xrg];simp only[x1jo];omega) ⟨by simp[h.l],λv=>?_,λa ha=>?_,λv hv hvg=>?_⟩
   .rw[hset]
    by_cases e:v=k
    .subst e;right;rw[x1ez rfl];exact⟨hk,hk0,rfl,.refl⟩
    .rw[x1ey e];exact Or.inl rfl
   .rw[x1fv]at ha
    subst ha
    rw[x1f1,hset,x1ez rfl]
    exact⟨by omega,by omega,rfl⟩
   .rw[hset]at hvg
    by_cases e:v=k
    .left;rw[e];simp
    .rw[x1ey e]at hvg;exact absurd hvg (fresh v hv)
  have old:∀v,v<n->0<=at0 out v->at0 out' v=at0 out v:=λv hv h0=>by
   rcases core.ch v with e|⟨_,e,_⟩
   .exact e
   .omega
  have kg:at0 out' k=g:=by
   have mono:∀(F:Nat) (s:List Int×List Int),at0 s.1 k=g->StOK n s->at0 (bfsM nb g F s) k=g:=by
    intro F
    induction F with
    |zero=>intro s hs _;exact hs
    |succ F ih=>
     intro s hs hO
     obtain⟨so,sq⟩:=s
     cases sq with
     |nil=>exact hs
     |cons a sq=>
      simp only[bfsM]
      have hab:=hO.q a (x1f7 ..)
      have hO1:StOK n (so,sq):=⟨hO.l,λb hb=>hO.q b (x1f6 _ hb)⟩
      refine ih _ ?_ (x103 hg0 (nb a.toNat) (so,sq) hO1 (hS.rng _ (by omega))).1
      have keep:∀(bs:List Int) (s:List Int×List Int),at0 s.1 k=g->k<s.1.length->at0 (xsp g bs s).1 k=g/\k<(xsp g bs s).1.length:=by
       intro bs
       induction bs with
       |nil=>intro s h1 h2;exact⟨h1,h2⟩
       |cons b bs ihb=>
        intro s h1 h2
        refine ihb (addM g s b) ?_ ?_
        .unfold addM
         split
         .rename_i hc
          by_cases e:b.toNat=k
          .rw[e]at hc;omega
          .simp only
           by_cases hb:b.toNat<s.1.length
           .rw[xt0 hb,x1ey (λx=>e x.symm)];exact h1
           .rw[List.set_eq_of_length_le (by omega)];exact h1
         .exact h1
        .unfold addM
         split
         .simpa using h2
         .exact h2
      exact(keep (nb a.toNat) (so,sq) hs (by simp only;have:=hO.l;simp only at this;omega)).1
   rw[ho]
   exact mono NN _ (by simp only;rw[hset,x1ez rfl]) ⟨by simp[h.l],λa ha=>by rw[x1fv]at ha;subst ha;omega⟩
  have clg:∀v,v<n->at0 out' v=g->∀b∈nb v,at0 out' b.toNat=g:=by
   intro v hv hvg b hb
   obtain⟨b0,b1⟩:=hS.rng v hv b hb
   obtain⟨bn,rfl⟩:∃bn:Nat,b=bn:=⟨b.toNat,by omega⟩
   rw[x1f1]
   have h0:0<=at0 out' bn:=by
    rcases core.d v hv hvg with h|h
    .simp at h
    .have:=h _ hb;rwa[x1f1]at this
   rcases core.ch bn with e|⟨_,_,e,_⟩
   .exfalso
    have h1:at0 out v<0:=by
     rcases core.ch v with e'|⟨_,e',_⟩
     .exact absurd (e'.symm.trans hvg) (fresh v hv)
     .exact e'
    have:=h.cl bn (by omega) (by omega) v (hS.sym v bn hv (by omega) hb)
    rw[x1f1]at this
    omega
   .exact e
  refine⟨core.l,by omega,by omega,λv hv=>?_,λv hv hvn=>?_,λv hv hv0 b hb=>?_,λc=>if(c:Int)<g then rep c else k,λc hc=>?_⟩
  .have:=h.lt v hv
   rcases core.ch v with e|⟨_,_,e,_⟩<;>omega
  .by_cases e:v=k
   .rw[e,kg];exact hg0
   .have:=h.lab v (by omega) hvn
    rw[old v hvn this];exact this
  .by_cases e:at0 out' v=g
   .rw[e];exact clg v hv e b hb
   .have e':at0 out' v=at0 out v:=by
     rcases core.ch v with e'|⟨_,_,e',_⟩
     .exact e'
     .exact absurd e' e
    obtain⟨b0,b1⟩:=hS.rng v hv b hb
    have:=h.cl v hv (by omega) b hb
    rw[e',<-this]
    exact old _ (by omega) (by omega)
  .simp only
   by_cases hcg:(c:Int)<g
   .rw[x1ez hcg]
    obtain⟨a1,a2,a3,a4,a5⟩:=hrep c hcg
    refine⟨by omega,a2,by rw[old _ a2 (by omega)];exact a3,λv hv hvc=>a4 v hv ?_,λc' hc'=>by rw[x1ez (by omega)];exact a5 c' hc'⟩
    rcases core.ch v with e|⟨_,_,e,_⟩
    .rw[<-e];exact hvc
    .omega
   .have hcg':(c:Int)=g:=by omega
    rw[x1ey hcg]
    refine⟨by omega,hk,by rw[kg];exact hcg'.symm,λv hv hvc=>?_,λc' hc'=>?_⟩
    .rcases core.ch v with e|⟨_,e1,_,e2⟩
     .exact absurd (e.symm.trans (hvc.trans hcg')) (fresh v hv)
     .refine⟨?_,e2⟩
      apply Classical.byContradiction
      intro hlt
      have:=h.lab v (by omega) hv
      omega
    .rw[x1ez (by omega)]
     exact(hrep c' (by omega)).1
theorem x14j{n:Nat}{nb:Nat->List Int}(hn:n<=200)(hS:Sym n nb):RInv n nb n (numM n nb).1 (numM n nb).2:=by
 have key:∀k,k<=n->RInv n nb k ((List.range k).foldl (xue nb) (List.replicate n (-1),0)).1 ((List.range k).foldl (xue nb) (List.replicate n (-1),0)).2:=by
  intro k
  induction k with
  |zero=>
   intro _
   have hr:∀v,v<n->at0 (List.replicate n (-1)) v=-1:=λv hv=>by rw[xrn (by simpa using hv)];simp
   refine⟨by simp,by simp,by simp,λv hv=>?_,λv hv=>by omega,λv hv h0=>?_,λ_=>0,λc hc=>?_⟩
   .simp only[x1kh,x1ki];rw[hr v hv];omega
   .simp only[x1kh,x1ki]at h0;rw[hr v hv]at h0;omega
   .simp only[x1kh,x1ki]at hc;omega
  |succ k ih=>
   intro hk
   rw[x1hb,x1ji]
   exact root_step hn hS (by omega) (ih (by omega))
 exact key n (x1f3 _)
theorem x18i{n:Nat}{nb:Nat->List Int}(hn:n<=200)(hS:Sym n nb){a b:Nat}(ha:a<n)(h:Reach nb a b):b<n/\at0 (numM n nb).1 b=at0 (numM n nb).1 a:=by
 have R:=x14j hn hS
 induction h with
 |refl=>exact⟨ha,rfl⟩
 |step h1 h2 ih=>
  obtain⟨i1,i2⟩:=ih
  obtain⟨b0,b1⟩:=hS.rng _ i1 _ h2
  have:=R.cl _ i1 (R.lab _ i1 i1) _ h2
  rw[x1f1]at this
  exact⟨by omega,by rw[this,i2]⟩
theorem mem_nearU{l:List Edge}{a b:Int}:b∈nearU l a↔∃e∈l,0<e.wt/\((e.fr=a/\e.to=b)\/(e.fr≠a/\e.to=a/\e.fr=b)):=by
 unfold nearU
 rw[x1g7]
 constructor
 .rintro⟨e,he,hb⟩
  refine⟨e,he,?_⟩
  split at hb
  .rename_i hw
   refine⟨hw,?_⟩
   split at hb
   .rename_i h1
    rw[x1fv]at hb
    exact Or.inl ⟨h1,hb.symm⟩
   .rename_i h1
    split at hb
    .rename_i h2
     rw[x1fv]at hb
     exact Or.inr ⟨h1,h2,hb.symm⟩
    .simp at hb
  .simp at hb
 .rintro⟨e,he,hw,h⟩
  refine⟨e,he,?_⟩
  rw[x1ez hw]
  rcases h with ⟨h1,h2⟩|⟨h1,h2,h3⟩
  .rw[x1ez h1,h2];simp
  .rw[x1ey h1,x1ez h2,h3];simp
theorem x18j{n:Nat}{l:List Edge}(hed:∀e∈l,EdgeIn n e/\e.fr≠e.to):Sym n (λa=>nearU l (a:Nat)):=by
 refine⟨λa _ b hb=>x14g hed hb,λa b _ _ h=>?_⟩
 rw[mem_nearU]at h ⊢
 obtain⟨e,he,hw,h⟩:=h
 have hne:=(hed e he).2
 refine⟨e,he,hw,?_⟩
 rcases h with ⟨h1,h2⟩|⟨h1,h2,h3⟩
 .right;exact⟨by omega,h2,h1⟩
 .left;exact⟨h3,h2⟩
theorem x1bq{n:Nat}{l:List Edge}(hn:n<=200)(hed:∀e∈l,EdgeIn n e/\e.fr≠e.to){e:Edge}(he:e∈l)(hw:0<e.wt):at0 (xrv n l) e.fr.toNat=at0 (xrv n l) e.to.toNat:=by
 obtain⟨⟨f0,f1,t0,t1,-⟩,hne⟩:=hed e he
 obtain⟨a,ha⟩:∃a:Nat,e.fr=a:=⟨e.fr.toNat,by omega⟩
 obtain⟨b,hb⟩:∃b:Nat,e.to=b:=⟨e.to.toNat,by omega⟩
 have:=(x18i hn (x18j hed) (a:=a) (b:=b) (by omega) (.step .refl (mem_nearU.mpr ⟨e,he,hw,Or.inl ⟨ha,hb⟩⟩))).2
 rw[ha,hb,x1f1,x1f1]
 exact this.symm
theorem parts_len{n:Nat}{l:List Edge}(hn:n<=200)(hed:∀e∈l,EdgeIn n e/\e.fr≠e.to):(xrv n l).length=n:=(x14j hn (x18j hed)).l
theorem x14k{n:Nat}{parts tu:List Int}{k:Nat}(h:k<n):at0 (xrt n parts tu) k=at0 tu k-at0 tu (fst0 parts k):=by
 rw[xrn (by rw[xw4];exact h),x18h h]
theorem normT_ex{n:Nat}{l:List Edge}(hn:n<=200)(hed:∀e∈l,EdgeIn n e/\e.fr≠e.to){tu:List Int}{e:Edge}(he:e∈l)(hw:0<e.wt):exF (at0 (xrt n (xrv n l) tu)) e=exF (at0 tu) e:=by
 obtain⟨⟨f0,f1,t0,t1,-⟩,hne⟩:=hed e he
 have hp:=x1bq hn hed he hw
 unfold exF
 rw[x14k (by omega),x14k (by omega)]
 unfold fst0
 rw[hp]
 omega
theorem Solved.best{J:Int}{n:Nat}{l:List Edge}{fl tu ex:List Int}(h:Solved J n l fl tu ex):Feas n (l.zip fl)/\CS (at0 (xrt n (xrv n l) tu)) (l.zip fl):=by
 obtain⟨h1,h2⟩:=end_ok h.f h.e
 refine⟨h1,λx hx=>?_⟩
 obtain⟨k,hk,rfl⟩:=(xtq h.f.fll).mp hx
 have hc:=h.f.cap k hk
 have hem:edgeAt l k∈l:=by rw[xtw hk];exact x1fg hk
 by_cases hw:0<(edgeAt l k).wt
 .simp only
  rw[normT_ex h.f.nn h.f.ed hem hw]
  exact h2 _ hx
 .simp only
  exact⟨λ_=>by omega,λ_=>by omega⟩
theorem Solved.turns{J:Int}{n:Nat}{l:List Edge}{fl tu ex:List Int}(h:Solved J n l fl tu ex)(hJ:0<=J):∀k,-(J*12000)<=at0 (xrt n (xrv n l) tu) k/\at0 (xrt n (xrv n l) tu) k<=J*12000:=by
 obtain⟨P,hP,hPl⟩:=h.t
 intro k
 by_cases hk:k<n
 .rw[x14k hk]
  have h1:=hP.b k hk
  have h2:=fst0_le (parts:=xrv n l) (i:=k) (by rw[parts_len h.f.nn h.f.ed];exact hk)
  have h3:=hP.b (fst0 (xrv n l) k) (by omega)
  omega
 .have:at0 (xrt n (xrv n l) tu) k=0:=by
   unfold at0
   rw[x1fd,x1hi (by rw[xw4];omega)];rfl
  omega
theorem x18k(t:List Int):∀(l:List Edge) (s:Int),xub t s l=s+xti (at0 t) l
 |[],s=>by simp[xub,xti]
 |e::r,s=>by
  have e':exI t e=exF (at0 t) e:=rfl
  rw[xub,x18k t r,xti,e'];omega
theorem a_cost(d:Nat){n:Int}{ev a:AV}{l:List Edge}{t:List Int}(h:Sl Edge.c ev l)(hl:l.length<=600)(ha:Ints a t)(he:∀e∈l,EdgeIn t.length e)(ht:TurnsIn t):∃m',xr4 (d+2) [] x2u [.agg [I n,ev],a] mem0=some (I (xub t 0 l),m'):=by
 obtain⟨m',h'⟩:=l_cost d [] h hl ha he ht l 0 NN 0 ((⟨[],1⟩:Mem).new (0,0,2) (.row [I n,ev] 0 false)) 8 rfl (by rw[xrg];omega) (by omega) (by omega)
 refine⟨m',?_⟩
 rw[xmx]
 unfold xf0 xbh xiz
 simp[mem0,h.one,h.len xua]
 exact h'
theorem call3_any{call:xr5}{f:FuncId}{l l':List AV}{m m':Mem}{r:AV}(hl:l.mapM (Go.Ix.frz m.get deep)=some l')(h:call [] f l' mem0=some (r,m'))(hr:xyc r=true):xyk call f l m=some (r,m):=by
 unfold xyk
 rw[hl]
 simp only[h,hr,x1fh]
theorem x11r{m:Mem}{id:Id}{l:List Int}(h:m.get id=some (.row (l.flatMap intE) 0 false))(k:Nat):Go.Ix.frz m.get (k+2) (srI id l.length)=some (.slit (l.flatMap intE) l.length false):=by
 have hl:=xul l
 have:=xvp (objs:=m.get) (id:=id) (cs:=l.flatMap intE) (ver:=0) (off:=0) (n:=l.length) (z:=1) (k:=k) (f:=false) (x:=true) h (by omega) (by
  rw[x1f0,x1f8 (by omega)];exact xv6 xto l)
 rw[x1f0,x1f8 (by omega)]at this
 exact this
theorem x1br(d:Nat){n:Nat}{J:Int}{ev:AV}{l:List Edge}(hev:Sl Edge.c ev l)(hc:(xur n l).2=0)(hS:Slim J n l)(m:Mem) :
 ∃fl tu ex,Solved J n l fl tu ex/\xr8 (xr4 (d+8)) x4j [.agg [I n,ev]] m =
  some (.tup [.slit ((xrt n (xrv n l) tu).flatMap intE) n false,.slit (fl.flatMap intE) l.length false,I (xub (xrt n (xrv n l) tu) 0 l),I 0],m):=by
 have hl:l.length<=600:=by have:=hS.ll;omega
 have hj0:=hS.j0
 have hj1:=hS.j1
 obtain⟨m3,hm3⟩:∃m3,m3=(((⟨[],1⟩:Mem).new (0,0,1) (.row [I n,ev] 0 false)).new (0,10,6) (.row [I 0,nilS] 0 false)).set (0,10,6) (.row [I n,ev] 0 false):=⟨_,rfl⟩
 obtain⟨mS,fl,tu,ex,a1,a2,a3,a4⟩:=w_solve (d+1) hev hS 1
 obtain⟨m4,b1,b2,b3⟩:=xwj (call:=xr4 (d+7)) (f:=x19) (l:=[.agg [I n,ev]]) (m:=m3) (m':=mS) (r:=.ptr (1+1,21,25) 0 0) (by simp[clean,hev.clean1]) (by rw[hm3];exact a1)
 have hn3:m3.next=1:=by rw[hm3];rfl
 have hM4:SolMem (1+1) n ev l fl (xrt n (xrv n l) tu) ex m4:=a2.frame λid hid=>by rw[b3,x1ez (by omega)]
 have g4:m4.get (0,10,6)=some (.row [I n,ev] 0 false):=by rw[b3,x1ey (by simp[hn3]),hm3];simp
 obtain⟨T,hT⟩:∃T,T=xrt n (xrv n l) tu:=⟨_,rfl⟩
 rw[<-hT]at hM4
 have hTl:T.length=n:=by rw[hT];exact xw4 _ _ _
 have hTb:=a3.turns hj0
 rw[<-hT]at hTb
 have hTI:TurnsIn T:=λx hx=>by
  obtain⟨k,hk,rfl⟩:=x1hu.mp hx
  have:=hTb k
  rw[xrn hk]at this
  omega
 have f1:=x11r hM4.t 4
 rw[hTl]at f1
 obtain⟨mc,hcost⟩:=a_cost (d+5) (n:=n) hev hl (a:=.slit (T.flatMap intE) n false) (t:=T) (by have:=Sl.lit T false (enc:=intE);rwa[hTl]at this) (λe he=>by rw[hTl];exact(hS.ed e he).1) hTI
 have h3:xyk (xr4 (d+7)) x2u [.agg [I n,ev],srI (1+1,11,15) n] m4=some (I (xub T 0 l),m4):=by
  refine call3_any ?_ hcost rfl
  have e1:Go.Ix.frz m4.get deep (.agg [I n,ev])=some (.agg [I n,ev]):=xtu _ 4 (by simp[still,hev.still1])
  simp only[x1fq,x1g8,e1]
  rw[show Go.Ix.frz m4.get deep (srI (1+1,11,15) n)=some (.slit (T.flatMap intE) n false)from f1]
  rfl
 have f5:=x11r hM4.t 3
 rw[hTl]at f5
 have f6:=x11r hM4.f 3
 rw[hM4.fll]at f6
 refine⟨fl,tu,ex,a3,?_⟩
 rw[<-hT]
 refine xw0 (m':=m4) (r:=.tup [srI (1+1,11,15) n,srI (1+1,7,11) l.length,I (xub T 0 l),I 0]) (by simp[hev.still1]) ?_ ?_
 .rw[xm8]
  show x6s (xr4 (d+7)) [] 0 (.agg [I (n:Int),ev]) ⟨[],1⟩ 0=_
  unfold x6s
  simp[hev.one,w_open _ hev,z_pnet,hc]
  rw[<-hm3,b1]
  have hs4:=hM4.s
  simp only[xr9,sNil,xs5,x1f9,xrh,hs4,g4,xri,x1f4,xre,x1f0,x1fk,rd_f,rd_2,h3]
 .show([srI (1+1,11,15) n,srI (1+1,7,11) l.length,I (xub T 0 l),I 0].mapM (Go.Ix.frz m4.get 5)).map AV.tup=_
  simp only[x1fq,x1g8]
  rw[f5,f6]
  rfl
def xtr(n:Nat)(len tu:List Int)(p:Nat):List Int:=(List.range n).map λi=>if at0 len i<farM then at0 len i+(at0 tu i-at0 tu p)else at0 len i
theorem xwn(n:Nat)(len tu:List Int)(p:Nat):(xtr n len tu p).length=n:=by simp[xtr]
theorem x11s{n:Nat}{len tu:List Int}{p k:Nat}(h:k<n):(xtr n len tu p)[k]'(by rw[xwn];exact h)=if at0 len k<farM then at0 len k+(at0 tu k-at0 tu p)else at0 len k:=by simp[xtr]
theorem l_most(d:Nat)(hs:FHs){u sL n p:Nat}{S:AV}{l:List Edge}{fl tu ex len:List Int}{x y:AV}(hS:FrzS S n l fl tu ex)(hp:p<n)(hL:LenB ((200:Nat)*GB) len)(hll:len.length=n) :
 ∀(s k j:Nat) (m:Mem) (fc:Nat),k+s=n->s<j->m.get (u,4,5)=some (.row [srL (u+1) sL n,x,y] 0 false)->m.get (u+1+1,sL,30)=some (.row (((xtr n len tu p).take k++len.drop k).flatMap intE) 0 false) ->
 ∃m',x3o (xr4 d) hs u j S (I p) (.ptr (u,4,5) 0 0) (I n) (I k) m fc=some (srL (u+1) sL n,m')/\m'.get (u+1+1,sL,30)=some (.row ((xtr n len tu p).flatMap intE) 0 false)/\m'.next=m.next:=by
 have hG:((200:Nat):Int)*GB=400200000:=by rfl
 rw[hG]at hL
 have hn200:=hS.n0
 obtain⟨ev,F,TU,X,cells,bb,hSe,hev,hF,hTU,hX,hcl,hcs⟩:=hS.sh
 intro s
 induction s with
 |zero=>
  intro k j m fc hk hj h5 hm
  obtain⟨j,rfl⟩:∃i,j=i+1:=⟨j-1,by omega⟩
  have hkn:k=n:=by omega
  subst hkn
  rw[x1f8 (by rw[xwn];omega),x1ik (by omega),x1g5]at hm
  refine⟨m,?_,hm,rfl⟩
  simp only[x3o]
  unfold x78 xj6
  simp[h5]
 |succ s ih=>
  intro k j m fc hk hj h5 hm
  obtain⟨j,rfl⟩:∃i,j=i+1:=⟨j-1,by omega⟩
  have hkn:k<n:=by omega
  have hk':(k:Int)<(n:Int):=by omega
  have hlk:k<len.length:=by omega
  have iL:sIx 1 (srL (u+1) sL n) (I k)=some (.ptr (u+1+1,sL,30) 0 k):=by simpa using xs7 (id:=(u+1+1,sL,30)) (n:=n) (k:=(k:Int)) (by omega) hk'
  obtain⟨cur,hcur⟩:∃cur,cur=(xtr n len tu p).take k++len.drop k:=⟨_,rfl⟩
  rw[<-hcur]at hm
  have hcl':k<cur.length:=by rw[hcur];simp[xwn];omega
  have hck:at0 cur k=at0 len k:=by rw[hcur];exact x142 (by omega) (by rw[xwn];omega)
  have lk:k<tu.length:=by rw[hS.tul];exact hkn
  have lp:p<tu.length:=by rw[hS.tul];exact hp
  have iTk:=hTU.ixI xrm (k:=(k:Int)) (by omega) (by omega)
  have iTp:=hTU.ixI xrm (k:=(p:Int)) (by omega) (by omega)
  rw[x1f1]at iTk iTp
  have b1:=hS.tub k
  have b2:=hS.tub p
  have b3:=hL k
  by_cases c:at0 len k<farM
  .have b4:-400200000<=at0 len k/\at0 len k<=400200000:=by rcases b3 with h|h;omega;exact h
   have hnext:cur.set k (at0 len k+(at0 tu k-at0 tu p))=(xtr n len tu p).take (k+1)++len.drop (k+1):=by
    have:=x11s (len:=len) (tu:=tu) (p:=p) hkn
    rw[x1ez c]at this
    rw[hcur,<-this]
    exact x11k (by omega) (by rw[xwn];exact hkn)
   obtain⟨M,hM⟩:∃M,M=m.set (u+1+1,sL,30) (.row ((cur.set k (at0 len k+(at0 tu k-at0 tu p))).flatMap intE) 0 false):=⟨_,rfl⟩
   obtain⟨m',h1,h2,h3⟩:=ih (k+1) j M (fc+1+31+2) (by omega) (by omega) (by rw[hM,Mem.get_set,x1ey (by simp)];exact h5) (by rw[hM,<-hnext];simp)
   refine⟨m',?_,h2,by rw[h3,hM];rfl⟩
   rw[<-h1]
   simp only[x3o]
   unfold x78 xbt x77
   simp(disch:=omega)only[xry,xr9,hk',x1ff,xrw,xs5,x1f9,xrh,h5,hm,xri,x1f4,xre,x1f0,rd_f,iL,xt6 hcl',hck,c,hSe,sNil,xvn,xvo,x1fk,iTk,iTp,xs2 lk,xs2 lp,xup,xte,xrc,xs9]
   rw[xtm hcl']
   simp(disch:=omega)only[xte,xrc,xr9]
   rw[<-hM]
   rfl
  .have hnext:cur=(xtr n len tu p).take (k+1)++len.drop (k+1):=by
    have:=x11s (len:=len) (tu:=tu) (p:=p) hkn
    rw[x1ey c]at this
    have h2:=x11k (a:=xtr n len tu p) (b:=len) (k:=k) (by omega) (by rw[xwn];exact hkn)
    rw[this,<-hcur]at h2
    rw[<-h2,<-hck,xrn hcl',List.set_getElem_self]
   obtain⟨m',h1,h2,h3⟩:=ih (k+1) j m (fc+1+8+2) (by omega) (by omega) h5 (by rw[<-hnext];exact hm)
   refine⟨m',?_,h2,h3⟩
   rw[<-h1]
   simp only[x3o]
   unfold x78 xbt x77
   simp(disch:=omega)only[xry,xr9,hk',x1ff,xrw,xs5,x1f9,xrh,h5,hm,xri,x1f4,xre,x1f0,rd_f,iL,xt6 hcl',hck,c,x1g1,xtc,xte,xrc]
   rfl
theorem w_most(d:Nat){n p:Nat}{S:AV}{l:List Edge}{fl tu ex:List Int}(hS:FrzS S n l fl tu ex)(hp:p<n)(u:Nat) :
 ∃sL m',xr4 (d+6) [] x2y [S,I p] ⟨[],u⟩=some (srL (u+1) sL n,m')/\m'.get (u+1+1,sL,30)=some (.row ((xtr n (waysF n l fl tu p).len tu p).flatMap intE) 0 false)/\LenB ((200:Nat)*GB) (waysF n l fl tu p).len/\u+2<m'.next:=by
 obtain⟨sL,mw,hw,hW,hWL⟩:=w_ways (d+1) hS (p:=(p:Int)) (by omega) (by omega) (u+1)
 obtain⟨ev,F,TU,X,cells,bb,hSe,-⟩:=hS.sh
 have sci:∀k:List Int,(k.flatMap intE).all isSc=true:=λk=>by rw[xuk,x1fa];intro x hx;obtain⟨y,_,rfl⟩:=x1fj.mp hx;rfl
 have sca:∀k:List Ar,(k.flatMap Ar.c).all isSc=true:=λk=>by
  rw[x1fa];intro x hx
  obtain⟨a,_,hx⟩:=x1g7.mp hx
  exact x1fa.mp a.sc x hx
 have r1:xrk mw.get 5 (srL (u+1) sL n)=[(u+1+1,sL,30)]:=xy2 (k:=4) hW.len (sci _)
 have r2:xrk mw.get 5 (.sref (u+1,16,26) 0 0 n 5 true)=[(u+1,16,26)]:=xy2 (k:=4) hW.last (sca _)
 have r3:xrk mw.get 5 (.sref (u+1,23,33) 0 0 n 1 true)=[(u+1,23,33)]:=xy2 (k:=4) hW.bef (sci _)
 obtain⟨M,hM,hMn,hMg⟩:=call4 (call:=xr4 (d+5)) (f:=xz) (l:=[S,I p]) (l':=[S,I p]) (m:=⟨[],u+1⟩) (m':=mw) (ids:=[(u+1+1,sL,30),(u+1,16,26),(u+1,23,33)])
  (by
   have h1:frz (⟨[],u+1⟩:Mem).get deep (I p)=some (I p):=rfl
   have h2:frz (⟨[],u+1⟩:Mem).get deep S=some S:=by rw[hSe];rfl
   simp only[x1fq,x1g8,h1,h2];rfl)
  hw rfl (by
   show[srL (u+1) sL n,.sref (u+1,16,26) 0 0 n 5 true,.sref (u+1,23,33) 0 0 n 1 true].flatMap (xrk mw.get 5)=_
   simp only[x1fo,x1j2,r1,r2,r3]
   rfl)
  (by
   intro i hi
   simp only[x1fe,x1i2,or_false]at hi
   rcases hi with rfl|rfl|rfl
   .exact⟨by simp only;omega,_,_,hW.len,sci _⟩
   .exact⟨by simp only;omega,_,_,hW.last,sca _⟩
   .exact⟨by simp only;omega,_,_,hW.bef,sci _⟩)
 obtain⟨m2,hm2⟩:∃m2,m2=(M.new (u,4,5) (.row [nilS,nilS,nilS] 0 false)).set (u,4,5) (.row [srL (u+1) sL n,.sref (u+1,16,26) 0 0 n 5 true,.sref (u+1,23,33) 0 0 n 1 true] 0 false):=⟨_,rfl⟩
 have g5:m2.get (u,4,5)=some (.row [srL (u+1) sL n,.sref (u+1,16,26) 0 0 n 5 true,.sref (u+1,23,33) 0 0 n 1 true] 0 false):=by rw[hm2];simp
 have gL:m2.get (u+1+1,sL,30)=some (.row ((waysF n l fl tu p).len.flatMap intE) 0 false):=by
  rw[hm2,Mem.get_set,x1ey (by simp),Mem.get_new,x1ey (by simp),hMg,x1ez (by simp)];exact hW.len
 obtain⟨m',h1,h2,h3⟩:=l_most (d+5) [] (u:=u) (sL:=sL) hS hp hWL hW.ll n 0 NN m2 10 (by omega) (by rw[xrg];have:=hS.n0;omega) g5 (by rw[x1gi,x1f0,x1gp];exact gL)
 refine⟨sL,m',?_,h2,hWL,?_⟩
 .rw[xn5]
  show x79 (xr4 (d+5)) [] u S (I p) ⟨[],u+1⟩ 0=_
  unfold x79 xj7
  have hst:∀x y z:AV,x.cells=[x]->y.cells=[y]->z.cells=[z]->x.one=true->y.one=true->z.one=true->xsz 3 0 0 (.agg [x,y,z]) (some (.row [nilS,nilS,nilS] 0 false))=some (.row [x,y,z] 0 false):=by
   intro x y z _ _ _ h1 h2 h3
   rw[xuj]
   simp[xs3,h1,h2,h3]
  simp only[hM,xr9,xu9,z_tour,xs9,Mem.get_new,x1fh]
  rw[show(0+4:Nat)=4 from rfl,hst _ _ _ rfl rfl rfl rfl rfl rfl]
  simp only[xr9]
  rw[<-hm2]
  have hlen:sLen Tryz.prog x4 (srL (u+1) sL n)=some (I n):=rfl
  simp only[xs5,xr9,x1f9,xrh,g5,xri,x1f4,xre,x1f0,rd_f,hlen]
  exact h1
 .rw[h3,hm2]
  simp only[Mem.next_set,Mem.next_new,hMn]
  have:=hW.nx
  omega
end Go.Ix
