import Derived.Test.YtdfahbenacjgeaaGreatWg12
set_option linter.unusedSimpArgs false
set_option linter.unusedVariables false
namespace Go.Ix
open Go.Proofs
theorem Gk.atP{ok:Id->Prop}{m:Mem}{a:AV}{l:List Int}(h:Gk 1 intE ok m a l){k:Nat}(hk:k<l.length):∃p,sIx 1 a (I k)=some p/\sLd false 1 p m=some (I (at0 l k)):=by
 rcases h with ⟨rfl,rfl⟩|⟨id,ver,h0,rfl,hg⟩
 .simp at hk
 .refine⟨.ptr id ver k,?_,?_⟩
  .simp[sIx,asI,hk]
  .rw[xsv,hg]
   simp only[xxj,x1gd,cond_true]
   exact xun hk
theorem Gk.lenP{ok:Id->Prop}{m:Mem}{a:AV}{l:List Int}(h:Gk 1 intE ok m a l):sLen Tryz.prog x4 a=some (I l.length):=by
 rcases h with ⟨rfl,rfl⟩|⟨id,ver,h0,rfl,hg⟩
 .exact xzu xt8
 .rfl
def PartC(n:Nat)(l:List Edge)(m:Mem):Prop:=m.get (0,6,3)=some (.row [srI (0,5,9) n] 0 false)/\∃cells,m.get (0,5,9)=some (.row cells 0 false)/\cells.length=n/\∀(v:Nat) (hv:v<cells.length),Gk 1 intE (λid=>id.1=0) m cells[v] (nearU l v)
theorem PartC.frame{n:Nat}{l:List Edge}{m m':Mem}(h:PartC n l m)(hm:∀id:Id,id.1<1->m'.get id=m.get id):PartC n l m':=by
 obtain⟨h1,cells,h2,h3,h4⟩:=h
 exact⟨by rw[hm _ (by simp)];exact h1,cells,by rw[hm _ (by simp)];exact h2,h3,λv hv=>(h4 v hv).frame λid hid=>hm id (by omega)⟩
theorem l_from(d:Nat)(hs:FHs){u0 sL fq n:Nat}{a:AV}{nb:List Int}(hn:n<=200)(hnb:∀b∈nb,0<=b/\b<n)(hnl:nb.length<=100000){g:Int}(hg:0<=g):∀(suf:List Int) (k j:Nat) (out q:List Int) (m:Mem) (fc:Nat),nb.drop k=suf->suf.length<j->Gk 1 intE (λid=>id.1=0) m a nb ->
 NumMem 1 sL fq n out q g m->StOK n (out,q)->negC out+q.length<=n ->
 ∃m',x6c (xsi (d+1)) hs u0 j (.clo xp [.ptr (1,4,5) 0 0,.ptr (1,6,6) 0 0,.ptr (1,fq,8) 0 0]) a (I nb.length) (I k) m fc=some (.tup [],m') /\
  NumMem 1 sL fq n (xub g suf (out,q)).1 (xub g suf (out,q)).2 g m'/\m.next<=m'.next/\FrU 1 sL fq m m':=by
 intro suf
 induction suf with
 |nil=>
  intro k j out q m fc hd hj hG hM hO hq
  obtain⟨j,rfl⟩:∃i,j=i+1:=⟨j-1,by simp at hj;omega⟩
  have hk:¬((k:Int)<(nb.length:Int)):=by have:=x1ha.mp hd;omega
  refine⟨m,?_,hM,x1ga _,λ_ _ _ _=>rfl⟩
  simp only[x6c]
  unfold xct
  simp[hk]
 |cons b r ih=>
  intro k j out q m fc hd hj hG hM hO hq
  obtain⟨j,rfl⟩:∃i,j=i+1:=⟨j-1,by simp at hj;omega⟩
  obtain⟨hk,hke,hd⟩:=xul hd
  have hk':(k:Int)<(nb.length:Int):=by omega
  obtain⟨p,p1,p2⟩:=hG.atP hk
  have e1:at0 nb k=b:=by rw[xt5 hk,hke]
  rw[e1]at p2
  obtain⟨b0,b1⟩:=hnb b (hke▸x1go hk)
  obtain⟨m1,h1,h2,h3,h4⟩:=a_add d hs hM (by omega) b0 b1
  obtain⟨o1,o2⟩:=addM_ok hO hg b0 b1
  simp only at o2
  obtain⟨m',r1,r2,r3,r4⟩:=ih (k+1) j (addM g (out,q) b).1 (addM g (out,q) b).2 m1 (fc+9) hd (by simp at hj;omega) (hG.frame λid hid=>h4 id (by omega) (by rintro rfl;have:(1:Nat)+1=0:=hid;omega) (by rintro rfl;have:(1:Nat)=0:=hid;omega)) h2 o1 (by omega)
  refine⟨m',?_,r2,by omega,λid e1 e2 e3=>by rw[r4 id e1 e2 e3,h4 id e1 e2 e3]⟩
  rw[<-r1]
  simp only[x6c]
  unfold xct
  simp(disch:=omega)only[xta,xsn,hk',x1gm,xt9,p1,p2,h1,xux,xso]
  rfl
theorem x1cs(d:Nat){n:Nat}{l:List Edge}(hn:n<=200)(hl:l.length<=600)(hed:∀e∈l,EdgeIn n e/\e.fr≠e.to):x12w (xsi (d+2)) (.clo x1d [.ptr (0,6,3) 0 0]) n (λa=>nearU l a) 1 (PartC n l):=by
 intro hs sL fq out q g a m han hC hM hg hO hq
 obtain⟨h1,cells,h2,h3,h4⟩:=hC
 have hac:a<cells.length:=by omega
 have hG:=h4 a hac
 have hlen:=x19j l (a:Int)
 obtain⟨m',r1,r2,r3,r4⟩:=l_from d hs (u0:=m.next) (sL:=sL) (fq:=fq) (a:=cells[a]) (nb:=nearU l a) hn (λb hb=>x15f hed hb) (by omega) hg (nearU l a) 0 NN out q ⟨m.hp,m.next+1⟩ 6 rfl (by rw[xsu];omega) (hG.frame λ_ _=>rfl) ⟨hM.t5,hM.t6,hM.o,by
  obtain⟨x,x1,x2⟩:=hM.t8
  exact⟨x,x1,x2.frame λ_ _=>rfl⟩,hM.ol,by have:=hM.nx;show 1+1<m.next+1;omega⟩ hO hq
 refine⟨.tup [],m',?_,r2,by have:m.next+1<=m'.next:=r3;omega,r4⟩
 show xsi (d+2) hs x1d _ m=_
 rw[xon]
 have ia:sIx 1 (srI (0,5,9) n) (I a)=some (.ptr (0,5,9) 0 a):=by simpa using xtu (id:=(0,5,9)) (n:=n) (k:=(a:Int)) (by omega) (by omega)
 show x7g (xsi (d+1)) hs m.next (I a) _ (.ptr (0,6,3) 0 0) ⟨m.hp,m.next+1⟩ 0=_
 unfold x7g
 have G1:(⟨m.hp,m.next+1⟩:Mem).get (0,6,3)=some (.row [srI (0,5,9) n] 0 false):=h1
 have G2:(⟨m.hp,m.next+1⟩:Mem).get (0,5,9)=some (.row cells 0 false):=h2
 simp only[xsv,G1,G2,xt1,x1gd,xsr,x1g8,rd_f,xsn,ia,x108 hac,hG.lenP]
 exact r1
def xu8(n:Nat)(l:List Edge):List Int:=(numM n (λa=>nearU l a)).1
theorem w_parts(d:Nat){n:Nat}{ev:AV}{l:List Edge}(hev:Sl Edge.c ev l)(hl:l.length<=600)(hn:n<=200)(hed:∀e∈l,EdgeIn n e/\e.fr≠e.to)(m:Mem) :
 xsl (xsi (d+5)) x4o [.agg [I n,ev]] m=some (.slit ((xu8 n l).flatMap intE) n false,m)/\(xu8 n l).length=n:=by
 have hel:=hev.len xwo
 have ho:=hev.one
 obtain⟨m1,hm1⟩:∃m1,m1=(⟨[],1⟩:Mem).new (0,0,1) (.row [I n,ev] 0 false):=⟨_,rfl⟩
 obtain⟨m2,hm2⟩:∃m2,m2=m1.new (0,5,9) (.row (List.replicate n nilS) 0 false):=⟨_,rfl⟩
 obtain⟨m3,hm3⟩:∃m3,m3=(m2.new (0,6,3) (.row [nilS] 0 false)).set (0,6,3) (.row [srI (0,5,9) n] 0 false):=⟨_,rfl⟩
 have g1:m1.get (0,0,1)=some (.row [I n,ev] 0 false):=by rw[hm1];simp
 have g3:m3.get (0,0,1)=some (.row [I n,ev] 0 false):=by rw[hm3,hm2];simp[Mem.get_set,Mem.get_new,g1]
 have h0:PInv 13 n ev l 0 m3:=⟨g3,by rw[hm3];simp,⟨List.replicate n nilS,by rw[hm3,hm2];simp[Mem.get_set,Mem.get_new],by simp,⟨λ_=>(0,0,0),λv hv=>Or.inl ⟨by simp,by rw[x1hw];rfl⟩,λv w hv hw n1=>absurd (by rw[x1hw];rfl) n1⟩⟩,by rw[hm3,hm2,hm1];rfl⟩
 obtain⟨m4,fc4,r1,⟨fcx,r2⟩⟩:=p_loop (d+4) [] hev hl hn hed l 0 NN m3 13 rfl (by rw[xsu];omega) (by omega) h0
 have hat:l.take l.length=l:=x1gg (x1ga _)
 obtain⟨cells,ha,hcl,hA⟩:=r2.a
 rw[hat]at hA
 have hC:PartC n l m4:=⟨r2.t3,cells,ha,hcl,λv hv=>by
  obtain⟨ids,e1,e2⟩:=hA.sh
  rcases e1 v hv with ⟨a,b⟩|⟨ver,a,b,c,-⟩
  .exact Or.inl ⟨a,b⟩
  .exact Or.inr ⟨ids v,ver,c.1,a,b⟩⟩
 have hn4:=r2.nx
 obtain⟨sL,m5,s1,s2,s3,s4,s5⟩:=x1cr d [] hn (m:=m4) (f:=.clo x1d [.ptr (0,6,3) 0 0]) (nb:=λa=>nearU l a) (C:=PartC n l) (by rw[hn4];exact x1cs (d+1) hn hl hed) (by rw[hn4];exact λa b h1 h2=>h1.frame h2) (λa _ b hb=>x15f hed hb) hC
 rw[hn4]at s1 s2
 refine⟨?_,s3⟩
 have hfz:=frz_own (m:=m5) (id:=(1+1,sL,30)) (l:=xu8 n l) s2
 have hpl:(xu8 n l).length=n:=s3
 rw[hpl]at hfz
 refine x124 (m':=m5) (r:=srL 1 sL n) (by simp[hev.still1]) ?_ hfz
 rw[xo7]
 show x78 (xsi (d+4)) [] 0 (.agg [I (n:Int),ev]) ⟨[],1⟩ 0=_
 unfold x78 xjr
 simp only[xxi,AV.cells,x1h4,x1hn,ho,show(I (n:Int)).one=true from rfl,x1hp,xsr,x12n]
 rw[<-hm1]
 simp only[xsv,xtn,g1,xt1,x1gd,xsr,x1g8,x1gl,rd_f,xsn,mkSl_sl _ hn]
 rw[<-hm2]
 have hz2:xlq=[nilS]:=by kernel_rfl
 have hst:xui 1 0 0 (srI (0,5,9) n) (some (.row [nilS] 0 false))=some (.row [srI (0,5,9) n] 0 false):=by
  rw[xz1];simp[AV.one]
 simp only[hz2,xvs,xtp,Mem.get_new,x1gp,hst,xsn]
 rw[<-hm3]
 simp only[xsv,xtn,g3,xt1,x1gd,xsr,x1g8,x1gl,x1gr,rd_f,xsn,hel]
 rw[show((0:Nat):Int)=0 from rfl]at r1
 show x1w (xsi (d+4)) [] 0 NN (.ptr (0,0,1) 0 0) (.ptr (0,6,3) 0 0) ev (I l.length) (I 0) m3 13=_
 rw[r1]
 unfold xbt
 simp only[xsv,xtn,r2.b,xt1,x1gd,xsr,x1g8,x1gl,rd_f,xsn,s1]
theorem um_map:Tryz.prog.underlying x1q=some (.map xtg xtg):=by kernel_rfl
theorem um_int:Tryz.prog.underlying xtg=some (.int .i64):=by kernel_rfl
theorem zv_int:xyn Tryz.prog xtg=some (I 0):=by kernel_rfl
def mpE(E:List (Int×Int)):List (Value×AV):=E.map λx=>(.int .i64 x.1,I x.2)
def lkp:List (Int×Int)->Int->Option Int
 |[],_=>none
 |x::r,p=>if p=x.1 then some x.2 else lkp r p
theorem lkp_app(E:List (Int×Int))(p v q:Int)(h:lkp E p=none):lkp (E++[(p,v)]) q=if q=p then some v else lkp E q:=by
 induction E with
 |nil=>simp[lkp]
 |cons x r ih=>
  simp only[lkp,x1i0]at h ⊢
  by_cases c:p=x.1
  .rw[x1g7 c]at h;cases h
  .rw[x1g6 c]at h
   rw[ih h]
   by_cases e:q=x.1
   .rw[x1g7 e,x1g6 (by omega),x1g7 e]
   .rw[x1g6 e,x1g6 e]
theorem plain_mp(E:List (Int×Int))(p:Int):xw3 (.int .i64) (.int .i64 p) (mpE E)=true:=by
 unfold xw3 mpE
 simp only[x1h4,List.map_map,List.all_map]
 rw[x1gh]
 exact⟨rfl,by rw[x1gj];intro x _;rfl⟩
theorem x19k(p q:Int):xuk (.int .i64 p) (.int .i64 q)=decide (p=q):=by
 unfold xuk
 rfl
theorem find_mp(E:List (Int×Int))(p:Int):findKey (.int .i64 p) (mpE E)=(lkp E p).map I:=by
 induction E with
 |nil=>rfl
 |cons x r ih=>
  unfold mpE at ih ⊢
  simp only[x1gt,findKey,lkp,x19k]
  by_cases c:p=x.1
  .simp[c]
  .simp only[c,x1h9,x1h3,x1gu];exact ih
theorem set_mp(E:List (Int×Int))(p v:Int)(h:lkp E p=none):setKey (.int .i64 p) (I v) (mpE E)=mpE (E++[(p,v)]):=by
 induction E with
 |nil=>rfl
 |cons x r ih=>
  simp only[lkp]at h
  unfold mpE at ih ⊢
  simp only[x1gt,x1i0,setKey,x19k]
  by_cases c:p=x.1
  .rw[x1g7 c]at h;cases h
  .rw[x1g6 c]at h
   simp only[c,x1h9,x1h3,x1gu,ih h]
theorem x15g(E:List (Int×Int))(p:Int):xwu Tryz.prog xtg (.int .i64) (.int .i64 p) (mpE E)=true:=by
 unfold xwu
 rw[plain_mp E p,x1ie]
theorem look_ok(id:Id)(E:List (Int×Int))(p:Int)(m:Mem)(h:m.get id=some (.map (mpE E))):xvl Tryz.prog x1q (.mp id) (I p) true m=some (.tup [I ((lkp E p).getD 0),B (lkp E p).isSome]):=by
 unfold xvl
 simp only[um_map,um_int,zv_int,xtk,xxb,h]
 rw[x1g7 (x15g E p),find_mp]
 cases lkp E p<;>rfl
theorem look_at(id:Id)(E:List (Int×Int))(p:Int)(m:Mem)(h:m.get id=some (.map (mpE E))):xvl Tryz.prog x1q (.mp id) (I p) false m=some (I ((lkp E p).getD 0)):=by
 unfold xvl
 simp only[um_map,um_int,zv_int,xtk,xxb,h]
 rw[x1g7 (x15g E p),find_mp]
 cases lkp E p<;>rfl
theorem up_ok{R:Type}(id:Id)(E:List (Int×Int))(p v:Int)(m:Mem)(k:Mem->Option R)(h:m.get id=some (.map (mpE E)))(hn:lkp E p=none):xx0 Tryz.prog x1q (.mp id) (I p) (I v) m k=k (m.set id (.map (mpE (E++[(p,v)])))):=by
 unfold xx0
 simp only[um_map,um_int,xtk,h]
 rw[x1g7 (x15g E p),set_mp E p v hn]
def fst0(parts:List Int)(i:Nat):Nat:=parts.findIdx (λx=>x == at0 parts i)
theorem fst0_le{parts:List Int}{i:Nat}(h:i<parts.length):fst0 parts i<=i/\at0 parts (fst0 parts i)=at0 parts i:=by
 have h1:parts.findIdx (λx=>x == at0 parts i)<=i:=by
  apply Classical.byContradiction
  intro hc
  have:=List.not_of_lt_findIdx (p:=λx=>x == at0 parts i) (xs:=parts) (i:=i) (by omega)
  exact absurd (xt5 h).symm (by simpa using this)
 refine⟨h1,?_⟩
 have hl:parts.findIdx (λx=>x == at0 parts i)<parts.length:=by omega
 have:=List.findIdx_getElem (p:=λx=>x == at0 parts i) (w:=hl)
 unfold fst0
 rw[xt5 hl]
 simpa using this
def xu4(n:Nat)(parts tu:List Int):List Int:=(List.range n).map λi=>at0 tu i-at0 tu (fst0 parts i)
theorem xyj(n:Nat)(parts tu:List Int):(xu4 n parts tu).length=n:=by simp[xu4]
theorem x19l{n:Nat}{parts tu:List Int}{k:Nat}(h:k<n):(xu4 n parts tu)[k]'(by rw[xyj];exact h)=at0 tu k-at0 tu (fst0 parts k):=by simp[xu4]
theorem l_norm(d:Nat)(hs:FHs){us u n:Nat}{ev:AV}{l:List Edge}{fl tu ex parts:List Int}{idM:Id}(hM:idM.1<us)(hn:n<=200)(htl:tu.length=n)(hpl:parts.length=n)(htb:∀k,-1000000<=at0 tu k/\at0 tu k<=1000000) :
 ∀(s k j:Nat) (m:Mem) (fc:Nat) (E:List (Int×Int)),k+s=n->s<j->SolMem us n ev l fl ((xu4 n parts tu).take k++tu.drop k) ex m->m.get idM=some (.map (mpE E)) ->
 (∀p,lkp E p=if parts.findIdx (λx=>x == p)<k then some (at0 tu (parts.findIdx (λx=>x == p)))else none) ->
 ∃m',xy (xsi d) hs u j (.ptr (us,21,25) 0 0) (.mp idM) (.slit (parts.flatMap intE) n false) (I n) (I k) m fc=some (.ptr (us,21,25) 0 0,m')/\SolMem us n ev l fl (xu4 n parts tu) ex m'/\m'.next=m.next:=by
 intro s
 induction s with
 |zero=>
  intro k j m fc E hk hj hS hE hL
  obtain⟨j,rfl⟩:∃i,j=i+1:=⟨j-1,by omega⟩
  have hkn:k=n:=by omega
  subst hkn
  rw[x1gg (by rw[xyj];omega),x1kc (by omega),x1hc]at hS
  refine⟨m,?_,hS,rfl⟩
  simp only[xy]
  unfold xal xiu
  simp
 |succ s ih=>
  intro k j m fc E hk hj hS hE hL
  obtain⟨j,rfl⟩:∃i,j=i+1:=⟨j-1,by omega⟩
  have hkn:k<n:=by omega
  have hk':(k:Int)<(n:Int):=by omega
  have hkp:k<parts.length:=by omega
  obtain⟨p,hp⟩:∃p,p=at0 parts k:=⟨_,rfl⟩
  have hix:sIx 1 (.slit (parts.flatMap intE) n false) (I k)=some (.plit ((parts.drop k).flatMap intE)):=by
   have:=(Sl.lit parts false (enc:=intE)).ixI xt2 (k:=(k:Int)) (by omega) (by omega)
   rw[hpl]at this;simpa using this
  have hld:sLd false 1 (.plit ((parts.drop k).flatMap intE)) m=some (I p):=by rw[xte hkp,hp]
  have iT:sIx 1 (srI (us,11,15) n) (I k)=some (.ptr (us,11,15) 0 k):=by simpa using xtu (id:=(us,11,15)) (n:=n) (k:=(k:Int)) (by omega) hk'
  obtain⟨cur,hcur⟩:∃cur,cur=(xu4 n parts tu).take k++tu.drop k:=⟨_,rfl⟩
  rw[<-hcur]at hS
  have hcl:k<cur.length:=by rw[hcur];simp[xyj];omega
  have hck:at0 cur k=at0 tu k:=by rw[hcur];exact x192 (by omega) (by rw[xyj];omega)
  obtain⟨f0,f1⟩:=fst0_le hkp
  have hfi:parts.findIdx (λx=>x == p)=fst0 parts k:=by rw[hp];rfl
  have hb1:=htb k
  have hb2:=htb (fst0 parts k)
  have hnext:cur.set k (at0 tu k-at0 tu (fst0 parts k))=(xu4 n parts tu).take (k+1)++tu.drop (k+1):=by
   rw[hcur,<-x19l hkn]
   exact x193 (by omega) (by rw[xyj];exact hkn)
  have main:∀(E':List (Int×Int)) (m1:Mem) (g:Nat),(∀id:Id,id≠idM->m1.get id=m.get id)->m1.next=m.next->m1.get idM=some (.map (mpE E'))->lkp E' p=some (at0 tu (fst0 parts k)) ->
   (∀q,lkp E' q=if parts.findIdx (λx=>x == q)<k+1 then some (at0 tu (parts.findIdx (λx=>x == q)))else none) ->
   ∃m',x3i (xsi d) hs u (xy (xsi d) hs u j) (.ptr (us,21,25) 0 0) (.mp idM) (I k) (I p) (.slit (parts.flatMap intE) n false) (I n) (I k) m1 g=some (.ptr (us,21,25) 0 0,m')/\SolMem us n ev l fl (xu4 n parts tu) ex m'/\m'.next=m.next:=by
   intro E' m1 g q1 n1 hE1 hL1 hL2
   have hS1:SolMem us n ev l fl cur ex m1:=hS.frame λid hid=>q1 id (by rintro rfl;omega)
   obtain⟨M,hMM⟩:∃M,M=m1.set (us,11,15) (.row ((cur.set k (at0 tu k-at0 tu (fst0 parts k))).flatMap intE) 0 false):=⟨_,rfl⟩
   have q:∀id:Id,id≠(us,11,15)->M.get id=m1.get id:=λid hid=>by rw[hMM,Mem.get_set,x1g6 hid]
   have hSM:SolMem us n ev l fl ((xu4 n parts tu).take (k+1)++tu.drop (k+1)) ex M:=by
    obtain⟨a1,a2,a3,a4,⟨cells,c1,c2,c3⟩,a5,a6,a7⟩:=hS1
    refine⟨?_,?_,by rw[hMM,<-hnext];simp,?_,⟨cells,?_,c2,λw hw=>(c3 w hw).frame λid hid=>q id (by rintro rfl;rcases hid with ⟨_,h|h⟩<;>simp at h)⟩,a5,by rw[<-hnext];simp[a6],a7⟩<;>rw[q _ (by simp)]<;>assumption
   obtain⟨m',h1,h2,h3⟩:=ih (k+1) j M (g+13+2) E' (by omega) (by omega) hSM (by rw[q _ (by rintro rfl;simp at hM)];exact hE1) hL2
   refine⟨m',?_,h2,by rw[h3,hMM,Mem.next_set,n1]⟩
   rw[<-h1]
   unfold x3i xiv
   simp(disch:=omega)only[sNil,xsn,xtn,x1gl,xsv,hS1.s,xt1,x1gd,xsr,x1g8,x1gr,rd_f,iT,hS1.t,xun hcl,hck,look_at idM E' p m1 hE1,hL1,Option.getD_some,xvv,xso,xtp]
   rw[xvf hcl]
   simp(disch:=omega)only[xux,xso,xsn]
   rw[<-hMM]
   rfl
  have pre:∀K,xsk (B (!(lkp E p).isSome))
   ((sNil (.ptr (us,21,25) 0 0)).bind λt44=>(sFA 3 t44).bind λt45=>(sLd false 1 t45 m).bind λt46=>(sIx 1 t46 (I k)).bind λt48=>(sLd false 1 t48 m).bind λt49=>xx0 Tryz.prog x1q (.mp idM) (I p) t49 m λm_2=>
     x3i (xsi d) hs u (xy (xsi d) hs u j) (.ptr (us,21,25) 0 0) (.mp idM) (I k) (I p) (.slit (parts.flatMap intE) n false) (I n) (I k) m_2 (fc+1+5+20))
   (x3i (xsi d) hs u (xy (xsi d) hs u j) (.ptr (us,21,25) 0 0) (.mp idM) (I k) (I p) (.slit (parts.flatMap intE) n false) (I n) (I k) m (fc+1+5+10))=K ->
   xy (xsi d) hs u (j+1) (.ptr (us,21,25) 0 0) (.mp idM) (.slit (parts.flatMap intE) n false) (I n) (I k) m fc=K:=by
   intro K hK
   rw[<-hK]
   simp only[xy]
   unfold xal xix xiw
   simp only[xta,xsn,hk',x1gm,xt9,hix,hld,look_ok idM E p m hE]
   rfl
  have hLp:=hL p
  rw[hfi]at hLp
  have other:∀q,q≠p->(parts.findIdx (λx=>x == q)<k+1↔parts.findIdx (λx=>x == q)<k):=by
   intro q hq
   constructor
   .intro h
    apply Classical.byContradiction
    intro hc
    have e:parts.findIdx (λx=>x == q)=k:=by omega
    have hl:parts.findIdx (λx=>x == q)<parts.length:=by omega
    have:=List.findIdx_getElem (p:=λx=>x == q) (w:=hl)
    simp only[e,beq_iff_eq]at this
    rw[hp,xt5 hkp]at hq
    exact hq this.symm
   .intro h;omega
  by_cases c:fst0 parts k<k
  .rw[x1g7 c]at hLp
   obtain⟨m',h1,h2,h3⟩:=main E m (fc+1+5+10) (λ_ _=>rfl) rfl hE hLp (λq=>by
    rw[hL q]
    by_cases e:q=p
    .subst e;rw[hfi,x1g7 c,x1g7 (by omega)]
    .simp only[other q e])
   refine⟨m',pre _ ?_,h2,h3⟩
   rw[hLp]
   exact h1
  .rw[x1g6 c]at hLp
   have hfk:fst0 parts k=k:=by omega
   obtain⟨m',h1,h2,h3⟩:=main (E++[(p,at0 tu k)]) (m.set idM (.map (mpE (E++[(p,at0 tu k)])))) (fc+1+5+20) (λid hid=>by rw[Mem.get_set,x1g6 hid]) rfl (by simp) (by rw[lkp_app _ _ _ _ hLp,x1g7 rfl,hfk]) (λq=>by
    rw[lkp_app _ _ _ _ hLp]
    by_cases e:q=p
    .subst e;rw[x1g7 rfl,hfi,x1g7 (by omega),hfk]
    .rw[x1g6 e,hL q];simp only[other q e])
   refine⟨m',pre _ ?_,h2,h3⟩
   rw[hLp]
   simp only[Option.isSome_none,x1ht,xt9,sNil,xsn,xtn,x1gl,xsv,hS.s,xt1,x1gd,xsr,x1g8,x1gr,rd_f,iT,hS.t,xun hcl,hck]
   rw[up_ok idM E p (at0 tu k) m _ hE hLp]
   exact h1
structure Solved (J:Int) (n:Nat) (l:List Edge) (fl tu ex:List Int):Prop where
 f:FlowOK n l fl tu ex
 e:∀v,at0 ex v<=0
 t:∃P,TurnB n tu ex P/\P<=J*12000
theorem w_solve(d:Nat){n:Nat}{J:Int}{ev:AV}{l:List Edge}(hev:Sl Edge.c ev l)(hS:Slim J n l)(u:Nat) :
 ∃m' fl tu ex,xsi (d+6) [] x2q [.agg [I n,ev]] ⟨[],u⟩=some (.ptr (u+1,21,25) 0 0,m')/\SolMem (u+1) n ev l fl (xu4 n (xu8 n l) tu) ex m'/\Solved J n l fl tu ex/\u+1<m'.next:=by
 have hn:n<=200:=by have:=hS.nn;omega
 have hl:l.length<=600:=by have:=hS.ll;omega
 have hj0:=hS.j0
 have hj1:=hS.j1
 have ho:=hev.one
 obtain⟨m1,hm1⟩:∃m1,m1=(⟨[],u+1⟩:Mem).new (u,0,1) (.row [I n,ev] 0 false):=⟨_,rfl⟩
 have g1:m1.get (u,0,1)=some (.row [I n,ev] 0 false):=by rw[hm1];simp
 have n1:m1.next=u+1:=by rw[hm1];rfl
 obtain⟨mN,a1,a2,a3⟩:=x1cj (d+4) hev hl hn hS.ed (u+1)
 obtain⟨m2,b1,b2,b3⟩:=xz4 (call:=xsi (d+5)) (f:=x30) (l:=[.agg [I n,ev]]) (m:=m1) (m':=mN) (r:=.ptr (u+1,21,25) 0 0) (by simp[clean,hev.clean1]) (by rw[n1];exact a1)
 have hM2:SolMem (u+1) n ev l (l.map f0M) (List.replicate n 0) (ex0M n l) m2:=a2.frame λid hid=>by rw[b3,x1g7 (by omega)]
 have g2:m2.get (u,0,1)=some (.row [I n,ev] 0 false):=by rw[b3,x1g6 (by simp only[n1];omega)];exact g1
 obtain⟨hF,hT,hP,hp⟩:=start_ok hS
 obtain⟨m3,fc3,fl,tu,ex,P,c1,c2,c3,c4,c5,c6,c7,c8⟩:=l_solve d [] hev hS u (.ptr (u,0,1) 0 0) (posS n (ex0M n l)).toNat _ _ _ 0 m2 NN 5 (by omega) (by rw[xsu];omega) (by rw[b2,a3];omega) hM2 hF hT hP
 have g3:m3.get (u,0,1)=some (.row [I n,ev] 0 false):=by rw[c8 _ (by show u<m2.next;rw[b2,a3];omega) (by simp) (by simp) (by simp)];exact g2
 have hPl:=c5.le hj0
 obtain⟨p1,p2⟩:=w_parts d hev hl hn hS.ed m3
 obtain⟨m4,hm4⟩:∃m4,m4=m3.new (u,fc3+3,25) (.map (mpE [])):=⟨_,rfl⟩
 have hM4:SolMem (u+1) n ev l fl tu ex m4:=c2.frame λid hid=>by rw[hm4,Mem.get_new,x1g6 (by rintro rfl;simp at hid)]
 have htb:=(c3.inn hS c4 (by omega)).tub
 obtain⟨m5,d1,d2,d3⟩:=l_norm (d+5) [] (us:=u+1) (u:=u) (ev:=ev) (l:=l) (fl:=fl) (ex:=ex) (parts:=xu8 n l) (idM:=(u,fc3+3,25)) (by show u<u+1;omega) hn c3.tul p2 htb n 0 NN m4 (fc3+5+3) [] (by omega) (by rw[xsu];omega) (by rw[x1hw,x1g8,x1hl];exact hM4) (by rw[hm4];simp) (λp=>by rw[x1g6 (by omega)];rfl)
 refine⟨m5,fl,tu,ex,?_,d2,⟨c3,c6,P,c4,hPl⟩,?_⟩
 .rw[xnj]
  show x71 (xsi (d+5)) [] u (.agg [I (n:Int),ev]) ⟨[],u+1⟩ 0=_
  unfold x71
  simp only[xxi,AV.cells,x1h4,x1hn,ho,show(I (n:Int)).one=true from rfl,x1hp,xsr]
  rw[<-hm1]
  simp only[xsv,g1,xt1,x1gd,xsr,x1g8,rd_2,xsn,b1]
  show x1r (xsi (d+5)) [] u NN (.ptr (u,0,1) 0 0) (.ptr (u+1,21,25) 0 0) m2 5=_
  rw[c1]
  unfold x70 xiy
  have hlen:sLen Tryz.prog x4 (.slit ((xu8 n l).flatMap intE) n false)=some (I n):=rfl
  simp only[xsv,g3,xt1,x1gd,xsr,x1g8,rd_2,xsn,p1,xyz,hlen]
  exact hm4▸d1
 .rw[d3,hm4,Mem.next_new]
  rw[b2,a3]at c7
  omega
inductive Reach (nb:Nat->List Int) (r:Nat):Nat->Prop
 |refl:Reach nb r r
 |step {a b:Nat}:Reach nb r a->(b:Int)∈nb a->Reach nb r b
structure Sym (n:Nat) (nb:Nat->List Int):Prop where
 rng:∀a,a<n->∀b∈nb a,0<=b/\b<n
 sym:∀a b,a<n->b<n->(b:Int)∈nb a->(a:Int)∈nb b
structure BInv (n:Nat) (nb:Nat->List Int) (g:Int) (r:Nat) (out0 out q:List Int):Prop where
 l:out.length=n
 ch:∀v,at0 out v=at0 out0 v\/(v<n/\at0 out0 v<0/\at0 out v=g/\Reach nb r v)
 qi:∀a∈q,0<=a/\a<n/\at0 out a.toNat=g
 d:∀v,v<n->at0 out v=g->(v:Int)∈q\/∀b∈nb v,0<=at0 out b.toNat
theorem x15h{n:Nat}{nb:Nat->List Int}{g:Int}{r:Nat}{out0:List Int}(hg:0<=g)(hfresh:∀v,v<n->at0 out0 v≠g){a:Nat}(han:a<n)(hra:Reach nb r a):∀(bs:List Int),(∀b∈bs,b∈nb a/\0<=b/\b<n)->∀(out q:List Int),out.length=n ->
 (∀v,at0 out v=at0 out0 v\/(v<n/\at0 out0 v<0/\at0 out v=g/\Reach nb r v))->(∀x∈q,0<=x/\x<n/\at0 out x.toNat=g)->(∀v,v<n->v≠a->at0 out v=g->(v:Int)∈q\/∀b∈nb v,0<=at0 out b.toNat) ->
 (xub g bs (out,q)).1.length=n/\(∀v,at0 (xub g bs (out,q)).1 v=at0 out0 v\/(v<n/\at0 out0 v<0/\at0 (xub g bs (out,q)).1 v=g/\Reach nb r v))/\(∀x∈(xub g bs (out,q)).2,0<=x/\x<n/\at0 (xub g bs (out,q)).1 x.toNat=g) /\
  (∀v,v<n->v≠a->at0 (xub g bs (out,q)).1 v=g->(v:Int)∈(xub g bs (out,q)).2\/∀b∈nb v,0<=at0 (xub g bs (out,q)).1 b.toNat)/\(∀v,0<=at0 out v->0<=at0 (xub g bs (out,q)).1 v)/\(∀b∈bs,0<=at0 (xub g bs (out,q)).1 b.toNat)
 |[],_,out,q,h1,h2,h3,h4=>⟨h1,h2,h3,h4,λ_ h=>h,λb hb=>by simp at hb⟩
 |b::bs,hb,out,q,h1,h2,h3,h4=>by
  obtain⟨b1,b2,b3⟩:=hb b (x1gf ..)
  obtain⟨bn,rfl⟩:∃bn:Nat,b=bn:=⟨b.toNat,by omega⟩
  have hbn:bn<n:=by omega
  have e:xub g ((bn:Int)::bs) (out,q)=xub g bs (addM g (out,q) bn):=rfl
  rw[e]
  by_cases c:at0 out bn<0
  .have ea:addM g (out,q) bn=(out.set bn g,q++[(bn:Int)]):=by unfold addM;simp only[x1gb];rw[x1g7 c]
   rw[ea]
   have hset:∀v,at0 (out.set bn g) v=if v=bn then g else at0 out v:=λv=>xue (by omega)
   have mono:∀v,0<=at0 out v->0<=at0 (out.set bn g) v:=λv hv=>by rw[hset];split<;>omega
   obtain⟨r1,r2,r3,r4,r5,r6⟩:=x15h hg hfresh han hra bs (λx hx=>hb x (x1ge _ hx)) (out.set bn g) (q++[(bn:Int)]) (by simp[h1]) (λv=>by
    rw[hset]
    by_cases ev:v=bn
    .subst ev
     right
     rw[x1g7 rfl]
     refine⟨hbn,?_,rfl,.step hra b1⟩
     rcases h2 v with h|⟨_,h,_⟩<;>omega
    .rw[x1g6 ev];exact h2 v) (λx hx=>by
    rw[hset]
    rcases x1h2.mp hx with hx|hx
    .obtain⟨x1,x2,x3⟩:=h3 x hx
     refine⟨x1,x2,?_⟩
     split
     .rfl
     .exact x3
    .rw[x1hk]at hx
     subst hx
     exact⟨by omega,by omega,by simp⟩) (λv hv hva hvg=>by
    rw[hset]at hvg
    by_cases ev:v=bn
    .left;rw[ev];simp
    .rw[x1g6 ev]at hvg
     rcases h4 v hv hva hvg with h|h
     .left;exact x1h2.mpr (Or.inl h)
     .right;exact λb hb=>mono _ (h b hb))
   refine⟨r1,r2,r3,r4,λv hv=>r5 v (mono v hv),λx hx=>?_⟩
   rcases x1gn.mp hx with rfl|hx
   .refine r5 _ ?_
    rw[x1gb,hset,x1g7 rfl];exact hg
   .exact r6 x hx
  .have ea:addM g (out,q) bn=(out,q):=by unfold addM;simp only[x1gb];rw[x1g6 c]
   rw[ea]
   obtain⟨r1,r2,r3,r4,r5,r6⟩:=x15h hg hfresh han hra bs (λx hx=>hb x (x1ge _ hx)) out q h1 h2 h3 h4
   refine⟨r1,r2,r3,r4,r5,λx hx=>?_⟩
   rcases x1gn.mp hx with rfl|hx
   .exact r5 _ (by rw[x1gb];omega)
   .exact r6 x hx
theorem bfs_inv{n:Nat}{nb:Nat->List Int}(hS:Sym n nb){g:Int}{r:Nat}{out0:List Int}(hg:0<=g)(hfresh:∀v,v<n->at0 out0 v≠g):∀(F:Nat) (out q:List Int),negC out+q.length<F->BInv n nb g r out0 out q->BInv n nb g r out0 (bfsM nb g F (out,q)) []
 |0,out,q,h,_=>by omega
 |F+1,out,[],h,hB=>hB
 |F+1,out,a::q,h,hB=>by
  simp only[bfsM]
  obtain⟨a0,a1,a2⟩:=hB.qi a (x1gf ..)
  obtain⟨an,rfl⟩:∃an:Nat,a=an:=⟨a.toNat,by omega⟩
  rw[x1gb]at a2 ⊢
  have han:an<n:=by omega
  have hra:Reach nb r an:=by
   rcases hB.ch an with h|⟨_,_,_,h⟩
   .exact absurd (h.symm.trans a2) (hfresh an han)
   .exact h
  obtain⟨r1,r2,r3,r4,r5,r6⟩:=x15h hg hfresh han hra (nb an) (λb hb=>⟨hb,hS.rng an han b hb⟩) out q hB.l hB.ch (λx hx=>hB.qi x (x1ge _ hx)) (λv hv hva hvg=>by
   rcases hB.d v hv hvg with h|h
   .rcases x1gn.mp h with h|h
    .omega
    .exact Or.inl h
   .exact Or.inr h)
  obtain⟨-,hm⟩:=x11d hg (nb an) (out,q) ⟨hB.l,λb hb=>by obtain⟨x,y,_⟩:=hB.qi b (x1ge _ hb);exact⟨x,y⟩⟩ (hS.rng an han)
  simp only[x1gq]at h hm
  refine bfs_inv hS hg hfresh F (xub g (nb an) (out,q)).1 (xub g (nb an) (out,q)).2 (by omega) ⟨r1,r2,r3,λv hv hvg=>?_⟩
  by_cases e:v=an
  .subst e
   right
   exact r6
  .exact r4 v hv e hvg
structure RInv (n:Nat) (nb:Nat->List Int) (k:Nat) (out:List Int) (g:Int):Prop where
 l:out.length=n
 g0:0<=g
 gk:g<=k
 lt:∀v,v<n->-1<=at0 out v/\at0 out v<g
 lab:∀v,v<k->v<n->0<=at0 out v
 cl:∀v,v<n->0<=at0 out v->∀b∈nb v,at0 out b.toNat=at0 out v
 rep:∃rep:Nat->Nat,∀c:Nat,(c:Int)<g->rep c<k/\rep c<n/\at0 out (rep c)=(c:Int)/\(∀v,v<n->at0 out v=(c:Int)->rep c<=v/\Reach nb (rep c) v)/\∀c',c'<c->rep c'<rep c
theorem root_step{n:Nat}{nb:Nat->List Int}(hn:n<=200)(hS:Sym n nb){k:Nat}{out:List Int}{g:Int}(hk:k<n)(h:RInv n nb k out g):RInv n nb (k+1) (xvo nb (out,g) k).1 (xvo nb (out,g) k).2:=by
 obtain⟨rep,hrep⟩:=h.rep
 have hgk:=h.gk
 have hg0:=h.g0
 unfold xvo
 by_cases c:0<=at0 out k
 .rw[x1g7 c]
  refine⟨h.l,h.g0,by simp only;omega,h.lt,λv hv hvn=>?_,h.cl,rep,λc hc=>?_⟩
  .by_cases e:v=k
   .rw[e];exact c
   .exact h.lab v (by omega) hvn
  .obtain⟨a,b⟩:=hrep c hc
   exact⟨by omega,b⟩
 .rw[x1g6 c]
  have fresh:∀v,v<n->at0 out v≠g:=λv e=>by have:=h.lt v e;omega
  simp only
  obtain⟨out',ho⟩:∃out',out'=bfsM nb g NN (out.set k g,[(k:Int)]):=⟨_,rfl⟩
  rw[<-ho]
  have hset:∀v,at0 (out.set k g) v=if v=k then g else at0 out v:=λv=>xue (by rw[h.l];exact hk)
  have hng:=x15e (out.set k g)
  rw[x1iu,h.l]at hng
  have hk0:at0 out k<0:=by omega
  have core:BInv n nb g k out out' []:=by
   rw[ho]
   refine bfs_inv hS hg0 fresh NN _ _ (by rw[xsu];simp only[x1ks];omega) ⟨by simp[h.l],λv=>?_,λa ha=>?_,λv hv hvg=>?_⟩
   .rw[hset]
    by_cases e:v=k
    .subst e;right;rw[x1g7 rfl];exact⟨hk,hk0,rfl,.refl⟩
    .rw[x1g6 e];exact Or.inl rfl
   .rw[x1hk]at ha
    subst ha
    rw[x1gb,hset,x1g7 rfl]
    exact⟨by omega,by omega,rfl⟩
   .rw[hset]at hvg
    by_cases e:v=k
    .left;rw[e];simp
    .rw[x1g6 e]at hvg;exact absurd hvg (fresh v hv)
  have old:∀v,v<n->0<=at0 out v->at0 out' v=at0 out v:=λv hv h0=>by
   rcases core.ch v with e|⟨_,e,_⟩
   .exact e
   .omega
  have kg:at0 out' k=g:=by
   have mono:∀(F:Nat) (s:List Int×List Int),at0 s.1 k=g->StOK n s->at0 (bfsM nb g F s) k=g:=by
    intro F
    induction F with
    |zero=>intro s hs _;exact hs
    |succ F ih=>
     intro s hs hO
     obtain⟨so,sq⟩:=s
     cases sq with
     |nil=>exact hs
     |cons a sq=>
      simp only[bfsM]
      have hab:=hO.q a (x1gf ..)
      have hO1:StOK n (so,sq):=⟨hO.l,λb hb=>hO.q b (x1ge _ hb)⟩
      refine ih _ ?_ (x11d hg0 (nb a.toNat) (so,sq) hO1 (hS.rng _ (by omega))).1
      have keep:∀(bs:List Int) (s:List Int×List Int),at0 s.1 k=g->k<s.1.length->at0 (xub g bs s).1 k=g/\k<(xub g bs s).1.length:=by
       intro bs
       induction bs with
       |nil=>intro s h1 h2;exact⟨h1,h2⟩
       |cons b bs ihb=>
        intro s h1 h2
        refine ihb (addM g s b) ?_ ?_
        .unfold addM
         split
         .rename_i hc
          by_cases e:b.toNat=k
          .rw[e]at hc;omega
          .simp only
           by_cases hb:b.toNat<s.1.length
           .rw[xue hb,x1g6 (λx=>e x.symm)];exact h1
           .rw[List.set_eq_of_length_le (by omega)];exact h1
         .exact h1
        .unfold addM
         split
         .simpa using h2
         .exact h2
      exact(keep (nb a.toNat) (so,sq) hs (by simp only;have:=hO.l;simp only at this;omega)).1
   rw[ho]
   exact mono NN _ (by simp only;rw[hset,x1g7 rfl]) ⟨by simp[h.l],λa ha=>by rw[x1hk]at ha;subst ha;omega⟩
  have clg:∀v,v<n->at0 out' v=g->∀b∈nb v,at0 out' b.toNat=g:=by
   intro v hv hvg b hb
   obtain⟨b0,b1⟩:=hS.rng v hv b hb
   obtain⟨bn,rfl⟩:∃bn:Nat,b=bn:=⟨b.toNat,by omega⟩
   rw[x1gb]
   have h0:0<=at0 out' bn:=by
    rcases core.d v hv hvg with h|h
    .simp at h
    .have:=h _ hb;rwa[x1gb]at this
   rcases core.ch bn with e|⟨_,_,e,_⟩
   .exfalso
    have h1:at0 out v<0:=by
     rcases core.ch v with e'|⟨_,e',_⟩
     .exact absurd (e'.symm.trans hvg) (fresh v hv)
     .exact e'
    have:=h.cl bn (by omega) (by omega) v (hS.sym v bn hv (by omega) hb)
    rw[x1gb]at this
    omega
   .exact e
  refine⟨core.l,by omega,by omega,λv hv=>?_,λv hv hvn=>?_,λv hv hv0 b hb=>?_,λc=>if(c:Int)<g then rep c else k,λc hc=>?_⟩
  .have:=h.lt v hv
   rcases core.ch v with e|⟨_,_,e,_⟩<;>omega
  .by_cases e:v=k
   .rw[e,kg];exact hg0
   .have:=h.lab v (by omega) hvn
    rw[old v hvn this];exact this
  .by_cases e:at0 out' v=g
   .rw[e];exact clg v hv e b hb
   .have e':at0 out' v=at0 out v:=by
     rcases core.ch v with e'|⟨_,_,e',_⟩
     .exact e'
     .exact absurd e' e
    obtain⟨b0,b1⟩:=hS.rng v hv b hb
    have:=h.cl v hv (by omega) b hb
    rw[e',<-this]
    exact old _ (by omega) (by omega)
  .simp only
   by_cases hcg:(c:Int)<g
   .rw[x1g7 hcg]
    obtain⟨a1,a2,a3,a4,a5⟩:=hrep c hcg
    refine⟨by omega,a2,by rw[old _ a2 (by omega)];exact a3,λv hv hvc=>a4 v hv ?_,λc' hc'=>by rw[x1g7 (by omega)];exact a5 c' hc'⟩
    rcases core.ch v with e|⟨_,_,e,_⟩
    .rw[<-e];exact hvc
    .omega
   .have hcg':(c:Int)=g:=by omega
    rw[x1g6 hcg]
    refine⟨by omega,hk,by rw[kg];exact hcg'.symm,λv hv hvc=>?_,λc' hc'=>?_⟩
    .rcases core.ch v with e|⟨_,e1,_,e2⟩
     .exact absurd (e.symm.trans (hvc.trans hcg')) (fresh v hv)
     .refine⟨?_,e2⟩
      apply Classical.byContradiction
      intro hlt
      have:=h.lab v (by omega) hv
      omega
    .rw[x1g7 (by omega)]
     exact(hrep c' (by omega)).1
theorem num_inv{n:Nat}{nb:Nat->List Int}(hn:n<=200)(hS:Sym n nb):RInv n nb n (numM n nb).1 (numM n nb).2:=by
 have key:∀k,k<=n->RInv n nb k ((List.range k).foldl (xvo nb) (List.replicate n (-1),0)).1 ((List.range k).foldl (xvo nb) (List.replicate n (-1),0)).2:=by
  intro k
  induction k with
  |zero=>
   intro _
   have hr:∀v,v<n->at0 (List.replicate n (-1)) v=-1:=λv hv=>by rw[xt5 (by simpa using hv)];simp
   refine⟨by simp,by simp,by simp,λv hv=>?_,λv hv=>by omega,λv hv h0=>?_,λ_=>0,λc hc=>?_⟩
   .simp only[x1ll,x1lm];rw[hr v hv];omega
   .simp only[x1ll,x1lm]at h0;rw[hr v hv]at h0;omega
   .simp only[x1ll,x1lm]at hc;omega
  |succ k ih=>
   intro hk
   rw[x1jb,x1km]
   exact root_step hn hS (by omega) (ih (by omega))
 exact key n (x1ga _)
theorem x1ct{n:Nat}{nb:Nat->List Int}(hn:n<=200)(hS:Sym n nb){a b:Nat}(ha:a<n)(h:Reach nb a b):b<n/\at0 (numM n nb).1 b=at0 (numM n nb).1 a:=by
 have R:=num_inv hn hS
 induction h with
 |refl=>exact⟨ha,rfl⟩
 |step h1 h2 ih=>
  obtain⟨i1,i2⟩:=ih
  obtain⟨b0,b1⟩:=hS.rng _ i1 _ h2
  have:=R.cl _ i1 (R.lab _ i1 i1) _ h2
  rw[x1gb]at this
  exact⟨by omega,by rw[this,i2]⟩
theorem mem_nearU{l:List Edge}{a b:Int}:b∈nearU l a↔∃e∈l,0<e.wt/\((e.fr=a/\e.to=b)\/(e.fr≠a/\e.to=a/\e.fr=b)):=by
 unfold nearU
 rw[x1hj]
 constructor
 .rintro⟨e,he,hb⟩
  refine⟨e,he,?_⟩
  split at hb
  .rename_i hw
   refine⟨hw,?_⟩
   split at hb
   .rename_i h1
    rw[x1hk]at hb
    exact Or.inl ⟨h1,hb.symm⟩
   .rename_i h1
    split at hb
    .rename_i h2
     rw[x1hk]at hb
     exact Or.inr ⟨h1,h2,hb.symm⟩
    .simp at hb
  .simp at hb
 .rintro⟨e,he,hw,h⟩
  refine⟨e,he,?_⟩
  rw[x1g7 hw]
  rcases h with ⟨h1,h2⟩|⟨h1,h2,h3⟩
  .rw[x1g7 h1,h2];simp
  .rw[x1g6 h1,x1g7 h2,h3];simp
theorem x19m{n:Nat}{l:List Edge}(hed:∀e∈l,EdgeIn n e/\e.fr≠e.to):Sym n (λa=>nearU l (a:Nat)):=by
 refine⟨λa _ b hb=>x15f hed hb,λa b _ _ h=>?_⟩
 rw[mem_nearU]at h ⊢
 obtain⟨e,he,hw,h⟩:=h
 have hne:=(hed e he).2
 refine⟨e,he,hw,?_⟩
 rcases h with ⟨h1,h2⟩|⟨h1,h2,h3⟩
 .right;exact⟨by omega,h2,h1⟩
 .left;exact⟨h3,h2⟩
theorem x1cu{n:Nat}{l:List Edge}(hn:n<=200)(hed:∀e∈l,EdgeIn n e/\e.fr≠e.to){e:Edge}(he:e∈l)(hw:0<e.wt):at0 (xu8 n l) e.fr.toNat=at0 (xu8 n l) e.to.toNat:=by
 obtain⟨⟨f0,f1,t0,t1,-⟩,hne⟩:=hed e he
 obtain⟨a,ha⟩:∃a:Nat,e.fr=a:=⟨e.fr.toNat,by omega⟩
 obtain⟨b,hb⟩:∃b:Nat,e.to=b:=⟨e.to.toNat,by omega⟩
 have:=(x1ct hn (x19m hed) (a:=a) (b:=b) (by omega) (.step .refl (mem_nearU.mpr ⟨e,he,hw,Or.inl ⟨ha,hb⟩⟩))).2
 rw[ha,hb,x1gb,x1gb]
 exact this.symm
theorem parts_len{n:Nat}{l:List Edge}(hn:n<=200)(hed:∀e∈l,EdgeIn n e/\e.fr≠e.to):(xu8 n l).length=n:=(num_inv hn (x19m hed)).l
theorem x15i{n:Nat}{parts tu:List Int}{k:Nat}(h:k<n):at0 (xu4 n parts tu) k=at0 tu k-at0 tu (fst0 parts k):=by
 rw[xt5 (by rw[xyj];exact h),x19l h]
theorem normT_ex{n:Nat}{l:List Edge}(hn:n<=200)(hed:∀e∈l,EdgeIn n e/\e.fr≠e.to){tu:List Int}{e:Edge}(he:e∈l)(hw:0<e.wt):exF (at0 (xu4 n (xu8 n l) tu)) e=exF (at0 tu) e:=by
 obtain⟨⟨f0,f1,t0,t1,-⟩,hne⟩:=hed e he
 have hp:=x1cu hn hed he hw
 unfold exF
 rw[x15i (by omega),x15i (by omega)]
 unfold fst0
 rw[hp]
 omega
theorem Solved.best{J:Int}{n:Nat}{l:List Edge}{fl tu ex:List Int}(h:Solved J n l fl tu ex):Feas n (l.zip fl)/\CS (at0 (xu4 n (xu8 n l) tu)) (l.zip fl):=by
 obtain⟨h1,h2⟩:=end_ok h.f h.e
 refine⟨h1,λx hx=>?_⟩
 obtain⟨k,hk,rfl⟩:=(xzb h.f.fll).mp hx
 have hc:=h.f.cap k hk
 have hem:edgeAt l k∈l:=by rw[xwc hk];exact x1go hk
 by_cases hw:0<(edgeAt l k).wt
 .simp only
  rw[normT_ex h.f.nn h.f.ed hem hw]
  exact h2 _ hx
 .simp only
  exact⟨λ_=>by omega,λ_=>by omega⟩
theorem Solved.turns{J:Int}{n:Nat}{l:List Edge}{fl tu ex:List Int}(h:Solved J n l fl tu ex)(hJ:0<=J):∀k,-(J*12000)<=at0 (xu4 n (xu8 n l) tu) k/\at0 (xu4 n (xu8 n l) tu) k<=J*12000:=by
 obtain⟨P,hP,hPl⟩:=h.t
 intro k
 by_cases hk:k<n
 .rw[x15i hk]
  have h1:=hP.b k hk
  have h2:=fst0_le (parts:=xu8 n l) (i:=k) (by rw[parts_len h.f.nn h.f.ed];exact hk)
  have h3:=hP.b (fst0 (xu8 n l) k) (by omega)
  omega
 .have:at0 (xu4 n (xu8 n l) tu) k=0:=by
   unfold at0
   rw[x1gk,x1j8 (by rw[xyj];omega)];rfl
  omega
theorem x19n(t:List Int):∀(l:List Edge) (s:Int),xvd t s l=s+xyi (at0 t) l
 |[],s=>by simp[xvd,xyi]
 |e::r,s=>by
  have e':exI t e=exF (at0 t) e:=rfl
  rw[xvd,x19n t r,xyi,e'];omega
theorem x19o{n:Nat}:∀(l:List Edge) (f:List Int) (p:List Int) (v:Int),f.length=l.length->p.length=n->(∀e∈l,EdgeIn n e/\e.fr≠e.to) ->
 Cap (l.zip f)->(∀k,k<n->at0 p k+netF k (l.zip f)=0)->xx7 p v l f=(v+valF (l.zip f),0)
 |[],[],p,v,_,hp,_,_,h=>by
  have hz:∀k (hk:k<p.length),p[k]=0:=λk hk=>by
   have:=h k (by omega)
   rw[xt5 hk]at this
   simpa[netF]using this
  have:p.any (λx=>!decide (x=0))=false:=by
   rw[x1ir]
   intro x hx
   obtain⟨k,hk,rfl⟩:=x1is.mp hx
   simp[hz k hk]
  simp[xx7,this,valF]
 |e::es,f::fs,p,v,hl,hp,hed,hC,h=>by
  obtain⟨⟨f0,f1,t0,t1,-⟩,hne⟩:=hed e (x1gf ..)
  rw[x1jo]at hC h
  have hc:=hC (e,f) (x1gf ..)
  simp only at hc
  have:=x19o es fs (xwe p e f) (v+f*e.jump) (by simpa using hl) (by rw[x196];exact hp) (λx hx=>hed x (x1ge _ hx)) (λx hx=>hC x (x1ge _ hx)) (λk hk=>by
   have:=h k hk
   simp only[netF]at this
   unfold xwe
   rw[xue (by simp;omega),xue (by omega)]
   by_cases c1:k=e.fr.toNat
   .rw[x1g7 c1]
    rw[x1g6 (by omega),x1g7 c1.symm,c1]at this
    rw[c1];omega
   .rw[x1g6 c1]
    by_cases c2:k=e.to.toNat
    .rw[x1g7 c2]
     rw[x1g7 c2.symm,x1g6 (by omega),c2]at this
     rw[c2];omega
    .rw[x1g6 c2]
     rw[x1g6 (by omega),x1g6 (by omega)]at this
     omega)
  simp only[xx7,x1jo,valF]
  rw[show wi f (-e.wt) e.wt=true from wi_iff.mpr hc,cond_true,this]
  congr 1;omega
 |[],_::_,_,_,h,_,_,_,_=>by simp at h
 |_::_,[],_,_,h,_,_,_,_=>by simp at h
theorem x1cv{n:Nat}{l:List Edge}{f:List Int}(hed:∀e∈l,EdgeIn n e/\e.fr≠e.to)(hl:f.length=l.length)(h:Feas n (l.zip f)):xza n l f=(valF (l.zip f),0):=by
 unfold xza
 rw[x1h6 (by omega)]
 simp only[x1jh,cond_false,x1gb]
 rw[x19o (n:=n) l f (List.replicate n 0) 0 hl (by simp) hed h.cap (λk hk=>by rw[x12c,h.cons k hk];rfl)]
 congr 1;omega
theorem a_cost(d:Nat){n:Int}{ev a:AV}{l:List Edge}{t:List Int}(h:Sl Edge.c ev l)(hl:l.length<=600)(ha:Ints a t)(he:∀e∈l,EdgeIn t.length e)(ht:TurnsIn t):∃m',xsi (d+2) [] x2r [.agg [I n,ev],a] mem0=some (I (xvd t 0 l),m'):=by
 obtain⟨m',h'⟩:=l_cost d [] h hl ha he ht l 0 NN 0 ((⟨[],1⟩:Mem).new (0,0,2) (.row [I n,ev] 0 false)) 8 rfl (by rw[xsu];omega) (by omega) (by omega)
 refine⟨m',?_⟩
 rw[xnk]
 unfold xf1 xan xj1
 simp[mem0,h.one,h.len xwo]
 exact h'
theorem call3_any{call:xsj}{f:FuncId}{l l':List AV}{m m':Mem}{r:AV}(hl:l.mapM (Go.Ix.frz m.get deep)=some l')(h:call [] f l' mem0=some (r,m'))(hr:xze r=true):xzm call f l m=some (r,m):=by
 unfold xzm
 rw[hl]
 simp only[h,hr,x1gp]
theorem x15j{m:Mem}{id:Id}{l:List Int}(h:m.get id=some (.row (l.flatMap intE) 0 false))(k:Nat):Go.Ix.frz m.get (k+2) (srI id l.length)=some (.slit (l.flatMap intE) l.length false):=by
 have hl:=xvx l
 have:=xx3 (objs:=m.get) (id:=id) (cs:=l.flatMap intE) (ver:=0) (off:=0) (n:=l.length) (z:=1) (k:=k) (f:=false) (x:=true) h (by omega) (by
  rw[x1g8,x1gg (by omega)];exact xwm xvc l)
 rw[x1g8,x1gg (by omega)]at this
 exact this
theorem x1cw(d:Nat){n:Nat}{J:Int}{ev:AV}{l:List Edge}(hev:Sl Edge.c ev l)(hc:(xv1 n l).2=0)(hS:Slim J n l)(m:Mem) :
 ∃fl tu ex,Solved J n l fl tu ex/\xsl (xsi (d+8)) x47 [.agg [I n,ev]] m =
  some (.tup [.slit ((xu4 n (xu8 n l) tu).flatMap intE) n false,.slit (fl.flatMap intE) l.length false,I (xvd (xu4 n (xu8 n l) tu) 0 l),I 0],m):=by
 have hl:l.length<=600:=by have:=hS.ll;omega
 have hj0:=hS.j0
 have hj1:=hS.j1
 obtain⟨m3,hm3⟩:∃m3,m3=(((⟨[],1⟩:Mem).new (0,0,1) (.row [I n,ev] 0 false)).new (0,10,6) (.row [I 0,nilS] 0 false)).set (0,10,6) (.row [I n,ev] 0 false):=⟨_,rfl⟩
 obtain⟨mS,fl,tu,ex,a1,a2,a3,a4⟩:=w_solve (d+1) hev hS 1
 obtain⟨m4,b1,b2,b3⟩:=xz4 (call:=xsi (d+7)) (f:=x2q) (l:=[.agg [I n,ev]]) (m:=m3) (m':=mS) (r:=.ptr (1+1,21,25) 0 0) (by simp[clean,hev.clean1]) (by rw[hm3];exact a1)
 have hn3:m3.next=1:=by rw[hm3];rfl
 have hM4:SolMem (1+1) n ev l fl (xu4 n (xu8 n l) tu) ex m4:=a2.frame λid hid=>by rw[b3,x1g7 (by omega)]
 have g4:m4.get (0,10,6)=some (.row [I n,ev] 0 false):=by rw[b3,x1g6 (by simp[hn3]),hm3];simp
 obtain⟨T,hT⟩:∃T,T=xu4 n (xu8 n l) tu:=⟨_,rfl⟩
 rw[<-hT]at hM4
 have hTl:T.length=n:=by rw[hT];exact xyj _ _ _
 have hTb:=a3.turns hj0
 rw[<-hT]at hTb
 have hTI:TurnsIn T:=λx hx=>by
  obtain⟨k,hk,rfl⟩:=x1is.mp hx
  have:=hTb k
  rw[xt5 hk]at this
  omega
 have f1:=x15j hM4.t 4
 rw[hTl]at f1
 obtain⟨mc,hcost⟩:=a_cost (d+5) (n:=n) hev hl (a:=.slit (T.flatMap intE) n false) (t:=T) (by have:=Sl.lit T false (enc:=intE);rwa[hTl]at this) (λe he=>by rw[hTl];exact(hS.ed e he).1) hTI
 have h3:xzm (xsi (d+7)) x2r [.agg [I n,ev],srI (1+1,11,15) n] m4=some (I (xvd T 0 l),m4):=by
  refine call3_any ?_ hcost rfl
  have e1:Go.Ix.frz m4.get deep (.agg [I n,ev])=some (.agg [I n,ev]):=xuh _ 4 (by simp[still,hev.still1])
  simp only[x1gw,x1hd,e1]
  rw[show Go.Ix.frz m4.get deep (srI (1+1,11,15) n)=some (.slit (T.flatMap intE) n false)from f1]
  rfl
 have f5:=x15j hM4.t 3
 rw[hTl]at f5
 have f6:=x15j hM4.f 3
 rw[hM4.fll]at f6
 refine⟨fl,tu,ex,a3,?_⟩
 rw[<-hT]
 refine x124 (m':=m4) (r:=.tup [srI (1+1,11,15) n,srI (1+1,7,11) l.length,I (xvd T 0 l),I 0]) (by simp[hev.still1]) ?_ ?_
 .rw[xmy]
  show x6x (xsi (d+7)) [] 0 (.agg [I (n:Int),ev]) ⟨[],1⟩ 0=_
  unfold x6x
  simp[hev.one,w_open _ hev,z_pnet,hc]
  rw[<-hm3,b1]
  have hs4:=hM4.s
  simp only[xsn,sNil,xtn,x1gl,xsv,hs4,g4,xt1,x1gd,xsr,x1g8,x1gr,rd_f,rd_2,h3]
 .show([srI (1+1,11,15) n,srI (1+1,7,11) l.length,I (xvd T 0 l),I 0].mapM (Go.Ix.frz m4.get 5)).map AV.tup=_
  simp only[x1gw,x1hd]
  rw[f5,f6]
  rfl
end Go.Ix
