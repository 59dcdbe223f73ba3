import Derived.Test.YtpeakdjfagbpcaaGreatWg3
set_option linter.unusedSimpArgs false
set_option linter.unusedVariables false
namespace Go.Ix
open Go.Proofs
theorem rd_5(a b c d e:AV)(cs:List AV):rd true 5 (a::b::c::d::e::cs)=some (.agg [a,b,c,d,e]):=by rw[rd_t];simp only[x1fi];rw[x1fy (by omega)];rfl
theorem x13y(ver:Nat)(a b c d e a' b' c' d' e':AV):xsz 5 ver 0 (.agg [a',b',c',d',e']) (some (.row [a,b,c,d,e] ver false))=bif[a',b',c',d',e'].all AV.one then some (.row [a',b',c',d',e'] ver false)else none:=by
 rw[xuj]
 simp[xs3]
theorem z_arc:x6e=[I 0,I 0,I 0,I 0,I 0]:=by kernel_rfl
theorem x17k(a b c d e:Int):xrr [I 0,I 0,I 0,I 0,I 0] [(0,1,I a),(1,1,I b),(2,1,I c),(3,1,I d),(4,1,I e)]=some (.agg [I a,I b,I c,I d,I e]):=by
 simp[xrr,xsd]
structure Ar where
 edge:Int
 to:Int
 sign:Int
 room:Int
 cost:Int
def Ar.c(a:Ar):List AV:=[I a.edge,I a.to,I a.sign,I a.room,I a.cost]
theorem Ar.len(a:Ar):a.c.length=5:=rfl
def e00:Edge:=⟨0,0,0,0⟩
def edgeAt(l:List Edge)(i:Nat):Edge:=l.getD i e00
theorem xtw{l:List Edge}{i:Nat}(h:i<l.length):edgeAt l i=l[i]:=by
 unfold edgeAt;rw[x1fd,x1fs h];rfl
def arcAt(l:List Edge)(fl:List Int)(v:Int)(i:Int):Ar:=
 let e:=edgeAt l i.toNat
 if e.to=v then⟨i,e.fr,-1,e.wt+at0 fl i.toNat,e.jump⟩else⟨i,e.to,1,e.wt-at0 fl i.toNat,-e.jump⟩
def adjI(l:List Edge)(v:Int):List Int:=((List.range l.length).filter λi=>decide ((edgeAt l i).fr=v)||decide ((edgeAt l i).to=v)).map Int.ofNat
theorem x13z{l:List Edge}{v i:Int}(h:i∈adjI l v):0<=i/\i<l.length/\((edgeAt l i.toNat).fr=v\/(edgeAt l i.toNat).to=v):=by
 unfold adjI at h
 simp only[x1fj,x1fr,x1fn,x1gj,x1hf]at h
 obtain⟨k,⟨h1,h2⟩,rfl⟩:=h
 exact⟨Int.natCast_nonneg k,by simp only[x1j8];omega,by simpa using h2⟩
structure FrzS (S:AV) (n:Nat) (l:List Edge) (fl tu ex:List Int):Prop where
 sh:∃ev F TU X cells b,S=.plit [I n,ev,F,TU,X,.slit cells n b]/\Sl Edge.c ev l/\Ints F fl/\Ints TU tu/\Ints X ex/\cells.length=n/\∀(v:Nat) (hv:v<cells.length),Ints cells[v] (adjI l v)
 fll:fl.length=l.length
 tul:tu.length=n
 exl:ex.length=n
 n0:n<=200
 ll:l.length<=600
 ed:∀e∈l,EdgeIn n e/\e.fr≠e.to
 flb:∀k,-1000<=at0 fl k/\at0 fl k<=1000
 tub:∀k,-1000000<=at0 tu k/\at0 tu k<=1000000
theorem arcAt_in{S:AV}{n:Nat}{l:List Edge}{fl tu ex:List Int}(h:FrzS S n l fl tu ex){v i:Int}(hi:i∈adjI l v):0<=(arcAt l fl v i).to/\(arcAt l fl v i).to<n/\(arcAt l fl v i).to≠v/\-1000<=(arcAt l fl v i).cost/\(arcAt l fl v i).cost<=1000:=by
 obtain⟨i0,i1,i2⟩:=x13z hi
 have hl:i.toNat<l.length:=by omega
 rw[xtw hl]at i2
 obtain⟨he,hne⟩:=h.ed _ (x1fg hl)
 obtain⟨f0,f1,t0,t1,j0,j1,w0,w1⟩:=he
 unfold arcAt
 rw[xtw hl]
 simp only
 split
 .exact⟨f0,f1,by simp only;omega,j0,j1⟩
 .exact⟨t0,t1,by assumption,by simp only;omega,by simp only;omega⟩
theorem l_arcs(call:xr5)(hs:FHs)(u2:Nat)(id i1 i2:Id)(h:List AV->Mem->Option Mem){S:AV}{n:Nat}{l:List Edge}{fl tu ex:List Int}(hS:FrzS S n l fl tu ex){v:Int}{A:AV}(hA:Ints A (adjI l v)){τ:Type}(Inv:τ->Mem->Prop)(step:τ->Ar->τ)(hst:∀t m m',Inv t m->(∀id:Id,id.1<u2->m'.get id=m.get id)->m.next<=m'.next->Inv t m')(hrd:∀t m,Inv t m->m.get i1=some (.row [S] 0 false)/\m.get i2=some (.row [I v] 0 false))(hi1:i1.1<u2)(hi2:i2.1<u2)(hstep:∀t m i,i∈adjI l v->0<(arcAt l fl v i).room->Inv t m->u2<m.next->∃m',h [.agg (arcAt l fl v i).c] m=some m'/\Inv (step t (arcAt l fl v i)) m'/\m.next<=m'.next)(hid:id.2.2=0:=by rfl) :
 ∀(suf:List Int) (k j:Nat) (t:τ) (m:Mem) (fc:Nat),(adjI l v).drop k=suf->suf.length<j->Inv t m->u2<m.next ->
 ∃m',x1c call ((id,h)::hs) u2 j (.yld id) (.ptr i1 0 0) (.ptr i2 0 0) A (I (adjI l v).length) (I k) m fc=some (.tup [],m')/\Inv (suf.foldl (λt i=>if 0<(arcAt l fl v i).room then step t (arcAt l fl v i)else t) t) m':=by
 have hlen:(adjI l v).length<=600:=by
  unfold adjI
  rw[x1he]
  have:=x1ij (λi=>decide ((edgeAt l i).fr=v)||decide ((edgeAt l i).to=v)) (List.range l.length)
  rw[x1iy]at this
  have:=hS.ll
  omega
 intro suf
 induction suf with
 |nil=>
  intro k j t m fc hd hj hI hu
  obtain⟨j,rfl⟩:∃i,j=i+1:=⟨j-1,by simp at hj;omega⟩
  have hk:¬((k:Int)<((adjI l v).length:Int)):=by have:=x1g2.mp hd;omega
  refine⟨m,?_,hI⟩
  simp only[x1c]
  unfold xd2
  simp[hk]
 |cons i r ih=>
  intro k j t m fc hd hj hI hu
  obtain⟨j,rfl⟩:∃i,j=i+1:=⟨j-1,by simp at hj;omega⟩
  obtain⟨hk,hke,hd⟩:=xtf hd
  have hk':(k:Int)<((adjI l v).length:Int):=by omega
  have hmem:i∈adjI l v:=hke▸x1fg hk
  obtain⟨i0,i1',i2'⟩:=x13z hmem
  have hil:i.toNat<l.length:=by omega
  obtain⟨ev,F,TU,X,cells,b,hSe,hev,hF,hTU,hX,hcl,hcs⟩:=hS.sh
  obtain⟨hee,hne⟩:=hS.ed _ (x1fg hil)
  obtain⟨e,he⟩:∃e,e=l[i.toNat]:=⟨_,rfl⟩
  rw[<-he]at hee hne
  obtain⟨f0,f1,t0,t1,j0,j1,w0,w1⟩:=hee
  have hfb:=hS.flb i.toNat
  have g1:=(hrd t m hI).1
  have g2:=(hrd t m hI).2
  have ixA:=hA.ix xrm hk
  have eA:at0 (adjI l v) k=i:=by rw[xrn hk,hke]
  have ixe:sIx 4 ev (I i)=some (.plit ((l.drop i.toNat).flatMap Edge.c)):=hev.ixI Edge.len i0 (by omega)
  have lde:=λm=>xsy (m:=m) Edge.len (by omega) hil
  rw[<-he]at lde
  have ixf:=hF.ixI xrm i0 (show i<fl.length by rw[hS.fll];omega)
  have hfl:i.toNat<fl.length:=by rw[hS.fll];exact hil
  obtain⟨M1,hM1⟩:∃M1,M1=(m.new (u2,fc+1+12,6) (.row [I 0,I 0,I 0,I 0] 0 false)).set (u2,fc+1+12,6) (.row e.c 0 false):=⟨_,rfl⟩
  have q1:∀id:Id,id≠(u2,fc+1+12,6)->M1.get id=m.get id:=λid hid=>by rw[hM1,Mem.get_set,x1ey hid,Mem.get_new,x1ey hid]
  have g61:M1.get (u2,fc+1+12,6)=some (.row [I e.fr,I e.to,I e.jump,I e.wt] 0 false):=by rw[hM1];simp[Edge.c]
  have g11:M1.get i1=some (.row [S] 0 false):=by rw[q1 _ (by rintro rfl;simp at hi1)];exact g1
  have g21:M1.get i2=some (.row [I v] 0 false):=by rw[q1 _ (by rintro rfl;simp at hi2)];exact g2
  obtain⟨a1,ha1⟩:∃a1:Ar,a1=⟨i,e.to,1,e.wt-at0 fl i.toNat,-e.jump⟩:=⟨_,rfl⟩
  obtain⟨M2,hM2⟩:∃M2,M2=(M1.new (u2,fc+1+31,7) (.row [I 0,I 0,I 0,I 0,I 0] 0 false)).set (u2,fc+1+31,7) (.row a1.c 0 false):=⟨_,rfl⟩
  have q2:∀id:Id,id≠(u2,fc+1+31,7)->M2.get id=M1.get id:=λid hid=>by rw[hM2,Mem.get_set,x1ey hid,Mem.get_new,x1ey hid]
  have g62:M2.get (u2,fc+1+12,6)=some (.row [I e.fr,I e.to,I e.jump,I e.wt] 0 false):=by rw[q2 _ (by simp)];exact g61
  have g72:M2.get (u2,fc+1+31,7)=some (.row [I a1.edge,I a1.to,I a1.sign,I a1.room,I a1.cost] 0 false):=by rw[hM2];simp[Ar.c]
  have g12:M2.get i1=some (.row [S] 0 false):=by rw[q2 _ (by rintro rfl;simp at hi1)];exact g11
  have g22:M2.get i2=some (.row [I v] 0 false):=by rw[q2 _ (by rintro rfl;simp at hi2)];exact g21
  have start:∀K,x7q call ((id,h)::hs) u2 (x1c call ((id,h)::hs) u2 j) (.yld id) (.ptr i1 0 0) (.ptr i2 0 0) (I i) (.ptr (u2,fc+1+12,6) 0 0) (.ptr (u2,fc+1+31,7) 0 0) A (I (adjI l v).length) (I k) M2 (fc+1+33)=K ->
   x1c call ((id,h)::hs) u2 (j+1) (.yld id) (.ptr i1 0 0) (.ptr i2 0 0) A (I (adjI l v).length) (I k) m fc=K:=by
   intro K hK
   rw[<-hK]
   simp only[x1c]
   unfold xd2 xk8
   simp only[xry,xr9,hk',x1ff,xrw,ixA,xs2 hk,eA,xrh,g1,xri,x1f4,xre,x1f0,rd_f,hSe,sNil,xvn,x1fk,xvo,ixe,lde,xu9,xxw,xs9,Mem.get_new,x1fh]
   rw[show xsz 4 0 0 (.agg e.c) (some (.row [I 0,I 0,I 0,I 0] 0 false))=some (.row e.c 0 false)from by rw[show e.c=[I e.fr,I e.to,I e.jump,I e.wt]from rfl,x138];rfl]
   simp only[xr9]
   rw[<-hM1]
   simp(disch:=omega)only[xs5,xr9,x1f9,xrh,g61,g11,xri,x1f4,xre,x1f0,x1fk,rd_f,hSe,sNil,xvn,xvo,ixf,xs2 hfl,xup,xrc,sNeg_I,z_arc,x17k,xu9,xs9,Mem.get_new,x1fh,x13y,x1ga,x1gq,one_I,x1gr,Int.zero_sub]
   rw[show[I i,I e.to,I 1,I (e.wt-at0 fl i.toNat),I (-e.jump)]=a1.c from by rw[ha1];rfl,<-hM2]
   simp[xr6,disj,tR,show ¬(i1=(u2,fc+1+31,7))from by rintro rfl;simp at hi1]
  obtain⟨a,ha⟩:∃a:Ar,a=arcAt l fl v i:=⟨_,rfl⟩
  have hae:a=if e.to=v then⟨i,e.fr,-1,e.wt+at0 fl i.toNat,e.jump⟩else a1:=by
   rw[ha,ha1]
   unfold arcAt
   rw[xtw hil,<-he]
  rw[x1h2,<-ha]
  have hI2:Inv t M2:=hst t M1 M2 (hst t m M1 hI (λid hid=>q1 id (by rintro rfl;simp at hid)) (by rw[hM1];exact x1f3 _)) (λid hid=>q2 id (by rintro rfl;simp at hid)) (by rw[hM2];exact x1f3 _)
  have hn2:M2.next=m.next:=by rw[hM2,hM1];rfl
  have main:∀(M3:Mem) (fc3:Nat),M3.get (u2,fc+1+31,7)=some (.row a.c 0 false)->Inv t M3->u2<M3.next ->
   ∃m',x7p call ((id,h)::hs) u2 (x1c call ((id,h)::hs) u2 j) (.yld id) (.ptr i1 0 0) (.ptr i2 0 0) (.ptr (u2,fc+1+31,7) 0 0) A (I (adjI l v).length) (I k) M3 fc3=some (.tup [],m')/\Inv (r.foldl (λt i=>if 0<(arcAt l fl v i).room then step t (arcAt l fl v i)else t) (if 0<a.room then step t a else t)) m':=by
   intro M3 fc3 g7 hI3 hu3
   unfold x7p
   have g7':M3.get (u2,fc+1+31,7)=some (.row [I a.edge,I a.to,I a.sign,I a.room,I a.cost] 0 false):=g7
   by_cases hr:0<a.room
   .obtain⟨m4,h4,I4,n4⟩:=hstep t M3 i hmem (ha▸hr) hI3 hu3
    rw[<-ha]at h4 I4
    obtain⟨m',h5,h6⟩:=ih (k+1) j (step t a) m4 (fc3+9+2) hd (by simp at hj;omega) I4 (by omega)
    refine⟨m',?_,by rw[x1ez hr];exact h6⟩
    have hinv:xsx call ((id,h)::hs) 2 (.yld id) [.agg [I a.edge,I a.to,I a.sign,I a.room,I a.cost]] M3=some (B true,m4):=by
     have hlv:∀objs,live objs id=true:=λobjs=>by unfold live;rw[hid];rfl
     simp only[xsx,xvk,x1fh,hlv]
     rw[show[AV.agg [I a.edge,I a.to,I a.sign,I a.room,I a.cost]]=[.agg a.c]from rfl,h4]
     rfl
    simp(disch:=omega) [g7',hr,rd_5,hinv,xd1]
    exact h5
   .obtain⟨m',h5,h6⟩:=ih (k+1) j t M3 (fc3+9+2) hd (by simp at hj;omega) hI3 hu3
    refine⟨m',?_,by rw[x1ey hr];exact h6⟩
    simp(disch:=omega) [g7',hr,xd1]
    exact h5
  by_cases ht:e.to=v
  .rw[x1ez ht]at hae
   obtain⟨M3,hM3⟩:∃M3,M3=M2.set (u2,fc+1+31,7) (.row a.c 0 false):=⟨_,rfl⟩
   have q3:∀id:Id,id≠(u2,fc+1+31,7)->M3.get id=M2.get id:=λid hid=>by rw[hM3,Mem.get_set,x1ey hid]
   obtain⟨m',h5,h6⟩:=main M3 (fc+1+33+21) (by rw[hM3];simp) (hst t M2 M3 hI2 (λid hid=>q3 id (by rintro rfl;simp at hid)) (by rw[hM3];exact x1f3 _)) (by rw[hM3];simp only[Mem.next_set];omega)
   refine⟨m',start _ ?_,h6⟩
   rw[<-h5]
   unfold x7q
   simp(disch:=omega)only[xs5,xr9,x1f9,xrh,g62,g22,g12,xri,x1f4,xre,x1f0,x1fk,rd_f,sEq_I,ht,x1ff,xrw,hSe,sNil,xvn,xvo,ixf,xs2 hfl,xte,xrc,z_arc,x17k,xs9,g72,x13y,x1ga,x1gq,one_I,x1gr]
   rw[show[I i,I e.fr,I (-1),I (e.wt+at0 fl i.toNat),I e.jump]=a.c from by rw[hae];rfl,<-hM3]
  .rw[x1ey ht]at hae
   obtain⟨m',h5,h6⟩:=main M2 (fc+1+33+4) (by rw[hae];exact g72) hI2 (by omega)
   refine⟨m',start _ ?_,h6⟩
   rw[<-h5]
   unfold x7q
   simp(disch:=omega)only[xs5,xr9,x1f9,xrh,g62,g22,g12,xri,x1f4,xre,x1f0,x1fk,rd_f,sEq_I,ht,x1g1,xtc]
theorem xzx:xl=[nilS]:=by kernel_rfl
theorem NN_3:∃j,NN=j+3:=⟨1048573,rfl⟩
end Go.Ix
set_option maxRecDepth 100000
namespace Go.Ix
open Go.Proofs
def isU(n:Nat):Option AV->Bool
 |some (.sc (.int .u64 k))=>decide (k=(n:Int))
 |_=>false
def isI(n:Nat):Option AV->Bool
 |some (.sc (.int .i64 k))=>decide (k=(n:Int))
 |_=>false
def isF:Option AV->Bool
 |some (.sc (.bool b))=>!b
 |_=>false
def is2(a b:Nat):Option (AV×Mem)->Bool
 |some (.tup [.sc (.int .u64 k),.sc (.int .u64 j)],_)=>decide (k=(a:Int))&&decide (j=(b:Int))
 |_=>false
theorem isU_eq{n:Nat}{r:Option AV}(h:isU n r=true):r=some (.sc (.int .u64 n)):=by
 unfold isU at h
 split at h
 .rw[x1gx h]
 .cases h
theorem isI_eq{n:Nat}{r:Option AV}(h:isI n r=true):r=some (I n):=by
 unfold isI at h
 split at h
 .rw[x1gx h]
 .cases h
theorem isF_eq{r:Option AV}(h:isF r=true):r=some (B false):=by
 unfold isF at h
 split at h
 .rename_i b
  cases b
  .rfl
  .cases h
 .cases h
theorem is2_eq{a b:Nat}{r:Option (AV×Mem)}(h:is2 a b r=true):∃m,r=some (.tup [.sc (.int .u64 a),.sc (.int .u64 b)],m):=by
 unfold is2 at h
 split at h
 .rename_i k j m
  rw[x1fb]at h
  exact⟨m,by rw[x1gx h.1,x1gx h.2]⟩
 .cases h
theorem tab{f:Nat->Bool}{N:Nat}(h:(List.range N).all f=true){n:Nat}(hn:n<N):f n=true:=x1fa.mp h n (x1fn.mpr hn)
abbrev Uv(n:Nat):AV:=.sc (.int .u64 n)
theorem t_cvt:(List.range 201).all (λn=>isU n (sCvt Tryz.prog xs6 xd (I n)))=true:=by kernel_rfl
theorem t_cvt2:(List.range 201).all (λn=>isI n (sCvt Tryz.prog xd xs6 (Uv n)))=true:=by kernel_rfl
theorem t_mul(d:Nat):(List.range 201).all (λn=>is2 0 n (xr4 (d+2) [] xk0 [Uv 1,Uv n] mem0))=true:=by kernel_rfl
theorem t_gt(x y:Operand):(List.range 201).all (λn=>isF (sBin Tryz.prog .gtr xd x y (Uv n) (AV.sc (.int .u64 9223372036854775807))))=true:=by kernel_rfl
theorem t_gt0(x y:Operand):sBin Tryz.prog .gtr xd x y (Uv 0) (AV.sc (.int .u64 0))=some (B false):=by kernel_rfl
theorem w_cvt{n:Nat}(h:n<=200):sCvt Tryz.prog xs6 xd (I n)=some (Uv n):=isU_eq (tab t_cvt (by omega))
theorem w_cvt2{n:Nat}(h:n<=200):sCvt Tryz.prog xd xs6 (Uv n)=some (I n):=isI_eq (tab t_cvt2 (by omega))
theorem w_gt{n:Nat}(h:n<=200)(x y:Operand):sBin Tryz.prog .gtr xd x y (Uv n) (AV.sc (.int .u64 9223372036854775807))=some (B false):=isF_eq (tab (t_gt x y) (by omega))
theorem w_mul(d:Nat){n:Nat}(h:n<=200)(m:Mem):xr8 (xr4 (d+2)) xk0 [Uv 1,Uv n] m=some (.tup [Uv 0,Uv n],m):=by
 obtain⟨m',h'⟩:=is2_eq (tab (t_mul d) (show n<201 by omega))
 exact Ans.call0_tup ⟨m',h'⟩ rfl rfl
theorem cpy_own{R:Type}{id:Id}{m:Mem}{l k:List Int}{off n2:Nat}{f:Bool}{src:AV}{K:AV->Mem->Option R}(hg:m.get id=some (.row (l.flatMap intE) 0 false))(hs:elems m.get 1 src=some (k.flatMap intE,k.length))(hn:off+n2<=l.length) :
 sCpy 1 (.sref id 0 off n2 1 f) src m K=K (I (Nat.min k.length n2)) (m.set id (.row ((l.take off++(k.take (Nat.min k.length n2)++l.drop (off+Nat.min k.length n2))).flatMap intE) 0 false)):=by
 have hl:=xul l
 simp only[sCpy,hs,hg]
 have hc:True/\True/\off+n2*1<=(l.flatMap intE).length:=⟨trivial,trivial,by omega⟩
 rw[x1ez hc]
 congr 3
 have hk:k.length=(k.flatMap intE).length:=(xul k).symm
 simp only[xs3,xuk,x1h0,List.map_take,x1if,x1gz,x1go,x1he]
 congr 3
 have:Nat.min (Nat.min k.length n2) k.length=Nat.min k.length n2:=by
  simp only[Nat.min_def];split<;>split<;>omega
 exact congrArg (off+·) this
theorem elems_own{m:Mem}{id:Id}{l:List Int}{off n:Nat}{f:Bool}(hg:m.get id=some (.row (l.flatMap intE) 0 false))(h:off+n<=l.length):elems m.get 1 (.sref id 0 off n 1 f)=some (((l.drop off).take n).flatMap intE,((l.drop off).take n).length):=by
 have hl:=xul l
 simp only[elems,hg]
 have hc:True/\True/\off+n*1<=(l.flatMap intE).length:=⟨trivial,trivial,by omega⟩
 rw[x1ez hc]
 simp only[xuk,List.map_take,x1if,x1gz,x1go,x1k7]
 congr 2
 omega
theorem l_Repeat(d:Nat)(hs:FHs)(u:Nat)(x:Int){n:Nat}(hn:n<=200)(id:Id):∀(s k j:Nat) (m:Mem) (fc:Nat),k+s=n->1<=k->s<j->m.get id=some (.row ((List.replicate k x++List.replicate s 0).flatMap intE) 0 false) ->
 ∃m',x3y (xr4 d) hs u j (.sref id 0 0 n 1 true) (I k) m fc=some (.sref id 0 0 n 1 true,m')/\m'.get id=some (.row ((List.replicate n x).flatMap intE) 0 false)/\m'.next=m.next:=by
 intro s
 induction s using Nat.strongRecOn with
 |_ s ih=>
  intro k j m fc hk h1 hj hg
  obtain⟨j,rfl⟩:∃i,j=i+1:=⟨j-1,by omega⟩
  have hlen:sLen Tryz.prog x4 (.sref id 0 0 n 1 true)=some (I n):=rfl
  simp only[x3y]
  unfold xcp
  by_cases h0:s=0
  .subst h0
   have hkn:k=n:=by omega
   subst hkn
   refine⟨m,?_,by simpa using hg,rfl⟩
   simp[hlen,xco]
  .have hlt:(k:Int)<(n:Int):=by omega
   have e1:=x16t (id:=id) (ver:=0) (off:=0) (n:=n) (full:=true) (lo:=(k:Int)) (by omega) (by omega)
   have e2:=slice_hi (id:=id) (ver:=0) (off:=0) (n:=n) (full:=true) (hi:=(k:Int)) (by omega) (by omega)
   simp only[x1f1,x1f9]at e1 e2
   have hel:=elems_own (m:=m) (id:=id) (off:=0) (n:=k) (f:=true) hg (by simp)
   rw[x1f0,x1ic (by simp),x1f8 (by simp)]at hel
   have hc:=λ(K:AV->Mem->Option (AV×Mem))=>cpy_own (K:=K) (off:=k) (n2:=n-k) (f:=true) hg hel (by simp;omega)
   have hmin:Nat.min (List.replicate k x).length (n-k)=min k s:=by simp only[x1ke];show min k (n-k)=_;rw[show n-k=s by omega]
   rw[hmin]at hc
   have hrow:(List.replicate k x++List.replicate s 0).take k++((List.replicate k x).take (min k s)++(List.replicate k x++List.replicate s 0).drop (k+min k s))=List.replicate (k+min k s) x++List.replicate (s-min k s) 0:=by
    rw[x1ic (by simp),x1f8 (by simp),List.take_replicate,x1jd (show min k s<=k from Nat.min_le_left _ _)]
    rw[x1i0,x1ik (by simp),x1gp,x1ke,Nat.add_sub_cancel_left,List.drop_replicate,<-x1gy,x1kd]
   rw[hrow]at hc
   obtain⟨m',h5,h6,h7⟩:=ih (s-min k s) (by omega) (k+min k s) j (m.set id (.row ((List.replicate (k+min k s) x++List.replicate (s-min k s) 0).flatMap intE) 0 false)) (fc+14) (by omega) (by omega) (by omega) (by simp)
   refine⟨m',?_,h6,by rw[h7];rfl⟩
   simp(disch:=omega)only[hlen,xr9,xry,hlt,x1ff,xrw,e1,e2,hc,xte,xrc]
   rw[<-h5]
   congr 2
theorem x17l(d:Nat)(u:Nat)(x:Int){n:Nat}(hn:n<=200):∃s m',xr4 (d+3) [] xu [.slit [I x] 1 true,I n] ⟨[],u⟩=some (.sref (u,s,30) 0 0 n 1 true,m')/\m'.get (u,s,30)=some (.row ((List.replicate n x).flatMap intE) 0 false)/\m'.next=u+1:=by
 have hc1:=w_cvt (n:=1) (by omega)
 have hcn:=w_cvt hn
 have hcn2:=w_cvt2 hn
 have hg:=w_gt hn
 have hm:=w_mul d hn
 have hmk:∀(id:Id) (m:Mem) (k:AV->Mem->Option (AV×Mem)),xsh xse 1 8 (I n) (I n) id m k=k (srI id n) (m.new id (.row ((List.replicate n (0:Int)).flatMap intE) 0 false)):=by
  intro id m k
  rw[xso,xxy (by omega) (by omega)]
  simp
 have hneg:¬((n:Int)<0):=by omega
 have hlen1:sLen Tryz.prog x4 (.slit [I x] 1 true)=some (I ((1:Nat):Int)):=rfl
 have hlenN:∀id,sLen Tryz.prog x4 (.sref id 0 0 n 1 true)=some (I n):=λ_=>rfl
 obtain⟨M,hM⟩:∃M,M=(⟨[],u+1⟩:Mem).new (u,1+2+11+6+2,30) (.row ((List.replicate n (0:Int)).flatMap intE) 0 false):=⟨_,rfl⟩
 have hgM:M.get (u,1+2+11+6+2,30)=some (.row ((List.replicate n (0:Int)).flatMap intE) 0 false):=by rw[hM];simp
 have hel:elems M.get 1 (.slit [I x] 1 true)=some (([x]:List Int).flatMap intE,[x].length):=rfl
 have hcp:=λ(K:AV->Mem->Option (AV×Mem))=>cpy_own (K:=K) (off:=0) (n2:=n) (f:=true) hgM hel (by simp)
 have start:∀K,sCpy 1 (srI (u,1+2+11+6+2,30) n) (.slit [I x] 1 true) M (λt33 m_3=>x3y (xr4 (d+2)) [] u NN (srI (u,1+2+11+6+2,30) n) t33 m_3 (1+2+11+6+8))=K ->
  xr4 (d+3) [] xu [.slit [I x] 1 true,I n] ⟨[],u⟩=K:=by
  intro K hK
  rw[<-hK,xnl]
  unfold xfg xcq xk1 xjz
  simp only[xry,xr9,hneg,x1g1,xtc,hlen1,hc1,hcn,hm,sExt_tup,x1ir,x1is]
  unfold xjy
  simp only[t_gt0,xzk,xzl,xr9,sW_f,x1gh,xre,hg,x134,xxu,xtc]
  unfold xjx
  simp only[hcn2,xr9,hmk]
  rw[<-hM]
 by_cases h0:n=0
 .subst h0
  refine⟨22,M.set (u,22,30) (.row [] 0 false),start _ ?_,by simp,by rw[hM];rfl⟩
  rw[hcp]
  obtain⟨j,hj⟩:=NN_3
  rw[hj]
  simp only[x3y]
  unfold xcp
  have e:Nat.min [x].length 0=0:=rfl
  simp[hlenN,e,xco]
 .have hmin:Nat.min [x].length n=1:=by simp only[x1fi,x1hd];show min 1 n=1;omega
  rw[hmin]at hcp
  have hrow:(List.replicate n (0:Int)).take 0++([x].take 1++(List.replicate n 0).drop (0+1))=List.replicate 1 x++List.replicate (n-1) 0:=by simp[List.drop_replicate]
  rw[hrow]at hcp
  obtain⟨m',h1,h2,h3⟩:=l_Repeat (d+2) [] u x hn (u,22,30) (n-1) 1 NN (M.set (u,22,30) (.row ((List.replicate 1 x++List.replicate (n-1) 0).flatMap intE) 0 false)) 28 (by omega) (by omega) (by rw[xrg];omega) (by simp)
  refine⟨22,m',start _ ?_,h2,by rw[h3,hM];rfl⟩
  rw[hcp]
  exact h1
theorem call4{call:xr5}{f:FuncId}{l l':List AV}{m m':Mem}{r:AV}{ids:List Id}(hl:l.mapM (frz m.get deep)=some l')(h:call [] f l' ⟨[],m.next⟩=some (r,m'))(hr:xyd r=true)(hids:xrk m'.get deep r=ids)(hall:∀i∈ids,m.next<=i.1/\∃cs v,m'.get i=some (.row cs v false)/\cs.all isSc=true):∃M:Mem,xxr call f l m=some (r,M)/\M.next=m'.next/\∀i,M.get i=if i∈ids then m'.get i else m.get i:=by
 refine⟨⟨xyj m'.hp (xrk m'.get deep r) m.hp,m'.next⟩,?_,rfl,?_⟩
 .unfold xxr
  rw[hl]
  simp only[h]
  rw[x1ez]
  rw[hr,x1gu,hids,x1fa]
  intro i hi
  obtain⟨h1,cs,v,h2,h3⟩:=hall i hi
  rw[h2]
  simp[h1,h3]
 .intro i
  rw[hids]
  exact x12w m'.hp ids m.hp (λi hi=>by obtain⟨_,cs,v,h2,_⟩:=hall i hi;exact⟨_,h2⟩) i
theorem x17m{objs:Id->Option Ob}{k:Nat}:∀{l:List AV},l.all isSc=true->l.flatMap (xrk objs k)=[]
 |[],_=>rfl
 |a::l,h=>by
  rw[x1ga,x1fb]at h
  rw[x1fo,x17m h.2,x1g5]
  cases a with
  |sc v=>cases k<;>rfl
  |_=>simp[isSc]at h
theorem xy2{objs:Id->Option Ob}{k:Nat}{id:Id}{ver off n z:Nat}{f:Bool}{cs:List AV}{v:Nat}(h:objs id=some (.row cs v false))(hs:cs.all isSc=true):xrk objs (k+1) (.sref id ver off n z f)=[id]:=by
 simp only[xrk,h]
 rw[x17m]
 rw[x1fa]at hs ⊢
 exact λx hx=>hs x (List.mem_of_mem_drop (x1ih hx))
abbrev farM:Int:=1152921504606846976
structure Tour where
 len:List Int
 last:List Ar
 bef:List Int
def a00:Ar:=⟨0,0,0,0,0⟩
def xv9(tu:List Int)(v:Int)(t:Tour)(a:Ar):Tour:=
 let x:=at0 t.len v.toNat+a.cost+at0 tu v.toNat-at0 tu a.to.toNat
 if x<at0 t.len a.to.toNat then⟨t.len.set a.to.toNat x,t.last.set a.to.toNat a,t.bef.set a.to.toNat v⟩else t
def xyt(l:List Edge)(fl tu:List Int)(v:Int)(t:Tour):Tour:=(adjI l v).foldl (λt i=>if 0<(arcAt l fl v i).room then xv9 tu v t (arcAt l fl v i)else t) t
def xxb(len:List Int):Int->Int->List Int->List Bool->Int
 |b,k,x::xs,d::ds=>xxb len (if d=false/\x<farM/\(b<0\/x<at0 len b.toNat)then k else b) (k+1) xs ds
 |b,_,_,_=>b
def xxc(l:List Edge)(fl tu:List Int):Nat->Tour->List Bool->Tour
 |0,t,_=>t
 |f+1,t,ds=>let p:=xxb t.len (-1) 0 t.len ds
  if p<0 then t else xxc l fl tu f (xyt l fl tu p t) (ds.set p.toNat true)
theorem x17n{α:Type}{enc:α->List AV}{z:Nat}(hz:∀x,(enc x).length=z):∀(l:List α) (k:Nat) (x:α),k<l.length->(l.set k x).flatMap enc=(l.flatMap enc).take (k*z)++(enc x++(l.flatMap enc).drop (k*z+z))
 |[],k,x,h=>by simp at h
 |y::l,0,x,h=>by
  simp only[x1ht,x1fo,x1h7,x1gi,x1gp,x1f9]
  rw[x1i0,x1ik (by rw[hz];omega),hz]
  simp
 |y::l,k+1,x,h=>by
  simp only[x1i4,x1fo]
  have hy:=hz y
  rw[x17n hz l k x (by simpa using h),x1fx,List.take_append,x1i0,x1f8 (show(enc y).length<=k*z+z by rw[hy];omega),
   x1ik (show(enc y).length<=k*z+z+z by rw[hy];omega),hy,show k*z+z-z=k*z by omega,show k*z+z+z-z=k*z+z by omega]
  simp
theorem x17o{α:Type}{enc:α->List AV}{z:Nat}(hz:∀x,(enc x).length=z){l:List α}{k:Nat}{x:α}(hk:k<l.length)(h1:(enc x).all AV.one=true) :
 xsz z 0 (k*z) (.agg (enc x)) (some (.row (l.flatMap enc) 0 false))=some (.row ((l.set k x).flatMap enc) 0 false):=by
 have hl:=xu2 hz l
 have h2:(k+1)*z<=l.length*z:=x1gm z (by omega)
 rw[x1fx]at h2
 have h:(0:Nat)=0/\(AV.agg (enc x)).cells.length=z/\k*z+z<=(l.flatMap enc).length/\((AV.agg (enc x)).cells.all AV.one)=true:=⟨rfl,hz x,by omega,h1⟩
 rw[xuj,x1fy h,cond_true,x17n hz l k x hk]
 simp only[xs3,x135,hz]
theorem Ar.one(a:Ar):a.c.all AV.one=true:=rfl
theorem Ar.sc(a:Ar):a.c.all isSc=true:=rfl
def LenB(b:Int)(len:List Int):Prop:=∀v,at0 len v=farM\/(-b<=at0 len v/\at0 len v<=b)
structure WInv (u sL:Nat) (S:AV) (n:Nat) (t:Tour) (m:Mem):Prop where
 s:m.get (u,0,2)=some (.row [S] 0 false)
 t4:m.get (u,1,4)=some (.row [nilS,nilS,nilS] 0 false)
 t5:m.get (u,25,5)=some (.row [.sref (u+1,sL,30) 0 0 n 1 true,.sref (u,16,26) 0 0 n 5 true,.sref (u,23,33) 0 0 n 1 true] 0 false)
 len:m.get (u+1,sL,30)=some (.row (t.len.flatMap intE) 0 false)
 last:m.get (u,16,26)=some (.row (t.last.flatMap Ar.c) 0 false)
 bef:m.get (u,23,33)=some (.row (t.bef.flatMap intE) 0 false)
 ll:t.len.length=n
 al:t.last.length=n
 bl:t.bef.length=n
 nx:u+1<m.next
theorem WInv.frame{u sL:Nat}{S:AV}{n:Nat}{t:Tour}{m m':Mem}(h:WInv u sL S n t m)(hm:∀id:Id,id.1<=u+1->id.2.2≠7->id.2.2≠41->m'.get id=m.get id)(hn:m.next<=m'.next):WInv u sL S n t m':=by
 obtain⟨a,b,c,d,e,f,g,i,j,k⟩:=h
 refine⟨?_,?_,?_,?_,?_,?_,g,i,j,by omega⟩<;>rw[hm _ (by simp) (by simp) (by simp)]<;>assumption
theorem ways_step(d:Nat)(hs:FHs){u sL fA:Nat}{S:AV}{n:Nat}{l:List Edge}{fl tu ex:List Int}(hS:FrzS S n l fl tu ex){t:Tour}{v b:Int}{a:Ar}{m:Mem}(hI:WInv u sL S n t m)(hv:m.get (u,fA,7)=some (.row [I v] 0 false))(v0:0<=v)(v1:v<n)(ha0:0<=a.to)(ha1:a.to<n)(hav:a.to≠v)(hc0:-1000<=a.cost)(hc1:a.cost<=1000)(hb:0<=b)(hb2:b<=1000000000000)(hlv:-b<=at0 t.len v.toNat/\at0 t.len v.toNat<=b)(hL:LenB (b+2001000) t.len) :
 ∃m',x3v (xr4 d) hs m.next (.ptr (u,0,2) 0 0) (.ptr (u,25,5) 0 0) (.ptr (u,fA,7) 0 0) (.agg a.c) ⟨m.hp,m.next+1⟩ 0=some m'/\WInv u sL S n (xv9 tu v t a) m'/\m.next<=m'.next /\
  (∀id:Id,id.1<=m.next->id.2.2≠30->id.2.2≠26->id.2.2≠33->id.2.2≠10->m'.get id=m.get id)/\LenB (b+2001000) (xv9 tu v t a).len/\at0 (xv9 tu v t a).len v.toNat=at0 t.len v.toNat:=by
 obtain⟨h1,h2,h3,h4,h5,h6,hll,hal,hbl,hnx⟩:=hI
 obtain⟨ev,F,TU,X,cells,bb,hSe,hev,hF,hTU,hX,hcl,hcs⟩:=hS.sh
 have lv:v.toNat<t.len.length:=by omega
 have la:a.to.toNat<t.len.length:=by omega
 have lv2:v.toNat<tu.length:=by rw[hS.tul];omega
 have la2:a.to.toNat<tu.length:=by rw[hS.tul];omega
 have tb1:=hS.tub v.toNat
 have tb2:=hS.tub a.to.toNat
 have iTv:=hTU.ixI xrm v0 (show v<tu.length by rw[hS.tul];exact v1)
 have iTa:=hTU.ixI xrm ha0 (show a.to<tu.length by rw[hS.tul];exact ha1)
 have iLv:sIx 1 (.sref (u+1,sL,30) 0 0 n 1 true) (I v)=some (.ptr (u+1,sL,30) 0 v.toNat):=xs7 v0 v1
 have iLa:sIx 1 (.sref (u+1,sL,30) 0 0 n 1 true) (I a.to)=some (.ptr (u+1,sL,30) 0 a.to.toNat):=xs7 ha0 ha1
 have iBa:sIx 1 (.sref (u,23,33) 0 0 n 1 true) (I a.to)=some (.ptr (u,23,33) 0 a.to.toNat):=xs7 ha0 ha1
 have iAa:sIx 5 (.sref (u,16,26) 0 0 n 5 true) (I a.to)=some (.ptr (u,16,26) 0 (a.to.toNat*5)):=by simp[sIx,asI,ha0,ha1]
 obtain⟨M,hM⟩:∃M,M=((⟨m.hp,m.next+1⟩:Mem).new (m.next,0,10) (.row [I 0,I 0,I 0,I 0,I 0] 0 false)).set (m.next,0,10) (.row a.c 0 false):=⟨_,rfl⟩
 have q:∀id:Id,id≠(m.next,0,10)->M.get id=m.get id:=λid hid=>by rw[hM,Mem.get_set,x1ey hid,Mem.get_new,x1ey hid];rfl
 have g10:M.get (m.next,0,10)=some (.row [I a.edge,I a.to,I a.sign,I a.room,I a.cost] 0 false):=by rw[hM];simp[Ar.c]
 have hMn:M.next=m.next+1:=by rw[hM];rfl
 have ne:∀(x s t':Nat),x<=u+1->(x,s,t')≠(m.next,0,10):=λx s t' hx he=>by simp only[x1f2]at he;omega
 have G1:M.get (u,0,2)=some (.row [S] 0 false):=by rw[q _ (ne _ _ _ (by omega))];exact h1
 have G2:M.get (u,1,4)=some (.row [nilS,nilS,nilS] 0 false):=by rw[q _ (ne _ _ _ (by omega))];exact h2
 have G3:M.get (u,25,5)=some (.row [.sref (u+1,sL,30) 0 0 n 1 true,.sref (u,16,26) 0 0 n 5 true,.sref (u,23,33) 0 0 n 1 true] 0 false):=by rw[q _ (ne _ _ _ (by omega))];exact h3
 have G4:M.get (u+1,sL,30)=some (.row (t.len.flatMap intE) 0 false):=by rw[q _ (ne _ _ _ (by omega))];exact h4
 have G5:M.get (u,16,26)=some (.row (t.last.flatMap Ar.c) 0 false):=by rw[q _ (ne _ _ _ (by omega))];exact h5
 have G6:M.get (u,23,33)=some (.row (t.bef.flatMap intE) 0 false):=by rw[q _ (ne _ _ _ (by omega))];exact h6
 have G7:M.get (u,fA,7)=some (.row [I v] 0 false):=by rw[q _ (ne _ _ _ (by omega))];exact hv
 have hLa:=hL a.to.toNat
 obtain⟨x,hx⟩:∃x,x=at0 t.len v.toNat+a.cost+at0 tu v.toNat-at0 tu a.to.toNat:=⟨_,rfl⟩
 have start:∀K,x7k (xr4 d) hs m.next (.ptr (u,0,2) 0 0) (.ptr (u,25,5) 0 0) (.ptr (u,fA,7) 0 0) (.ptr (m.next,0,10) 0 0) M 2=K ->
  x3v (xr4 d) hs m.next (.ptr (u,0,2) 0 0) (.ptr (u,25,5) 0 0) (.ptr (u,fA,7) 0 0) (.agg a.c) ⟨m.hp,m.next+1⟩ 0=K:=by
  intro K hK
  rw[<-hK]
  unfold x3v
  simp only[xu9,z_arc,xs9,Mem.get_new,x1fh]
  rw[show xsz 5 0 0 (.agg a.c) (some (.row [I 0,I 0,I 0,I 0,I 0] 0 false))=some (.row a.c 0 false)from by rw[show a.c=[I a.edge,I a.to,I a.sign,I a.room,I a.cost]from rfl,x13y];rfl]
  simp only[xr9]
  rw[<-hM]
 have pre:∀K,xr7 (B (decide (x<at0 t.len a.to.toNat)))
  ((xsz 1 0 a.to.toNat (I x) (some (.row (t.len.flatMap intE) 0 false))).bind λo1=>(xsz 5 0 (a.to.toNat*5) (.agg a.c) (some (.row (t.last.flatMap Ar.c) 0 false))).bind λo2=>
    (xsz 1 0 a.to.toNat (I v) (some (.row (t.bef.flatMap intE) 0 false))).bind λo3=>some (((M.set (u+1,sL,30) o1).set (u,16,26) o2).set (u,23,33) o3)) (some M)=K ->
  x7k (xr4 d) hs m.next (.ptr (u,0,2) 0 0) (.ptr (u,25,5) 0 0) (.ptr (u,fA,7) 0 0) (.ptr (m.next,0,10) 0 0) M 2=K:=by
  intro K hK
  rw[<-hK]
  unfold x7k
  simp(disch:=omega)only[xs5,xr9,x1f9,xrh,G1,G3,G4,G7,g10,xri,x1f4,xre,x1f0,x1fk,rd_f,iLv,iLa,iBa,iAa,xsv lv,xsv la,xte,xup,xrc,hSe,sNil,xvn,xvo,iTv,iTa,xs2 lv2,xs2 la2,xry]
  rw[<-hx]
  simp only[xs9,G4,rd_5,xr9]
  by_cases hlt:x<at0 t.len a.to.toNat
  .simp only[hlt,x1ff,xrw]
   have la3:a.to.toNat<t.last.length:=by omega
   have la4:a.to.toNat<t.bef.length:=by omega
   have e1:=xtm (v:=x) la
   have e2:=x17o (x:=a) Ar.len la3 a.one
   have e3:=xtm (v:=v) la4
   have g26:(M.set (u+1,sL,30) (.row ((t.len.set a.to.toNat x).flatMap intE) 0 false)).get (u,16,26)=some (.row (t.last.flatMap Ar.c) 0 false):=by rw[Mem.get_set,x1ey (by simp)];exact G5
   have g33:((M.set (u+1,sL,30) (.row ((t.len.set a.to.toNat x).flatMap intE) 0 false)).set (u,16,26) (.row ((t.last.set a.to.toNat a).flatMap Ar.c) 0 false)).get (u,23,33)=some (.row (t.bef.flatMap intE) 0 false):=by rw[Mem.get_set,x1ey (by simp),Mem.get_set,x1ey (by simp)];exact G6
   rw[show[I a.edge,I a.to,I a.sign,I a.room,I a.cost]=a.c from rfl]
   simp only[e1,xr9,g26,e2,g33,e3]
   simp[xr6,disj,tR,tS]
  .simp only[hlt,x1g1,xtc]
 have fin:∀id:Id,id.1<=m.next->id.2.2≠10->M.get id=m.get id:=λid _ h10=>q id (by rintro rfl;simp at h10)
 by_cases hlt:x<at0 t.len a.to.toNat
 .have hR:xv9 tu v t a=⟨t.len.set a.to.toNat x,t.last.set a.to.toNat a,t.bef.set a.to.toNat v⟩:=by
   unfold xv9
   simp only[<-hx,hlt,x1fh]
  have la3:a.to.toNat<t.last.length:=by omega
  have la4:a.to.toNat<t.bef.length:=by omega
  refine⟨((M.set (u+1,sL,30) (.row ((t.len.set a.to.toNat x).flatMap intE) 0 false)).set (u,16,26) (.row ((t.last.set a.to.toNat a).flatMap Ar.c) 0 false)).set (u,23,33) (.row ((t.bef.set a.to.toNat v).flatMap intE) 0 false),start _ (pre _ ?_),?_,?_,?_,?_,?_⟩
  .rw[x1fy hlt,xrw,xtm la,xr9,x17o Ar.len la3 a.one,xr9,xtm la4,xr9]
  .rw[hR]
   refine⟨?_,?_,?_,?_,?_,?_,by simp[hll],by simp[hal],by simp[hbl],by simp[hMn];omega⟩
   .simp[Mem.get_set,G1]
   .simp[Mem.get_set,G2]
   .simp[Mem.get_set,G3]
   .simp[Mem.get_set]
   .simp[Mem.get_set]
   .simp[Mem.get_set]
  .simp[hMn]
  .intro id h1 h30 h26 h33 h10
   rw[Mem.get_set,x1ey (by rintro rfl;simp at h33),Mem.get_set,x1ey (by rintro rfl;simp at h26),Mem.get_set,x1ey (by rintro rfl;simp at h30)]
   exact fin id h1 h10
  .rw[hR]
   intro w
   simp only
   rw[xt0 la]
   split
   .right;omega
   .exact hL w
  .rw[hR]
   simp only
   rw[xt0 la,x1ey (by omega)]
 .have hR:xv9 tu v t a=t:=by
   unfold xv9
   simp only[<-hx,hlt,x1fm]
  rw[hR]
  refine⟨M,start _ (pre _ ?_),⟨G1,G2,G3,G4,G5,G6,hll,hal,hbl,by omega⟩,by omega,λid h1 _ _ _ h10=>fin id h1 h10,hL,rfl⟩
  rw[x1h4 hlt,xtc]
def dn(ds:List Bool)(k:Nat):Bool:=ds.getD k true
theorem dn_lt{ds:List Bool}{k:Nat}(h:k<ds.length):dn ds k=ds[k]:=by
 unfold dn;rw[x1fd,x1fs h];rfl
theorem dn_set{ds:List Bool}{k j:Nat}(h:k<ds.length):dn (ds.set k true) j=if j=k then true else dn ds j:=by
 unfold dn
 rw[x1fd,x1fd,x1i3]
 by_cases e:k=j
 .subst e;simp[h]
 .rw[x1ey e,x1ey (λx=>e x.symm)]
def cntF:List Bool->Nat
 |[]=>0
 |d::r=>(if d=false then 1 else 0)+cntF r
theorem cntF_le:∀ds:List Bool,cntF ds<=ds.length
 |[]=>x1f3 _
 |d::r=>by have:=cntF_le r;simp only[cntF,x1fi];split<;>omega
theorem x11i:∀{ds:List Bool} {k:Nat},k<ds.length->dn ds k=false->cntF (ds.set k true)+1=cntF ds
 |[],k,h,_=>by simp at h
 |d::r,0,h,hd=>by
  have:d=false:=hd
  subst this
  simp[cntF];omega
 |d::r,k+1,h,hd=>by
  have:=x11i (ds:=r) (k:=k) (by simpa using h) hd
  simp only[x1i4,cntF];omega
theorem x140(n:Nat):cntF (List.replicate n false)=n:=by
 induction n with
 |zero=>rfl
 |succ n ih=>rw[x1ii];simp only[cntF,ih,x1fh];omega
def PickI(len:List Int)(ds:List Bool)(k:Nat)(b:Int):Prop:=
 (b=-1/\∀i,i<k->dn ds i=false->farM<=at0 len i) \/
 (0<=b/\b.toNat<k/\dn ds b.toNat=false/\at0 len b.toNat<farM/\∀i,i<k->dn ds i=false->at0 len b.toNat<=at0 len i)
theorem x141{len:List Int}{ds:List Bool}(hl:ds.length=len.length):∀(xs:List Int) (dd:List Bool) (k:Nat) (b:Int),len.drop k=xs->ds.drop k=dd->k<=len.length->PickI len ds k b->PickI len ds len.length (xxb len b k xs dd)
 |[],dd,k,b,hx,hd,hk,h=>by
  have:=x1g2.mp hx
  have e:k=len.length:=by omega
  rw[<-e]
  cases dd<;>exact h
 |x::xs,dd,k,b,hx,hd,hk,h=>by
  obtain⟨hk1,hxe,hx'⟩:=xtf hx
  have hk2:k<ds.length:=by omega
  have hdd:dd=dn ds k::ds.drop (k+1):=by rw[<-hd,xsj hk2,dn_lt hk2]
  rw[hdd]
  have e1:at0 len k=x:=by rw[xrn hk1,hxe]
  simp only[xxb]
  have:=x141 hl xs (ds.drop (k+1)) (k+1) (if dn ds k=false/\x<farM/\(b<0\/x<at0 len b.toNat)then(k:Int)else b) hx' rfl (by omega) (by
   split
   .rename_i c
    obtain⟨c1,c2,c3⟩:=c
    right
    refine⟨by omega,by simp,by simpa using c1,by simpa[e1]using c2,λi hi hdi=>?_⟩
    simp only[x1f1,e1]
    by_cases e:i=k
    .subst e;omega
    .rcases h with ⟨h1,h2⟩|⟨h1,h2,h3,h4,h5⟩
     .have:=h2 i (by omega) hdi;omega
     .have:=h5 i (by omega) hdi
      rcases c3 with c3|c3<;>omega
   .rename_i c
    rcases h with ⟨h1,h2⟩|⟨h1,h2,h3,h4,h5⟩
    .left
     refine⟨h1,λi hi hdi=>?_⟩
     by_cases e:i=k
     .subst e
      rw[e1]
      by_cases c2:x<farM
      .exact absurd ⟨hdi,c2,Or.inl (by omega)⟩ c
      .omega
     .exact h2 i (by omega) hdi
    .right
     refine⟨h1,by omega,h3,h4,λi hi hdi=>?_⟩
     by_cases e:i=k
     .subst e
      rw[e1]
      by_cases c2:x<at0 len b.toNat
      .exact absurd ⟨hdi,by omega,Or.inr c2⟩ c
      .omega
     .exact h5 i (by omega) hdi)
  simpa using this
theorem xzy{ds:List Bool}{k:Nat}{fz:Bool}(hk:k<ds.length):xwe false 1 0 k (some (.row (ds.map B) 0 fz))=some (B (dn ds k)):=by
 simp only[xwe,x1f4,cond_true,rd,x1fu,x1fm]
 rw[<-x1if,xsj hk,dn_lt hk]
 rfl
theorem x1be{ds:List Bool}{k:Nat}{v:Bool}(hk:k<ds.length):xsz 1 0 k (B v) (some (.row (ds.map B) 0 false))=some (.row ((ds.set k v).map B) 0 false):=by
 have h:(0:Nat)=0/\(B v).cells.length=1/\k+1<=(ds.map B).length/\((B v).cells.all AV.one)=true:=⟨rfl,rfl,by simp;omega,rfl⟩
 rw[xuj,x1fy h,cond_true]
 simp only[xs3,cells_B]
 congr 2
 rw[List.map_set,x1jh,x1ez (by simpa using hk)]
 simp
abbrev srL(u sL n:Nat):AV:=.sref (u+1,sL,30) 0 0 n 1 true
theorem l_pick(d:Nat)(hs:FHs){u sL fA n:Nat}{S:AV}{t:Tour}{dsA:List Bool}(hdl:dsA.length=n)(hn:n<=200)(rec0:AV->AV->AV->AV->Mem->Nat->Option (AV×Mem)) :
 ∀(xs:List Int) (dd:List Bool) (k j:Nat) (b:Int) (m:Mem) (fc:Nat),t.len.drop k=xs->dsA.drop k=dd->xs.length<j->(b<0\/(0<=b/\b<n))->WInv u sL S n t m->m.get (u,33,41)=some (.row (dsA.map B) 0 false)->m.get (u,fA,7)=some (.row [I b] 0 false) ->
 ∃m' fc',x3x (xr4 d) hs u rec0 j (.ptr (u,0,2) 0 0) (.ptr (u,1,4) 0 0) (.ptr (u,25,5) 0 0) (srI (u,33,41) n) (.ptr (u,fA,7) 0 0) (srL u sL n) (I n) (I k) m fc =
  x3w (xr4 d) hs u rec0 (.ptr (u,0,2) 0 0) (.ptr (u,1,4) 0 0) (.ptr (u,25,5) 0 0) (srI (u,33,41) n) (.ptr (u,fA,7) 0 0) m' fc' /\
  m'.get (u,fA,7)=some (.row [I (xxb t.len b k xs dd)] 0 false)/\m'.next=m.next/\∀id:Id,id≠(u,fA,7)->m'.get id=m.get id:=by
 intro xs
 induction xs with
 |nil=>
  intro dd k j b m fc hx hd hj hb hI hD hv
  obtain⟨j,rfl⟩:∃i,j=i+1:=⟨j-1,by simp at hj;omega⟩
  have hk:¬((k:Int)<(n:Int)):=by have:=x1g2.mp hx;have:=hI.ll;omega
  refine⟨m,fc+1,?_,by cases dd<;>exact hv,rfl,λ_ _=>rfl⟩
  simp only[x3x]
  unfold x7l
  simp[hk]
 |cons x xs ih=>
  intro dd k j b m fc hx hd hj hb hI hD hv
  obtain⟨j,rfl⟩:∃i,j=i+1:=⟨j-1,by simp at hj;omega⟩
  obtain⟨hk,hxe,hx'⟩:=xtf hx
  have hkn:k<n:=by have:=hI.ll;omega
  have hk2:k<dsA.length:=by omega
  have hdd:dd=dn dsA k::dsA.drop (k+1):=by rw[<-hd,xsj hk2,dn_lt hk2]
  have e1:at0 t.len k=x:=by rw[xrn hk,hxe]
  have hk':(k:Int)<(n:Int):=by omega
  have i1:sIx 1 (srL u sL n) (I k)=some (.ptr (u+1,sL,30) 0 k):=by simpa using xs7 (id:=(u+1,sL,30)) (n:=n) (k:=(k:Int)) (by omega) hk'
  have i2:sIx 1 (srI (u,33,41) n) (I k)=some (.ptr (u,33,41) 0 k):=by simpa using xs7 (id:=(u,33,41)) (n:=n) (k:=(k:Int)) (by omega) hk'
  obtain⟨nb,hnb⟩:∃nb,nb=(if dn dsA k=false/\x<farM/\(b<0\/x<at0 t.len b.toNat)then(k:Int)else b):=⟨_,rfl⟩
  have hnb2:nb<0\/(0<=nb/\nb<n):=by rw[hnb];split<;>omega
  rw[hdd]
  simp only[xxb]
  rw[<-hnb]
  have hbl:¬b<0->b.toNat<t.len.length:=λh=>by have:=hI.ll;omega
  have i3:¬b<0->sIx 1 (srL u sL n) (I b)=some (.ptr (u+1,sL,30) 0 b.toNat):=λh=>xs7 (by omega) (by omega)
  by_cases c:dn dsA k=false/\x<farM/\(b<0\/x<at0 t.len b.toNat)
  .rw[x1ez c]at hnb
   obtain⟨M,hM⟩:∃M,M=m.set (u,fA,7) (.row [I k] 0 false):=⟨_,rfl⟩
   have q:∀id:Id,id≠(u,fA,7)->M.get id=m.get id:=λid hid=>by rw[hM,Mem.get_set,x1ey hid]
   have hMn:M.next=m.next:=by rw[hM];rfl
   obtain⟨m',fc',h1,h2,h3,h4⟩:=ih (dsA.drop (k+1)) (k+1) j nb M (fc+1+29+2) hx' rfl (by simp at hj;omega) hnb2 (hI.frame (λid _ h7 _=>q id (by rintro rfl;simp at h7)) (by rw[hMn];exact x1f3 _)) (by rw[q _ (by simp)];exact hD) (by rw[hM,hnb];simp)
   refine⟨m',fc',?_,by simpa using h2,by rw[h3,hMn],λid hid=>by rw[h4 id hid,q id hid]⟩
   rw[<-h1]
   obtain⟨c1,c2,c3⟩:=c
   simp only[x3x]
   unfold x7l xcm
   by_cases hb0:b<0
   .simp(disch:=omega) [hk',i1,i2,hI.len,hD,xsv hk,xzy hk2,e1,c1,c2,hv,hb0,x1z]
    rw[<-hM]
   .have c3':x<at0 t.len b.toNat:=by rcases c3 with c3|c3;exact absurd c3 hb0;exact c3
    simp(disch:=omega) [hk',i1,i2,i3 hb0,hI.len,hI.t5,hD,xsv hk,xsv (hbl hb0),xzy hk2,e1,c1,c2,hv,hb0,c3',x1z]
    rw[<-hM]
  .rw[x1ey c]at hnb
   obtain⟨m',fc',h1,h2,h3,h4⟩:=ih (dsA.drop (k+1)) (k+1) j nb m (fc+1+27+2) hx' rfl (by simp at hj;omega) hnb2 hI hD (by rw[hnb];exact hv)
   refine⟨m',fc',?_,by simpa using h2,h3,h4⟩
   rw[<-h1]
   simp only[x3x]
   unfold x7l xcm
   cases c1:dn dsA k
   rotate_left
   .simp(disch:=omega) [hk',i1,i2,hI.len,hD,xsv hk,xzy hk2,e1,c1,hv,x1z]
   by_cases c2:x<farM
   rotate_left
   .simp(disch:=omega) [hk',i1,i2,hI.len,hD,xsv hk,xzy hk2,e1,c1,c2,hv,x1z]
   by_cases hb0:b<0
   .exact absurd ⟨c1,c2,Or.inl hb0⟩ c
   by_cases c3:x<at0 t.len b.toNat
   .exact absurd ⟨c1,c2,Or.inr c3⟩ c
   simp(disch:=omega) [hk',i1,i2,i3 hb0,hI.len,hI.t5,hD,xsv hk,xsv (hbl hb0),xzy hk2,e1,c1,c2,hv,hb0,c3,x1z]
abbrev GB:Int:=2001000
theorem x1bf(d:Nat)(hs:FHs){u sL n:Nat}{S:AV}{l:List Edge}{fl tu ex:List Int}(hS:FrzS S n l fl tu ex){t:Tour}{ds:List Bool}(hdl:ds.length=n){b p:Int}(hb:0<=b)(hb2:b<=1000000000)(p0:0<=p)(p1:p<n)(hlp:-b<=at0 t.len p.toNat/\at0 t.len p.toNat<=b)(hL:LenB b t.len){fA:Nat}{m:Mem}(hI:WInv u sL S n t m)(hD:m.get (u,33,41)=some (.row (ds.map B) 0 false))(hv:m.get (u,fA,7)=some (.row [I p] 0 false))(rec0:AV->AV->AV->AV->Mem->Nat->Option (AV×Mem))(fc:Nat) :
 ∃m' fc',x3w (xr4 (d+1)) hs u rec0 (.ptr (u,0,2) 0 0) (.ptr (u,1,4) 0 0) (.ptr (u,25,5) 0 0) (srI (u,33,41) n) (.ptr (u,fA,7) 0 0) m fc =
  rec0 (.ptr (u,0,2) 0 0) (.ptr (u,1,4) 0 0) (.ptr (u,25,5) 0 0) (srI (u,33,41) n) m' fc' /\
  WInv u sL S n (xyt l fl tu p t) m'/\m'.get (u,33,41)=some (.row ((ds.set p.toNat true).map B) 0 false)/\LenB (b+GB) (xyt l fl tu p t).len:=by
 have pl:p.toNat<ds.length:=by omega
 have i2:sIx 1 (srI (u,33,41) n) (I p)=some (.ptr (u,33,41) 0 p.toNat):=xs7 p0 p1
 obtain⟨ev,F,TU,X,cells,bb,hSe,hev,hF,hTU,hX,hcl,hcs⟩:=hS.sh
 have hSc:S.cells=[S]:=by rw[hSe];rfl
 have hSo:S.one=true:=by rw[hSe];rfl
 obtain⟨m7,hm7⟩:∃m7,m7=m.set (u,33,41) (.row ((ds.set p.toNat true).map B) 0 false):=⟨_,rfl⟩
 have q7:∀id:Id,id≠(u,33,41)->m7.get id=m.get id:=λid hid=>by rw[hm7,Mem.get_set,x1ey hid]
 have n7:m7.next=m.next:=by rw[hm7];rfl
 obtain⟨u1,hu1⟩:∃u1,u1=m7.next:=⟨_,rfl⟩
 obtain⟨m8,hm8⟩:∃m8,m8=((⟨m7.hp,m7.next+1⟩:Mem).new (m7.next,0,2) (.row [S] 0 false)).new (m7.next,1,3) (.row [I p] 0 false):=⟨_,rfl⟩
 have q8:∀id:Id,id.1<m7.next->m8.get id=m7.get id:=λid hid=>by
  rw[hm8,Mem.get_new,x1ey (by rintro rfl;simp at hid),Mem.get_new,x1ey (by rintro rfl;simp at hid)];rfl
 have n8:m8.next=m7.next+1:=by rw[hm8];rfl
 have harcs:xr4 (d+1) hs x42 [S,I p] m7=some (.clo x22 [.ptr (m7.next,0,2) 0 0,.ptr (m7.next,1,3) 0 0],m8):=by
  rw[xns]
  unfold xd8 xcz
  simp only[xwd,hSc,x1ga,x1gq,hSo,x1gr,xre,x10u,one_I]
  rw[hm8]
 have hun:=hI.nx
 have hA:Ints cells[p.toNat] (adjI l p):=by
  have:=hcs p.toNat (by omega)
  rwa[x1ge p0]at this
 have ixA:sIx 1 (.slit cells n bb) (I p)=some (.plit (cells.drop p.toNat)):=by simp[sIx,asI,p0,p1]
 have ldA:∀m,sLd false 1 (.plit (cells.drop p.toNat)) m=some cells[p.toNat]:=λm=>by rw[xsj (by omega)];rfl
 obtain⟨Inv,hInv⟩:∃Inv:Tour->Mem->Prop,Inv=λt' m'=>WInv u sL S n t' m'/\m'.get (u,33,41)=some (.row ((ds.set p.toNat true).map B) 0 false)/\m'.get (u,fA,7)=some (.row [I p] 0 false) /\
  m'.get (m7.next,0,2)=some (.row [S] 0 false)/\m'.get (m7.next,1,3)=some (.row [I p] 0 false)/\LenB (b+GB) t'.len/\at0 t'.len p.toNat=at0 t.len p.toNat:=⟨_,rfl⟩
 have h0:Inv t ⟨m8.hp,m8.next+1⟩:=by
  rw[hInv]
  have g:∀id,(⟨m8.hp,m8.next+1⟩:Mem).get id=m8.get id:=λ_=>rfl
  refine⟨hI.frame (λid h1 h2 h3=>?_) (by simp only[n8,n7];omega),?_,?_,?_,?_,λv=>?_,rfl⟩
  .rw[g,q8 _ (by omega),q7 _ (by rintro rfl;simp at h3)]
  .rw[g,q8 _ (by simp only;omega),hm7];simp
  .rw[g,q8 _ (by simp only;omega),q7 _ (by simp)];exact hv
  .rw[g,hm8];simp
  .rw[g,hm8];simp
  .have:=hL v;have hG:GB=2001000:=rfl;omega
 obtain⟨m10,h5,h6⟩:=l_arcs (xr4 d) hs m8.next (u,fc+9,0) (m7.next,0,2) (m7.next,1,3)
  (λargs m=>bif Nat.beq args.length 1&&true then x3v (xr4 (d+1)) hs m.next (.ptr (u,0,2) 0 0) (.ptr (u,25,5) 0 0) (.ptr (u,fA,7) 0 0) (args.getD 0 U) ⟨m.hp,m.next+1⟩ 0 else none) hS hA Inv (xv9 tu p)
  (by
   intro t' m1 m2 hh hg hn
   rw[hInv]at hh ⊢
   obtain⟨a1,a2,a3,a4,a5,a6,a7⟩:=hh
   refine⟨a1.frame (λid hid _ _=>hg id (by omega)) hn,?_,?_,?_,?_,a6,a7⟩<;>rw[hg _ (by simp only;omega)]<;>assumption)
  (by
   intro t' m1 hh
   rw[hInv]at hh
   exact⟨hh.2.2.2.1,hh.2.2.2.2.1⟩)
  (by simp only;omega) (by simp only;omega)
  (by
   intro t' m1 i hi hr hh hu
   rw[hInv]at hh ⊢
   obtain⟨a1,a2,a3,a4,a5,a6,a7⟩:=hh
   obtain⟨z0,z1,z2,z3,z4⟩:=arcAt_in hS hi
   obtain⟨m2,e1,e2,e3,e4,e5,e6⟩:=ways_step (d+1) hs hS (b:=b) a1 a3 p0 p1 z0 z1 z2 z3 z4 hb (by omega) (by rw[a7];exact hlp) a6
   refine⟨m2,by simpa using e1,⟨e2,?_,?_,?_,?_,e5,by rw[e6,a7]⟩,e3⟩<;>rw[e4 _ (by simp only;omega) (by simp) (by simp) (by simp) (by simp)]<;>assumption)
  rfl (adjI l p) 0 NN t ⟨m8.hp,m8.next+1⟩ 9 rfl (by
   have:(adjI l p).length<=600:=by
    unfold adjI
    rw[x1he]
    have:=x1ij (λi=>decide ((edgeAt l i).fr=p)||decide ((edgeAt l i).to=p)) (List.range l.length)
    rw[x1iy]at this
    have:=hS.ll
    omega
   rw[xrg];omega) h0 (by simp only;omega)
 rw[hInv]at h6
 obtain⟨a1,a2,a3,a4,a5,a6,a7⟩:=h6
 refine⟨m10,fc+9+1,?_,a1,a2,a6⟩
 have harcs1:xr4 (d+1) (((u,fc+9,0),(λargs m=>bif Nat.beq args.length 1&&true then x3v (xr4 (d+1)) hs m.next (.ptr (u,0,2) 0 0) (.ptr (u,25,5) 0 0) (.ptr (u,fA,7) 0 0) (args.getD 0 U) ⟨m.hp,m.next+1⟩ 0 else none))::hs) x22 [.yld (u,fc+9,0),.ptr (m7.next,0,2) 0 0,.ptr (m7.next,1,3) 0 0] m8=some (.tup [],m10):=by
  rw[xnu]
  unfold xd5 xd3
  have g1:(⟨m8.hp,m8.next+1⟩:Mem).get (m7.next,0,2)=some (.row [S] 0 false):=by show m8.get _=_;rw[hm8];simp
  have g2:(⟨m8.hp,m8.next+1⟩:Mem).get (m7.next,1,3)=some (.row [I p] 0 false):=by show m8.get _=_;rw[hm8];simp
  simp only[xrh,g1,g2,xri,x1f4,xre,x1f0,rd_f,xr9,hSe,sNil,xvn,x1fk,xvo,ixA,ldA,hA.len xru]
  exact h5
 unfold x3w
 simp only[xrh,hv,xri,x1f4,xre,x1f0,rd_f,xr9,xry,show ¬p<0 from by omega,x1g1,xtc,i2,xs9,hD,x1be pl]
 rw[<-hm7]
 have g1:m7.get (u,0,2)=some (.row [S] 0 false):=by rw[q7 _ (by simp)];exact hI.s
 have g2:m7.get (u,fA,7)=some (.row [I p] 0 false):=by rw[q7 _ (by simp)];exact hv
 simp only[xrh,g1,g2,xri,x1f4,xre,x1f0,rd_f,xr9,harcs]
 unfold xju
 simp only[sRng]
 rw[harcs1]
 rfl
structure WOut (u sL n:Nat) (t:Tour) (m:Mem):Prop where
 len:m.get (u+1,sL,30)=some (.row (t.len.flatMap intE) 0 false)
 last:m.get (u,16,26)=some (.row (t.last.flatMap Ar.c) 0 false)
 bef:m.get (u,23,33)=some (.row (t.bef.flatMap intE) 0 false)
 ll:t.len.length=n
 al:t.last.length=n
 bl:t.bef.length=n
 nx:u+1<m.next
theorem l_ways(d:Nat)(hs:FHs){u sL n:Nat}{S:AV}{l:List Edge}{fl tu ex:List Int}(hS:FrzS S n l fl tu ex) :
 ∀(j:Nat) (t:Tour) (ds:List Bool) (m:Mem) (fc:Nat),cntF ds<j->ds.length=n->LenB ((n-cntF ds:Nat)*GB) t.len->WInv u sL S n t m->m.get (u,33,41)=some (.row (ds.map B) 0 false) ->
 ∃m',x1b (xr4 (d+1)) hs u j (.ptr (u,0,2) 0 0) (.ptr (u,1,4) 0 0) (.ptr (u,25,5) 0 0) (srI (u,33,41) n) m fc =
  some (.agg [srL u sL n,.sref (u,16,26) 0 0 n 5 true,.sref (u,23,33) 0 0 n 1 true],m') /\
  WOut u sL n (xxc l fl tu j t ds) m'/\LenB ((200:Nat)*GB) (xxc l fl tu j t ds).len:=by
 intro j
 have hG:GB=2001000:=rfl
 induction j with
 |zero=>intro t ds m fc h;omega
 |succ j ih=>
  intro t ds m fc hc hdl hL hI hD
  have hn0:=hS.n0
  obtain⟨M,hM⟩:∃M,M=(m.new (u,fc,7) (.row [I 0] 0 false)).set (u,fc,7) (.row [I (-1)] 0 false):=⟨_,rfl⟩
  have q:∀id:Id,id≠(u,fc,7)->M.get id=m.get id:=λid hid=>by rw[hM,Mem.get_set,x1ey hid,Mem.get_new,x1ey hid]
  have hMn:M.next=m.next:=by rw[hM];rfl
  have hIM:WInv u sL S n t M:=hI.frame (λid _ h7 _=>q id (by rintro rfl;simp at h7)) (by rw[hMn];exact x1f3 _)
  have hDM:M.get (u,33,41)=some (.row (ds.map B) 0 false):=by rw[q _ (by simp)];exact hD
  obtain⟨m1,f1,h1,h2,h3,h4⟩:=l_pick (d+1) hs (fA:=fc) hdl hn0 (x1b (xr4 (d+1)) hs u j) t.len ds 0 NN (-1) M (fc+2+4) rfl rfl (by have:=hI.ll;rw[xrg];omega) (Or.inl (by omega)) hIM hDM (by rw[hM];simp)
  have hI1:WInv u sL S n t m1:=hIM.frame (λid _ h7 _=>h4 id (by rintro rfl;simp at h7)) (by rw[h3];exact x1f3 _)
  have hD1:m1.get (u,33,41)=some (.row (ds.map B) 0 false):=by rw[h4 _ (by simp)];exact hDM
  have hsp:=x141 (len:=t.len) (ds:=ds) (by rw[hI.ll];exact hdl) t.len ds 0 (-1) rfl rfl (by omega) (Or.inl ⟨rfl,λi hi=>by omega⟩)
  rw[show((0:Nat):Int)=0 from rfl]at h1 h2 hsp
  obtain⟨p,hp⟩:∃p,p=xxb t.len (-1) 0 t.len ds:=⟨_,rfl⟩
  rw[<-hp]at h2 hsp
  have start:x1b (xr4 (d+1)) hs u (j+1) (.ptr (u,0,2) 0 0) (.ptr (u,1,4) 0 0) (.ptr (u,25,5) 0 0) (srI (u,33,41) n) m fc=x3w (xr4 (d+1)) hs u (x1b (xr4 (d+1)) hs u j) (.ptr (u,0,2) 0 0) (.ptr (u,1,4) 0 0) (.ptr (u,25,5) 0 0) (srI (u,33,41) n) (.ptr (u,fc,7) 0 0) m1 f1:=by
   rw[<-h1]
   rw[x1b]
   unfold xjw xjv
   have hst:xsz 1 0 0 (I (-1)) (some (.row [I 0] 0 false))=some (.row [I (-1)] 0 false):=rfl
   simp only[xu9,xso,xs9,Mem.get_new,x1fh,hst,xr9]
   rw[<-hM]
   simp only[xs5,xr9,x1f9,xrh,hIM.t5,xri,x1f4,xre,x1f0,rd_f]
   rfl
  rw[start]
  simp only[xxc]
  rw[<-hp]
  have hcle:=cntF_le ds
  by_cases c:p<0
  .rw[x1ez c]
   obtain⟨m2,hm2⟩:∃m2,m2=m1.set (u,1,4) (.row [srL u sL n,.sref (u,16,26) 0 0 n 5 true,.sref (u,23,33) 0 0 n 1 true] 0 false):=⟨_,rfl⟩
   obtain⟨a1,a2,a3,a4,a5,a6,a7,a8,a9,a10⟩:=hI1
   refine⟨m2,?_,⟨?_,?_,?_,a7,a8,a9,by rw[hm2];exact a10⟩,?_⟩
   .unfold x3w
    have hst:∀x y z:AV,x.cells=[x]->y.cells=[y]->z.cells=[z]->x.one=true->y.one=true->z.one=true->xsz 3 0 0 (.agg [x,y,z]) (some (.row [nilS,nilS,nilS] 0 false))=some (.row [x,y,z] 0 false):=by
     intro x y z _ _ _ h1 h2 h3
     rw[xuj]
     simp[xs3,h1,h2,h3]
    simp only[xrh,h2,xri,x1f4,xre,x1f0,rd_f,xr9,xry,c,x1ff,xrw,a3,rd_3,xs9,a2]
    rw[hst _ _ _ rfl rfl rfl rfl rfl rfl]
    simp only[xr9]
    rw[<-hm2]
    have g4:m2.get (u,1,4)=some (.row [srL u sL n,.sref (u,16,26) 0 0 n 5 true,.sref (u,23,33) 0 0 n 1 true] 0 false):=by rw[hm2];simp
    simp only[sLdP,xrh,g4,xri,x1f4,xre,x1f0,rd_3,xr9]
   .rw[hm2,Mem.get_set,x1ey (by simp)];exact a4
   .rw[hm2,Mem.get_set,x1ey (by simp)];exact a5
   .rw[hm2,Mem.get_set,x1ey (by simp)];exact a6
   .intro v
    have h:=hL v
    have:((n-cntF ds:Nat):Int)*GB<=(200:Nat)*GB:=x1jn (by omega) (by omega)
    omega
  .rw[x1ey c]
   rcases hsp with ⟨hsp,_⟩|⟨s1,s2,s3,s4,s5⟩
   .omega
   have hpl:=hL p.toNat
   have hpn:p<n:=by rw[hI.ll]at s2;omega
   have hcs:=x11i (ds:=ds) (k:=p.toNat) (by omega) s3
   obtain⟨m2,f2,e1,e2,e3,e4⟩:=x1bf d hs hS hdl (b:=(n-cntF ds:Nat)*GB) (x1ie (by omega) (by omega)) (by
    have:((n-cntF ds:Nat):Int)*GB<=200*GB:=x1jn (by omega) (by omega)
    omega) s1 hpn (by rcases hpl with h|h;omega;exact h) hL hI1 hD1 h2 (x1b (xr4 (d+1)) hs u j) f1
   rw[e1]
   exact ih _ _ m2 f2 (by omega) (by simp[hdl]) (by
    have:((n-cntF (ds.set p.toNat true):Nat):Int)*GB=(n-cntF ds:Nat)*GB+GB:=by
     rw[show n-cntF (ds.set p.toNat true)=(n-cntF ds)+1 by omega,Int.natCast_add,Int.add_mul];omega
    rw[this];exact e4) e2 e3
theorem z_tour:x68=[nilS,nilS,nilS]:=by kernel_rfl
theorem zb_bool:x3b=[B false]:=by kernel_rfl
def xtx(n:Nat)(p:Int):Tour:=⟨(List.replicate n farM).set p.toNat 0,List.replicate n a00,List.replicate n 0⟩
def waysF(n:Nat)(l:List Edge)(fl tu:List Int)(p:Int):Tour:=xxc l fl tu NN (xtx n p) (List.replicate n false)
theorem mkSl_bool{R:Type}{n:Nat}{id:Id}{m:Mem}(k:AV->Mem->Option R)(hn:n<=200):xsh [B false] 1 1 (I n) (I n) id m k=k (srI id n) (m.new id (.row ((List.replicate n false).map B) 0 false)):=by
 simp only[xsh,asI]
 rw[x1ez ⟨by omega,x1ft _,by omega,by omega⟩]
 have:xsc [B false] (((n:Int).toNat)*1)=(List.replicate n false).map B:=by
  simp only[xsc,List.map_replicate,x1f1,x1gz]
  apply x1hr
  .simp
  .intro i h1 h2
   simp[Nat.mod_one]
 rw[this]
 simp
theorem mkSl_arc{R:Type}{n:Nat}{id:Id}{m:Mem}(k:AV->Mem->Option R)(hn:n<=200):xsh [I 0,I 0,I 0,I 0,I 0] 5 40 (I n) (I n) id m k=k (.sref id 0 0 n 5 true) (m.new id (.row ((List.replicate n a00).flatMap Ar.c) 0 false)):=by
 simp only[xsh,asI]
 rw[x1ez ⟨by omega,x1ft _,by omega,by omega⟩]
 have hz:∀k:Nat,(List.replicate k a00).flatMap Ar.c=List.replicate (k*5) (I 0):=by
  intro k
  induction k with
  |zero=>rfl
  |succ k ih=>rw[x1ii,x1fo,ih,x1fx,x1io,<-x1kd];rfl
 have:xsc [I 0,I 0,I 0,I 0,I 0] (((n:Int).toNat)*5)=(List.replicate n a00).flatMap Ar.c:=by
  rw[hz]
  simp only[xsc,x1f1]
  apply x1hr
  .simp
  .intro i h1 h2
   simp only[x1ix,x1kc,List.getElem_replicate]
   have:i % 5<5:=x1iq _ (by omega)
   match i % 5,this with
   |0,_=>rfl
   |1,_=>rfl
   |2,_=>rfl
   |3,_=>rfl
   |4,_=>rfl
   |k+5,h=>omega
 rw[this]
 simp
theorem w_ways(d:Nat){n:Nat}{S:AV}{l:List Edge}{fl tu ex:List Int}(hS:FrzS S n l fl tu ex){p:Int}(p0:0<=p)(p1:p<n)(u:Nat) :
 ∃sL m',xr4 (d+4) [] xz [S,I p] ⟨[],u⟩=some (.agg [srL u sL n,.sref (u,16,26) 0 0 n 5 true,.sref (u,23,33) 0 0 n 1 true],m')/\WOut u sL n (waysF n l fl tu p) m'/\LenB ((200:Nat)*GB) (waysF n l fl tu p).len:=by
 have hn0:=hS.n0
 obtain⟨ev,F,TU,X,cells,bb,hSe,hev,hF,hTU,hX,hcl,hcs⟩:=hS.sh
 have hSc:S.cells=[S]:=by rw[hSe];rfl
 have hSo:S.one=true:=by rw[hSe];rfl
 obtain⟨sL,mR,hR,hRg,hRn⟩:=x17l d (u+1) farM hn0
 obtain⟨m1,hm1⟩:∃m1,m1=((⟨[],u+1⟩:Mem).new (u,0,2) (.row [S] 0 false)).new (u,1,4) (.row [nilS,nilS,nilS] 0 false):=⟨_,rfl⟩
 have n1:m1.next=u+1:=by rw[hm1];rfl
 obtain⟨m2,hC,hCn,hCg⟩:=xwj (call:=xr4 (d+3)) (f:=xu) (l:=[.slit [I farM] 1 true,I n]) (m:=m1) (m':=mR) (r:=.sref (u+1,sL,30) 0 0 n 1 true) rfl (by rw[n1];exact hR)
 have g2:m2.get (u,0,2)=some (.row [S] 0 false):=by rw[hCg,x1ey (by simp only[n1];omega),hm1];simp
 have g4:m2.get (u,1,4)=some (.row [nilS,nilS,nilS] 0 false):=by rw[hCg,x1ey (by simp only[n1];omega),hm1];simp
 have gL:m2.get (u+1,sL,30)=some (.row ((List.replicate n farM).flatMap intE) 0 false):=by rw[hCg,x1ez (by simp only[n1];omega)];exact hRg
 have nm2:m2.next=u+2:=by rw[hCn,hRn]
 obtain⟨m3,hm3⟩:∃m3,m3=m2.new (u,16,26) (.row ((List.replicate n a00).flatMap Ar.c) 0 false):=⟨_,rfl⟩
 obtain⟨m4,hm4⟩:∃m4,m4=m3.new (u,23,33) (.row ((List.replicate n (0:Int)).flatMap intE) 0 false):=⟨_,rfl⟩
 obtain⟨m5,hm5⟩:∃m5,m5=(m4.new (u,25,5) (.row [nilS,nilS,nilS] 0 false)).set (u,25,5) (.row [srL u sL n,.sref (u,16,26) 0 0 n 5 true,.sref (u,23,33) 0 0 n 1 true] 0 false):=⟨_,rfl⟩
 obtain⟨m6,hm6⟩:∃m6,m6=m5.new (u,33,41) (.row ((List.replicate n false).map B) 0 false):=⟨_,rfl⟩
 obtain⟨m7,hm7⟩:∃m7,m7=m6.set (u+1,sL,30) (.row (((List.replicate n farM).set p.toNat 0).flatMap intE) 0 false):=⟨_,rfl⟩
 have hI:WInv u sL S n (xtx n p) m7:=by
  refine⟨?_,?_,?_,?_,?_,?_,by simp[xtx],by simp[xtx],by simp[xtx],by rw[hm7,hm6,hm5,hm4,hm3];simp only[Mem.next_set,Mem.next_new];omega⟩
  .rw[hm7,hm6,hm5,hm4,hm3];simp[Mem.get_set,Mem.get_new,g2]
  .rw[hm7,hm6,hm5,hm4,hm3];simp[Mem.get_set,Mem.get_new,g4]
  .rw[hm7,hm6,hm5];simp[Mem.get_set,Mem.get_new]
  .rw[hm7];simp[xtx]
  .rw[hm7,hm6,hm5,hm4,hm3];simp[Mem.get_set,Mem.get_new,xtx]
  .rw[hm7,hm6,hm5,hm4];simp[Mem.get_set,Mem.get_new,xtx]
 have hD:m7.get (u,33,41)=some (.row ((List.replicate n false).map B) 0 false):=by rw[hm7,hm6];simp[Mem.get_set,Mem.get_new]
 have hcn:=x140 n
 obtain⟨m',h1,h2,h3⟩:=l_ways (d+2) [] hS NN (xtx n p) (List.replicate n false) m7 40 (by rw[hcn,xrg];omega) (by simp) (by
  intro v
  rw[hcn,x1h3]
  unfold xtx
  simp only
  rw[xt0 (by simp;omega)]
  split
  .right;omega
  .unfold at0
   rw[x1fd,x1ig]
   split
   .left;rfl
   .right;simp) hI hD
 refine⟨sL,m',?_,h2,h3⟩
 rw[xnk]
 unfold xd7 xcn
 have hb:∀x y z:AV,x.cells=[x]->y.cells=[y]->z.cells=[z]->xrr [nilS,nilS,nilS] [(0,1,x),(1,1,y),(2,1,z)]=some (.agg [x,y,z]):=by
  intro x y z h1 h2 h3
  simp[xrr,xsd,h1,h2,h3]
 have hst:∀x y z:AV,x.one=true->y.one=true->z.one=true->xsz 3 0 0 (.agg [x,y,z]) (some (.row [nilS,nilS,nilS] 0 false))=some (.row [x,y,z] 0 false):=by
  intro x y z h1 h2 h3
  rw[xuj]
  simp[xs3,h1,h2,h3]
 have gm1:m1.get (u,0,2)=some (.row [S] 0 false):=by rw[hm1];simp
 simp only[xwd,hSc,x1ga,x1gq,hSo,x1gr,xre,xu9,z_tour,xso,xwf]
 rw[<-hm1]
 simp only[xrh,gm1,xri,x1f4,xre,x1f0,rd_f,xr9,hSe,sNil,xvn,xvo,x1f9]
 rw[<-hSe,hC]
 have g2':=g2
 have g3:m3.get (u,0,2)=some (.row [S] 0 false):=by rw[hm3];simp[Mem.get_new,g2]
 have g5:m5.get (u,0,2)=some (.row [S] 0 false):=by rw[hm5,hm4];simp[Mem.get_set,Mem.get_new,g3]
 simp only[xr9,xrh,g2,xri,x1f4,xre,x1f0,rd_f]
 simp only[hSe,sNil,xr9,xvn,xvo,x1f0,rd_f,z_arc,mkSl_arc _ hn0]
 rw[<-hSe,<-hm3]
 simp only[xr9,xrh,g3,xri,x1f4,xre,x1f0,rd_f]
 simp only[hSe,sNil,xr9,xvn,xvo,x1f0,rd_f,xxy (show(0:Int)<=(n:Int) by omega) (show(n:Int)<=1000000 by omega),x1f1]
 rw[<-hSe,<-hm4,hb _ _ _ rfl rfl rfl]
 simp only[xr9,xs9,Mem.get_new,x1fh]
 rw[hst _ _ _ rfl rfl rfl]
 simp only[xr9]
 rw[<-hm5]
 have hTR:tR S=(some [],some []):=by rw[hSe];rfl
 have hTp:∀(id:Id) (a b:Nat),tR (.ptr id a b)=(some [id],some []):=λ_ _ _=>rfl
 have hTl:∀(cs:List AV),tR (.plit cs)=(some [],some []):=λ_=>rfl
 have hbb:(u+1).ble (u+1)=true:=x1j9 (x1f3 _)
 simp[xr6,disj,cAp,n1,Nat.blt,hTR,hTp,hTl,hbb]
 simp only[xr9,xrh,g5,xri,x1f4,xre,x1f0,rd_f]
 simp only[hSe,sNil,xr9,xvn,xvo,x1f0,rd_f,zb_bool,mkSl_bool _ hn0]
 rw[<-hm6]
 have g55:m6.get (u,25,5)=some (.row [srL u sL n,.sref (u,16,26) 0 0 n 5 true,.sref (u,23,33) 0 0 n 1 true] 0 false):=by rw[hm6,hm5];simp[Mem.get_set,Mem.get_new]
 have g6L:m6.get (u+1,sL,30)=some (.row ((List.replicate n farM).flatMap intE) 0 false):=by rw[hm6,hm5,hm4,hm3];simp[Mem.get_set,Mem.get_new,gL]
 have iLp:sIx 1 (.sref (u+1,sL,30) 0 0 n 1 true) (I p)=some (.ptr (u+1,sL,30) 0 p.toNat):=xs7 p0 p1
 have hstL:=xtm (l:=List.replicate n farM) (k:=p.toNat) (v:=0) (by simp;omega)
 simp only[xrh,g55,xri,x1f4,xre,x1f0,rd_f,xr9,iLp,xs9,g6L,hstL]
 rw[<-hm7]
 exact h1
end Go.Ix
