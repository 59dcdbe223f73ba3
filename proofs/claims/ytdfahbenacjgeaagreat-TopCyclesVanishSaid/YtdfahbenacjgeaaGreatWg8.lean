import Derived.Test.YtdfahbenacjgeaaGreatWg3
set_option linter.unusedSimpArgs false
set_option linter.unusedVariables false
namespace Go.Ix
open Go.Proofs
theorem rd_5(a b c d e:AV)(cs:List AV):rd true 5 (a::b::c::d::e::cs)=some (.agg [a,b,c,d,e]):=by rw[rd_t];simp only[x1gq];rw[x1h6 (by omega)];rfl
theorem x153(ver:Nat)(a b c d e a' b' c' d' e':AV):xui 5 ver 0 (.agg [a',b',c',d',e']) (some (.row [a,b,c,d,e] ver false))=bif[a',b',c',d',e'].all AV.one then some (.row [a',b',c',d',e'] ver false)else none:=by
 rw[xvw]
 simp[xth]
theorem z_arc:x6b=[I 0,I 0,I 0,I 0,I 0]:=by kernel_rfl
theorem x18v(a b c d e:Int):xsw [I 0,I 0,I 0,I 0,I 0] [(0,1,I a),(1,1,I b),(2,1,I c),(3,1,I d),(4,1,I e)]=some (.agg [I a,I b,I c,I d,I e]):=by
 simp[xsw,xtj]
structure Ar where
 edge:Int
 to:Int
 sign:Int
 room:Int
 cost:Int
def Ar.c(a:Ar):List AV:=[I a.edge,I a.to,I a.sign,I a.room,I a.cost]
theorem Ar.len(a:Ar):a.c.length=5:=rfl
def e00:Edge:=⟨0,0,0,0⟩
def edgeAt(l:List Edge)(i:Nat):Edge:=l.getD i e00
theorem xwc{l:List Edge}{i:Nat}(h:i<l.length):edgeAt l i=l[i]:=by
 unfold edgeAt;rw[x1gk,x1gv h];rfl
def arcAt(l:List Edge)(fl:List Int)(v:Int)(i:Int):Ar:=
 let e:=edgeAt l i.toNat
 if e.to=v then⟨i,e.fr,-1,e.wt+at0 fl i.toNat,e.jump⟩else⟨i,e.to,1,e.wt-at0 fl i.toNat,-e.jump⟩
def adjI(l:List Edge)(v:Int):List Int:=((List.range l.length).filter λi=>decide ((edgeAt l i).fr=v)||decide ((edgeAt l i).to=v)).map Int.ofNat
theorem x154{l:List Edge}{v i:Int}(h:i∈adjI l v):0<=i/\i<l.length/\((edgeAt l i.toNat).fr=v\/(edgeAt l i.toNat).to=v):=by
 unfold adjI at h
 simp only[x1gs,x1h1,x1h0,x1hx,x1ji]at h
 obtain⟨k,⟨h1,h2⟩,rfl⟩:=h
 exact⟨Int.natCast_nonneg k,by simp only[Int.ofNat_eq_natCast];omega,by simpa using h2⟩
structure FrzS (S:AV) (n:Nat) (l:List Edge) (fl tu ex:List Int):Prop where
 sh:∃ev F TU X cells b,S=.plit [I n,ev,F,TU,X,.slit cells n b]/\Sl Edge.c ev l/\Ints F fl/\Ints TU tu/\Ints X ex/\cells.length=n/\∀(v:Nat) (hv:v<cells.length),Ints cells[v] (adjI l v)
 fll:fl.length=l.length
 tul:tu.length=n
 exl:ex.length=n
 n0:n<=200
 ll:l.length<=600
 ed:∀e∈l,EdgeIn n e/\e.fr≠e.to
 flb:∀k,-1000<=at0 fl k/\at0 fl k<=1000
 tub:∀k,-1000000<=at0 tu k/\at0 tu k<=1000000
theorem arcAt_in{S:AV}{n:Nat}{l:List Edge}{fl tu ex:List Int}(h:FrzS S n l fl tu ex){v i:Int}(hi:i∈adjI l v):0<=(arcAt l fl v i).to/\(arcAt l fl v i).to<n/\(arcAt l fl v i).to≠v/\-1000<=(arcAt l fl v i).cost/\(arcAt l fl v i).cost<=1000:=by
 obtain⟨i0,i1,i2⟩:=x154 hi
 have hl:i.toNat<l.length:=by omega
 rw[xwc hl]at i2
 obtain⟨he,hne⟩:=h.ed _ (x1go hl)
 obtain⟨f0,f1,t0,t1,j0,j1,w0,w1⟩:=he
 unfold arcAt
 rw[xwc hl]
 simp only
 split
 .exact⟨f0,f1,by simp only;omega,j0,j1⟩
 .exact⟨t0,t1,by assumption,by simp only;omega,by simp only;omega⟩
theorem l_arcs(call:xsj)(hs:FHs)(u2:Nat)(id i1 i2:Id)(h:List AV->Mem->Option Mem){S:AV}{n:Nat}{l:List Edge}{fl tu ex:List Int}(hS:FrzS S n l fl tu ex){v:Int}{A:AV}(hA:Ints A (adjI l v)){τ:Type}(Inv:τ->Mem->Prop)(step:τ->Ar->τ)(hst:∀t m m',Inv t m->(∀id:Id,id.1<u2->m'.get id=m.get id)->m.next<=m'.next->Inv t m')(hrd:∀t m,Inv t m->m.get i1=some (.row [S] 0 false)/\m.get i2=some (.row [I v] 0 false))(hi1:i1.1<u2)(hi2:i2.1<u2)(hstep:∀t m i,i∈adjI l v->0<(arcAt l fl v i).room->Inv t m->u2<m.next->∃m',h [.agg (arcAt l fl v i).c] m=some m'/\Inv (step t (arcAt l fl v i)) m'/\m.next<=m'.next)(hid:id.2.2=0:=by rfl) :
 ∀(suf:List Int) (k j:Nat) (t:τ) (m:Mem) (fc:Nat),(adjI l v).drop k=suf->suf.length<j->Inv t m->u2<m.next ->
 ∃m',x1c call ((id,h)::hs) u2 j (.yld id) (.ptr i1 0 0) (.ptr i2 0 0) A (I (adjI l v).length) (I k) m fc=some (.tup [],m')/\Inv (suf.foldl (λt i=>if 0<(arcAt l fl v i).room then step t (arcAt l fl v i)else t) t) m':=by
 have hlen:(adjI l v).length<=600:=by
  unfold adjI
  rw[x1ix]
  have:=x1it (λi=>decide ((edgeAt l i).fr=v)||decide ((edgeAt l i).to=v)) (List.range l.length)
  rw[x1je]at this
  have:=hS.ll
  omega
 intro suf
 induction suf with
 |nil=>
  intro k j t m fc hd hj hI hu
  obtain⟨j,rfl⟩:∃i,j=i+1:=⟨j-1,by simp at hj;omega⟩
  have hk:¬((k:Int)<((adjI l v).length:Int)):=by have:=x1ha.mp hd;omega
  refine⟨m,?_,hI⟩
  simp only[x1c]
  unfold xdc
  simp[hk]
 |cons i r ih=>
  intro k j t m fc hd hj hI hu
  obtain⟨j,rfl⟩:∃i,j=i+1:=⟨j-1,by simp at hj;omega⟩
  obtain⟨hk,hke,hd⟩:=xul hd
  have hk':(k:Int)<((adjI l v).length:Int):=by omega
  have hmem:i∈adjI l v:=hke▸x1go hk
  obtain⟨i0,i1',i2'⟩:=x154 hmem
  have hil:i.toNat<l.length:=by omega
  obtain⟨ev,F,TU,X,cells,b,hSe,hev,hF,hTU,hX,hcl,hcs⟩:=hS.sh
  obtain⟨hee,hne⟩:=hS.ed _ (x1go hil)
  obtain⟨e,he⟩:∃e,e=l[i.toNat]:=⟨_,rfl⟩
  rw[<-he]at hee hne
  obtain⟨f0,f1,t0,t1,j0,j1,w0,w1⟩:=hee
  have hfb:=hS.flb i.toNat
  have g1:=(hrd t m hI).1
  have g2:=(hrd t m hI).2
  have ixA:=hA.ix xt2 hk
  have eA:at0 (adjI l v) k=i:=by rw[xt5 hk,hke]
  have ixe:sIx 4 ev (I i)=some (.plit ((l.drop i.toNat).flatMap Edge.c)):=hev.ixI Edge.len i0 (by omega)
  have lde:=λm=>xtz (m:=m) Edge.len (by omega) hil
  rw[<-he]at lde
  have ixf:=hF.ixI xt2 i0 (show i<fl.length by rw[hS.fll];omega)
  have hfl:i.toNat<fl.length:=by rw[hS.fll];exact hil
  obtain⟨M1,hM1⟩:∃M1,M1=(m.new (u2,fc+1+12,6) (.row [I 0,I 0,I 0,I 0] 0 false)).set (u2,fc+1+12,6) (.row e.c 0 false):=⟨_,rfl⟩
  have q1:∀id:Id,id≠(u2,fc+1+12,6)->M1.get id=m.get id:=λid hid=>by rw[hM1,Mem.get_set,x1g6 hid,Mem.get_new,x1g6 hid]
  have g61:M1.get (u2,fc+1+12,6)=some (.row [I e.fr,I e.to,I e.jump,I e.wt] 0 false):=by rw[hM1];simp[Edge.c]
  have g11:M1.get i1=some (.row [S] 0 false):=by rw[q1 _ (by rintro rfl;simp at hi1)];exact g1
  have g21:M1.get i2=some (.row [I v] 0 false):=by rw[q1 _ (by rintro rfl;simp at hi2)];exact g2
  obtain⟨a1,ha1⟩:∃a1:Ar,a1=⟨i,e.to,1,e.wt-at0 fl i.toNat,-e.jump⟩:=⟨_,rfl⟩
  obtain⟨M2,hM2⟩:∃M2,M2=(M1.new (u2,fc+1+31,7) (.row [I 0,I 0,I 0,I 0,I 0] 0 false)).set (u2,fc+1+31,7) (.row a1.c 0 false):=⟨_,rfl⟩
  have q2:∀id:Id,id≠(u2,fc+1+31,7)->M2.get id=M1.get id:=λid hid=>by rw[hM2,Mem.get_set,x1g6 hid,Mem.get_new,x1g6 hid]
  have g62:M2.get (u2,fc+1+12,6)=some (.row [I e.fr,I e.to,I e.jump,I e.wt] 0 false):=by rw[q2 _ (by simp)];exact g61
  have g72:M2.get (u2,fc+1+31,7)=some (.row [I a1.edge,I a1.to,I a1.sign,I a1.room,I a1.cost] 0 false):=by rw[hM2];simp[Ar.c]
  have g12:M2.get i1=some (.row [S] 0 false):=by rw[q2 _ (by rintro rfl;simp at hi1)];exact g11
  have g22:M2.get i2=some (.row [I v] 0 false):=by rw[q2 _ (by rintro rfl;simp at hi2)];exact g21
  have start:∀K,x7k call ((id,h)::hs) u2 (x1c call ((id,h)::hs) u2 j) (.yld id) (.ptr i1 0 0) (.ptr i2 0 0) (I i) (.ptr (u2,fc+1+12,6) 0 0) (.ptr (u2,fc+1+31,7) 0 0) A (I (adjI l v).length) (I k) M2 (fc+1+33)=K ->
   x1c call ((id,h)::hs) u2 (j+1) (.yld id) (.ptr i1 0 0) (.ptr i2 0 0) A (I (adjI l v).length) (I k) m fc=K:=by
   intro K hK
   rw[<-hK]
   simp only[x1c]
   unfold xdc xl9
   simp only[xta,xsn,hk',x1gm,xt9,ixA,xte hk,eA,xsv,g1,xt1,x1gd,xsr,x1g8,rd_f,hSe,sNil,xx1,x1gr,xx2,ixe,lde,xvs,xy6,xtp,Mem.get_new,x1gp]
   rw[show xui 4 0 0 (.agg e.c) (some (.row [I 0,I 0,I 0,I 0] 0 false))=some (.row e.c 0 false)from by rw[show e.c=[I e.fr,I e.to,I e.jump,I e.wt]from rfl,x145];rfl]
   simp only[xsn]
   rw[<-hM1]
   simp(disch:=omega)only[xtn,xsn,x1gl,xsv,g61,g11,xt1,x1gd,xsr,x1g8,x1gr,rd_f,hSe,sNil,xx1,xx2,ixf,xte hfl,xvv,xso,sNeg_I,z_arc,x18v,xvs,xtp,Mem.get_new,x1gp,x153,x1h4,x1hn,one_I,x1hp,Int.zero_sub]
   rw[show[I i,I e.to,I 1,I (e.wt-at0 fl i.toNat),I (-e.jump)]=a1.c from by rw[ha1];rfl,<-hM2]
   simp[xsm,disj,tR,show ¬(i1=(u2,fc+1+31,7))from by rintro rfl;simp at hi1]
  obtain⟨a,ha⟩:∃a:Ar,a=arcAt l fl v i:=⟨_,rfl⟩
  have hae:a=if e.to=v then⟨i,e.fr,-1,e.wt+at0 fl i.toNat,e.jump⟩else a1:=by
   rw[ha,ha1]
   unfold arcAt
   rw[xwc hil,<-he]
  rw[x1ic,<-ha]
  have hI2:Inv t M2:=hst t M1 M2 (hst t m M1 hI (λid hid=>q1 id (by rintro rfl;simp at hid)) (by rw[hM1];exact x1ga _)) (λid hid=>q2 id (by rintro rfl;simp at hid)) (by rw[hM2];exact x1ga _)
  have hn2:M2.next=m.next:=by rw[hM2,hM1];rfl
  have main:∀(M3:Mem) (fc3:Nat),M3.get (u2,fc+1+31,7)=some (.row a.c 0 false)->Inv t M3->u2<M3.next ->
   ∃m',x7j call ((id,h)::hs) u2 (x1c call ((id,h)::hs) u2 j) (.yld id) (.ptr i1 0 0) (.ptr i2 0 0) (.ptr (u2,fc+1+31,7) 0 0) A (I (adjI l v).length) (I k) M3 fc3=some (.tup [],m')/\Inv (r.foldl (λt i=>if 0<(arcAt l fl v i).room then step t (arcAt l fl v i)else t) (if 0<a.room then step t a else t)) m':=by
   intro M3 fc3 g7 hI3 hu3
   unfold x7j
   have g7':M3.get (u2,fc+1+31,7)=some (.row [I a.edge,I a.to,I a.sign,I a.room,I a.cost] 0 false):=g7
   by_cases hr:0<a.room
   .obtain⟨m4,h4,I4,n4⟩:=hstep t M3 i hmem (ha▸hr) hI3 hu3
    rw[<-ha]at h4 I4
    obtain⟨m',h5,h6⟩:=ih (k+1) j (step t a) m4 (fc3+9+2) hd (by simp at hj;omega) I4 (by omega)
    refine⟨m',?_,by rw[x1g7 hr];exact h6⟩
    have hinv:xu2 call ((id,h)::hs) 2 (.yld id) [.agg [I a.edge,I a.to,I a.sign,I a.room,I a.cost]] M3=some (B true,m4):=by
     have hlv:∀objs,live objs id=true:=λobjs=>by unfold live;rw[hid];rfl
     simp only[xu2,xvj,x1gp,hlv]
     rw[show[AV.agg [I a.edge,I a.to,I a.sign,I a.room,I a.cost]]=[.agg a.c]from rfl,h4]
     rfl
    simp(disch:=omega) [g7',hr,rd_5,hinv,xdb]
    exact h5
   .obtain⟨m',h5,h6⟩:=ih (k+1) j t M3 (fc3+9+2) hd (by simp at hj;omega) hI3 hu3
    refine⟨m',?_,by rw[x1g6 hr];exact h6⟩
    simp(disch:=omega) [g7',hr,xdb]
    exact h5
  by_cases ht:e.to=v
  .rw[x1g7 ht]at hae
   obtain⟨M3,hM3⟩:∃M3,M3=M2.set (u2,fc+1+31,7) (.row a.c 0 false):=⟨_,rfl⟩
   have q3:∀id:Id,id≠(u2,fc+1+31,7)->M3.get id=M2.get id:=λid hid=>by rw[hM3,Mem.get_set,x1g6 hid]
   obtain⟨m',h5,h6⟩:=main M3 (fc+1+33+21) (by rw[hM3];simp) (hst t M2 M3 hI2 (λid hid=>q3 id (by rintro rfl;simp at hid)) (by rw[hM3];exact x1ga _)) (by rw[hM3];simp only[Mem.next_set];omega)
   refine⟨m',start _ ?_,h6⟩
   rw[<-h5]
   unfold x7k
   simp(disch:=omega)only[xtn,xsn,x1gl,xsv,g62,g22,g12,xt1,x1gd,xsr,x1g8,x1gr,rd_f,sEq_I,ht,x1gm,xt9,hSe,sNil,xx1,xx2,ixf,xte hfl,xux,xso,z_arc,x18v,xtp,g72,x153,x1h4,x1hn,one_I,x1hp]
   rw[show[I i,I e.fr,I (-1),I (e.wt+at0 fl i.toNat),I e.jump]=a.c from by rw[hae];rfl,<-hM3]
  .rw[x1g6 ht]at hae
   obtain⟨m',h5,h6⟩:=main M2 (fc+1+33+4) (by rw[hae];exact g72) hI2 (by omega)
   refine⟨m',start _ ?_,h6⟩
   rw[<-h5]
   unfold x7k
   simp(disch:=omega)only[xtn,xsn,x1gl,xsv,g62,g22,g12,xt1,x1gd,xsr,x1g8,x1gr,rd_f,sEq_I,ht,x1h9,xup]
theorem x12n:xw=[nilS]:=by kernel_rfl
theorem NN_3:∃j,NN=j+3:=⟨1048573,rfl⟩
end Go.Ix
set_option maxRecDepth 100000
namespace Go.Ix
open Go.Proofs
def isU(n:Nat):Option AV->Bool
 |some (.sc (.int .u64 k))=>decide (k=(n:Int))
 |_=>false
def isI(n:Nat):Option AV->Bool
 |some (.sc (.int .i64 k))=>decide (k=(n:Int))
 |_=>false
def isF:Option AV->Bool
 |some (.sc (.bool b))=>!b
 |_=>false
def is2(a b:Nat):Option (AV×Mem)->Bool
 |some (.tup [.sc (.int .u64 k),.sc (.int .u64 j)],_)=>decide (k=(a:Int))&&decide (j=(b:Int))
 |_=>false
theorem isU_eq{n:Nat}{r:Option AV}(h:isU n r=true):r=some (.sc (.int .u64 n)):=by
 unfold isU at h
 split at h
 .rw[x1i2 h]
 .cases h
theorem isI_eq{n:Nat}{r:Option AV}(h:isI n r=true):r=some (I n):=by
 unfold isI at h
 split at h
 .rw[x1i2 h]
 .cases h
theorem isF_eq{r:Option AV}(h:isF r=true):r=some (B false):=by
 unfold isF at h
 split at h
 .rename_i b
  cases b
  .rfl
  .cases h
 .cases h
theorem is2_eq{a b:Nat}{r:Option (AV×Mem)}(h:is2 a b r=true):∃m,r=some (.tup [.sc (.int .u64 a),.sc (.int .u64 b)],m):=by
 unfold is2 at h
 split at h
 .rename_i k j m
  rw[x1gh]at h
  exact⟨m,by rw[x1i2 h.1,x1i2 h.2]⟩
 .cases h
theorem tab{f:Nat->Bool}{N:Nat}(h:(List.range N).all f=true){n:Nat}(hn:n<N):f n=true:=x1gj.mp h n (x1h0.mpr hn)
abbrev Uv(n:Nat):AV:=.sc (.int .u64 n)
theorem t_cvt:(List.range 201).all (λn=>isU n (sCvt Tryz.prog xtg xe (I n)))=true:=by kernel_rfl
theorem t_cvt2:(List.range 201).all (λn=>isI n (sCvt Tryz.prog xe xtg (Uv n)))=true:=by kernel_rfl
theorem t_mul(d:Nat):(List.range 201).all (λn=>is2 0 n (xsi (d+2) [] xl7 [Uv 1,Uv n] mem0))=true:=by kernel_rfl
theorem t_gt(x y:Operand):(List.range 201).all (λn=>isF (sBin Tryz.prog .gtr xe x y (Uv n) (AV.sc (.int .u64 9223372036854775807))))=true:=by kernel_rfl
theorem t_gt0(x y:Operand):sBin Tryz.prog .gtr xe x y (Uv 0) (AV.sc (.int .u64 0))=some (B false):=by kernel_rfl
theorem w_cvt{n:Nat}(h:n<=200):sCvt Tryz.prog xtg xe (I n)=some (Uv n):=isU_eq (tab t_cvt (by omega))
theorem w_cvt2{n:Nat}(h:n<=200):sCvt Tryz.prog xe xtg (Uv n)=some (I n):=isI_eq (tab t_cvt2 (by omega))
theorem w_gt{n:Nat}(h:n<=200)(x y:Operand):sBin Tryz.prog .gtr xe x y (Uv n) (AV.sc (.int .u64 9223372036854775807))=some (B false):=isF_eq (tab (t_gt x y) (by omega))
theorem w_mul(d:Nat){n:Nat}(h:n<=200)(m:Mem):xsl (xsi (d+2)) xl7 [Uv 1,Uv n] m=some (.tup [Uv 0,Uv n],m):=by
 obtain⟨m',h'⟩:=is2_eq (tab (t_mul d) (show n<201 by omega))
 exact Ans.call0_tup ⟨m',h'⟩ rfl rfl
theorem cpy_own{R:Type}{id:Id}{m:Mem}{l k:List Int}{off n2:Nat}{f:Bool}{src:AV}{K:AV->Mem->Option R}(hg:m.get id=some (.row (l.flatMap intE) 0 false))(hs:elems m.get 1 src=some (k.flatMap intE,k.length))(hn:off+n2<=l.length) :
 sCpy 1 (.sref id 0 off n2 1 f) src m K=K (I (Nat.min k.length n2)) (m.set id (.row ((l.take off++(k.take (Nat.min k.length n2)++l.drop (off+Nat.min k.length n2))).flatMap intE) 0 false)):=by
 have hl:=xvx l
 simp only[sCpy,hs,hg]
 have hc:True/\True/\off+n2*1<=(l.flatMap intE).length:=⟨trivial,trivial,by omega⟩
 rw[x1g7 hc]
 congr 3
 have hk:k.length=(k.flatMap intE).length:=(xvx k).symm
 simp only[xth,xwa,x1hr,List.map_take,x1jv,x1i4,x1ia,x1ix]
 congr 3
 have:Nat.min (Nat.min k.length n2) k.length=Nat.min k.length n2:=by
  simp only[Nat.min_def];split<;>split<;>omega
 exact congrArg (off+·) this
theorem elems_own{m:Mem}{id:Id}{l:List Int}{off n:Nat}{f:Bool}(hg:m.get id=some (.row (l.flatMap intE) 0 false))(h:off+n<=l.length):elems m.get 1 (.sref id 0 off n 1 f)=some (((l.drop off).take n).flatMap intE,((l.drop off).take n).length):=by
 have hl:=xvx l
 simp only[elems,hg]
 have hc:True/\True/\off+n*1<=(l.flatMap intE).length:=⟨trivial,trivial,by omega⟩
 rw[x1g7 hc]
 simp only[xwa,List.map_take,x1jv,x1i4,x1ia,x1jq]
 congr 2
 omega
theorem l_Repeat(d:Nat)(hs:FHs)(u:Nat)(x:Int){n:Nat}(hn:n<=200)(id:Id):∀(s k j:Nat) (m:Mem) (fc:Nat),k+s=n->1<=k->s<j->m.get id=some (.row ((List.replicate k x++List.replicate s 0).flatMap intE) 0 false) ->
 ∃m',x3x (xsi d) hs u j (.sref id 0 0 n 1 true) (I k) m fc=some (.sref id 0 0 n 1 true,m')/\m'.get id=some (.row ((List.replicate n x).flatMap intE) 0 false)/\m'.next=m.next:=by
 intro s
 induction s using Nat.strongRecOn with
 |_ s ih=>
  intro k j m fc hk h1 hj hg
  obtain⟨j,rfl⟩:∃i,j=i+1:=⟨j-1,by omega⟩
  have hlen:sLen Tryz.prog x4 (.sref id 0 0 n 1 true)=some (I n):=rfl
  simp only[x3x]
  unfold xd7
  by_cases h0:s=0
  .subst h0
   have hkn:k=n:=by omega
   subst hkn
   refine⟨m,?_,by simpa using hg,rfl⟩
   simp[hlen,xd6]
  .have hlt:(k:Int)<(n:Int):=by omega
   have e1:=x183 (id:=id) (ver:=0) (off:=0) (n:=n) (full:=true) (lo:=(k:Int)) (by omega) (by omega)
   have e2:=slice_hi (id:=id) (ver:=0) (off:=0) (n:=n) (full:=true) (hi:=(k:Int)) (by omega) (by omega)
   simp only[x1gb,x1gl]at e1 e2
   have hel:=elems_own (m:=m) (id:=id) (off:=0) (n:=k) (f:=true) hg (by simp)
   rw[x1g8,x1jr (by simp),x1gg (by simp)]at hel
   have hc:=λ(K:AV->Mem->Option (AV×Mem))=>cpy_own (K:=K) (off:=k) (n2:=n-k) (f:=true) hg hel (by simp;omega)
   have hmin:Nat.min (List.replicate k x).length (n-k)=min k s:=by simp only[List.length_replicate];show min k (n-k)=_;rw[show n-k=s by omega]
   rw[hmin]at hc
   have hrow:(List.replicate k x++List.replicate s 0).take k++((List.replicate k x).take (min k s)++(List.replicate k x++List.replicate s 0).drop (k+min k s))=List.replicate (k+min k s) x++List.replicate (s-min k s) 0:=by
    rw[x1jr (by simp),x1gg (by simp),List.take_replicate,x1kk (show min k s<=k from Nat.min_le_left _ _)]
    rw[x1j9,x1kc (by simp),x1hl,List.length_replicate,Nat.add_sub_cancel_left,List.drop_replicate,<-x1i3,x1li]
   rw[hrow]at hc
   obtain⟨m',h5,h6,h7⟩:=ih (s-min k s) (by omega) (k+min k s) j (m.set id (.row ((List.replicate (k+min k s) x++List.replicate (s-min k s) 0).flatMap intE) 0 false)) (fc+14) (by omega) (by omega) (by omega) (by simp)
   refine⟨m',?_,h6,by rw[h7];rfl⟩
   simp(disch:=omega)only[hlen,xsn,xta,hlt,x1gm,xt9,e1,e2,hc,xux,xso]
   rw[<-h5]
   congr 2
theorem x18w(d:Nat)(u:Nat)(x:Int){n:Nat}(hn:n<=200):∃s m',xsi (d+3) [] xv [.slit [I x] 1 true,I n] ⟨[],u⟩=some (.sref (u,s,30) 0 0 n 1 true,m')/\m'.get (u,s,30)=some (.row ((List.replicate n x).flatMap intE) 0 false)/\m'.next=u+1:=by
 have hc1:=w_cvt (n:=1) (by omega)
 have hcn:=w_cvt hn
 have hcn2:=w_cvt2 hn
 have hg:=w_gt hn
 have hm:=w_mul d hn
 have hmk:∀(id:Id) (m:Mem) (k:AV->Mem->Option (AV×Mem)),xty xtr 1 8 (I n) (I n) id m k=k (srI id n) (m.new id (.row ((List.replicate n (0:Int)).flatMap intE) 0 false)):=by
  intro id m k
  rw[xu3,x112 (by omega) (by omega)]
  simp
 have hneg:¬((n:Int)<0):=by omega
 have hlen1:sLen Tryz.prog x4 (.slit [I x] 1 true)=some (I ((1:Nat):Int)):=rfl
 have hlenN:∀id,sLen Tryz.prog x4 (.sref id 0 0 n 1 true)=some (I n):=λ_=>rfl
 obtain⟨M,hM⟩:∃M,M=(⟨[],u+1⟩:Mem).new (u,1+2+11+6+2,30) (.row ((List.replicate n (0:Int)).flatMap intE) 0 false):=⟨_,rfl⟩
 have hgM:M.get (u,1+2+11+6+2,30)=some (.row ((List.replicate n (0:Int)).flatMap intE) 0 false):=by rw[hM];simp
 have hel:elems M.get 1 (.slit [I x] 1 true)=some (([x]:List Int).flatMap intE,[x].length):=rfl
 have hcp:=λ(K:AV->Mem->Option (AV×Mem))=>cpy_own (K:=K) (off:=0) (n2:=n) (f:=true) hgM hel (by simp)
 have start:∀K,sCpy 1 (srI (u,1+2+11+6+2,30) n) (.slit [I x] 1 true) M (λt33 m_3=>x3x (xsi (d+2)) [] u NN (srI (u,1+2+11+6+2,30) n) t33 m_3 (1+2+11+6+8))=K ->
  xsi (d+3) [] xv [.slit [I x] 1 true,I n] ⟨[],u⟩=K:=by
  intro K hK
  rw[<-hK,xov]
  unfold xg4 xd8 xl8 xl6
  simp only[xta,xsn,hneg,x1h9,xup,hlen1,hc1,hcn,hm,xzs,x1id,x1ij]
  unfold xl5
  simp only[t_gt0,x10x,x10y,xsn,sW_f,x1ht,xsr,hg,x120,xzv,xup]
  unfold xl4
  simp only[hcn2,xsn,hmk]
  rw[<-hM]
 by_cases h0:n=0
 .subst h0
  refine⟨22,M.set (u,22,30) (.row [] 0 false),start _ ?_,by simp,by rw[hM];rfl⟩
  rw[hcp]
  obtain⟨j,hj⟩:=NN_3
  rw[hj]
  simp only[x3x]
  unfold xd7
  have e:Nat.min [x].length 0=0:=rfl
  simp[hlenN,e,xd6]
 .have hmin:Nat.min [x].length n=1:=by simp only[x1gq,x1i6];show min 1 n=1;omega
  rw[hmin]at hcp
  have hrow:(List.replicate n (0:Int)).take 0++([x].take 1++(List.replicate n 0).drop (0+1))=List.replicate 1 x++List.replicate (n-1) 0:=by simp[List.drop_replicate]
  rw[hrow]at hcp
  obtain⟨m',h1,h2,h3⟩:=l_Repeat (d+2) [] u x hn (u,22,30) (n-1) 1 NN (M.set (u,22,30) (.row ((List.replicate 1 x++List.replicate (n-1) 0).flatMap intE) 0 false)) 28 (by omega) (by omega) (by rw[xsu];omega) (by simp)
  refine⟨22,m',start _ ?_,h2,by rw[h3,hM];rfl⟩
  rw[hcp]
  exact h1
theorem call4{call:xsj}{f:FuncId}{l l':List AV}{m m':Mem}{r:AV}{ids:List Id}(hl:l.mapM (frz m.get deep)=some l')(h:call [] f l' ⟨[],m.next⟩=some (r,m'))(hr:xzf r=true)(hids:xt3 m'.get deep r=ids)(hall:∀i∈ids,m.next<=i.1/\∃cs v,m'.get i=some (.row cs v false)/\cs.all isSc=true):∃M:Mem,x10o call f l m=some (r,M)/\M.next=m'.next/\∀i,M.get i=if i∈ids then m'.get i else m.get i:=by
 refine⟨⟨xzl m'.hp (xt3 m'.get deep r) m.hp,m'.next⟩,?_,rfl,?_⟩
 .unfold x10o
  rw[hl]
  simp only[h]
  rw[x1g7]
  rw[hr,x1hq,hids,x1gj]
  intro i hi
  obtain⟨h1,cs,v,h2,h3⟩:=hall i hi
  rw[h2]
  simp[h1,h3]
 .intro i
  rw[hids]
  exact x13u m'.hp ids m.hp (λi hi=>by obtain⟨_,cs,v,h2,_⟩:=hall i hi;exact⟨_,h2⟩) i
theorem x18x{objs:Id->Option Ob}{k:Nat}:∀{l:List AV},l.all isSc=true->l.flatMap (xt3 objs k)=[]
 |[],_=>rfl
 |a::l,h=>by
  rw[x1h4,x1gh]at h
  rw[x1gy,x18x h.2,x1hc]
  cases a with
  |sc v=>cases k<;>rfl
  |_=>simp[isSc]at h
theorem x155{objs:Id->Option Ob}{k:Nat}{id:Id}{ver off n z:Nat}{f:Bool}{cs:List AV}{v:Nat}(h:objs id=some (.row cs v false))(hs:cs.all isSc=true):xt3 objs (k+1) (.sref id ver off n z f)=[id]:=by
 simp only[xt3,h]
 rw[x18x]
 rw[x1gj]at hs ⊢
 exact λx hx=>hs x (List.mem_of_mem_drop (x1j3 hx))
abbrev farM:Int:=1152921504606846976
structure Tour where
 len:List Int
 last:List Ar
 bef:List Int
def a00:Ar:=⟨0,0,0,0,0⟩
def xwd(tu:List Int)(v:Int)(t:Tour)(a:Ar):Tour:=
 let x:=at0 t.len v.toNat+a.cost+at0 tu v.toNat-at0 tu a.to.toNat
 if x<at0 t.len a.to.toNat then⟨t.len.set a.to.toNat x,t.last.set a.to.toNat a,t.bef.set a.to.toNat v⟩else t
def x107(l:List Edge)(fl tu:List Int)(v:Int)(t:Tour):Tour:=(adjI l v).foldl (λt i=>if 0<(arcAt l fl v i).room then xwd tu v t (arcAt l fl v i)else t) t
def xyg(len:List Int):Int->Int->List Int->List Bool->Int
 |b,k,x::xs,d::ds=>xyg len (if d=false/\x<farM/\(b<0\/x<at0 len b.toNat)then k else b) (k+1) xs ds
 |b,_,_,_=>b
def xyh(l:List Edge)(fl tu:List Int):Nat->Tour->List Bool->Tour
 |0,t,_=>t
 |f+1,t,ds=>let p:=xyg t.len (-1) 0 t.len ds
  if p<0 then t else xyh l fl tu f (x107 l fl tu p t) (ds.set p.toNat true)
theorem x18y{α:Type}{enc:α->List AV}{z:Nat}(hz:∀x,(enc x).length=z):∀(l:List α) (k:Nat) (x:α),k<l.length->(l.set k x).flatMap enc=(l.flatMap enc).take (k*z)++(enc x++(l.flatMap enc).drop (k*z+z))
 |[],k,x,h=>by simp at h
 |y::l,0,x,h=>by
  simp only[x1jx,x1gy,x1in,x1hw,x1hl,x1gl]
  rw[x1j9,x1kc (by rw[hz];omega),hz]
  simp
 |y::l,k+1,x,h=>by
  simp only[x1jy,x1gy]
  have hy:=hz y
  rw[x18y hz l k x (by simpa using h),x1hb,List.take_append,x1j9,x1gg (show(enc y).length<=k*z+z by rw[hy];omega),
   x1kc (show(enc y).length<=k*z+z+z by rw[hy];omega),hy,show k*z+z-z=k*z by omega,show k*z+z+z-z=k*z+z by omega]
  simp
theorem x18z{α:Type}{enc:α->List AV}{z:Nat}(hz:∀x,(enc x).length=z){l:List α}{k:Nat}{x:α}(hk:k<l.length)(h1:(enc x).all AV.one=true) :
 xui z 0 (k*z) (.agg (enc x)) (some (.row (l.flatMap enc) 0 false))=some (.row ((l.set k x).flatMap enc) 0 false):=by
 have hl:=xut hz l
 have h2:(k+1)*z<=l.length*z:=x1i1 z (by omega)
 rw[x1hb]at h2
 have h:(0:Nat)=0/\(AV.agg (enc x)).cells.length=z/\k*z+z<=(l.flatMap enc).length/\((AV.agg (enc x)).cells.all AV.one)=true:=⟨rfl,hz x,by omega,h1⟩
 rw[xvw,x1h6 h,cond_true,x18y hz l k x hk]
 simp only[xth,x142,hz]
theorem Ar.one(a:Ar):a.c.all AV.one=true:=rfl
theorem Ar.sc(a:Ar):a.c.all isSc=true:=rfl
def LenB(b:Int)(len:List Int):Prop:=∀v,at0 len v=farM\/(-b<=at0 len v/\at0 len v<=b)
structure WInv (u sL:Nat) (S:AV) (n:Nat) (t:Tour) (m:Mem):Prop where
 s:m.get (u,0,2)=some (.row [S] 0 false)
 t4:m.get (u,1,4)=some (.row [nilS,nilS,nilS] 0 false)
 t5:m.get (u,25,5)=some (.row [.sref (u+1,sL,30) 0 0 n 1 true,.sref (u,16,26) 0 0 n 5 true,.sref (u,23,33) 0 0 n 1 true] 0 false)
 len:m.get (u+1,sL,30)=some (.row (t.len.flatMap intE) 0 false)
 last:m.get (u,16,26)=some (.row (t.last.flatMap Ar.c) 0 false)
 bef:m.get (u,23,33)=some (.row (t.bef.flatMap intE) 0 false)
 ll:t.len.length=n
 al:t.last.length=n
 bl:t.bef.length=n
 nx:u+1<m.next
theorem WInv.frame{u sL:Nat}{S:AV}{n:Nat}{t:Tour}{m m':Mem}(h:WInv u sL S n t m)(hm:∀id:Id,id.1<=u+1->id.2.2≠7->id.2.2≠41->m'.get id=m.get id)(hn:m.next<=m'.next):WInv u sL S n t m':=by
 obtain⟨a,b,c,d,e,f,g,i,j,k⟩:=h
 refine⟨?_,?_,?_,?_,?_,?_,g,i,j,by omega⟩<;>rw[hm _ (by simp) (by simp) (by simp)]<;>assumption
theorem ways_step(d:Nat)(hs:FHs){u sL fA:Nat}{S:AV}{n:Nat}{l:List Edge}{fl tu ex:List Int}(hS:FrzS S n l fl tu ex){t:Tour}{v b:Int}{a:Ar}{m:Mem}(hI:WInv u sL S n t m)(hv:m.get (u,fA,7)=some (.row [I v] 0 false))(v0:0<=v)(v1:v<n)(ha0:0<=a.to)(ha1:a.to<n)(hav:a.to≠v)(hc0:-1000<=a.cost)(hc1:a.cost<=1000)(hb:0<=b)(hb2:b<=1000000000000)(hlv:-b<=at0 t.len v.toNat/\at0 t.len v.toNat<=b)(hL:LenB (b+2001000) t.len) :
 ∃m',x3r (xsi d) hs m.next (.ptr (u,0,2) 0 0) (.ptr (u,25,5) 0 0) (.ptr (u,fA,7) 0 0) (.agg a.c) ⟨m.hp,m.next+1⟩ 0=some m'/\WInv u sL S n (xwd tu v t a) m'/\m.next<=m'.next /\
  (∀id:Id,id.1<=m.next->id.2.2≠30->id.2.2≠26->id.2.2≠33->id.2.2≠10->m'.get id=m.get id)/\LenB (b+2001000) (xwd tu v t a).len/\at0 (xwd tu v t a).len v.toNat=at0 t.len v.toNat:=by
 obtain⟨h1,h2,h3,h4,h5,h6,hll,hal,hbl,hnx⟩:=hI
 obtain⟨ev,F,TU,X,cells,bb,hSe,hev,hF,hTU,hX,hcl,hcs⟩:=hS.sh
 have lv:v.toNat<t.len.length:=by omega
 have la:a.to.toNat<t.len.length:=by omega
 have lv2:v.toNat<tu.length:=by rw[hS.tul];omega
 have la2:a.to.toNat<tu.length:=by rw[hS.tul];omega
 have tb1:=hS.tub v.toNat
 have tb2:=hS.tub a.to.toNat
 have iTv:=hTU.ixI xt2 v0 (show v<tu.length by rw[hS.tul];exact v1)
 have iTa:=hTU.ixI xt2 ha0 (show a.to<tu.length by rw[hS.tul];exact ha1)
 have iLv:sIx 1 (.sref (u+1,sL,30) 0 0 n 1 true) (I v)=some (.ptr (u+1,sL,30) 0 v.toNat):=xtu v0 v1
 have iLa:sIx 1 (.sref (u+1,sL,30) 0 0 n 1 true) (I a.to)=some (.ptr (u+1,sL,30) 0 a.to.toNat):=xtu ha0 ha1
 have iBa:sIx 1 (.sref (u,23,33) 0 0 n 1 true) (I a.to)=some (.ptr (u,23,33) 0 a.to.toNat):=xtu ha0 ha1
 have iAa:sIx 5 (.sref (u,16,26) 0 0 n 5 true) (I a.to)=some (.ptr (u,16,26) 0 (a.to.toNat*5)):=by simp[sIx,asI,ha0,ha1]
 obtain⟨M,hM⟩:∃M,M=((⟨m.hp,m.next+1⟩:Mem).new (m.next,0,10) (.row [I 0,I 0,I 0,I 0,I 0] 0 false)).set (m.next,0,10) (.row a.c 0 false):=⟨_,rfl⟩
 have q:∀id:Id,id≠(m.next,0,10)->M.get id=m.get id:=λid hid=>by rw[hM,Mem.get_set,x1g6 hid,Mem.get_new,x1g6 hid];rfl
 have g10:M.get (m.next,0,10)=some (.row [I a.edge,I a.to,I a.sign,I a.room,I a.cost] 0 false):=by rw[hM];simp[Ar.c]
 have hMn:M.next=m.next+1:=by rw[hM];rfl
 have ne:∀(x s t':Nat),x<=u+1->(x,s,t')≠(m.next,0,10):=λx s t' hx he=>by simp only[x1g9]at he;omega
 have G1:M.get (u,0,2)=some (.row [S] 0 false):=by rw[q _ (ne _ _ _ (by omega))];exact h1
 have G2:M.get (u,1,4)=some (.row [nilS,nilS,nilS] 0 false):=by rw[q _ (ne _ _ _ (by omega))];exact h2
 have G3:M.get (u,25,5)=some (.row [.sref (u+1,sL,30) 0 0 n 1 true,.sref (u,16,26) 0 0 n 5 true,.sref (u,23,33) 0 0 n 1 true] 0 false):=by rw[q _ (ne _ _ _ (by omega))];exact h3
 have G4:M.get (u+1,sL,30)=some (.row (t.len.flatMap intE) 0 false):=by rw[q _ (ne _ _ _ (by omega))];exact h4
 have G5:M.get (u,16,26)=some (.row (t.last.flatMap Ar.c) 0 false):=by rw[q _ (ne _ _ _ (by omega))];exact h5
 have G6:M.get (u,23,33)=some (.row (t.bef.flatMap intE) 0 false):=by rw[q _ (ne _ _ _ (by omega))];exact h6
 have G7:M.get (u,fA,7)=some (.row [I v] 0 false):=by rw[q _ (ne _ _ _ (by omega))];exact hv
 have hLa:=hL a.to.toNat
 obtain⟨x,hx⟩:∃x,x=at0 t.len v.toNat+a.cost+at0 tu v.toNat-at0 tu a.to.toNat:=⟨_,rfl⟩
 have start:∀K,x7b (xsi d) hs m.next (.ptr (u,0,2) 0 0) (.ptr (u,25,5) 0 0) (.ptr (u,fA,7) 0 0) (.ptr (m.next,0,10) 0 0) M 2=K ->
  x3r (xsi d) hs m.next (.ptr (u,0,2) 0 0) (.ptr (u,25,5) 0 0) (.ptr (u,fA,7) 0 0) (.agg a.c) ⟨m.hp,m.next+1⟩ 0=K:=by
  intro K hK
  rw[<-hK]
  unfold x3r
  simp only[xvs,z_arc,xtp,Mem.get_new,x1gp]
  rw[show xui 5 0 0 (.agg a.c) (some (.row [I 0,I 0,I 0,I 0,I 0] 0 false))=some (.row a.c 0 false)from by rw[show a.c=[I a.edge,I a.to,I a.sign,I a.room,I a.cost]from rfl,x153];rfl]
  simp only[xsn]
  rw[<-hM]
 have pre:∀K,xsk (B (decide (x<at0 t.len a.to.toNat)))
  ((xui 1 0 a.to.toNat (I x) (some (.row (t.len.flatMap intE) 0 false))).bind λo1=>(xui 5 0 (a.to.toNat*5) (.agg a.c) (some (.row (t.last.flatMap Ar.c) 0 false))).bind λo2=>
    (xui 1 0 a.to.toNat (I v) (some (.row (t.bef.flatMap intE) 0 false))).bind λo3=>some (((M.set (u+1,sL,30) o1).set (u,16,26) o2).set (u,23,33) o3)) (some M)=K ->
  x7b (xsi d) hs m.next (.ptr (u,0,2) 0 0) (.ptr (u,25,5) 0 0) (.ptr (u,fA,7) 0 0) (.ptr (m.next,0,10) 0 0) M 2=K:=by
  intro K hK
  rw[<-hK]
  unfold x7b
  simp(disch:=omega)only[xtn,xsn,x1gl,xsv,G1,G3,G4,G7,g10,xt1,x1gd,xsr,x1g8,x1gr,rd_f,iLv,iLa,iBa,iAa,xum lv,xum la,xux,xvv,xso,hSe,sNil,xx1,xx2,iTv,iTa,xte lv2,xte la2,xta]
  rw[<-hx]
  simp only[xtp,G4,rd_5,xsn]
  by_cases hlt:x<at0 t.len a.to.toNat
  .simp only[hlt,x1gm,xt9]
   have la3:a.to.toNat<t.last.length:=by omega
   have la4:a.to.toNat<t.bef.length:=by omega
   have e1:=xvf (v:=x) la
   have e2:=x18z (x:=a) Ar.len la3 a.one
   have e3:=xvf (v:=v) la4
   have g26:(M.set (u+1,sL,30) (.row ((t.len.set a.to.toNat x).flatMap intE) 0 false)).get (u,16,26)=some (.row (t.last.flatMap Ar.c) 0 false):=by rw[Mem.get_set,x1g6 (by simp)];exact G5
   have g33:((M.set (u+1,sL,30) (.row ((t.len.set a.to.toNat x).flatMap intE) 0 false)).set (u,16,26) (.row ((t.last.set a.to.toNat a).flatMap Ar.c) 0 false)).get (u,23,33)=some (.row (t.bef.flatMap intE) 0 false):=by rw[Mem.get_set,x1g6 (by simp),Mem.get_set,x1g6 (by simp)];exact G6
   rw[show[I a.edge,I a.to,I a.sign,I a.room,I a.cost]=a.c from rfl]
   simp only[e1,xsn,g26,e2,g33,e3]
   simp[xsm,disj,tR,tS]
  .simp only[hlt,x1h9,xup]
 have fin:∀id:Id,id.1<=m.next->id.2.2≠10->M.get id=m.get id:=λid _ h10=>q id (by rintro rfl;simp at h10)
 by_cases hlt:x<at0 t.len a.to.toNat
 .have hR:xwd tu v t a=⟨t.len.set a.to.toNat x,t.last.set a.to.toNat a,t.bef.set a.to.toNat v⟩:=by
   unfold xwd
   simp only[<-hx,hlt,x1gp]
  have la3:a.to.toNat<t.last.length:=by omega
  have la4:a.to.toNat<t.bef.length:=by omega
  refine⟨((M.set (u+1,sL,30) (.row ((t.len.set a.to.toNat x).flatMap intE) 0 false)).set (u,16,26) (.row ((t.last.set a.to.toNat a).flatMap Ar.c) 0 false)).set (u,23,33) (.row ((t.bef.set a.to.toNat v).flatMap intE) 0 false),start _ (pre _ ?_),?_,?_,?_,?_,?_⟩
  .rw[x1h6 hlt,xt9,xvf la,xsn,x18z Ar.len la3 a.one,xsn,xvf la4,xsn]
  .rw[hR]
   refine⟨?_,?_,?_,?_,?_,?_,by simp[hll],by simp[hal],by simp[hbl],by simp[hMn];omega⟩
   .simp[Mem.get_set,G1]
   .simp[Mem.get_set,G2]
   .simp[Mem.get_set,G3]
   .simp[Mem.get_set]
   .simp[Mem.get_set]
   .simp[Mem.get_set]
  .simp[hMn]
  .intro id h1 h30 h26 h33 h10
   rw[Mem.get_set,x1g6 (by rintro rfl;simp at h33),Mem.get_set,x1g6 (by rintro rfl;simp at h26),Mem.get_set,x1g6 (by rintro rfl;simp at h30)]
   exact fin id h1 h10
  .rw[hR]
   intro w
   simp only
   rw[xue la]
   split
   .right;omega
   .exact hL w
  .rw[hR]
   simp only
   rw[xue la,x1g6 (by omega)]
 .have hR:xwd tu v t a=t:=by
   unfold xwd
   simp only[<-hx,hlt,x1gu]
  rw[hR]
  refine⟨M,start _ (pre _ ?_),⟨G1,G2,G3,G4,G5,G6,hll,hal,hbl,by omega⟩,by omega,λid h1 _ _ _ h10=>fin id h1 h10,hL,rfl⟩
  rw[x1ib hlt,xup]
def dn(ds:List Bool)(k:Nat):Bool:=ds.getD k true
theorem dn_lt{ds:List Bool}{k:Nat}(h:k<ds.length):dn ds k=ds[k]:=by
 unfold dn;rw[x1gk,x1gv h];rfl
theorem dn_set{ds:List Bool}{k j:Nat}(h:k<ds.length):dn (ds.set k true) j=if j=k then true else dn ds j:=by
 unfold dn
 rw[x1gk,x1gk,x1jd]
 by_cases e:k=j
 .subst e;simp[h]
 .rw[x1g6 e,x1g6 (λx=>e x.symm)]
def cntF:List Bool->Nat
 |[]=>0
 |d::r=>(if d=false then 1 else 0)+cntF r
theorem cntF_le:∀ds:List Bool,cntF ds<=ds.length
 |[]=>x1ga _
 |d::r=>by have:=cntF_le r;simp only[cntF,x1gq];split<;>omega
theorem x12o:∀{ds:List Bool} {k:Nat},k<ds.length->dn ds k=false->cntF (ds.set k true)+1=cntF ds
 |[],k,h,_=>by simp at h
 |d::r,0,h,hd=>by
  have:d=false:=hd
  subst this
  simp[cntF];omega
 |d::r,k+1,h,hd=>by
  have:=x12o (ds:=r) (k:=k) (by simpa using h) hd
  simp only[x1jy,cntF];omega
theorem x156(n:Nat):cntF (List.replicate n false)=n:=by
 induction n with
 |zero=>rfl
 |succ n ih=>rw[x1kb];simp only[cntF,ih,x1gp];omega
def PickI(len:List Int)(ds:List Bool)(k:Nat)(b:Int):Prop:=
 (b=-1/\∀i,i<k->dn ds i=false->farM<=at0 len i) \/
 (0<=b/\b.toNat<k/\dn ds b.toNat=false/\at0 len b.toNat<farM/\∀i,i<k->dn ds i=false->at0 len b.toNat<=at0 len i)
theorem x157{len:List Int}{ds:List Bool}(hl:ds.length=len.length):∀(xs:List Int) (dd:List Bool) (k:Nat) (b:Int),len.drop k=xs->ds.drop k=dd->k<=len.length->PickI len ds k b->PickI len ds len.length (xyg len b k xs dd)
 |[],dd,k,b,hx,hd,hk,h=>by
  have:=x1ha.mp hx
  have e:k=len.length:=by omega
  rw[<-e]
  cases dd<;>exact h
 |x::xs,dd,k,b,hx,hd,hk,h=>by
  obtain⟨hk1,hxe,hx'⟩:=xul hx
  have hk2:k<ds.length:=by omega
  have hdd:dd=dn ds k::ds.drop (k+1):=by rw[<-hd,xtm hk2,dn_lt hk2]
  rw[hdd]
  have e1:at0 len k=x:=by rw[xt5 hk1,hxe]
  simp only[xyg]
  have:=x157 hl xs (ds.drop (k+1)) (k+1) (if dn ds k=false/\x<farM/\(b<0\/x<at0 len b.toNat)then(k:Int)else b) hx' rfl (by omega) (by
   split
   .rename_i c
    obtain⟨c1,c2,c3⟩:=c
    right
    refine⟨by omega,by simp,by simpa using c1,by simpa[e1]using c2,λi hi hdi=>?_⟩
    simp only[x1gb,e1]
    by_cases e:i=k
    .subst e;omega
    .rcases h with ⟨h1,h2⟩|⟨h1,h2,h3,h4,h5⟩
     .have:=h2 i (by omega) hdi;omega
     .have:=h5 i (by omega) hdi
      rcases c3 with c3|c3<;>omega
   .rename_i c
    rcases h with ⟨h1,h2⟩|⟨h1,h2,h3,h4,h5⟩
    .left
     refine⟨h1,λi hi hdi=>?_⟩
     by_cases e:i=k
     .subst e
      rw[e1]
      by_cases c2:x<farM
      .exact absurd ⟨hdi,c2,Or.inl (by omega)⟩ c
      .omega
     .exact h2 i (by omega) hdi
    .right
     refine⟨h1,by omega,h3,h4,λi hi hdi=>?_⟩
     by_cases e:i=k
     .subst e
      rw[e1]
      by_cases c2:x<at0 len b.toNat
      .exact absurd ⟨hdi,by omega,Or.inr c2⟩ c
      .omega
     .exact h5 i (by omega) hdi)
  simpa using this
theorem x119{ds:List Bool}{k:Nat}{fz:Bool}(hk:k<ds.length):xxj false 1 0 k (some (.row (ds.map B) 0 fz))=some (B (dn ds k)):=by
 simp only[xxj,x1gd,cond_true,rd,x1h3,x1gu]
 rw[<-x1jv,xtm hk,dn_lt hk]
 rfl
theorem x1ce{ds:List Bool}{k:Nat}{v:Bool}(hk:k<ds.length):xui 1 0 k (B v) (some (.row (ds.map B) 0 false))=some (.row ((ds.set k v).map B) 0 false):=by
 have h:(0:Nat)=0/\(B v).cells.length=1/\k+1<=(ds.map B).length/\((B v).cells.all AV.one)=true:=⟨rfl,rfl,by simp;omega,rfl⟩
 rw[xvw,x1h6 h,cond_true]
 simp only[xth,cells_B]
 congr 2
 rw[List.map_set,x1kl,x1g7 (by simpa using hk)]
 simp
abbrev srL(u sL n:Nat):AV:=.sref (u+1,sL,30) 0 0 n 1 true
theorem l_pick(d:Nat)(hs:FHs){u sL fA n:Nat}{S:AV}{t:Tour}{dsA:List Bool}(hdl:dsA.length=n)(hn:n<=200)(rec0:AV->AV->AV->AV->Mem->Nat->Option (AV×Mem)) :
 ∀(xs:List Int) (dd:List Bool) (k j:Nat) (b:Int) (m:Mem) (fc:Nat),t.len.drop k=xs->dsA.drop k=dd->xs.length<j->(b<0\/(0<=b/\b<n))->WInv u sL S n t m->m.get (u,33,41)=some (.row (dsA.map B) 0 false)->m.get (u,fA,7)=some (.row [I b] 0 false) ->
 ∃m' fc',x3t (xsi d) hs u rec0 j (.ptr (u,0,2) 0 0) (.ptr (u,1,4) 0 0) (.ptr (u,25,5) 0 0) (srI (u,33,41) n) (.ptr (u,fA,7) 0 0) (srL u sL n) (I n) (I k) m fc =
  x3s (xsi d) hs u rec0 (.ptr (u,0,2) 0 0) (.ptr (u,1,4) 0 0) (.ptr (u,25,5) 0 0) (srI (u,33,41) n) (.ptr (u,fA,7) 0 0) m' fc' /\
  m'.get (u,fA,7)=some (.row [I (xyg t.len b k xs dd)] 0 false)/\m'.next=m.next/\∀id:Id,id≠(u,fA,7)->m'.get id=m.get id:=by
 intro xs
 induction xs with
 |nil=>
  intro dd k j b m fc hx hd hj hb hI hD hv
  obtain⟨j,rfl⟩:∃i,j=i+1:=⟨j-1,by simp at hj;omega⟩
  have hk:¬((k:Int)<(n:Int)):=by have:=x1ha.mp hx;have:=hI.ll;omega
  refine⟨m,fc+1,?_,by cases dd<;>exact hv,rfl,λ_ _=>rfl⟩
  simp only[x3t]
  unfold x7c
  simp[hk]
 |cons x xs ih=>
  intro dd k j b m fc hx hd hj hb hI hD hv
  obtain⟨j,rfl⟩:∃i,j=i+1:=⟨j-1,by simp at hj;omega⟩
  obtain⟨hk,hxe,hx'⟩:=xul hx
  have hkn:k<n:=by have:=hI.ll;omega
  have hk2:k<dsA.length:=by omega
  have hdd:dd=dn dsA k::dsA.drop (k+1):=by rw[<-hd,xtm hk2,dn_lt hk2]
  have e1:at0 t.len k=x:=by rw[xt5 hk,hxe]
  have hk':(k:Int)<(n:Int):=by omega
  have i1:sIx 1 (srL u sL n) (I k)=some (.ptr (u+1,sL,30) 0 k):=by simpa using xtu (id:=(u+1,sL,30)) (n:=n) (k:=(k:Int)) (by omega) hk'
  have i2:sIx 1 (srI (u,33,41) n) (I k)=some (.ptr (u,33,41) 0 k):=by simpa using xtu (id:=(u,33,41)) (n:=n) (k:=(k:Int)) (by omega) hk'
  obtain⟨nb,hnb⟩:∃nb,nb=(if dn dsA k=false/\x<farM/\(b<0\/x<at0 t.len b.toNat)then(k:Int)else b):=⟨_,rfl⟩
  have hnb2:nb<0\/(0<=nb/\nb<n):=by rw[hnb];split<;>omega
  rw[hdd]
  simp only[xyg]
  rw[<-hnb]
  have hbl:¬b<0->b.toNat<t.len.length:=λh=>by have:=hI.ll;omega
  have i3:¬b<0->sIx 1 (srL u sL n) (I b)=some (.ptr (u+1,sL,30) 0 b.toNat):=λh=>xtu (by omega) (by omega)
  by_cases c:dn dsA k=false/\x<farM/\(b<0\/x<at0 t.len b.toNat)
  .rw[x1g7 c]at hnb
   obtain⟨M,hM⟩:∃M,M=m.set (u,fA,7) (.row [I k] 0 false):=⟨_,rfl⟩
   have q:∀id:Id,id≠(u,fA,7)->M.get id=m.get id:=λid hid=>by rw[hM,Mem.get_set,x1g6 hid]
   have hMn:M.next=m.next:=by rw[hM];rfl
   obtain⟨m',fc',h1,h2,h3,h4⟩:=ih (dsA.drop (k+1)) (k+1) j nb M (fc+1+29+2) hx' rfl (by simp at hj;omega) hnb2 (hI.frame (λid _ h7 _=>q id (by rintro rfl;simp at h7)) (by rw[hMn];exact x1ga _)) (by rw[q _ (by simp)];exact hD) (by rw[hM,hnb];simp)
   refine⟨m',fc',?_,by simpa using h2,by rw[h3,hMn],λid hid=>by rw[h4 id hid,q id hid]⟩
   rw[<-h1]
   obtain⟨c1,c2,c3⟩:=c
   simp only[x3t]
   unfold x7c xco
   by_cases hb0:b<0
   .simp(disch:=omega) [hk',i1,i2,hI.len,hD,xum hk,x119 hk2,e1,c1,c2,hv,hb0,x1z]
    rw[<-hM]
   .have c3':x<at0 t.len b.toNat:=by rcases c3 with c3|c3;exact absurd c3 hb0;exact c3
    simp(disch:=omega) [hk',i1,i2,i3 hb0,hI.len,hI.t5,hD,xum hk,xum (hbl hb0),x119 hk2,e1,c1,c2,hv,hb0,c3',x1z]
    rw[<-hM]
  .rw[x1g6 c]at hnb
   obtain⟨m',fc',h1,h2,h3,h4⟩:=ih (dsA.drop (k+1)) (k+1) j nb m (fc+1+27+2) hx' rfl (by simp at hj;omega) hnb2 hI hD (by rw[hnb];exact hv)
   refine⟨m',fc',?_,by simpa using h2,h3,h4⟩
   rw[<-h1]
   simp only[x3t]
   unfold x7c xco
   cases c1:dn dsA k
   rotate_left
   .simp(disch:=omega) [hk',i1,i2,hI.len,hD,xum hk,x119 hk2,e1,c1,hv,x1z]
   by_cases c2:x<farM
   rotate_left
   .simp(disch:=omega) [hk',i1,i2,hI.len,hD,xum hk,x119 hk2,e1,c1,c2,hv,x1z]
   by_cases hb0:b<0
   .exact absurd ⟨c1,c2,Or.inl hb0⟩ c
   by_cases c3:x<at0 t.len b.toNat
   .exact absurd ⟨c1,c2,Or.inr c3⟩ c
   simp(disch:=omega) [hk',i1,i2,i3 hb0,hI.len,hI.t5,hD,xum hk,xum (hbl hb0),x119 hk2,e1,c1,c2,hv,hb0,c3,x1z]
abbrev GB:Int:=2001000
theorem x1cf(d:Nat)(hs:FHs){u sL n:Nat}{S:AV}{l:List Edge}{fl tu ex:List Int}(hS:FrzS S n l fl tu ex){t:Tour}{ds:List Bool}(hdl:ds.length=n){b p:Int}(hb:0<=b)(hb2:b<=1000000000)(p0:0<=p)(p1:p<n)(hlp:-b<=at0 t.len p.toNat/\at0 t.len p.toNat<=b)(hL:LenB b t.len){fA:Nat}{m:Mem}(hI:WInv u sL S n t m)(hD:m.get (u,33,41)=some (.row (ds.map B) 0 false))(hv:m.get (u,fA,7)=some (.row [I p] 0 false))(rec0:AV->AV->AV->AV->Mem->Nat->Option (AV×Mem))(fc:Nat) :
 ∃m' fc',x3s (xsi (d+1)) hs u rec0 (.ptr (u,0,2) 0 0) (.ptr (u,1,4) 0 0) (.ptr (u,25,5) 0 0) (srI (u,33,41) n) (.ptr (u,fA,7) 0 0) m fc =
  rec0 (.ptr (u,0,2) 0 0) (.ptr (u,1,4) 0 0) (.ptr (u,25,5) 0 0) (srI (u,33,41) n) m' fc' /\
  WInv u sL S n (x107 l fl tu p t) m'/\m'.get (u,33,41)=some (.row ((ds.set p.toNat true).map B) 0 false)/\LenB (b+GB) (x107 l fl tu p t).len:=by
 have pl:p.toNat<ds.length:=by omega
 have i2:sIx 1 (srI (u,33,41) n) (I p)=some (.ptr (u,33,41) 0 p.toNat):=xtu p0 p1
 obtain⟨ev,F,TU,X,cells,bb,hSe,hev,hF,hTU,hX,hcl,hcs⟩:=hS.sh
 have hSc:S.cells=[S]:=by rw[hSe];rfl
 have hSo:S.one=true:=by rw[hSe];rfl
 obtain⟨m7,hm7⟩:∃m7,m7=m.set (u,33,41) (.row ((ds.set p.toNat true).map B) 0 false):=⟨_,rfl⟩
 have q7:∀id:Id,id≠(u,33,41)->m7.get id=m.get id:=λid hid=>by rw[hm7,Mem.get_set,x1g6 hid]
 have n7:m7.next=m.next:=by rw[hm7];rfl
 obtain⟨u1,hu1⟩:∃u1,u1=m7.next:=⟨_,rfl⟩
 obtain⟨m8,hm8⟩:∃m8,m8=((⟨m7.hp,m7.next+1⟩:Mem).new (m7.next,0,2) (.row [S] 0 false)).new (m7.next,1,3) (.row [I p] 0 false):=⟨_,rfl⟩
 have q8:∀id:Id,id.1<m7.next->m8.get id=m7.get id:=λid hid=>by
  rw[hm8,Mem.get_new,x1g6 (by rintro rfl;simp at hid),Mem.get_new,x1g6 (by rintro rfl;simp at hid)];rfl
 have n8:m8.next=m7.next+1:=by rw[hm8];rfl
 have harcs:xsi (d+1) hs x40 [S,I p] m7=some (.clo x23 [.ptr (m7.next,0,2) 0 0,.ptr (m7.next,1,3) 0 0],m8):=by
  rw[xow]
  unfold xdi xd9
  simp only[xxi,hSc,x1h4,x1hn,hSo,x1hp,xsr,x121,one_I]
  rw[hm8]
 have hun:=hI.nx
 have hA:Ints cells[p.toNat] (adjI l p):=by
  have:=hcs p.toNat (by omega)
  rwa[x1hg p0]at this
 have ixA:sIx 1 (.slit cells n bb) (I p)=some (.plit (cells.drop p.toNat)):=by simp[sIx,asI,p0,p1]
 have ldA:∀m,sLd false 1 (.plit (cells.drop p.toNat)) m=some cells[p.toNat]:=λm=>by rw[xtm (by omega)];rfl
 obtain⟨Inv,hInv⟩:∃Inv:Tour->Mem->Prop,Inv=λt' m'=>WInv u sL S n t' m'/\m'.get (u,33,41)=some (.row ((ds.set p.toNat true).map B) 0 false)/\m'.get (u,fA,7)=some (.row [I p] 0 false) /\
  m'.get (m7.next,0,2)=some (.row [S] 0 false)/\m'.get (m7.next,1,3)=some (.row [I p] 0 false)/\LenB (b+GB) t'.len/\at0 t'.len p.toNat=at0 t.len p.toNat:=⟨_,rfl⟩
 have h0:Inv t ⟨m8.hp,m8.next+1⟩:=by
  rw[hInv]
  have g:∀id,(⟨m8.hp,m8.next+1⟩:Mem).get id=m8.get id:=λ_=>rfl
  refine⟨hI.frame (λid h1 h2 h3=>?_) (by simp only[n8,n7];omega),?_,?_,?_,?_,λv=>?_,rfl⟩
  .rw[g,q8 _ (by omega),q7 _ (by rintro rfl;simp at h3)]
  .rw[g,q8 _ (by simp only;omega),hm7];simp
  .rw[g,q8 _ (by simp only;omega),q7 _ (by simp)];exact hv
  .rw[g,hm8];simp
  .rw[g,hm8];simp
  .have:=hL v;have hG:GB=2001000:=rfl;omega
 obtain⟨m10,h5,h6⟩:=l_arcs (xsi d) hs m8.next (u,fc+9,0) (m7.next,0,2) (m7.next,1,3)
  (λargs m=>bif Nat.beq args.length 1&&true then x3r (xsi (d+1)) hs m.next (.ptr (u,0,2) 0 0) (.ptr (u,25,5) 0 0) (.ptr (u,fA,7) 0 0) (args.getD 0 U) ⟨m.hp,m.next+1⟩ 0 else none) hS hA Inv (xwd tu p)
  (by
   intro t' m1 m2 hh hg hn
   rw[hInv]at hh ⊢
   obtain⟨a1,a2,a3,a4,a5,a6,a7⟩:=hh
   refine⟨a1.frame (λid hid _ _=>hg id (by omega)) hn,?_,?_,?_,?_,a6,a7⟩<;>rw[hg _ (by simp only;omega)]<;>assumption)
  (by
   intro t' m1 hh
   rw[hInv]at hh
   exact⟨hh.2.2.2.1,hh.2.2.2.2.1⟩)
  (by simp only;omega) (by simp only;omega)
  (by
   intro t' m1 i hi hr hh hu
   rw[hInv]at hh ⊢
   obtain⟨a1,a2,a3,a4,a5,a6,a7⟩:=hh
   obtain⟨z0,z1,z2,z3,z4⟩:=arcAt_in hS hi
   obtain⟨m2,e1,e2,e3,e4,e5,e6⟩:=ways_step (d+1) hs hS (b:=b) a1 a3 p0 p1 z0 z1 z2 z3 z4 hb (by omega) (by rw[a7];exact hlp) a6
   refine⟨m2,by simpa using e1,⟨e2,?_,?_,?_,?_,e5,by rw[e6,a7]⟩,e3⟩<;>rw[e4 _ (by simp only;omega) (by simp) (by simp) (by simp) (by simp)]<;>assumption)
  rfl (adjI l p) 0 NN t ⟨m8.hp,m8.next+1⟩ 9 rfl (by
   have:(adjI l p).length<=600:=by
    unfold adjI
    rw[x1ix]
    have:=x1it (λi=>decide ((edgeAt l i).fr=p)||decide ((edgeAt l i).to=p)) (List.range l.length)
    rw[x1je]at this
    have:=hS.ll
    omega
   rw[xsu];omega) h0 (by simp only;omega)
 rw[hInv]at h6
 obtain⟨a1,a2,a3,a4,a5,a6,a7⟩:=h6
 refine⟨m10,fc+9+1,?_,a1,a2,a6⟩
 have harcs1:xsi (d+1) (((u,fc+9,0),(λargs m=>bif Nat.beq args.length 1&&true then x3r (xsi (d+1)) hs m.next (.ptr (u,0,2) 0 0) (.ptr (u,25,5) 0 0) (.ptr (u,fA,7) 0 0) (args.getD 0 U) ⟨m.hp,m.next+1⟩ 0 else none))::hs) x23 [.yld (u,fc+9,0),.ptr (m7.next,0,2) 0 0,.ptr (m7.next,1,3) 0 0] m8=some (.tup [],m10):=by
  rw[xoz]
  unfold xdf xdd
  have g1:(⟨m8.hp,m8.next+1⟩:Mem).get (m7.next,0,2)=some (.row [S] 0 false):=by show m8.get _=_;rw[hm8];simp
  have g2:(⟨m8.hp,m8.next+1⟩:Mem).get (m7.next,1,3)=some (.row [I p] 0 false):=by show m8.get _=_;rw[hm8];simp
  simp only[xsv,g1,g2,xt1,x1gd,xsr,x1g8,rd_f,xsn,hSe,sNil,xx1,x1gr,xx2,ixA,ldA,hA.len xt8]
  exact h5
 unfold x3s
 simp only[xsv,hv,xt1,x1gd,xsr,x1g8,rd_f,xsn,xta,show ¬p<0 from by omega,x1h9,xup,i2,xtp,hD,x1ce pl]
 rw[<-hm7]
 have g1:m7.get (u,0,2)=some (.row [S] 0 false):=by rw[q7 _ (by simp)];exact hI.s
 have g2:m7.get (u,fA,7)=some (.row [I p] 0 false):=by rw[q7 _ (by simp)];exact hv
 simp only[xsv,g1,g2,xt1,x1gd,xsr,x1g8,rd_f,xsn,harcs]
 unfold xkn
 simp only[sRng]
 rw[harcs1]
 rfl
structure WOut (u sL n:Nat) (t:Tour) (m:Mem):Prop where
 len:m.get (u+1,sL,30)=some (.row (t.len.flatMap intE) 0 false)
 last:m.get (u,16,26)=some (.row (t.last.flatMap Ar.c) 0 false)
 bef:m.get (u,23,33)=some (.row (t.bef.flatMap intE) 0 false)
 ll:t.len.length=n
 al:t.last.length=n
 bl:t.bef.length=n
 nx:u+1<m.next
theorem l_ways(d:Nat)(hs:FHs){u sL n:Nat}{S:AV}{l:List Edge}{fl tu ex:List Int}(hS:FrzS S n l fl tu ex) :
 ∀(j:Nat) (t:Tour) (ds:List Bool) (m:Mem) (fc:Nat),cntF ds<j->ds.length=n->LenB ((n-cntF ds:Nat)*GB) t.len->WInv u sL S n t m->m.get (u,33,41)=some (.row (ds.map B) 0 false) ->
 ∃m',x1b (xsi (d+1)) hs u j (.ptr (u,0,2) 0 0) (.ptr (u,1,4) 0 0) (.ptr (u,25,5) 0 0) (srI (u,33,41) n) m fc =
  some (.agg [srL u sL n,.sref (u,16,26) 0 0 n 5 true,.sref (u,23,33) 0 0 n 1 true],m') /\
  WOut u sL n (xyh l fl tu j t ds) m'/\LenB ((200:Nat)*GB) (xyh l fl tu j t ds).len:=by
 intro j
 have hG:GB=2001000:=rfl
 induction j with
 |zero=>intro t ds m fc h;omega
 |succ j ih=>
  intro t ds m fc hc hdl hL hI hD
  have hn0:=hS.n0
  obtain⟨M,hM⟩:∃M,M=(m.new (u,fc,7) (.row [I 0] 0 false)).set (u,fc,7) (.row [I (-1)] 0 false):=⟨_,rfl⟩
  have q:∀id:Id,id≠(u,fc,7)->M.get id=m.get id:=λid hid=>by rw[hM,Mem.get_set,x1g6 hid,Mem.get_new,x1g6 hid]
  have hMn:M.next=m.next:=by rw[hM];rfl
  have hIM:WInv u sL S n t M:=hI.frame (λid _ h7 _=>q id (by rintro rfl;simp at h7)) (by rw[hMn];exact x1ga _)
  have hDM:M.get (u,33,41)=some (.row (ds.map B) 0 false):=by rw[q _ (by simp)];exact hD
  obtain⟨m1,f1,h1,h2,h3,h4⟩:=l_pick (d+1) hs (fA:=fc) hdl hn0 (x1b (xsi (d+1)) hs u j) t.len ds 0 NN (-1) M (fc+2+4) rfl rfl (by have:=hI.ll;rw[xsu];omega) (Or.inl (by omega)) hIM hDM (by rw[hM];simp)
  have hI1:WInv u sL S n t m1:=hIM.frame (λid _ h7 _=>h4 id (by rintro rfl;simp at h7)) (by rw[h3];exact x1ga _)
  have hD1:m1.get (u,33,41)=some (.row (ds.map B) 0 false):=by rw[h4 _ (by simp)];exact hDM
  have hsp:=x157 (len:=t.len) (ds:=ds) (by rw[hI.ll];exact hdl) t.len ds 0 (-1) rfl rfl (by omega) (Or.inl ⟨rfl,λi hi=>by omega⟩)
  rw[show((0:Nat):Int)=0 from rfl]at h1 h2 hsp
  obtain⟨p,hp⟩:∃p,p=xyg t.len (-1) 0 t.len ds:=⟨_,rfl⟩
  rw[<-hp]at h2 hsp
  have start:x1b (xsi (d+1)) hs u (j+1) (.ptr (u,0,2) 0 0) (.ptr (u,1,4) 0 0) (.ptr (u,25,5) 0 0) (srI (u,33,41) n) m fc=x3s (xsi (d+1)) hs u (x1b (xsi (d+1)) hs u j) (.ptr (u,0,2) 0 0) (.ptr (u,1,4) 0 0) (.ptr (u,25,5) 0 0) (srI (u,33,41) n) (.ptr (u,fc,7) 0 0) m1 f1:=by
   rw[<-h1]
   rw[x1b]
   unfold xkp xko
   have hst:xui 1 0 0 (I (-1)) (some (.row [I 0] 0 false))=some (.row [I (-1)] 0 false):=rfl
   simp only[xvs,xu3,xtp,Mem.get_new,x1gp,hst,xsn]
   rw[<-hM]
   simp only[xtn,xsn,x1gl,xsv,hIM.t5,xt1,x1gd,xsr,x1g8,rd_f]
   rfl
  rw[start]
  simp only[xyh]
  rw[<-hp]
  have hcle:=cntF_le ds
  by_cases c:p<0
  .rw[x1g7 c]
   obtain⟨m2,hm2⟩:∃m2,m2=m1.set (u,1,4) (.row [srL u sL n,.sref (u,16,26) 0 0 n 5 true,.sref (u,23,33) 0 0 n 1 true] 0 false):=⟨_,rfl⟩
   obtain⟨a1,a2,a3,a4,a5,a6,a7,a8,a9,a10⟩:=hI1
   refine⟨m2,?_,⟨?_,?_,?_,a7,a8,a9,by rw[hm2];exact a10⟩,?_⟩
   .unfold x3s
    have hst:∀x y z:AV,x.cells=[x]->y.cells=[y]->z.cells=[z]->x.one=true->y.one=true->z.one=true->xui 3 0 0 (.agg [x,y,z]) (some (.row [nilS,nilS,nilS] 0 false))=some (.row [x,y,z] 0 false):=by
     intro x y z _ _ _ h1 h2 h3
     rw[xvw]
     simp[xth,h1,h2,h3]
    simp only[xsv,h2,xt1,x1gd,xsr,x1g8,rd_f,xsn,xta,c,x1gm,xt9,a3,rd_3,xtp,a2]
    rw[hst _ _ _ rfl rfl rfl rfl rfl rfl]
    simp only[xsn]
    rw[<-hm2]
    have g4:m2.get (u,1,4)=some (.row [srL u sL n,.sref (u,16,26) 0 0 n 5 true,.sref (u,23,33) 0 0 n 1 true] 0 false):=by rw[hm2];simp
    simp only[sLdP,xsv,g4,xt1,x1gd,xsr,x1g8,rd_3,xsn]
   .rw[hm2,Mem.get_set,x1g6 (by simp)];exact a4
   .rw[hm2,Mem.get_set,x1g6 (by simp)];exact a5
   .rw[hm2,Mem.get_set,x1g6 (by simp)];exact a6
   .intro v
    have h:=hL v
    have:((n-cntF ds:Nat):Int)*GB<=(200:Nat)*GB:=x1kr (by omega) (by omega)
    omega
  .rw[x1g6 c]
   rcases hsp with ⟨hsp,_⟩|⟨s1,s2,s3,s4,s5⟩
   .omega
   have hpl:=hL p.toNat
   have hpn:p<n:=by rw[hI.ll]at s2;omega
   have hcs:=x12o (ds:=ds) (k:=p.toNat) (by omega) s3
   obtain⟨m2,f2,e1,e2,e3,e4⟩:=x1cf d hs hS hdl (b:=(n-cntF ds:Nat)*GB) (x1le (by omega) (by omega)) (by
    have:((n-cntF ds:Nat):Int)*GB<=200*GB:=x1kr (by omega) (by omega)
    omega) s1 hpn (by rcases hpl with h|h;omega;exact h) hL hI1 hD1 h2 (x1b (xsi (d+1)) hs u j) f1
   rw[e1]
   exact ih _ _ m2 f2 (by omega) (by simp[hdl]) (by
    have:((n-cntF (ds.set p.toNat true):Nat):Int)*GB=(n-cntF ds:Nat)*GB+GB:=by
     rw[show n-cntF (ds.set p.toNat true)=(n-cntF ds)+1 by omega,Int.natCast_add,Int.add_mul];omega
    rw[this];exact e4) e2 e3
theorem z_tour:x75=[nilS,nilS,nilS]:=by kernel_rfl
theorem zb_bool:x1a=[B false]:=by kernel_rfl
def xv5(n:Nat)(p:Int):Tour:=⟨(List.replicate n farM).set p.toNat 0,List.replicate n a00,List.replicate n 0⟩
def waysF(n:Nat)(l:List Edge)(fl tu:List Int)(p:Int):Tour:=xyh l fl tu NN (xv5 n p) (List.replicate n false)
theorem mkSl_bool{R:Type}{n:Nat}{id:Id}{m:Mem}(k:AV->Mem->Option R)(hn:n<=200):xty [B false] 1 1 (I n) (I n) id m k=k (srI id n) (m.new id (.row ((List.replicate n false).map B) 0 false)):=by
 simp only[xty,asI]
 rw[x1g7 ⟨by omega,x1ho _,by omega,by omega⟩]
 have:xtq [B false] (((n:Int).toNat)*1)=(List.replicate n false).map B:=by
  simp only[xtq,List.map_replicate,x1gb,x1i4]
  apply x1j2
  .simp
  .intro i h1 h2
   simp[Nat.mod_one]
 rw[this]
 simp
theorem mkSl_arc{R:Type}{n:Nat}{id:Id}{m:Mem}(k:AV->Mem->Option R)(hn:n<=200):xty [I 0,I 0,I 0,I 0,I 0] 5 40 (I n) (I n) id m k=k (.sref id 0 0 n 5 true) (m.new id (.row ((List.replicate n a00).flatMap Ar.c) 0 false)):=by
 simp only[xty,asI]
 rw[x1g7 ⟨by omega,x1ho _,by omega,by omega⟩]
 have hz:∀k:Nat,(List.replicate k a00).flatMap Ar.c=List.replicate (k*5) (I 0):=by
  intro k
  induction k with
  |zero=>rfl
  |succ k ih=>rw[x1kb,x1gy,ih,x1hb,x1jg,<-x1li];rfl
 have:xtq [I 0,I 0,I 0,I 0,I 0] (((n:Int).toNat)*5)=(List.replicate n a00).flatMap Ar.c:=by
  rw[hz]
  simp only[xtq,x1gb]
  apply x1j2
  .simp
  .intro i h1 h2
   simp only[x1k7,List.getElem_range,List.getElem_replicate]
   have:i % 5<5:=x1k3 _ (by omega)
   match i % 5,this with
   |0,_=>rfl
   |1,_=>rfl
   |2,_=>rfl
   |3,_=>rfl
   |4,_=>rfl
   |k+5,h=>omega
 rw[this]
 simp
theorem w_ways(d:Nat){n:Nat}{S:AV}{l:List Edge}{fl tu ex:List Int}(hS:FrzS S n l fl tu ex){p:Int}(p0:0<=p)(p1:p<n)(u:Nat) :
 ∃sL m',xsi (d+4) [] x24 [S,I p] ⟨[],u⟩=some (.agg [srL u sL n,.sref (u,16,26) 0 0 n 5 true,.sref (u,23,33) 0 0 n 1 true],m')/\WOut u sL n (waysF n l fl tu p) m'/\LenB ((200:Nat)*GB) (waysF n l fl tu p).len:=by
 have hn0:=hS.n0
 obtain⟨ev,F,TU,X,cells,bb,hSe,hev,hF,hTU,hX,hcl,hcs⟩:=hS.sh
 have hSc:S.cells=[S]:=by rw[hSe];rfl
 have hSo:S.one=true:=by rw[hSe];rfl
 obtain⟨sL,mR,hR,hRg,hRn⟩:=x18w d (u+1) farM hn0
 obtain⟨m1,hm1⟩:∃m1,m1=((⟨[],u+1⟩:Mem).new (u,0,2) (.row [S] 0 false)).new (u,1,4) (.row [nilS,nilS,nilS] 0 false):=⟨_,rfl⟩
 have n1:m1.next=u+1:=by rw[hm1];rfl
 obtain⟨m2,hC,hCn,hCg⟩:=xz4 (call:=xsi (d+3)) (f:=xv) (l:=[.slit [I farM] 1 true,I n]) (m:=m1) (m':=mR) (r:=.sref (u+1,sL,30) 0 0 n 1 true) rfl (by rw[n1];exact hR)
 have g2:m2.get (u,0,2)=some (.row [S] 0 false):=by rw[hCg,x1g6 (by simp only[n1];omega),hm1];simp
 have g4:m2.get (u,1,4)=some (.row [nilS,nilS,nilS] 0 false):=by rw[hCg,x1g6 (by simp only[n1];omega),hm1];simp
 have gL:m2.get (u+1,sL,30)=some (.row ((List.replicate n farM).flatMap intE) 0 false):=by rw[hCg,x1g7 (by simp only[n1];omega)];exact hRg
 have nm2:m2.next=u+2:=by rw[hCn,hRn]
 obtain⟨m3,hm3⟩:∃m3,m3=m2.new (u,16,26) (.row ((List.replicate n a00).flatMap Ar.c) 0 false):=⟨_,rfl⟩
 obtain⟨m4,hm4⟩:∃m4,m4=m3.new (u,23,33) (.row ((List.replicate n (0:Int)).flatMap intE) 0 false):=⟨_,rfl⟩
 obtain⟨m5,hm5⟩:∃m5,m5=(m4.new (u,25,5) (.row [nilS,nilS,nilS] 0 false)).set (u,25,5) (.row [srL u sL n,.sref (u,16,26) 0 0 n 5 true,.sref (u,23,33) 0 0 n 1 true] 0 false):=⟨_,rfl⟩
 obtain⟨m6,hm6⟩:∃m6,m6=m5.new (u,33,41) (.row ((List.replicate n false).map B) 0 false):=⟨_,rfl⟩
 obtain⟨m7,hm7⟩:∃m7,m7=m6.set (u+1,sL,30) (.row (((List.replicate n farM).set p.toNat 0).flatMap intE) 0 false):=⟨_,rfl⟩
 have hI:WInv u sL S n (xv5 n p) m7:=by
  refine⟨?_,?_,?_,?_,?_,?_,by simp[xv5],by simp[xv5],by simp[xv5],by rw[hm7,hm6,hm5,hm4,hm3];simp only[Mem.next_set,Mem.next_new];omega⟩
  .rw[hm7,hm6,hm5,hm4,hm3];simp[Mem.get_set,Mem.get_new,g2]
  .rw[hm7,hm6,hm5,hm4,hm3];simp[Mem.get_set,Mem.get_new,g4]
  .rw[hm7,hm6,hm5];simp[Mem.get_set,Mem.get_new]
  .rw[hm7];simp[xv5]
  .rw[hm7,hm6,hm5,hm4,hm3];simp[Mem.get_set,Mem.get_new,xv5]
  .rw[hm7,hm6,hm5,hm4];simp[Mem.get_set,Mem.get_new,xv5]
 have hD:m7.get (u,33,41)=some (.row ((List.replicate n false).map B) 0 false):=by rw[hm7,hm6];simp[Mem.get_set,Mem.get_new]
 have hcn:=x156 n
 obtain⟨m',h1,h2,h3⟩:=l_ways (d+2) [] hS NN (xv5 n p) (List.replicate n false) m7 40 (by rw[hcn,xsu];omega) (by simp) (by
  intro v
  rw[hcn,x1ip]
  unfold xv5
  simp only
  rw[xue (by simp;omega)]
  split
  .right;omega
  .unfold at0
   rw[x1gk,x1jw]
   split
   .left;rfl
   .right;simp) hI hD
 refine⟨sL,m',?_,h2,h3⟩
 rw[xol]
 unfold xdh xcp
 have hb:∀x y z:AV,x.cells=[x]->y.cells=[y]->z.cells=[z]->xsw [nilS,nilS,nilS] [(0,1,x),(1,1,y),(2,1,z)]=some (.agg [x,y,z]):=by
  intro x y z h1 h2 h3
  simp[xsw,xtj,h1,h2,h3]
 have hst:∀x y z:AV,x.one=true->y.one=true->z.one=true->xui 3 0 0 (.agg [x,y,z]) (some (.row [nilS,nilS,nilS] 0 false))=some (.row [x,y,z] 0 false):=by
  intro x y z h1 h2 h3
  rw[xvw]
  simp[xth,h1,h2,h3]
 have gm1:m1.get (u,0,2)=some (.row [S] 0 false):=by rw[hm1];simp
 simp only[xxi,hSc,x1h4,x1hn,hSo,x1hp,xsr,xvs,z_tour,xu3,xwn]
 rw[<-hm1]
 simp only[xsv,gm1,xt1,x1gd,xsr,x1g8,rd_f,xsn,hSe,sNil,xx1,xx2,x1gl]
 rw[<-hSe,hC]
 have g2':=g2
 have g3:m3.get (u,0,2)=some (.row [S] 0 false):=by rw[hm3];simp[Mem.get_new,g2]
 have g5:m5.get (u,0,2)=some (.row [S] 0 false):=by rw[hm5,hm4];simp[Mem.get_set,Mem.get_new,g3]
 simp only[xsn,xsv,g2,xt1,x1gd,xsr,x1g8,rd_f]
 simp only[hSe,sNil,xsn,xx1,xx2,x1g8,rd_f,z_arc,mkSl_arc _ hn0]
 rw[<-hSe,<-hm3]
 simp only[xsn,xsv,g3,xt1,x1gd,xsr,x1g8,rd_f]
 simp only[hSe,sNil,xsn,xx1,xx2,x1g8,rd_f,x112 (show(0:Int)<=(n:Int) by omega) (show(n:Int)<=1000000 by omega),x1gb]
 rw[<-hSe,<-hm4,hb _ _ _ rfl rfl rfl]
 simp only[xsn,xtp,Mem.get_new,x1gp]
 rw[hst _ _ _ rfl rfl rfl]
 simp only[xsn]
 rw[<-hm5]
 have hTR:tR S=(some [],some []):=by rw[hSe];rfl
 have hTp:∀(id:Id) (a b:Nat),tR (.ptr id a b)=(some [id],some []):=λ_ _ _=>rfl
 have hTl:∀(cs:List AV),tR (.plit cs)=(some [],some []):=λ_=>rfl
 have hbb:(u+1).ble (u+1)=true:=x1kj (x1ga _)
 simp[xsm,disj,cAp,n1,Nat.blt,hTR,hTp,hTl,hbb]
 simp only[xsn,xsv,g5,xt1,x1gd,xsr,x1g8,rd_f]
 simp only[hSe,sNil,xsn,xx1,xx2,x1g8,rd_f,zb_bool,mkSl_bool _ hn0]
 rw[<-hm6]
 have g55:m6.get (u,25,5)=some (.row [srL u sL n,.sref (u,16,26) 0 0 n 5 true,.sref (u,23,33) 0 0 n 1 true] 0 false):=by rw[hm6,hm5];simp[Mem.get_set,Mem.get_new]
 have g6L:m6.get (u+1,sL,30)=some (.row ((List.replicate n farM).flatMap intE) 0 false):=by rw[hm6,hm5,hm4,hm3];simp[Mem.get_set,Mem.get_new,gL]
 have iLp:sIx 1 (.sref (u+1,sL,30) 0 0 n 1 true) (I p)=some (.ptr (u+1,sL,30) 0 p.toNat):=xtu p0 p1
 have hstL:=xvf (l:=List.replicate n farM) (k:=p.toNat) (v:=0) (by simp;omega)
 simp only[xsv,g55,xt1,x1gd,xsr,x1g8,rd_f,xsn,iLp,xtp,g6L,hstL]
 rw[<-hm7]
 exact h1
end Go.Ix
