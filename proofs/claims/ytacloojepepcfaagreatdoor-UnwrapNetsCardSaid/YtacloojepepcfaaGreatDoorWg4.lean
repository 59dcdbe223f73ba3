import Derived.Test.YtacloojepepcfaaGreatDoorWg2
import Derived.Test.YtacloojepepcfaaGreatDoorFxSound
set_option linter.unusedSimpArgs false
set_option linter.unusedVariables false
namespace Go.Ix
open Go.Proofs
variable{α:Type}{z:Nat}{enc:α->List AV}{l:List α}{a:AV}
def Gk{α:Type}(z:Nat)(enc:α->List AV)(ok:Id->Prop)(m:Mem)(a:AV)(l:List α):Prop:=
 (a=nilS/\l=[])\/∃id ver,ok id/\a=.sref id ver 0 l.length z true/\m.get id=some (.row (l.flatMap enc) ver false)
theorem Gk.nil{ok:Id->Prop}{m:Mem}:Gk z enc ok m nilS []:=Or.inl ⟨rfl,rfl⟩
theorem Gk.frame{ok:Id->Prop}{m m':Mem}(h:Gk z enc ok m a l)(hm:∀id,ok id->m'.get id=m.get id):Gk z enc ok m' a l:=by
 rcases h with h|⟨id,ver,h0,h1,h2⟩
 .exact Or.inl h
 .exact Or.inr ⟨id,ver,h0,h1,by rw[hm _ h0];exact h2⟩
theorem Gk.app(hz:∀x,(enc x).length=z)(h0:0<z){bytes:Nat}{ok:Id->Prop}{id0:Id}{m:Mem}(ht:ok id0)(hr:xpc (l.length+1) bytes)(h:Gk z enc ok m a l)(x:α) :
 ∃a' m',(∀{R:Type} (k:AV->Mem->Option R),sApp z bytes id0 (some (enc x,1)) a m k=k a' m')/\Gk z enc ok m' a' (l++[x])/\a'.cells=[a']/\a'.one=true/\m'.next=m.next/\∀j:Id,¬ok j->m'.get j=m.get j:=by
 rcases h with ⟨rfl,rfl⟩|⟨id,ver,h1,rfl,hg⟩
 .refine⟨.sref id0 0 0 1 z true,m.new id0 (.row (enc x) 0 false),λk=>?_,Or.inr ⟨id0,0,ht,rfl,by simp⟩,rfl,rfl,rfl,λj hj=>?_⟩
  .simp only[sApp]
   rw[x17t (by omega),x17u (by simpa using hr)]
  .rw[Mem.get_new,x17t (by rintro rfl;exact hj ht)]
 .have hl:=xrp hz l
  refine⟨.sref id (ver+1) 0 (l.length+1) z true,m.set id (.row (l.flatMap enc++enc x) (ver+1) false),λk=>?_,Or.inr ⟨id,ver+1,h1,by simp,by simp⟩,rfl,rfl,rfl,λj hj=>?_⟩
  .simp only[sApp,hg]
   rw[x17u ⟨trivial,trivial,by omega,hr⟩,x17t (by omega),x17t (by rw[hl,x19m];omega),x180,x182 (by omega)]
  .rw[Mem.get_set,x17t (by rintro rfl;exact hj h1)]
theorem Gk.one{ok:Id->Prop}{m:Mem}(h:Gk z enc ok m a l):a.cells=[a]/\a.one=true:=by
 rcases h with ⟨rfl,rfl⟩|⟨id,ver,h1,rfl,hg⟩<;>exact⟨rfl,rfl⟩
theorem Gk.frz(hz:∀x,(enc x).length=z)(hs:∀x,(enc x).all still1=true){ok:Id->Prop}{k:Nat}{m:Mem}(h:Gk z enc ok m a l):∃a',Sl enc a' l/\Go.Ix.frz m.get (k+2) a=some a':=by
 rcases h with ⟨rfl,rfl⟩|⟨id,ver,_,rfl,hg⟩
 .exact⟨nilS,Or.inl ⟨rfl,rfl⟩,rfl⟩
 .have hl:=xrp hz l
  refine⟨.slit (l.flatMap enc) l.length false,Sl.lit l false,?_⟩
  have:=xsn (objs:=m.get) (id:=id) (cs:=l.flatMap enc) (ver:=ver) (off:=0) (n:=l.length) (z:=z) (k:=k) (f:=false) (x:=true) hg (by omega) (by
   rw[x180,x182 (by omega)];exact xr9 hs l)
  rw[x180,x182 (by omega)]at this
  exact this
theorem call1{call:xou}{f:FuncId}{l:List AV}{m m':Mem}{r:AV}(hl:l.all clean=true)(h:call [] f l ⟨[],m.next⟩=some (r,m')) :
 ∃M:Mem,xr1 call f l m=some (r,M)/\M.next=m'.next/\∀i:Id,M.get i=if m.next<=i.1 then m'.get i else m.get i:=by
 refine⟨⟨(m'.hp.filter λe=>Nat.ble m.next e.1)++(m.hp.filter λe=>Nat.blt e.1 m.next),m'.next⟩,?_,rfl,λi=>congrFun (xzp m'.hp m.hp m.next) i⟩
 unfold xr1
 rw[x17u hl,h]
theorem xvv:∃i,Tryz.prog.info? xpa=some i/\i.size=1:=by
 have h:(Tryz.prog.info? xpa).map (λi=>i.size)=some 1:=by kernel_rfl
 obtain⟨i,h1,h2⟩:=x17x.mp h
 exact⟨i,h1,h2⟩
theorem slice_hi{id:Id}{ver off n:Nat}{full:Bool}{hi:Int}(h1:0<=hi)(h2:hi<=n)(hf:full=true:=by rfl):xpd Tryz.prog x8 (.sref id ver off n 1 full) none (some (I hi))=some (.sref id ver off hi.toNat 1 full):=by
 obtain⟨i,e1,e2⟩:=xvv
 simp only[xpd,xpb,xr3,e1,asI,Option.getD_some,Option.getD_none]
 rw[x17u ⟨by omega,h1,h2,e2.symm,.inl hf⟩]
 simp
theorem xyx{id:Id}{ver off n:Nat}{full:Bool}{lo:Int}(h0:0<=lo)(h2:lo<=n):xpd Tryz.prog x8 (.sref id ver off n 1 full) (some (I lo)) none=some (.sref id ver (off+lo.toNat) (n-lo.toNat) 1 full):=by
 obtain⟨i,e1,e2⟩:=xvv
 simp only[xpd,xpb,xr3,e1,asI,Option.getD_some,Option.getD_none]
 rw[x17u ⟨h0,by omega,by omega,e2.symm,.inr trivial⟩,x195,show((n:Int)-lo).toNat=n-lo.toNat by omega]
structure Ar where
 edge:Int
 to:Int
 sign:Int
 room:Int
 cost:Int
def Ar.c(a:Ar):List AV:=[I a.edge,I a.to,I a.sign,I a.room,I a.cost]
theorem Ar.len(a:Ar):a.c.length=5:=rfl
def e00:Edge:=⟨0,0,0,0⟩
def edgeAt(l:List Edge)(i:Nat):Edge:=l.getD i e00
theorem xx1{l:List Edge}{i:Nat}(h:i<l.length):edgeAt l i=l[i]:=by
 unfold edgeAt;rw[x18r,x18d h];rfl
def adjI(l:List Edge)(v:Int):List Int:=((List.range l.length).filter λi=>decide ((edgeAt l i).fr=v)||decide ((edgeAt l i).to=v)).map Int.ofNat
structure FrzS (S:AV) (n:Nat) (l:List Edge) (fl tu ex:List Int):Prop where
 sh:∃ev F TU X cells b,S=.plit [I n,ev,F,TU,X,.slit cells n b]/\Sl Edge.c ev l/\Ints F fl/\Ints TU tu/\Ints X ex/\cells.length=n/\∀(v:Nat) (hv:v<cells.length),Ints cells[v] (adjI l v)
 fll:fl.length=l.length
 tul:tu.length=n
 exl:ex.length=n
 n0:n<=200
 ll:l.length<=600
 ed:∀e∈l,EdgeIn n e/\e.fr≠e.to
 flb:∀k,-1000<=at0 fl k/\at0 fl k<=1000
 tub:∀k,-1000000<=at0 tu k/\at0 tu k<=1000000
theorem xyy:xj=[nilS]:=by kernel_rfl
theorem NN_3:∃j,NN=j+3:=⟨18446744073709551613,rfl⟩
end Go.Ix
set_option maxRecDepth 100000
namespace Go.Ix
open Go.Proofs
def isU(n:Nat):Option AV->Bool
 |some (.sc (.int .u64 k))=>decide (k=(n:Int))
 |_=>false
def isI(n:Nat):Option AV->Bool
 |some (.sc (.int .i64 k))=>decide (k=(n:Int))
 |_=>false
def isF:Option AV->Bool
 |some (.sc (.bool b))=>!b
 |_=>false
def is2(a b:Nat):Option (AV×Mem)->Bool
 |some (.tup [.sc (.int .u64 k),.sc (.int .u64 j)],_)=>decide (k=(a:Int))&&decide (j=(b:Int))
 |_=>false
theorem isU_eq{n:Nat}{r:Option AV}(h:isU n r=true):r=some (.sc (.int .u64 n)):=by
 unfold isU at h
 split at h
 .rw[x19f h]
 .cases h
theorem isI_eq{n:Nat}{r:Option AV}(h:isI n r=true):r=some (I n):=by
 unfold isI at h
 split at h
 .rw[x19f h]
 .cases h
theorem isF_eq{r:Option AV}(h:isF r=true):r=some (B false):=by
 unfold isF at h
 split at h
 .rename_i b
  cases b
  .rfl
  .cases h
 .cases h
theorem is2_eq{a b:Nat}{r:Option (AV×Mem)}(h:is2 a b r=true):∃m,r=some (.tup [.sc (.int .u64 a),.sc (.int .u64 b)],m):=by
 unfold is2 at h
 split at h
 .rename_i k j m
  rw[x17y]at h
  exact⟨m,by rw[x19f h.1,x19f h.2]⟩
 .cases h
theorem tab{f:Nat->Bool}{N:Nat}(h:(List.range N).all f=true){n:Nat}(hn:n<N):f n=true:=x181.mp h n (x18q.mpr hn)
abbrev Uv(n:Nat):AV:=.sc (.int .u64 n)
theorem t_cvt:(List.range 201).all (λn=>isU n (sCvt Tryz.prog xpa xd (I n)))=true:=by kernel_rfl
theorem t_cvt2:(List.range 201).all (λn=>isI n (sCvt Tryz.prog xd xpa (Uv n)))=true:=by kernel_rfl
theorem t_mul(d:Nat):(List.range 201).all (λn=>is2 0 n (xow (d+2) [] x2a [Uv 1,Uv n] mem0))=true:=by kernel_rfl
theorem t_gt(x y:Operand):(List.range 201).all (λn=>isF (sBin Tryz.prog .gtr xd x y (Uv n) (AV.sc (.int .u64 9223372036854775807))))=true:=by kernel_rfl
theorem t_gt0(x y:Operand):sBin Tryz.prog .gtr xd x y (Uv 0) (AV.sc (.int .u64 0))=some (B false):=by kernel_rfl
theorem w_cvt{n:Nat}(h:n<=200):sCvt Tryz.prog xpa xd (I n)=some (Uv n):=isU_eq (tab t_cvt (by omega))
theorem w_cvt2{n:Nat}(h:n<=200):sCvt Tryz.prog xd xpa (Uv n)=some (I n):=isI_eq (tab t_cvt2 (by omega))
theorem w_gt{n:Nat}(h:n<=200)(x y:Operand):sBin Tryz.prog .gtr xd x y (Uv n) (AV.sc (.int .u64 9223372036854775807))=some (B false):=isF_eq (tab (t_gt x y) (by omega))
theorem w_mul(d:Nat){n:Nat}(h:n<=200)(m:Mem):xox (xow (d+2)) x2a [Uv 1,Uv n] m=some (.tup [Uv 0,Uv n],m):=by
 obtain⟨m',h'⟩:=is2_eq (tab (t_mul d) (show n<201 by omega))
 exact Ans.call0_tup ⟨m',h'⟩ rfl rfl
theorem cpy_own{R:Type}{id:Id}{m:Mem}{l k:List Int}{off n2:Nat}{f:Bool}{src:AV}{K:AV->Mem->Option R}(hg:m.get id=some (.row (l.flatMap intE) 0 false))(hs:elems m.get 1 src=some (k.flatMap intE,k.length))(hn:off+n2<=l.length) :
 sCpy 1 (.sref id 0 off n2 1 f) src m K=K (I (Nat.min k.length n2)) (m.set id (.row ((l.take off++(k.take (Nat.min k.length n2)++l.drop (off+Nat.min k.length n2))).flatMap intE) 0 false)):=by
 have hl:=xrk l
 simp only[sCpy,hs,hg]
 have hc:True/\True/\off+n2*1<=(l.flatMap intE).length:=⟨trivial,trivial,by omega⟩
 rw[x17u hc]
 congr 3
 have hk:k.length=(k.flatMap intE).length:=(xrk k).symm
 simp only[xp7,xud,List.map_append,List.map_take,List.map_drop,x195,x19n,x1aa]
 congr 3
 have:Nat.min (Nat.min k.length n2) k.length=Nat.min k.length n2:=by
  simp only[Nat.min_def];split<;>split<;>omega
 exact congrArg (off+·) this
theorem elems_own{m:Mem}{id:Id}{l:List Int}{off n:Nat}{f:Bool}(hg:m.get id=some (.row (l.flatMap intE) 0 false))(h:off+n<=l.length):elems m.get 1 (.sref id 0 off n 1 f)=some (((l.drop off).take n).flatMap intE,((l.drop off).take n).length):=by
 have hl:=xrk l
 simp only[elems,hg]
 have hc:True/\True/\off+n*1<=(l.flatMap intE).length:=⟨trivial,trivial,by omega⟩
 rw[x17u hc]
 simp only[xud,List.map_take,List.map_drop,x195,x19n,x19i]
 congr 2
 omega
theorem l_Repeat(d:Nat)(hs:FHs)(u:Nat)(x:Int){n:Nat}(hn:n<=200)(id:Id):∀(s k j:Nat) (m:Mem) (fc:Nat),k+s=n->1<=k->s<j->m.get id=some (.row ((List.replicate k x++List.replicate s 0).flatMap intE) 0 false) ->
 ∃m',x1x (xow d) hs u j (.sref id 0 0 n 1 true) (I k) m fc=some (.sref id 0 0 n 1 true,m')/\m'.get id=some (.row ((List.replicate n x).flatMap intE) 0 false)/\m'.next=m.next:=by
 intro s
 induction s using Nat.strongRecOn with
 |_ s ih=>
  intro k j m fc hk h1 hj hg
  obtain⟨j,rfl⟩:∃i,j=i+1:=⟨j-1,by omega⟩
  have hlen:sLen Tryz.prog x8 (.sref id 0 0 n 1 true)=some (I n):=rfl
  simp only[x1x]
  unfold x6w
  by_cases h0:s=0
  .subst h0
   have hkn:k=n:=by omega
   subst hkn
   refine⟨m,?_,by simpa using hg,rfl⟩
   simp[hlen,x6v]
  .have hlt:(k:Int)<(n:Int):=by omega
   have e1:=xyx (id:=id) (ver:=0) (off:=0) (n:=n) (full:=true) (lo:=(k:Int)) (by omega) (by omega)
   have e2:=slice_hi (id:=id) (ver:=0) (off:=0) (n:=n) (full:=true) (hi:=(k:Int)) (by omega) (by omega)
   simp only[x18g,x187]at e1 e2
   have hel:=elems_own (m:=m) (id:=id) (off:=0) (n:=k) (f:=true) hg (by simp)
   rw[x180,x1ar (by simp),x182 (by simp)]at hel
   have hc:=λ(K:AV->Mem->Option (AV×Mem))=>cpy_own (K:=K) (off:=k) (n2:=n-k) (f:=true) hg hel (by simp;omega)
   have hmin:Nat.min (List.replicate k x).length (n-k)=min k s:=by simp only[List.length_replicate];show min k (n-k)=_;rw[show n-k=s by omega]
   rw[hmin]at hc
   have hrow:(List.replicate k x++List.replicate s 0).take k++((List.replicate k x).take (min k s)++(List.replicate k x++List.replicate s 0).drop (k+min k s))=List.replicate (k+min k s) x++List.replicate (s-min k s) 0:=by
    rw[x1ar (by simp),x182 (by simp),List.take_replicate,Nat.min_eq_left (show min k s<=k from Nat.min_le_left _ _)]
    rw[x1b8,List.drop_eq_nil_of_le (by simp),x1a5,List.length_replicate,Nat.add_sub_cancel_left,List.drop_replicate,<-x1bh,List.replicate_append_replicate]
   rw[hrow]at hc
   obtain⟨m',h5,h6,h7⟩:=ih (s-min k s) (by omega) (k+min k s) j (m.set id (.row ((List.replicate (k+min k s) x++List.replicate (s-min k s) 0).flatMap intE) 0 false)) (fc+14) (by omega) (by omega) (by omega) (by simp)
   refine⟨m',?_,h6,by rw[h7];rfl⟩
   simp(disch:=omega)only[hlen,xoy,xq1,hlt,x184,xph,e1,e2,hc,xqv,xq4]
   rw[<-h5]
   congr 2
theorem a_Repeat(d:Nat)(u:Nat)(x:Int){n:Nat}(hn:n<=200):∃s m',xow (d+3) [] xu [.slit [I x] 1 true,I n] ⟨[],u⟩=some (.sref (u,s,30) 0 0 n 1 true,m')/\m'.get (u,s,30)=some (.row ((List.replicate n x).flatMap intE) 0 false)/\m'.next=u+1:=by
 have hc1:=w_cvt (n:=1) (by omega)
 have hcn:=w_cvt hn
 have hcn2:=w_cvt2 hn
 have hg:=w_gt hn
 have hm:=w_mul d hn
 have hmk:∀(id:Id) (m:Mem) (k:AV->Mem->Option (AV×Mem)),xqr xpy 1 8 (I n) (I n) id m k=k (srI id n) (m.new id (.row ((List.replicate n (0:Int)).flatMap intE) 0 false)):=by
  intro id m k
  rw[xtl,xyu (by omega) (by omega)]
  simp
 have hneg:¬((n:Int)<0):=by omega
 have hlen1:sLen Tryz.prog x8 (.slit [I x] 1 true)=some (I ((1:Nat):Int)):=rfl
 have hlenN:∀id,sLen Tryz.prog x8 (.sref id 0 0 n 1 true)=some (I n):=λ_=>rfl
 obtain⟨M,hM⟩:∃M,M=(⟨[],u+1⟩:Mem).new (u,1+2+11+6+2,30) (.row ((List.replicate n (0:Int)).flatMap intE) 0 false):=⟨_,rfl⟩
 have hgM:M.get (u,1+2+11+6+2,30)=some (.row ((List.replicate n (0:Int)).flatMap intE) 0 false):=by rw[hM];simp
 have hel:elems M.get 1 (.slit [I x] 1 true)=some (([x]:List Int).flatMap intE,[x].length):=rfl
 have hcp:=λ(K:AV->Mem->Option (AV×Mem))=>cpy_own (K:=K) (off:=0) (n2:=n) (f:=true) hgM hel (by simp)
 have start:∀K,sCpy 1 (srI (u,1+2+11+6+2,30) n) (.slit [I x] 1 true) M (λt33 m_3=>x1x (xow (d+2)) [] u NN (srI (u,1+2+11+6+2,30) n) t33 m_3 (1+2+11+6+8))=K ->
  xow (d+3) [] xu [.slit [I x] 1 true,I n] ⟨[],u⟩=K:=by
  intro K hK
  rw[<-hK,xl3]
  unfold x83 x6x xbk xbj
  simp only[xq1,xoy,hneg,x185,xpl,hlen1,hc1,hcn,hm,xrw,x192,x193]
  unfold xbi
  simp only[t_gt0,xt3,xt4,xoy,sW_f,x18b,xpf,hg,xq5,xqa,xpl]
  unfold xbh
  simp only[hcn2,xoy,hmk]
  rw[<-hM]
 by_cases h0:n=0
 .subst h0
  refine⟨22,M.set (u,22,30) (.row [] 0 false),start _ ?_,by simp,by rw[hM];rfl⟩
  rw[hcp]
  obtain⟨j,hj⟩:=NN_3
  rw[hj]
  simp only[x1x]
  unfold x6w
  have e:Nat.min [x].length 0=0:=rfl
  simp[hlenN,e,x6v]
 .have hmin:Nat.min [x].length n=1:=by simp only[x188,x19q];show min 1 n=1;omega
  rw[hmin]at hcp
  have hrow:(List.replicate n (0:Int)).take 0++([x].take 1++(List.replicate n 0).drop (0+1))=List.replicate 1 x++List.replicate (n-1) 0:=by simp[List.drop_replicate]
  rw[hrow]at hcp
  obtain⟨m',h1,h2,h3⟩:=l_Repeat (d+2) [] u x hn (u,22,30) (n-1) 1 NN (M.set (u,22,30) (.row ((List.replicate 1 x++List.replicate (n-1) 0).flatMap intE) 0 false)) 28 (by omega) (by omega) (by rw[xq7];omega) (by simp)
  refine⟨22,m',start _ ?_,h2,by rw[h3,hM];rfl⟩
  rw[hcp]
  exact h1
end Go.Ix
