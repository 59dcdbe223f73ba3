import Derived.Test.YtibmppgmjbpdmaaGreatDoorWg2
import Derived.Test.YtibmppgmjbpdmaaGreatDoorWg1
import Derived.Laws.StructEq
import Derived.Test.YtibmppgmjbpdmaaGreatDoorWg11
set_option linter.unusedSimpArgs false
namespace Go.Ix
open Go.Proofs
theorem x1ll(call:x16u)(hs:FHs)(u:Nat){s:ByteArray}{a:AV}(h:Sl u8E a s.data.toList)(hl:s.size<=1000):∀(suf:List UInt8) (k j:Nat) (m:Mem) (fc:Nat),s.data.toList.drop k=suf->suf.length<j ->
 x1n call hs u j (T s) a (I s.data.toList.length) (I k) m fc=some (B (x19v k suf&&(decide (0<s.size)&&decide (s.size<=12))),m):=by
 intro suf
 have hsz:s.data.toList.length=s.size:=rfl
 have e0:teq s ⟨#[]⟩=decide (s.size=0):=by
  unfold teq
  rw[ByteArray.toList_eq,ByteArray.toList_eq]
  cases hs:s.data.toList with
  |nil=>
   have:s.size=0:=by show s.data.size=0;rw[<-x1tb,hs];rfl
   simp[this]
  |cons x r=>
   have:s.size=r.length+1:=by show s.data.size=_;rw[<-x1tb,hs];rfl
   simp[this]
 have tne (x y:Operand) (a b:ByteArray):sBin Tryz.prog .neq x0 x y (T a) (T b)=some (B (!teq a b)):=by kernel_rfl
 induction suf with
 |nil=>
  intro k j m fc hd hj
  obtain⟨j,rfl⟩:∃i,j=i+1:=⟨j-1,by simp at hj;omega⟩
  have hk:¬((k:Int)<(s.data.toList.length:Int)):=by have:=x1sw.mp hd;omega
  simp only[x1n]
  unfold x8a xbd
  simp only[x180,hk,x1rx,x17d,x16y,tne,e0]
  by_cases h0:s.size=0
  .simp[h0,x19v]
  .simp[h0,x19v,show 0<s.size by omega]
   try omega
 |cons e r ih=>
  intro k j m fc hd hj
  obtain⟨j,rfl⟩:∃i,j=i+1:=⟨j-1,by simp at hj;omega⟩
  obtain⟨hk,he,hd⟩:=x197 hd
  have hk':(k:Int)<(s.data.toList.length:Int):=by omega
  have ix:=h.ix x1g4 hk
  have ld:=ld_u8 (m:=m) hk
  have next:∀fc,x1n call hs u j (T s) a (I s.size) (I (w64 ((k:Int)+1))) m fc=some (B (x19v (k+1) r&&(decide (0<s.size)&&decide (s.size<=12))),m):=λfc=>by
   rw[x17s (by omega) (by omega)]
   exact ih (k+1) j m fc hd (by simp at hj;omega)
  rw[he]at ld
  have hk0:decide ((k:Int)=0)=!decide (0<k):=by
   by_cases h:0<k<;>simp[h]<;>omega
  simp only[x1n]
  unfold x8a
  simp only[x180,hk',x1rw,x17b,x16y,ix,ld,u8_ge,u8_le,x1by,sW_t,sW_f]
  simp only[x19v,chOK]
  generalize (e.toNat:Int)=c
  have r1:decide (c<48)=!decide (48<=c):=by by_cases h:48<=c<;>simp[h]<;>omega
  have r2:decide (57<c)=!decide (c<=57):=by by_cases h:c<=57<;>simp[h]<;>omega
  by_cases a1:97<=c<;>by_cases a2:c<=122<;>by_cases b1:65<=c<;>by_cases b2:c<=90<;>by_cases d1:48<=c<;>by_cases d2:c<=57<;>by_cases d0:c=45 <;>
   first
   |(exfalso;omega)
   |(by_cases hp:k=0
     .simp[a1,a2,b1,b2,d1,d2,d0,hp,u8_ge,u8_le,x1by,u8_ne,u8_lt,u8_gt,r1,r2]
      try (rw[hp]at next;exact next _)
     .simp[a1,a2,b1,b2,d1,d2,d0,hp,show 0<k by omega,u8_ge,u8_le,x1by,u8_ne,u8_lt,u8_gt,r1,r2,next])
theorem x1lm(d:Nat)(s:ByteArray)(m:Mem)(hl:s.size<=1000):x16v (x16z (d+1)) xm [T s] m=some (B (nmOK s),m):=by
 refine call0 rfl (m':=⟨[],1⟩) ?_ rfl
 rw[xze]
 have hlen:sLen Tryz.prog x9 (.slit (s.data.toList.flatMap u8E) s.data.toList.length false)=some (I s.data.toList.length):=(Sl.lit (enc:=u8E) s.data.toList false).len x1g5
 have hsz:s.data.toList.length=s.size:=rfl
 have hL:=λfc=>x1ll (x16z d) [] 0 (Sl.lit (enc:=u8E) s.data.toList false) hl s.data.toList 0 NN ⟨[],1⟩ fc rfl (by rw[x18s];omega)
 unfold x9z x8b xbe nmOK
 simp only[x1j5,hlen,x16y,mem0]
 have e:∀a b c:Bool,(c&&(a&&b))=(a&&b&&c):=by decide
 rw[<-e]
 exact hL _
def namedM(s:ByteArray)(l:List ByteArray):Int:=bif !nmOK s then 4 else bif l.any (λy=>teq y s)then 5 else 0
end Go.Ix
set_option linter.unusedVariables false
namespace Go.Ix
open Go.Proofs
variable{P:Program}
theorem x1a8{α β:Type}(f:α->Sem β):∀s:Sem α,x175 P (s >>= f)=(x175 P s).bind λa=>x175 P (f a):=by
 intro s
 show x175 P (Sem.bind s f)=_
 induction s with
 |pure a=>rfl
 |program k ih=>exact ih P
 |mark x k ih=>exact ih
 |_=>rfl
theorem x1di{α:Type}(a:α):x175 P (pure a:Sem α)=some a:=rfl
theorem x1gc:x175 P program=some P:=rfl
theorem x1jd{t:TypeId}{d:TypeDesc}(h:P.underlying t=some d):x175 P (underlying t)=some d:=by
 simp only[underlying,x1a8,x1gc,x16y,h]
 rfl
theorem x1ln(d:Nat)(t:TypeId)(xs ys:Array Value)(ht:P.underlying t=some (.struct (P.fieldsOf t)))(hp:P.stoodInHeld t=false) :
 x175 P (Op.equalIn (d+1) t (.agg xs) (.agg ys))=x175 P (Op.eqFields d xs ys (P.fieldsOf t).toList):=by
 simp only[Op.equalIn,x1a8,x1jd ht,x16y,x1gc,hp,x1sb,x1s1]
 rw[<-Array.forIn_toList]
 generalize (P.fieldsOf t).toList=fs
 clear ht
 induction fs with
 |nil=>simp[Op.eqFields,x1di]
 |cons f fs ih=>
  simp only[List.forIn_cons,Op.eqFields,x1a8]
  split
  .simp only[x1a8]
   generalize x175 P (part f.type xs f.offset)=r1
   cases r1 with
   |none=>rfl
   |some a=>
    generalize hb:x175 P (part f.type ys f.offset)=r2
    cases r2 with
    |none=>simp[hb]
    |some b=>
     simp only[hb,x16y]
     generalize x175 P (Op.equalIn d f.type a b)=r3
     cases r3 with
     |none=>rfl
     |some r=>
      cases r
      .rfl
      .exact ih
  .exact ih
theorem x1lo(op:BinOp)(t:TypeId)(x y:Operand)(xs ys:Array Value)(hm:P.eqGuardType P.depth t=false):x175 P (eqGuard op t x y (.agg xs) (.agg ys))=some ():=by
 cases op<;>simp[eqGuard,x1a8,x1gc,x1di,hm]
theorem x1lp{t:TypeId}{x y:Operand}{xs ys:List Value}{r:Bool}(hm:P.eqGuardType P.depth t=false)(hr:x175 P (Op.equalIn 10000 t (.agg xs.toArray) (.agg ys.toArray))=some r)(hx:∃k,scs k=some xs) :
 ∀kx ky,scs kx=some xs->scs ky=some ys->sBin P .neq t x y (.agg kx) (.agg ky)=some (B (!r)):=by
 intro kx ky h1 h2
 refine sBin_0 ?_
 simp only[bin0,x17m,h1,h2,x1a8,x1lo _ _ _ _ _ _ hm,x16y]
 have:x175 P (binOp .neq t (.agg xs.toArray) (.agg ys.toArray))=some (.bool (!r)):=by
  show x175 P (do pure (Value.bool (!(<-Op.equal t (.agg xs.toArray) (.agg ys.toArray)))))=_
  simp only[x1a8,Op.equal,Op.maxDepth,hr,x16y,x1di]
 rw[this];rfl
end Go.Ix
set_option maxRecDepth 10000
namespace Go.Ix
open Go.Proofs
structure Ent where
 by_:List UInt8
 tx:List UInt8
def Ent.c(x:Ent):List AV:=[Tx x.by_,Tx x.tx]
theorem Ent.len(x:Ent):x.c.length=2:=rfl
theorem Ent.stl(x:Ent):x.c.all still1=true:=rfl
theorem x18i:Tryz.prog.underlying x5=some (.slice xd):=by kernel_rfl
theorem x1c1:x8=[Tx [],Tx []]:=by kernel_rfl
def Sh10(x:Ent):Prop:=x.by_.length<=60005/\x.tx.length<=60005
def sealN(n:Nat)(l:List UInt8):Nat:=l.foldl (λn b=>(257*n+b.toNat+1) % 998244353) n
def entB(x:Ent):List UInt8:=x.by_++[10]++x.tx++[10]
def x17t(n:Nat)(x:Ent):Nat:=sealN n (entB x)
theorem sealN_lt{n:Nat}(h:n<998244353):∀l:List UInt8,sealN n l<998244353:=λl=>by
 induction l generalizing n with
 |nil=>exact h
 |cons b l ih=>exact ih (x1tq _ (by omega))
theorem x1c2{n:Nat}(h:n<998244353)(x:Ent):x17t n x<998244353:=sealN_lt h _
theorem c_byte(b:UInt8):sCvt Tryz.prog x1 x17o (U8 b.toNat)=some (I b.toNat):=by
 have:=b.toNat_lt
 rw[c_int,x1j7 (by omega) (by omega)]
theorem x1je{n:Nat}(h:n<998244353)(b:UInt8):w64 (w64 (w64 (257*(n:Int))+(b.toNat:Int))+1)=((257*n+b.toNat+1:Nat):Int):=by
 have:=b.toNat_lt
 rw[x17s (n:=257*(n:Int)) (by omega) (by omega),x17s (n:=257*(n:Int)+(b.toNat:Int)) (by omega) (by omega),x17s (by omega) (by omega)]
 omega
theorem x1jf(k:Nat):(((k:Nat):Int)).tmod 998244353=((k % 998244353:Nat):Int):=by
 rw[Int.tmod_eq_emod_of_nonneg (by omega)]
 omega
theorem x1jg(call:x16u)(hs:FHs)(u:Nat){l:List UInt8}(hl:l.length<=1000000):∀(suf:List UInt8) (k j n:Nat) (m:Mem) (fc:Nat),l.drop k=suf->suf.length<j->n<998244353 ->
 x2p call hs u j (I n) (.slit (l.flatMap u8E) l.length false) (I l.length) (I k) m fc=some (I (sealN n suf),m)
 |[],k,j,n,m,fc,hd,hj,hn=>by
  obtain⟨j,rfl⟩:∃i,j=i+1:=⟨j-1,by simp at hj;omega⟩
  have hk:¬((k:Int)<(l.length:Int)):=by have:=x1sw.mp hd;omega
  simp only[x2p]
  unfold x88 xbb
  simp only[x180,hk,x1rx,x16y,x17d]
  rfl
 |e::r,k,j,n,m,fc,hd,hj,hn=>by
  obtain⟨j,rfl⟩:∃i,j=i+1:=⟨j-1,by simp at hj;omega⟩
  obtain⟨hk,he,hd⟩:=x197 hd
  have hk':(k:Int)<(l.length:Int):=by omega
  have ix:=(Sl.lit (enc:=u8E) l false).ix x1g4 hk
  have ld:=ld_u8 (m:=m) hk
  rw[he]at ld
  have w1:w64 ((k:Int)+1)=((k+1:Nat):Int):=by rw[x17s (by omega) (by omega)];omega
  have hz:(998244353:Int)≠0:=by decide
  have ih:=x1jg call hs u hl r (k+1) j ((257*n+e.toNat+1) % 998244353) m (fc+14) hd (by simp at hj;omega) (x1tq _ (by omega))
  simp only[x2p]
  unfold x88
  simp only[x180,hk',x1rw,x17b,x16y,ix,ld,sMul_I,c_byte,x18m,x1je hn,sRem_I hz,x1jf,w1]
  exact ih
theorem x1jh(call:x16u)(hs:FHs)(u:Nat){l:List UInt8}(hl:l.length<=1000000):∀(suf:List UInt8) (k j n:Nat) (m:Mem) (fc:Nat),l.drop k=suf->suf.length<j->n<998244353 ->
 x2s call hs u j (I n) (Tx l) (I k) m fc=some (I (sealN n suf),m)
 |[],k,j,n,m,fc,hd,hj,hn=>by
  obtain⟨j,rfl⟩:∃i,j=i+1:=⟨j-1,by simp at hj;omega⟩
  have hk:¬((k:Int)<(l.length:Int)):=by have:=x1sw.mp hd;omega
  simp only[x2s]
  unfold x8k xbm
  simp only[x17q,x180,hk,x1rx,x16y,x17d]
  rfl
 |e::r,k,j,n,m,fc,hd,hj,hn=>by
  obtain⟨j,rfl⟩:∃i,j=i+1:=⟨j-1,by simp at hj;omega⟩
  obtain⟨hk,he,hd⟩:=x197 hd
  have hk':(k:Int)<(l.length:Int):=by omega
  have ix:=x1c0 hk
  rw[he]at ix
  have w1:w64 ((k:Int)+1)=((k+1:Nat):Int):=by rw[x17s (by omega) (by omega)];omega
  have hz:(998244353:Int)≠0:=by decide
  have ih:=x1jh call hs u hl r (k+1) j ((257*n+e.toNat+1) % 998244353) m (fc+17) hd (by simp at hj;omega) (x1tq _ (by omega))
  simp only[x2s]
  unfold x8k
  simp only[x17q,x180,hk',x1rw,x17b,x16y,ix,sMul_I,c_byte,x18m,x1je hn,sRem_I hz,x1jf,w1]
  exact ih
theorem ent_one(x:Ent):x.c.all AV.one=true:=rfl
theorem x1gd(d:Nat){n:Nat}(hn:n<998244353){x:Ent}(h:Sh10 x)(m:Mem):x16v (x16z (d+1)) xx [I n,.agg x.c] m=some (I (x17t n x),m):=by
 refine Ans.call0 (m:=m) ?_ rfl rfl
 unfold Ans
 rw[xzd]
 unfold x9y x89
 dsimp only
 simp only[mem0,x1g2,x1iu,ent_one,x17j]
 obtain⟨m1,hm1⟩:∃m1:Mem,m1=(⟨[],0+1⟩:Mem).new (0,0,3) (.row x.c 0 false):=⟨_,rfl⟩
 have g:m1.get (0,0,3)=some (.row x.c 0 false):=by rw[hm1];simp
 rw[<-hm1]
 have l0:sLd false 1 (.ptr (0,0,3) 0 0) m1=some (Tx x.by_):=by rw[x19l g];rfl
 have l1:sLd false 1 (.ptr (0,0,3) 0 1) m1=some (Tx x.tx):=by rw[x19l g];rfl
 unfold xbc
 obtain⟨h1,h2⟩:=h
 rw[show(AV.sc (.string ⟨#[10]⟩))=Tx [10]from rfl]
 simp only[x1ee,x1su,x1tc,x16y,l0,l1]
 rw[x18n _ _ (by simp;omega)]
 simp only[x16y]
 rw[x18n _ _ (by simp;omega)]
 simp only[x16y]
 rw[x18n _ _ (by simp;omega)]
 have hb:(entB x).length<=1000000:=by unfold entB;simp;omega
 have hc:sCvt Tryz.prog x0 x9 (Tx (entB x))=some (.slit ((entB x).flatMap u8E) (entB x).length false):=by
  have:=x1j5 (⟨(entB x).toArray⟩:ByteArray)
  simpa using this
 have hln:sLen Tryz.prog x9 (.slit ((entB x).flatMap u8E) (entB x).length false)=some (I (entB x).length):=(Sl.lit (enc:=u8E) (entB x) false).len x1g5
 rw[show x.by_++[10]++x.tx++[10]=entB x from rfl]
 simp only[x16y,hc,hln]
 exact⟨m1,x1jg (x16z d) [] 0 hb (entB x) 0 NN n m1 _ rfl (by rw[x18s];omega) hn⟩
theorem x1ge(d:Nat){n:Nat}(hn:n<998244353){x:Ent}(h:Sh10 x)(m:Mem):x16v (x16z (d+1)) xz [I n,.agg x.c] m=some (I (x17t n x),m):=by
 refine Ans.call0 (m:=m) ?_ rfl rfl
 unfold Ans
 rw[xzi]
 unfold xa3 x8l
 dsimp only
 simp only[mem0,x1g2,x1iu,ent_one,x17j]
 obtain⟨m1,hm1⟩:∃m1:Mem,m1=(⟨[],0+1⟩:Mem).new (0,0,3) (.row x.c 0 false):=⟨_,rfl⟩
 have g:m1.get (0,0,3)=some (.row x.c 0 false):=by rw[hm1];simp
 rw[<-hm1]
 have l0:sLd false 1 (.ptr (0,0,3) 0 0) m1=some (Tx x.by_):=by rw[x19l g];rfl
 have l1:sLd false 1 (.ptr (0,0,3) 0 1) m1=some (Tx x.tx):=by rw[x19l g];rfl
 obtain⟨h1,h2⟩:=h
 rw[show(AV.sc (.string ⟨#[10]⟩))=Tx [10]from rfl]
 simp only[x1ee,x1su,x1tc,x16y,l0,l1]
 rw[x18n _ _ (by simp;omega)]
 simp only[x16y]
 rw[x18n _ _ (by simp;omega)]
 simp only[x16y]
 rw[x18n _ _ (by simp;omega)]
 have hb:(entB x).length<=1000000:=by unfold entB;simp;omega
 rw[show x.by_++[10]++x.tx++[10]=entB x from rfl]
 simp only[x16y]
 unfold xbn
 exact⟨m1,x1jh (x16z d) [] 0 hb (entB x) 0 NN n m1 _ rfl (by rw[x18s];omega) hn⟩
def sealL(n:Nat)(L:List Ent):Nat:=L.foldl x17t n
theorem x1cq{m:Mem}{L:List Ent}{k:Nat}(hk:k<L.length):sLd true 2 (.plit ((L.drop k).flatMap Ent.c)) m=some (.agg L[k].c):=ld_flat Ent.len (by omega) hk
theorem x1ji(d:Nat)(u:Nat){a:AV}{L:List Ent}(ha:Sl Ent.c a L)(hL:∀x∈L,Sh10 x)(hl:L.length<=100000):∀(suf:List Ent) (k j n:Nat) (m:Mem) (fc:Nat),L.drop k=suf->suf.length<j->n<998244353 ->
 ∃m',x2u (x16z (d+1)) [] u j (I n) a (I L.length) (I k) m fc=some (I (sealL n suf),m')
 |[],k,j,n,m,fc,hd,hj,hn=>by
  obtain⟨j,rfl⟩:∃i,j=i+1:=⟨j-1,by simp at hj;omega⟩
  have hk:¬((k:Int)<(L.length:Int)):=by have:=x1sw.mp hd;omega
  simp only[x2u]
  unfold x8o xbq
  simp only[x180,hk,x1rx,x16y,x17d]
  exact⟨m,rfl⟩
 |e::r,k,j,n,m,fc,hd,hj,hn=>by
  obtain⟨j,rfl⟩:∃i,j=i+1:=⟨j-1,by simp at hj;omega⟩
  obtain⟨hk,he,hd⟩:=x197 hd
  have hk':(k:Int)<(L.length:Int):=by omega
  have ix:=ha.ix Ent.len hk
  have ld:=x1cq (m:=m) hk
  rw[he]at ld
  have hsh:=hL e (by rw[<-he];exact x1sz hk)
  have w1:w64 ((k:Int)+1)=((k+1:Nat):Int):=by rw[x17s (by omega) (by omega)];omega
  obtain⟨m1,hm1⟩:∃m1:Mem,m1=m.new (u,fc+3,5) (.row [Tx [],Tx []] 0 false):=⟨_,rfl⟩
  have g1:m1.get (u,fc+3,5)=some (.row [Tx [],Tx []] 0 false):=by rw[hm1,Mem.get_new,x1rq rfl]
  obtain⟨m2,hm2⟩:∃m2:Mem,m2=m1.set (u,fc+3,5) (.row (x17p [Tx [],Tx []] 0 (AV.agg e.c).cells) 0 false):=⟨_,rfl⟩
  have l2:sLd true 2 (.ptr (u,fc+3,5) 0 0) m2=some (.agg e.c):=by
   rw[x19l (cs:=e.c) (fz:=false) (by rw[hm2,Mem.get_set,x1rq rfl];rfl)];rfl
  have ih:=x1ji d u ha hL hl r (k+1) j (x17t n e) m2 (fc+11) hd (by simp at hj;omega) (x1c2 hn e)
  simp only[x2u]
  unfold x8o
  simp only[x180,hk',x1rw,x17b,x16y,ix,ld,x1eg,x1c1]
  rw[<-hm1,x19m (z:=2) (x:=.agg e.c) g1 rfl (by simp) rfl,<-hm2]
  simp only[l2,x16y,x1gd d hn hsh,x18m,w1]
  exact ih
theorem w_sealOf(d:Nat){a:AV}{L:List Ent}(ha:Sl Ent.c a L)(hL:∀x∈L,Sh10 x)(hl:L.length<=100000)(m:Mem):x16v (x16z (d+2)) x21 [a] m=some (I (sealL 1 L),m):=by
 refine Ans.call0 (m:=m) ?_ (by simp[ha.still]) rfl
 unfold Ans
 rw[xzk]
 unfold xa5 x8p xbr
 simp only[ha.len x18i,x16y]
 exact x1ji d _ ha hL hl L 0 NN 1 _ _ rfl (by rw[x18s];omega) (by omega)
theorem x1jj(d:Nat)(u:Nat){a:AV}{L:List Ent}(ha:Sl Ent.c a L)(hL:∀x∈L,Sh10 x)(hl:L.length<=100000):∀(suf:List Ent) (k j n:Nat) (m:Mem) (fc:Nat),L.drop k=suf->suf.length<j->n<998244353 ->
 ∃m',x2n (x16z (d+1)) [] u j a (I n) (I k) m fc=some (I (sealL n suf),m')
 |[],k,j,n,m,fc,hd,hj,hn=>by
  obtain⟨j,rfl⟩:∃i,j=i+1:=⟨j-1,by simp at hj;omega⟩
  have hk:¬((k:Int)<(L.length:Int)):=by have:=x1sw.mp hd;omega
  simp only[x2n]
  unfold x81 xaw
  simp only[ha.len x18i,x180,hk,x1rx,x16y,x17d]
  exact⟨m,rfl⟩
 |e::r,k,j,n,m,fc,hd,hj,hn=>by
  obtain⟨j,rfl⟩:∃i,j=i+1:=⟨j-1,by simp at hj;omega⟩
  obtain⟨hk,he,hd⟩:=x197 hd
  have hk':(k:Int)<(L.length:Int):=by omega
  have ix:=ha.ix Ent.len hk
  have ld:=x1cq (m:=m) hk
  rw[he]at ld
  have hsh:=hL e (by rw[<-he];exact x1sz hk)
  have w1:w64 ((k:Int)+1)=((k+1:Nat):Int):=by rw[x17s (by omega) (by omega)];omega
  have ih:=x1jj d u ha hL hl r (k+1) j (x17t n e) m (fc+14) hd (by simp at hj;omega) (x1c2 hn e)
  simp only[x2n]
  unfold x81
  simp only[ha.len x18i,x180,hk',x1rw,x17b,x16y,ix,ld,x1ge d hn hsh,x18m,w1]
  exact ih
theorem w_rsealOf(d:Nat){a:AV}{L:List Ent}(ha:Sl Ent.c a L)(hL:∀x∈L,Sh10 x)(hl:L.length<=100000)(m:Mem):x16v (x16z (d+2)) x1y [a] m=some (I (sealL 1 L),m):=by
 refine Ans.call0 (m:=m) ?_ (by simp[ha.still]) rfl
 unfold Ans
 rw[xz8]
 unfold x9u x82 xax
 exact x1jj d _ ha hL hl L 0 NN 1 _ _ rfl (by rw[x18s];omega) (by omega)
end Go.Ix
