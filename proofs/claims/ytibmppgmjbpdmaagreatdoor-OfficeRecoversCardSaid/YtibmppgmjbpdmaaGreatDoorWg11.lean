import Derived.Test.YtibmppgmjbpdmaaGreatDoorWg10
import Derived.Test.YtibmppgmjbpdmaaGreatDoorWg5
import Derived.Test.YtibmppgmjbpdmaaGreatDoorWg2
import Derived.Test.YtibmppgmjbpdmaaGreatDoorWg1
import Derived.Laws.StructEq
set_option linter.unusedSimpArgs false
set_option linter.unusedVariables false
set_option maxRecDepth 10000
namespace Go.Ix
open Go.Proofs
def x18k:List (List UInt8)->List (List UInt8)
 |[]=>[]
 |[p]=>if p=[]then[]else[p]
 |p::q::r=>(p++[10])::x18k (q::r)
def x15w(s:List UInt8):List (List UInt8):=x18k (cutM 10 s)
theorem x1h0:x15w []=[]:=rfl
theorem x1h1{s:List UInt8}(h0:s≠[])(h:(10:UInt8)∉s):x15w s=[s]:=by
 unfold x15w
 rw[x1dx h]
 simp[x18k,h0]
theorem x1e0{l:List UInt8}(k:List UInt8)(h:(10:UInt8)∉l):x15w (l++10::k)=(l++[10])::x15w k:=by
 unfold x15w
 rw[x1c3 k h]
 cases hc:cutM 10 k with
 |nil=>exact absurd hc (cutM_ne 10 k)
 |cons a r=>rfl
theorem x1j2(d:Nat)(l:List UInt8)(c:UInt8)(m:Mem):x14q (x14z (d+3)) x1r [Tx l,U8 c.toNat] m=some (I (Lib.indexByte l c),m):=by
 refine Ans.call0 (m:=m) ?_ rfl rfl
 unfold Ans
 rw[xxr]
 unfold x8u x7q
 simp only[x1dy,x14w]
 exact⟨_,rfl⟩
theorem w_Lines(d:Nat)(s:List UInt8)(m:Mem):∃M,x18v (x14z (d+1)) x16 [Tx s] m=some (.clo xq [.ptr (m.next,0,1) 0 0],M) /\
 M.get (m.next,0,1)=some (.row [Tx s] 0 false)/\M.next=m.next+1/\∀j:Id,j.1<m.next->M.get j=m.get j:=by
 have h1:x14z (d+1) [] x16 [Tx s] ⟨[],m.next⟩=some (.clo xq [.ptr (m.next,0,1) 0 0],(⟨[],m.next+1⟩:Mem).new (m.next,0,1) (.row [Tx s] 0 false)):=by
  rw[xxk];rfl
 obtain⟨M,hc,hn,hj⟩:=call1 (m:=m) (l:=[Tx s]) rfl h1
 refine⟨M,hc,?_,hn,λj hlt=>?_⟩
 .rw[hj,x1p0 (x1p6 _)];simp
 .rw[hj,x1oz (by omega)]
theorem c_lines(d:Nat){hh:FHs}{id:Id}{h:List AV->Mem->Option Mem}{s:List UInt8}(hs:s.length<=100000)(hl:x17t hh id=some h){i2:Id}{m0:Mem}(g2:m0.get i2=some (.row [Tx s] 0 false))(Inv:List (List UInt8)->Mem->Prop)(Fin:Mem->Prop)(hst:∀pre m l,Inv pre m->Inv pre (m.set i2 (.row [Tx l] 0 false)))(hy:∀pre w post m,x15w s=pre++w::post->Inv pre m->∃m2,h [Tx w] m=some m2/\((live m2.get id=true/\Inv (pre++[w]) m2/\m2.get i2=m.get i2)\/(live m2.get id=false/\Fin m2)))(h0:Inv [] ⟨m0.hp,m0.next+1⟩) :
 ∃m',x14z (d+4) hh xq [.yld id,.ptr i2 0 0] m0=some (.tup [],m')/\(Inv (x15w s) m'\/Fin m'):=by
 rw[xxq]
 unfold x8t
 have e2:(⟨m0.hp,m0.next+1⟩:Mem).get i2=some (.row [Tx s] 0 false):=g2
 simp only
 generalize (⟨m0.hp,m0.next+1⟩:Mem)=m at *
 generalize m0.next=u
 have ld:∀{m:Mem} {i:Id} {x:AV},m.get i=some (.row [x] 0 false)->x.one=true->sLd false 1 (.ptr i 0 0) m=some x:=λhg hx=>by
  simp[hg,hx]
 have loop:∀(n j:Nat) (r:List UInt8) (pre:List (List UInt8)) (m:Mem) (fc:Nat),r.length<n->n<=j->r.length<=100000->x15w s=pre++x15w r->m.get i2=some (.row [Tx r] 0 false)->Inv pre m ->
  ∃m',x2b (x14z (d+3)) hh u j (.yld id) (.ptr i2 0 0) m fc=some (.tup [],m')/\(Inv (x15w s) m'\/Fin m'):=by
  intro n
  induction n with
  |zero=>intro j r pre m fc hn;omega
  |succ n ih=>
   intro j r pre m fc hn hj hr hc f2 hI
   obtain⟨j,rfl⟩:∃k,j=k+1:=⟨j-1,by omega⟩
   simp only[x2b]
   unfold xag
   simp only[ld f2 rfl,x14w,x16c,x17g]
   by_cases hz:r=[]
   .subst hz
    simp only[x1qa,show decide ((0:Int)<((0:Nat):Int))=false from rfl,x15k]
    refine⟨m,rfl,.inl ?_⟩
    rw[hc,x1h0,x1qy];exact hI
   have hpos:(0:Int)<(r.length:Int):=by
    have:=x1si.mpr hz
    omega
   simp only[hpos,x1pb,x15f]
   unfold xaf xae
   have hib:=λm=>x1j2 d r 10 m
   rw[show((10:UInt8).toNat:Int)=10 from rfl]at hib
   simp only[ld f2 rfl,x14w]
   rw[show(AV.sc (.int .u8 10))=U8 10 from rfl]
   simp only[hib,x14w,sGe_I]
   rcases x1b3 10 r with ⟨q1,q2⟩|⟨i,q1,q2,q3,q4⟩
   .rw[q1]
    simp only[show decide ((0:Int)<=-1)=false from rfl,x15k,ld f2 rfl,x14w]
    rw[x1h1 hz q2]at hc
    rw[show(AV.sc (.string ⟨#[]⟩))=Tx []from rfl,x180 (z:=1) (x:=Tx []) f2 rfl (by simp) rfl]
    have hset:x15h [Tx r] 0 (Tx []).cells=[Tx []]:=rfl
    rw[hset]
    unfold x3k
    obtain⟨m2,k1,k2⟩:=hy pre r [] (m.set i2 (.row [Tx []] 0 false)) hc (hst _ _ _ hI)
    simp only[inv_y hl k1,x14w]
    rcases k2 with ⟨kl,k2,k3⟩|⟨kl,k2⟩
    .rw[kl]
     simp only[x16k,x1pe,x15k,x14w]
     rw[Mem.get_set,x1p0 rfl]at k3
     refine ih j [] (pre++[r]) m2 _ (by simp;omega) (by omega) (by simp) (by rw[hc,x1h0];simp) k3 k2
    .rw[kl]
     simp only[x16k,x1pa,x15f,x14w]
     exact⟨m2,rfl,.inr k2⟩
   .rw[q1]
    have hi:(0:Int)<=(i:Int):=by omega
    have hr2:x15w r=(r.take i++[10])::x15w (r.drop (i+1)):=by
     conv=>lhs;rw[<-x1ra i r,q4]
     exact x1e0 _ q3
    rw[hr2]at hc
    have ht:r.take (i+1)=r.take i++[10]:=by
     rw[List.take_add_one]
     have:r[i]?=some 10:=by
      have h5:=congrArg List.head? q4
      rw[x1sp]at h5
      exact h5
     rw[this];rfl
    have w2:w64 ((i:Int)+1)=((i+1:Nat):Int):=by rw[x16a (by omega) (by omega)];omega
    simp only[hi,x1pb,x15f,ld f2 rfl,x14w,x17f,w2,x_slh (show i+1<=r.length by omega),x_slo (show i+1<=r.length by omega),ht]
    rw[x180 (z:=1) (x:=Tx (r.drop (i+1))) f2 rfl (by simp) rfl]
    have hset:x15h [Tx r] 0 (Tx (r.drop (i+1))).cells=[Tx (r.drop (i+1))]:=rfl
    rw[hset]
    unfold x3k
    obtain⟨m2,k1,k2⟩:=hy pre (r.take i++[10]) _ (m.set i2 (.row [Tx (r.drop (i+1))] 0 false)) hc (hst _ _ _ hI)
    simp only[inv_y hl k1,x14w]
    rcases k2 with ⟨kl,k2,k3⟩|⟨kl,k2⟩
    .rw[kl]
     simp only[x16k,x1pe,x15k,x14w]
     rw[Mem.get_set,x1p0 rfl]at k3
     refine ih j (r.drop (i+1)) (pre++[r.take i++[10]]) m2 _ (by simp;omega) (by omega) (by simp;omega) (by rw[hc];simp) k3 k2
    .rw[kl]
     simp only[x16k,x1pa,x15f,x14w]
     exact⟨m2,rfl,.inr k2⟩
 exact loop (s.length+1) NN s [] m _ (by omega) (by rw[x197];omega) hs rfl e2 h0
def endL(l:List UInt8):Bool:=decide (l.getLast?=some 10)
theorem w_HasSuf(d:Nat){l:List UInt8}(hl:l.length<=100000)(m:Mem):x14q (x14z (d+1)) x1u [Tx l,Tx [10]] m=some (B (endL l),m):=by
 refine Ans.call0 (m:=m) ?_ rfl rfl
 unfold Ans
 rw[xxw]
 unfold x90 x81
 have hl1:x157 (Tx [10])=some (I 1):=x16c [10]
 simp only[mem0,x16c,hl1,x14w,sGe_I]
 by_cases c:l=[]
 .subst c
  simp only[x1qa,show decide ((1:Int)<=((0:Nat):Int))=false from rfl,x16l,x16m,sW_t,x15t,x14w,x15y]
  exact⟨_,rfl⟩
 .have hp:=x1si.mpr c
  have h1:(1:Int)<=(l.length:Int):=by omega
  have w1:w64 ((l.length:Int)-1)=((l.length-1:Nat):Int):=by rw[x16a (by omega) (by omega)];omega
  have hlast:(l.drop (l.length-1)=[10])↔l.getLast?=some 10:=by
   rw[List.getLast?_eq_getElem?]
   constructor
   .intro h
    have:=congrArg List.head? h
    rw[x1sp]at this
    exact this
   .intro h
    obtain⟨h2,h3⟩:=x1pu.mp h
    rw[x1sg h2,h3,show l.length-1+1=l.length by omega,List.drop_length]
  simp only[h1,x1pb,x16l,x16m,sW_t,x15p,x14w,x16c,hl1,sSub_I,w1,x_slo (show l.length-1<=l.length by omega),x_eq,x15y]
  have he:decide (l.drop (l.length-1)=[10])=endL l:=decide_eq_decide.mpr hlast
  rw[he]
  exact⟨_,rfl⟩
theorem w_CutSuf(d:Nat){l:List UInt8}(hl:l.length<=100000)(m:Mem):x14q (x14z (d+3)) x1q [Tx l,Tx [10]] m=some (.tup [Tx (if endL l=true then l.dropLast else l),B (endL l)],m):=by
 have h2:∀m,x14q (x14z (d+2)) x1s [Tx l,Tx [10]] m=some (.tup [Tx (if endL l=true then l.dropLast else l),B (endL l)],m):=λm=>by
  refine Ans.call0_tup (m:=m) ?_ rfl rfl
  unfold Ans
  rw[xxs]
  unfold x8v x7r
  have hl1:x157 (Tx [10])=some (I 1):=x16c [10]
  have hh:=λm=>w_HasSuf d hl m
  simp only[mem0,hh,x14w,x16k]
  cases he:endL l
  .simp only[x1pa,x15f,x1pj,x1p9]
   exact⟨_,rfl⟩
  .have hne:l≠[]:=by
    rintro rfl
    cases he
   have hp:=x1si.mpr hne
   have w1:w64 ((l.length:Int)-1)=((l.length-1:Nat):Int):=by rw[x16a (by omega) (by omega)];omega
   simp only[x1pe,x15k,x16c,hl1,x14w,sSub_I,w1,x_slh (show l.length-1<=l.length by omega),x1pk,List.dropLast_eq_take]
   exact⟨_,rfl⟩
 refine Ans.call0_tup (m:=m) ?_ rfl rfl
 unfold Ans
 rw[xxl]
 unfold x8o x7g
 simp only[mem0,h2,x14w,x1a9,x1qu,x1qo]
 exact⟨_,rfl⟩
theorem x1j3(call:x14p)(hs:FHs)(u:Nat){s:ByteArray}{a:AV}(h:Sl u8E a s.data.toList)(hl:s.size<=1000):∀(suf:List UInt8) (k j:Nat) (m:Mem) (fc:Nat),s.data.toList.drop k=suf->suf.length<j ->
 x1g call hs u j (T s) a (I s.data.toList.length) (I k) m fc=some (B (x18i k suf&&(decide (0<s.size)&&decide (s.size<=12))),m):=by
 intro suf
 have hsz:s.data.toList.length=s.size:=rfl
 have e0:teq s ⟨#[]⟩=decide (s.size=0):=by
  unfold teq
  rw[ByteArray.toList_eq,ByteArray.toList_eq]
  cases hs:s.data.toList with
  |nil=>
   have:s.size=0:=by show s.data.size=0;rw[<-x1qk,hs];rfl
   simp[this]
  |cons x r=>
   have:s.size=r.length+1:=by show s.data.size=_;rw[<-x1qk,hs];rfl
   simp[this]
 have tne (x y:Operand) (a b:ByteArray):sBin Tryz.prog .neq x0 x y (T a) (T b)=some (B (!teq a b)):=by kernel_rfl
 induction suf with
 |nil=>
  intro k j m fc hd hj
  obtain⟨j,rfl⟩:∃i,j=i+1:=⟨j-1,by simp at hj;omega⟩
  have hk:¬((k:Int)<(s.data.toList.length:Int)):=by have:=x1rb.mp hd;omega
  simp only[x1g]
  unfold x7k x9v
  simp only[x16y,hk,x1pc,x15k,x14w,tne,e0]
  by_cases h0:s.size=0
  .simp[h0,x18i]
  .simp[h0,x18i,show 0<s.size by omega]
   try omega
 |cons e r ih=>
  intro k j m fc hd hj
  obtain⟨j,rfl⟩:∃i,j=i+1:=⟨j-1,by simp at hj;omega⟩
  obtain⟨hk,he,hd⟩:=x1aa hd
  have hk':(k:Int)<(s.data.toList.length:Int):=by omega
  have ix:=h.ix x1du hk
  have ld:=ld_u8 (m:=m) hk
  have next:∀fc,x1g call hs u j (T s) a (I s.size) (I (w64 ((k:Int)+1))) m fc=some (B (x18i (k+1) r&&(decide (0<s.size)&&decide (s.size<=12))),m):=λfc=>by
   rw[x16a (by omega) (by omega)]
   exact ih (k+1) j m fc hd (by simp at hj;omega)
  rw[he]at ld
  have hk0:decide ((k:Int)=0)=!decide (0<k):=by
   by_cases h:0<k<;>simp[h]<;>omega
  simp only[x1g]
  unfold x7k
  simp only[x16y,hk',x1pb,x15f,x14w,ix,ld,u8_ge,u8_le,x17o,sW_t,sW_f]
  simp only[x18i,chOK]
  generalize (e.toNat:Int)=c
  have r1:decide (c<48)=!decide (48<=c):=by by_cases h:48<=c<;>simp[h]<;>omega
  have r2:decide (57<c)=!decide (c<=57):=by by_cases h:c<=57<;>simp[h]<;>omega
  by_cases a1:97<=c<;>by_cases a2:c<=122<;>by_cases b1:65<=c<;>by_cases b2:c<=90<;>by_cases d1:48<=c<;>by_cases d2:c<=57<;>by_cases d0:c=45 <;>
   first
   |(exfalso;omega)
   |(by_cases hp:k=0
     .simp[a1,a2,b1,b2,d1,d2,d0,hp,u8_ge,u8_le,x17o,u8_ne,u8_lt,u8_gt,r1,r2]
      try (rw[hp]at next;exact next _)
     .simp[a1,a2,b1,b2,d1,d2,d0,hp,show 0<k by omega,u8_ge,u8_le,x17o,u8_ne,u8_lt,u8_gt,r1,r2,next])
theorem x1j4(d:Nat)(s:ByteArray)(m:Mem)(hl:s.size<=1000):x14q (x14z (d+1)) xk [T s] m=some (B (nmOK s),m):=by
 refine call0 rfl (m':=⟨[],1⟩) ?_ rfl
 rw[xxo]
 have hlen:sLen Tryz.prog x7 (.slit (s.data.toList.flatMap u8E) s.data.toList.length false)=some (I s.data.toList.length):=(Sl.lit (enc:=u8E) s.data.toList false).len x1dv
 have hsz:s.data.toList.length=s.size:=rfl
 have hL:=λfc=>x1j3 (x14z d) [] 0 (Sl.lit (enc:=u8E) s.data.toList false) hl s.data.toList 0 NN ⟨[],1⟩ fc rfl (by rw[x197];omega)
 unfold x8r x7l x9w nmOK
 simp only[x1gu,hlen,x14w,mem0]
 have e:∀a b c:Bool,(c&&(a&&b))=(a&&b&&c):=by decide
 rw[<-e]
 exact hL _
def namedM(s:ByteArray)(l:List ByteArray):Int:=bif !nmOK s then 4 else bif l.any (λy=>teq y s)then 5 else 0
end Go.Ix
namespace Go.Ix
open Go.Proofs
variable{P:Program}
theorem x182{α β:Type}(f:α->Sem β):∀s:Sem α,x150 P (s >>= f)=(x150 P s).bind λa=>x150 P (f a):=by
 intro s
 show x150 P (Sem.bind s f)=_
 induction s with
 |pure a=>rfl
 |program k ih=>exact ih P
 |mark x k ih=>exact ih
 |_=>rfl
theorem x1b4{α:Type}(a:α):x150 P (pure a:Sem α)=some a:=rfl
theorem x1e1:x150 P program=some P:=rfl
theorem x1h2{t:TypeId}{d:TypeDesc}(h:P.underlying t=some d):x150 P (underlying t)=some d:=by
 simp only[underlying,x182,x1e1,x14w,h]
 rfl
theorem x1j5(d:Nat)(t:TypeId)(xs ys:Array Value)(ht:P.underlying t=some (.struct (P.fieldsOf t)))(hp:P.stoodInHeld t=false) :
 x150 P (Op.equalIn (d+1) t (.agg xs) (.agg ys))=x150 P (Op.eqFields d xs ys (P.fieldsOf t).toList):=by
 simp only[Op.equalIn,x182,x1h2 ht,x14w,x1e1,hp,x1pj,x1p9]
 rw[<-Array.forIn_toList]
 generalize (P.fieldsOf t).toList=fs
 clear ht
 induction fs with
 |nil=>simp[Op.eqFields,x1b4]
 |cons f fs ih=>
  simp only[List.forIn_cons,Op.eqFields,x182]
  split
  .simp only[x182]
   generalize x150 P (part f.type xs f.offset)=r1
   cases r1 with
   |none=>rfl
   |some a=>
    generalize hb:x150 P (part f.type ys f.offset)=r2
    cases r2 with
    |none=>simp[hb]
    |some b=>
     simp only[hb,x14w]
     generalize x150 P (Op.equalIn d f.type a b)=r3
     cases r3 with
     |none=>rfl
     |some r=>
      cases r
      .rfl
      .exact ih
  .exact ih
theorem x1j6(op:BinOp)(t:TypeId)(x y:Operand)(xs ys:Array Value)(hm:P.eqGuardType P.depth t=false):x150 P (eqGuard op t x y (.agg xs) (.agg ys))=some ():=by
 cases op<;>simp[eqGuard,x182,x1e1,x1b4,hm]
theorem x1j7{t:TypeId}{x y:Operand}{xs ys:List Value}{r:Bool}(hm:P.eqGuardType P.depth t=false)(hr:x150 P (Op.equalIn 10000 t (.agg xs.toArray) (.agg ys.toArray))=some r)(hx:∃k,scs k=some xs) :
 ∀kx ky,scs kx=some xs->scs ky=some ys->sBin P .neq t x y (.agg kx) (.agg ky)=some (B (!r)):=by
 intro kx ky h1 h2
 refine sBin_0 ?_
 simp only[bin0,x15b,h1,h2,x182,x1j6 _ _ _ _ _ _ hm,x14w]
 have:x150 P (binOp .neq t (.agg xs.toArray) (.agg ys.toArray))=some (.bool (!r)):=by
  show x150 P (do pure (Value.bool (!(<-Op.equal t (.agg xs.toArray) (.agg ys.toArray)))))=_
  simp only[x182,Op.equal,Op.maxDepth,hr,x14w,x1b4]
 rw[this];rfl
structure Ent where
 by_:List UInt8
 tx:List UInt8
def Ent.c(x:Ent):List AV:=[Tx x.by_,Tx x.tx]
theorem Ent.len(x:Ent):x.c.length=2:=rfl
theorem Ent.stl(x:Ent):x.c.all still1=true:=rfl
theorem x16u:Tryz.prog.underlying x5=some (.slice xb):=by kernel_rfl
theorem x1ae:x8=[Tx [],Tx []]:=by kernel_rfl
def Sh10(x:Ent):Prop:=x.by_.length<=60005/\x.tx.length<=60005
def x17p(n:Nat)(l:List UInt8):Nat:=l.foldl (λn b=>(257*n+b.toNat+1) % 998244353) n
def entB(x:Ent):List UInt8:=x.by_++[10]++x.tx++[10]
def x15l(n:Nat)(x:Ent):Nat:=x17p n (entB x)
theorem x1h3{n:Nat}(h:n<998244353):∀l:List UInt8,x17p n l<998244353:=λl=>by
 induction l generalizing n with
 |nil=>exact h
 |cons b l ih=>exact ih (x1qs _ (by omega))
theorem x173{n:Nat}(h:n<998244353)(x:Ent):x15l n x<998244353:=x1h3 h _
theorem c_byte(b:UInt8):sCvt Tryz.prog x1 x15g (U8 b.toNat)=some (I b.toNat):=by
 have:=b.toNat_lt
 rw[c_int,wrap_i64 (by omega) (by omega)]
theorem seal_step{n:Nat}(h:n<998244353)(b:UInt8):w64 (w64 (w64 (257*(n:Int))+(b.toNat:Int))+1)=((257*n+b.toNat+1:Nat):Int):=by
 have:=b.toNat_lt
 rw[x16a (n:=257*(n:Int)) (by omega) (by omega),x16a (n:=257*(n:Int)+(b.toNat:Int)) (by omega) (by omega),x16a (by omega) (by omega)]
 omega
theorem seal_mod(k:Nat):(((k:Nat):Int)).tmod 998244353=((k % 998244353:Nat):Int):=by
 rw[Int.tmod_eq_emod_of_nonneg (by omega)]
 omega
theorem x1h4(call:x14p)(hs:FHs)(u:Nat){l:List UInt8}(hl:l.length<=1000000):∀(suf:List UInt8) (k j n:Nat) (m:Mem) (fc:Nat),l.drop k=suf->suf.length<j->n<998244353 ->
 x29 call hs u j (I n) (.slit (l.flatMap u8E) l.length false) (I l.length) (I k) m fc=some (I (x17p n suf),m)
 |[],k,j,n,m,fc,hd,hj,hn=>by
  obtain⟨j,rfl⟩:∃i,j=i+1:=⟨j-1,by simp at hj;omega⟩
  have hk:¬((k:Int)<(l.length:Int)):=by have:=x1rb.mp hd;omega
  simp only[x29]
  unfold x7i x9t
  simp only[x16y,hk,x1pc,x14w,x15k]
  rfl
 |e::r,k,j,n,m,fc,hd,hj,hn=>by
  obtain⟨j,rfl⟩:∃i,j=i+1:=⟨j-1,by simp at hj;omega⟩
  obtain⟨hk,he,hd⟩:=x1aa hd
  have hk':(k:Int)<(l.length:Int):=by omega
  have ix:=(Sl.lit (enc:=u8E) l false).ix x1du hk
  have ld:=ld_u8 (m:=m) hk
  rw[he]at ld
  have w1:w64 ((k:Int)+1)=((k+1:Nat):Int):=by rw[x16a (by omega) (by omega)];omega
  have hz:(998244353:Int)≠0:=by decide
  have ih:=x1h4 call hs u hl r (k+1) j ((257*n+e.toNat+1) % 998244353) m (fc+14) hd (by simp at hj;omega) (x1qs _ (by omega))
  simp only[x29]
  unfold x7i
  simp only[x16y,hk',x1pb,x15f,x14w,ix,ld,sMul_I,c_byte,x17f,seal_step hn,sRem_I hz,seal_mod,w1]
  exact ih
theorem ent_one(x:Ent):x.c.all AV.one=true:=rfl
theorem x1h5(d:Nat){n:Nat}(hn:n<998244353){x:Ent}(h:Sh10 x)(m:Mem):x14q (x14z (d+1)) xx [I n,.agg x.c] m=some (I (x15l n x),m):=by
 refine Ans.call0 (m:=m) ?_ rfl rfl
 unfold Ans
 rw[xxn]
 unfold x8q x7j
 dsimp only
 simp only[mem0,sBox_eq,cells_agg,ent_one,x15p]
 obtain⟨m1,hm1⟩:∃m1:Mem,m1=(⟨[],0+1⟩:Mem).new (0,0,3) (.row x.c 0 false):=⟨_,rfl⟩
 have g:m1.get (0,0,3)=some (.row x.c 0 false):=by rw[hm1];simp
 rw[<-hm1]
 have l0:sLd false 1 (.ptr (0,0,3) 0 0) m1=some (Tx x.by_):=by rw[x195 g];rfl
 have l1:sLd false 1 (.ptr (0,0,3) 0 1) m1=some (Tx x.tx):=by rw[x195 g];rfl
 unfold x9u
 obtain⟨h1,h2⟩:=h
 rw[show(AV.sc (.string ⟨#[10]⟩))=Tx [10]from rfl]
 simp only[x1dr,x1q5,x1qn,x14w,l0,l1]
 rw[x181 _ _ (by simp;omega)]
 simp only[x14w]
 rw[x181 _ _ (by simp;omega)]
 simp only[x14w]
 rw[x181 _ _ (by simp;omega)]
 have hb:(entB x).length<=1000000:=by unfold entB;simp;omega
 have hc:sCvt Tryz.prog x0 x7 (Tx (entB x))=some (.slit ((entB x).flatMap u8E) (entB x).length false):=by
  have:=x1gu (⟨(entB x).toArray⟩:ByteArray)
  simpa using this
 have hln:sLen Tryz.prog x7 (.slit ((entB x).flatMap u8E) (entB x).length false)=some (I (entB x).length):=(Sl.lit (enc:=u8E) (entB x) false).len x1dv
 rw[show x.by_++[10]++x.tx++[10]=entB x from rfl]
 simp only[x14w,hc,hln]
 exact⟨m1,x1h4 (x14z d) [] 0 hb (entB x) 0 NN n m1 _ rfl (by rw[x197];omega) hn⟩
def x19u(n:Nat)(L:List Ent):Nat:=L.foldl x15l n
theorem sealL_lt{n:Nat}(h:n<998244353):∀L:List Ent,x19u n L<998244353:=λL=>by
 induction L generalizing n with
 |nil=>exact h
 |cons x L ih=>exact ih (x173 h x)
theorem ld_ent{m:Mem}{L:List Ent}{k:Nat}(hk:k<L.length):sLd true 2 (.plit ((L.drop k).flatMap Ent.c)) m=some (.agg L[k].c):=ld_flat Ent.len (by omega) hk
end Go.Ix
