import Derived.Test.YtpeakdjfagbpcaaGreatWg0
import Derived.Laws.Strings
import Derived.Test.YtpeakdjfagbpcaaGreatFxSound
import Derived.Laws.StructEq
set_option linter.unusedSimpArgs false
namespace Go.Ix
open Go.Proofs
theorem x135(d:Nat)(a b c:Int)(m:Mem):xwz (xwy (d+1)) xx [I a,I b,I c] m=some (B (wi a b c),m):=by
 refine call0 rfl (m':=⟨[],1⟩) ?_ rfl
 rw[xi9]
 unfold x7s x9i wi
 by_cases h:b<=a<;>by_cases h2:a<=c<;>simp[h,h2,mem0]
theorem w_small7(d:Nat)(a b:Int)(m:Mem)(h:-9223372036854775807<=b/\b<=9223372036854775807):xwz (xwy (d+2)) x3o [I a,I b] m=some (B (wi a (-b) b),m):=by
 refine call0 rfl (m':=⟨[],1⟩) ?_ rfl
 rw[xib]
 unfold x7u x9k
 simp(disch:=omega) [mem0,x135,xx4]
theorem w_size7(d:Nat)(a:Int)(m:Mem)(h1:-9223372036854775808<a)(h2:a<=9223372036854775807):xwz (xwy (d+1)) x33 [I a] m=some (I (a.natAbs:Int),m):=by
 refine call0 rfl (m':=⟨[],1⟩) ?_ rfl
 rw[xil]
 unfold x84 x9v
 simp(disch:=omega) [mem0,xx4]
 split<;>omega
abbrev T(s:ByteArray):AV:=.sc (.string s)
abbrev U8(c:Int):AV:=.sc (.int .u8 c)
def u8E(b:UInt8):List AV:=[U8 b.toNat]
theorem u8E_len(b:UInt8):(u8E b).length=1:=rfl
theorem u8_ge(x y:Operand)(a b:Int):sBin Tryz.prog .geq x3 x y (U8 a) (U8 b)=some (B (decide (b<=a))):=by kernel_rfl
theorem u8_le(x y:Operand)(a b:Int):sBin Tryz.prog .leq x3 x y (U8 a) (U8 b)=some (B (decide (a<=b))):=by kernel_rfl
theorem u8_gt(x y:Operand)(a b:Int):sBin Tryz.prog .gtr x3 x y (U8 a) (U8 b)=some (B (decide (b<a))):=by kernel_rfl
theorem u8_lt(x y:Operand)(a b:Int):sBin Tryz.prog .lss x3 x y (U8 a) (U8 b)=some (B (decide (a<b))):=by kernel_rfl
theorem u8_eq(x y:Operand)(a b:Int):sBin Tryz.prog .eql x3 x y (U8 a) (U8 b)=some (B (decide (a=b))):=by kernel_rfl
theorem u8_ne(x y:Operand)(a b:Int):sBin Tryz.prog .neq x3 x y (U8 a) (U8 b)=some (B (!decide (a=b))):=by kernel_rfl
def teq(a b:ByteArray):Bool:=a.toList == b.toList
theorem t_eq(x y:Operand)(a b:ByteArray):sBin Tryz.prog .eql xc x y (T a) (T b)=some (B (teq a b)):=by kernel_rfl
@[simp] theorem sLenS_T(s:ByteArray):x10k (T s)=some (I s.size):=rfl
theorem u_bytes:Tryz.prog.underlying x4v=some (.slice x3):=by kernel_rfl
theorem u_u8:Tryz.prog.underlying x3=some (.int .u8):=by kernel_rfl
theorem u_str:Tryz.prog.underlying xc=some .string:=by kernel_rfl
theorem cvt_bytes(s:ByteArray):sCvt Tryz.prog xc x4v (T s)=some (.slit (s.data.toList.flatMap u8E) s.data.toList.length false):=by
 have e:(s.data.toList.map fun b=>U8 b.toNat)=s.data.toList.flatMap u8E:=by
  induction s.data.toList with
  |nil=>rfl
  |cons b l ih=>rw[List.map_cons,List.flatMap_cons,ih];rfl
 simp only[sCvt,xxd,x12h,u_bytes,u_u8,u_str]
 rw[e,xyv (z:=1) u8E_len s.data.toList,Nat.mul_one]
theorem idx_T{s:ByteArray}{k:Nat}(h:k<s.data.toList.length):sIdx Tryz.prog xc (T s) (I k)=some (U8 (s.data.toList[k]).toNat):=by
 have:xx1 Tryz.prog (Instr.index xc (.string s) (.int .i64 k))=some (.int .u8 (s.data.toList[k]).toNat):=by
  have h2:s[k]?=some s.data.toList[k]:=by
   have h3:k<s.size:=by simpa using h
   rw[getElem?_pos s k h3]
   rfl
  simp only[Instr.index,asIntOf,asInt,underlying,program,Bind.bind,Sem.bind,xx1,Pure.pure,u_str]
  rw[if_pos (by omega),Int.toNat_natCast,h2]
  rfl
 have e:sIdx Tryz.prog xc (T s) (I k)=(xx1 Tryz.prog (Instr.index xc (.string s) (.int .i64 k))).map xxj:=by
  simp only[sIdx,I,xxd]
 rw[e,this]
 rfl
def chOK(p:Bool)(c:Int):Bool:=(decide (97<=c)&&decide (c<=122))||(decide (65<=c)&&decide (c<=90))||(p&&(decide (c=45)||(decide (48<=c)&&decide (c<=57))))
def xzz:Nat->List UInt8->Bool
 |_,[]=>true
 |k,c::r=>chOK (decide (0<k)) c.toNat&&xzz (k+1) r
def nmOK(s:ByteArray):Bool:=decide (0<s.size)&&decide (s.size<=12)&&xzz 0 s.data.toList
theorem ld_u8{m:Mem}{l:List UInt8}{k:Nat}(hk:k<l.length):sLd false 1 (.plit ((l.drop k).flatMap u8E)) m=some (U8 l[k].toNat):=by
 rw[xxx hk,List.flatMap_cons]
 rfl
theorem l_isName(call:xwx)(hs:FHs)(u:Nat){a:AV}{l:List UInt8}(h:Sl u8E a l)(hl:l.length<=12):∀(suf:List UInt8) (k j:Nat) (m:Mem) (fc:Nat),l.drop k=suf->suf.length<j ->
 x1j call hs u j a (I l.length) (I k) m fc=some (B (xzz k suf),m):=by
 intro suf
 induction suf with
 |nil=>
  intro k j m fc hd hj
  obtain⟨j,rfl⟩:∃i,j=i+1:=⟨j-1,by simp at hj;omega⟩
  have hk:¬((k:Int)<(l.length:Int)):=by have:=List.drop_eq_nil_iff.mp hd;omega
  simp only[x1j]
  unfold x6j xf
  simp[hk,xzz]
 |cons e r ih=>
  intro k j m fc hd hj
  obtain⟨j,rfl⟩:∃i,j=i+1:=⟨j-1,by simp at hj;omega⟩
  obtain⟨hk,he,hd⟩:=xzi hd
  have hk':(k:Int)<(l.length:Int):=by omega
  have ix:=h.ix u8E_len hk
  have ld:=ld_u8 (m:=m) hk
  have next:∀fc,x1j call hs u j a (I l.length) (I (w64 ((k:Int)+1))) m fc=some (B (xzz (k+1) r),m):=fun fc=>by
   rw[xx4 (by omega) (by omega)]
   exact ih (k+1) j m fc hd (by simp at hj;omega)
  rw[he]at ld
  have hk0:decide ((0:Int)<(k:Int))=decide (0<k):=by simp
  simp only[x1j]
  unfold x6j x4u x4t x4s xd
  simp only[xxt,hk',decide_true,xxz,xx7,ix,ld,u8_ge,u8_le,u8_eq,sW_t,sW_f]
  simp only[xzz,chOK]
  generalize (e.toNat:Int)=c
  by_cases a1:97<=c<;>by_cases a2:c<=122<;>by_cases b1:65<=c<;>by_cases b2:c<=90<;>by_cases d1:48<=c<;>by_cases d2:c<=57<;>by_cases d0:c=45 <;>
   first
   |(exfalso;omega)
   |(by_cases hp:0<k<;>simp[a1,a2,b1,b2,d1,d2,d0,hp,u8_ge,u8_le,u8_eq,next])
theorem w_isName(d:Nat)(s:ByteArray)(m:Mem):xwz (xwy (d+1)) x3y [T s] m=some (B (nmOK s),m):=by
 refine call0 rfl (m':=⟨[],1⟩) ?_ rfl
 rw[xiu]
 have e0:teq s ⟨#[]⟩=decide (s.size=0):=by
  unfold teq
  rw[ByteArray.toList_eq,ByteArray.toList_eq]
  cases hs:s.data.toList with
  |nil=>
   have:s.size=0:=by show s.data.size=0;rw[<-Array.length_toList,hs];rfl
   simp[this]
  |cons x r=>
   have:s.size=r.length+1:=by show s.data.size=_;rw[<-Array.length_toList,hs];rfl
   simp[this]
 have hsz:s.data.toList.length=s.size:=rfl
 unfold x8d xa4 nmOK
 simp only[t_eq,e0,xx7]
 by_cases h0:s.size=0
 .simp[h0,mem0]
 .by_cases h12:s.size<=12
  .have hL:=l_isName (xwy d) [] 0 (Sl.lit (enc:=u8E) s.data.toList false) (by omega) s.data.toList 0 NN ⟨[],1⟩ (fc:=12) rfl (by rw[xxb];omega)
   have hlen:sLen Tryz.prog x4v (.slit (s.data.toList.flatMap u8E) s.data.toList.length false)=some (I s.data.toList.length):=(Sl.lit (enc:=u8E) s.data.toList false).len u_bytes
   unfold x6k
   simp only[cvt_bytes,hlen]
   simp[h0,h12,show ¬((12:Int)<s.size) by omega,show 0<s.size by omega,mem0]
   exact hL
  .simp[h0,h12,show(12:Int)<s.size by omega,mem0]
theorem l_IsName(call:xwx)(hs:FHs)(u:Nat){s:ByteArray}(hl:s.size<=12):∀(suf:List UInt8) (k j:Nat) (m:Mem) (fc:Nat),s.data.toList.drop k=suf->suf.length<j ->
 x1e call hs u j (T s) (I k) m fc=some (B (xzz k suf),m):=by
 have hsz:s.data.toList.length=s.size:=rfl
 intro suf
 induction suf with
 |nil=>
  intro k j m fc hd hj
  obtain⟨j,rfl⟩:∃i,j=i+1:=⟨j-1,by simp at hj;omega⟩
  have hk:¬((k:Int)<(s.size:Int)):=by have:=List.drop_eq_nil_iff.mp hd;omega
  simp only[x1e]
  unfold x5x x28
  simp[hk,xzz]
 |cons e r ih=>
  intro k j m fc hd hj
  obtain⟨j,rfl⟩:∃i,j=i+1:=⟨j-1,by simp at hj;omega⟩
  obtain⟨hk,he,hd⟩:=xzi hd
  have hk':(k:Int)<(s.size:Int):=by omega
  have ix:=idx_T hk
  have next:∀fc,x1e call hs u j (T s) (I (w64 ((k:Int)+1))) m fc=some (B (xzz (k+1) r),m):=fun fc=>by
   rw[xx4 (by omega) (by omega)]
   exact ih (k+1) j m fc hd (by simp at hj;omega)
  rw[he]at ix
  simp only[x1e]
  unfold x5x
  simp only[sLenS_T,xx7,xxt,hk',decide_true,xxz,ix,u8_ge]
  simp only[xzz,chOK]
  generalize (e.toNat:Int)=c
  by_cases a1:97<=c<;>by_cases a2:c<=122<;>by_cases b1:65<=c<;>by_cases b2:c<=90<;>by_cases d1:c<48<;>by_cases d2:57<c<;>by_cases d0:c=45 <;>
   first
   |(exfalso;omega)
   |(have d1':(48<=c)=¬(c<48):=by rw[Int.not_lt]
     have d2':(c<=57)=¬(57<c):=by rw[Int.not_lt]
     by_cases hp:k=0<;>simp[a1,a2,b1,b2,d1,d2,d1',d2',d0,hp,Nat.pos_iff_ne_zero,u8_ge,u8_le,u8_eq,u8_ne,u8_lt,u8_gt,next]<;>(subst hp;have:=next (fc+44);simpa using this))
theorem w_IsName(d:Nat)(s:ByteArray)(m:Mem):xwz (xwy (d+1)) x3p [T s] m=some (B (nmOK s),m):=by
 refine call0 rfl (m':=⟨[],1⟩) ?_ rfl
 rw[xic]
 have hsz:s.data.toList.length=s.size:=rfl
 unfold x7v x9l nmOK
 by_cases h0:s.size=0
 .simp[h0,mem0]
 .by_cases h12:s.size<=12
  .have hL:=l_IsName (xwy d) [] 0 (s:=s) h12 s.data.toList 0 NN ⟨[],1⟩ (fc:=10) rfl (by rw[xxb];omega)
   unfold x5y
   simp[h0,h12,show ¬((12:Int)<s.size) by omega,show ¬((s.size:Int)<1) by omega,show 0<s.size by omega,mem0]
   exact hL
  .simp[h0,h12,show(12:Int)<s.size by omega,show ¬((s.size:Int)<1) by omega,mem0]
theorem x1aj{i j:Id}{cs:List AV}{v:Nat}:∀{h:Hp} {b:Bool},hget h i=some (.row cs v b)->∃b',hget (shut1 h j) i=some (.row cs v b'):=by
 intro h b hi
 have:=congrFun (x13y [j] h) i
 rw[show xzg [j] h=shut1 h j from rfl]at this
 rw[this]
 unfold shut
 split
 .rw[hi];exact⟨_,rfl⟩
 .exact⟨b,hi⟩
theorem x187{i:Id}{cs:List AV}{v:Nat}:∀(ids:List Id) {h:Hp} {b:Bool},hget h i=some (.row cs v b)->∃b',hget (xzg ids h) i=some (.row cs v b')
 |[],h,b,hi=>⟨b,hi⟩
 |j::r,h,b,hi=>by
  obtain⟨b',h'⟩:=x1aj (j:=j) hi
  exact x187 r h'
theorem x188{call:xwx}{f:FuncId}{l l':List AV}{m m':Mem}{r r':AV}(hl:l.mapM (Go.Ix.frz m.get deep)=some l')(h:call [] f l' mem0=some (r,m'))(hr:Go.Ix.frz m'.get deep r=some r') :
 ∃m2:Mem,xwz call f l m=some (r',m2)/\m2.next=m.next/\∀i cs v b,m.get i=some (.row cs v b)->∃b',m2.get i=some (.row cs v b'):=by
 refine⟨⟨xzg (l.flatMap (xx2 m.get deep)) m.hp,m.next⟩,?_,rfl,fun i cs v b hi=>x187 _ hi⟩
 unfold xwz
 rw[hl]
 simp only[h,hr]
 rfl
structure Scene where
 nm:ByteArray
 day:Int
 bl:Int
def Scene.c(s:Scene):List AV:=[T s.nm,I s.day,I s.bl]
theorem Scene.len(s:Scene):s.c.length=3:=rfl
theorem xy6:Tryz.prog.underlying x6=some (.slice x3i):=by kernel_rfl
theorem x1ak:∃i,Tryz.prog.info? x3i=some i/\i.size=3:=by
 have:(Tryz.prog.info? x3i).map (·.size)=some 3:=by kernel_rfl
 rw[Option.map_eq_some_iff]at this
 exact this
theorem x143:x1z=[T ⟨#[]⟩,I 0,I 0]:=by kernel_rfl
@[simp] theorem cells_T(s:ByteArray):(T s).cells=[T s]:=rfl
@[simp] theorem one_T(s:ByteArray):(T s).one=true:=rfl
theorem x1al{a:AV}{l:List Scene}(h:Sl Scene.c a l){k:Nat}(hk:k<=l.length)(h0:l≠[]):∃a',Sl Scene.c a' (l.take k)/\xzw Tryz.prog x6 a none (some (I k))=some a':=by
 rcases h with ⟨_,rfl⟩|⟨x,rfl⟩
 .exact absurd rfl h0
 obtain⟨i,hi,hs⟩:=x1ak
 have hl:=xyv Scene.len l
 refine⟨.slit ((l.take k).flatMap Scene.c) (l.take k).length (x&&decide ((k:Int)=(l.length:Int))),Sl.lit _ _,?_⟩
 have e1:xxd (.slit (l.flatMap Scene.c) l.length x)=none:=_root_.id rfl
 have e2:asI (I (k:Int))=some (k:Int):=rfl
 have e3:asI (I 0)=some 0:=rfl
 unfold xzw
 simp only[e1,xy6,hi,Option.getD_some,Option.getD_none,e2,e3,hs,Int.sub_zero,Int.toNat_natCast,Int.toNat_zero,Nat.zero_mul,List.drop_zero]
 rw[if_pos ⟨by omega,by omega,by omega,by omega⟩,List.length_take,Nat.min_eq_left hk]
 have ht:∀(l:List Scene) (k:Nat),(l.flatMap Scene.c).take (k*3)=(l.take k).flatMap Scene.c:=by
  intro l
  induction l with
  |nil=>intro k;simp
  |cons x r ih=>
   intro k
   cases k with
   |zero=>simp
   |succ k=>
    rw[List.flatMap_cons,List.take_succ_cons,List.flatMap_cons,Nat.succ_mul,show k*3+3=x.c.length+k*3 by rw[Scene.len];omega,List.take_length_add_append,ih]
 rw[ht]
def x10p(nm:ByteArray):Int->List Scene->Int
 |_,[]=>-1
 |k,x::r=>bif teq x.nm nm then k else x10p nm (k+1) r
theorem x189(nm:ByteArray):∀(l:List Scene) (k:Int),0<=k->decide (0<=x10p nm k l)=l.any fun y=>teq y.nm nm
 |[],k,_=>by simp[x10p]
 |x::r,k,hk=>by
  rw[x10p,List.any_cons]
  cases teq x.nm nm with
  |true=>simp[hk]
  |false=>simpa using x189 nm r (k+1) (by omega)
theorem x1am(d:Nat)(hs:FHs)(x y:Scene)(m:Mem):∃m',xwy (d+1) hs xe [.agg x.c,.plit y.c] m=some (B (teq x.nm y.nm),m'):=by
 rw[xiw]
 unfold x8f xa6
 simp[Scene.c,t_eq]
theorem x1an(d:Nat)(hs:FHs){a:AV}{l:List Scene}{y:Scene}(h:Sl Scene.c a l)(hl:l.length<1000000)(u:Nat):∀(suf:List Scene) (k j:Nat) (m:Mem) (fc:Nat),l.drop k=suf->suf.length<j ->
 ∃m',x2q (xwy (d+1)) hs u j a (.clo xe [.plit y.c]) (I l.length) (I k) m fc=some (I (x10p y.nm k suf),m'):=by
 intro suf
 induction suf with
 |nil=>
  intro k j m fc hd hj
  obtain⟨j,rfl⟩:∃i,j=i+1:=⟨j-1,by simp at hj;omega⟩
  have hk:¬((k:Int)<(l.length:Int)):=by have:=List.drop_eq_nil_iff.mp hd;omega
  simp only[x2q]
  unfold x73
  simp[hk,x2p,x10p]
 |cons e r ih=>
  intro k j m fc hd hj
  obtain⟨j,rfl⟩:∃i,j=i+1:=⟨j-1,by simp at hj;omega⟩
  obtain⟨hk,he,hd⟩:=xzi hd
  have hk':(k:Int)<(l.length:Int):=by omega
  have ix:=h.ix Scene.len hk
  have ld:=xya (m:=m) Scene.len (by omega) hk
  rw[he]at ld
  obtain⟨m1,hc⟩:=x1am d hs e y m
  have hinv:xys (xwy (d+1)) hs 2 (.clo xe [.plit y.c]) [.agg e.c] m=some (B (teq e.nm y.nm),m1):=hc
  simp only[x2q]
  unfold x73
  simp only[xxt,hk',decide_true,xxz,xx7,ix,ld,hinv,x10p]
  cases ht:teq e.nm y.nm with
  |true=>simp
  |false=>
   obtain⟨m',h'⟩:=ih (k+1) j m1 (fc+11) hd (by simp at hj;omega)
   simp(disch:=omega) [xx4]
   exact⟨m',by simpa using h'⟩
theorem x1ao(d:Nat){a:AV}{l:List Scene}{y:Scene}(h:Sl Scene.c a l)(hl:l.length<1000000) :
 ∃m',xwy (d+3) [] x3z [a,.clo xe [.plit y.c]] mem0=some (B (l.any fun x=>teq x.nm y.nm),m'):=by
 obtain⟨m',h'⟩:=x1an d [] (y:=y) h hl 0 l 0 NN ⟨[],1⟩ 4 rfl (by rw[xxb];omega)
 have hi:xwy (d+2) [] x45 [a,.clo xe [.plit y.c]] mem0=some (I (x10p y.nm 0 l),m'):=by
  rw[xj8]
  unfold x8r xak x74
  simp[h.len xy6,mem0]
  exact h'
 have hc:=fun m:Mem=>call0 (m:=m) (call:=xwy (d+2)) (l:=[a,.clo xe [.plit y.c]]) (by simp only[List.all_cons,List.all_nil,h.still,Bool.true_and,Bool.and_true];rfl) hi rfl
 rw[xiv]
 unfold x8e xa5
 simp[hc,mem0,<-x189 y.nm l 0 (by omega)]
def xyn(l:List Scene):Nat->List Scene->Int×Int
 |_,[]=>(0,0)
 |k,x::r=>
  bif !(nmOK x.nm)then((k:Int),4)
  else bif(l.take k).any (fun y=>teq y.nm x.nm)then((k:Int),5)
  else bif !(wi x.day 0 100000)||!(wi x.bl (-100000) 100000)then((k:Int),2)
  else xyn l (k+1) r
def xyg(l:List Scene):Int×Int:=bif decide (60<l.length)then(0,8)else xyn l 0 l
theorem x1ap(d:Nat)(u:Nat){a:AV}{l:List Scene}(h:Sl Scene.c a l)(hl:l.length<=60):∀(suf:List Scene) (k j:Nat) (m:Mem) (fc:Nat),l.drop k=suf->suf.length<j ->
 ∃m',x1d (xwy (d+3)) [] u j a a (I l.length) (I k) m fc=some (.tup [I (xyn l k suf).1,I (xyn l k suf).2],m'):=by
 intro suf
 induction suf with
 |nil=>
  intro k j m fc hd hj
  obtain⟨j,rfl⟩:∃i,j=i+1:=⟨j-1,by simp at hj;omega⟩
  have hk:¬((k:Int)<(l.length:Int)):=by have:=List.drop_eq_nil_iff.mp hd;omega
  simp only[x1d]
  unfold x5v
  simp[hk,x27,xyn]
 |cons e r ih=>
  intro k j m fc hd hj
  obtain⟨j,rfl⟩:∃i,j=i+1:=⟨j-1,by simp at hj;omega⟩
  obtain⟨hk,he,hd⟩:=xzi hd
  have hk':(k:Int)<(l.length:Int):=by omega
  have ix:=h.ix Scene.len hk
  have ld:=xya (m:=m) Scene.len (by omega) hk
  rw[he]at ld
  obtain⟨a',hpre,hsl⟩:=x1al h (k:=k) (by omega) (by rintro rfl;simp at hk)
  have next:∀m fc,∃m',x1d (xwy (d+3)) [] u j a a (I l.length) (I ((k:Int)+1)) m fc=some (.tup [I (xyn l (k+1) r).1,I (xyn l (k+1) r).2],m'):=fun m fc=>ih (k+1) j m fc hd (by simp at hj;omega)
  simp only[x1d]
  unfold x5v
  simp only[xxt,hk',decide_true,xxz,xx7,ix,ld,x15o,x143,xyn]
  simp[Scene.c,w_isName]
  cases hn:nmOK e.nm with
  |false=>simp
  |true=>
   simp[hsl]
   generalize hm1:Mem.set _ _ _=m1
   have hg:m1.get (u,fc+4,5)=some (.row e.c 0 false):=by rw[<-hm1];simp[Scene.c]
   obtain⟨mc,hcc⟩:=x1ao d (y:=e) hpre (by rw[List.length_take];omega)
   have hfr:[a',AV.clo xe [.ptr (u,fc+4,5) 0 0]].mapM (Go.Ix.frz m1.get deep)=some [a',.clo xe [.plit e.c]]:=by
    have h1:Go.Ix.frz m1.get deep a'=some a':=xyl _ 4 hpre.still
    have h3:e.c.mapM (Go.Ix.frz m1.get 4)=some e.c:=x10m fun b hb=>x126 _ 3 (by
     simp[Scene.c]at hb;rcases hb with rfl|rfl|rfl<;>rfl)
    have h4:Go.Ix.frz m1.get 5 (.ptr (u,fc+4,5) 0 0)=some (.plit e.c):=by
     simp only[Go.Ix.frz,hg,if_true,List.drop_zero,h3];rfl
    have h2:Go.Ix.frz m1.get deep (.clo xe [.ptr (u,fc+4,5) 0 0])=some (.clo xe [.plit e.c]):=by
     show([AV.ptr (u,fc+4,5) 0 0].mapM (Go.Ix.frz m1.get 5)).map (AV.clo xe)=_
     simp only[List.mapM_cons,List.mapM_nil,h4];rfl
    simp only[List.mapM_cons,List.mapM_nil,h1,h2];rfl
   obtain⟨m2,hs2,_,hrow⟩:=x188 hfr hcc rfl
   obtain⟨b',hg2⟩:=hrow _ _ _ _ hg
   simp only[hs2,xx7]
   cases hany:(l.take k).any fun x=>teq x.nm e.nm with
   |true=>simp
   |false=>
    simp[hg2,Scene.c,x135]
    cases hw:wi e.day 0 100000 with
    |false=>simp
    |true=>
     simp(disch:=omega) [hg2,Scene.c,w_small7]
     cases hw2:wi e.bl (-100000) 100000 with
     |false=>simp
     |true=>
      obtain⟨m',h'⟩:=next m2 (fc+31)
      simp
      exact⟨m',h'⟩
theorem x1aq(d:Nat){a:AV}{l:List Scene}(h:Sl Scene.c a l)(m:Mem):xwz (xwy (d+4)) x2z [a] m=some (.tup [I (xyg l).1,I (xyg l).2],m):=by
 obtain⟨m',h'⟩:∃m',xwy (d+4) [] x2z [a] mem0=some (.tup [I (xyg l).1,I (xyg l).2],m'):=by
  rw[xia]
  unfold x7t x9j x5w xyg
  by_cases hl:60<l.length
  .simp[h.len xy6,hl,show(60:Int)<l.length by omega]
  .obtain⟨m',h'⟩:=x1ap d 0 h (by omega) l 0 NN ⟨[],1⟩ 8 rfl (by rw[xxb];omega)
   simp[h.len xy6,hl,show ¬((60:Int)<l.length) by omega,mem0]
   exact⟨m',h'⟩
 exact call0_tup (by simp[h.still]) h' rfl
theorem ld_nm{m:Mem}{l:List Scene}{k:Nat}(hk:k<l.length):sLd false 1 (.plit ((l.drop k).flatMap Scene.c)) m=some (T l[k].nm):=by
 rw[xxx hk,List.flatMap_cons]
 rfl
theorem x1ar(call:xwx)(hs:FHs)(u:Nat){a:AV}{l:List Scene}(h:Sl Scene.c a l)(hl:l.length<=60){n:Nat}(hn:n<l.length){e:Scene}(id:Id)(rec0:AV->AV->Mem->Nat->O2)(m:Mem)(hg:m.get id=some (.row e.c 0 false)):∀(suf:List Scene) (k j:Nat) (fc:Nat),(l.take n).drop k=suf->suf.length<j ->
 ∃fc',x1y call hs u rec0 j a (I n) (.ptr id 0 0) (I k) m fc=(bif suf.any (fun y=>teq y.nm e.nm)then some (.tup [I n,I 5],m)else x17 call hs u rec0 a (I n) (.ptr id 0 0) m fc'):=by
 intro suf
 induction suf with
 |nil=>
  intro k j fc hd hj
  obtain⟨j,rfl⟩:∃i,j=i+1:=⟨j-1,by simp at hj;omega⟩
  have hk:¬((k:Int)<(n:Int)):=by have:=List.drop_eq_nil_iff.mp hd;rw[List.length_take]at this;omega
  simp only[x1y]
  unfold x5c
  simp[hk]
  exact⟨_,rfl⟩
 |cons x r ih=>
  intro k j fc hd hj
  obtain⟨j,rfl⟩:∃i,j=i+1:=⟨j-1,by simp at hj;omega⟩
  obtain⟨hk,he,hd⟩:=xzi hd
  rw[List.length_take]at hk
  have hk':(k:Int)<(n:Int):=by omega
  have hk2:k<l.length:=by omega
  rw[List.getElem_take]at he
  have ix:=h.ix Scene.len hk2
  have ld:=ld_nm (m:=m) hk2
  rw[he]at ld
  simp only[x1y]
  unfold x5c
  simp only[xxt,hk',decide_true,xxz,xx7,ix,sFA_plit,List.drop_zero,ld,List.any_cons]
  simp[hg,Scene.c,t_eq]
  cases ht:teq x.nm e.nm with
  |true=>simp
  |false=>
   obtain⟨fc',h'⟩:=ih (k+1) j (fc+14) hd (by simp at hj;omega)
   simp(disch:=omega) [xx4]
   exact⟨fc',by simpa using h'⟩
theorem x1as(d:Nat)(u:Nat){a:AV}{l:List Scene}(h:Sl Scene.c a l)(hl:l.length<=60):∀(suf:List Scene) (k j:Nat) (m:Mem) (fc:Nat),l.drop k=suf->suf.length<j ->
 ∃m',x10 (xwy (d+1)) [] u j a (I k) m fc=some (.tup [I (xyn l k suf).1,I (xyn l k suf).2],m'):=by
 intro suf
 induction suf with
 |nil=>
  intro k j m fc hd hj
  obtain⟨j,rfl⟩:∃i,j=i+1:=⟨j-1,by simp at hj;omega⟩
  have hk:¬((k:Int)<(l.length:Int)):=by have:=List.drop_eq_nil_iff.mp hd;omega
  simp only[x10]
  unfold x5e
  simp[h.len xy6,hk,xa,xyn]
 |cons e r ih=>
  intro k j m fc hd hj
  obtain⟨j,rfl⟩:∃i,j=i+1:=⟨j-1,by simp at hj;omega⟩
  obtain⟨hk,he,hd⟩:=xzi hd
  have hk':(k:Int)<(l.length:Int):=by omega
  have ix:=h.ix Scene.len hk
  have ld:=xya (m:=m) Scene.len (by omega) hk
  rw[he]at ld
  have next:∀m fc,∃m',x10 (xwy (d+1)) [] u j a (I ((k:Int)+1)) m fc=some (.tup [I (xyn l (k+1) r).1,I (xyn l (k+1) r).2],m'):=fun m fc=>ih (k+1) j m fc hd (by simp at hj;omega)
  simp only[x10]
  unfold x5e x4h
  simp only[h.len xy6,xxt,hk',decide_true,xxz,xx7,ix,ld,x15o,x143,xyn]
  simp[Scene.c,w_IsName]
  cases hn:nmOK e.nm with
  |false=>simp
  |true=>
   simp
   generalize hm1:Mem.set _ _ _=m1
   have hg:m1.get (u,fc+4+4,5)=some (.row e.c 0 false):=by rw[<-hm1];simp[Scene.c]
   unfold x5d
   obtain⟨fc',hL⟩:=x1ar (xwy (d+1)) [] u h hl hk (u,fc+4+4,5) (x10 (xwy (d+1)) [] u j) m1 hg (l.take k) 0 NN (fc+4+10+1) rfl (by rw[xxb,List.length_take];omega)
   rw[show(I ((0:Nat):Int))=I 0 from rfl]at hL
   rw[hL]
   cases hany:(l.take k).any fun x=>teq x.nm e.nm with
   |true=>simp
   |false=>
    unfold x17 xj
    simp[hg,Scene.c,x134]
    cases hw:wi e.day 0 100000 with
    |false=>simp
    |true=>
     simp(disch:=omega) [hg,Scene.c,x134]
     cases hw2:wi e.bl (-100000) 100000 with
     |false=>simp
     |true=>
      simp
      exact next _ _
theorem x1at(d:Nat){a:AV}{l:List Scene}(h:Sl Scene.c a l)(m:Mem):xwz (xwy (d+2)) x2t [a] m=some (.tup [I (xyg l).1,I (xyg l).2],m):=by
 obtain⟨m',h'⟩:∃m',xwy (d+2) [] x2t [a] mem0=some (.tup [I (xyg l).1,I (xyg l).2],m'):=by
  rw[xhx]
  unfold x7h x95 x5f xyg
  by_cases hl:60<l.length
  .simp[h.len xy6,hl,show(60:Int)<l.length by omega]
  .obtain⟨m',h'⟩:=x1as d 0 h (by omega) l 0 NN ⟨[],1⟩ 6 rfl (by rw[xxb];omega)
   simp[h.len xy6,hl,show ¬((60:Int)<l.length) by omega,mem0]
   exact⟨m',h'⟩
 exact call0_tup (by simp[h.still]) h' rfl
end Go.Ix
set_option linter.unusedVariables false
namespace Go.Ix
open Go.Proofs
variable{P:Program}
theorem x10a{α β:Type}(f:α->Sem β):∀s:Sem α,xx1 P (s >>= f)=(xx1 P s).bind fun a=>xx1 P (f a):=by
 intro s
 show xx1 P (Sem.bind s f)=_
 induction s with
 |pure a=>rfl
 |program k ih=>exact ih P
 |mark x k ih=>exact ih
 |_=>rfl
theorem x144{α:Type}(a:α):xx1 P (pure a:Sem α)=some a:=rfl
theorem x15q:xx1 P program=some P:=rfl
theorem x18a{t:TypeId}{d:TypeDesc}(h:P.underlying t=some d):xx1 P (underlying t)=some d:=by
 simp only[underlying,x10a,x15q,xx7,h]
 rfl
theorem x1au(d:Nat)(t:TypeId)(xs ys:Array Value)(ht:P.underlying t=some (.struct (P.fieldsOf t)))(hp:P.stoodInHeld t=false) :
 xx1 P (Op.equalIn (d+1) t (.agg xs) (.agg ys))=xx1 P (Op.eqFields d xs ys (P.fieldsOf t).toList):=by
 simp only[Op.equalIn,x10a,x18a ht,xx7,x15q,hp,Bool.false_eq_true,if_false]
 rw[<-Array.forIn_toList]
 generalize (P.fieldsOf t).toList=fs
 clear ht
 induction fs with
 |nil=>simp[Op.eqFields,x144]
 |cons f fs ih=>
  simp only[List.forIn_cons,Op.eqFields,x10a]
  split
  .simp only[x10a]
   generalize xx1 P (part f.type xs f.offset)=r1
   cases r1 with
   |none=>rfl
   |some a=>
    generalize hb:xx1 P (part f.type ys f.offset)=r2
    cases r2 with
    |none=>simp[hb]
    |some b=>
     simp only[hb,xx7]
     generalize xx1 P (Op.equalIn d f.type a b)=r3
     cases r3 with
     |none=>rfl
     |some r=>
      cases r
      .rfl
      .exact ih
  .exact ih
theorem x1av(d:Nat)(t:TypeId)(k k':IntKind)(a b:Int)(h:P.underlying t=some (.int k')):xx1 P (Op.equalIn (d+1) t (.int k a) (.int k b))=some (a == b):=by
 simp[Op.equalIn,x10a,x18a h,x144]
theorem x1aw(op:BinOp)(t:TypeId)(x y:Operand)(xs ys:Array Value)(hm:P.eqGuardType P.depth t=false):xx1 P (eqGuard op t x y (.agg xs) (.agg ys))=some ():=by
 cases op<;>simp[eqGuard,x10a,x15q,x144,hm]
theorem x1ax{t:TypeId}{x y:Operand}{xs ys:List Value}{r:Bool}(hm:P.eqGuardType P.depth t=false)(hr:xx1 P (Op.equalIn 10000 t (.agg xs.toArray) (.agg ys.toArray))=some r) :
 ∀kx ky,scs kx=some xs->scs ky=some ys->sBin P .eql t x y (.agg kx) (.agg ky)=some (B r):=by
 intro kx ky h1 h2
 simp only[sBin,xxd,h1,h2,x10a,x1aw _ _ _ _ _ _ hm,xx7]
 have:xx1 P (binOp .eql t (.agg xs.toArray) (.agg ys.toArray))=some (.bool r):=by
  show xx1 P (do pure (Value.bool (<-Op.equal t (.agg xs.toArray) (.agg ys.toArray))))=_
  simp only[x10a,Op.equal,Op.maxDepth,hr,xx7,x144]
 rw[this];rfl
theorem und_int:Tryz.prog.underlying xxk=some (.int .i64):=by kernel_rfl
theorem x18b(d:Nat)(xs ys:Array Value)(ga gb:Nat->Int):∀fs:List Field,(∀f∈fs,f.name≠"_"/\f.type=xxk/\xx1 Tryz.prog (part xxk xs f.offset)=some (.int .i64 (ga f.offset))/\xx1 Tryz.prog (part xxk ys f.offset)=some (.int .i64 (gb f.offset))) ->
 xx1 Tryz.prog (Op.eqFields (d+1) xs ys fs)=some (fs.all fun f=>ga f.offset == gb f.offset)
 |[],_=>rfl
 |f::fs,h=>by
  obtain⟨h1,h2,h3,h4⟩:=h f (List.mem_cons_self ..)
  have ih:=x18b d xs ys ga gb fs fun g hg=>h g (List.mem_cons_of_mem _ hg)
  simp only[Op.eqFields,h1,ne_eq,not_false_eq_true,if_true,h2,x10a,h3,h4,xx7,x1av _ _ _ _ _ _ und_int,List.all_cons]
  cases ga f.offset == gb f.offset
  .rfl
  .exact ih
theorem eq_ints{t:TypeId}{offs:List Nat}{xs ys:Array Value}{ga gb:Nat->Int}(hS:Tryz.prog.underlying t=some (.struct (Tryz.prog.fieldsOf t)))(hs:Tryz.prog.stoodInHeld t=false)(hF:((Tryz.prog.fieldsOf t).toList.map fun f=>(f.type,f.offset,decide (f.name = "_")))=offs.map fun o=>(xxk,o,false))(hp:∀o∈offs,xx1 Tryz.prog (part xxk xs o)=some (.int .i64 (ga o))/\xx1 Tryz.prog (part xxk ys o)=some (.int .i64 (gb o))) :
 xx1 Tryz.prog (Op.equalIn 10000 t (.agg xs) (.agg ys))=some (offs.all fun o=>ga o == gb o):=by
 rw[show(10000:Nat)=9998+1+1 from rfl,x1au _ _ _ _ hS hs]
 generalize (Tryz.prog.fieldsOf t).toList=fs at hF
 rw[x18b 9998 xs ys ga gb fs]
 .have:(fs.map fun f=>f.offset)=offs:=by
   have:=congrArg (List.map fun x:TypeId×Nat×Bool=>x.2.1) hF
   simpa[List.map_map,Function.comp_def]using this
  rw[<-this,List.all_map]
  rfl
 .intro f hf
  have h1:(f.type,f.offset,decide (f.name = "_"))∈offs.map fun o=>(xxk,o,false):=by
   rw[<-hF];exact List.mem_map_of_mem hf
  obtain⟨o,ho,e⟩:=List.mem_map.mp h1
  simp only[Prod.mk.injEq]at e
  obtain⟨e1,e2,e3⟩:=e
  subst e2
  exact⟨of_decide_eq_false e3.symm,e1.symm,hp _ ho⟩
structure Pq where
 a:Int
 b:Int
def Pq.c(p:Pq):List AV:=[I p.a,I p.b]
theorem Pq.len(p:Pq):p.c.length=2:=rfl
theorem Pq.still(p:Pq):p.c.all still1=true:=rfl
theorem xy8:Tryz.prog.underlying x4=some (.slice x5):=by kernel_rfl
theorem x100:x19=[I 0,I 0]:=by kernel_rfl
def Pq.same(p q:Pq):Bool:=decide (p.a=q.a)&&decide (p.b=q.b)
theorem Pq.same_iff{a b:Pq}:a.same b=true↔a=b:=by
 cases a;cases b
 simp[Pq.same]
theorem Pq.same_self(a:Pq):a.same a=true:=Pq.same_iff.2 rfl
theorem part27(w0 w1:Int):∀o∈[0,1],xx1 Tryz.prog (part xxk #[.int .i64 w0,.int .i64 w1] o)=some (.int .i64 ([w0,w1].getD o 0)):=by
 intro o ho
 simp only[List.mem_cons,List.not_mem_nil,or_false]at ho
 rcases ho with rfl|rfl<;>kernel_rfl
theorem x18c(p q:Pq):xx1 Tryz.prog (Op.equalIn 10000 x5 (.agg [.int .i64 p.a,.int .i64 p.b].toArray) (.agg [.int .i64 q.a,.int .i64 q.b].toArray))=some (p.same q):=by
 refine(eq_ints (offs:=[0,1]) (ga:=fun o=>[p.a,p.b].getD o 0) (gb:=fun o=>[q.a,q.b].getD o 0) (by kernel_rfl) (by kernel_rfl) (by kernel_rfl) fun o ho=>⟨part27 _ _ o ho,part27 _ _ o ho⟩).trans ?_
 simp[Pq.same,List.getD]
 by_cases h0:p.a=q.a<;>by_cases h1:p.b=q.b<;>simp[h0,h1]
theorem eq_pair7(x y:Operand)(p q:Pq):sBin Tryz.prog .eql x5 x y (.agg p.c) (.agg q.c)=some (B (p.same q)):=
 x1ax (xs:=[.int .i64 p.a,.int .i64 p.b]) (ys:=[.int .i64 q.a,.int .i64 q.b]) (by kernel_rfl) (x18c p q) _ _ rfl rfl
def InB(l:List Scene):Prop:=∀s∈l,(0<=s.day/\s.day<=100000)/\(-100000<=s.bl/\s.bl<=100000)
theorem x18d{l:List Scene}:∀(suf:List Scene) (k:Nat),(xyn l k suf).2=0->InB suf
 |[],_,_=>fun s h=>by cases h
 |x::r,k,h=>by
  simp only[xyn]at h
  cases hn:nmOK x.nm with
  |false=>simp[hn]at h
  |true=>
   cases ha:(l.take k).any fun y=>teq y.nm x.nm with
   |true=>simp[hn,ha]at h
   |false=>
    cases hw:wi x.day 0 100000 with
    |false=>simp[hn,ha,hw]at h
    |true=>
     cases hw2:wi x.bl (-100000) 100000 with
     |false=>simp[hn,ha,hw,hw2]at h
     |true=>
      simp[hn,ha,hw,hw2]at h
      have ih:=x18d r (k+1) h
      intro s hs
      rcases List.mem_cons.mp hs with rfl|hs
      .exact⟨wi_t hw,wi_t hw2⟩
      .exact ih s hs
theorem x15r{l:List Scene}(h:(xyg l).2=0):l.length<=60/\InB l:=by
 unfold xyg at h
 by_cases hl:60<l.length
 .simp[hl]at h
 .simp[hl]at h
  exact⟨by omega,x18d l 0 h⟩
structure Sp where
 p:Int
 s:Int
def Sp.c(x:Sp):List AV:=[I x.p,I x.s]
theorem Sp.len(x:Sp):x.c.length=2:=rfl
theorem Sp.still(x:Sp):x.c.all still1=true:=rfl
def prAt(P:List Pq)(i:Int):Pq:=P.getD i.toNat ⟨0,0⟩
def frS(P:List Pq)(x:Sp):Int:=if x.s<0 then(prAt P x.p).b else(prAt P x.p).a
def toS(P:List Pq)(x:Sp):Int:=if x.s<0 then(prAt P x.p).a else(prAt P x.p).b
def Wk(P:List Pq):List Sp->Int->Int->Prop
 |[],a,b=>a=b
 |x::r,a,b=>frS P x=a/\Wk P r (toS P x) b
variable{P:List Pq}{F:List Int}
theorem Wk.app:∀{v w:List Sp} {a b c:Int},Wk P v a b->Wk P w b c->Wk P (v++w) a c
 |[],_,_,_,_,h,h2=>by cases h;exact h2
 |x::r,_,_,_,_,h,h2=>⟨h.1,h.2.app h2⟩
theorem Wk.split:∀{v w:List Sp} {a c:Int},Wk P (v++w) a c->∃b,Wk P v a b/\Wk P w b c
 |[],_,a,_,h=>⟨a,rfl,h⟩
 |x::r,_,_,_,h=>by
  obtain⟨b,h1,h2⟩:=Wk.split (v:=r) h.2
  exact⟨b,⟨h.1,h1⟩,h2⟩
def InF(F:List Int)(x:Sp):Prop:=x.p∈F/\(x.s=1\/x.s=-1)
def AllF(F:List Int)(w:List Sp):Prop:=∀x∈w,InF F x
theorem AllF.tail{x:Sp}{r:List Sp}(h:AllF F (x::r)):AllF F r:=fun y hy=>h y (List.mem_cons_of_mem _ hy)
theorem AllF.head{x:Sp}{r:List Sp}(h:AllF F (x::r)):InF F x:=h x (List.mem_cons_self ..)
theorem AllF.app{v w:List Sp}(h:AllF F v)(h2:AllF F w):AllF F (v++w):=fun y hy=>by
 rcases List.mem_append.mp hy with hy|hy
 .exact h y hy
 .exact h2 y hy
def x10q(x:Sp):Sp:=⟨x.p,-x.s⟩
theorem flip_fr{x:Sp}(h:InF F x):frS P (x10q x)=toS P x:=by
 unfold frS toS x10q
 rcases h.2 with e|e<;>rw[e]<;>simp
theorem flip_to{x:Sp}(h:InF F x):toS P (x10q x)=frS P x:=by
 unfold frS toS x10q
 rcases h.2 with e|e<;>rw[e]<;>simp
theorem flip_in{x:Sp}(h:InF F x):InF F (x10q x):=by
 refine⟨h.1,?_⟩
 unfold x10q
 rcases h.2 with e|e<;>rw[e]<;>simp
theorem Wk.back:∀{w:List Sp} {a b:Int},Wk P w a b->AllF F w->∃v,Wk P v b a/\AllF F v
 |[],_,_,h,_=>⟨[],h.symm,fun _ h=>by cases h⟩
 |x::r,_,_,h,hF=>by
  obtain⟨v,h1,h2⟩:=Wk.back h.2 hF.tail
  refine⟨v++[x10q x],h1.app ⟨flip_fr hF.head,?_⟩,h2.app ?_⟩
  .show toS P (x10q x)=_
   rw[flip_to hF.head];exact h.1
  .intro y hy
   simp at hy
   subst hy
   exact flip_in hF.head
def Cut(P:List Pq)(F:List Int):Prop:=∀i∈F,∃s:Int->Bool,s (prAt P i).a≠s (prAt P i).b/\∀j∈F,j≠i->s (prAt P j).a=s (prAt P j).b
theorem x12b{i:Int}{s:Int->Bool}(h:∀j∈F,j≠i->s (prAt P j).a=s (prAt P j).b):∀{w:List Sp} {a b:Int},Wk P w a b->AllF F w->i∉w.map Sp.p->s a=s b
 |[],_,_,hw,_,_=>by cases hw;rfl
 |x::r,a,b,hw,hF,hi=>by
  simp only[List.map_cons,List.mem_cons,not_or]at hi
  have h1:=h x.p hF.head.1 (Ne.symm hi.1)
  have h2:=x12b h hw.2 hF.tail hi.2
  rw[<-h2,<-hw.1]
  unfold frS toS
  split<;>simp[h1]
theorem side_ends{i:Int}{s:Int->Bool}(h:s (prAt P i).a≠s (prAt P i).b){x y:Sp}(hx:x.p=i)(hy:y.p=i)(he:s (frS P y)=s (toS P x)):frS P y=toS P x/\toS P y=frS P x:=by
 unfold frS toS at *
 rw[hx,hy]at *
 by_cases c1:x.s<0<;>by_cases c2:y.s<0<;>simp only[c1,c2,if_true,if_false]at*<;> first|exact⟨trivial,trivial⟩|exact⟨rfl,rfl⟩|exact absurd he h|exact absurd he (Ne.symm h)
theorem x15s{i:Int}{s:Int->Bool}(h:s (prAt P i).a≠s (prAt P i).b){x:Sp}(hx:x.p=i):s (frS P x)≠s (toS P x):=by
 unfold frS toS
 rw[hx]
 split
 .exact h.symm
 .exact h
theorem x15t(hC:Cut P F){x:Sp}{r:List Sp}{a:Int}(hw:Wk P (x::r) a a)(hF:AllF F (x::r))(hn:x.p∉r.map Sp.p):False:=by
 obtain⟨s,h1,h2⟩:=hC x.p hF.head.1
 have h3:=x12b h2 hw.2 hF.tail hn
 exact x15s h1 rfl (by rw[hw.1,h3])
def NB(P:List Pq):List Sp->Prop
 |[]=>True
 |[_]=>True
 |x::y::r=>toS P y≠frS P x/\NB P (y::r)
theorem NB.tail{x:Sp}{r:List Sp}(h:NB P (x::r)):NB P r:=by
 cases r with
 |nil=>trivial
 |cons y r=>exact h.2
theorem x145(hC:Cut P F):∀{w:List Sp} {a b:Int},Wk P w a b->AllF F w->NB P w->(w.map Sp.p).Nodup
 |[],_,_,_,_,_=>List.nodup_nil
 |x::r,a,b,hw,hF,hn=>by
  have ih:=x145 hC hw.2 hF.tail hn.tail
  rw[List.map_cons,List.nodup_cons]
  refine⟨fun hm=>?_,ih⟩
  obtain⟨y,hy,hyp⟩:=List.mem_map.mp hm
  obtain⟨r1,r2,rfl⟩:=List.append_of_mem hy
  obtain⟨c,w1,w2⟩:=hw.2.split
  obtain⟨s,h1,h2⟩:=hC x.p hF.head.1
  have hi1:x.p∉r1.map Sp.p:=by
   rw[List.map_append,List.nodup_append]at ih
   intro hmem
   exact ih.2.2 _ hmem y.p (by simp) hyp.symm
  have hF1:AllF F r1:=fun z hz=>hF.tail z (List.mem_append_left _ hz)
  have e:=x12b h2 w1 hF1 hi1
  obtain⟨e1,e2⟩:=side_ends h1 (x:=x) (y:=y) rfl hyp (by rw[w2.1,e])
  cases r1 with
  |nil=>exact hn.1 e2
  |cons z r1=>
   refine x15t (r:=r1) (x:=z) (a:=toS P x) hC ?_ hF1 ?_
   .have:c=toS P x:=by rw[<-e1];exact w2.1.symm
    rw[this]at w1
    exact w1
   .rw[List.map_append,List.nodup_append]at ih
    have:=ih.1
    rw[List.map_cons,List.nodup_cons]at this
    exact this.1
theorem x18e(hC:Cut P F):∀{w v:List Sp} {a b:Int},Wk P w a b->Wk P v a b->AllF F w->AllF F v->(w.map Sp.p).Nodup->(v.map Sp.p).Nodup->w=v
 |[],[],_,_,_,_,_,_,_,_=>rfl
 |[],y::v,_,_,hw,hv,_,hF,_,hn=>by
  cases hw
  rw[List.map_cons,List.nodup_cons]at hn
  exact(x15t hC hv hF hn.1).elim
 |x::r,v,a,b,hw,hv,hF,hG,hn,hm=>by
  rw[List.map_cons,List.nodup_cons]at hn
  obtain⟨s,h1,h2⟩:=hC x.p hF.head.1
  have hr:=x12b h2 hw.2 hF.tail hn.1
  have hab:s a≠s b:=by rw[<-hr,<-hw.1];exact x15s h1 rfl
  have hmem:x.p∈v.map Sp.p:=Classical.byContradiction fun hc=>hab (x12b h2 hv hG hc)
  obtain⟨y,hy,hyp⟩:=List.mem_map.mp hmem
  obtain⟨v1,v2,rfl⟩:=List.append_of_mem hy
  obtain⟨c,w1,w2⟩:=hv.split
  have hm':=hm
  rw[List.map_append,List.nodup_append]at hm'
  have hi1:x.p∉v1.map Sp.p:=fun hmem=>hm'.2.2 _ hmem y.p (by simp) hyp.symm
  have hF1:AllF F v1:=fun z hz=>hG z (List.mem_append_left _ hz)
  have e:=x12b h2 w1 hF1 hi1
  have hne:=x15s h1 (x:=x) rfl
  have hfx:frS P y=frS P x/\y.s<0↔frS P y=frS P x/\x.s<0:=by
   constructor
   .rintro⟨q,q2⟩
    refine⟨q,?_⟩
    unfold frS at q
    rw[hyp,if_pos q2]at q
    by_cases c2:x.s<0
    .exact c2
    .rw[if_neg c2]at q;exact absurd (by rw[q]) h1
   .rintro⟨q,q2⟩
    refine⟨q,?_⟩
    unfold frS at q
    rw[hyp,if_pos q2]at q
    by_cases c2:y.s<0
    .exact c2
    .rw[if_neg c2]at q;exact absurd (by rw[q]) h1
  have hfe:frS P y=frS P x:=by
   have hsy:s (frS P y)=s (frS P x):=by rw[w2.1,hw.1,e]
   unfold frS at hsy hne ⊢
   unfold toS at hne
   rw[hyp]at hsy ⊢
   by_cases c1:x.s<0<;>by_cases c2:y.s<0<;>simp only[c1,c2,if_true,if_false]at*<;> first|rfl|exact absurd hsy h1|exact absurd hsy.symm h1
  have hxy:y=x:=by
   have hs:y.s=x.s:=by
    have hy2:=(hG y (List.mem_append_right _ (List.mem_cons_self ..))).2
    have hx2:=hF.head.2
    by_cases c2:y.s<0
    .have:=(hfx.mp ⟨hfe,c2⟩).2;omega
    .have:¬x.s<0:=fun q=>c2 (hfx.mpr ⟨hfe,q⟩).2
     omega
   cases x;cases y;simp at hyp hs;rw[hyp,hs]
  subst hxy
  have hca:c=a:=by rw[<-w2.1];exact hw.1
  rw[hca]at w1
  cases v1 with
  |cons z v1=>
   have:=hm'.1
   rw[List.map_cons,List.nodup_cons]at this
   exact(x15t hC w1 hF1 this.1).elim
  |nil=>
   have hm2:=hm'.2.1
   rw[List.map_cons,List.nodup_cons]at hm2
   have:=x18e hC hw.2 w2.2 hF.tail hG.tail hn.2 hm2.2
   rw[this];rfl
theorem x18f(hC:Cut P F){w v:List Sp}{a b:Int}(hw:Wk P w a b)(hv:Wk P v a b)(hF:AllF F w)(hG:AllF F v)(hn:NB P w)(hm:NB P v):w=v:=
 x18e hC hw hv hF hG (x145 hC hw hF hn) (x145 hC hv hG hm)
theorem nb_of:∀{w:List Sp} {a b:Int},Wk P w a b->AllF F w->∃v,Wk P v a b/\AllF F v/\NB P v
 |[],_,_,h,hF=>⟨[],h,hF,trivial⟩
 |x::r,a,b,h,hF=>by
  obtain⟨v,h1,h2,h3⟩:=nb_of h.2 hF.tail
  cases v with
  |nil=>exact⟨[x],⟨h.1,h1⟩,fun y hy=>by simp at hy;subst hy;exact hF.head,trivial⟩
  |cons y v=>
   by_cases c:toS P y=frS P x
   .refine⟨v,?_,h2.tail,h3.tail⟩
    have:=h1.2
    rw[c,h.1]at this
    exact this
   .refine⟨x::y::v,⟨h.1,h1⟩,fun z hz=>?_,c,h3⟩
    rcases List.mem_cons.mp hz with rfl|hz
    .exact hF.head
    .exact h2 z hz
def xzk(F:List Int):List Sp:=F.flatMap fun i=>[⟨i,1⟩,⟨i,-1⟩]
theorem mem_stepsOf{F:List Int}{x:Sp}:x∈xzk F↔InF F x:=by
 unfold xzk InF
 rw[List.mem_flatMap]
 constructor
 .rintro⟨i,hi,hx⟩
  simp only[List.mem_cons,List.not_mem_nil,or_false]at hx
  rcases hx with rfl|rfl
  .exact⟨hi,Or.inl rfl⟩
  .exact⟨hi,Or.inr rfl⟩
 .rintro⟨h1,h2⟩
  refine⟨x.p,h1,?_⟩
  cases x
  rcases h2 with e|e<;>simp at e<;>subst e<;>simp
def Aw(P:List Pq)(bef:Int):List Sp->Prop
 |[]=>True
 |x::_=>toS P x≠bef
theorem aw_nb{x:Sp}{w:List Sp}(h:Aw P (frS P x) w)(hn:NB P w):NB P (x::w):=by
 cases w with
 |nil=>trivial
 |cons y w=>exact⟨h,hn⟩
theorem nb_aw{x:Sp}{w:List Sp}(h:NB P (x::w)):Aw P (frS P x) w:=by
 cases w with
 |nil=>trivial
 |cons y w=>exact h.1
theorem x15u{l k:List Int}(hn:l.Nodup)(h:∀x∈l,x∈k):l.length<=k.length:=by
 induction l generalizing k with
 |nil=>simp
 |cons x r ih=>
  rw[List.nodup_cons]at hn
  have hx:=h x (List.mem_cons_self ..)
  have:=ih (k:=k.erase x) hn.2 fun y hy=>by
   rw[List.mem_erase_of_ne (by rintro rfl;exact hn.1 hy)]
   exact h y (List.mem_cons_of_mem _ hy)
  rw[List.length_erase_of_mem hx]at this
  have h0:0<k.length:=List.length_pos_of_mem hx
  simp only[List.length_cons]
  omega
theorem nb_len(hC:Cut P F){w:List Sp}{a b:Int}(hw:Wk P w a b)(hF:AllF F w)(hn:NB P w):w.length<=F.length:=by
 have:=x15u (x145 hC hw hF hn) (k:=F) fun i hi=>by
  obtain⟨x,hx,rfl⟩:=List.mem_map.mp hi
  exact(hF x hx).1
 simpa using this
end Go.Ix
