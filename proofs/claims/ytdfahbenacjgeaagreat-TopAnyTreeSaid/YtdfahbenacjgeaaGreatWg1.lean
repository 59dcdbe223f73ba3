import Derived.Test.YtdfahbenacjgeaaGreatWg0
import Derived.Laws.Strings
import Derived.Test.YtdfahbenacjgeaaGreatFxSound
import Derived.Laws.StructEq
set_option linter.unusedSimpArgs false
namespace Go.Ix
open Go.Proofs
theorem xon(d:Nat)(a b c:Int)(m:Mem):xk4 (xk2 (d+1)) xa [I a,I b,I c] m=some (B (wi a b c),m):=by
 refine call0 rfl (m':=⟨[],1⟩) ?_ rfl
 rw[xfx]
 unfold x9i x5t wi
 by_cases h:b<=a<;>by_cases h2:a<=c<;>simp[h,h2,mem0]
theorem xtq(d:Nat)(a b:Int)(m:Mem)(h:-9223372036854775807<=b/\b<=9223372036854775807):xk4 (xk2 (d+2)) xy [I a,I b] m=some (B (wi a (-b) b),m):=by
 refine call0 rfl (m':=⟨[],1⟩) ?_ rfl
 rw[xgf]
 unfold xa0 x6w
 simp(disch:=omega) [mem0,xon,xk6]
theorem w_size7(d:Nat)(a:Int)(m:Mem)(h1:-9223372036854775808<a)(h2:a<=9223372036854775807):xk4 (xk2 (d+1)) x1u [I a] m=some (I (a.natAbs:Int),m):=by
 refine call0 rfl (m':=⟨[],1⟩) ?_ rfl
 rw[xh4]
 unfold xao x83
 simp(disch:=omega) [mem0,xk6]
 split<;>omega
abbrev T(s:ByteArray):AV:=.sc (.string s)
abbrev U8(c:Int):AV:=.sc (.int .u8 c)
def u8E(b:UInt8):List AV:=[U8 b.toNat]
theorem u8E_len(b:UInt8):(u8E b).length=1:=rfl
theorem u8_ge(x y:Operand)(a b:Int):sBin Tryz.prog .geq x5 x y (U8 a) (U8 b)=some (B (decide (b<=a))):=by kernel_rfl
theorem u8_le(x y:Operand)(a b:Int):sBin Tryz.prog .leq x5 x y (U8 a) (U8 b)=some (B (decide (a<=b))):=by kernel_rfl
theorem u8_gt(x y:Operand)(a b:Int):sBin Tryz.prog .gtr x5 x y (U8 a) (U8 b)=some (B (decide (b<a))):=by kernel_rfl
theorem u8_lt(x y:Operand)(a b:Int):sBin Tryz.prog .lss x5 x y (U8 a) (U8 b)=some (B (decide (a<b))):=by kernel_rfl
theorem u8_eq(x y:Operand)(a b:Int):sBin Tryz.prog .eql x5 x y (U8 a) (U8 b)=some (B (decide (a=b))):=by kernel_rfl
theorem u8_ne(x y:Operand)(a b:Int):sBin Tryz.prog .neq x5 x y (U8 a) (U8 b)=some (B (!decide (a=b))):=by kernel_rfl
def teq(a b:ByteArray):Bool:=a.toList == b.toList
theorem t_eq(x y:Operand)(a b:ByteArray):sBin Tryz.prog .eql x7 x y (T a) (T b)=some (B (teq a b)):=by kernel_rfl
@[simp] theorem sLenS_T(s:ByteArray):xoe (T s)=some (I s.size):=rfl
theorem u_bytes:Tryz.prog.underlying x4u=some (.slice x5):=by kernel_rfl
theorem u_u8:Tryz.prog.underlying x5=some (.int .u8):=by kernel_rfl
theorem u_str:Tryz.prog.underlying x7=some .string:=by kernel_rfl
theorem cvt_bytes(s:ByteArray):sCvt Tryz.prog x7 x4u (T s)=some (.slit (s.data.toList.flatMap u8E) s.data.toList.length false):=by
 have e:(s.data.toList.map λb=>U8 b.toNat)=s.data.toList.flatMap u8E:=by
  induction s.data.toList with
  |nil=>rfl
  |cons b l ih=>rw[x12p,x139,ih];rfl
 simp only[sCvt,xks,xq6,u_bytes,u_u8,u_str]
 rw[e,xme (z:=1) u8E_len s.data.toList,x14m]
theorem idx_T{s:ByteArray}{k:Nat}(h:k<s.data.toList.length):sIdx Tryz.prog x7 (T s) (I k)=some (U8 (s.data.toList[k]).toNat):=by
 have:xk9 Tryz.prog (Instr.index x7 (.string s) (.int .i64 k))=some (.int .u8 (s.data.toList[k]).toNat):=by
  have h2:s[k]?=some s.data.toList[k]:=by
   have h3:k<s.size:=by simpa using h
   rw[getElem?_pos s k h3]
   rfl
  simp only[Instr.index,asIntOf,asInt,underlying,program,Bind.bind,Sem.bind,xk9,Pure.pure,u_str]
  rw[x12c (by omega),x12t,h2]
  rfl
 have e:sIdx Tryz.prog x7 (T s) (I k)=(xk9 Tryz.prog (Instr.index x7 (.string s) (.int .i64 k))).map xl6:=by
  simp only[sIdx,I,xks]
 rw[e,this]
 rfl
def chOK(p:Bool)(c:Int):Bool:=(decide (97<=c)&&decide (c<=122))||(decide (65<=c)&&decide (c<=90))||(p&&(decide (c=45)||(decide (48<=c)&&decide (c<=57))))
def xnl:Nat->List UInt8->Bool
 |_,[]=>true
 |k,c::r=>chOK (decide (0<k)) c.toNat&&xnl (k+1) r
def nmOK(s:ByteArray):Bool:=decide (0<s.size)&&decide (s.size<=12)&&xnl 0 s.data.toList
theorem ld_u8{m:Mem}{l:List UInt8}{k:Nat}(hk:k<l.length):sLd false 1 (.plit ((l.drop k).flatMap u8E)) m=some (U8 l[k].toNat):=by
 rw[xl7 hk,x139]
 rfl
theorem l_isName(call:xk3)(hs:FHs)(u:Nat){a:AV}{l:List UInt8}(h:Sl u8E a l)(hl:l.length<=12):∀(suf:List UInt8) (k j:Nat) (m:Mem) (fc:Nat),l.drop k=suf->suf.length<j ->
 x2d call hs u j a (I l.length) (I k) m fc=some (B (xnl k suf),m):=by
 intro suf
 induction suf with
 |nil=>
  intro k j m fc hd hj
  obtain⟨j,rfl⟩:∃i,j=i+1:=⟨j-1,by simp at hj;omega⟩
  have hk:¬((k:Int)<(l.length:Int)):=by have:=x13z.mp hd;omega
  simp only[x2d]
  unfold x8l xem
  simp[hk,xnl]
 |cons e r ih=>
  intro k j m fc hd hj
  obtain⟨j,rfl⟩:∃i,j=i+1:=⟨j-1,by simp at hj;omega⟩
  obtain⟨hk,he,hd⟩:=xmx hd
  have hk':(k:Int)<(l.length:Int):=by omega
  have ix:=h.ix u8E_len hk
  have ld:=ld_u8 (m:=m) hk
  have next:∀fc,x2d call hs u j a (I l.length) (I (w64 ((k:Int)+1))) m fc=some (B (xnl (k+1) r),m):=λfc=>by
   rw[xk6 (by omega) (by omega)]
   exact ih (k+1) j m fc hd (by simp at hj;omega)
  rw[he]at ld
  have hk0:decide ((0:Int)<(k:Int))=decide (0<k):=by simp
  simp only[x2d]
  unfold x8l xeo xen x8k x8j
  simp only[xkx,hk',x12o,xku,xka,ix,ld,u8_ge,u8_le,u8_eq,sW_t,sW_f]
  simp only[xnl,chOK]
  generalize (e.toNat:Int)=c
  by_cases a1:97<=c<;>by_cases a2:c<=122<;>by_cases b1:65<=c<;>by_cases b2:c<=90<;>by_cases d1:48<=c<;>by_cases d2:c<=57<;>by_cases d0:c=45 <;>
   first
   |(exfalso;omega)
   |(by_cases hp:0<k<;>simp[a1,a2,b1,b2,d1,d2,d0,hp,u8_ge,u8_le,u8_eq,next])
theorem w_isName(d:Nat)(s:ByteArray)(m:Mem):xk4 (xk2 (d+1)) x2z [T s] m=some (B (nmOK s),m):=by
 refine call0 rfl (m':=⟨[],1⟩) ?_ rfl
 rw[xha]
 have e0:teq s ⟨#[]⟩=decide (s.size=0):=by
  unfold teq
  rw[ByteArray.toList_eq,ByteArray.toList_eq]
  cases hs:s.data.toList with
  |nil=>
   have:s.size=0:=by show s.data.size=0;rw[<-x143,hs];rfl
   simp[this]
  |cons x r=>
   have:s.size=r.length+1:=by show s.data.size=_;rw[<-x143,hs];rfl
   simp[this]
 have hsz:s.data.toList.length=s.size:=rfl
 unfold xau x8m nmOK
 simp only[t_eq,e0,xka]
 by_cases h0:s.size=0
 .simp[h0,mem0]
 .by_cases h12:s.size<=12
  .have hL:=l_isName (xk2 d) [] 0 (Sl.lit (enc:=u8E) s.data.toList false) (by omega) s.data.toList 0 NN ⟨[],1⟩ (fc:=12) rfl (by rw[xkj];omega)
   have hlen:sLen Tryz.prog x4u (.slit (s.data.toList.flatMap u8E) s.data.toList.length false)=some (I s.data.toList.length):=(Sl.lit (enc:=u8E) s.data.toList false).len u_bytes
   unfold xep
   simp only[cvt_bytes,hlen]
   simp[h0,h12,show ¬((12:Int)<s.size) by omega,show 0<s.size by omega,mem0]
   exact hL
  .simp[h0,h12,show(12:Int)<s.size by omega,mem0]
theorem l_IsName(call:xk3)(hs:FHs)(u:Nat){s:ByteArray}(hl:s.size<=12):∀(suf:List UInt8) (k j:Nat) (m:Mem) (fc:Nat),s.data.toList.drop k=suf->suf.length<j ->
 x2e call hs u j (T s) (I k) m fc=some (B (xnl k suf),m):=by
 have hsz:s.data.toList.length=s.size:=rfl
 intro suf
 induction suf with
 |nil=>
  intro k j m fc hd hj
  obtain⟨j,rfl⟩:∃i,j=i+1:=⟨j-1,by simp at hj;omega⟩
  have hk:¬((k:Int)<(s.size:Int)):=by have:=x13z.mp hd;omega
  simp only[x2e]
  unfold x8p xeq
  simp[hk,xnl]
 |cons e r ih=>
  intro k j m fc hd hj
  obtain⟨j,rfl⟩:∃i,j=i+1:=⟨j-1,by simp at hj;omega⟩
  obtain⟨hk,he,hd⟩:=xmx hd
  have hk':(k:Int)<(s.size:Int):=by omega
  have ix:=idx_T hk
  have next:∀fc,x2e call hs u j (T s) (I (w64 ((k:Int)+1))) m fc=some (B (xnl (k+1) r),m):=λfc=>by
   rw[xk6 (by omega) (by omega)]
   exact ih (k+1) j m fc hd (by simp at hj;omega)
  rw[he]at ix
  simp only[x2e]
  unfold x8p
  simp only[sLenS_T,xka,xkx,hk',x12o,xku,ix,u8_ge]
  simp only[xnl,chOK]
  generalize (e.toNat:Int)=c
  by_cases a1:97<=c<;>by_cases a2:c<=122<;>by_cases b1:65<=c<;>by_cases b2:c<=90<;>by_cases d1:c<48<;>by_cases d2:57<c<;>by_cases d0:c=45 <;>
   first
   |(exfalso;omega)
   |(have d1':(48<=c)=¬(c<48):=by rw[Int.not_lt]
     have d2':(c<=57)=¬(57<c):=by rw[Int.not_lt]
     by_cases hp:k=0<;>simp[a1,a2,b1,b2,d1,d2,d1',d2',d0,hp,Nat.pos_iff_ne_zero,u8_ge,u8_le,u8_eq,u8_ne,u8_lt,u8_gt,next]<;>(subst hp;have:=next (fc+44);simpa using this))
theorem w_IsName(d:Nat)(s:ByteArray)(m:Mem):xk4 (xk2 (d+1)) x31 [T s] m=some (B (nmOK s),m):=by
 refine call0 rfl (m':=⟨[],1⟩) ?_ rfl
 rw[xhd]
 have hsz:s.data.toList.length=s.size:=rfl
 unfold xax x8q nmOK
 by_cases h0:s.size=0
 .simp[h0,mem0]
 .by_cases h12:s.size<=12
  .have hL:=l_IsName (xk2 d) [] 0 (s:=s) h12 s.data.toList 0 NN ⟨[],1⟩ (fc:=10) rfl (by rw[xkj];omega)
   unfold xer
   simp[h0,h12,show ¬((12:Int)<s.size) by omega,show ¬((s.size:Int)<1) by omega,show 0<s.size by omega,mem0]
   exact hL
  .simp[h0,h12,show(12:Int)<s.size by omega,show ¬((s.size:Int)<1) by omega,mem0]
theorem xz2{i j:Id}{cs:List AV}{v:Nat}:∀{h:Hp} {b:Bool},hget h i=some (.row cs v b)->∃b',hget (shut1 h j) i=some (.row cs v b'):=by
 intro h b hi
 have:=congrFun (xri [j] h) i
 rw[show xn9 [j] h=shut1 h j from rfl]at this
 rw[this]
 unfold shut
 split
 .rw[hi];exact⟨_,rfl⟩
 .exact⟨b,hi⟩
theorem xwg{i:Id}{cs:List AV}{v:Nat}:∀(ids:List Id) {h:Hp} {b:Bool},hget h i=some (.row cs v b)->∃b',hget (xn9 ids h) i=some (.row cs v b')
 |[],h,b,hi=>⟨b,hi⟩
 |j::r,h,b,hi=>by
  obtain⟨b',h'⟩:=xz2 (j:=j) hi
  exact xwg r h'
theorem xwh{call:xk3}{f:FuncId}{l l':List AV}{m m':Mem}{r r':AV}(hl:l.mapM (Go.Ix.frz m.get deep)=some l')(h:call [] f l' mem0=some (r,m'))(hr:Go.Ix.frz m'.get deep r=some r') :
 ∃m2:Mem,xk4 call f l m=some (r',m2)/\m2.next=m.next/\∀i cs v b,m.get i=some (.row cs v b)->∃b',m2.get i=some (.row cs v b'):=by
 refine⟨⟨xn9 (l.flatMap (xkh m.get deep)) m.hp,m.next⟩,?_,rfl,λi cs v b hi=>xwg _ hi⟩
 unfold xk4
 rw[hl]
 simp only[h,hr]
 rfl
structure Scene where
 nm:ByteArray
 day:Int
 bl:Int
def Scene.c(s:Scene):List AV:=[T s.nm,I s.day,I s.bl]
theorem Scene.len(s:Scene):s.c.length=3:=rfl
theorem xl8:Tryz.prog.underlying x3=some (.slice x2h):=by kernel_rfl
theorem xz3:∃i,Tryz.prog.info? x2h=some i/\i.size=3:=by
 have:(Tryz.prog.info? x2h).map (·.size)=some 3:=by kernel_rfl
 rw[x12i]at this
 exact this
theorem xrr:x12=[T ⟨#[]⟩,I 0,I 0]:=by kernel_rfl
@[simp] theorem cells_T(s:ByteArray):(T s).cells=[T s]:=rfl
@[simp] theorem one_T(s:ByteArray):(T s).one=true:=rfl
theorem xz4{a:AV}{l:List Scene}(h:Sl Scene.c a l){k:Nat}(hk:k<=l.length)(h0:l≠[]):∃a',Sl Scene.c a' (l.take k)/\xml Tryz.prog x3 a none (some (I k))=some a':=by
 rcases h with ⟨_,rfl⟩|⟨x,rfl⟩
 .exact absurd rfl h0
 obtain⟨i,hi,hs⟩:=xz3
 have hl:=xme Scene.len l
 refine⟨.slit ((l.take k).flatMap Scene.c) (l.take k).length (x&&decide ((k:Int)=(l.length:Int))),Sl.lit _ _,?_⟩
 have e1:xks (.slit (l.flatMap Scene.c) l.length x)=none:=_root_.id rfl
 have e2:asI (I (k:Int))=some (k:Int):=rfl
 have e3:asI (I 0)=some 0:=rfl
 unfold xml
 simp only[e1,xl8,hi,Option.getD_some,Option.getD_none,e2,e3,hs,Int.sub_zero,x12t,Int.toNat_zero,x14e,x12j]
 rw[x12c ⟨by omega,by omega,by omega,by omega⟩,x14k,x16y hk]
 have ht:∀(l:List Scene) (k:Nat),(l.flatMap Scene.c).take (k*3)=(l.take k).flatMap Scene.c:=by
  intro l
  induction l with
  |nil=>intro k;simp
  |cons x r ih=>
   intro k
   cases k with
   |zero=>simp
   |succ k=>
    rw[x139,x15d,x139,x13g,show k*3+3=x.c.length+k*3 by rw[Scene.len];omega,x175,ih]
 rw[ht]
def xoo(nm:ByteArray):Int->List Scene->Int
 |_,[]=>-1
 |k,x::r=>bif teq x.nm nm then k else xoo nm (k+1) r
theorem xwi(nm:ByteArray):∀(l:List Scene) (k:Int),0<=k->decide (0<=xoo nm k l)=l.any λy=>teq y.nm nm
 |[],k,_=>by simp[xoo]
 |x::r,k,hk=>by
  rw[xoo,x14c]
  cases teq x.nm nm with
  |true=>simp[hk]
  |false=>simpa using xwi nm r (k+1) (by omega)
theorem xz5(d:Nat)(hs:FHs)(x y:Scene)(m:Mem):∃m',xk2 (d+1) hs x8 [.agg x.c,.plit y.c] m=some (B (teq x.nm y.nm),m'):=by
 rw[xhc]
 unfold xaw x8o
 simp[Scene.c,t_eq]
theorem xz6(d:Nat)(hs:FHs){a:AV}{l:List Scene}{y:Scene}(h:Sl Scene.c a l)(hl:l.length<1000000)(u:Nat):∀(suf:List Scene) (k j:Nat) (m:Mem) (fc:Nat),l.drop k=suf->suf.length<j ->
 ∃m',x4b (xk2 (d+1)) hs u j a (.clo x8 [.plit y.c]) (I l.length) (I k) m fc=some (I (xoo y.nm k suf),m'):=by
 intro suf
 induction suf with
 |nil=>
  intro k j m fc hd hj
  obtain⟨j,rfl⟩:∃i,j=i+1:=⟨j-1,by simp at hj;omega⟩
  have hk:¬((k:Int)<(l.length:Int)):=by have:=x13z.mp hd;omega
  simp only[x4b]
  unfold x8z
  simp[hk,xf0,xoo]
 |cons e r ih=>
  intro k j m fc hd hj
  obtain⟨j,rfl⟩:∃i,j=i+1:=⟨j-1,by simp at hj;omega⟩
  obtain⟨hk,he,hd⟩:=xmx hd
  have hk':(k:Int)<(l.length:Int):=by omega
  have ix:=h.ix Scene.len hk
  have ld:=xlt (m:=m) Scene.len (by omega) hk
  rw[he]at ld
  obtain⟨m1,hc⟩:=xz5 d hs e y m
  have hinv:xlx (xk2 (d+1)) hs 2 (.clo x8 [.plit y.c]) [.agg e.c] m=some (B (teq e.nm y.nm),m1):=hc
  simp only[x4b]
  unfold x8z
  simp only[xkx,hk',x12o,xku,xka,ix,ld,hinv,xoo]
  cases ht:teq e.nm y.nm with
  |true=>simp
  |false=>
   obtain⟨m',h'⟩:=ih (k+1) j m1 (fc+11) hd (by simp at hj;omega)
   simp(disch:=omega) [xk6]
   exact⟨m',by simpa using h'⟩
theorem xz7(d:Nat){a:AV}{l:List Scene}{y:Scene}(h:Sl Scene.c a l)(hl:l.length<1000000) :
 ∃m',xk2 (d+3) [] x30 [a,.clo x8 [.plit y.c]] mem0=some (B (l.any λx=>teq x.nm y.nm),m'):=by
 obtain⟨m',h'⟩:=xz6 d [] (y:=y) h hl 0 l 0 NN ⟨[],1⟩ 4 rfl (by rw[xkj];omega)
 have hi:xk2 (d+2) [] x34 [a,.clo x8 [.plit y.c]] mem0=some (I (xoo y.nm 0 l),m'):=by
  rw[xhj]
  unfold xb2 x90 xf1
  simp[h.len xl8,mem0]
  exact h'
 have hc:=λm:Mem=>call0 (m:=m) (call:=xk2 (d+2)) (l:=[a,.clo x8 [.plit y.c]]) (by simp only[x13o,x14l,h.still,x13l,x15a];rfl) hi rfl
 rw[xhb]
 unfold xav x8n
 simp[hc,mem0,<-xwi y.nm l 0 (by omega)]
def xm6(l:List Scene):Nat->List Scene->Int×Int
 |_,[]=>(0,0)
 |k,x::r=>
  bif !(nmOK x.nm)then((k:Int),4)
  else bif(l.take k).any (λy=>teq y.nm x.nm)then((k:Int),5)
  else bif !(wi x.day 0 100000)||!(wi x.bl (-100000) 100000)then((k:Int),2)
  else xm6 l (k+1) r
def xm1(l:List Scene):Int×Int:=bif decide (60<l.length)then(0,8)else xm6 l 0 l
theorem xz8(d:Nat)(u:Nat){a:AV}{l:List Scene}(h:Sl Scene.c a l)(hl:l.length<=60):∀(suf:List Scene) (k j:Nat) (m:Mem) (fc:Nat),l.drop k=suf->suf.length<j ->
 ∃m',x2a (xk2 (d+3)) [] u j a a (I l.length) (I k) m fc=some (.tup [I (xm6 l k suf).1,I (xm6 l k suf).2],m'):=by
 intro suf
 induction suf with
 |nil=>
  intro k j m fc hd hj
  obtain⟨j,rfl⟩:∃i,j=i+1:=⟨j-1,by simp at hj;omega⟩
  have hk:¬((k:Int)<(l.length:Int)):=by have:=x13z.mp hd;omega
  simp only[x2a]
  unfold x81
  simp[hk,xdy,xm6]
 |cons e r ih=>
  intro k j m fc hd hj
  obtain⟨j,rfl⟩:∃i,j=i+1:=⟨j-1,by simp at hj;omega⟩
  obtain⟨hk,he,hd⟩:=xmx hd
  have hk':(k:Int)<(l.length:Int):=by omega
  have ix:=h.ix Scene.len hk
  have ld:=xlt (m:=m) Scene.len (by omega) hk
  rw[he]at ld
  obtain⟨a',hpre,hsl⟩:=xz4 h (k:=k) (by omega) (by rintro rfl;simp at hk)
  have next:∀m fc,∃m',x2a (xk2 (d+3)) [] u j a a (I l.length) (I ((k:Int)+1)) m fc=some (.tup [I (xm6 l (k+1) r).1,I (xm6 l (k+1) r).2],m'):=λm fc=>ih (k+1) j m fc hd (by simp at hj;omega)
  simp only[x2a]
  unfold x81
  simp only[xkx,hk',x12o,xku,xka,ix,ld,xrl,xrr,xm6]
  simp[Scene.c,w_isName]
  cases hn:nmOK e.nm with
  |false=>simp
  |true=>
   simp[hsl]
   generalize hm1:Mem.set _ _ _=m1
   have hg:m1.get (u,fc+4,5)=some (.row e.c 0 false):=by rw[<-hm1];simp[Scene.c]
   obtain⟨mc,hcc⟩:=xz7 d (y:=e) hpre (by rw[x14k];omega)
   have hfr:[a',AV.clo x8 [.ptr (u,fc+4,5) 0 0]].mapM (Go.Ix.frz m1.get deep)=some [a',.clo x8 [.plit e.c]]:=by
    have h1:Go.Ix.frz m1.get deep a'=some a':=xmm _ 4 hpre.still
    have h3:e.c.mapM (Go.Ix.frz m1.get 4)=some e.c:=xoi λb hb=>xpv _ 3 (by
     simp[Scene.c]at hb;rcases hb with rfl|rfl|rfl<;>rfl)
    have h4:Go.Ix.frz m1.get 5 (.ptr (u,fc+4,5) 0 0)=some (.plit e.c):=by
     simp only[Go.Ix.frz,hg,x12v,x12j,h3];rfl
    have h2:Go.Ix.frz m1.get deep (.clo x8 [.ptr (u,fc+4,5) 0 0])=some (.clo x8 [.plit e.c]):=by
     show([AV.ptr (u,fc+4,5) 0 0].mapM (Go.Ix.frz m1.get 5)).map (AV.clo x8)=_
     simp only[x135,x13p,h4];rfl
    simp only[x135,x13p,h1,h2];rfl
   obtain⟨m2,hs2,_,hrow⟩:=xwh hfr hcc rfl
   obtain⟨b',hg2⟩:=hrow _ _ _ _ hg
   simp only[hs2,xka]
   cases hany:(l.take k).any λx=>teq x.nm e.nm with
   |true=>simp
   |false=>
    simp[hg2,Scene.c,xon]
    cases hw:wi e.day 0 100000 with
    |false=>simp
    |true=>
     simp(disch:=omega) [hg2,Scene.c,xtq]
     cases hw2:wi e.bl (-100000) 100000 with
     |false=>simp
     |true=>
      obtain⟨m',h'⟩:=next m2 (fc+31)
      simp
      exact⟨m',h'⟩
theorem xz9(d:Nat){a:AV}{l:List Scene}(h:Sl Scene.c a l)(m:Mem):xk4 (xk2 (d+4)) x1t [a] m=some (.tup [I (xm1 l).1,I (xm1 l).2],m):=by
 obtain⟨m',h'⟩:∃m',xk2 (d+4) [] x1t [a] mem0=some (.tup [I (xm1 l).1,I (xm1 l).2],m'):=by
  rw[xh3]
  unfold xan x82 xdz xm1
  by_cases hl:60<l.length
  .simp[h.len xl8,hl,show(60:Int)<l.length by omega]
  .obtain⟨m',h'⟩:=xz8 d 0 h (by omega) l 0 NN ⟨[],1⟩ 8 rfl (by rw[xkj];omega)
   simp[h.len xl8,hl,show ¬((60:Int)<l.length) by omega,mem0]
   exact⟨m',h'⟩
 exact call0_tup (by simp[h.still]) h' rfl
theorem ld_nm{m:Mem}{l:List Scene}{k:Nat}(hk:k<l.length):sLd false 1 (.plit ((l.drop k).flatMap Scene.c)) m=some (T l[k].nm):=by
 rw[xl7 hk,x139]
 rfl
theorem xza(call:xk3)(hs:FHs)(u:Nat){a:AV}{l:List Scene}(h:Sl Scene.c a l)(hl:l.length<=60){n:Nat}(hn:n<l.length){e:Scene}(id:Id)(rec0:AV->AV->Mem->Nat->O2)(m:Mem)(hg:m.get id=some (.row e.c 0 false)):∀(suf:List Scene) (k j:Nat) (fc:Nat),(l.take n).drop k=suf->suf.length<j ->
 ∃fc',x45 call hs u rec0 j a (I n) (.ptr id 0 0) (I k) m fc=(bif suf.any (λy=>teq y.nm e.nm)then some (.tup [I n,I 5],m)else x84 call hs u rec0 a (I n) (.ptr id 0 0) m fc'):=by
 intro suf
 induction suf with
 |nil=>
  intro k j fc hd hj
  obtain⟨j,rfl⟩:∃i,j=i+1:=⟨j-1,by simp at hj;omega⟩
  have hk:¬((k:Int)<(n:Int)):=by have:=x13z.mp hd;rw[x14k]at this;omega
  simp only[x45]
  unfold x85
  simp[hk]
  exact⟨_,rfl⟩
 |cons x r ih=>
  intro k j fc hd hj
  obtain⟨j,rfl⟩:∃i,j=i+1:=⟨j-1,by simp at hj;omega⟩
  obtain⟨hk,he,hd⟩:=xmx hd
  rw[x14k]at hk
  have hk':(k:Int)<(n:Int):=by omega
  have hk2:k<l.length:=by omega
  rw[x15n]at he
  have ix:=h.ix Scene.len hk2
  have ld:=ld_nm (m:=m) hk2
  rw[he]at ld
  simp only[x45]
  unfold x85
  simp only[xkx,hk',x12o,xku,xka,ix,sFA_plit,x12j,ld,x14c]
  simp[hg,Scene.c,t_eq]
  cases ht:teq x.nm e.nm with
  |true=>simp
  |false=>
   obtain⟨fc',h'⟩:=ih (k+1) j (fc+14) hd (by simp at hj;omega)
   simp(disch:=omega) [xk6]
   exact⟨fc',by simpa using h'⟩
theorem xzb(d:Nat)(u:Nat){a:AV}{l:List Scene}(h:Sl Scene.c a l)(hl:l.length<=60):∀(suf:List Scene) (k j:Nat) (m:Mem) (fc:Nat),l.drop k=suf->suf.length<j ->
 ∃m',x16 (xk2 (d+1)) [] u j a (I k) m fc=some (.tup [I (xm6 l k suf).1,I (xm6 l k suf).2],m'):=by
 intro suf
 induction suf with
 |nil=>
  intro k j m fc hd hj
  obtain⟨j,rfl⟩:∃i,j=i+1:=⟨j-1,by simp at hj;omega⟩
  have hk:¬((k:Int)<(l.length:Int)):=by have:=x13z.mp hd;omega
  simp only[x16]
  unfold x86
  simp[h.len xl8,hk,xe0,xm6]
 |cons e r ih=>
  intro k j m fc hd hj
  obtain⟨j,rfl⟩:∃i,j=i+1:=⟨j-1,by simp at hj;omega⟩
  obtain⟨hk,he,hd⟩:=xmx hd
  have hk':(k:Int)<(l.length:Int):=by omega
  have ix:=h.ix Scene.len hk
  have ld:=xlt (m:=m) Scene.len (by omega) hk
  rw[he]at ld
  have next:∀m fc,∃m',x16 (xk2 (d+1)) [] u j a (I ((k:Int)+1)) m fc=some (.tup [I (xm6 l (k+1) r).1,I (xm6 l (k+1) r).2],m'):=λm fc=>ih (k+1) j m fc hd (by simp at hj;omega)
  simp only[x16]
  unfold x86 xe3
  simp only[h.len xl8,xkx,hk',x12o,xku,xka,ix,ld,xrl,xrr,xm6]
  simp[Scene.c,w_IsName]
  cases hn:nmOK e.nm with
  |false=>simp
  |true=>
   simp
   generalize hm1:Mem.set _ _ _=m1
   have hg:m1.get (u,fc+4+4,5)=some (.row e.c 0 false):=by rw[<-hm1];simp[Scene.c]
   unfold xe2
   obtain⟨fc',hL⟩:=xza (xk2 (d+1)) [] u h hl hk (u,fc+4+4,5) (x16 (xk2 (d+1)) [] u j) m1 hg (l.take k) 0 NN (fc+4+10+1) rfl (by rw[xkj,x14k];omega)
   rw[show(I ((0:Nat):Int))=I 0 from rfl]at hL
   rw[hL]
   cases hany:(l.take k).any λx=>teq x.nm e.nm with
   |true=>simp
   |false=>
    unfold x84 xe1
    simp[hg,Scene.c,xom]
    cases hw:wi e.day 0 100000 with
    |false=>simp
    |true=>
     simp(disch:=omega) [hg,Scene.c,xom]
     cases hw2:wi e.bl (-100000) 100000 with
     |false=>simp
     |true=>
      simp
      exact next _ _
theorem xzc(d:Nat){a:AV}{l:List Scene}(h:Sl Scene.c a l)(m:Mem):xk4 (xk2 (d+2)) x1v [a] m=some (.tup [I (xm1 l).1,I (xm1 l).2],m):=by
 obtain⟨m',h'⟩:∃m',xk2 (d+2) [] x1v [a] mem0=some (.tup [I (xm1 l).1,I (xm1 l).2],m'):=by
  rw[xh5]
  unfold xap x87 xe4 xm1
  by_cases hl:60<l.length
  .simp[h.len xl8,hl,show(60:Int)<l.length by omega]
  .obtain⟨m',h'⟩:=xzb d 0 h (by omega) l 0 NN ⟨[],1⟩ 6 rfl (by rw[xkj];omega)
   simp[h.len xl8,hl,show ¬((60:Int)<l.length) by omega,mem0]
   exact⟨m',h'⟩
 exact call0_tup (by simp[h.still]) h' rfl
end Go.Ix
set_option linter.unusedVariables false
namespace Go.Ix
open Go.Proofs
variable{P:Program}
theorem xnz{α β:Type}(f:α->Sem β):∀s:Sem α,xk9 P (s >>= f)=(xk9 P s).bind λa=>xk9 P (f a):=by
 intro s
 show xk9 P (Sem.bind s f)=_
 induction s with
 |pure a=>rfl
 |program k ih=>exact ih P
 |mark x k ih=>exact ih
 |_=>rfl
theorem xrs{α:Type}(a:α):xk9 P (pure a:Sem α)=some a:=rfl
theorem xtr:xk9 P program=some P:=rfl
theorem xwj{t:TypeId}{d:TypeDesc}(h:P.underlying t=some d):xk9 P (underlying t)=some d:=by
 simp only[underlying,xnz,xtr,xka,h]
 rfl
theorem xzd(d:Nat)(t:TypeId)(xs ys:Array Value)(ht:P.underlying t=some (.struct (P.fieldsOf t)))(hp:P.stoodInHeld t=false) :
 xk9 P (Op.equalIn (d+1) t (.agg xs) (.agg ys))=xk9 P (Op.eqFields d xs ys (P.fieldsOf t).toList):=by
 simp only[Op.equalIn,xnz,xwj ht,xka,xtr,hp,x138,x12w]
 rw[<-Array.forIn_toList]
 generalize (P.fieldsOf t).toList=fs
 clear ht
 induction fs with
 |nil=>simp[Op.eqFields,xrs]
 |cons f fs ih=>
  simp only[List.forIn_cons,Op.eqFields,xnz]
  split
  .simp only[xnz]
   generalize xk9 P (part f.type xs f.offset)=r1
   cases r1 with
   |none=>rfl
   |some a=>
    generalize hb:xk9 P (part f.type ys f.offset)=r2
    cases r2 with
    |none=>simp[hb]
    |some b=>
     simp only[hb,xka]
     generalize xk9 P (Op.equalIn d f.type a b)=r3
     cases r3 with
     |none=>rfl
     |some r=>
      cases r
      .rfl
      .exact ih
  .exact ih
theorem xze(d:Nat)(t:TypeId)(k k':IntKind)(a b:Int)(h:P.underlying t=some (.int k')):xk9 P (Op.equalIn (d+1) t (.int k a) (.int k b))=some (a == b):=by
 simp[Op.equalIn,xnz,xwj h,xrs]
theorem xzf(op:BinOp)(t:TypeId)(x y:Operand)(xs ys:Array Value)(hm:P.eqGuardType P.depth t=false):xk9 P (eqGuard op t x y (.agg xs) (.agg ys))=some ():=by
 cases op<;>simp[eqGuard,xnz,xtr,xrs,hm]
theorem xzg{t:TypeId}{x y:Operand}{xs ys:List Value}{r:Bool}(hm:P.eqGuardType P.depth t=false)(hr:xk9 P (Op.equalIn 10000 t (.agg xs.toArray) (.agg ys.toArray))=some r) :
 ∀kx ky,scs kx=some xs->scs ky=some ys->sBin P .eql t x y (.agg kx) (.agg ky)=some (B r):=by
 intro kx ky h1 h2
 simp only[sBin,xks,h1,h2,xnz,xzf _ _ _ _ _ _ hm,xka]
 have:xk9 P (binOp .eql t (.agg xs.toArray) (.agg ys.toArray))=some (.bool r):=by
  show xk9 P (do pure (Value.bool (<-Op.equal t (.agg xs.toArray) (.agg ys.toArray))))=_
  simp only[xnz,Op.equal,Op.maxDepth,hr,xka,xrs]
 rw[this];rfl
theorem und_int:Tryz.prog.underlying xkv=some (.int .i64):=by kernel_rfl
theorem xwk(d:Nat)(xs ys:Array Value)(ga gb:Nat->Int):∀fs:List Field,(∀f∈fs,f.name≠"_"/\f.type=xkv/\xk9 Tryz.prog (part xkv xs f.offset)=some (.int .i64 (ga f.offset))/\xk9 Tryz.prog (part xkv ys f.offset)=some (.int .i64 (gb f.offset))) ->
 xk9 Tryz.prog (Op.eqFields (d+1) xs ys fs)=some (fs.all λf=>ga f.offset == gb f.offset)
 |[],_=>rfl
 |f::fs,h=>by
  obtain⟨h1,h2,h3,h4⟩:=h f (x12m ..)
  have ih:=xwk d xs ys ga gb fs λg hg=>h g (x12l _ hg)
  simp only[Op.eqFields,h1,ne_eq,not_false_eq_true,x12v,h2,xnz,h3,h4,xka,xze _ _ _ _ _ _ und_int,x13o]
  cases ga f.offset == gb f.offset
  .rfl
  .exact ih
theorem eq_ints{t:TypeId}{offs:List Nat}{xs ys:Array Value}{ga gb:Nat->Int}(hS:Tryz.prog.underlying t=some (.struct (Tryz.prog.fieldsOf t)))(hs:Tryz.prog.stoodInHeld t=false)(hF:((Tryz.prog.fieldsOf t).toList.map λf=>(f.type,f.offset,decide (f.name = "_")))=offs.map λo=>(xkv,o,false))(hp:∀o∈offs,xk9 Tryz.prog (part xkv xs o)=some (.int .i64 (ga o))/\xk9 Tryz.prog (part xkv ys o)=some (.int .i64 (gb o))) :
 xk9 Tryz.prog (Op.equalIn 10000 t (.agg xs) (.agg ys))=some (offs.all λo=>ga o == gb o):=by
 rw[show(10000:Nat)=9998+1+1 from rfl,xzd _ _ _ _ hS hs]
 generalize (Tryz.prog.fieldsOf t).toList=fs at hF
 rw[xwk 9998 xs ys ga gb fs]
 .have:(fs.map λf=>f.offset)=offs:=by
   have:=congrArg (List.map λx:TypeId×Nat×Bool=>x.2.1) hF
   simpa[List.map_map,Function.comp_def]using this
  rw[<-this,List.all_map]
  rfl
 .intro f hf
  have h1:(f.type,f.offset,decide (f.name = "_"))∈offs.map λo=>(xkv,o,false):=by
   rw[<-hF];exact List.mem_map_of_mem hf
  obtain⟨o,ho,e⟩:=x12r.mp h1
  simp only[x12d]at e
  obtain⟨e1,e2,e3⟩:=e
  subst e2
  exact⟨of_decide_eq_false e3.symm,e1.symm,hp _ ho⟩
structure Pq where
 a:Int
 b:Int
def Pq.c(p:Pq):List AV:=[I p.a,I p.b]
theorem Pq.len(p:Pq):p.c.length=2:=rfl
theorem Pq.still(p:Pq):p.c.all still1=true:=rfl
theorem xlc:Tryz.prog.underlying x4=some (.slice x6):=by kernel_rfl
theorem xmn:xb=[I 0,I 0]:=by kernel_rfl
def Pq.same(p q:Pq):Bool:=decide (p.a=q.a)&&decide (p.b=q.b)
theorem Pq.same_iff{a b:Pq}:a.same b=true↔a=b:=by
 cases a;cases b
 simp[Pq.same]
theorem Pq.same_self(a:Pq):a.same a=true:=Pq.same_iff.2 rfl
theorem part27(w0 w1:Int):∀o∈[0,1],xk9 Tryz.prog (part xkv #[.int .i64 w0,.int .i64 w1] o)=some (.int .i64 ([w0,w1].getD o 0)):=by
 intro o ho
 simp only[x12q,x166,or_false]at ho
 rcases ho with rfl|rfl<;>kernel_rfl
theorem xwl(p q:Pq):xk9 Tryz.prog (Op.equalIn 10000 x6 (.agg [.int .i64 p.a,.int .i64 p.b].toArray) (.agg [.int .i64 q.a,.int .i64 q.b].toArray))=some (p.same q):=by
 refine(eq_ints (offs:=[0,1]) (ga:=λo=>[p.a,p.b].getD o 0) (gb:=λo=>[q.a,q.b].getD o 0) (by kernel_rfl) (by kernel_rfl) (by kernel_rfl) λo ho=>⟨part27 _ _ o ho,part27 _ _ o ho⟩).trans ?_
 simp[Pq.same,List.getD]
 by_cases h0:p.a=q.a<;>by_cases h1:p.b=q.b<;>simp[h0,h1]
theorem eq_pair7(x y:Operand)(p q:Pq):sBin Tryz.prog .eql x6 x y (.agg p.c) (.agg q.c)=some (B (p.same q)):=
 xzg (xs:=[.int .i64 p.a,.int .i64 p.b]) (ys:=[.int .i64 q.a,.int .i64 q.b]) (by kernel_rfl) (xwl p q) _ _ rfl rfl
def InB(l:List Scene):Prop:=∀s∈l,(0<=s.day/\s.day<=100000)/\(-100000<=s.bl/\s.bl<=100000)
theorem xwm{l:List Scene}:∀(suf:List Scene) (k:Nat),(xm6 l k suf).2=0->InB suf
 |[],_,_=>λs h=>by cases h
 |x::r,k,h=>by
  simp only[xm6]at h
  cases hn:nmOK x.nm with
  |false=>simp[hn]at h
  |true=>
   cases ha:(l.take k).any λy=>teq y.nm x.nm with
   |true=>simp[hn,ha]at h
   |false=>
    cases hw:wi x.day 0 100000 with
    |false=>simp[hn,ha,hw]at h
    |true=>
     cases hw2:wi x.bl (-100000) 100000 with
     |false=>simp[hn,ha,hw,hw2]at h
     |true=>
      simp[hn,ha,hw,hw2]at h
      have ih:=xwm r (k+1) h
      intro s hs
      rcases x12q.mp hs with rfl|hs
      .exact⟨wi_t hw,wi_t hw2⟩
      .exact ih s hs
theorem xts{l:List Scene}(h:(xm1 l).2=0):l.length<=60/\InB l:=by
 unfold xm1 at h
 by_cases hl:60<l.length
 .simp[hl]at h
 .simp[hl]at h
  exact⟨by omega,xwm l 0 h⟩
structure Sp where
 p:Int
 s:Int
def Sp.c(x:Sp):List AV:=[I x.p,I x.s]
theorem Sp.len(x:Sp):x.c.length=2:=rfl
theorem Sp.still(x:Sp):x.c.all still1=true:=rfl
def prAt(P:List Pq)(i:Int):Pq:=P.getD i.toNat ⟨0,0⟩
def frS(P:List Pq)(x:Sp):Int:=if x.s<0 then(prAt P x.p).b else(prAt P x.p).a
def toS(P:List Pq)(x:Sp):Int:=if x.s<0 then(prAt P x.p).a else(prAt P x.p).b
def Wk(P:List Pq):List Sp->Int->Int->Prop
 |[],a,b=>a=b
 |x::r,a,b=>frS P x=a/\Wk P r (toS P x) b
variable{P:List Pq}{F:List Int}
theorem Wk.app:∀{v w:List Sp} {a b c:Int},Wk P v a b->Wk P w b c->Wk P (v++w) a c
 |[],_,_,_,_,h,h2=>by cases h;exact h2
 |x::r,_,_,_,_,h,h2=>⟨h.1,h.2.app h2⟩
theorem Wk.split:∀{v w:List Sp} {a c:Int},Wk P (v++w) a c->∃b,Wk P v a b/\Wk P w b c
 |[],_,a,_,h=>⟨a,rfl,h⟩
 |x::r,_,_,_,h=>by
  obtain⟨b,h1,h2⟩:=Wk.split (v:=r) h.2
  exact⟨b,⟨h.1,h1⟩,h2⟩
def InF(F:List Int)(x:Sp):Prop:=x.p∈F/\(x.s=1\/x.s=-1)
def AllF(F:List Int)(w:List Sp):Prop:=∀x∈w,InF F x
theorem AllF.tail{x:Sp}{r:List Sp}(h:AllF F (x::r)):AllF F r:=λy hy=>h y (x12l _ hy)
theorem AllF.head{x:Sp}{r:List Sp}(h:AllF F (x::r)):InF F x:=h x (x12m ..)
theorem AllF.app{v w:List Sp}(h:AllF F v)(h2:AllF F w):AllF F (v++w):=λy hy=>by
 rcases x136.mp hy with hy|hy
 .exact h y hy
 .exact h2 y hy
def xop(x:Sp):Sp:=⟨x.p,-x.s⟩
theorem flip_fr{x:Sp}(h:InF F x):frS P (xop x)=toS P x:=by
 unfold frS toS xop
 rcases h.2 with e|e<;>rw[e]<;>simp
theorem flip_to{x:Sp}(h:InF F x):toS P (xop x)=frS P x:=by
 unfold frS toS xop
 rcases h.2 with e|e<;>rw[e]<;>simp
theorem flip_in{x:Sp}(h:InF F x):InF F (xop x):=by
 refine⟨h.1,?_⟩
 unfold xop
 rcases h.2 with e|e<;>rw[e]<;>simp
theorem Wk.back:∀{w:List Sp} {a b:Int},Wk P w a b->AllF F w->∃v,Wk P v b a/\AllF F v
 |[],_,_,h,_=>⟨[],h.symm,λ_ h=>by cases h⟩
 |x::r,_,_,h,hF=>by
  obtain⟨v,h1,h2⟩:=Wk.back h.2 hF.tail
  refine⟨v++[xop x],h1.app ⟨flip_fr hF.head,?_⟩,h2.app ?_⟩
  .show toS P (xop x)=_
   rw[flip_to hF.head];exact h.1
  .intro y hy
   simp at hy
   subst hy
   exact flip_in hF.head
def Cut(P:List Pq)(F:List Int):Prop:=∀i∈F,∃s:Int->Bool,s (prAt P i).a≠s (prAt P i).b/\∀j∈F,j≠i->s (prAt P j).a=s (prAt P j).b
theorem xpx{i:Int}{s:Int->Bool}(h:∀j∈F,j≠i->s (prAt P j).a=s (prAt P j).b):∀{w:List Sp} {a b:Int},Wk P w a b->AllF F w->i∉w.map Sp.p->s a=s b
 |[],_,_,hw,_,_=>by cases hw;rfl
 |x::r,a,b,hw,hF,hi=>by
  simp only[x12p,x12q,not_or]at hi
  have h1:=h x.p hF.head.1 (Ne.symm hi.1)
  have h2:=xpx h hw.2 hF.tail hi.2
  rw[<-h2,<-hw.1]
  unfold frS toS
  split<;>simp[h1]
theorem side_ends{i:Int}{s:Int->Bool}(h:s (prAt P i).a≠s (prAt P i).b){x y:Sp}(hx:x.p=i)(hy:y.p=i)(he:s (frS P y)=s (toS P x)):frS P y=toS P x/\toS P y=frS P x:=by
 unfold frS toS at *
 rw[hx,hy]at *
 by_cases c1:x.s<0<;>by_cases c2:y.s<0<;>simp only[c1,c2,x12v,x12w]at*<;> first|exact⟨trivial,trivial⟩|exact⟨rfl,rfl⟩|exact absurd he h|exact absurd he (Ne.symm h)
theorem xtt{i:Int}{s:Int->Bool}(h:s (prAt P i).a≠s (prAt P i).b){x:Sp}(hx:x.p=i):s (frS P x)≠s (toS P x):=by
 unfold frS toS
 rw[hx]
 split
 .exact h.symm
 .exact h
theorem xtu(hC:Cut P F){x:Sp}{r:List Sp}{a:Int}(hw:Wk P (x::r) a a)(hF:AllF F (x::r))(hn:x.p∉r.map Sp.p):False:=by
 obtain⟨s,h1,h2⟩:=hC x.p hF.head.1
 have h3:=xpx h2 hw.2 hF.tail hn
 exact xtt h1 rfl (by rw[hw.1,h3])
def NB(P:List Pq):List Sp->Prop
 |[]=>True
 |[_]=>True
 |x::y::r=>toS P y≠frS P x/\NB P (y::r)
theorem NB.tail{x:Sp}{r:List Sp}(h:NB P (x::r)):NB P r:=by
 cases r with
 |nil=>trivial
 |cons y r=>exact h.2
theorem xrt(hC:Cut P F):∀{w:List Sp} {a b:Int},Wk P w a b->AllF F w->NB P w->(w.map Sp.p).Nodup
 |[],_,_,_,_,_=>List.nodup_nil
 |x::r,a,b,hw,hF,hn=>by
  have ih:=xrt hC hw.2 hF.tail hn.tail
  rw[x12p,x13w]
  refine⟨λhm=>?_,ih⟩
  obtain⟨y,hy,hyp⟩:=x12r.mp hm
  obtain⟨r1,r2,rfl⟩:=x16u hy
  obtain⟨c,w1,w2⟩:=hw.2.split
  obtain⟨s,h1,h2⟩:=hC x.p hF.head.1
  have hi1:x.p∉r1.map Sp.p:=by
   rw[x13q,x148]at ih
   intro hmem
   exact ih.2.2 _ hmem y.p (by simp) hyp.symm
  have hF1:AllF F r1:=λz hz=>hF.tail z (x14h _ hz)
  have e:=xpx h2 w1 hF1 hi1
  obtain⟨e1,e2⟩:=side_ends h1 (x:=x) (y:=y) rfl hyp (by rw[w2.1,e])
  cases r1 with
  |nil=>exact hn.1 e2
  |cons z r1=>
   refine xtu (r:=r1) (x:=z) (a:=toS P x) hC ?_ hF1 ?_
   .have:c=toS P x:=by rw[<-e1];exact w2.1.symm
    rw[this]at w1
    exact w1
   .rw[x13q,x148]at ih
    have:=ih.1
    rw[x12p,x13w]at this
    exact this.1
theorem xwn(hC:Cut P F):∀{w v:List Sp} {a b:Int},Wk P w a b->Wk P v a b->AllF F w->AllF F v->(w.map Sp.p).Nodup->(v.map Sp.p).Nodup->w=v
 |[],[],_,_,_,_,_,_,_,_=>rfl
 |[],y::v,_,_,hw,hv,_,hF,_,hn=>by
  cases hw
  rw[x12p,x13w]at hn
  exact(xtu hC hv hF hn.1).elim
 |x::r,v,a,b,hw,hv,hF,hG,hn,hm=>by
  rw[x12p,x13w]at hn
  obtain⟨s,h1,h2⟩:=hC x.p hF.head.1
  have hr:=xpx h2 hw.2 hF.tail hn.1
  have hab:s a≠s b:=by rw[<-hr,<-hw.1];exact xtt h1 rfl
  have hmem:x.p∈v.map Sp.p:=Classical.byContradiction λhc=>hab (xpx h2 hv hG hc)
  obtain⟨y,hy,hyp⟩:=x12r.mp hmem
  obtain⟨v1,v2,rfl⟩:=x16u hy
  obtain⟨c,w1,w2⟩:=hv.split
  have hm':=hm
  rw[x13q,x148]at hm'
  have hi1:x.p∉v1.map Sp.p:=λhmem=>hm'.2.2 _ hmem y.p (by simp) hyp.symm
  have hF1:AllF F v1:=λz hz=>hG z (x14h _ hz)
  have e:=xpx h2 w1 hF1 hi1
  have hne:=xtt h1 (x:=x) rfl
  have hfx:frS P y=frS P x/\y.s<0↔frS P y=frS P x/\x.s<0:=by
   constructor
   .rintro⟨q,q2⟩
    refine⟨q,?_⟩
    unfold frS at q
    rw[hyp,x12c q2]at q
    by_cases c2:x.s<0
    .exact c2
    .rw[x12b c2]at q;exact absurd (by rw[q]) h1
   .rintro⟨q,q2⟩
    refine⟨q,?_⟩
    unfold frS at q
    rw[hyp,x12c q2]at q
    by_cases c2:y.s<0
    .exact c2
    .rw[x12b c2]at q;exact absurd (by rw[q]) h1
  have hfe:frS P y=frS P x:=by
   have hsy:s (frS P y)=s (frS P x):=by rw[w2.1,hw.1,e]
   unfold frS at hsy hne ⊢
   unfold toS at hne
   rw[hyp]at hsy ⊢
   by_cases c1:x.s<0<;>by_cases c2:y.s<0<;>simp only[c1,c2,x12v,x12w]at*<;> first|rfl|exact absurd hsy h1|exact absurd hsy.symm h1
  have hxy:y=x:=by
   have hs:y.s=x.s:=by
    have hy2:=(hG y (x16x _ (x12m ..))).2
    have hx2:=hF.head.2
    by_cases c2:y.s<0
    .have:=(hfx.mp ⟨hfe,c2⟩).2;omega
    .have:¬x.s<0:=λq=>c2 (hfx.mpr ⟨hfe,q⟩).2
     omega
   cases x;cases y;simp at hyp hs;rw[hyp,hs]
  subst hxy
  have hca:c=a:=by rw[<-w2.1];exact hw.1
  rw[hca]at w1
  cases v1 with
  |cons z v1=>
   have:=hm'.1
   rw[x12p,x13w]at this
   exact(xtu hC w1 hF1 this.1).elim
  |nil=>
   have hm2:=hm'.2.1
   rw[x12p,x13w]at hm2
   have:=xwn hC hw.2 w2.2 hF.tail hG.tail hn.2 hm2.2
   rw[this];rfl
theorem nb_unique(hC:Cut P F){w v:List Sp}{a b:Int}(hw:Wk P w a b)(hv:Wk P v a b)(hF:AllF F w)(hG:AllF F v)(hn:NB P w)(hm:NB P v):w=v:=
 xwn hC hw hv hF hG (xrt hC hw hF hn) (xrt hC hv hG hm)
theorem nb_of:∀{w:List Sp} {a b:Int},Wk P w a b->AllF F w->∃v,Wk P v a b/\AllF F v/\NB P v
 |[],_,_,h,hF=>⟨[],h,hF,trivial⟩
 |x::r,a,b,h,hF=>by
  obtain⟨v,h1,h2,h3⟩:=nb_of h.2 hF.tail
  cases v with
  |nil=>exact⟨[x],⟨h.1,h1⟩,λy hy=>by simp at hy;subst hy;exact hF.head,trivial⟩
  |cons y v=>
   by_cases c:toS P y=frS P x
   .refine⟨v,?_,h2.tail,h3.tail⟩
    have:=h1.2
    rw[c,h.1]at this
    exact this
   .refine⟨x::y::v,⟨h.1,h1⟩,λz hz=>?_,c,h3⟩
    rcases x12q.mp hz with rfl|hz
    .exact hF.head
    .exact h2 z hz
def xmz(F:List Int):List Sp:=F.flatMap λi=>[⟨i,1⟩,⟨i,-1⟩]
theorem mem_stepsOf{F:List Int}{x:Sp}:x∈xmz F↔InF F x:=by
 unfold xmz InF
 rw[x13v]
 constructor
 .rintro⟨i,hi,hx⟩
  simp only[x12q,x166,or_false]at hx
  rcases hx with rfl|rfl
  .exact⟨hi,Or.inl rfl⟩
  .exact⟨hi,Or.inr rfl⟩
 .rintro⟨h1,h2⟩
  refine⟨x.p,h1,?_⟩
  cases x
  rcases h2 with e|e<;>simp at e<;>subst e<;>simp
theorem xtv{l k:List Int}(hn:l.Nodup)(h:∀x∈l,x∈k):l.length<=k.length:=by
 induction l generalizing k with
 |nil=>simp
 |cons x r ih=>
  rw[x13w]at hn
  have hx:=h x (x12m ..)
  have:=ih (k:=k.erase x) hn.2 λy hy=>by
   rw[List.mem_erase_of_ne (by rintro rfl;exact hn.1 hy)]
   exact h y (x12l _ hy)
  rw[List.length_erase_of_mem hx]at this
  have h0:0<k.length:=List.length_pos_of_mem hx
  simp only[x12x]
  omega
theorem xqs(hC:Cut P F){w:List Sp}{a b:Int}(hw:Wk P w a b)(hF:AllF F w)(hn:NB P w):w.length<=F.length:=by
 have:=xtv (xrt hC hw hF hn) (k:=F) λi hi=>by
  obtain⟨x,hx,rfl⟩:=x12r.mp hi
  exact(hF x hx).1
 simpa using this
end Go.Ix
