import Derived.Test.YtpeakdjfagbpcaaGreatWg0
import Derived.Laws.Strings
import Derived.Test.YtpeakdjfagbpcaaGreatFxSound
import Derived.Laws.StructEq
set_option linter.unusedSimpArgs false
namespace Go.Ix
open Go.Proofs
theorem x2n5(d:Nat)(a b c:Int)(m:Mem):x2g3 (x2g5 (d+1)) xx [I a,I b,I c] m=some (B (wi a b c),m):=by
 refine call0 rfl (m':=⟨[],1⟩) ?_ rfl
 rw[x1d1]
 unfold xf5 xhk wi
 by_cases h:b<=a<;>by_cases h2:a<=c<;>simp[h,h2,mem0]
theorem w_small7(d:Nat)(a b:Int)(m:Mem)(h:-9223372036854775807<=b/\b<=9223372036854775807):x2g3 (x2g5 (d+2)) x1r [I a,I b] m=some (B (wi a (-b) b),m):=by
 refine call0 rfl (m':=⟨[],1⟩) ?_ rfl
 rw[x1d4]
 unfold xf8 xhs
 simp(disch:=omega) [mem0,x2n5,x2gh]
theorem w_size7(d:Nat)(a:Int)(m:Mem)(h1:-9223372036854775808<a)(h2:a<=9223372036854775807):x2g3 (x2g5 (d+1)) x4h [I a] m=some (I (a.natAbs:Int),m):=by
 refine call0 rfl (m':=⟨[],1⟩) ?_ rfl
 rw[x1dd]
 unfold xfj xi4
 simp(disch:=omega) [mem0,x2gh]
 split<;>omega
abbrev T(s:ByteArray):AV:=.sc (.string s)
abbrev U8(c:Int):AV:=.sc (.int .u8 c)
def u8E(b:UInt8):List AV:=[U8 b.toNat]
theorem u8E_len(b:UInt8):(u8E b).length=1:=rfl
theorem u8_ge(x y:Operand)(a b:Int):sBin Tryz.prog .geq xa x y (U8 a) (U8 b)=some (B (decide (b<=a))):=by kernel_rfl
theorem u8_le(x y:Operand)(a b:Int):sBin Tryz.prog .leq xa x y (U8 a) (U8 b)=some (B (decide (a<=b))):=by kernel_rfl
theorem u8_gt(x y:Operand)(a b:Int):sBin Tryz.prog .gtr xa x y (U8 a) (U8 b)=some (B (decide (b<a))):=by kernel_rfl
theorem u8_lt(x y:Operand)(a b:Int):sBin Tryz.prog .lss xa x y (U8 a) (U8 b)=some (B (decide (a<b))):=by kernel_rfl
theorem u8_eq(x y:Operand)(a b:Int):sBin Tryz.prog .eql xa x y (U8 a) (U8 b)=some (B (decide (a=b))):=by kernel_rfl
theorem u8_ne(x y:Operand)(a b:Int):sBin Tryz.prog .neq xa x y (U8 a) (U8 b)=some (B (!decide (a=b))):=by kernel_rfl
def teq(a b:ByteArray):Bool:=a.toList == b.toList
theorem t_eq(x y:Operand)(a b:ByteArray):sBin Tryz.prog .eql xi x y (T a) (T b)=some (B (teq a b)):=by kernel_rfl
@[simp] theorem sLenS_T(s:ByteArray):x2k1 (T s)=some (I s.size):=rfl
theorem u_bytes:Tryz.prog.underlying x8y=some (.slice xa):=by kernel_rfl
theorem u_u8:Tryz.prog.underlying xa=some (.int .u8):=by kernel_rfl
theorem u_str:Tryz.prog.underlying xi=some .string:=by kernel_rfl
theorem cvt_bytes(s:ByteArray):sCvt Tryz.prog xi x8y (T s)=some (.slit (s.data.toList.flatMap u8E) s.data.toList.length false):=by
 have e:(s.data.toList.map fun b=>U8 b.toNat)=s.data.toList.flatMap u8E:=by
  induction s.data.toList with
  |nil=>rfl
  |cons b l ih=>rw[List.map_cons,List.flatMap_cons,ih];rfl
 simp only[sCvt,x2gl,x2mj,u_bytes,u_u8,u_str]
 rw[e,x2i4 (z:=1) u8E_len s.data.toList,Nat.mul_one]
theorem idx_T{s:ByteArray}{k:Nat}(h:k<s.data.toList.length):sIdx Tryz.prog xi (T s) (I k)=some (U8 (s.data.toList[k]).toNat):=by
 have:x2g8 Tryz.prog (Instr.index xi (.string s) (.int .i64 k))=some (.int .u8 (s.data.toList[k]).toNat):=by
  have h2:s[k]?=some s.data.toList[k]:=by
   have h3:k<s.size:=by simpa using h
   rw[getElem?_pos s k h3]
   rfl
  simp only[Instr.index,asIntOf,asInt,underlying,program,Bind.bind,Sem.bind,x2g8,Pure.pure,u_str]
  rw[if_pos (by omega),Int.toNat_natCast,h2]
  rfl
 have e:sIdx Tryz.prog xi (T s) (I k)=(x2g8 Tryz.prog (Instr.index xi (.string s) (.int .i64 k))).map x2gr:=by
  simp only[sIdx,I,x2gl]
 rw[e,this]
 rfl
def chOK(p:Bool)(c:Int):Bool:=(decide (97<=c)&&decide (c<=122))||(decide (65<=c)&&decide (c<=90))||(p&&(decide (c=45)||(decide (48<=c)&&decide (c<=57))))
def x2jg:Nat->List UInt8->Bool
 |_,[]=>true
 |k,c::r=>chOK (decide (0<k)) c.toNat&&x2jg (k+1) r
def nmOK(s:ByteArray):Bool:=decide (0<s.size)&&decide (s.size<=12)&&x2jg 0 s.data.toList
theorem ld_u8{m:Mem}{l:List UInt8}{k:Nat}(hk:k<l.length):sLd false 1 (.plit ((l.drop k).flatMap u8E)) m=some (U8 l[k].toNat):=by
 rw[x2hf hk,List.flatMap_cons]
 rfl
theorem l_isName(call:x2g1)(hs:FHs)(u:Nat){a:AV}{l:List UInt8}(h:Sl u8E a l)(hl:l.length<=12):∀(suf:List UInt8) (k j:Nat) (m:Mem) (fc:Nat),l.drop k=suf->suf.length<j ->
 x31 call hs u j a (I l.length) (I k) m fc=some (B (x2jg k suf),m):=by
 intro suf
 induction suf with
 |nil=>
  intro k j m fc hd hj
  obtain⟨j,rfl⟩:∃i,j=i+1:=⟨j-1,by simp at hj;omega⟩
  have hk:¬((k:Int)<(l.length:Int)):=by have:=List.drop_eq_nil_iff.mp hd;omega
  simp only[x31]
  unfold xdp xv
  simp[hk,x2jg]
 |cons e r ih=>
  intro k j m fc hd hj
  obtain⟨j,rfl⟩:∃i,j=i+1:=⟨j-1,by simp at hj;omega⟩
  obtain⟨hk,he,hd⟩:=x2je hd
  have hk':(k:Int)<(l.length:Int):=by omega
  have ix:=h.ix u8E_len hk
  have ld:=ld_u8 (m:=m) hk
  have next:∀fc,x31 call hs u j a (I l.length) (I (w64 ((k:Int)+1))) m fc=some (B (x2jg (k+1) r),m):=fun fc=>by
   rw[x2gh (by omega) (by omega)]
   exact ih (k+1) j m fc hd (by simp at hj;omega)
  rw[he]at ld
  have hk0:decide ((0:Int)<(k:Int))=decide (0<k):=by simp
  simp only[x31]
  unfold xdp x8x x8w x8v xr
  simp only[x2ho,hk',decide_true,x2i9,x2go,ix,ld,u8_ge,u8_le,u8_eq,sW_t,sW_f]
  simp only[x2jg,chOK]
  generalize (e.toNat:Int)=c
  by_cases a1:97<=c<;>by_cases a2:c<=122<;>by_cases b1:65<=c<;>by_cases b2:c<=90<;>by_cases d1:48<=c<;>by_cases d2:c<=57<;>by_cases d0:c=45 <;>
   first
   |(exfalso;omega)
   |(by_cases hp:0<k<;>simp[a1,a2,b1,b2,d1,d2,d0,hp,u8_ge,u8_le,u8_eq,next])
theorem w_isName(d:Nat)(s:ByteArray)(m:Mem):x2g3 (x2g5 (d+1)) x5u [T s] m=some (B (nmOK s),m):=by
 refine call0 rfl (m':=⟨[],1⟩) ?_ rfl
 rw[x1dg]
 have e0:teq s ⟨#[]⟩=decide (s.size=0):=by
  unfold teq
  rw[ByteArray.toList_eq,ByteArray.toList_eq]
  cases hs:s.data.toList with
  |nil=>
   have:s.size=0:=by show s.data.size=0;rw[<-Array.length_toList,hs];rfl
   simp[this]
  |cons x r=>
   have:s.size=r.length+1:=by show s.data.size=_;rw[<-Array.length_toList,hs];rfl
   simp[this]
 have hsz:s.data.toList.length=s.size:=rfl
 unfold xfn xig nmOK
 simp only[t_eq,e0,x2go]
 by_cases h0:s.size=0
 .simp[h0,mem0]
 .by_cases h12:s.size<=12
  .have hL:=l_isName (x2g5 d) [] 0 (Sl.lit (enc:=u8E) s.data.toList false) (by omega) s.data.toList 0 NN ⟨[],1⟩ (fc:=12) rfl (by rw[x2gs];omega)
   have hlen:sLen Tryz.prog x8y (.slit (s.data.toList.flatMap u8E) s.data.toList.length false)=some (I s.data.toList.length):=(Sl.lit (enc:=u8E) s.data.toList false).len u_bytes
   unfold xdq
   simp only[cvt_bytes,hlen]
   simp[h0,h12,show ¬((12:Int)<s.size) by omega,show 0<s.size by omega,mem0]
   exact hL
  .simp[h0,h12,show(12:Int)<s.size by omega,mem0]
theorem l_IsName(call:x2g1)(hs:FHs)(u:Nat){s:ByteArray}(hl:s.size<=12):∀(suf:List UInt8) (k j:Nat) (m:Mem) (fc:Nat),s.data.toList.drop k=suf->suf.length<j ->
 x2z call hs u j (T s) (I k) m fc=some (B (x2jg k suf),m):=by
 have hsz:s.data.toList.length=s.size:=rfl
 intro suf
 induction suf with
 |nil=>
  intro k j m fc hd hj
  obtain⟨j,rfl⟩:∃i,j=i+1:=⟨j-1,by simp at hj;omega⟩
  have hk:¬((k:Int)<(s.size:Int)):=by have:=List.drop_eq_nil_iff.mp hd;omega
  simp only[x2z]
  unfold xcx x3n
  simp[hk,x2jg]
 |cons e r ih=>
  intro k j m fc hd hj
  obtain⟨j,rfl⟩:∃i,j=i+1:=⟨j-1,by simp at hj;omega⟩
  obtain⟨hk,he,hd⟩:=x2je hd
  have hk':(k:Int)<(s.size:Int):=by omega
  have ix:=idx_T hk
  have next:∀fc,x2z call hs u j (T s) (I (w64 ((k:Int)+1))) m fc=some (B (x2jg (k+1) r),m):=fun fc=>by
   rw[x2gh (by omega) (by omega)]
   exact ih (k+1) j m fc hd (by simp at hj;omega)
  rw[he]at ix
  simp only[x2z]
  unfold xcx
  simp only[sLenS_T,x2go,x2ho,hk',decide_true,x2i9,ix,u8_ge]
  simp only[x2jg,chOK]
  generalize (e.toNat:Int)=c
  by_cases a1:97<=c<;>by_cases a2:c<=122<;>by_cases b1:65<=c<;>by_cases b2:c<=90<;>by_cases d1:c<48<;>by_cases d2:57<c<;>by_cases d0:c=45 <;>
   first
   |(exfalso;omega)
   |(have d1':(48<=c)=¬(c<48):=by rw[Int.not_lt]
     have d2':(c<=57)=¬(57<c):=by rw[Int.not_lt]
     by_cases hp:k=0<;>simp[a1,a2,b1,b2,d1,d2,d1',d2',d0,hp,Nat.pos_iff_ne_zero,u8_ge,u8_le,u8_eq,u8_ne,u8_lt,u8_gt,next]<;>(subst hp;have:=next (fc+44);simpa using this))
theorem w_IsName(d:Nat)(s:ByteArray)(m:Mem):x2g3 (x2g5 (d+1)) x5q [T s] m=some (B (nmOK s),m):=by
 refine call0 rfl (m':=⟨[],1⟩) ?_ rfl
 rw[x1d5]
 have hsz:s.data.toList.length=s.size:=rfl
 unfold xf9 xht nmOK
 by_cases h0:s.size=0
 .simp[h0,mem0]
 .by_cases h12:s.size<=12
  .have hL:=l_IsName (x2g5 d) [] 0 (s:=s) h12 s.data.toList 0 NN ⟨[],1⟩ (fc:=10) rfl (by rw[x2gs];omega)
   unfold xcy
   simp[h0,h12,show ¬((12:Int)<s.size) by omega,show ¬((s.size:Int)<1) by omega,show 0<s.size by omega,mem0]
   exact hL
  .simp[h0,h12,show(12:Int)<s.size by omega,show ¬((s.size:Int)<1) by omega,mem0]
theorem x2u7{i j:Id}{cs:List AV}{v:Nat}:∀{h:Hp} {b:Bool},hget h i=some (.row cs v b)->∃b',hget (shut1 h j) i=some (.row cs v b'):=by
 intro h b hi
 have:=congrFun (x2pb [j] h) i
 rw[show x2k3 [j] h=shut1 h j from rfl]at this
 rw[this]
 unfold shut
 split
 .rw[hi];exact⟨_,rfl⟩
 .exact⟨b,hi⟩
theorem x2ry{i:Id}{cs:List AV}{v:Nat}:∀(ids:List Id) {h:Hp} {b:Bool},hget h i=some (.row cs v b)->∃b',hget (x2k3 ids h) i=some (.row cs v b')
 |[],h,b,hi=>⟨b,hi⟩
 |j::r,h,b,hi=>by
  obtain⟨b',h'⟩:=x2u7 (j:=j) hi
  exact x2ry r h'
theorem x2rz{call:x2g1}{f:FuncId}{l l':List AV}{m m':Mem}{r r':AV}(hl:l.mapM (Go.Ix.frz m.get deep)=some l')(h:call [] f l' mem0=some (r,m'))(hr:Go.Ix.frz m'.get deep r=some r') :
 ∃m2:Mem,x2g3 call f l m=some (r',m2)/\m2.next=m.next/\∀i cs v b,m.get i=some (.row cs v b)->∃b',m2.get i=some (.row cs v b'):=by
 refine⟨⟨x2k3 (l.flatMap (x2ga m.get deep)) m.hp,m.next⟩,?_,rfl,fun i cs v b hi=>x2ry _ hi⟩
 unfold x2g3
 rw[hl]
 simp only[h,hr]
 rfl
structure Scene where
 nm:ByteArray
 day:Int
 bl:Int
def Scene.c(s:Scene):List AV:=[T s.nm,I s.day,I s.bl]
theorem Scene.len(s:Scene):s.c.length=3:=rfl
theorem x2h9:Tryz.prog.underlying x4=some (.slice x5o):=by kernel_rfl
theorem x2u8:∃i,Tryz.prog.info? x5o=some i/\i.size=3:=by
 have:(Tryz.prog.info? x5o).map (·.size)=some 3:=by kernel_rfl
 rw[Option.map_eq_some_iff]at this
 exact this
theorem x2pp:xu=[T ⟨#[]⟩,I 0,I 0]:=by kernel_rfl
@[simp] theorem cells_T(s:ByteArray):(T s).cells=[T s]:=rfl
@[simp] theorem one_T(s:ByteArray):(T s).one=true:=rfl
theorem x2u9{a:AV}{l:List Scene}(h:Sl Scene.c a l){k:Nat}(hk:k<=l.length)(h0:l≠[]):∃a',Sl Scene.c a' (l.take k)/\x2ir Tryz.prog x4 a none (some (I k))=some a':=by
 rcases h with ⟨_,rfl⟩|⟨x,rfl⟩
 .exact absurd rfl h0
 obtain⟨i,hi,hs⟩:=x2u8
 have hl:=x2i4 Scene.len l
 refine⟨.slit ((l.take k).flatMap Scene.c) (l.take k).length (x&&decide ((k:Int)=(l.length:Int))),Sl.lit _ _,?_⟩
 have e1:x2gl (.slit (l.flatMap Scene.c) l.length x)=none:=_root_.id rfl
 have e2:asI (I (k:Int))=some (k:Int):=rfl
 have e3:asI (I 0)=some 0:=rfl
 unfold x2ir
 simp only[e1,x2h9,hi,Option.getD_some,Option.getD_none,e2,e3,hs,Int.sub_zero,Int.toNat_natCast,Int.toNat_zero,Nat.zero_mul,List.drop_zero]
 rw[if_pos ⟨by omega,by omega,by omega,by omega⟩,List.length_take,Nat.min_eq_left hk]
 have ht:∀(l:List Scene) (k:Nat),(l.flatMap Scene.c).take (k*3)=(l.take k).flatMap Scene.c:=by
  intro l
  induction l with
  |nil=>intro k;simp
  |cons x r ih=>
   intro k
   cases k with
   |zero=>simp
   |succ k=>
    rw[List.flatMap_cons,List.take_succ_cons,List.flatMap_cons,Nat.succ_mul,show k*3+3=x.c.length+k*3 by rw[Scene.len];omega,List.take_length_add_append,ih]
 rw[ht]
def x2kk(nm:ByteArray):Int->List Scene->Int
 |_,[]=>-1
 |k,x::r=>bif teq x.nm nm then k else x2kk nm (k+1) r
theorem x2s0(nm:ByteArray):∀(l:List Scene) (k:Int),0<=k->decide (0<=x2kk nm k l)=l.any fun y=>teq y.nm nm
 |[],k,_=>by simp[x2kk]
 |x::r,k,hk=>by
  rw[x2kk,List.any_cons]
  cases teq x.nm nm with
  |true=>simp[hk]
  |false=>simpa using x2s0 nm r (k+1) (by omega)
theorem x2ua(d:Nat)(hs:FHs)(x y:Scene)(m:Mem):∃m',x2g5 (d+1) hs xt [.agg x.c,.plit y.c] m=some (B (teq x.nm y.nm),m'):=by
 rw[x1di]
 unfold xfp xii
 simp[Scene.c,t_eq]
theorem x2ub(d:Nat)(hs:FHs){a:AV}{l:List Scene}{y:Scene}(h:Sl Scene.c a l)(hl:l.length<1000000)(u:Nat):∀(suf:List Scene) (k j:Nat) (m:Mem) (fc:Nat),l.drop k=suf->suf.length<j ->
 ∃m',x43 (x2g5 (d+1)) hs u j a (.clo xt [.plit y.c]) (I l.length) (I k) m fc=some (I (x2kk y.nm k suf),m'):=by
 intro suf
 induction suf with
 |nil=>
  intro k j m fc hd hj
  obtain⟨j,rfl⟩:∃i,j=i+1:=⟨j-1,by simp at hj;omega⟩
  have hk:¬((k:Int)<(l.length:Int)):=by have:=List.drop_eq_nil_iff.mp hd;omega
  simp only[x43]
  unfold xdy
  simp[hk,x42,x2kk]
 |cons e r ih=>
  intro k j m fc hd hj
  obtain⟨j,rfl⟩:∃i,j=i+1:=⟨j-1,by simp at hj;omega⟩
  obtain⟨hk,he,hd⟩:=x2je hd
  have hk':(k:Int)<(l.length:Int):=by omega
  have ix:=h.ix Scene.len hk
  have ld:=x2ii (m:=m) Scene.len (by omega) hk
  rw[he]at ld
  obtain⟨m1,hc⟩:=x2ua d hs e y m
  have hinv:x2h8 (x2g5 (d+1)) hs 2 (.clo xt [.plit y.c]) [.agg e.c] m=some (B (teq e.nm y.nm),m1):=hc
  simp only[x43]
  unfold xdy
  simp only[x2ho,hk',decide_true,x2i9,x2go,ix,ld,hinv,x2kk]
  cases ht:teq e.nm y.nm with
  |true=>simp
  |false=>
   obtain⟨m',h'⟩:=ih (k+1) j m1 (fc+11) hd (by simp at hj;omega)
   simp(disch:=omega) [x2gh]
   exact⟨m',by simpa using h'⟩
theorem x2uc(d:Nat){a:AV}{l:List Scene}{y:Scene}(h:Sl Scene.c a l)(hl:l.length<1000000) :
 ∃m',x2g5 (d+3) [] x5v [a,.clo xt [.plit y.c]] mem0=some (B (l.any fun x=>teq x.nm y.nm),m'):=by
 obtain⟨m',h'⟩:=x2ub d [] (y:=y) h hl 0 l 0 NN ⟨[],1⟩ 4 rfl (by rw[x2gs];omega)
 have hi:x2g5 (d+2) [] x61 [a,.clo xt [.plit y.c]] mem0=some (I (x2kk y.nm 0 l),m'):=by
  rw[x1dp]
  unfold xfw xix xdz
  simp[h.len x2h9,mem0]
  exact h'
 have hc:=fun m:Mem=>call0 (m:=m) (call:=x2g5 (d+2)) (l:=[a,.clo xt [.plit y.c]]) (by simp only[List.all_cons,List.all_nil,h.still,Bool.true_and,Bool.and_true];rfl) hi rfl
 rw[x1dh]
 unfold xfo xih
 simp[hc,mem0,<-x2s0 y.nm l 0 (by omega)]
def x2hv(l:List Scene):Nat->List Scene->Int×Int
 |_,[]=>(0,0)
 |k,x::r=>
  bif !(nmOK x.nm)then((k:Int),4)
  else bif(l.take k).any (fun y=>teq y.nm x.nm)then((k:Int),5)
  else bif !(wi x.day 0 100000)||!(wi x.bl (-100000) 100000)then((k:Int),2)
  else x2hv l (k+1) r
def x2hp(l:List Scene):Int×Int:=bif decide (60<l.length)then(0,8)else x2hv l 0 l
theorem x2ud(d:Nat)(u:Nat){a:AV}{l:List Scene}(h:Sl Scene.c a l)(hl:l.length<=60):∀(suf:List Scene) (k j:Nat) (m:Mem) (fc:Nat),l.drop k=suf->suf.length<j ->
 ∃m',x2y (x2g5 (d+3)) [] u j a a (I l.length) (I k) m fc=some (.tup [I (x2hv l k suf).1,I (x2hv l k suf).2],m'):=by
 intro suf
 induction suf with
 |nil=>
  intro k j m fc hd hj
  obtain⟨j,rfl⟩:∃i,j=i+1:=⟨j-1,by simp at hj;omega⟩
  have hk:¬((k:Int)<(l.length:Int)):=by have:=List.drop_eq_nil_iff.mp hd;omega
  simp only[x2y]
  unfold xcv
  simp[hk,x3m,x2hv]
 |cons e r ih=>
  intro k j m fc hd hj
  obtain⟨j,rfl⟩:∃i,j=i+1:=⟨j-1,by simp at hj;omega⟩
  obtain⟨hk,he,hd⟩:=x2je hd
  have hk':(k:Int)<(l.length:Int):=by omega
  have ix:=h.ix Scene.len hk
  have ld:=x2ii (m:=m) Scene.len (by omega) hk
  rw[he]at ld
  obtain⟨a',hpre,hsl⟩:=x2u9 h (k:=k) (by omega) (by rintro rfl;simp at hk)
  have next:∀m fc,∃m',x2y (x2g5 (d+3)) [] u j a a (I l.length) (I ((k:Int)+1)) m fc=some (.tup [I (x2hv l (k+1) r).1,I (x2hv l (k+1) r).2],m'):=fun m fc=>ih (k+1) j m fc hd (by simp at hj;omega)
  simp only[x2y]
  unfold xcv
  simp only[x2ho,hk',decide_true,x2i9,x2go,ix,ld,x2pm,x2pp,x2hv]
  simp[Scene.c,w_isName]
  cases hn:nmOK e.nm with
  |false=>simp
  |true=>
   simp[hsl]
   generalize hm1:Mem.set _ _ _=m1
   have hg:m1.get (u,fc+4,5)=some (.row e.c 0 false):=by rw[<-hm1];simp[Scene.c]
   obtain⟨mc,hcc⟩:=x2uc d (y:=e) hpre (by rw[List.length_take];omega)
   have hfr:[a',AV.clo xt [.ptr (u,fc+4,5) 0 0]].mapM (Go.Ix.frz m1.get deep)=some [a',.clo xt [.plit e.c]]:=by
    have h1:Go.Ix.frz m1.get deep a'=some a':=x2ki _ 4 hpre.still
    have h3:e.c.mapM (Go.Ix.frz m1.get 4)=some e.c:=x2kh fun b hb=>x2mc _ 3 (by
     simp[Scene.c]at hb;rcases hb with rfl|rfl|rfl<;>rfl)
    have h4:Go.Ix.frz m1.get 5 (.ptr (u,fc+4,5) 0 0)=some (.plit e.c):=by
     simp only[Go.Ix.frz,hg,if_true,List.drop_zero,h3];rfl
    have h2:Go.Ix.frz m1.get deep (.clo xt [.ptr (u,fc+4,5) 0 0])=some (.clo xt [.plit e.c]):=by
     show([AV.ptr (u,fc+4,5) 0 0].mapM (Go.Ix.frz m1.get 5)).map (AV.clo xt)=_
     simp only[List.mapM_cons,List.mapM_nil,h4];rfl
    simp only[List.mapM_cons,List.mapM_nil,h1,h2];rfl
   obtain⟨m2,hs2,_,hrow⟩:=x2rz hfr hcc rfl
   obtain⟨b',hg2⟩:=hrow _ _ _ _ hg
   simp only[hs2,x2go]
   cases hany:(l.take k).any fun x=>teq x.nm e.nm with
   |true=>simp
   |false=>
    simp[hg2,Scene.c,x2n5]
    cases hw:wi e.day 0 100000 with
    |false=>simp
    |true=>
     simp(disch:=omega) [hg2,Scene.c,w_small7]
     cases hw2:wi e.bl (-100000) 100000 with
     |false=>simp
     |true=>
      obtain⟨m',h'⟩:=next m2 (fc+31)
      simp
      exact⟨m',h'⟩
theorem x2ue(d:Nat){a:AV}{l:List Scene}(h:Sl Scene.c a l)(m:Mem):x2g3 (x2g5 (d+4)) x38 [a] m=some (.tup [I (x2hp l).1,I (x2hp l).2],m):=by
 obtain⟨m',h'⟩:∃m',x2g5 (d+4) [] x38 [a] mem0=some (.tup [I (x2hp l).1,I (x2hp l).2],m'):=by
  rw[x1d3]
  unfold xf7 xhr xcw x2hp
  by_cases hl:60<l.length
  .simp[h.len x2h9,hl,show(60:Int)<l.length by omega]
  .obtain⟨m',h'⟩:=x2ud d 0 h (by omega) l 0 NN ⟨[],1⟩ 8 rfl (by rw[x2gs];omega)
   simp[h.len x2h9,hl,show ¬((60:Int)<l.length) by omega,mem0]
   exact⟨m',h'⟩
 exact call0_tup (by simp[h.still]) h' rfl
theorem ld_nm{m:Mem}{l:List Scene}{k:Nat}(hk:k<l.length):sLd false 1 (.plit ((l.drop k).flatMap Scene.c)) m=some (T l[k].nm):=by
 rw[x2hf hk,List.flatMap_cons]
 rfl
theorem x2uf(call:x2g1)(hs:FHs)(u:Nat){a:AV}{l:List Scene}(h:Sl Scene.c a l)(hl:l.length<=60){n:Nat}(hn:n<l.length){e:Scene}(id:Id)(rec0:AV->AV->Mem->Nat->O2)(m:Mem)(hg:m.get id=some (.row e.c 0 false)):∀(suf:List Scene) (k j:Nat) (fc:Nat),(l.take n).drop k=suf->suf.length<j ->
 ∃fc',x3e call hs u rec0 j a (I n) (.ptr id 0 0) (I k) m fc=(bif suf.any (fun y=>teq y.nm e.nm)then some (.tup [I n,I 5],m)else x2u call hs u rec0 a (I n) (.ptr id 0 0) m fc'):=by
 intro suf
 induction suf with
 |nil=>
  intro k j fc hd hj
  obtain⟨j,rfl⟩:∃i,j=i+1:=⟨j-1,by simp at hj;omega⟩
  have hk:¬((k:Int)<(n:Int)):=by have:=List.drop_eq_nil_iff.mp hd;rw[List.length_take]at this;omega
  simp only[x3e]
  unfold xc5
  simp[hk]
  exact⟨_,rfl⟩
 |cons x r ih=>
  intro k j fc hd hj
  obtain⟨j,rfl⟩:∃i,j=i+1:=⟨j-1,by simp at hj;omega⟩
  obtain⟨hk,he,hd⟩:=x2je hd
  rw[List.length_take]at hk
  have hk':(k:Int)<(n:Int):=by omega
  have hk2:k<l.length:=by omega
  rw[List.getElem_take]at he
  have ix:=h.ix Scene.len hk2
  have ld:=ld_nm (m:=m) hk2
  rw[he]at ld
  simp only[x3e]
  unfold xc5
  simp only[x2ho,hk',decide_true,x2i9,x2go,ix,sFA_plit,List.drop_zero,ld,List.any_cons]
  simp[hg,Scene.c,t_eq]
  cases ht:teq x.nm e.nm with
  |true=>simp
  |false=>
   obtain⟨fc',h'⟩:=ih (k+1) j (fc+14) hd (by simp at hj;omega)
   simp(disch:=omega) [x2gh]
   exact⟨fc',by simpa using h'⟩
theorem x2ug(d:Nat)(u:Nat){a:AV}{l:List Scene}(h:Sl Scene.c a l)(hl:l.length<=60):∀(suf:List Scene) (k j:Nat) (m:Mem) (fc:Nat),l.drop k=suf->suf.length<j ->
 ∃m',x1w (x2g5 (d+1)) [] u j a (I k) m fc=some (.tup [I (x2hv l k suf).1,I (x2hv l k suf).2],m'):=by
 intro suf
 induction suf with
 |nil=>
  intro k j m fc hd hj
  obtain⟨j,rfl⟩:∃i,j=i+1:=⟨j-1,by simp at hj;omega⟩
  have hk:¬((k:Int)<(l.length:Int)):=by have:=List.drop_eq_nil_iff.mp hd;omega
  simp only[x1w]
  unfold xc7
  simp[h.len x2h9,hk,xh,x2hv]
 |cons e r ih=>
  intro k j m fc hd hj
  obtain⟨j,rfl⟩:∃i,j=i+1:=⟨j-1,by simp at hj;omega⟩
  obtain⟨hk,he,hd⟩:=x2je hd
  have hk':(k:Int)<(l.length:Int):=by omega
  have ix:=h.ix Scene.len hk
  have ld:=x2ii (m:=m) Scene.len (by omega) hk
  rw[he]at ld
  have next:∀m fc,∃m',x1w (x2g5 (d+1)) [] u j a (I ((k:Int)+1)) m fc=some (.tup [I (x2hv l (k+1) r).1,I (x2hv l (k+1) r).2],m'):=fun m fc=>ih (k+1) j m fc hd (by simp at hj;omega)
  simp only[x1w]
  unfold xc7 x7t
  simp only[h.len x2h9,x2ho,hk',decide_true,x2i9,x2go,ix,ld,x2pm,x2pp,x2hv]
  simp[Scene.c,w_IsName]
  cases hn:nmOK e.nm with
  |false=>simp
  |true=>
   simp
   generalize hm1:Mem.set _ _ _=m1
   have hg:m1.get (u,fc+4+4,5)=some (.row e.c 0 false):=by rw[<-hm1];simp[Scene.c]
   unfold xc6
   obtain⟨fc',hL⟩:=x2uf (x2g5 (d+1)) [] u h hl hk (u,fc+4+4,5) (x1w (x2g5 (d+1)) [] u j) m1 hg (l.take k) 0 NN (fc+4+10+1) rfl (by rw[x2gs,List.length_take];omega)
   rw[show(I ((0:Nat):Int))=I 0 from rfl]at hL
   rw[hL]
   cases hany:(l.take k).any fun x=>teq x.nm e.nm with
   |true=>simp
   |false=>
    unfold x2u x13
    simp[hg,Scene.c,x2nv]
    cases hw:wi e.day 0 100000 with
    |false=>simp
    |true=>
     simp(disch:=omega) [hg,Scene.c,x2nv]
     cases hw2:wi e.bl (-100000) 100000 with
     |false=>simp
     |true=>
      simp
      exact next _ _
theorem x2uh(d:Nat){a:AV}{l:List Scene}(h:Sl Scene.c a l)(m:Mem):x2g3 (x2g5 (d+2)) x34 [a] m=some (.tup [I (x2hp l).1,I (x2hp l).2],m):=by
 obtain⟨m',h'⟩:∃m',x2g5 (d+2) [] x34 [a] mem0=some (.tup [I (x2hp l).1,I (x2hp l).2],m'):=by
  rw[x1ct]
  unfold xev xgp xc8 x2hp
  by_cases hl:60<l.length
  .simp[h.len x2h9,hl,show(60:Int)<l.length by omega]
  .obtain⟨m',h'⟩:=x2ug d 0 h (by omega) l 0 NN ⟨[],1⟩ 6 rfl (by rw[x2gs];omega)
   simp[h.len x2h9,hl,show ¬((60:Int)<l.length) by omega,mem0]
   exact⟨m',h'⟩
 exact call0_tup (by simp[h.still]) h' rfl
end Go.Ix
set_option linter.unusedVariables false
namespace Go.Ix
open Go.Proofs
variable{P:Program}
theorem x2k7{α β:Type}(f:α->Sem β):∀s:Sem α,x2g8 P (s >>= f)=(x2g8 P s).bind fun a=>x2g8 P (f a):=by
 intro s
 show x2g8 P (Sem.bind s f)=_
 induction s with
 |pure a=>rfl
 |program k ih=>exact ih P
 |mark x k ih=>exact ih
 |_=>rfl
theorem x2nw{α:Type}(a:α):x2g8 P (pure a:Sem α)=some a:=rfl
theorem x2pq:x2g8 P program=some P:=rfl
theorem x2s1{t:TypeId}{d:TypeDesc}(h:P.underlying t=some d):x2g8 P (underlying t)=some d:=by
 simp only[underlying,x2k7,x2pq,x2go,h]
 rfl
theorem x2ui(d:Nat)(t:TypeId)(xs ys:Array Value)(ht:P.underlying t=some (.struct (P.fieldsOf t)))(hp:P.stoodInHeld t=false) :
 x2g8 P (Op.equalIn (d+1) t (.agg xs) (.agg ys))=x2g8 P (Op.eqFields d xs ys (P.fieldsOf t).toList):=by
 simp only[Op.equalIn,x2k7,x2s1 ht,x2go,x2pq,hp,Bool.false_eq_true,if_false]
 rw[<-Array.forIn_toList]
 generalize (P.fieldsOf t).toList=fs
 clear ht
 induction fs with
 |nil=>simp[Op.eqFields,x2nw]
 |cons f fs ih=>
  simp only[List.forIn_cons,Op.eqFields,x2k7]
  split
  .simp only[x2k7]
   generalize x2g8 P (part f.type xs f.offset)=r1
   cases r1 with
   |none=>rfl
   |some a=>
    generalize hb:x2g8 P (part f.type ys f.offset)=r2
    cases r2 with
    |none=>simp[hb]
    |some b=>
     simp only[hb,x2go]
     generalize x2g8 P (Op.equalIn d f.type a b)=r3
     cases r3 with
     |none=>rfl
     |some r=>
      cases r
      .rfl
      .exact ih
  .exact ih
theorem x2uj(d:Nat)(t:TypeId)(k k':IntKind)(a b:Int)(h:P.underlying t=some (.int k')):x2g8 P (Op.equalIn (d+1) t (.int k a) (.int k b))=some (a == b):=by
 simp[Op.equalIn,x2k7,x2s1 h,x2nw]
theorem x2uk(op:BinOp)(t:TypeId)(x y:Operand)(xs ys:Array Value)(hm:P.eqGuardType P.depth t=false):x2g8 P (eqGuard op t x y (.agg xs) (.agg ys))=some ():=by
 cases op<;>simp[eqGuard,x2k7,x2pq,x2nw,hm]
theorem x2ul{t:TypeId}{x y:Operand}{xs ys:List Value}{r:Bool}(hm:P.eqGuardType P.depth t=false)(hr:x2g8 P (Op.equalIn 10000 t (.agg xs.toArray) (.agg ys.toArray))=some r) :
 ∀kx ky,scs kx=some xs->scs ky=some ys->sBin P .eql t x y (.agg kx) (.agg ky)=some (B r):=by
 intro kx ky h1 h2
 simp only[sBin,x2gl,h1,h2,x2k7,x2uk _ _ _ _ _ _ hm,x2go]
 have:x2g8 P (binOp .eql t (.agg xs.toArray) (.agg ys.toArray))=some (.bool r):=by
  show x2g8 P (do pure (Value.bool (<-Op.equal t (.agg xs.toArray) (.agg ys.toArray))))=_
  simp only[x2k7,Op.equal,Op.maxDepth,hr,x2go,x2nw]
 rw[this];rfl
theorem und_int:Tryz.prog.underlying x2gc=some (.int .i64):=by kernel_rfl
theorem x2s2(d:Nat)(xs ys:Array Value)(ga gb:Nat->Int):∀fs:List Field,(∀f∈fs,f.name≠"_"/\f.type=x2gc/\x2g8 Tryz.prog (part x2gc xs f.offset)=some (.int .i64 (ga f.offset))/\x2g8 Tryz.prog (part x2gc ys f.offset)=some (.int .i64 (gb f.offset))) ->
 x2g8 Tryz.prog (Op.eqFields (d+1) xs ys fs)=some (fs.all fun f=>ga f.offset == gb f.offset)
 |[],_=>rfl
 |f::fs,h=>by
  obtain⟨h1,h2,h3,h4⟩:=h f (List.mem_cons_self ..)
  have ih:=x2s2 d xs ys ga gb fs fun g hg=>h g (List.mem_cons_of_mem _ hg)
  simp only[Op.eqFields,h1,ne_eq,not_false_eq_true,if_true,h2,x2k7,h3,h4,x2go,x2uj _ _ _ _ _ _ und_int,List.all_cons]
  cases ga f.offset == gb f.offset
  .rfl
  .exact ih
theorem eq_ints{t:TypeId}{offs:List Nat}{xs ys:Array Value}{ga gb:Nat->Int}(hS:Tryz.prog.underlying t=some (.struct (Tryz.prog.fieldsOf t)))(hs:Tryz.prog.stoodInHeld t=false)(hF:((Tryz.prog.fieldsOf t).toList.map fun f=>(f.type,f.offset,decide (f.name = "_")))=offs.map fun o=>(x2gc,o,false))(hp:∀o∈offs,x2g8 Tryz.prog (part x2gc xs o)=some (.int .i64 (ga o))/\x2g8 Tryz.prog (part x2gc ys o)=some (.int .i64 (gb o))) :
 x2g8 Tryz.prog (Op.equalIn 10000 t (.agg xs) (.agg ys))=some (offs.all fun o=>ga o == gb o):=by
 rw[show(10000:Nat)=9998+1+1 from rfl,x2ui _ _ _ _ hS hs]
 generalize (Tryz.prog.fieldsOf t).toList=fs at hF
 rw[x2s2 9998 xs ys ga gb fs]
 .have:(fs.map fun f=>f.offset)=offs:=by
   have:=congrArg (List.map fun x:TypeId×Nat×Bool=>x.2.1) hF
   simpa[List.map_map,Function.comp_def]using this
  rw[<-this,List.all_map]
  rfl
 .intro f hf
  have h1:(f.type,f.offset,decide (f.name = "_"))∈offs.map fun o=>(x2gc,o,false):=by
   rw[<-hF];exact List.mem_map_of_mem hf
  obtain⟨o,ho,e⟩:=List.mem_map.mp h1
  simp only[Prod.mk.injEq]at e
  obtain⟨e1,e2,e3⟩:=e
  subst e2
  exact⟨of_decide_eq_false e3.symm,e1.symm,hp _ ho⟩
structure Pq where
 a:Int
 b:Int
def Pq.c(p:Pq):List AV:=[I p.a,I p.b]
theorem Pq.len(p:Pq):p.c.length=2:=rfl
theorem Pq.still(p:Pq):p.c.all still1=true:=rfl
theorem x2it:Tryz.prog.underlying x3=some (.slice xb):=by kernel_rfl
theorem x2nx:xd=[I 0,I 0]:=by kernel_rfl
def Pq.same(p q:Pq):Bool:=decide (p.a=q.a)&&decide (p.b=q.b)
theorem Pq.same_iff{a b:Pq}:a.same b=true↔a=b:=by
 cases a;cases b
 simp[Pq.same]
theorem Pq.same_self(a:Pq):a.same a=true:=Pq.same_iff.2 rfl
theorem part27(w0 w1:Int):∀o∈[0,1],x2g8 Tryz.prog (part x2gc #[.int .i64 w0,.int .i64 w1] o)=some (.int .i64 ([w0,w1].getD o 0)):=by
 intro o ho
 simp only[List.mem_cons,List.not_mem_nil,or_false]at ho
 rcases ho with rfl|rfl<;>kernel_rfl
theorem x2s3(p q:Pq):x2g8 Tryz.prog (Op.equalIn 10000 xb (.agg [.int .i64 p.a,.int .i64 p.b].toArray) (.agg [.int .i64 q.a,.int .i64 q.b].toArray))=some (p.same q):=by
 refine(eq_ints (offs:=[0,1]) (ga:=fun o=>[p.a,p.b].getD o 0) (gb:=fun o=>[q.a,q.b].getD o 0) (by kernel_rfl) (by kernel_rfl) (by kernel_rfl) fun o ho=>⟨part27 _ _ o ho,part27 _ _ o ho⟩).trans ?_
 simp[Pq.same,List.getD]
 by_cases h0:p.a=q.a<;>by_cases h1:p.b=q.b<;>simp[h0,h1]
theorem eq_pair7(x y:Operand)(p q:Pq):sBin Tryz.prog .eql xb x y (.agg p.c) (.agg q.c)=some (B (p.same q)):=
 x2ul (xs:=[.int .i64 p.a,.int .i64 p.b]) (ys:=[.int .i64 q.a,.int .i64 q.b]) (by kernel_rfl) (x2s3 p q) _ _ rfl rfl
def InB(l:List Scene):Prop:=∀s∈l,(0<=s.day/\s.day<=100000)/\(-100000<=s.bl/\s.bl<=100000)
theorem x2s4{l:List Scene}:∀(suf:List Scene) (k:Nat),(x2hv l k suf).2=0->InB suf
 |[],_,_=>fun s h=>by cases h
 |x::r,k,h=>by
  simp only[x2hv]at h
  cases hn:nmOK x.nm with
  |false=>simp[hn]at h
  |true=>
   cases ha:(l.take k).any fun y=>teq y.nm x.nm with
   |true=>simp[hn,ha]at h
   |false=>
    cases hw:wi x.day 0 100000 with
    |false=>simp[hn,ha,hw]at h
    |true=>
     cases hw2:wi x.bl (-100000) 100000 with
     |false=>simp[hn,ha,hw,hw2]at h
     |true=>
      simp[hn,ha,hw,hw2]at h
      have ih:=x2s4 r (k+1) h
      intro s hs
      rcases List.mem_cons.mp hs with rfl|hs
      .exact⟨wi_t hw,wi_t hw2⟩
      .exact ih s hs
theorem x2pr{l:List Scene}(h:(x2hp l).2=0):l.length<=60/\InB l:=by
 unfold x2hp at h
 by_cases hl:60<l.length
 .simp[hl]at h
 .simp[hl]at h
  exact⟨by omega,x2s4 l 0 h⟩
structure Sp where
 p:Int
 s:Int
def Sp.c(x:Sp):List AV:=[I x.p,I x.s]
theorem Sp.len(x:Sp):x.c.length=2:=rfl
theorem Sp.still(x:Sp):x.c.all still1=true:=rfl
def prAt(P:List Pq)(i:Int):Pq:=P.getD i.toNat ⟨0,0⟩
def frS(P:List Pq)(x:Sp):Int:=if x.s<0 then(prAt P x.p).b else(prAt P x.p).a
def toS(P:List Pq)(x:Sp):Int:=if x.s<0 then(prAt P x.p).a else(prAt P x.p).b
def Wk(P:List Pq):List Sp->Int->Int->Prop
 |[],a,b=>a=b
 |x::r,a,b=>frS P x=a/\Wk P r (toS P x) b
variable{P:List Pq}{F:List Int}
theorem Wk.app:∀{v w:List Sp} {a b c:Int},Wk P v a b->Wk P w b c->Wk P (v++w) a c
 |[],_,_,_,_,h,h2=>by cases h;exact h2
 |x::r,_,_,_,_,h,h2=>⟨h.1,h.2.app h2⟩
theorem Wk.split:∀{v w:List Sp} {a c:Int},Wk P (v++w) a c->∃b,Wk P v a b/\Wk P w b c
 |[],_,a,_,h=>⟨a,rfl,h⟩
 |x::r,_,_,_,h=>by
  obtain⟨b,h1,h2⟩:=Wk.split (v:=r) h.2
  exact⟨b,⟨h.1,h1⟩,h2⟩
def InF(F:List Int)(x:Sp):Prop:=x.p∈F/\(x.s=1\/x.s=-1)
def AllF(F:List Int)(w:List Sp):Prop:=∀x∈w,InF F x
theorem AllF.head{x:Sp}{r:List Sp}(h:AllF F (x::r)):InF F x:=h x (List.mem_cons_self ..)
theorem AllF.app{v w:List Sp}(h:AllF F v)(h2:AllF F w):AllF F (v++w):=fun y hy=>by
 rcases List.mem_append.mp hy with hy|hy
 .exact h y hy
 .exact h2 y hy
def Cut(P:List Pq)(F:List Int):Prop:=∀i∈F,∃s:Int->Bool,s (prAt P i).a≠s (prAt P i).b/\∀j∈F,j≠i->s (prAt P j).a=s (prAt P j).b
def NB(P:List Pq):List Sp->Prop
 |[]=>True
 |[_]=>True
 |x::y::r=>toS P y≠frS P x/\NB P (y::r)
theorem x2s5{l k:List Int}(hn:l.Nodup)(h:∀x∈l,x∈k):l.length<=k.length:=by
 induction l generalizing k with
 |nil=>simp
 |cons x r ih=>
  rw[List.nodup_cons]at hn
  have hx:=h x (List.mem_cons_self ..)
  have:=ih (k:=k.erase x) hn.2 fun y hy=>by
   rw[List.mem_erase_of_ne (by rintro rfl;exact hn.1 hy)]
   exact h y (List.mem_cons_of_mem _ hy)
  rw[List.length_erase_of_mem hx]at this
  have h0:0<k.length:=List.length_pos_of_mem hx
  simp only[List.length_cons]
  omega
end Go.Ix
