import Derived.Test.YtpeakdjfagbpcaaGreatWg0
import Derived.Laws.Strings
import Derived.Test.YtpeakdjfagbpcaaGreatFxSound
import Derived.Laws.StructEq
set_option linter.unusedSimpArgs false
namespace Go.Ix
open Go.Proofs
theorem x2lr(d:Nat)(a b c:Int)(m:Mem):x2eg (x2ej (d+1)) xv [I a,I b,I c] m=some (B (wi a b c),m):=by
 refine call0 rfl (m':=⟨[],1⟩) ?_ rfl
 rw[x1cb]
 unfold xew xgt wi
 by_cases h:b<=a<;>by_cases h2:a<=c<;>simp[h,h2,mem0]
theorem w_small7(d:Nat)(a b:Int)(m:Mem)(h:-9223372036854775807<=b/\b<=9223372036854775807):x2eg (x2ej (d+2)) x1p [I a,I b] m=some (B (wi a (-b) b),m):=by
 refine call0 rfl (m':=⟨[],1⟩) ?_ rfl
 rw[x1ce]
 unfold xez xh1
 simp(disch:=omega) [mem0,x2lr,x2f2]
abbrev T(s:ByteArray):AV:=.sc (.string s)
abbrev U8(c:Int):AV:=.sc (.int .u8 c)
def u8E(b:UInt8):List AV:=[U8 b.toNat]
theorem u8E_len(b:UInt8):(u8E b).length=1:=rfl
theorem u8_ge(x y:Operand)(a b:Int):sBin Tryz.prog .geq x8 x y (U8 a) (U8 b)=some (B (decide (b<=a))):=by kernel_rfl
theorem u8_le(x y:Operand)(a b:Int):sBin Tryz.prog .leq x8 x y (U8 a) (U8 b)=some (B (decide (a<=b))):=by kernel_rfl
theorem u8_gt(x y:Operand)(a b:Int):sBin Tryz.prog .gtr x8 x y (U8 a) (U8 b)=some (B (decide (b<a))):=by kernel_rfl
theorem u8_lt(x y:Operand)(a b:Int):sBin Tryz.prog .lss x8 x y (U8 a) (U8 b)=some (B (decide (a<b))):=by kernel_rfl
theorem u8_eq(x y:Operand)(a b:Int):sBin Tryz.prog .eql x8 x y (U8 a) (U8 b)=some (B (decide (a=b))):=by kernel_rfl
theorem u8_ne(x y:Operand)(a b:Int):sBin Tryz.prog .neq x8 x y (U8 a) (U8 b)=some (B (!decide (a=b))):=by kernel_rfl
def teq(a b:ByteArray):Bool:=a.toList == b.toList
theorem t_eq(x y:Operand)(a b:ByteArray):sBin Tryz.prog .eql xg x y (T a) (T b)=some (B (teq a b)):=by kernel_rfl
@[simp] theorem sLenS_T(s:ByteArray):x2i3 (T s)=some (I s.size):=rfl
theorem u_bytes:Tryz.prog.underlying x8k=some (.slice x8):=by kernel_rfl
theorem u_u8:Tryz.prog.underlying x8=some (.int .u8):=by kernel_rfl
theorem u_str:Tryz.prog.underlying xg=some .string:=by kernel_rfl
theorem cvt_bytes(s:ByteArray):sCvt Tryz.prog xg x8k (T s)=some (.slit (s.data.toList.flatMap u8E) s.data.toList.length false):=by
 have e:(s.data.toList.map fun b=>U8 b.toNat)=s.data.toList.flatMap u8E:=by
  induction s.data.toList with
  |nil=>rfl
  |cons b l ih=>rw[List.map_cons,List.flatMap_cons,ih];rfl
 simp only[sCvt,x2ex,x2ki,u_bytes,u_u8,u_str]
 rw[e,x2ge (z:=1) u8E_len s.data.toList,Nat.mul_one]
theorem idx_T{s:ByteArray}{k:Nat}(h:k<s.data.toList.length):sIdx Tryz.prog xg (T s) (I k)=some (U8 (s.data.toList[k]).toNat):=by
 have:x2el Tryz.prog (Instr.index xg (.string s) (.int .i64 k))=some (.int .u8 (s.data.toList[k]).toNat):=by
  have h2:s[k]?=some s.data.toList[k]:=by
   have h3:k<s.size:=by simpa using h
   rw[getElem?_pos s k h3]
   rfl
  simp only[Instr.index,asIntOf,asInt,underlying,program,Bind.bind,Sem.bind,x2el,Pure.pure,u_str]
  rw[if_pos (by omega),Int.toNat_natCast,h2]
  rfl
 have e:sIdx Tryz.prog xg (T s) (I k)=(x2el Tryz.prog (Instr.index xg (.string s) (.int .i64 k))).map x2f1:=by
  simp only[sIdx,I,x2ex]
 rw[e,this]
 rfl
def chOK(p:Bool)(c:Int):Bool:=(decide (97<=c)&&decide (c<=122))||(decide (65<=c)&&decide (c<=90))||(p&&(decide (c=45)||(decide (48<=c)&&decide (c<=57))))
def x2hj:Nat->List UInt8->Bool
 |_,[]=>true
 |k,c::r=>chOK (decide (0<k)) c.toNat&&x2hj (k+1) r
def nmOK(s:ByteArray):Bool:=decide (0<s.size)&&decide (s.size<=12)&&x2hj 0 s.data.toList
theorem ld_u8{m:Mem}{l:List UInt8}{k:Nat}(hk:k<l.length):sLd false 1 (.plit ((l.drop k).flatMap u8E)) m=some (U8 l[k].toNat):=by
 rw[x2fw hk,List.flatMap_cons]
 rfl
theorem l_isName(call:x2ee)(hs:FHs)(u:Nat){a:AV}{l:List UInt8}(h:Sl u8E a l)(hl:l.length<=12):∀(suf:List UInt8) (k j:Nat) (m:Mem) (fc:Nat),l.drop k=suf->suf.length<j ->
 x2t call hs u j a (I l.length) (I k) m fc=some (B (x2hj k suf),m):=by
 intro suf
 induction suf with
 |nil=>
  intro k j m fc hd hj
  obtain⟨j,rfl⟩:∃i,j=i+1:=⟨j-1,by simp at hj;omega⟩
  have hk:¬((k:Int)<(l.length:Int)):=by have:=List.drop_eq_nil_iff.mp hd;omega
  simp only[x2t]
  unfold xdh xt
  simp[hk,x2hj]
 |cons e r ih=>
  intro k j m fc hd hj
  obtain⟨j,rfl⟩:∃i,j=i+1:=⟨j-1,by simp at hj;omega⟩
  obtain⟨hk,he,hd⟩:=x2in hd
  have hk':(k:Int)<(l.length:Int):=by omega
  have ix:=h.ix u8E_len hk
  have ld:=ld_u8 (m:=m) hk
  have next:∀fc,x2t call hs u j a (I l.length) (I (w64 ((k:Int)+1))) m fc=some (B (x2hj (k+1) r),m):=fun fc=>by
   rw[x2f2 (by omega) (by omega)]
   exact ih (k+1) j m fc hd (by simp at hj;omega)
  rw[he]at ld
  have hk0:decide ((0:Int)<(k:Int))=decide (0<k):=by simp
  simp only[x2t]
  unfold xdh x8j x8i x8h xp
  simp only[x2h5,hk',decide_true,x2hi,x2fj,ix,ld,u8_ge,u8_le,u8_eq,sW_t,sW_f]
  simp only[x2hj,chOK]
  generalize (e.toNat:Int)=c
  by_cases a1:97<=c<;>by_cases a2:c<=122<;>by_cases b1:65<=c<;>by_cases b2:c<=90<;>by_cases d1:48<=c<;>by_cases d2:c<=57<;>by_cases d0:c=45 <;>
   first
   |(exfalso;omega)
   |(by_cases hp:0<k<;>simp[a1,a2,b1,b2,d1,d2,d0,hp,u8_ge,u8_le,u8_eq,next])
theorem w_isName(d:Nat)(s:ByteArray)(m:Mem):x2eg (x2ej (d+1)) x5b [T s] m=some (B (nmOK s),m):=by
 refine call0 rfl (m':=⟨[],1⟩) ?_ rfl
 rw[x1co]
 have e0:teq s ⟨#[]⟩=decide (s.size=0):=by
  unfold teq
  rw[ByteArray.toList_eq,ByteArray.toList_eq]
  cases hs:s.data.toList with
  |nil=>
   have:s.size=0:=by show s.data.size=0;rw[<-Array.length_toList,hs];rfl
   simp[this]
  |cons x r=>
   have:s.size=r.length+1:=by show s.data.size=_;rw[<-Array.length_toList,hs];rfl
   simp[this]
 have hsz:s.data.toList.length=s.size:=rfl
 unfold xfc xhl nmOK
 simp only[t_eq,e0,x2fj]
 by_cases h0:s.size=0
 .simp[h0,mem0]
 .by_cases h12:s.size<=12
  .have hL:=l_isName (x2ej d) [] 0 (Sl.lit (enc:=u8E) s.data.toList false) (by omega) s.data.toList 0 NN ⟨[],1⟩ (fc:=12) rfl (by rw[x2fk];omega)
   have hlen:sLen Tryz.prog x8k (.slit (s.data.toList.flatMap u8E) s.data.toList.length false)=some (I s.data.toList.length):=(Sl.lit (enc:=u8E) s.data.toList false).len u_bytes
   unfold xdi
   simp only[cvt_bytes,hlen]
   simp[h0,h12,show ¬((12:Int)<s.size) by omega,show 0<s.size by omega,mem0]
   exact hL
  .simp[h0,h12,show(12:Int)<s.size by omega,mem0]
theorem l_IsName(call:x2ee)(hs:FHs)(u:Nat){s:ByteArray}(hl:s.size<=12):∀(suf:List UInt8) (k j:Nat) (m:Mem) (fc:Nat),s.data.toList.drop k=suf->suf.length<j ->
 x2n call hs u j (T s) (I k) m fc=some (B (x2hj k suf),m):=by
 have hsz:s.data.toList.length=s.size:=rfl
 intro suf
 induction suf with
 |nil=>
  intro k j m fc hd hj
  obtain⟨j,rfl⟩:∃i,j=i+1:=⟨j-1,by simp at hj;omega⟩
  have hk:¬((k:Int)<(s.size:Int)):=by have:=List.drop_eq_nil_iff.mp hd;omega
  simp only[x2n]
  unfold xcq x3e
  simp[hk,x2hj]
 |cons e r ih=>
  intro k j m fc hd hj
  obtain⟨j,rfl⟩:∃i,j=i+1:=⟨j-1,by simp at hj;omega⟩
  obtain⟨hk,he,hd⟩:=x2in hd
  have hk':(k:Int)<(s.size:Int):=by omega
  have ix:=idx_T hk
  have next:∀fc,x2n call hs u j (T s) (I (w64 ((k:Int)+1))) m fc=some (B (x2hj (k+1) r),m):=fun fc=>by
   rw[x2f2 (by omega) (by omega)]
   exact ih (k+1) j m fc hd (by simp at hj;omega)
  rw[he]at ix
  simp only[x2n]
  unfold xcq
  simp only[sLenS_T,x2fj,x2h5,hk',decide_true,x2hi,ix,u8_ge]
  simp only[x2hj,chOK]
  generalize (e.toNat:Int)=c
  by_cases a1:97<=c<;>by_cases a2:c<=122<;>by_cases b1:65<=c<;>by_cases b2:c<=90<;>by_cases d1:c<48<;>by_cases d2:57<c<;>by_cases d0:c=45 <;>
   first
   |(exfalso;omega)
   |(have d1':(48<=c)=¬(c<48):=by rw[Int.not_lt]
     have d2':(c<=57)=¬(57<c):=by rw[Int.not_lt]
     by_cases hp:k=0<;>simp[a1,a2,b1,b2,d1,d2,d1',d2',d0,hp,Nat.pos_iff_ne_zero,u8_ge,u8_le,u8_eq,u8_ne,u8_lt,u8_gt,next]<;>(subst hp;have:=next (fc+44);simpa using this))
theorem w_IsName(d:Nat)(s:ByteArray)(m:Mem):x2eg (x2ej (d+1)) x58 [T s] m=some (B (nmOK s),m):=by
 refine call0 rfl (m':=⟨[],1⟩) ?_ rfl
 rw[x1cf]
 have hsz:s.data.toList.length=s.size:=rfl
 unfold xf0 xh2 nmOK
 by_cases h0:s.size=0
 .simp[h0,mem0]
 .by_cases h12:s.size<=12
  .have hL:=l_IsName (x2ej d) [] 0 (s:=s) h12 s.data.toList 0 NN ⟨[],1⟩ (fc:=10) rfl (by rw[x2fk];omega)
   unfold xcr
   simp[h0,h12,show ¬((12:Int)<s.size) by omega,show ¬((s.size:Int)<1) by omega,show 0<s.size by omega,mem0]
   exact hL
  .simp[h0,h12,show(12:Int)<s.size by omega,show ¬((s.size:Int)<1) by omega,mem0]
theorem x2rd{i j:Id}{cs:List AV}{v:Nat}:∀{h:Hp} {b:Bool},hget h i=some (.row cs v b)->∃b',hget (shut1 h j) i=some (.row cs v b'):=by
 intro h b hi
 have:=congrFun (x2mx [j] h) i
 rw[show x2i5 [j] h=shut1 h j from rfl]at this
 rw[this]
 unfold shut
 split
 .rw[hi];exact⟨_,rfl⟩
 .exact⟨b,hi⟩
theorem x2pb{i:Id}{cs:List AV}{v:Nat}:∀(ids:List Id) {h:Hp} {b:Bool},hget h i=some (.row cs v b)->∃b',hget (x2i5 ids h) i=some (.row cs v b')
 |[],h,b,hi=>⟨b,hi⟩
 |j::r,h,b,hi=>by
  obtain⟨b',h'⟩:=x2rd (j:=j) hi
  exact x2pb r h'
theorem x2re{call:x2ee}{f:FuncId}{l l':List AV}{m m':Mem}{r r':AV}(hl:l.mapM (Go.Ix.frz m.get deep)=some l')(h:call [] f l' mem0=some (r,m'))(hr:Go.Ix.frz m'.get deep r=some r') :
 ∃m2:Mem,x2eg call f l m=some (r',m2)/\m2.next=m.next/\∀i cs v b,m.get i=some (.row cs v b)->∃b',m2.get i=some (.row cs v b'):=by
 refine⟨⟨x2i5 (l.flatMap (x2en m.get deep)) m.hp,m.next⟩,?_,rfl,fun i cs v b hi=>x2pb _ hi⟩
 unfold x2eg
 rw[hl]
 simp only[h,hr]
 rfl
structure Scene where
 nm:ByteArray
 day:Int
 bl:Int
def Scene.c(s:Scene):List AV:=[T s.nm,I s.day,I s.bl]
theorem Scene.len(s:Scene):s.c.length=3:=rfl
theorem x2fo:Tryz.prog.underlying x2=some (.slice x55):=by kernel_rfl
theorem x2rf:∃i,Tryz.prog.info? x55=some i/\i.size=3:=by
 have:(Tryz.prog.info? x55).map (·.size)=some 3:=by kernel_rfl
 rw[Option.map_eq_some_iff]at this
 exact this
theorem z_scene:xr=[T ⟨#[]⟩,I 0,I 0]:=by kernel_rfl
@[simp] theorem cells_T(s:ByteArray):(T s).cells=[T s]:=rfl
@[simp] theorem one_T(s:ByteArray):(T s).one=true:=rfl
theorem x2rg{a:AV}{l:List Scene}(h:Sl Scene.c a l){k:Nat}(hk:k<=l.length)(h0:l≠[]):∃a',Sl Scene.c a' (l.take k)/\x2i2 Tryz.prog x2 a none (some (I k))=some a':=by
 rcases h with ⟨_,rfl⟩|⟨x,rfl⟩
 .exact absurd rfl h0
 obtain⟨i,hi,hs⟩:=x2rf
 have hl:=x2ge Scene.len l
 refine⟨.slit ((l.take k).flatMap Scene.c) (l.take k).length (x&&decide ((k:Int)=(l.length:Int))),Sl.lit _ _,?_⟩
 have e1:x2ex (.slit (l.flatMap Scene.c) l.length x)=none:=_root_.id rfl
 have e2:asI (I (k:Int))=some (k:Int):=rfl
 have e3:asI (I 0)=some 0:=rfl
 unfold x2i2
 simp only[e1,x2fo,hi,Option.getD_some,Option.getD_none,e2,e3,hs,Int.sub_zero,Int.toNat_natCast,Int.toNat_zero,Nat.zero_mul,List.drop_zero]
 rw[if_pos ⟨by omega,by omega,by omega,by omega⟩,List.length_take,Nat.min_eq_left hk]
 have ht:∀(l:List Scene) (k:Nat),(l.flatMap Scene.c).take (k*3)=(l.take k).flatMap Scene.c:=by
  intro l
  induction l with
  |nil=>intro k;simp
  |cons x r ih=>
   intro k
   cases k with
   |zero=>simp
   |succ k=>
    rw[List.flatMap_cons,List.take_succ_cons,List.flatMap_cons,Nat.succ_mul,show k*3+3=x.c.length+k*3 by rw[Scene.len];omega,List.take_length_add_append,ih]
 rw[ht]
def x2iq(nm:ByteArray):Int->List Scene->Int
 |_,[]=>-1
 |k,x::r=>bif teq x.nm nm then k else x2iq nm (k+1) r
theorem x2pc(nm:ByteArray):∀(l:List Scene) (k:Int),0<=k->decide (0<=x2iq nm k l)=l.any fun y=>teq y.nm nm
 |[],k,_=>by simp[x2iq]
 |x::r,k,hk=>by
  rw[x2iq,List.any_cons]
  cases teq x.nm nm with
  |true=>simp[hk]
  |false=>simpa using x2pc nm r (k+1) (by omega)
theorem x2rh(d:Nat)(hs:FHs)(x y:Scene)(m:Mem):∃m',x2ej (d+1) hs xq [.agg x.c,.plit y.c] m=some (B (teq x.nm y.nm),m'):=by
 rw[x1cq]
 unfold xfe xhn
 simp[Scene.c,t_eq]
theorem x2ri(d:Nat)(hs:FHs){a:AV}{l:List Scene}{y:Scene}(h:Sl Scene.c a l)(hl:l.length<1000000)(u:Nat):∀(suf:List Scene) (k j:Nat) (m:Mem) (fc:Nat),l.drop k=suf->suf.length<j ->
 ∃m',x3o (x2ej (d+1)) hs u j a (.clo xq [.plit y.c]) (I l.length) (I k) m fc=some (I (x2iq y.nm k suf),m'):=by
 intro suf
 induction suf with
 |nil=>
  intro k j m fc hd hj
  obtain⟨j,rfl⟩:∃i,j=i+1:=⟨j-1,by simp at hj;omega⟩
  have hk:¬((k:Int)<(l.length:Int)):=by have:=List.drop_eq_nil_iff.mp hd;omega
  simp only[x3o]
  unfold xdo
  simp[hk,x3n,x2iq]
 |cons e r ih=>
  intro k j m fc hd hj
  obtain⟨j,rfl⟩:∃i,j=i+1:=⟨j-1,by simp at hj;omega⟩
  obtain⟨hk,he,hd⟩:=x2in hd
  have hk':(k:Int)<(l.length:Int):=by omega
  have ix:=h.ix Scene.len hk
  have ld:=x2i8 (m:=m) Scene.len (by omega) hk
  rw[he]at ld
  obtain⟨m1,hc⟩:=x2rh d hs e y m
  have hinv:x2fn (x2ej (d+1)) hs 2 (.clo xq [.plit y.c]) [.agg e.c] m=some (B (teq e.nm y.nm),m1):=hc
  simp only[x3o]
  unfold xdo
  simp only[x2h5,hk',decide_true,x2hi,x2fj,ix,ld,hinv,x2iq]
  cases ht:teq e.nm y.nm with
  |true=>simp
  |false=>
   obtain⟨m',h'⟩:=ih (k+1) j m1 (fc+11) hd (by simp at hj;omega)
   simp(disch:=omega) [x2f2]
   exact⟨m',by simpa using h'⟩
theorem x2rj(d:Nat){a:AV}{l:List Scene}{y:Scene}(h:Sl Scene.c a l)(hl:l.length<1000000) :
 ∃m',x2ej (d+3) [] x5c [a,.clo xq [.plit y.c]] mem0=some (B (l.any fun x=>teq x.nm y.nm),m'):=by
 obtain⟨m',h'⟩:=x2ri d [] (y:=y) h hl 0 l 0 NN ⟨[],1⟩ 4 rfl (by rw[x2fk];omega)
 have hi:x2ej (d+2) [] x5g [a,.clo xq [.plit y.c]] mem0=some (I (x2iq y.nm 0 l),m'):=by
  rw[x1cs]
  unfold xfg xhy xdp
  simp[h.len x2fo,mem0]
  exact h'
 have hc:=fun m:Mem=>call0 (m:=m) (call:=x2ej (d+2)) (l:=[a,.clo xq [.plit y.c]]) (by simp only[List.all_cons,List.all_nil,h.still,Bool.true_and,Bool.and_true];rfl) hi rfl
 rw[x1cp]
 unfold xfd xhm
 simp[hc,mem0,<-x2pc y.nm l 0 (by omega)]
def x2g2(l:List Scene):Nat->List Scene->Int×Int
 |_,[]=>(0,0)
 |k,x::r=>
  bif !(nmOK x.nm)then((k:Int),4)
  else bif(l.take k).any (fun y=>teq y.nm x.nm)then((k:Int),5)
  else bif !(wi x.day 0 100000)||!(wi x.bl (-100000) 100000)then((k:Int),2)
  else x2g2 l (k+1) r
def x2fx(l:List Scene):Int×Int:=bif decide (60<l.length)then(0,8)else x2g2 l 0 l
theorem x2rk(d:Nat)(u:Nat){a:AV}{l:List Scene}(h:Sl Scene.c a l)(hl:l.length<=60):∀(suf:List Scene) (k j:Nat) (m:Mem) (fc:Nat),l.drop k=suf->suf.length<j ->
 ∃m',x2m (x2ej (d+3)) [] u j a a (I l.length) (I k) m fc=some (.tup [I (x2g2 l k suf).1,I (x2g2 l k suf).2],m'):=by
 intro suf
 induction suf with
 |nil=>
  intro k j m fc hd hj
  obtain⟨j,rfl⟩:∃i,j=i+1:=⟨j-1,by simp at hj;omega⟩
  have hk:¬((k:Int)<(l.length:Int)):=by have:=List.drop_eq_nil_iff.mp hd;omega
  simp only[x2m]
  unfold xco
  simp[hk,x3d,x2g2]
 |cons e r ih=>
  intro k j m fc hd hj
  obtain⟨j,rfl⟩:∃i,j=i+1:=⟨j-1,by simp at hj;omega⟩
  obtain⟨hk,he,hd⟩:=x2in hd
  have hk':(k:Int)<(l.length:Int):=by omega
  have ix:=h.ix Scene.len hk
  have ld:=x2i8 (m:=m) Scene.len (by omega) hk
  rw[he]at ld
  obtain⟨a',hpre,hsl⟩:=x2rg h (k:=k) (by omega) (by rintro rfl;simp at hk)
  have next:∀m fc,∃m',x2m (x2ej (d+3)) [] u j a a (I l.length) (I ((k:Int)+1)) m fc=some (.tup [I (x2g2 l (k+1) r).1,I (x2g2 l (k+1) r).2],m'):=fun m fc=>ih (k+1) j m fc hd (by simp at hj;omega)
  simp only[x2m]
  unfold xco
  simp only[x2h5,hk',decide_true,x2hi,x2fj,ix,ld,x2n8,z_scene,x2g2]
  simp[Scene.c,w_isName]
  cases hn:nmOK e.nm with
  |false=>simp
  |true=>
   simp[hsl]
   generalize hm1:Mem.set _ _ _=m1
   have hg:m1.get (u,fc+4,5)=some (.row e.c 0 false):=by rw[<-hm1];simp[Scene.c]
   obtain⟨mc,hcc⟩:=x2rj d (y:=e) hpre (by rw[List.length_take];omega)
   have hfr:[a',AV.clo xq [.ptr (u,fc+4,5) 0 0]].mapM (Go.Ix.frz m1.get deep)=some [a',.clo xq [.plit e.c]]:=by
    have h1:Go.Ix.frz m1.get deep a'=some a':=x2j7 _ 4 hpre.still
    have h3:e.c.mapM (Go.Ix.frz m1.get 4)=some e.c:=x2im fun b hb=>x2ka _ 3 (by
     simp[Scene.c]at hb;rcases hb with rfl|rfl|rfl<;>rfl)
    have h4:Go.Ix.frz m1.get 5 (.ptr (u,fc+4,5) 0 0)=some (.plit e.c):=by
     simp only[Go.Ix.frz,hg,if_true,List.drop_zero,h3];rfl
    have h2:Go.Ix.frz m1.get deep (.clo xq [.ptr (u,fc+4,5) 0 0])=some (.clo xq [.plit e.c]):=by
     show([AV.ptr (u,fc+4,5) 0 0].mapM (Go.Ix.frz m1.get 5)).map (AV.clo xq)=_
     simp only[List.mapM_cons,List.mapM_nil,h4];rfl
    simp only[List.mapM_cons,List.mapM_nil,h1,h2];rfl
   obtain⟨m2,hs2,_,hrow⟩:=x2re hfr hcc rfl
   obtain⟨b',hg2⟩:=hrow _ _ _ _ hg
   simp only[hs2,x2fj]
   cases hany:(l.take k).any fun x=>teq x.nm e.nm with
   |true=>simp
   |false=>
    simp[hg2,Scene.c,x2lr]
    cases hw:wi e.day 0 100000 with
    |false=>simp
    |true=>
     simp(disch:=omega) [hg2,Scene.c,w_small7]
     cases hw2:wi e.bl (-100000) 100000 with
     |false=>simp
     |true=>
      obtain⟨m',h'⟩:=next m2 (fc+31)
      simp
      exact⟨m',h'⟩
theorem x2rl(d:Nat){a:AV}{l:List Scene}(h:Sl Scene.c a l)(m:Mem):x2eg (x2ej (d+4)) x30 [a] m=some (.tup [I (x2fx l).1,I (x2fx l).2],m):=by
 obtain⟨m',h'⟩:∃m',x2ej (d+4) [] x30 [a] mem0=some (.tup [I (x2fx l).1,I (x2fx l).2],m'):=by
  rw[x1cd]
  unfold xey xh0 xcp x2fx
  by_cases hl:60<l.length
  .simp[h.len x2fo,hl,show(60:Int)<l.length by omega]
  .obtain⟨m',h'⟩:=x2rk d 0 h (by omega) l 0 NN ⟨[],1⟩ 8 rfl (by rw[x2fk];omega)
   simp[h.len x2fo,hl,show ¬((60:Int)<l.length) by omega,mem0]
   exact⟨m',h'⟩
 exact call0_tup (by simp[h.still]) h' rfl
theorem ld_nm{m:Mem}{l:List Scene}{k:Nat}(hk:k<l.length):sLd false 1 (.plit ((l.drop k).flatMap Scene.c)) m=some (T l[k].nm):=by
 rw[x2fw hk,List.flatMap_cons]
 rfl
theorem x2rm(call:x2ee)(hs:FHs)(u:Nat){a:AV}{l:List Scene}(h:Sl Scene.c a l)(hl:l.length<=60){n:Nat}(hn:n<l.length){e:Scene}(id:Id)(rec0:AV->AV->Mem->Nat->O2)(m:Mem)(hg:m.get id=some (.row e.c 0 false)):∀(suf:List Scene) (k j:Nat) (fc:Nat),(l.take n).drop k=suf->suf.length<j ->
 ∃fc',x36 call hs u rec0 j a (I n) (.ptr id 0 0) (I k) m fc=(bif suf.any (fun y=>teq y.nm e.nm)then some (.tup [I n,I 5],m)else x2j call hs u rec0 a (I n) (.ptr id 0 0) m fc'):=by
 intro suf
 induction suf with
 |nil=>
  intro k j fc hd hj
  obtain⟨j,rfl⟩:∃i,j=i+1:=⟨j-1,by simp at hj;omega⟩
  have hk:¬((k:Int)<(n:Int)):=by have:=List.drop_eq_nil_iff.mp hd;rw[List.length_take]at this;omega
  simp only[x36]
  unfold xby
  simp[hk]
  exact⟨_,rfl⟩
 |cons x r ih=>
  intro k j fc hd hj
  obtain⟨j,rfl⟩:∃i,j=i+1:=⟨j-1,by simp at hj;omega⟩
  obtain⟨hk,he,hd⟩:=x2in hd
  rw[List.length_take]at hk
  have hk':(k:Int)<(n:Int):=by omega
  have hk2:k<l.length:=by omega
  rw[List.getElem_take]at he
  have ix:=h.ix Scene.len hk2
  have ld:=ld_nm (m:=m) hk2
  rw[he]at ld
  simp only[x36]
  unfold xby
  simp only[x2h5,hk',decide_true,x2hi,x2fj,ix,sFA_plit,List.drop_zero,ld,List.any_cons]
  simp[hg,Scene.c,t_eq]
  cases ht:teq x.nm e.nm with
  |true=>simp
  |false=>
   obtain⟨fc',h'⟩:=ih (k+1) j (fc+14) hd (by simp at hj;omega)
   simp(disch:=omega) [x2f2]
   exact⟨fc',by simpa using h'⟩
theorem x2rn(d:Nat)(u:Nat){a:AV}{l:List Scene}(h:Sl Scene.c a l)(hl:l.length<=60):∀(suf:List Scene) (k j:Nat) (m:Mem) (fc:Nat),l.drop k=suf->suf.length<j ->
 ∃m',x1u (x2ej (d+1)) [] u j a (I k) m fc=some (.tup [I (x2g2 l k suf).1,I (x2g2 l k suf).2],m'):=by
 intro suf
 induction suf with
 |nil=>
  intro k j m fc hd hj
  obtain⟨j,rfl⟩:∃i,j=i+1:=⟨j-1,by simp at hj;omega⟩
  have hk:¬((k:Int)<(l.length:Int)):=by have:=List.drop_eq_nil_iff.mp hd;omega
  simp only[x1u]
  unfold xc0
  simp[h.len x2fo,hk,xf,x2g2]
 |cons e r ih=>
  intro k j m fc hd hj
  obtain⟨j,rfl⟩:∃i,j=i+1:=⟨j-1,by simp at hj;omega⟩
  obtain⟨hk,he,hd⟩:=x2in hd
  have hk':(k:Int)<(l.length:Int):=by omega
  have ix:=h.ix Scene.len hk
  have ld:=x2i8 (m:=m) Scene.len (by omega) hk
  rw[he]at ld
  have next:∀m fc,∃m',x1u (x2ej (d+1)) [] u j a (I ((k:Int)+1)) m fc=some (.tup [I (x2g2 l (k+1) r).1,I (x2g2 l (k+1) r).2],m'):=fun m fc=>ih (k+1) j m fc hd (by simp at hj;omega)
  simp only[x1u]
  unfold xc0 x7d
  simp only[h.len x2fo,x2h5,hk',decide_true,x2hi,x2fj,ix,ld,x2n8,z_scene,x2g2]
  simp[Scene.c,w_IsName]
  cases hn:nmOK e.nm with
  |false=>simp
  |true=>
   simp
   generalize hm1:Mem.set _ _ _=m1
   have hg:m1.get (u,fc+4+4,5)=some (.row e.c 0 false):=by rw[<-hm1];simp[Scene.c]
   unfold xbz
   obtain⟨fc',hL⟩:=x2rm (x2ej (d+1)) [] u h hl hk (u,fc+4+4,5) (x1u (x2ej (d+1)) [] u j) m1 hg (l.take k) 0 NN (fc+4+10+1) rfl (by rw[x2fk,List.length_take];omega)
   rw[show(I ((0:Nat):Int))=I 0 from rfl]at hL
   rw[hL]
   cases hany:(l.take k).any fun x=>teq x.nm e.nm with
   |true=>simp
   |false=>
    unfold x2j x10
    simp[hg,Scene.c,x2lq]
    cases hw:wi e.day 0 100000 with
    |false=>simp
    |true=>
     simp(disch:=omega) [hg,Scene.c,x2lq]
     cases hw2:wi e.bl (-100000) 100000 with
     |false=>simp
     |true=>
      simp
      exact next _ _
theorem x2ro(d:Nat){a:AV}{l:List Scene}(h:Sl Scene.c a l)(m:Mem):x2eg (x2ej (d+2)) x2x [a] m=some (.tup [I (x2fx l).1,I (x2fx l).2],m):=by
 obtain⟨m',h'⟩:∃m',x2ej (d+2) [] x2x [a] mem0=some (.tup [I (x2fx l).1,I (x2fx l).2],m'):=by
  rw[x1c3]
  unfold xej xg0 xc1 x2fx
  by_cases hl:60<l.length
  .simp[h.len x2fo,hl,show(60:Int)<l.length by omega]
  .obtain⟨m',h'⟩:=x2rn d 0 h (by omega) l 0 NN ⟨[],1⟩ 6 rfl (by rw[x2fk];omega)
   simp[h.len x2fo,hl,show ¬((60:Int)<l.length) by omega,mem0]
   exact⟨m',h'⟩
 exact call0_tup (by simp[h.still]) h' rfl
end Go.Ix
set_option linter.unusedVariables false
namespace Go.Ix
open Go.Proofs
variable{P:Program}
theorem x2ia{α β:Type}(f:α->Sem β):∀s:Sem α,x2el P (s >>= f)=(x2el P s).bind fun a=>x2el P (f a):=by
 intro s
 show x2el P (Sem.bind s f)=_
 induction s with
 |pure a=>rfl
 |program k ih=>exact ih P
 |mark x k ih=>exact ih
 |_=>rfl
theorem x2ls{α:Type}(a:α):x2el P (pure a:Sem α)=some a:=rfl
theorem x2nb:x2el P program=some P:=rfl
theorem x2pd{t:TypeId}{d:TypeDesc}(h:P.underlying t=some d):x2el P (underlying t)=some d:=by
 simp only[underlying,x2ia,x2nb,x2fj,h]
 rfl
theorem x2rp(d:Nat)(t:TypeId)(xs ys:Array Value)(ht:P.underlying t=some (.struct (P.fieldsOf t)))(hp:P.stoodInHeld t=false) :
 x2el P (Op.equalIn (d+1) t (.agg xs) (.agg ys))=x2el P (Op.eqFields d xs ys (P.fieldsOf t).toList):=by
 simp only[Op.equalIn,x2ia,x2pd ht,x2fj,x2nb,hp,Bool.false_eq_true,if_false]
 rw[<-Array.forIn_toList]
 generalize (P.fieldsOf t).toList=fs
 clear ht
 induction fs with
 |nil=>simp[Op.eqFields,x2ls]
 |cons f fs ih=>
  simp only[List.forIn_cons,Op.eqFields,x2ia]
  split
  .simp only[x2ia]
   generalize x2el P (part f.type xs f.offset)=r1
   cases r1 with
   |none=>rfl
   |some a=>
    generalize hb:x2el P (part f.type ys f.offset)=r2
    cases r2 with
    |none=>simp[hb]
    |some b=>
     simp only[hb,x2fj]
     generalize x2el P (Op.equalIn d f.type a b)=r3
     cases r3 with
     |none=>rfl
     |some r=>
      cases r
      .rfl
      .exact ih
  .exact ih
theorem x2rq(d:Nat)(t:TypeId)(k k':IntKind)(a b:Int)(h:P.underlying t=some (.int k')):x2el P (Op.equalIn (d+1) t (.int k a) (.int k b))=some (a == b):=by
 simp[Op.equalIn,x2ia,x2pd h,x2ls]
theorem x2rr(op:BinOp)(t:TypeId)(x y:Operand)(xs ys:Array Value)(hm:P.eqGuardType P.depth t=false):x2el P (eqGuard op t x y (.agg xs) (.agg ys))=some ():=by
 cases op<;>simp[eqGuard,x2ia,x2nb,x2ls,hm]
theorem x2rs{t:TypeId}{x y:Operand}{xs ys:List Value}{r:Bool}(hm:P.eqGuardType P.depth t=false)(hr:x2el P (Op.equalIn 10000 t (.agg xs.toArray) (.agg ys.toArray))=some r) :
 ∀kx ky,scs kx=some xs->scs ky=some ys->sBin P .eql t x y (.agg kx) (.agg ky)=some (B r):=by
 intro kx ky h1 h2
 simp only[sBin,x2ex,h1,h2,x2ia,x2rr _ _ _ _ _ _ hm,x2fj]
 have:x2el P (binOp .eql t (.agg xs.toArray) (.agg ys.toArray))=some (.bool r):=by
  show x2el P (do pure (Value.bool (<-Op.equal t (.agg xs.toArray) (.agg ys.toArray))))=_
  simp only[x2ia,Op.equal,Op.maxDepth,hr,x2fj,x2ls]
 rw[this];rfl
theorem und_int:Tryz.prog.underlying x2es=some (.int .i64):=by kernel_rfl
theorem x2pe(d:Nat)(xs ys:Array Value)(ga gb:Nat->Int):∀fs:List Field,(∀f∈fs,f.name≠"_"/\f.type=x2es/\x2el Tryz.prog (part x2es xs f.offset)=some (.int .i64 (ga f.offset))/\x2el Tryz.prog (part x2es ys f.offset)=some (.int .i64 (gb f.offset))) ->
 x2el Tryz.prog (Op.eqFields (d+1) xs ys fs)=some (fs.all fun f=>ga f.offset == gb f.offset)
 |[],_=>rfl
 |f::fs,h=>by
  obtain⟨h1,h2,h3,h4⟩:=h f (List.mem_cons_self ..)
  have ih:=x2pe d xs ys ga gb fs fun g hg=>h g (List.mem_cons_of_mem _ hg)
  simp only[Op.eqFields,h1,ne_eq,not_false_eq_true,if_true,h2,x2ia,h3,h4,x2fj,x2rq _ _ _ _ _ _ und_int,List.all_cons]
  cases ga f.offset == gb f.offset
  .rfl
  .exact ih
theorem eq_ints{t:TypeId}{offs:List Nat}{xs ys:Array Value}{ga gb:Nat->Int}(hS:Tryz.prog.underlying t=some (.struct (Tryz.prog.fieldsOf t)))(hs:Tryz.prog.stoodInHeld t=false)(hF:((Tryz.prog.fieldsOf t).toList.map fun f=>(f.type,f.offset,decide (f.name = "_")))=offs.map fun o=>(x2es,o,false))(hp:∀o∈offs,x2el Tryz.prog (part x2es xs o)=some (.int .i64 (ga o))/\x2el Tryz.prog (part x2es ys o)=some (.int .i64 (gb o))) :
 x2el Tryz.prog (Op.equalIn 10000 t (.agg xs) (.agg ys))=some (offs.all fun o=>ga o == gb o):=by
 rw[show(10000:Nat)=9998+1+1 from rfl,x2rp _ _ _ _ hS hs]
 generalize (Tryz.prog.fieldsOf t).toList=fs at hF
 rw[x2pe 9998 xs ys ga gb fs]
 .have:(fs.map fun f=>f.offset)=offs:=by
   have:=congrArg (List.map fun x:TypeId×Nat×Bool=>x.2.1) hF
   simpa[List.map_map,Function.comp_def]using this
  rw[<-this,List.all_map]
  rfl
 .intro f hf
  have h1:(f.type,f.offset,decide (f.name = "_"))∈offs.map fun o=>(x2es,o,false):=by
   rw[<-hF];exact List.mem_map_of_mem hf
  obtain⟨o,ho,e⟩:=List.mem_map.mp h1
  simp only[Prod.mk.injEq]at e
  obtain⟨e1,e2,e3⟩:=e
  subst e2
  exact⟨of_decide_eq_false e3.symm,e1.symm,hp _ ho⟩
structure Pq where
 a:Int
 b:Int
def Pq.c(p:Pq):List AV:=[I p.a,I p.b]
theorem Pq.len(p:Pq):p.c.length=2:=rfl
theorem Pq.still(p:Pq):p.c.all still1=true:=rfl
theorem x2ga:Tryz.prog.underlying x1=some (.slice x9):=by kernel_rfl
theorem x2l1:xb=[I 0,I 0]:=by kernel_rfl
def Pq.same(p q:Pq):Bool:=decide (p.a=q.a)&&decide (p.b=q.b)
theorem Pq.same_iff{a b:Pq}:a.same b=true↔a=b:=by
 cases a;cases b
 simp[Pq.same]
theorem Pq.same_self(a:Pq):a.same a=true:=Pq.same_iff.2 rfl
theorem part27(w0 w1:Int):∀o∈[0,1],x2el Tryz.prog (part x2es #[.int .i64 w0,.int .i64 w1] o)=some (.int .i64 ([w0,w1].getD o 0)):=by
 intro o ho
 simp only[List.mem_cons,List.not_mem_nil,or_false]at ho
 rcases ho with rfl|rfl<;>kernel_rfl
theorem x2pf(p q:Pq):x2el Tryz.prog (Op.equalIn 10000 x9 (.agg [.int .i64 p.a,.int .i64 p.b].toArray) (.agg [.int .i64 q.a,.int .i64 q.b].toArray))=some (p.same q):=by
 refine(eq_ints (offs:=[0,1]) (ga:=fun o=>[p.a,p.b].getD o 0) (gb:=fun o=>[q.a,q.b].getD o 0) (by kernel_rfl) (by kernel_rfl) (by kernel_rfl) fun o ho=>⟨part27 _ _ o ho,part27 _ _ o ho⟩).trans ?_
 simp[Pq.same,List.getD]
 by_cases h0:p.a=q.a<;>by_cases h1:p.b=q.b<;>simp[h0,h1]
theorem eq_pair7(x y:Operand)(p q:Pq):sBin Tryz.prog .eql x9 x y (.agg p.c) (.agg q.c)=some (B (p.same q)):=
 x2rs (xs:=[.int .i64 p.a,.int .i64 p.b]) (ys:=[.int .i64 q.a,.int .i64 q.b]) (by kernel_rfl) (x2pf p q) _ _ rfl rfl
def InB(l:List Scene):Prop:=∀s∈l,(0<=s.day/\s.day<=100000)/\(-100000<=s.bl/\s.bl<=100000)
theorem x2pg{l:List Scene}:∀(suf:List Scene) (k:Nat),(x2g2 l k suf).2=0->InB suf
 |[],_,_=>fun s h=>by cases h
 |x::r,k,h=>by
  simp only[x2g2]at h
  cases hn:nmOK x.nm with
  |false=>simp[hn]at h
  |true=>
   cases ha:(l.take k).any fun y=>teq y.nm x.nm with
   |true=>simp[hn,ha]at h
   |false=>
    cases hw:wi x.day 0 100000 with
    |false=>simp[hn,ha,hw]at h
    |true=>
     cases hw2:wi x.bl (-100000) 100000 with
     |false=>simp[hn,ha,hw,hw2]at h
     |true=>
      simp[hn,ha,hw,hw2]at h
      have ih:=x2pg r (k+1) h
      intro s hs
      rcases List.mem_cons.mp hs with rfl|hs
      .exact⟨wi_t hw,wi_t hw2⟩
      .exact ih s hs
theorem x2nc{l:List Scene}(h:(x2fx l).2=0):l.length<=60/\InB l:=by
 unfold x2fx at h
 by_cases hl:60<l.length
 .simp[hl]at h
 .simp[hl]at h
  exact⟨by omega,x2pg l 0 h⟩
structure Sp where
 p:Int
 s:Int
def Sp.c(x:Sp):List AV:=[I x.p,I x.s]
theorem Sp.len(x:Sp):x.c.length=2:=rfl
theorem Sp.still(x:Sp):x.c.all still1=true:=rfl
def prAt(P:List Pq)(i:Int):Pq:=P.getD i.toNat ⟨0,0⟩
def frS(P:List Pq)(x:Sp):Int:=if x.s<0 then(prAt P x.p).b else(prAt P x.p).a
def toS(P:List Pq)(x:Sp):Int:=if x.s<0 then(prAt P x.p).a else(prAt P x.p).b
def Wk(P:List Pq):List Sp->Int->Int->Prop
 |[],a,b=>a=b
 |x::r,a,b=>frS P x=a/\Wk P r (toS P x) b
variable{P:List Pq}{F:List Int}
theorem Wk.app:∀{v w:List Sp} {a b c:Int},Wk P v a b->Wk P w b c->Wk P (v++w) a c
 |[],_,_,_,_,h,h2=>by cases h;exact h2
 |x::r,_,_,_,_,h,h2=>⟨h.1,h.2.app h2⟩
theorem Wk.split:∀{v w:List Sp} {a c:Int},Wk P (v++w) a c->∃b,Wk P v a b/\Wk P w b c
 |[],_,a,_,h=>⟨a,rfl,h⟩
 |x::r,_,_,_,h=>by
  obtain⟨b,h1,h2⟩:=Wk.split (v:=r) h.2
  exact⟨b,⟨h.1,h1⟩,h2⟩
def InF(F:List Int)(x:Sp):Prop:=x.p∈F/\(x.s=1\/x.s=-1)
def AllF(F:List Int)(w:List Sp):Prop:=∀x∈w,InF F x
theorem AllF.head{x:Sp}{r:List Sp}(h:AllF F (x::r)):InF F x:=h x (List.mem_cons_self ..)
theorem AllF.app{v w:List Sp}(h:AllF F v)(h2:AllF F w):AllF F (v++w):=fun y hy=>by
 rcases List.mem_append.mp hy with hy|hy
 .exact h y hy
 .exact h2 y hy
def Cut(P:List Pq)(F:List Int):Prop:=∀i∈F,∃s:Int->Bool,s (prAt P i).a≠s (prAt P i).b/\∀j∈F,j≠i->s (prAt P j).a=s (prAt P j).b
def NB(P:List Pq):List Sp->Prop
 |[]=>True
 |[_]=>True
 |x::y::r=>toS P y≠frS P x/\NB P (y::r)
theorem x2ph{l k:List Int}(hn:l.Nodup)(h:∀x∈l,x∈k):l.length<=k.length:=by
 induction l generalizing k with
 |nil=>simp
 |cons x r ih=>
  rw[List.nodup_cons]at hn
  have hx:=h x (List.mem_cons_self ..)
  have:=ih (k:=k.erase x) hn.2 fun y hy=>by
   rw[List.mem_erase_of_ne (by rintro rfl;exact hn.1 hy)]
   exact h y (List.mem_cons_of_mem _ hy)
  rw[List.length_erase_of_mem hx]at this
  have h0:0<k.length:=List.length_pos_of_mem hx
  simp only[List.length_cons]
  omega
end Go.Ix
