import Derived.Test.YtpeakdjfagbpcaaGreatWNet
import Derived.Laws.Strings
set_option linter.unusedSimpArgs false
namespace Go.Ix
open Go.Proofs
theorem x23t(d:Nat)(a b c:Int)(m:Mem):x1xt (x1xv (d+1)) xr [I a,I b,I c] m=some (B (wi a b c),m):=by
 refine call0 rfl (m':=⟨[],1⟩) ?_ rfl
 rw[x133]
 unfold xc1 xd5 wi
 by_cases h:b<=a<;>by_cases h2:a<=c<;>simp[h,h2,mem0]
theorem x27v(d:Nat)(a b:Int)(m:Mem)(h:-9223372036854775807<=b/\b<=9223372036854775807):x1xt (x1xv (d+2)) x1c [I a,I b] m=some (B (wi a (-b) b),m):=by
 refine call0 rfl (m':=⟨[],1⟩) ?_ rfl
 rw[x135]
 unfold xc3 xdc
 simp(disch:=omega) [mem0,x23t,x1yo]
abbrev T(s:ByteArray):AV:=.sc (.string s)
abbrev U8(c:Int):AV:=.sc (.int .u8 c)
def u8E(b:UInt8):List AV:=[U8 b.toNat]
theorem u8E_len(b:UInt8):(u8E b).length=1:=rfl
theorem u8_ge(x y:Operand)(a b:Int):sBin Tryz.prog .geq xa x y (U8 a) (U8 b)=some (B (decide (b<=a))):=by kernel_rfl
theorem u8_le(x y:Operand)(a b:Int):sBin Tryz.prog .leq xa x y (U8 a) (U8 b)=some (B (decide (a<=b))):=by kernel_rfl
theorem u8_gt(x y:Operand)(a b:Int):sBin Tryz.prog .gtr xa x y (U8 a) (U8 b)=some (B (decide (b<a))):=by kernel_rfl
theorem u8_lt(x y:Operand)(a b:Int):sBin Tryz.prog .lss xa x y (U8 a) (U8 b)=some (B (decide (a<b))):=by kernel_rfl
theorem u8_eq(x y:Operand)(a b:Int):sBin Tryz.prog .eql xa x y (U8 a) (U8 b)=some (B (decide (a=b))):=by kernel_rfl
theorem u8_ne(x y:Operand)(a b:Int):sBin Tryz.prog .neq xa x y (U8 a) (U8 b)=some (B (!decide (a=b))):=by kernel_rfl
def teq(a b:ByteArray):Bool:=a.toList == b.toList
theorem t_eq(x y:Operand)(a b:ByteArray):sBin Tryz.prog .eql xf x y (T a) (T b)=some (B (teq a b)):=by kernel_rfl
@[simp] theorem sLenS_T(s:ByteArray):x210 (T s)=some (I s.size):=rfl
theorem u_bytes:Tryz.prog.underlying x6m=some (.slice xa):=by kernel_rfl
theorem u_u8:Tryz.prog.underlying xa=some (.int .u8):=by kernel_rfl
theorem u_str:Tryz.prog.underlying xf=some .string:=by kernel_rfl
theorem cvt_bytes(s:ByteArray):sCvt Tryz.prog xf x6m (T s)=some (.slit (s.data.toList.flatMap u8E) s.data.toList.length false):=by
 have e:(s.data.toList.map fun b=>U8 b.toNat)=s.data.toList.flatMap u8E:=by
  induction s.data.toList with
  |nil=>rfl
  |cons b l ih=>rw[List.map_cons,List.flatMap_cons,ih];rfl
 simp only[sCvt,x1y9,x236,u_bytes,u_u8,u_str]
 rw[e,x1zs (z:=1) u8E_len s.data.toList,Nat.mul_one]
theorem idx_T{s:ByteArray}{k:Nat}(h:k<s.data.toList.length):sIdx Tryz.prog xf (T s) (I k)=some (U8 (s.data.toList[k]).toNat):=by
 have:x1xx Tryz.prog (Instr.index xf (.string s) (.int .i64 k))=some (.int .u8 (s.data.toList[k]).toNat):=by
  have h2:s[k]?=some s.data.toList[k]:=by
   have h3:k<s.size:=by simpa using h
   rw[getElem?_pos s k h3]
   rfl
  simp only[Instr.index,asIntOf,asInt,underlying,program,Bind.bind,Sem.bind,x1xx,Pure.pure,u_str]
  rw[if_pos (by omega),Int.toNat_natCast,h2]
  rfl
 have e:sIdx Tryz.prog xf (T s) (I k)=(x1xx Tryz.prog (Instr.index xf (.string s) (.int .i64 k))).map x1yd:=by
  simp only[sIdx,I,x1y9]
 rw[e,this]
 rfl
def chOK(p:Bool)(c:Int):Bool:=(decide (97<=c)&&decide (c<=122))||(decide (65<=c)&&decide (c<=90))||(p&&(decide (c=45)||(decide (48<=c)&&decide (c<=57))))
def x20l:Nat->List UInt8->Bool
 |_,[]=>true
 |k,c::r=>chOK (decide (0<k)) c.toNat&&x20l (k+1) r
def nmOK(s:ByteArray):Bool:=decide (0<s.size)&&decide (s.size<=12)&&x20l 0 s.data.toList
theorem ld_u8{m:Mem}{l:List UInt8}{k:Nat}(hk:k<l.length):sLd false 1 (.plit ((l.drop k).flatMap u8E)) m=some (U8 l[k].toNat):=by
 rw[x1zt hk,List.flatMap_cons]
 rfl
theorem l_isName(call:x1xq)(hs:FHs)(u:Nat){a:AV}{l:List UInt8}(h:Sl u8E a l)(hl:l.length<=12):∀(suf:List UInt8) (k j:Nat) (m:Mem) (fc:Nat),l.drop k=suf->suf.length<j ->
 x28 call hs u j a (I l.length) (I k) m fc=some (B (x20l k suf),m):=by
 intro suf
 induction suf with
 |nil=>
  intro k j m fc hd hj
  obtain⟨j,rfl⟩:∃i,j=i+1:=⟨j-1,by simp at hj;omega⟩
  have hk:¬((k:Int)<(l.length:Int)):=by have:=List.drop_eq_nil_iff.mp hd;omega
  simp only[x28]
  unfold xao xp
  simp[hk,x20l]
 |cons e r ih=>
  intro k j m fc hd hj
  obtain⟨j,rfl⟩:∃i,j=i+1:=⟨j-1,by simp at hj;omega⟩
  obtain⟨hk,he,hd⟩:=x215 hd
  have hk':(k:Int)<(l.length:Int):=by omega
  have ix:=h.ix u8E_len hk
  have ld:=ld_u8 (m:=m) hk
  have next:∀fc,x28 call hs u j a (I l.length) (I (w64 ((k:Int)+1))) m fc=some (B (x20l (k+1) r),m):=fun fc=>by
   rw[x1yo (by omega) (by omega)]
   exact ih (k+1) j m fc hd (by simp at hj;omega)
  rw[he]at ld
  have hk0:decide ((0:Int)<(k:Int))=decide (0<k):=by simp
  simp only[x28]
  unfold xao x6l x6k x6j xm
  simp only[x214,hk',decide_true,x20k,x1yu,ix,ld,u8_ge,u8_le,u8_eq,sW_t,sW_f]
  simp only[x20l,chOK]
  generalize (e.toNat:Int)=c
  by_cases a1:97<=c<;>by_cases a2:c<=122<;>by_cases b1:65<=c<;>by_cases b2:c<=90<;>by_cases d1:48<=c<;>by_cases d2:c<=57<;>by_cases d0:c=45 <;>
   first
   |(exfalso;omega)
   |(by_cases hp:0<k<;>simp[a1,a2,b1,b2,d1,d2,d0,hp,u8_ge,u8_le,u8_eq,next])
theorem w_isName(d:Nat)(s:ByteArray)(m:Mem):x1xt (x1xv (d+1)) x47 [T s] m=some (B (nmOK s),m):=by
 refine call0 rfl (m':=⟨[],1⟩) ?_ rfl
 rw[x13b]
 have e0:teq s ⟨#[]⟩=decide (s.size=0):=by
  unfold teq
  rw[ByteArray.toList_eq,ByteArray.toList_eq]
  cases hs:s.data.toList with
  |nil=>
   have:s.size=0:=by show s.data.size=0;rw[<-Array.length_toList,hs];rfl
   simp[this]
  |cons x r=>
   have:s.size=r.length+1:=by show s.data.size=_;rw[<-Array.length_toList,hs];rfl
   simp[this]
 have hsz:s.data.toList.length=s.size:=rfl
 unfold xca xdv nmOK
 simp only[t_eq,e0,x1yu]
 by_cases h0:s.size=0
 .simp[h0,mem0]
 .by_cases h12:s.size<=12
  .have hL:=l_isName (x1xv d) [] 0 (Sl.lit (enc:=u8E) s.data.toList false) (by omega) s.data.toList 0 NN ⟨[],1⟩ (fc:=12) rfl (by rw[x1zi];omega)
   have hlen:sLen Tryz.prog x6m (.slit (s.data.toList.flatMap u8E) s.data.toList.length false)=some (I s.data.toList.length):=(Sl.lit (enc:=u8E) s.data.toList false).len u_bytes
   unfold xap
   simp only[cvt_bytes,hlen]
   simp[h0,h12,show ¬((12:Int)<s.size) by omega,show 0<s.size by omega,mem0]
   exact hL
  .simp[h0,h12,show(12:Int)<s.size by omega,mem0]
theorem l_IsName(call:x1xq)(hs:FHs)(u:Nat){s:ByteArray}(hl:s.size<=12):∀(suf:List UInt8) (k j:Nat) (m:Mem) (fc:Nat),s.data.toList.drop k=suf->suf.length<j ->
 x26 call hs u j (T s) (I k) m fc=some (B (x20l k suf),m):=by
 have hsz:s.data.toList.length=s.size:=rfl
 intro suf
 induction suf with
 |nil=>
  intro k j m fc hd hj
  obtain⟨j,rfl⟩:∃i,j=i+1:=⟨j-1,by simp at hj;omega⟩
  have hk:¬((k:Int)<(s.size:Int)):=by have:=List.drop_eq_nil_iff.mp hd;omega
  simp only[x26]
  unfold xad x2q
  simp[hk,x20l]
 |cons e r ih=>
  intro k j m fc hd hj
  obtain⟨j,rfl⟩:∃i,j=i+1:=⟨j-1,by simp at hj;omega⟩
  obtain⟨hk,he,hd⟩:=x215 hd
  have hk':(k:Int)<(s.size:Int):=by omega
  have ix:=idx_T hk
  have next:∀fc,x26 call hs u j (T s) (I (w64 ((k:Int)+1))) m fc=some (B (x20l (k+1) r),m):=fun fc=>by
   rw[x1yo (by omega) (by omega)]
   exact ih (k+1) j m fc hd (by simp at hj;omega)
  rw[he]at ix
  simp only[x26]
  unfold xad
  simp only[sLenS_T,x1yu,x214,hk',decide_true,x20k,ix,u8_ge]
  simp only[x20l,chOK]
  generalize (e.toNat:Int)=c
  by_cases a1:97<=c<;>by_cases a2:c<=122<;>by_cases b1:65<=c<;>by_cases b2:c<=90<;>by_cases d1:c<48<;>by_cases d2:57<c<;>by_cases d0:c=45 <;>
   first
   |(exfalso;omega)
   |(have d1':(48<=c)=¬(c<48):=by rw[Int.not_lt]
     have d2':(c<=57)=¬(57<c):=by rw[Int.not_lt]
     by_cases hp:k=0<;>simp[a1,a2,b1,b2,d1,d2,d1',d2',d0,hp,Nat.pos_iff_ne_zero,u8_ge,u8_le,u8_eq,u8_ne,u8_lt,u8_gt,next]<;>(subst hp;have:=next (fc+44);simpa using this))
theorem w_IsName(d:Nat)(s:ByteArray)(m:Mem):x1xt (x1xv (d+1)) x42 [T s] m=some (B (nmOK s),m):=by
 refine call0 rfl (m':=⟨[],1⟩) ?_ rfl
 rw[x136]
 have hsz:s.data.toList.length=s.size:=rfl
 unfold xc4 xdd nmOK
 by_cases h0:s.size=0
 .simp[h0,mem0]
 .by_cases h12:s.size<=12
  .have hL:=l_IsName (x1xv d) [] 0 (s:=s) h12 s.data.toList 0 NN ⟨[],1⟩ (fc:=10) rfl (by rw[x1zi];omega)
   unfold xae
   simp[h0,h12,show ¬((12:Int)<s.size) by omega,show ¬((s.size:Int)<1) by omega,show 0<s.size by omega,mem0]
   exact hL
  .simp[h0,h12,show(12:Int)<s.size by omega,show ¬((s.size:Int)<1) by omega,mem0]
end Go.Ix
