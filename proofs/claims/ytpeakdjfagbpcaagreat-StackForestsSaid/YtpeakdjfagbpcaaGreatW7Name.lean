import Derived.Test.YtpeakdjfagbpcaaGreatWNet
import Derived.Laws.Strings
set_option linter.unusedSimpArgs false
namespace Go.Ix
open Go.Proofs
theorem x20s(d:Nat)(a b c:Int)(m:Mem):x1ut (x1uu (d+1)) xr [I a,I b,I c] m=some (B (wi a b c),m):=by
 refine call0 rfl (m':=⟨[],1⟩) ?_ rfl
 rw[x11d]
 unfold xbp xcy wi
 by_cases h:b<=a<;>by_cases h2:a<=c<;>simp[h,h2,mem0]
theorem w_small7(d:Nat)(a b:Int)(m:Mem)(h:-9223372036854775807<=b/\b<=9223372036854775807):x1ut (x1uu (d+2)) x15 [I a,I b] m=some (B (wi a (-b) b),m):=by
 refine call0 rfl (m':=⟨[],1⟩) ?_ rfl
 rw[x11f]
 unfold xbr xd5
 simp(disch:=omega) [mem0,x20s,x1v8]
theorem w_size7(d:Nat)(a:Int)(m:Mem)(h1:-9223372036854775808<a)(h2:a<=9223372036854775807):x1ut (x1uu (d+1)) x3c [I a] m=some (I (a.natAbs:Int),m):=by
 refine call0 rfl (m':=⟨[],1⟩) ?_ rfl
 rw[x11p]
 unfold xc1 xdg
 simp(disch:=omega) [mem0,x1v8]
 split<;>omega
abbrev T(s:ByteArray):AV:=.sc (.string s)
abbrev U8(c:Int):AV:=.sc (.int .u8 c)
def u8E(b:UInt8):List AV:=[U8 b.toNat]
theorem u8E_len(b:UInt8):(u8E b).length=1:=rfl
theorem u8_ge(x y:Operand)(a b:Int):sBin Tryz.prog .geq x7 x y (U8 a) (U8 b)=some (B (decide (b<=a))):=by kernel_rfl
theorem u8_le(x y:Operand)(a b:Int):sBin Tryz.prog .leq x7 x y (U8 a) (U8 b)=some (B (decide (a<=b))):=by kernel_rfl
theorem u8_gt(x y:Operand)(a b:Int):sBin Tryz.prog .gtr x7 x y (U8 a) (U8 b)=some (B (decide (b<a))):=by kernel_rfl
theorem u8_lt(x y:Operand)(a b:Int):sBin Tryz.prog .lss x7 x y (U8 a) (U8 b)=some (B (decide (a<b))):=by kernel_rfl
theorem u8_eq(x y:Operand)(a b:Int):sBin Tryz.prog .eql x7 x y (U8 a) (U8 b)=some (B (decide (a=b))):=by kernel_rfl
theorem u8_ne(x y:Operand)(a b:Int):sBin Tryz.prog .neq x7 x y (U8 a) (U8 b)=some (B (!decide (a=b))):=by kernel_rfl
def teq(a b:ByteArray):Bool:=a.toList == b.toList
theorem t_eq(x y:Operand)(a b:ByteArray):sBin Tryz.prog .eql xd x y (T a) (T b)=some (B (teq a b)):=by kernel_rfl
@[simp] theorem sLenS_T(s:ByteArray):x1y3 (T s)=some (I s.size):=rfl
theorem u_bytes:Tryz.prog.underlying x6d=some (.slice x7):=by kernel_rfl
theorem u_u8:Tryz.prog.underlying x7=some (.int .u8):=by kernel_rfl
theorem u_str:Tryz.prog.underlying xd=some .string:=by kernel_rfl
theorem cvt_bytes(s:ByteArray):sCvt Tryz.prog xd x6d (T s)=some (.slit (s.data.toList.flatMap u8E) s.data.toList.length false):=by
 have e:(s.data.toList.map fun b=>U8 b.toNat)=s.data.toList.flatMap u8E:=by
  induction s.data.toList with
  |nil=>rfl
  |cons b l ih=>rw[List.map_cons,List.flatMap_cons,ih];rfl
 simp only[sCvt,x1va,x204,u_bytes,u_u8,u_str]
 rw[e,x1x1 (z:=1) u8E_len s.data.toList,Nat.mul_one]
theorem idx_T{s:ByteArray}{k:Nat}(h:k<s.data.toList.length):sIdx Tryz.prog xd (T s) (I k)=some (U8 (s.data.toList[k]).toNat):=by
 have:x1ux Tryz.prog (Instr.index xd (.string s) (.int .i64 k))=some (.int .u8 (s.data.toList[k]).toNat):=by
  have h2:s[k]?=some s.data.toList[k]:=by
   have h3:k<s.size:=by simpa using h
   rw[getElem?_pos s k h3]
   rfl
  simp only[Instr.index,asIntOf,asInt,underlying,program,Bind.bind,Sem.bind,x1ux,Pure.pure,u_str]
  rw[if_pos (by omega),Int.toNat_natCast,h2]
  rfl
 have e:sIdx Tryz.prog xd (T s) (I k)=(x1ux Tryz.prog (Instr.index xd (.string s) (.int .i64 k))).map x1vd:=by
  simp only[sIdx,I,x1va]
 rw[e,this]
 rfl
def chOK(p:Bool)(c:Int):Bool:=(decide (97<=c)&&decide (c<=122))||(decide (65<=c)&&decide (c<=90))||(p&&(decide (c=45)||(decide (48<=c)&&decide (c<=57))))
def x1xp:Nat->List UInt8->Bool
 |_,[]=>true
 |k,c::r=>chOK (decide (0<k)) c.toNat&&x1xp (k+1) r
def nmOK(s:ByteArray):Bool:=decide (0<s.size)&&decide (s.size<=12)&&x1xp 0 s.data.toList
theorem ld_u8{m:Mem}{l:List UInt8}{k:Nat}(hk:k<l.length):sLd false 1 (.plit ((l.drop k).flatMap u8E)) m=some (U8 l[k].toNat):=by
 rw[x1w4 hk,List.flatMap_cons]
 rfl
theorem l_isName(call:x1uq)(hs:FHs)(u:Nat){a:AV}{l:List UInt8}(h:Sl u8E a l)(hl:l.length<=12):∀(suf:List UInt8) (k j:Nat) (m:Mem) (fc:Nat),l.drop k=suf->suf.length<j ->
 x23 call hs u j a (I l.length) (I k) m fc=some (B (x1xp k suf),m):=by
 intro suf
 induction suf with
 |nil=>
  intro k j m fc hd hj
  obtain⟨j,rfl⟩:∃i,j=i+1:=⟨j-1,by simp at hj;omega⟩
  have hk:¬((k:Int)<(l.length:Int)):=by have:=List.drop_eq_nil_iff.mp hd;omega
  simp only[x23]
  unfold xae xm
  simp[hk,x1xp]
 |cons e r ih=>
  intro k j m fc hd hj
  obtain⟨j,rfl⟩:∃i,j=i+1:=⟨j-1,by simp at hj;omega⟩
  obtain⟨hk,he,hd⟩:=x1z2 hd
  have hk':(k:Int)<(l.length:Int):=by omega
  have ix:=h.ix u8E_len hk
  have ld:=ld_u8 (m:=m) hk
  have next:∀fc,x23 call hs u j a (I l.length) (I (w64 ((k:Int)+1))) m fc=some (B (x1xp (k+1) r),m):=fun fc=>by
   rw[x1v8 (by omega) (by omega)]
   exact ih (k+1) j m fc hd (by simp at hj;omega)
  rw[he]at ld
  have hk0:decide ((0:Int)<(k:Int))=decide (0<k):=by simp
  simp only[x23]
  unfold xae x6c x6b x6a xj
  simp only[x1x0,hk',decide_true,x1xc,x1vm,ix,ld,u8_ge,u8_le,u8_eq,sW_t,sW_f]
  simp only[x1xp,chOK]
  generalize (e.toNat:Int)=c
  by_cases a1:97<=c<;>by_cases a2:c<=122<;>by_cases b1:65<=c<;>by_cases b2:c<=90<;>by_cases d1:48<=c<;>by_cases d2:c<=57<;>by_cases d0:c=45 <;>
   first
   |(exfalso;omega)
   |(by_cases hp:0<k<;>simp[a1,a2,b1,b2,d1,d2,d0,hp,u8_ge,u8_le,u8_eq,next])
theorem w_isName(d:Nat)(s:ByteArray)(m:Mem):x1ut (x1uu (d+1)) x4a [T s] m=some (B (nmOK s),m):=by
 refine call0 rfl (m':=⟨[],1⟩) ?_ rfl
 rw[x11q]
 have e0:teq s ⟨#[]⟩=decide (s.size=0):=by
  unfold teq
  rw[ByteArray.toList_eq,ByteArray.toList_eq]
  cases hs:s.data.toList with
  |nil=>
   have:s.size=0:=by show s.data.size=0;rw[<-Array.length_toList,hs];rfl
   simp[this]
  |cons x r=>
   have:s.size=r.length+1:=by show s.data.size=_;rw[<-Array.length_toList,hs];rfl
   simp[this]
 have hsz:s.data.toList.length=s.size:=rfl
 unfold xc2 xdn nmOK
 simp only[t_eq,e0,x1vm]
 by_cases h0:s.size=0
 .simp[h0,mem0]
 .by_cases h12:s.size<=12
  .have hL:=l_isName (x1uu d) [] 0 (Sl.lit (enc:=u8E) s.data.toList false) (by omega) s.data.toList 0 NN ⟨[],1⟩ (fc:=12) rfl (by rw[x1vv];omega)
   have hlen:sLen Tryz.prog x6d (.slit (s.data.toList.flatMap u8E) s.data.toList.length false)=some (I s.data.toList.length):=(Sl.lit (enc:=u8E) s.data.toList false).len u_bytes
   unfold xaf
   simp only[cvt_bytes,hlen]
   simp[h0,h12,show ¬((12:Int)<s.size) by omega,show 0<s.size by omega,mem0]
   exact hL
  .simp[h0,h12,show(12:Int)<s.size by omega,mem0]
theorem l_IsName(call:x1uq)(hs:FHs)(u:Nat){s:ByteArray}(hl:s.size<=12):∀(suf:List UInt8) (k j:Nat) (m:Mem) (fc:Nat),s.data.toList.drop k=suf->suf.length<j ->
 x1y call hs u j (T s) (I k) m fc=some (B (x1xp k suf),m):=by
 have hsz:s.data.toList.length=s.size:=rfl
 intro suf
 induction suf with
 |nil=>
  intro k j m fc hd hj
  obtain⟨j,rfl⟩:∃i,j=i+1:=⟨j-1,by simp at hj;omega⟩
  have hk:¬((k:Int)<(s.size:Int)):=by have:=List.drop_eq_nil_iff.mp hd;omega
  simp only[x1y]
  unfold x9v x2n
  simp[hk,x1xp]
 |cons e r ih=>
  intro k j m fc hd hj
  obtain⟨j,rfl⟩:∃i,j=i+1:=⟨j-1,by simp at hj;omega⟩
  obtain⟨hk,he,hd⟩:=x1z2 hd
  have hk':(k:Int)<(s.size:Int):=by omega
  have ix:=idx_T hk
  have next:∀fc,x1y call hs u j (T s) (I (w64 ((k:Int)+1))) m fc=some (B (x1xp (k+1) r),m):=fun fc=>by
   rw[x1v8 (by omega) (by omega)]
   exact ih (k+1) j m fc hd (by simp at hj;omega)
  rw[he]at ix
  simp only[x1y]
  unfold x9v
  simp only[sLenS_T,x1vm,x1x0,hk',decide_true,x1xc,ix,u8_ge]
  simp only[x1xp,chOK]
  generalize (e.toNat:Int)=c
  by_cases a1:97<=c<;>by_cases a2:c<=122<;>by_cases b1:65<=c<;>by_cases b2:c<=90<;>by_cases d1:c<48<;>by_cases d2:57<c<;>by_cases d0:c=45 <;>
   first
   |(exfalso;omega)
   |(have d1':(48<=c)=¬(c<48):=by rw[Int.not_lt]
     have d2':(c<=57)=¬(57<c):=by rw[Int.not_lt]
     by_cases hp:k=0<;>simp[a1,a2,b1,b2,d1,d2,d1',d2',d0,hp,Nat.pos_iff_ne_zero,u8_ge,u8_le,u8_eq,u8_ne,u8_lt,u8_gt,next]<;>(subst hp;have:=next (fc+44);simpa using this))
theorem w_IsName(d:Nat)(s:ByteArray)(m:Mem):x1ut (x1uu (d+1)) x46 [T s] m=some (B (nmOK s),m):=by
 refine call0 rfl (m':=⟨[],1⟩) ?_ rfl
 rw[x11g]
 have hsz:s.data.toList.length=s.size:=rfl
 unfold xbs xd6 nmOK
 by_cases h0:s.size=0
 .simp[h0,mem0]
 .by_cases h12:s.size<=12
  .have hL:=l_IsName (x1uu d) [] 0 (s:=s) h12 s.data.toList 0 NN ⟨[],1⟩ (fc:=10) rfl (by rw[x1vv];omega)
   unfold x9w
   simp[h0,h12,show ¬((12:Int)<s.size) by omega,show ¬((s.size:Int)<1) by omega,show 0<s.size by omega,mem0]
   exact hL
  .simp[h0,h12,show(12:Int)<s.size by omega,show ¬((s.size:Int)<1) by omega,mem0]
end Go.Ix
