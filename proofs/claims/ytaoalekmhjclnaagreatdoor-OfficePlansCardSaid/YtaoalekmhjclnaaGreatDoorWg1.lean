import Derived.Test.YtaoalekmhjclnaaGreatDoorWg0
import Derived.Laws.Strings
set_option linter.unusedSimpArgs false
namespace Go.Ix
open Go.Proofs
structure Edge where
 fr:Int
 to:Int
 jump:Int
 wt:Int
def Edge.c(e:Edge):List AV:=[I e.fr,I e.to,I e.jump,I e.wt]
theorem Edge.len(e:Edge):e.c.length=4:=rfl
def wi(a b c:Int):Bool:=decide (b<=a/\a<=c)
theorem x1ah(d:Nat)(a b c:Int)(m:Mem):x17e (x17h (d+1)) xd [I a,I b,I c] m=some (B (wi a b c),m):=by
 refine call0 rfl (m':=⟨[],1⟩) ?_ rfl
 rw[xzy]
 unfold xap x8y wi
 by_cases h:b<=a<;>by_cases h2:a<=c<;>simp[h,h2,mem0]
theorem x19h:Tryz.prog.underlying x6=some (.slice x17r):=by kernel_rfl
abbrev T(s:ByteArray):AV:=.sc (.string s)
abbrev U8(c:Int):AV:=.sc (.int .u8 c)
def u8E(b:UInt8):List AV:=[U8 b.toNat]
theorem u8E_len(b:UInt8):(u8E b).length=1:=rfl
theorem u8_ge(x y:Operand)(a b:Int):sBin Tryz.prog .geq x1 x y (U8 a) (U8 b)=some (B (decide (b<=a))):=by kernel_rfl
theorem u8_le(x y:Operand)(a b:Int):sBin Tryz.prog .leq x1 x y (U8 a) (U8 b)=some (B (decide (a<=b))):=by kernel_rfl
theorem u8_gt(x y:Operand)(a b:Int):sBin Tryz.prog .gtr x1 x y (U8 a) (U8 b)=some (B (decide (b<a))):=by kernel_rfl
theorem u8_lt(x y:Operand)(a b:Int):sBin Tryz.prog .lss x1 x y (U8 a) (U8 b)=some (B (decide (a<b))):=by kernel_rfl
theorem u8_eq(x y:Operand)(a b:Int):sBin Tryz.prog .eql x1 x y (U8 a) (U8 b)=some (B (decide (a=b))):=by kernel_rfl
theorem u8_ne(x y:Operand)(a b:Int):sBin Tryz.prog .neq x1 x y (U8 a) (U8 b)=some (B (!decide (a=b))):=by kernel_rfl
def teq(a b:ByteArray):Bool:=a.toList == b.toList
theorem t_eq(x y:Operand)(a b:ByteArray):sBin Tryz.prog .eql x0 x y (T a) (T b)=some (B (teq a b)):=by kernel_rfl
@[simp] theorem sLenS_T(s:ByteArray):x186 (T s)=some (I s.size):=rfl
theorem u_bytes:Tryz.prog.underlying x8=some (.slice x1):=by kernel_rfl
theorem u_u8:Tryz.prog.underlying x1=some (.int .u8):=by kernel_rfl
theorem u_str:Tryz.prog.underlying x0=some .string:=by kernel_rfl
theorem cvt_bytes(s:ByteArray):sCvt Tryz.prog x0 x8 (T s)=some (.slit (s.data.toList.flatMap u8E) s.data.toList.length false):=by
 have e:(s.data.toList.map λb=>U8 b.toNat)=s.data.toList.flatMap u8E:=by
  induction s.data.toList with
  |nil=>rfl
  |cons b l ih=>rw[x1qt,x1ql,ih];rfl
 refine sCvt_0 ?_
 simp only[cvt0,x183,x1dv,u_bytes,u_u8,u_str]
 rw[e,x1a2 (z:=1) u8E_len s.data.toList,Nat.mul_one]
theorem idx_T{s:ByteArray}{k:Nat}(h:k<s.data.toList.length):sIdx Tryz.prog x0 (T s) (I k)=some (U8 (s.data.toList[k]).toNat):=by
 have:x185 Tryz.prog (Instr.index x0 (.string s) (.int .i64 k))=some (.int .u8 (s.data.toList[k]).toNat):=by
  have h2:s[k]?=some s.data.toList[k]:=by
   have h3:k<s.size:=by simpa using h
   rw[getElem?_pos s k h3]
   rfl
  simp only[Instr.index,asIntOf,asInt,underlying,program,Bind.bind,Sem.bind,x185,Pure.pure,u_str]
  rw[x1qb (by omega),Int.toNat_natCast,h2]
  rfl
 have e:sIdx Tryz.prog x0 (T s) (I k)=(x185 Tryz.prog (Instr.index x0 (.string s) (.int .i64 k))).map x18h:=by
  simp only[sIdx,I,x183]
 rw[e,this]
 rfl
def chOK(p:Bool)(c:Int):Bool:=(decide (97<=c)&&decide (c<=122))||(decide (65<=c)&&decide (c<=90))||(p&&(decide (c=45)||(decide (48<=c)&&decide (c<=57))))
def x1ai:Nat->List UInt8->Bool
 |_,[]=>true
 |k,c::r=>chOK (decide (0<k)) c.toNat&&x1ai (k+1) r
def nmOK(s:ByteArray):Bool:=decide (0<s.size)&&decide (s.size<=12)&&x1ai 0 s.data.toList
theorem ld_u8{m:Mem}{l:List UInt8}{k:Nat}(hk:k<l.length):sLd false 1 (.plit ((l.drop k).flatMap u8E)) m=some (U8 l[k].toNat):=by
 rw[x18b hk,x1ql]
 rfl
theorem l_IsName(call:x17c)(hs:FHs)(u:Nat){s:ByteArray}(hl:s.size<=12):∀(suf:List UInt8) (k j:Nat) (m:Mem) (fc:Nat),s.data.toList.drop k=suf->suf.length<j ->
 x1y call hs u j (T s) (I k) m fc=some (B (x1ai k suf),m):=by
 have hsz:s.data.toList.length=s.size:=rfl
 intro suf
 induction suf with
 |nil=>
  intro k j m fc hd hj
  obtain⟨j,rfl⟩:∃i,j=i+1:=⟨j-1,by simp at hj;omega⟩
  have hk:¬((k:Int)<(s.size:Int)):=by have:=x1qx.mp hd;omega
  simp only[x1y]
  unfold x97 xcn
  simp[hk,x1ai]
 |cons e r ih=>
  intro k j m fc hd hj
  obtain⟨j,rfl⟩:∃i,j=i+1:=⟨j-1,by simp at hj;omega⟩
  obtain⟨hk,he,hd⟩:=x18t hd
  have hk':(k:Int)<(s.size:Int):=by omega
  have ix:=idx_T hk
  have next:∀fc,x1y call hs u j (T s) (I (w64 ((k:Int)+1))) m fc=some (B (x1ai (k+1) r),m):=λfc=>by
   rw[x17t (by omega) (by omega)]
   exact ih (k+1) j m fc hd (by simp at hj;omega)
  rw[he]at ix
  simp only[x1y]
  unfold x97
  simp only[sLenS_T,x17m,x17x,hk',x1qk,x184,ix,u8_ge]
  simp only[x1ai,chOK]
  generalize (e.toNat:Int)=c
  by_cases a1:97<=c<;>by_cases a2:c<=122<;>by_cases b1:65<=c<;>by_cases b2:c<=90<;>by_cases d1:c<48<;>by_cases d2:57<c<;>by_cases d0:c=45 <;>
   first
   |(exfalso;omega)
   |(have d1':(48<=c)=¬(c<48):=by rw[Int.not_lt]
     have d2':(c<=57)=¬(57<c):=by rw[Int.not_lt]
     by_cases hp:k=0<;>simp[a1,a2,b1,b2,d1,d2,d1',d2',d0,hp,Nat.pos_iff_ne_zero,u8_ge,u8_le,u8_eq,u8_ne,u8_lt,u8_gt,next]<;>(subst hp;have:=next (fc+44);simpa using this))
theorem w_IsName(d:Nat)(s:ByteArray)(m:Mem):x17e (x17h (d+1)) x2b [T s] m=some (B (nmOK s),m):=by
 refine call0 rfl (m':=⟨[],1⟩) ?_ rfl
 rw[x106]
 have hsz:s.data.toList.length=s.size:=rfl
 unfold xax x98 nmOK
 by_cases h0:s.size=0
 .simp[h0,mem0]
 .by_cases h12:s.size<=12
  .have hL:=l_IsName (x17h d) [] 0 (s:=s) h12 s.data.toList 0 NN ⟨[],1⟩ (fc:=10) rfl (by rw[x18k];omega)
   unfold xco
   simp[h0,h12,show ¬((12:Int)<s.size) by omega,show ¬((s.size:Int)<1) by omega,show 0<s.size by omega,mem0]
   exact hL
  .simp[h0,h12,show(12:Int)<s.size by omega,show ¬((s.size:Int)<1) by omega,mem0]
abbrev Ints(a:AV)(l:List Int):Prop:=Sl intE a l
def TurnsIn(t:List Int):Prop:=∀x∈t,-1000000<=x/\x<=1000000
theorem TurnsIn.get{t:List Int}(h:TurnsIn t)(k:Nat):-1000000<=at0 t k/\at0 t k<=1000000:=by
 unfold at0
 rw[x1rs]
 cases hk:t[k]? with
 |none=>simp
 |some x=>simpa using h x (x1r9 hk)
end Go.Ix
