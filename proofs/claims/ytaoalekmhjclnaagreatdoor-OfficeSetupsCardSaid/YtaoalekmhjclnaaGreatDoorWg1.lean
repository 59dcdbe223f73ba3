import Derived.Test.YtaoalekmhjclnaaGreatDoorWg0
import Derived.Laws.Strings
import Derived.Test.YtaoalekmhjclnaaGreatDoorRows
import Derived.Test.YtaoalekmhjclnaaGreatDoorFxLaw
set_option linter.unusedSimpArgs false
namespace Go.Ix
open Go.Proofs
structure Edge where
 fr:Int
 to:Int
 jump:Int
 wt:Int
def Edge.c(e:Edge):List AV:=[I e.fr,I e.to,I e.jump,I e.wt]
theorem Edge.len(e:Edge):e.c.length=4:=rfl
def wi(a b c:Int):Bool:=decide (b<=a/\a<=c)
theorem x1em(d:Nat)(a b c:Int)(m:Mem):x17z (x180 (d+1)) xq [I a,I b,I c] m=some (B (wi a b c),m):=by
 refine call0 rfl (m':=⟨[],1⟩) ?_ rfl
 rw[xmu]
 unfold x5r x5d wi
 by_cases h:b<=a<;>by_cases h2:a<=c<;>simp[h,h2,mem0]
theorem u_ints:Tryz.prog.underlying xg=some (.slice x18n):=by kernel_rfl
abbrev T(s:ByteArray):AV:=.sc (.string s)
abbrev U8(c:Int):AV:=.sc (.int .u8 c)
def u8E(b:UInt8):List AV:=[U8 b.toNat]
theorem u8E_len(b:UInt8):(u8E b).length=1:=rfl
theorem u8_ge(x y:Operand)(a b:Int):sBin Tryz.prog .geq x6 x y (U8 a) (U8 b)=some (B (decide (b<=a))):=by kernel_rfl
theorem u8_le(x y:Operand)(a b:Int):sBin Tryz.prog .leq x6 x y (U8 a) (U8 b)=some (B (decide (a<=b))):=by kernel_rfl
theorem u8_gt(x y:Operand)(a b:Int):sBin Tryz.prog .gtr x6 x y (U8 a) (U8 b)=some (B (decide (b<a))):=by kernel_rfl
theorem u8_lt(x y:Operand)(a b:Int):sBin Tryz.prog .lss x6 x y (U8 a) (U8 b)=some (B (decide (a<b))):=by kernel_rfl
theorem u8_eq(x y:Operand)(a b:Int):sBin Tryz.prog .eql x6 x y (U8 a) (U8 b)=some (B (decide (a=b))):=by kernel_rfl
theorem u8_ne(x y:Operand)(a b:Int):sBin Tryz.prog .neq x6 x y (U8 a) (U8 b)=some (B (!decide (a=b))):=by kernel_rfl
def teq(a b:ByteArray):Bool:=a.toList == b.toList
theorem t_eq(x y:Operand)(a b:ByteArray):sBin Tryz.prog .eql x5 x y (T a) (T b)=some (B (teq a b)):=by kernel_rfl
@[simp] theorem x1dn(s:ByteArray):x18w (T s)=some (I s.size):=rfl
theorem u_bytes:Tryz.prog.underlying xd=some (.slice x6):=by kernel_rfl
theorem u_u8:Tryz.prog.underlying x6=some (.int .u8):=by kernel_rfl
theorem u_str:Tryz.prog.underlying x5=some .string:=by kernel_rfl
theorem cvt_bytes(s:ByteArray):sCvt Tryz.prog x5 xd (T s)=some (.slit (s.data.toList.flatMap u8E) s.data.toList.length false):=by
 have e:(s.data.toList.map λb=>U8 b.toNat)=s.data.toList.flatMap u8E:=by
  induction s.data.toList with
  |nil=>rfl
  |cons b l ih=>rw[x1su,x1st,ih];rfl
 refine sCvt_0 ?_
 simp only[cvt0,x18u,x1ex,u_bytes,u_u8,u_str]
 rw[e,x1aq (z:=1) u8E_len s.data.toList,Nat.mul_one]
theorem idx_T{s:ByteArray}{k:Nat}(h:k<s.data.toList.length):sIdx Tryz.prog x5 (T s) (I k)=some (U8 (s.data.toList[k]).toNat):=by
 have:x18p Tryz.prog (Instr.index x5 (.string s) (.int .i64 k))=some (.int .u8 (s.data.toList[k]).toNat):=by
  have h2:s[k]?=some s.data.toList[k]:=by
   have h3:k<s.size:=by simpa using h
   rw[getElem?_pos s k h3]
   rfl
  simp only[Instr.index,asIntOf,asInt,underlying,program,Bind.bind,Sem.bind,x18p,Pure.pure,u_str]
  rw[x1sc (by omega),x1uy,h2]
  rfl
 have e:sIdx Tryz.prog x5 (T s) (I k)=(x18p Tryz.prog (Instr.index x5 (.string s) (.int .i64 k))).map x19a:=by
  simp only[sIdx,I,x18u]
 rw[e,this]
 rfl
def chOK(p:Bool)(c:Int):Bool:=(decide (97<=c)&&decide (c<=122))||(decide (65<=c)&&decide (c<=90))||(p&&(decide (c=45)||(decide (48<=c)&&decide (c<=57))))
def x1b6:Nat->List UInt8->Bool
 |_,[]=>true
 |k,c::r=>chOK (decide (0<k)) c.toNat&&x1b6 (k+1) r
def nmOK(s:ByteArray):Bool:=decide (0<s.size)&&decide (s.size<=12)&&x1b6 0 s.data.toList
theorem ld_u8{m:Mem}{l:List UInt8}{k:Nat}(hk:k<l.length):sLd false 1 (.plit ((l.drop k).flatMap u8E)) m=some (U8 l[k].toNat):=by
 rw[x19h hk,x1st]
 rfl
theorem l_IsName(call:x17y)(hs:FHs)(u:Nat){s:ByteArray}(hl:s.size<=12):∀(suf:List UInt8) (k j:Nat) (m:Mem) (fc:Nat),s.data.toList.drop k=suf->suf.length<j ->
 x2l call hs u j (T s) (I k) m fc=some (B (x1b6 k suf),m):=by
 have hsz:s.data.toList.length=s.size:=rfl
 intro suf
 induction suf with
 |nil=>
  intro k j m fc hd hj
  obtain⟨j,rfl⟩:∃i,j=i+1:=⟨j-1,by simp at hj;omega⟩
  have hk:¬((k:Int)<(s.size:Int)):=by have:=x1t3.mp hd;omega
  simp only[x2l]
  unfold x9x xej
  simp[hk,x1b6]
 |cons e r ih=>
  intro k j m fc hd hj
  obtain⟨j,rfl⟩:∃i,j=i+1:=⟨j-1,by simp at hj;omega⟩
  obtain⟨hk,he,hd⟩:=x19i hd
  have hk':(k:Int)<(s.size:Int):=by omega
  have ix:=idx_T hk
  have next:∀fc,x2l call hs u j (T s) (I (w64 ((k:Int)+1))) m fc=some (B (x1b6 (k+1) r),m):=λfc=>by
   rw[x18i (by omega) (by omega)]
   exact ih (k+1) j m fc hd (by simp at hj;omega)
  rw[he]at ix
  simp only[x2l]
  unfold x9x
  simp only[x1dn,x182,x18k,hk',x1si,x18a,ix,u8_ge]
  simp only[x1b6,chOK]
  generalize (e.toNat:Int)=c
  by_cases a1:97<=c<;>by_cases a2:c<=122<;>by_cases b1:65<=c<;>by_cases b2:c<=90<;>by_cases d1:c<48<;>by_cases d2:57<c<;>by_cases d0:c=45 <;>
   first
   |(exfalso;omega)
   |(have d1':(48<=c)=¬(c<48):=by rw[Int.not_lt]
     have d2':(c<=57)=¬(57<c):=by rw[Int.not_lt]
     by_cases hp:k=0<;>simp[a1,a2,b1,b2,d1,d2,d1',d2',d0,hp,Nat.pos_iff_ne_zero,u8_ge,u8_le,u8_eq,u8_ne,u8_lt,u8_gt,next]<;>(subst hp;have:=next (fc+44);simpa using this))
theorem x1hc(d:Nat)(s:ByteArray)(m:Mem):x17z (x180 (d+1)) x1n [T s] m=some (B (nmOK s),m):=by
 refine call0 rfl (m':=⟨[],1⟩) ?_ rfl
 rw[x10c]
 have hsz:s.data.toList.length=s.size:=rfl
 unfold xc0 x9y nmOK
 by_cases h0:s.size=0
 .simp[h0,mem0]
 .by_cases h12:s.size<=12
  .have hL:=l_IsName (x180 d) [] 0 (s:=s) h12 s.data.toList 0 NN ⟨[],1⟩ (fc:=10) rfl (by rw[x197];omega)
   unfold xek
   simp[h0,h12,show ¬((12:Int)<s.size) by omega,show ¬((s.size:Int)<1) by omega,show 0<s.size by omega,mem0]
   exact hL
  .simp[h0,h12,show(12:Int)<s.size by omega,show ¬((s.size:Int)<1) by omega,mem0]
abbrev Ints(a:AV)(l:List Int):Prop:=Sl intE a l
def TurnsIn(t:List Int):Prop:=∀x∈t,-1000000<=x/\x<=1000000
theorem TurnsIn.get{t:List Int}(h:TurnsIn t)(k:Nat):-1000000<=at0 t k/\at0 t k<=1000000:=by
 unfold at0
 rw[x1tq]
 cases hk:t[k]? with
 |none=>simp
 |some x=>simpa using h x (x1ti hk)
end Go.Ix
set_option maxRecDepth 100000
namespace Go.Proofs.YtaoalekmhjclnaaGreatDoor
open Go.ChangeShapes Go.WideShapes Go.ChangeAt Go.RowKit Go.Ix
theorem Tryz.own:ownKnob Tryz.prog.godebug=none:=by kernel_rfl
theorem Tryz.laidOut:laidOutB Tryz.prog=true:=by kernel_rfl
theorem x1d7{q:List AV}(h:Sh Tryz.prog x18n q):∃n,q=[I n]:=by
 obtain⟨n,h,-⟩:=Sh.int_inv (t:=x18n) (k:=.i64) (by kernel_rfl) h
 exact⟨n,h⟩
theorem x1fo{q:List AV}(h:Sh Tryz.prog x5 q):∃s,q=[T s]:=by
 have ht:Tryz.prog.underlying x5=some .string:=by kernel_rfl
 cases h with
 |string h' s hs=>exact⟨s,rfl⟩
 |int h'=>rw[ht]at h';cases h'
 |nilS h'=>rw[ht]at h';cases h'
 |slice h'=>rw[ht]at h';cases h'
 |bool h'=>rw[ht]at h';cases h'
 |float h'=>rw[ht]at h';cases h'
 |struct h'=>rw[ht]at h';cases h'
 |array h'=>rw[ht]at h';cases h'
theorem sl_sh{α:Type}{enc:α->List AV}{P:Program}{t e:TypeId}{z:AV}(ht:P.underlying t=some (.slice e))(hr:∀r,r.length=P.cellsOf e->Sh P e r->∃x,r=enc x)(f:Sh P t [z]):∃l,Sl enc z l:=by
 rcases Sh.slice_inv ht f with h1|⟨rows,x,h1,h2,h3,h4⟩
 .simp at h1;exact⟨[],Or.inl ⟨h1,rfl⟩⟩
 .obtain⟨l,rfl⟩:=x1k7 (enc:=enc) λr hm=>hr r (h2 r hm) (h3 r hm)
  simp at h1
  exact⟨l,Or.inr ⟨x,by simpa[List.flatMap]using h1⟩⟩
theorem fs_of{t:TypeId}{l:List (TypeId×Nat)}(h:((Tryz.prog.underlying t).bind λd=>match d with | .struct fs=>some (fs.toList.map λf=>(f.type,f.offset))|_=>none)=some l):∃fs,Tryz.prog.underlying t=some (.struct fs)/\(fs.toList.map λf=>(f.type,f.offset))=l:=by
 cases hu:Tryz.prog.underlying t with
 |none=>rw[hu]at h;cases h
 |some d=>
  rw[hu]at h
  cases d<;>first|exact⟨_,rfl,by simpa using h⟩|cases h
end Go.Proofs.YtaoalekmhjclnaaGreatDoor
