import Derived.Test.YtibmppgmjbpdmaaGreatDoorWg1
import Derived.Laws.Strings
import Derived.Test.YtibmppgmjbpdmaaGreatDoorRows
import Derived.Test.YtibmppgmjbpdmaaGreatDoorFxLaw
import Derived.Test.YtibmppgmjbpdmaaGreatDoorCards
import Derived.Test.YtibmppgmjbpdmaaGreatDoorTie
import Derived.Stop.LaidErr
import Derived.LaidMore
import Derived.Lay
import Derived.SevenTiedAt
import Derived.Stop.Joined
set_option linter.unusedSimpArgs false
namespace Go.Ix
open Go.Proofs
structure Edge where
 fr:Int
 to:Int
 jump:Int
 wt:Int
def Edge.c(e:Edge):List AV:=[I e.fr,I e.to,I e.jump,I e.wt]
theorem Edge.len(e:Edge):e.c.length=4:=rfl
def wi(a b c:Int):Bool:=decide (b<=a/\a<=c)
theorem w_Within(d:Nat)(a b c:Int)(m:Mem):x14q (x14z (d+1)) x15 [I a,I b,I c] m=some (B (wi a b c),m):=by
 refine call0 rfl (m':=⟨[],1⟩) ?_ rfl
 rw[xxj]
 unfold x8n x7e wi
 by_cases h:b<=a<;>by_cases h2:a<=c<;>simp[h,h2,mem0]
theorem u_ints:Tryz.prog.underlying xa=some (.slice x15g):=by kernel_rfl
abbrev T(s:ByteArray):AV:=.sc (.string s)
abbrev U8(c:Int):AV:=.sc (.int .u8 c)
def u8E(b:UInt8):List AV:=[U8 b.toNat]
theorem x1du(b:UInt8):(u8E b).length=1:=rfl
theorem u8_ge(x y:Operand)(a b:Int):sBin Tryz.prog .geq x1 x y (U8 a) (U8 b)=some (B (decide (b<=a))):=by kernel_rfl
theorem u8_le(x y:Operand)(a b:Int):sBin Tryz.prog .leq x1 x y (U8 a) (U8 b)=some (B (decide (a<=b))):=by kernel_rfl
theorem u8_gt(x y:Operand)(a b:Int):sBin Tryz.prog .gtr x1 x y (U8 a) (U8 b)=some (B (decide (b<a))):=by kernel_rfl
theorem u8_lt(x y:Operand)(a b:Int):sBin Tryz.prog .lss x1 x y (U8 a) (U8 b)=some (B (decide (a<b))):=by kernel_rfl
theorem x17o(x y:Operand)(a b:Int):sBin Tryz.prog .eql x1 x y (U8 a) (U8 b)=some (B (decide (a=b))):=by kernel_rfl
theorem u8_ne(x y:Operand)(a b:Int):sBin Tryz.prog .neq x1 x y (U8 a) (U8 b)=some (B (!decide (a=b))):=by kernel_rfl
def teq(a b:ByteArray):Bool:=a.toList == b.toList
theorem t_eq(x y:Operand)(a b:ByteArray):sBin Tryz.prog .eql x0 x y (T a) (T b)=some (B (teq a b)):=by kernel_rfl
@[simp] theorem sLenS_T(s:ByteArray):x157 (T s)=some (I s.size):=rfl
theorem x1dv:Tryz.prog.underlying x7=some (.slice x1):=by kernel_rfl
theorem u_u8:Tryz.prog.underlying x1=some (.int .u8):=by kernel_rfl
theorem u_str:Tryz.prog.underlying x0=some .string:=by kernel_rfl
theorem x1gu(s:ByteArray):sCvt Tryz.prog x0 x7 (T s)=some (.slit (s.data.toList.flatMap u8E) s.data.toList.length false):=by
 have e:(s.data.toList.map λb=>U8 b.toNat)=s.data.toList.flatMap u8E:=by
  induction s.data.toList with
  |nil=>rfl
  |cons b l ih=>rw[x1pi,x1ps,ih];rfl
 refine sCvt_0 ?_
 simp only[cvt0,x15b,x1b7,x1dv,u_u8,u_str]
 rw[e,x172 (z:=1) x1du s.data.toList,x1s3]
theorem idx_T{s:ByteArray}{k:Nat}(h:k<s.data.toList.length):sIdx Tryz.prog x0 (T s) (I k)=some (U8 (s.data.toList[k]).toNat):=by
 have:x150 Tryz.prog (Instr.index x0 (.string s) (.int .i64 k))=some (.int .u8 (s.data.toList[k]).toNat):=by
  have h2:s[k]?=some s.data.toList[k]:=by
   have h3:k<s.size:=by simpa using h
   rw[getElem?_pos s k h3]
   rfl
  simp only[Instr.index,asIntOf,asInt,underlying,program,Bind.bind,Sem.bind,x150,Pure.pure,u_str]
  rw[x1p0 (by omega),x1sy,h2]
  rfl
 have e:sIdx Tryz.prog x0 (T s) (I k)=(x150 Tryz.prog (Instr.index x0 (.string s) (.int .i64 k))).map x15m:=by
  simp only[sIdx,I,x15b]
 rw[e,this]
 rfl
def chOK(p:Bool)(c:Int):Bool:=(decide (97<=c)&&decide (c<=122))||(decide (65<=c)&&decide (c<=90))||(p&&(decide (c=45)||(decide (48<=c)&&decide (c<=57))))
def x18i:Nat->List UInt8->Bool
 |_,[]=>true
 |k,c::r=>chOK (decide (0<k)) c.toNat&&x18i (k+1) r
def nmOK(s:ByteArray):Bool:=decide (0<s.size)&&decide (s.size<=12)&&x18i 0 s.data.toList
theorem ld_u8{m:Mem}{l:List UInt8}{k:Nat}(hk:k<l.length):sLd false 1 (.plit ((l.drop k).flatMap u8E)) m=some (U8 l[k].toNat):=by
 rw[x1b2 hk,x1ps]
 rfl
abbrev Ints(a:AV)(l:List Int):Prop:=Sl intE a l
def exI(t:List Int)(e:Edge):Int:=at0 t e.to.toNat-at0 t e.fr.toNat+e.jump
def TurnsIn(t:List Int):Prop:=∀x∈t,-1000000<=x/\x<=1000000
theorem TurnsIn.get{t:List Int}(h:TurnsIn t)(k:Nat):-1000000<=at0 t k/\at0 t k<=1000000:=by
 unfold at0
 rw[x1q3]
 cases hk:t[k]? with
 |none=>simp
 |some x=>simpa using h x (x1py hk)
structure EdgeIn (n:Nat) (e:Edge):Prop where
 f0:0<=e.fr
 f1:e.fr<n
 t0:0<=e.to
 t1:e.to<n
 j0:-1000<=e.jump
 j1:e.jump<=1000
 w0:0<=e.wt
 w1:e.wt<=1000
end Go.Ix
set_option maxRecDepth 100000
namespace Go.Proofs.YtibmppgmjbpdmaaGreatDoor
open Go.ChangeShapes Go.WideShapes Go.ChangeAt Go.RowKit Go.Ix
theorem Tryz.own:ownKnob Tryz.prog.godebug=none:=by kernel_rfl
theorem Tryz.laidOut:laidOutB Tryz.prog=true:=by kernel_rfl
theorem sh_str{q:List AV}(h:Sh Tryz.prog x0 q):∃s,q=[T s]:=by
 have ht:Tryz.prog.underlying x0=some .string:=by kernel_rfl
 cases h with
 |string h' s hs=>exact⟨s,rfl⟩
 |int h'=>rw[ht]at h';cases h'
 |nilS h'=>rw[ht]at h';cases h'
 |slice h'=>rw[ht]at h';cases h'
 |bool h'=>rw[ht]at h';cases h'
 |float h'=>rw[ht]at h';cases h'
 |struct h'=>rw[ht]at h';cases h'
 |array h'=>rw[ht]at h';cases h'
theorem int_in{a:AV}(h:ArgSh Tryz.prog x15g a):∃n,a=I n:=by
 obtain⟨n,h,-⟩:=h.int (t:=x15g) (k:=.i64) (by kernel_rfl)
 exact⟨n,h⟩
theorem fs_of{t:TypeId}{l:List (TypeId×Nat)}(h:((Tryz.prog.underlying t).bind λd=>match d with | .struct fs=>some (fs.toList.map λf=>(f.type,f.offset))|_=>none)=some l):∃fs,Tryz.prog.underlying t=some (.struct fs)/\(fs.toList.map λf=>(f.type,f.offset))=l:=by
 cases hu:Tryz.prog.underlying t with
 |none=>rw[hu]at h;cases h
 |some d=>
  rw[hu]at h
  cases d<;>first|exact⟨_,rfl,by simpa using h⟩|cases h
end Go.Proofs.YtibmppgmjbpdmaaGreatDoor
namespace Go.Proofs.YtibmppgmjbpdmaaGreatDoor
open Go.ChangeShapes Go.WideShapes Go.ChangeAt Go.RowKit Go.Ix
def laid10:List (String×DataW Unit):=[("math/bits.deBruijn32tab",Rows.laid_math_bits_deBruijn32tab),("math/bits.deBruijn64tab",Rows.laid_math_bits_deBruijn64tab),("internal/strconv.uint64pow10",Rows.laid_internal_strconv_uint64pow10),("unicode/utf8.acceptRanges",Rows.laid_unicode_utf8_acceptRanges),("strconv.ErrRange",Rows.laid_strconv_ErrRange),("strconv.ErrSyntax",Rows.laid_strconv_ErrSyntax),("unicode/utf8.first",Rows.laid_unicode_utf8_first)]
theorem row_es(u:TypeId)(h:Tryz.prog.typeName? 3 u=some "*errors.errorString"):u=307:=
 typeName_ptr_named (nm:="errors.errorString") (by rw[show "*"++"errors.errorString" = "*errors.errorString" by decide];kernel_rfl) (by kernel_rfl) (by decide) u (by rw[show "*"++"errors.errorString" = "*errors.errorString" by decide];exact h)
theorem x1dw{P:Program}{W w':World}{n:String}{cs:Array Value}(hx:Ext (λb=>b<W.heap.size) W w')(h:W.var? P n=some cs):w'.var? P n=some cs:=by
 unfold World.var? at h ⊢
 cases hg:P.globalNamed n with
 |none=>simp[hg]at h
 |some g=>
  simp only[hg,x1ri]at h ⊢
  have hlt:g<W.heap.size:=by
   rcases x1pq g W.heap.size with h'|h'
   .exact h'
   .simp[x1qw h']at h
  rw[hx.same g hlt hlt]
  exact h
theorem known_laid{W:World}(h:laidMetH Tryz.prog laid10 W):∀w',Ext (λb=>b<W.heap.size) W w'->x18h Tryz.prog w':=by
 rw[MakeChecks.laidMetH_plain _ _ _ (by kernel_rfl)]at h
 intro w' hx
 have h1:Lib.TabIs Tryz.prog W "internal/strconv.uint64pow10" .u64 Lib.pow10Tab:=
  Lib.tabIs_of_head (g:=1) (t:=239) (e:=184) (n:=20) (by kernel_rfl) (by kernel_rfl) (by kernel_rfl) (by kernel_rfl) (by kernel_rfl) (by kernel_rfl) (rest:=[("unicode/utf8.acceptRanges",Rows.laid_unicode_utf8_acceptRanges),("strconv.ErrRange",Rows.laid_strconv_ErrRange),("strconv.ErrSyntax",Rows.laid_strconv_ErrSyntax),("unicode/utf8.first",Rows.laid_unicode_utf8_first)]) h.tail.tail
 obtain⟨a1,s1,hv1,-⟩:=laid_sentinel (g:=5) (ti:=87) (tp:=307) (te:=309) (ts:=9) h.tail.tail.tail.tail (by kernel_rfl) (by kernel_rfl) Tryz.underlying87 row_es Tryz.underlying307 Tryz.underlying309 rfl rfl Tryz.underlying9 (by kernel_rfl) (by kernel_rfl)
 obtain⟨a2,s2,hv2,-⟩:=laid_sentinel (g:=4) (ti:=87) (tp:=307) (te:=309) (ts:=9) h.tail.tail.tail.tail.tail (by kernel_rfl) (by kernel_rfl) Tryz.underlying87 row_es Tryz.underlying307 Tryz.underlying309 rfl rfl Tryz.underlying9 (by kernel_rfl) (by kernel_rfl)
 exact⟨λ_=>x1dw hx h1,λ_=>⟨⟨_,x1dw hx hv2,_,_,rfl⟩,_,x1dw hx hv1,_,_,rfl⟩⟩
theorem laid_fits(os:Os):(World.holding Tryz.prog os ⟨#[],#[],[]⟩).layFits Tryz.prog laid10 []=true:=by kernel_rfl
theorem x1ix(os:Os):(World.holding Tryz.prog os ⟨#[],#[],[]⟩).layIfaces Tryz.prog laid10 (World.laidAll Tryz.prog os laid10)=true:=by kernel_rfl
theorem laid_met(os:Os)(args:Array Value):laidMetH Tryz.prog laid10 ((World.laidAll Tryz.prog os laid10).forCall (λ_ _=>0) ⟨#[],args,[]⟩).memory:=by
 rw[MakeChecks.laidMetH_plain _ _ _ (by kernel_rfl)]
 exact laidMet_laidAll _ (laid_fits os) (x1ix os)
theorem mapsRowed10:mapsRowed Tryz.prog=true:=by kernel_rfl
theorem looks10:true=Tryz.prog.looks []:=by kernel_rfl
end Go.Proofs.YtibmppgmjbpdmaaGreatDoor
