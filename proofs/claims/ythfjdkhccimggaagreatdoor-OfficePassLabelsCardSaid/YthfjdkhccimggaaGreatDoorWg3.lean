import Derived.Test.YthfjdkhccimggaaGreatDoorCards
import Derived.Test.YthfjdkhccimggaaGreatDoorTie
import Derived.Test.YthfjdkhccimggaaGreatDoorWg0
import Derived.Test.YthfjdkhccimggaaGreatDoorWg2
import Derived.Stop.LaidErr
import Derived.LaidMore
import Derived.Lay
import Derived.SevenTiedAt
import Derived.Stop.Joined
import Derived.Test.YthfjdkhccimggaaGreatDoorWg1
set_option maxRecDepth 100000
namespace Go.Proofs.YthfjdkhccimggaaGreatDoor
open Go.ChangeShapes Go.WideShapes Go.ChangeAt Go.RowKit Go.Ix
def laid10:List (String×DataW Unit):=[("math/bits.deBruijn32tab",Rows.laid_math_bits_deBruijn32tab),("math/bits.deBruijn64tab",Rows.laid_math_bits_deBruijn64tab),("internal/strconv.uint64pow10",Rows.laid_internal_strconv_uint64pow10),("unicode/utf8.acceptRanges",Rows.laid_unicode_utf8_acceptRanges),("strconv.ErrRange",Rows.laid_strconv_ErrRange),("strconv.ErrSyntax",Rows.laid_strconv_ErrSyntax),("unicode/utf8.first",Rows.laid_unicode_utf8_first)]
theorem row_es(u:TypeId)(h:Tryz.prog.typeName? 3 u=some "*errors.errorString"):u=448:=
 typeName_ptr_named (nm:="errors.errorString") (by rw[show "*"++"errors.errorString" = "*errors.errorString" by decide];kernel_rfl) (by kernel_rfl) (by decide) u (by rw[show "*"++"errors.errorString" = "*errors.errorString" by decide];exact h)
theorem x1cd{P:Program}{W w':World}{n:String}{cs:Array Value}(hx:Ext (λb=>b<W.heap.size) W w')(h:W.var? P n=some cs):w'.var? P n=some cs:=by
 unfold World.var? at h ⊢
 cases hg:P.globalNamed n with
 |none=>simp[hg]at h
 |some g=>
  simp only[hg,x1o6]at h ⊢
  have hlt:g<W.heap.size:=by
   rcases x1mq g W.heap.size with h'|h'
   .exact h'
   .simp[x1np h']at h
  rw[hx.same g hlt hlt]
  exact h
theorem known_laid{W:World}(h:laidMetH Tryz.prog laid10 W):∀w',Ext (λb=>b<W.heap.size) W w'->x18m Tryz.prog w':=by
 rw[MakeChecks.laidMetH_plain _ _ _ (by kernel_rfl)]at h
 intro w' hx
 have h1:Lib.TabIs Tryz.prog W "internal/strconv.uint64pow10" .u64 Lib.pow10Tab:=
  Lib.tabIs_of_head (g:=1) (t:=418) (e:=356) (n:=20) (by kernel_rfl) (by kernel_rfl) (by kernel_rfl) (by kernel_rfl) (by kernel_rfl) (by kernel_rfl) (rest:=[("unicode/utf8.acceptRanges",Rows.laid_unicode_utf8_acceptRanges),("strconv.ErrRange",Rows.laid_strconv_ErrRange),("strconv.ErrSyntax",Rows.laid_strconv_ErrSyntax),("unicode/utf8.first",Rows.laid_unicode_utf8_first)]) h.tail.tail
 obtain⟨a1,s1,hv1,-⟩:=laid_sentinel (g:=3) (ti:=253) (tp:=448) (te:=450) (ts:=9) h.tail.tail.tail.tail (by kernel_rfl) (by kernel_rfl) Tryz.underlying253 row_es Tryz.underlying448 Tryz.underlying450 rfl rfl Tryz.underlying9 (by kernel_rfl) (by kernel_rfl)
 obtain⟨a2,s2,hv2,-⟩:=laid_sentinel (g:=2) (ti:=253) (tp:=448) (te:=450) (ts:=9) h.tail.tail.tail.tail.tail (by kernel_rfl) (by kernel_rfl) Tryz.underlying253 row_es Tryz.underlying448 Tryz.underlying450 rfl rfl Tryz.underlying9 (by kernel_rfl) (by kernel_rfl)
 exact⟨λ_=>x1cd hx h1,λ_=>⟨⟨_,x1cd hx hv2,_,_,rfl⟩,_,x1cd hx hv1,_,_,rfl⟩⟩
theorem laid_fits(os:Os):(World.holding Tryz.prog os ⟨#[],#[],[]⟩).layFits Tryz.prog laid10 []=true:=by kernel_rfl
theorem x1gb(os:Os):(World.holding Tryz.prog os ⟨#[],#[],[]⟩).layIfaces Tryz.prog laid10 (World.laidAll Tryz.prog os laid10)=true:=by kernel_rfl
theorem laid_met(os:Os)(args:Array Value):laidMetH Tryz.prog laid10 ((World.laidAll Tryz.prog os laid10).forCall (λ_ _=>0) ⟨#[],args,[]⟩).memory:=by
 rw[MakeChecks.laidMetH_plain _ _ _ (by kernel_rfl)]
 exact laidMet_laidAll _ (laid_fits os) (x1gb os)
theorem mapsRowed10:mapsRowed Tryz.prog=true:=by kernel_rfl
theorem looks10:true=Tryz.prog.looks []:=by kernel_rfl
end Go.Proofs.YthfjdkhccimggaaGreatDoor
set_option linter.unusedSimpArgs false
namespace Go.Ix
open Go.Proofs
theorem x1aw(d:Nat)(a b c:Int)(m:Mem):x14e (x14k (d+1)) xb [I a,I b,I c] m=some (B (wi a b c),m):=by
 refine call0 rfl (m':=⟨[],1⟩) ?_ rfl
 rw[xxb]
 unfold x8v x7o wi
 by_cases h:b<=a<;>by_cases h2:a<=c<;>simp[h,h2,mem0]
theorem x17j(d:Nat)(a:Int)(m:Mem):x14e (x14k (d+2)) xl [I a] m=some (B (wi a 0 1000000),m):=by
 refine call0 rfl (m':=⟨[],1⟩) ?_ rfl
 rw[xxl]
 unfold x94 x83
 simp[mem0,x1aw]
theorem x18a(d:Nat)(a:Int)(m:Mem):x14e (x14k (d+2)) xz [I a] m=some (B (wi a 0 1000000000),m):=by
 refine call0 rfl (m':=⟨[],1⟩) ?_ rfl
 rw[xxk]
 unfold x93 x82
 simp[mem0,x1aw]
theorem w_ranged(d:Nat)(b:Bool)(m:Mem):x14e (x14k (d+1)) xq [B b] m=some (I (bif b then 0 else 2),m):=by
 refine call0 rfl (m':=⟨[],1⟩) ?_ rfl
 rw[xxd]
 cases b<;>rfl
theorem x1gc(call:x14d)(hs:FHs)(u:Nat){s:ByteArray}{a:AV}(h:Sl u8E a s.data.toList)(hl:s.size<=1000):∀(suf:List UInt8) (k j:Nat) (m:Mem) (fc:Nat),s.data.toList.drop k=suf->suf.length<j ->
 x1s call hs u j (T s) a (I s.data.toList.length) (I k) m fc=some (B (x173 k suf&&(decide (0<s.size)&&decide (s.size<=12))),m):=by
 intro suf
 have hsz:s.data.toList.length=s.size:=rfl
 have e0:teq s ⟨#[]⟩=decide (s.size=0):=by
  unfold teq
  rw[ByteArray.toList_eq,ByteArray.toList_eq]
  cases hs:s.data.toList with
  |nil=>
   have:s.size=0:=by show s.data.size=0;rw[<-x1ni,hs];rfl
   simp[this]
  |cons x r=>
   have:s.size=r.length+1:=by show s.data.size=_;rw[<-x1ni,hs];rfl
   simp[this]
 have tne (x y:Operand) (a b:ByteArray):sBin Tryz.prog .neq x0 x y (T a) (T b)=some (B (!teq a b)):=by kernel_rfl
 induction suf with
 |nil=>
  intro k j m fc hd hj
  obtain⟨j,rfl⟩:∃i,j=i+1:=⟨j-1,by simp at hj;omega⟩
  have hk:¬((k:Int)<(s.data.toList.length:Int)):=by have:=x1mu.mp hd;omega
  simp only[x1s]
  unfold x86 xb3
  simp only[x16k,hk,x1n7,x189,x15d,tne,e0]
  by_cases h0:s.size=0
  .simp[h0,x173]
  .simp[h0,x173,show 0<s.size by omega]
   try omega
 |cons e r ih=>
  intro k j m fc hd hj
  obtain⟨j,rfl⟩:∃i,j=i+1:=⟨j-1,by simp at hj;omega⟩
  obtain⟨hk,he,hd⟩:=x160 hd
  have hk':(k:Int)<(s.data.toList.length:Int):=by omega
  have ix:=h.ix u8E_len hk
  have ld:=ld_u8 (m:=m) hk
  have next:∀fc,x1s call hs u j (T s) a (I s.size) (I (w64 ((k:Int)+1))) m fc=some (B (x173 (k+1) r&&(decide (0<s.size)&&decide (s.size<=12))),m):=λfc=>by
   rw[x153 (by omega) (by omega)]
   exact ih (k+1) j m fc hd (by simp at hj;omega)
  rw[he]at ld
  have hk0:decide ((k:Int)=0)=!decide (0<k):=by
   by_cases h:0<k<;>simp[h]<;>omega
  simp only[x1s]
  unfold x86
  simp only[x16k,hk',x1nh,x17f,x15d,ix,ld,u8_ge,u8_le,u8_eq,sW_t,sW_f]
  simp only[x173,chOK]
  generalize (e.toNat:Int)=c
  have r1:decide (c<48)=!decide (48<=c):=by by_cases h:48<=c<;>simp[h]<;>omega
  have r2:decide (57<c)=!decide (c<=57):=by by_cases h:c<=57<;>simp[h]<;>omega
  by_cases a1:97<=c<;>by_cases a2:c<=122<;>by_cases b1:65<=c<;>by_cases b2:c<=90<;>by_cases d1:48<=c<;>by_cases d2:c<=57<;>by_cases d0:c=45 <;>
   first
   |(exfalso;omega)
   |(by_cases hp:k=0
     .simp[a1,a2,b1,b2,d1,d2,d0,hp,u8_ge,u8_le,u8_eq,u8_ne,u8_lt,u8_gt,r1,r2]
      try (rw[hp]at next;exact next _)
     .simp[a1,a2,b1,b2,d1,d2,d0,hp,show 0<k by omega,u8_ge,u8_le,u8_eq,u8_ne,u8_lt,u8_gt,r1,r2,next])
theorem x1gd(d:Nat)(s:ByteArray)(m:Mem)(hl:s.size<=1000):x14e (x14k (d+1)) x1d [T s] m=some (B (nmOK s),m):=by
 refine call0 rfl (m':=⟨[],1⟩) ?_ rfl
 rw[xxm]
 have hlen:sLen Tryz.prog x8 (.slit (s.data.toList.flatMap u8E) s.data.toList.length false)=some (I s.data.toList.length):=(Sl.lit (enc:=u8E) s.data.toList false).len u_bytes
 have hsz:s.data.toList.length=s.size:=rfl
 have hL:=λfc=>x1gc (x14k d) [] 0 (Sl.lit (enc:=u8E) s.data.toList false) hl s.data.toList 0 NN ⟨[],1⟩ fc rfl (by rw[x16g];omega)
 unfold x95 x87 xb4 nmOK
 simp only[cvt_bytes,hlen,x15d,mem0]
 have e:∀a b c:Bool,(c&&(a&&b))=(a&&b&&c):=by decide
 rw[<-e]
 exact hL _
def x17t(s:ByteArray)(l:List ByteArray):Int:=bif !nmOK s then 4 else bif l.any (λy=>teq y s)then 5 else 0
theorem l_named(call:x14d)(u:Nat){s:ByteArray}{fv:AV}{l:List ByteArray}(hl:l.length<=1000)(hf:∀(k:Nat) (h:k<l.length) (m:Mem),∃m',x15j call [] 2 fv [I k] m=some (T l[k],m')):∀(suf:List ByteArray) (k j:Nat) (m:Mem) (fc:Nat),l.drop k=suf->suf.length<j ->
 ∃m',x2c call [] u j (T s) fv (I l.length) (I k) m fc=some (I (bif suf.any (λy=>teq y s)then 5 else 0),m'):=by
 intro suf
 induction suf with
 |nil=>
  intro k j m fc hd hj
  obtain⟨j,rfl⟩:∃i,j=i+1:=⟨j-1,by simp at hj;omega⟩
  have hk:¬((k:Int)<(l.length:Int)):=by have:=x1mu.mp hd;omega
  simp only[x2c]
  unfold x7p xab
  simp[hk]
 |cons e r ih=>
  intro k j m fc hd hj
  obtain⟨j,rfl⟩:∃i,j=i+1:=⟨j-1,by simp at hj;omega⟩
  obtain⟨hk,he,hd⟩:=x160 hd
  have hk':(k:Int)<(l.length:Int):=by omega
  obtain⟨m1,h1⟩:=hf k hk m
  rw[he]at h1
  simp only[x2c]
  unfold x7p
  simp only[x16k,hk',x1nh,x17f,x15d,h1,t_eq]
  cases ht:teq e s with
  |true=>simp[ht]
  |false=>
   obtain⟨m',h'⟩:=ih (k+1) j m1 (fc+10) hd (by simp at hj;omega)
   refine⟨m',?_⟩
   simp only[x189,sAdd_I,x15d]
   rw[x153 (by omega) (by omega)]
   simp only[List.any_cons,ht,Bool.false_or]
   exact h'
theorem a_named(d:Nat){s:ByteArray}{fv:AV}{l:List ByteArray}(hs:s.size<=1000)(hl:l.length<=1000)(hf:∀(k:Nat) (h:k<l.length) (m:Mem),∃m',x15j (x14k (d+1)) [] 2 fv [I k] m=some (T l[k],m')):∃m',x14k (d+2) [] xh [T s,fv,I l.length] mem0=some (I (x17t s l),m'):=by
 rw[xxc]
 unfold x8w x7q x17t
 simp only[x1gd d s _ hs,x15d]
 cases hn:nmOK s with
 |false=>simp
 |true=>
  obtain⟨m',h'⟩:=l_named (x14k (d+1)) 0 (s:=s) hl hf l 0 NN ⟨[],1⟩ 6 rfl (by rw[x16g];omega)
  refine⟨m',?_⟩
  simp only[sNot_B,x15d,x1oe,x189,x16e]
  unfold xac
  exact h'
end Go.Ix
