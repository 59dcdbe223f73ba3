import Derived.Test.YtaoalekmhjclnaaGreatDoorRows
import Derived.Test.YtaoalekmhjclnaaGreatDoorFxLaw
import Derived.Test.YtaoalekmhjclnaaGreatDoorWg1
import Derived.Test.YtaoalekmhjclnaaGreatDoorCards
import Derived.Test.YtaoalekmhjclnaaGreatDoorTie
import Derived.Test.YtaoalekmhjclnaaGreatDoorWg0
import Derived.Stop.LaidErr
import Derived.LaidMore
import Derived.Lay
import Derived.SevenTiedAt
import Derived.Stop.Joined
set_option maxRecDepth 100000
namespace Go.Proofs.YtaoalekmhjclnaaGreatDoor
open Go.ChangeShapes Go.WideShapes Go.ChangeAt Go.RowKit Go.Ix
theorem Tryz.own:ownKnob Tryz.prog.godebug=none:=by kernel_rfl
theorem Tryz.laidOut:laidOutB Tryz.prog=true:=by kernel_rfl
theorem x1b8{q:List AV}(h:Sh Tryz.prog x17r q):∃n,q=[I n]:=by
 obtain⟨n,h,-⟩:=Sh.int_inv (t:=x17r) (k:=.i64) (by kernel_rfl) h
 exact⟨n,h⟩
theorem sh_str{q:List AV}(h:Sh Tryz.prog x0 q):∃s,q=[T s]:=by
 have ht:Tryz.prog.underlying x0=some .string:=by kernel_rfl
 cases h with
 |string h' s hs=>exact⟨s,rfl⟩
 |int h'=>rw[ht]at h';cases h'
 |nilS h'=>rw[ht]at h';cases h'
 |slice h'=>rw[ht]at h';cases h'
 |bool h'=>rw[ht]at h';cases h'
 |float h'=>rw[ht]at h';cases h'
 |struct h'=>rw[ht]at h';cases h'
 |array h'=>rw[ht]at h';cases h'
theorem sl_sh{α:Type}{enc:α->List AV}{P:Program}{t e:TypeId}{z:AV}(ht:P.underlying t=some (.slice e))(hr:∀r,r.length=P.cellsOf e->Sh P e r->∃x,r=enc x)(f:Sh P t [z]):∃l,Sl enc z l:=by
 rcases Sh.slice_inv ht f with h1|⟨rows,x,h1,h2,h3,h4⟩
 .simp at h1;exact⟨[],Or.inl ⟨h1,rfl⟩⟩
 .obtain⟨l,rfl⟩:=x1g4 (enc:=enc) λr hm=>hr r (h2 r hm) (h3 r hm)
  simp at h1
  exact⟨l,Or.inr ⟨x,by simpa[List.flatMap]using h1⟩⟩
theorem ints_sh{z:AV}(f:Sh Tryz.prog x6 [z]):∃l,Ints z l:=sl_sh (e:=x17r) (by kernel_rfl) (λ_ _ hr=>x1b8 hr) f
theorem ints_in{a:AV}(h:ArgSh Tryz.prog x6 a):∃l,Ints a l:=ints_sh (h.slice (t:=x6) (e:=x17r) (by kernel_rfl))
theorem two_sh{t:TypeId}{fs:Array Field}{r:List AV}(ht:Tryz.prog.underlying t=some (.struct fs))(hf:(fs.toList.map λf=>(f.type,f.offset))=[(x17r,0),(x17r,1)])(hc:Tryz.prog.cellsOf t=2)(h:Sh Tryz.prog t r):∃a b,r=[I a,I b]:=by
 obtain⟨hl,hff⟩:=Sh.struct_inv ht h
 rw[hc]at hl
 have hci:Tryz.prog.cellsOf x17r=1:=by kernel_rfl
 match r,hl with
 |[x,y],_=>
  have:∀p∈fs.toList.map (λf=>(f.type,f.offset)),Sh Tryz.prog p.1 (([x,y].drop p.2).take (Tryz.prog.cellsOf p.1)):=λp hp=>by
   obtain⟨f,hf,rfl⟩:=x1rr.mp hp
   exact hff f hf
  rw[hf]at this
  have a1:=this _ (x1r3 ..)
  have a2:=this (x17r,1) (by simp)
  simp only[hci,x1qm,x1u0,x1sn,x1ri]at a1 a2
  obtain⟨p,hp⟩:=x1b8 a1
  obtain⟨q,hq⟩:=x1b8 a2
  simp at hp hq
  exact⟨p,q,by rw[hp,hq]⟩
theorem fs_of{t:TypeId}{l:List (TypeId×Nat)}(h:((Tryz.prog.underlying t).bind λd=>match d with | .struct fs=>some (fs.toList.map λf=>(f.type,f.offset))|_=>none)=some l):∃fs,Tryz.prog.underlying t=some (.struct fs)/\(fs.toList.map λf=>(f.type,f.offset))=l:=by
 cases hu:Tryz.prog.underlying t with
 |none=>rw[hu]at h;cases h
 |some d=>
  rw[hu]at h
  cases d<;>first|exact⟨_,rfl,by simpa using h⟩|cases h
end Go.Proofs.YtaoalekmhjclnaaGreatDoor
namespace Go.Proofs.YtaoalekmhjclnaaGreatDoor
open Go.ChangeShapes Go.WideShapes Go.ChangeAt Go.RowKit Go.Ix
def laid10:List (String×DataW Unit):=[("math/bits.deBruijn32tab",Rows.laid_math_bits_deBruijn32tab),("math/bits.deBruijn64tab",Rows.laid_math_bits_deBruijn64tab),("internal/strconv.uint64pow10",Rows.laid_internal_strconv_uint64pow10),("unicode/utf8.acceptRanges",Rows.laid_unicode_utf8_acceptRanges),("strconv.ErrRange",Rows.laid_strconv_ErrRange),("strconv.ErrSyntax",Rows.laid_strconv_ErrSyntax),("unicode/utf8.first",Rows.laid_unicode_utf8_first)]
theorem row_es(u:TypeId)(h:Tryz.prog.typeName? 3 u=some "*errors.errorString"):u=314:=
 typeName_ptr_named (nm:="errors.errorString") (by rw[show "*"++"errors.errorString" = "*errors.errorString" by decide];kernel_rfl) (by kernel_rfl) (by decide) u (by rw[show "*"++"errors.errorString" = "*errors.errorString" by decide];exact h)
theorem x1g5{P:Program}{W w':World}{n:String}{cs:Array Value}(hx:Ext (λb=>b<W.heap.size) W w')(h:W.var? P n=some cs):w'.var? P n=some cs:=by
 unfold World.var? at h ⊢
 cases hg:P.globalNamed n with
 |none=>simp[hg]at h
 |some g=>
  simp only[hg,x1sr]at h ⊢
  have hlt:g<W.heap.size:=by
   rcases x1r8 g W.heap.size with h'|h'
   .exact h'
   .simp[x1s9 h']at h
  rw[hx.same g hlt hlt]
  exact h
theorem known_laid{W:World}(h:laidMetH Tryz.prog laid10 W):∀w',Ext (λb=>b<W.heap.size) W w'->x1c2 Tryz.prog w':=by
 rw[MakeChecks.laidMetH_plain _ _ _ (by kernel_rfl)]at h
 intro w' hx
 have h1:Lib.TabIs Tryz.prog W "internal/strconv.uint64pow10" .u64 Lib.pow10Tab:=
  Lib.tabIs_of_head (g:=3) (t:=318) (e:=295) (n:=20) (by kernel_rfl) (by kernel_rfl) (by kernel_rfl) (by kernel_rfl) (by kernel_rfl) (by kernel_rfl) (rest:=[("unicode/utf8.acceptRanges",Rows.laid_unicode_utf8_acceptRanges),("strconv.ErrRange",Rows.laid_strconv_ErrRange),("strconv.ErrSyntax",Rows.laid_strconv_ErrSyntax),("unicode/utf8.first",Rows.laid_unicode_utf8_first)]) h.tail.tail
 obtain⟨a1,s1,hv1,-⟩:=laid_sentinel (g:=2) (ti:=251) (tp:=314) (te:=316) (ts:=9) h.tail.tail.tail.tail (by kernel_rfl) (by kernel_rfl) Tryz.underlying251 row_es Tryz.underlying314 Tryz.underlying316 rfl rfl Tryz.underlying9 (by kernel_rfl) (by kernel_rfl)
 obtain⟨a2,s2,hv2,-⟩:=laid_sentinel (g:=1) (ti:=251) (tp:=314) (te:=316) (ts:=9) h.tail.tail.tail.tail.tail (by kernel_rfl) (by kernel_rfl) Tryz.underlying251 row_es Tryz.underlying314 Tryz.underlying316 rfl rfl Tryz.underlying9 (by kernel_rfl) (by kernel_rfl)
 exact⟨λ_=>x1g5 hx h1,λ_=>⟨⟨_,x1g5 hx hv2,_,_,rfl⟩,_,x1g5 hx hv1,_,_,rfl⟩⟩
theorem laid_fits(os:Os):(World.holding Tryz.prog os ⟨#[],#[],[]⟩).layFits Tryz.prog laid10 []=true:=by kernel_rfl
theorem x1k9(os:Os):(World.holding Tryz.prog os ⟨#[],#[],[]⟩).layIfaces Tryz.prog laid10 (World.laidAll Tryz.prog os laid10)=true:=by kernel_rfl
theorem laid_met(os:Os)(args:Array Value):laidMetH Tryz.prog laid10 ((World.laidAll Tryz.prog os laid10).forCall (λ_ _=>0) ⟨#[],args,[]⟩).memory:=by
 rw[MakeChecks.laidMetH_plain _ _ _ (by kernel_rfl)]
 exact laidMet_laidAll _ (laid_fits os) (x1k9 os)
theorem mapsRowed10:mapsRowed Tryz.prog=true:=by kernel_rfl
theorem looks10:true=Tryz.prog.looks []:=by kernel_rfl
end Go.Proofs.YtaoalekmhjclnaaGreatDoor
set_option linter.unusedSimpArgs false
namespace Go.Ix
open Go.Proofs
theorem x1g6(d:Nat)(a b c:Int)(m:Mem):x17e (x17h (d+1)) xc [I a,I b,I c] m=some (B (wi a b c),m):=by
 refine call0 rfl (m':=⟨[],1⟩) ?_ rfl
 rw[xzv]
 unfold xan x8u wi
 by_cases h:b<=a<;>by_cases h2:a<=c<;>simp[h,h2,mem0]
theorem x1av(d:Nat)(a:Int)(m:Mem):x17e (x17h (d+2)) xn [I a] m=some (B (wi a 0 1000000),m):=by
 refine call0 rfl (m':=⟨[],1⟩) ?_ rfl
 rw[x101]
 unfold xas x91
 simp[mem0,x1g6]
theorem x1bp(d:Nat)(a:Int)(m:Mem):x17e (x17h (d+2)) x12 [I a] m=some (B (wi a 0 1000000000),m):=by
 refine call0 rfl (m':=⟨[],1⟩) ?_ rfl
 rw[x100]
 unfold xar x90
 simp[mem0,x1g6]
theorem w_ranged(d:Nat)(b:Bool)(m:Mem):x17e (x17h (d+1)) xw [B b] m=some (I (bif b then 0 else 2),m):=by
 refine call0 rfl (m':=⟨[],1⟩) ?_ rfl
 rw[xzx]
 cases b<;>rfl
theorem x1ka(call:x17c)(hs:FHs)(u:Nat){s:ByteArray}{a:AV}(h:Sl u8E a s.data.toList)(hl:s.size<=1000):∀(suf:List UInt8) (k j:Nat) (m:Mem) (fc:Nat),s.data.toList.drop k=suf->suf.length<j ->
 x1z call hs u j (T s) a (I s.data.toList.length) (I k) m fc=some (B (x1ai k suf&&(decide (0<s.size)&&decide (s.size<=12))),m):=by
 intro suf
 have hsz:s.data.toList.length=s.size:=rfl
 have e0:teq s ⟨#[]⟩=decide (s.size=0):=by
  unfold teq
  rw[ByteArray.toList_eq,ByteArray.toList_eq]
  cases hs:s.data.toList with
  |nil=>
   have:s.size=0:=by show s.data.size=0;rw[<-x1s2,hs];rfl
   simp[this]
  |cons x r=>
   have:s.size=r.length+1:=by show s.data.size=_;rw[<-x1s2,hs];rfl
   simp[this]
 have tne (x y:Operand) (a b:ByteArray):sBin Tryz.prog .neq x0 x y (T a) (T b)=some (B (!teq a b)):=by kernel_rfl
 induction suf with
 |nil=>
  intro k j m fc hd hj
  obtain⟨j,rfl⟩:∃i,j=i+1:=⟨j-1,by simp at hj;omega⟩
  have hk:¬((k:Int)<(s.data.toList.length:Int)):=by have:=x1qx.mp hd;omega
  simp only[x1z]
  unfold x9e xd4
  simp only[x17x,hk,x1qj,x182,x17m,tne,e0]
  by_cases h0:s.size=0
  .simp[h0,x1ai]
  .simp[h0,x1ai,show 0<s.size by omega]
   try omega
 |cons e r ih=>
  intro k j m fc hd hj
  obtain⟨j,rfl⟩:∃i,j=i+1:=⟨j-1,by simp at hj;omega⟩
  obtain⟨hk,he,hd⟩:=x18t hd
  have hk':(k:Int)<(s.data.toList.length:Int):=by omega
  have ix:=h.ix u8E_len hk
  have ld:=ld_u8 (m:=m) hk
  have next:∀fc,x1z call hs u j (T s) a (I s.size) (I (w64 ((k:Int)+1))) m fc=some (B (x1ai (k+1) r&&(decide (0<s.size)&&decide (s.size<=12))),m):=λfc=>by
   rw[x17t (by omega) (by omega)]
   exact ih (k+1) j m fc hd (by simp at hj;omega)
  rw[he]at ld
  have hk0:decide ((k:Int)=0)=!decide (0<k):=by
   by_cases h:0<k<;>simp[h]<;>omega
  simp only[x1z]
  unfold x9e
  simp only[x17x,hk',x1qk,x184,x17m,ix,ld,u8_ge,u8_le,u8_eq,sW_t,sW_f]
  simp only[x1ai,chOK]
  generalize (e.toNat:Int)=c
  have r1:decide (c<48)=!decide (48<=c):=by by_cases h:48<=c<;>simp[h]<;>omega
  have r2:decide (57<c)=!decide (c<=57):=by by_cases h:c<=57<;>simp[h]<;>omega
  by_cases a1:97<=c<;>by_cases a2:c<=122<;>by_cases b1:65<=c<;>by_cases b2:c<=90<;>by_cases d1:48<=c<;>by_cases d2:c<=57<;>by_cases d0:c=45 <;>
   first
   |(exfalso;omega)
   |(by_cases hp:k=0
     .simp[a1,a2,b1,b2,d1,d2,d0,hp,u8_ge,u8_le,u8_eq,u8_ne,u8_lt,u8_gt,r1,r2]
      try (rw[hp]at next;exact next _)
     .simp[a1,a2,b1,b2,d1,d2,d0,hp,show 0<k by omega,u8_ge,u8_le,u8_eq,u8_ne,u8_lt,u8_gt,r1,r2,next])
theorem x1kb(d:Nat)(s:ByteArray)(m:Mem)(hl:s.size<=1000):x17e (x17h (d+1)) x1j [T s] m=some (B (nmOK s),m):=by
 refine call0 rfl (m':=⟨[],1⟩) ?_ rfl
 rw[x109]
 have hlen:sLen Tryz.prog x8 (.slit (s.data.toList.flatMap u8E) s.data.toList.length false)=some (I s.data.toList.length):=(Sl.lit (enc:=u8E) s.data.toList false).len u_bytes
 have hsz:s.data.toList.length=s.size:=rfl
 have hL:=λfc=>x1ka (x17h d) [] 0 (Sl.lit (enc:=u8E) s.data.toList false) hl s.data.toList 0 NN ⟨[],1⟩ fc rfl (by rw[x18k];omega)
 unfold xaz x9f xd5 nmOK
 simp only[cvt_bytes,hlen,x17m,mem0]
 have e:∀a b c:Bool,(c&&(a&&b))=(a&&b&&c):=by decide
 rw[<-e]
 exact hL _
def x1b9(s:ByteArray)(l:List ByteArray):Int:=bif !nmOK s then 4 else bif l.any (λy=>teq y s)then 5 else 0
theorem l_named(call:x17c)(u:Nat){s:ByteArray}{fv:AV}{l:List ByteArray}(hl:l.length<=1000)(hf:∀(k:Nat) (h:k<l.length) (m:Mem),∃m',x18j call [] 2 fv [I k] m=some (T l[k],m')):∀(suf:List ByteArray) (k j:Nat) (m:Mem) (fc:Nat),l.drop k=suf->suf.length<j ->
 ∃m',x2t call [] u j (T s) fv (I l.length) (I k) m fc=some (I (bif suf.any (λy=>teq y s)then 5 else 0),m'):=by
 intro suf
 induction suf with
 |nil=>
  intro k j m fc hd hj
  obtain⟨j,rfl⟩:∃i,j=i+1:=⟨j-1,by simp at hj;omega⟩
  have hk:¬((k:Int)<(l.length:Int)):=by have:=x1qx.mp hd;omega
  simp only[x2t]
  unfold x8v xc7
  simp[hk]
 |cons e r ih=>
  intro k j m fc hd hj
  obtain⟨j,rfl⟩:∃i,j=i+1:=⟨j-1,by simp at hj;omega⟩
  obtain⟨hk,he,hd⟩:=x18t hd
  have hk':(k:Int)<(l.length:Int):=by omega
  obtain⟨m1,h1⟩:=hf k hk m
  rw[he]at h1
  simp only[x2t]
  unfold x8v
  simp only[x17x,hk',x1qk,x184,x17m,h1,t_eq]
  cases ht:teq e s with
  |true=>simp[ht]
  |false=>
   obtain⟨m',h'⟩:=ih (k+1) j m1 (fc+10) hd (by simp at hj;omega)
   refine⟨m',?_⟩
   simp only[x182,x18r,x17m]
   rw[x17t (by omega) (by omega)]
   simp only[List.any_cons,ht,Bool.false_or]
   exact h'
theorem a_named(d:Nat){s:ByteArray}{fv:AV}{l:List ByteArray}(hs:s.size<=1000)(hl:l.length<=1000)(hf:∀(k:Nat) (h:k<l.length) (m:Mem),∃m',x18j (x17h (d+1)) [] 2 fv [I k] m=some (T l[k],m')):∃m',x17h (d+2) [] xi [T s,fv,I l.length] mem0=some (I (x1b9 s l),m'):=by
 rw[xzw]
 unfold xao x8w x1b9
 simp only[x1kb d s _ hs,x17m]
 cases hn:nmOK s with
 |false=>simp
 |true=>
  obtain⟨m',h'⟩:=l_named (x17h (d+1)) 0 (s:=s) hl hf l 0 NN ⟨[],1⟩ 6 rfl (by rw[x18k];omega)
  refine⟨m',?_⟩
  simp only[x1dh,x17m,x1sh,x182,x19o]
  unfold xc8
  exact h'
end Go.Ix
