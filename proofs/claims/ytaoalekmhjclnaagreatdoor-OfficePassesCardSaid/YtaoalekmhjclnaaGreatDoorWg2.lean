import Derived.Test.YtaoalekmhjclnaaGreatDoorWg1
import Derived.Test.YtaoalekmhjclnaaGreatDoorRows
import Derived.Test.YtaoalekmhjclnaaGreatDoorFxLaw
import Derived.Test.YtaoalekmhjclnaaGreatDoorCards
import Derived.Test.YtaoalekmhjclnaaGreatDoorTie
import Derived.Test.YtaoalekmhjclnaaGreatDoorWg0
import Derived.Stop.LaidErr
import Derived.LaidMore
import Derived.Lay
import Derived.SevenTiedAt
import Derived.Stop.Joined
set_option linter.unusedSimpArgs false
namespace Go.Ix
open Go.Proofs
abbrev Ints(a:AV)(l:List Int):Prop:=Sl intE a l
def TurnsIn(t:List Int):Prop:=∀x∈t,-1000000<=x/\x<=1000000
theorem TurnsIn.get{t:List Int}(h:TurnsIn t)(k:Nat):-1000000<=at0 t k/\at0 t k<=1000000:=by
 unfold at0
 rw[x1p2]
 cases hk:t[k]? with
 |none=>simp
 |some x=>simpa using h x (x1or hk)
end Go.Ix
set_option maxRecDepth 100000
namespace Go.Proofs.YtaoalekmhjclnaaGreatDoor
open Go.ChangeShapes Go.WideShapes Go.ChangeAt Go.RowKit Go.Ix
theorem Tryz.own:ownKnob Tryz.prog.godebug=none:=by kernel_rfl
theorem Tryz.laidOut:laidOutB Tryz.prog=true:=by kernel_rfl
theorem x192{q:List AV}(h:Sh Tryz.prog x15u q):∃n,q=[I n]:=by
 obtain⟨n,h,-⟩:=Sh.int_inv (t:=x15u) (k:=.i64) (by kernel_rfl) h
 exact⟨n,h⟩
theorem sh_str{q:List AV}(h:Sh Tryz.prog x0 q):∃s,q=[T s]:=by
 have ht:Tryz.prog.underlying x0=some .string:=by kernel_rfl
 cases h with
 |string h' s hs=>exact⟨s,rfl⟩
 |int h'=>rw[ht]at h';cases h'
 |nilS h'=>rw[ht]at h';cases h'
 |slice h'=>rw[ht]at h';cases h'
 |bool h'=>rw[ht]at h';cases h'
 |float h'=>rw[ht]at h';cases h'
 |struct h'=>rw[ht]at h';cases h'
 |array h'=>rw[ht]at h';cases h'
theorem sl_sh{α:Type}{enc:α->List AV}{P:Program}{t e:TypeId}{z:AV}(ht:P.underlying t=some (.slice e))(hr:∀r,r.length=P.cellsOf e->Sh P e r->∃x,r=enc x)(f:Sh P t [z]):∃l,Sl enc z l:=by
 rcases Sh.slice_inv ht f with h1|⟨rows,x,h1,h2,h3,h4⟩
 .simp at h1;exact⟨[],Or.inl ⟨h1,rfl⟩⟩
 .obtain⟨l,rfl⟩:=x1dw (enc:=enc) λr hm=>hr r (h2 r hm) (h3 r hm)
  simp at h1
  exact⟨l,Or.inr ⟨x,by simpa[List.flatMap]using h1⟩⟩
theorem ints_sh{z:AV}(f:Sh Tryz.prog x4 [z]):∃l,Ints z l:=sl_sh (e:=x15u) (by kernel_rfl) (λ_ _ hr=>x192 hr) f
theorem ints_in{a:AV}(h:ArgSh Tryz.prog x4 a):∃l,Ints a l:=ints_sh (h.slice (t:=x4) (e:=x15u) (by kernel_rfl))
theorem two_sh{t:TypeId}{fs:Array Field}{r:List AV}(ht:Tryz.prog.underlying t=some (.struct fs))(hf:(fs.toList.map λf=>(f.type,f.offset))=[(x15u,0),(x15u,1)])(hc:Tryz.prog.cellsOf t=2)(h:Sh Tryz.prog t r):∃a b,r=[I a,I b]:=by
 obtain⟨hl,hff⟩:=Sh.struct_inv ht h
 rw[hc]at hl
 have hci:Tryz.prog.cellsOf x15u=1:=by kernel_rfl
 match r,hl with
 |[x,y],_=>
  have:∀p∈fs.toList.map (λf=>(f.type,f.offset)),Sh Tryz.prog p.1 (([x,y].drop p.2).take (Tryz.prog.cellsOf p.1)):=λp hp=>by
   obtain⟨f,hf,rfl⟩:=x1p6.mp hp
   exact hff f hf
  rw[hf]at this
  have a1:=this _ (x1ok ..)
  have a2:=this (x15u,1) (by simp)
  simp only[hci,x1oh,x1rh,x1qd,x1qy]at a1 a2
  obtain⟨p,hp⟩:=x192 a1
  obtain⟨q,hq⟩:=x192 a2
  simp at hp hq
  exact⟨p,q,by rw[hp,hq]⟩
theorem fs_of{t:TypeId}{l:List (TypeId×Nat)}(h:((Tryz.prog.underlying t).bind λd=>match d with | .struct fs=>some (fs.toList.map λf=>(f.type,f.offset))|_=>none)=some l):∃fs,Tryz.prog.underlying t=some (.struct fs)/\(fs.toList.map λf=>(f.type,f.offset))=l:=by
 cases hu:Tryz.prog.underlying t with
 |none=>rw[hu]at h;cases h
 |some d=>
  rw[hu]at h
  cases d<;>first|exact⟨_,rfl,by simpa using h⟩|cases h
end Go.Proofs.YtaoalekmhjclnaaGreatDoor
namespace Go.Proofs.YtaoalekmhjclnaaGreatDoor
open Go.ChangeShapes Go.WideShapes Go.ChangeAt Go.RowKit Go.Ix
def laid10:List (String×DataW Unit):=[("math/bits.deBruijn32tab",Rows.laid_math_bits_deBruijn32tab),("math/bits.deBruijn64tab",Rows.laid_math_bits_deBruijn64tab),("internal/strconv.uint64pow10",Rows.laid_internal_strconv_uint64pow10),("unicode/utf8.acceptRanges",Rows.laid_unicode_utf8_acceptRanges),("strconv.ErrRange",Rows.laid_strconv_ErrRange),("strconv.ErrSyntax",Rows.laid_strconv_ErrSyntax),("unicode/utf8.first",Rows.laid_unicode_utf8_first)]
theorem row_es(u:TypeId)(h:Tryz.prog.typeName? 3 u=some "*errors.errorString"):u=314:=
 typeName_ptr_named (nm:="errors.errorString") (by rw[show "*"++"errors.errorString" = "*errors.errorString" by decide];kernel_rfl) (by kernel_rfl) (by decide) u (by rw[show "*"++"errors.errorString" = "*errors.errorString" by decide];exact h)
theorem x1dx{P:Program}{W w':World}{n:String}{cs:Array Value}(hx:Ext (λb=>b<W.heap.size) W w')(h:W.var? P n=some cs):w'.var? P n=some cs:=by
 unfold World.var? at h ⊢
 cases hg:P.globalNamed n with
 |none=>simp[hg]at h
 |some g=>
  simp only[hg,x1q3]at h ⊢
  have hlt:g<W.heap.size:=by
   rcases x1oq g W.heap.size with h'|h'
   .exact h'
   .simp[x1pl h']at h
  rw[hx.same g hlt hlt]
  exact h
theorem known_laid{W:World}(h:laidMetH Tryz.prog laid10 W):∀w',Ext (λb=>b<W.heap.size) W w'->x19y Tryz.prog w':=by
 rw[MakeChecks.laidMetH_plain _ _ _ (by kernel_rfl)]at h
 intro w' hx
 have h1:Lib.TabIs Tryz.prog W "internal/strconv.uint64pow10" .u64 Lib.pow10Tab:=
  Lib.tabIs_of_head (g:=3) (t:=318) (e:=295) (n:=20) (by kernel_rfl) (by kernel_rfl) (by kernel_rfl) (by kernel_rfl) (by kernel_rfl) (by kernel_rfl) (rest:=[("unicode/utf8.acceptRanges",Rows.laid_unicode_utf8_acceptRanges),("strconv.ErrRange",Rows.laid_strconv_ErrRange),("strconv.ErrSyntax",Rows.laid_strconv_ErrSyntax),("unicode/utf8.first",Rows.laid_unicode_utf8_first)]) h.tail.tail
 obtain⟨a1,s1,hv1,-⟩:=laid_sentinel (g:=2) (ti:=251) (tp:=314) (te:=316) (ts:=9) h.tail.tail.tail.tail (by kernel_rfl) (by kernel_rfl) Tryz.underlying251 row_es Tryz.underlying314 Tryz.underlying316 rfl rfl Tryz.underlying9 (by kernel_rfl) (by kernel_rfl)
 obtain⟨a2,s2,hv2,-⟩:=laid_sentinel (g:=1) (ti:=251) (tp:=314) (te:=316) (ts:=9) h.tail.tail.tail.tail.tail (by kernel_rfl) (by kernel_rfl) Tryz.underlying251 row_es Tryz.underlying314 Tryz.underlying316 rfl rfl Tryz.underlying9 (by kernel_rfl) (by kernel_rfl)
 exact⟨λ_=>x1dx hx h1,λ_=>⟨⟨_,x1dx hx hv2,_,_,rfl⟩,_,x1dx hx hv1,_,_,rfl⟩⟩
theorem laid_fits(os:Os):(World.holding Tryz.prog os ⟨#[],#[],[]⟩).layFits Tryz.prog laid10 []=true:=by kernel_rfl
theorem x1hy(os:Os):(World.holding Tryz.prog os ⟨#[],#[],[]⟩).layIfaces Tryz.prog laid10 (World.laidAll Tryz.prog os laid10)=true:=by kernel_rfl
theorem laid_met(os:Os)(args:Array Value):laidMetH Tryz.prog laid10 ((World.laidAll Tryz.prog os laid10).forCall (λ_ _=>0) ⟨#[],args,[]⟩).memory:=by
 rw[MakeChecks.laidMetH_plain _ _ _ (by kernel_rfl)]
 exact laidMet_laidAll _ (laid_fits os) (x1hy os)
theorem mapsRowed10:mapsRowed Tryz.prog=true:=by kernel_rfl
theorem looks10:true=Tryz.prog.looks []:=by kernel_rfl
end Go.Proofs.YtaoalekmhjclnaaGreatDoor
