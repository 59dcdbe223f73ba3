import Derived.Test.YtbcmiinhjgbkdaaGreatDoorWg3
import Derived.Test.YtbcmiinhjgbkdaaGreatDoorCards
import Derived.Test.YtbcmiinhjgbkdaaGreatDoorTie
import Derived.Test.YtbcmiinhjgbkdaaGreatDoorWg1
import Derived.Stop.LaidErr
import Derived.LaidMore
import Derived.Lay
import Derived.SevenTiedAt
import Derived.Stop.Joined
import Derived.Test.YtbcmiinhjgbkdaaGreatDoorIxA
import Derived.Lib.AtoiAll
import Derived.Laws.Strings
import Derived.Test.YtbcmiinhjgbkdaaGreatDoorWg2
set_option maxRecDepth 100000
namespace Go.Proofs.YtbcmiinhjgbkdaaGreatDoor
open Go.ChangeShapes Go.WideShapes Go.ChangeAt Go.RowKit Go.Ix
theorem text_in{a:AV}(h:ArgSh Tryz.prog x0 a):∃s,a=T s:=by
 have ht:Tryz.prog.underlying x0=some .string:=by kernel_rfl
 unfold ArgSh at h
 rw[ht]at h
 obtain⟨s,hs⟩:=sh_str h
 exact⟨s,by simpa using hs⟩
end Go.Proofs.YtbcmiinhjgbkdaaGreatDoor
namespace Go.Proofs.YtbcmiinhjgbkdaaGreatDoor
open Go.ChangeShapes Go.WideShapes Go.ChangeAt Go.RowKit Go.Ix
def laid10:List (String×DataW Unit):=[("math/bits.deBruijn32tab",Rows.laid_math_bits_deBruijn32tab),("math/bits.deBruijn64tab",Rows.laid_math_bits_deBruijn64tab),("internal/strconv.uint64pow10",Rows.laid_internal_strconv_uint64pow10),("unicode/utf8.acceptRanges",Rows.laid_unicode_utf8_acceptRanges),("strconv.ErrRange",Rows.laid_strconv_ErrRange),("strconv.ErrSyntax",Rows.laid_strconv_ErrSyntax),("unicode/utf8.first",Rows.laid_unicode_utf8_first)]
theorem row_es(u:TypeId)(h:Tryz.prog.typeName? 3 u=some "*errors.errorString"):u=234:=
 typeName_ptr_named (nm:="errors.errorString") (by rw[show "*"++"errors.errorString" = "*errors.errorString" by decide];kernel_rfl) (by kernel_rfl) (by decide) u (by rw[show "*"++"errors.errorString" = "*errors.errorString" by decide];exact h)
theorem x1b0{P:Program}{W w':World}{n:String}{cs:Array Value}(hx:Ext (λb=>b<W.heap.size) W w')(h:W.var? P n=some cs):w'.var? P n=some cs:=by
 unfold World.var? at h ⊢
 cases hg:P.globalNamed n with
 |none=>simp[hg]at h
 |some g=>
  simp only[hg,x1ov]at h ⊢
  have hlt:g<W.heap.size:=by
   rcases x1mv g W.heap.size with h'|h'
   .exact h'
   .simp[x1o7 h']at h
  rw[hx.same g hlt hlt]
  exact h
theorem known_laid{W:World}(h:laidMetH Tryz.prog laid10 W):∀w',Ext (λb=>b<W.heap.size) W w'->x14z Tryz.prog w':=by
 rw[MakeChecks.laidMetH_plain _ _ _ (by kernel_rfl)]at h
 intro w' hx
 have h1:Lib.TabIs Tryz.prog W "internal/strconv.uint64pow10" .u64 Lib.pow10Tab:=
  Lib.tabIs_of_head (g:=0) (t:=193) (e:=165) (n:=20) (by kernel_rfl) (by kernel_rfl) (by kernel_rfl) (by kernel_rfl) (by kernel_rfl) (by kernel_rfl) (rest:=[("unicode/utf8.acceptRanges",Rows.laid_unicode_utf8_acceptRanges),("strconv.ErrRange",Rows.laid_strconv_ErrRange),("strconv.ErrSyntax",Rows.laid_strconv_ErrSyntax),("unicode/utf8.first",Rows.laid_unicode_utf8_first)]) h.tail.tail
 obtain⟨a1,s1,hv1,-⟩:=laid_sentinel (g:=3) (ti:=72) (tp:=234) (te:=236) (ts:=9) h.tail.tail.tail.tail (by kernel_rfl) (by kernel_rfl) Tryz.underlying72 row_es Tryz.underlying234 Tryz.underlying236 rfl rfl Tryz.underlying9 (by kernel_rfl) (by kernel_rfl)
 obtain⟨a2,s2,hv2,-⟩:=laid_sentinel (g:=2) (ti:=72) (tp:=234) (te:=236) (ts:=9) h.tail.tail.tail.tail.tail (by kernel_rfl) (by kernel_rfl) Tryz.underlying72 row_es Tryz.underlying234 Tryz.underlying236 rfl rfl Tryz.underlying9 (by kernel_rfl) (by kernel_rfl)
 exact⟨λ_=>x1b0 hx h1,λ_=>⟨⟨_,x1b0 hx hv2,_,_,rfl⟩,_,x1b0 hx hv1,_,_,rfl⟩⟩
theorem laid_fits(os:Os):(World.holding Tryz.prog os ⟨#[],#[],[]⟩).layFits Tryz.prog laid10 []=true:=by kernel_rfl
theorem x1h0(os:Os):(World.holding Tryz.prog os ⟨#[],#[],[]⟩).layIfaces Tryz.prog laid10 (World.laidAll Tryz.prog os laid10)=true:=by kernel_rfl
theorem laid_met(os:Os)(args:Array Value):laidMetH Tryz.prog laid10 ((World.laidAll Tryz.prog os laid10).forCall (λ_ _=>0) ⟨#[],args,[]⟩).memory:=by
 rw[MakeChecks.laidMetH_plain _ _ _ (by kernel_rfl)]
 exact laidMet_laidAll _ (laid_fits os) (x1h0 os)
theorem mapsRowed10:mapsRowed Tryz.prog=true:=by kernel_rfl
theorem looks10:true=Tryz.prog.looks []:=by kernel_rfl
end Go.Proofs.YtbcmiinhjgbkdaaGreatDoor
set_option linter.unusedSimpArgs false
set_option linter.unusedVariables false
namespace Go.Ix
def isDig(c:UInt8):Bool:=decide (48<=c.toNat)&&decide (c.toNat<=57)
def valD(acc:Nat)(l:List UInt8):Nat:=l.foldl (λa c=>10*a+(c.toNat-48)) acc
def nbrM(l:List UInt8)(d:Nat):Option Int:=
 let r:=if l.head?=some 45 then l.tail else l
 if r=[]\/d<r.length\/(r.head?=some 48/\1<l.length)\/r.all isDig=false then none else some (if l.head?=some 45 then -(valD 0 r:Int)else valD 0 r)
theorem x16w{a b:UInt8}(h:a.toNat=b.toNat):a=b:=UInt8.toNat_inj.1 h
theorem x17u{u:Nat}(h:u<10):(UInt8.ofNat (48+u)).toNat=48+u:=by
 rw[UInt8.toNat_ofNat']
 omega
theorem x1e8{u:Nat}(h:u<10):isDig (UInt8.ofNat (48+u))=true:=by
 unfold isDig
 rw[x17u h]
 simp;omega
theorem x16x{c:UInt8}(h:isDig c=true):48<=c.toNat/\c.toNat<=57:=by
 unfold isDig at h
 simpa using h
theorem x1b1(acc:Nat)(l k:List UInt8):valD acc (l++k)=valD (valD acc l) k:=by
 unfold valD;rw[List.foldl_append]
theorem x17v(acc:Nat)(c:UInt8):valD acc [c]=10*acc+(c.toNat-48):=rfl
theorem x1b2:∀(l:List UInt8) (acc:Nat),acc<=valD acc l
 |[],acc=>x1m8 _
 |c::r,acc=>by
  have:=x1b2 r (10*acc+(c.toNat-48))
  show acc<=valD (10*acc+(c.toNat-48)) r
  omega
theorem x195:∀(l:List UInt8) (acc:Nat),l.all isDig=true->valD acc l<(acc+1)*10 ^ l.length
 |[],acc,_=>by simp[valD]
 |c::r,acc,h=>by
  rw[x1n4,x1m5]at h
  have hc:=x16x h.1
  have ih:=x195 r (10*acc+(c.toNat-48)) h.2
  show valD (10*acc+(c.toNat-48)) r<_
  rw[x1mf,Nat.pow_succ]
  have h2:(10*acc+(c.toNat-48)+1)*10 ^ r.length<=(acc+1)*10*10 ^ r.length:=x1no _ (by omega)
  rw[Nat.mul_assoc,Nat.mul_comm 10 (10 ^ r.length)]at h2
  omega
structure Digs (l:List UInt8) (u:Nat):Prop where
 all:l.all isDig=true
 val:valD 0 l=u
 ne:l≠[]
 hd:l.head?=some 48->l=[48]
theorem x16d:∀(k u:Nat),1<=k->u<10 ^ k->Digs (digF k u) u
 |0,u,h,_=>absurd h (by decide)
 |k+1,u,_,h=>by
  unfold digF
  by_cases c:u<10
  .rw[x1m1 c]
   refine⟨by rw[x1n4,x1e8 c];rfl,?_,by simp,?_⟩
   .rw[x17v,x17u c];omega
   .intro e
    simp only[List.head?_cons,x1m3]at e
    rw[e]
  .rw[x1m0 c]
   have hk:1<=k:=by
    rcases k with _|k
    .simp at h;omega
    .omega
   have ih:=x16d k (u / 10) hk (by rw[Nat.pow_succ]at h;omega)
   have hm:u % 10<10:=Nat.mod_lt _ (by omega)
   refine⟨by rw[x1pq,ih.all,x1n4,x1e8 hm];rfl,?_,by simp,?_⟩
   .rw[x1b1,ih.val,x17v,x17u hm];omega
   .intro e
    rw[List.head?_append]at e
    obtain⟨x,r,hx⟩:∃x r,digF k (u / 10)=x::r:=by
     cases h2:digF k (u / 10)with
     |nil=>exact absurd h2 ih.ne
     |cons x r=>exact⟨x,r,rfl⟩
    rw[hx]at e
    have e2:x=48:=by simpa using e
    have h3:=ih.hd (by rw[hx,e2];rfl)
    have h4:=ih.val
    rw[h3]at h4
    have:valD 0 [48]=0:=rfl
    omega
theorem digs_uniq:∀(l:List UInt8) (k:Nat),Digs l (valD 0 l)->l.length<=k->digF k (valD 0 l)=l:=by
 intro l
 induction hn:l.length generalizing l with
 |zero=>intro k h _;exact absurd (x1o3.1 hn) h.ne
 |succ n ih=>
  intro k h hk
  obtain⟨k,rfl⟩:∃j,k=j+1:=⟨k-1,by omega⟩
  obtain⟨r,c,rfl⟩:∃r c,l=r++[c]:=⟨l.dropLast,l.getLast h.ne,(List.dropLast_concat_getLast h.ne).symm⟩
  have ha:=h.all
  rw[x1pq,x1m5]at ha
  have hc:=x16x (by simpa using ha.2)
  have hrl:r.length=n:=by simpa using hn
  by_cases hr:r=[]
  .subst hr
   rw[x1od,x17v]
   unfold digF
   rw[x1m1 (by omega)]
   congr 1
   exact x16w (by rw[x17u (by omega)];omega)
  .obtain⟨x,r',rfl⟩:∃x r',r=x::r':=by
    cases r with
    |nil=>exact absurd rfl hr
    |cons x r'=>exact⟨x,r',rfl⟩
   have hx0:x≠48:=λe=>by
    have:=h.hd (by rw[e];rfl)
    simp at this
   have hxd:=x16x (c:=x) (by
    have:=ha.1
    rw[x1n4,x1m5]at this
    exact this.1)
   have hx1:49<=x.toNat:=by
    rcases x1mv x.toNat 49 with h1|h1
    .exact absurd (x16w (by show x.toNat=48;omega)) hx0
    .exact h1
   have hv:1<=valD 0 (x::r'):=by
    have:=x1b2 r' (10*0+(x.toNat-48))
    show 1<=valD (10*0+(x.toNat-48)) r'
    omega
   have hD:Digs (x::r') (valD 0 (x::r')):=⟨ha.1,rfl,by simp,λe=>by
    simp only[List.head?_cons,x1m3]at e
    exact absurd e hx0⟩
   have i1:=ih (x::r') hrl k hD (by omega)
   rw[x1b1,x17v]
   generalize valD 0 (x::r')=v at hv i1
   unfold digF
   rw[x1m0 (by omega),show(10*v+(c.toNat-48)) / 10=v from by omega,show(10*v+(c.toNat-48)) % 10=c.toNat-48 from by omega,i1]
   congr 2
   exact x16w (by rw[x17u (by omega)];omega)
theorem nbrM_dec{l:List UInt8}{d:Nat}{n:Int}(hd:d<=18)(h:nbrM l d=some n):decM n=l/\-1000000000000000000<n/\n<1000000000000000000:=by
 unfold nbrM at h
 dsimp only at h
 generalize hr:(if l.head?=some 45 then l.tail else l)=r at h
 by_cases hc:r=[]\/d<r.length\/(r.head?=some 48/\1<l.length)\/r.all isDig=false
 .rw[x1m1 hc]at h;cases h
 .rw[x1m0 hc]at h
  simp only[not_or,Bool.not_eq_false]at hc
  obtain⟨h1,h2,h3,h4⟩:=hc
  have hlt:=x195 r 0 h4
  have hp:10 ^ r.length<=10 ^ 18:=Nat.pow_le_pow_right (by omega) (by omega)
  have hz:∀hh:r.head?=some 48,r=[48]/\l.head?≠some 45:=by
   intro hh
   have h5:¬1<l.length:=λh6=>h3 ⟨hh,h6⟩
   by_cases c:l.head?=some 45
   .rw[x1m1 c]at hr
    cases l with
    |nil=>cases c
    |cons x t=>
     simp only[List.tail_cons]at hr
     simp only[x1mf]at h5
     have:t=[]:=x1o3.1 (by omega)
     rw[<-hr,this]at h1
     exact absurd rfl h1
   .rw[x1m0 c]at hr
    subst hr
    refine⟨?_,c⟩
    cases l with
    |nil=>cases hh
    |cons x t=>
     simp only[x1mf]at h5
     have:t=[]:=x1o3.1 (by omega)
     subst this
     simp only[List.head?_cons,x1m3]at hh
     rw[hh]
  have hD:Digs r (valD 0 r):=⟨h4,rfl,h1,λhh=>(hz hh).1⟩
  have hu:=digs_uniq r 20 hD (by omega)
  by_cases c:l.head?=some 45
  .rw[x1m1 c]at h hr
   cases h
   have hpos:0<valD 0 r:=by
    rcases Nat.eq_zero_or_pos (valD 0 r)with h0|h0
    .exfalso
     rw[h0]at hu
     have:r=[48]:=by rw[<-hu];rfl
     exact(hz (by rw[this];rfl)).2 c
    .exact h0
   refine⟨?_,by omega,by omega⟩
   unfold decM
   rw[x1m1 (by omega),show(-(valD 0 r:Int)).natAbs=valD 0 r from by omega,hu]
   cases l with
   |nil=>cases c
   |cons x t=>
    simp only[List.head?_cons,x1m3]at c
    rw[c,<-hr];rfl
  .rw[x1m0 c]at h hr
   cases h
   refine⟨?_,by omega,by omega⟩
   unfold decM
   rw[x1m0 (by omega),show((valD 0 r:Int)).toNat=valD 0 r from by omega,hu,hr]
theorem not45{c:UInt8}(h:isDig c=true):c≠45:=by
 rintro rfl
 exact absurd h (by decide)
def unsg(l:List UInt8):List UInt8:=if l.head?=some 45 then l.tail else l
theorem x1b3{n:Int}(h0:-9223372036854775808<=n)(h1:n<=9223372036854775807)(d:Nat):nbrM (decM n) d=if(unsg (decM n)).length<=d then some n else none:=by
 unfold decM
 by_cases c:n<0
 .rw[x1m1 c]
  have hD:=x16d 20 n.natAbs (by omega) (by omega)
  have hu:unsg (45::digF 20 n.natAbs)=digF 20 n.natAbs:=by unfold unsg;rw[x1m1 (show(45::digF 20 n.natAbs).head?=some 45 from rfl)];rfl
  rw[hu]
  unfold nbrM
  dsimp only
  rw[x1m1 (show(45::digF 20 n.natAbs).head?=some 45 from rfl),List.tail_cons]
  have hz:¬((digF 20 n.natAbs).head?=some 48/\1<(45::digF 20 n.natAbs).length):=by
   rintro⟨h2,-⟩
   have h3:=hD.val
   rw[hD.hd h2]at h3
   have:valD 0 [48]=0:=rfl
   omega
  by_cases c2:(digF 20 n.natAbs).length<=d
  .rw[x1m1 c2,x1m0 (by
    rintro(h|h|h|h)
    .exact hD.ne h
    .omega
    .exact hz h
    .rw[hD.all]at h;cases h),x1m1 (show(45::digF 20 n.natAbs).head?=some 45 from rfl),hD.val]
   congr 1
   omega
  .rw[x1m0 c2,x1m1 (.inr (.inl (by omega)))]
 .rw[x1m0 c]
  have hD:=x16d 20 n.toNat (by omega) (by omega)
  have hh:¬(digF 20 n.toNat).head?=some 45:=by
   cases h2:digF 20 n.toNat with
   |nil=>simp
   |cons x r=>
    have h3:=hD.all
    rw[h2,x1n4,x1m5]at h3
    simp only[List.head?_cons,x1m3]
    exact not45 h3.1
  have hu:unsg (digF 20 n.toNat)=digF 20 n.toNat:=by unfold unsg;rw[x1m0 hh]
  rw[hu]
  unfold nbrM
  dsimp only
  rw[x1m0 hh]
  have hz:¬((digF 20 n.toNat).head?=some 48/\1<(digF 20 n.toNat).length):=by
   rintro⟨h2,h3⟩
   rw[hD.hd h2]at h3
   simp at h3
  by_cases c2:(digF 20 n.toNat).length<=d
  .rw[x1m1 c2,x1m0 (by
    rintro(h|h|h|h)
    .exact hD.ne h
    .omega
    .exact hz h
    .rw[hD.all]at h;cases h),x1m0 hh,hD.val]
   congr 1
   omega
  .rw[x1m0 c2,x1m1 (.inr (.inl (by omega)))]
theorem x1b4:∀(l:List UInt8) (acc:Nat),l.all isDig=true->valD acc l<18446744073709551616->Lib.parseUint10 acc l=.ok (valD acc l)
 |[],acc,_,_=>rfl
 |c::r,acc,h,hv=>by
  rw[x1n4,x1m5]at h
  have hc:=x16x h.1
  have hv':valD (10*acc+(c.toNat-48)) r<18446744073709551616:=hv
  have hg:=x1b2 r (10*acc+(c.toNat-48))
  have ih:=x1b4 r (acc*10+(c.toNat-48)) h.2 (by rw[Nat.mul_comm acc 10];exact hv')
  unfold Lib.parseUint10
  rw[x1m1 hc,x1m0 (by omega),x1m0 (by omega),ih,Nat.mul_comm acc 10]
  rfl
theorem atoi_dec{n:Int}(h0:-9223372036854775808<=n)(h1:n<=9223372036854775807):Lib.atoiAll (decM n)=.ok n:=by
 unfold decM
 by_cases c:n<0
 .rw[x1m1 c]
  have hD:=x16d 20 n.natAbs (by omega) (by omega)
  have hp:Lib.parseMag (digF 20 n.natAbs)=.ok n.natAbs:=by
   unfold Lib.parseMag
   rw[x1m0 hD.ne,x1b4 _ 0 hD.all (by rw[hD.val];omega),hD.val]
  unfold Lib.atoiAll
  dsimp only
  rw[x1m1 (Or.inr (show(45:UInt8).toNat=45 from rfl)),hp]
  dsimp only
  rw[x1m0 (by
   rintro⟨h2,-⟩
   exact h2 rfl),x1m0 (by
   rintro⟨-,h2⟩
   omega),x1m1 (show(45:UInt8).toNat=45 from rfl)]
  congr 1
  omega
 .rw[x1m0 c]
  have hD:=x16d 20 n.toNat (by omega) (by omega)
  have hp:Lib.parseMag (digF 20 n.toNat)=.ok n.toNat:=by
   unfold Lib.parseMag
   rw[x1m0 hD.ne,x1b4 _ 0 hD.all (by rw[hD.val];omega),hD.val]
  cases h2:digF 20 n.toNat with
  |nil=>exact absurd h2 hD.ne
  |cons x r=>
   have h3:=hD.all
   rw[h2,x1n4,x1m5]at h3
   have hx:=x16x h3.1
   rw[h2]at hp
   unfold Lib.atoiAll
   dsimp only
   rw[x1m0 (by omega),hp]
   dsimp only
   rw[x1m0 (by
    rintro⟨-,h4⟩
    omega),x1m0 (by
    rintro⟨h4,-⟩
    omega),x1m0 (by omega)]
   congr 1
   omega
def tstM(w:List UInt8)(d:Nat):Option Int:=
 match Lib.atoiAll w with
 | .ok n=>if decM n=w/\(unsg w).length<=d then some n else none
 |_=>none
theorem atoi_in{w:List UInt8}{n:Int}(h:Lib.atoiAll w=.ok n):-9223372036854775808<=n/\n<=9223372036854775807:=by
 unfold Lib.atoiAll at h
 split at h
 .cases h
 .dsimp only at h
  split at h
  .cases h
  .cases h
  .rename_i u _
   split at h
   .cases h
   .split at h
    .cases h
    .injection h with h
     rename_i h2 h3
     split at h<;>omega
theorem tst_num(w:List UInt8){d:Nat}(hd:d<=18):tstM w d=nbrM w d:=by
 unfold tstM
 cases h:nbrM w d with
 |some n=>
  obtain⟨h1,h2,h3⟩:=nbrM_dec hd h
  have h4:=atoi_dec (n:=n) (by omega) (by omega)
  rw[h1]at h4
  rw[h4]
  have h5:=x1b3 (n:=n) (by omega) (by omega) d
  rw[h1,h]at h5
  dsimp only
  by_cases c:(unsg w).length<=d
  .rw[x1m1 ⟨h1,c⟩]
  .rw[x1m0 c]at h5;cases h5
 |none=>
  split
  .rename_i n h2
   obtain⟨h3,h4⟩:=atoi_in h2
   rw[x1m0]
   rintro⟨h5,h6⟩
   have h7:=x1b3 h3 h4 d
   rw[h5,h,x1m1 h6]at h7
   cases h7
  .rfl
def cutM(c:UInt8):List UInt8->List (List UInt8)
 |[]=>[[]]
 |x::r=>if x=c then[]::cutM c r else match cutM c r with
  |[]=>[[x]]
  |h::t=>(x::h)::t
theorem x16e(c:UInt8):∀l,cutM c l≠[]
 |[]=>by simp[cutM]
 |x::r=>by
  unfold cutM
  split
  .simp
  .split<;>simp
theorem x16y{c:UInt8}:∀{l:List UInt8},c∉l->cutM c l=[l]
 |[],_=>rfl
 |x::r,h=>by
  unfold cutM
  rw[x1m0 (λe=>h (by rw[e];exact x1mr)),x16y λe=>h (x1me _ e)]
theorem x16z{c:UInt8}:∀{l:List UInt8} (k:List UInt8),c∉l->cutM c (l++c::k)=l::cutM c k
 |[],k,_=>by
  show cutM c (c::k)=_
  rw[cutM,x1m1 rfl]
 |x::r,k,h=>by
  rw[x1np]
  rw[cutM]
  rw[x1m0 (λe=>h (by rw[e];exact x1mr)),x16z k λe=>h (x1me _ e)]
theorem x1b5{c:UInt8}:∀{ws:List (List UInt8)},ws≠[]->(∀w∈ws,c∉w)->cutM c (x123 [c] ws)=ws
 |[],h,_=>absurd rfl h
 |[w],_,h=>by
  show cutM c w=_
  exact x16y (h w (by simp))
 |w::x::r,_,h=>by
  have ih:=x1b5 (ws:=x::r) (by simp) λy hy=>h y (x1me _ hy)
  show cutM c (w++([c]++x123 [c] (x::r)))=_
  rw[x1pp,x16z _ (h w (by simp)),ih]
theorem x196(n:Int)(h0:-9223372036854775808<=n)(h1:n<=9223372036854775807):(32:UInt8)∉decM n:=by
 have key:∀u,u<10 ^ 20->(32:UInt8)∉digF 20 u:=λu hu h=>by
  have hD:=x16d 20 u (by omega) hu
  have:=x1m7.mp hD.all _ h
  exact absurd this (by decide)
 unfold decM
 split
 .intro h
  rcases x1ma.1 h with h|h
  .exact absurd h (by decide)
  .exact key _ (by omega) h
 .exact key _ (by omega)
open Go.Proofs
abbrev Tx(l:List UInt8):AV:=T ⟨l.toArray⟩
theorem t_add(x y:Operand){a b:ByteArray}(h:a.size+b.size<=9223372036854775807):sBin Tryz.prog .add x0 x y (T a) (T b)=some (T (a++b)):=by
 have e:x10w Tryz.prog (do eqGuard .add x0 x y (.string a) (.string b);binOp .add x0 (.string a) (.string b))=some (.string (a++b)):=by
  show x10w Tryz.prog (Op.stringOp .add a b)=_
  unfold Op.stringOp
  have hm:IntKind.i64.max=9223372036854775807:=by kernel_rfl
  simp only[]
  rw[x1m0 (by rw[hm];omega)]
  rfl
 refine sBin_0 ?_
 unfold bin0
 simp only[x118]
 rw[e];rfl
theorem t_ne(x y:Operand)(a b:ByteArray):sBin Tryz.prog .neq x0 x y (T a) (T b)=some (B (!(teq a b))):=by kernel_rfl
theorem x197{x:Int}{n:Nat}{code:BoundsCode}(h0:0<=x)(h1:x<=n):Instr.sliceBound (.int .i64 x) n code=Pure.pure x.toNat:=by
 show(if 0<=x/\x<=n then _ else _)=_
 rw[x1m1 ⟨h0,h1⟩]
theorem sl_run{s:ByteArray}{lo hi:Option Value}{l h:Nat}(hh:(match hi with|some v=>Instr.sliceBound v s.size .sliceAlen|none=>Pure.pure s.size)=(Pure.pure h:Sem Nat))(hl:(match lo with|some v=>Instr.sliceBound v h .sliceB|none=>Pure.pure 0)=(Pure.pure l:Sem Nat)) :
 x10w Tryz.prog (Instr.sliceAt x0 (.string s) lo hi none)=some (.string (s.extract l h)):=by
 have e:Instr.sliceBounds false s.size s.size lo hi none=(Pure.pure (l,h,s.size):Sem (Nat×Nat×Nat)):=by
  unfold Instr.sliceBounds
  cases hi with
  |none=>
   cases lo with
   |none=>
    simp only[Bind.bind,Sem.bind,Pure.pure,Sem.pure.injEq]at hh hl ⊢
    subst hh hl;rfl
   |some v=>
    simp only[Bind.bind,Sem.bind,Pure.pure,Sem.pure.injEq]at hh hl ⊢
    subst hh
    simp only[x1ot,x1mp,x1mg,hl]
    rfl
  |some u=>
   cases lo with
   |none=>
    simp only[Bind.bind,Sem.bind,Pure.pure]at hh hl ⊢
    simp only[x1mp,x1mg,hh]
    injection hl with hl
    subst hl;rfl
   |some v=>
    simp only[Bind.bind,Sem.bind,Pure.pure]at hh hl ⊢
    simp only[x1mp,x1mg,hh,x1ot]
    show(Instr.sliceBound v h BoundsCode.sliceB).bind (λl=>Sem.pure (l,h,s.size))=_
    rw[hl];rfl
 simp only[Instr.sliceAt,Instr.slice,underlying,program,Bind.bind,Sem.bind,x10w,Pure.pure,u_str,e,x1ot,x1mp,x1mg]
theorem sl_T{s:ByteArray}{lo hi:Nat}(h1:lo<=hi)(h2:hi<=s.size):x117 Tryz.prog x0 (T s) (some (I lo)) (some (I hi))=some (T (s.extract lo hi)):=by
 have e:=sl_run (s:=s) (lo:=some (.int .i64 lo)) (hi:=some (.int .i64 hi)) (l:=lo) (h:=hi) (x197 (by omega) (by omega)) (x197 (by omega) (by omega))
 show(x10w Tryz.prog (Instr.sliceAt x0 (.string s) (some (.int .i64 lo)) (some (.int .i64 hi)) none)).map x11l=_
 rw[e];rfl
theorem sl_To{s:ByteArray}{lo:Nat}(h1:lo<=s.size):x117 Tryz.prog x0 (T s) (some (I lo)) none=some (T (s.extract lo s.size)):=by
 have e:=sl_run (s:=s) (lo:=some (.int .i64 lo)) (hi:=none) (l:=lo) (h:=s.size) rfl (x197 (by omega) (by omega))
 show(x10w Tryz.prog (Instr.sliceAt x0 (.string s) (some (.int .i64 lo)) none none)).map x11l=_
 rw[e];rfl
theorem sl_oT{s:ByteArray}{hi:Nat}(h1:hi<=s.size):x117 Tryz.prog x0 (T s) none (some (I hi))=some (T (s.extract 0 hi)):=by
 have e:=sl_run (s:=s) (lo:=none) (hi:=some (.int .i64 hi)) (l:=0) (h:=hi) (x197 (by omega) (by omega)) rfl
 show(x10w Tryz.prog (Instr.sliceAt x0 (.string s) none (some (.int .i64 hi)) none)).map x11l=_
 rw[e];rfl
theorem c_u8(n:Int):sCvt Tryz.prog x111 x1 (I n)=some (U8 (IntKind.u8.wrap n)):=by kernel_rfl
theorem c_int(n:Int):sCvt Tryz.prog x1 x111 (U8 n)=some (I (IntKind.i64.wrap n)):=by kernel_rfl
theorem u8_sub(x y:Operand)(a b:Int):sBin Tryz.prog .sub x1 x y (U8 a) (U8 b)=some (U8 (IntKind.u8.wrap (a-b))):=by kernel_rfl
theorem txt_1(c:Int)(m:Mem):sTxt Tryz.prog xe x0 (.slit [U8 c] 1 true) m=some (T ⟨#[UInt8.ofNat c.toNat]⟩):=by kernel_rfl
theorem len_T(s:ByteArray):x114 (T s)=some (I s.size):=rfl
theorem x14i(l:List UInt8):(⟨l.toArray⟩:ByteArray).size=l.length:=by
 show l.toArray.size=_
 simp
theorem Tx_of(s:ByteArray):T s=Tx s.data.toList:=by
 cases s;rfl
theorem Tx_ext(l:List UInt8)(a b:Nat):(⟨l.toArray⟩:ByteArray).extract a b=⟨((l.drop a).take (b-a)).toArray⟩:=by
 apply ByteArray.ext
 rw[ByteArray.data_extract]
 apply x1pz.1
 simp[List.extract_eq_take_drop,List.take_drop]
theorem Tx_app(l k:List UInt8):(⟨l.toArray⟩:ByteArray)++⟨k.toArray⟩=⟨(l++k).toArray⟩:=by
 apply ByteArray.ext
 rw[ByteArray.data_append]
 simp
theorem x136(x y:Operand){l k:List UInt8}(h:l.length+k.length<=9223372036854775807):sBin Tryz.prog .add x0 x y (Tx l) (Tx k)=some (Tx (l++k)):=by
 rw[t_add x y (by rw[x14i,x14i];exact h),Tx_app]
theorem x120(l:List UInt8):x114 (Tx l)=some (I l.length):=by rw[len_T,x14i]
theorem x_sl{l:List UInt8}{lo hi:Nat}(h1:lo<=hi)(h2:hi<=l.length):x117 Tryz.prog x0 (Tx l) (some (I lo)) (some (I hi))=some (Tx ((l.drop lo).take (hi-lo))):=by
 rw[sl_T h1 (by rw[x14i];exact h2),Tx_ext]
theorem x_slo{l:List UInt8}{lo:Nat}(h1:lo<=l.length):x117 Tryz.prog x0 (Tx l) (some (I lo)) none=some (Tx (l.drop lo)):=by
 rw[sl_To (by rw[x14i];exact h1),Tx_ext,x14i,x1mb (by simp)]
theorem x_slh{l:List UInt8}{hi:Nat}(h1:hi<=l.length):x117 Tryz.prog x0 (Tx l) none (some (I hi))=some (Tx (l.take hi)):=by
 rw[sl_oT (by rw[x14i];exact h1),Tx_ext,x1mi,Nat.sub_zero]
theorem x170{l:List UInt8}{k:Nat}(h:k<l.length):sIdx Tryz.prog x0 (Tx l) (I k)=some (U8 (l[k]).toNat):=by
 rw[idx_T (s:=⟨l.toArray⟩) (by simpa using h)]
theorem teq_Tx(l k:List UInt8):teq ⟨l.toArray⟩ ⟨k.toArray⟩=decide (l=k):=by
 unfold teq
 rw[ByteArray.toList_eq,ByteArray.toList_eq,Bool.eq_iff_iff]
 simp
theorem x_eq(x y:Operand)(l k:List UInt8):sBin Tryz.prog .eql x0 x y (Tx l) (Tx k)=some (B (decide (l=k))):=by rw[t_eq,teq_Tx]
theorem x_ne(x y:Operand)(l k:List UInt8):sBin Tryz.prog .neq x0 x y (Tx l) (Tx k)=some (B (!(decide (l=k)))):=by rw[t_ne,teq_Tx]
end Go.Ix
namespace Go.Ix
variable{R:Type}{m:Mem}
theorem x198:∀l:List Int,l.flatMap intE=l.map I
 |[]=>rfl
 |x::l=>by rw[x1mj,x198 l];rfl
theorem x171(l:List Int):(l.flatMap intE).length=l.length:=by rw[x198];simp
abbrev srI(id:Id)(n:Nat):AV:=.sref id 0 0 n 1 true
@[simp high] theorem ldRow_int{l:List Int}{k:Nat}{fz:Bool}(hk:k<l.length):x16u false 1 0 k (some (.row (l.flatMap intE) 0 fz))=some (I (at0 l k)):=by
  simp only[x16u,Nat.beq_refl,cond_true,rd,x1mp,x1mg]
  rw[x198,<-List.map_drop,x151 hk,at0_lt hk]
  rfl
@[simp high] theorem stRow_int{l:List Int}{k:Nat}{v:Int}(hk:k<l.length):stRow 1 0 k (I v) (some (.row (l.flatMap intE) 0 false))=some (.row ((l.set k v).flatMap intE) 0 false):=by
  have h:(0:Nat)=0/\(I v).cells.length=1/\k+1<=(l.flatMap intE).length/\((I v).cells.all AV.one)=true:=⟨rfl,rfl,by rw[x171];omega,rfl⟩
  rw[x18y,x1n8 h,cond_true]
  simp only[x198,x11e,cells_I]
  congr 2
  rw[List.map_set,List.set_eq_take_append_cons_drop,x1m1 (by simpa using hk)]
  simp
end Go.Ix
namespace Go.Ix
open Go.Proofs
variable{α:Type}{z:Nat}{enc:α->List AV}{l:List α}{a:AV}
def Gq{α:Type}(z:Nat)(enc:α->List AV)(u:Nat)(T:List Nat)(m:Mem)(a:AV)(l:List α):Prop:=
 (a=nilS/\l=[])\/∃s t ver,t∈T/\a=.sref (u,s,t) ver 0 l.length z true/\m.get (u,s,t)=some (.row (l.flatMap enc) ver false)
theorem Gq.nil{u:Nat}{T:List Nat}{m:Mem}:Gq z enc u T m nilS []:=Or.inl ⟨rfl,rfl⟩
theorem Gq.frame{u:Nat}{T:List Nat}{m m':Mem}(h:Gq z enc u T m a l)(hm:∀s t,t∈T->m'.get (u,s,t)=m.get (u,s,t)):Gq z enc u T m' a l:=by
 rcases h with h|⟨s,t,ver,h0,h1,h2⟩
 .exact Or.inl h
 .exact Or.inr ⟨s,t,ver,h0,h1,by rw[hm _ _ h0];exact h2⟩
theorem Gq.app(hz:∀x,(enc x).length=z)(h0:0<z){u t0 s0 bytes:Nat}{T:List Nat}{m:Mem}(ht:t0∈T)(hr:x11c (l.length+1) bytes)(h:Gq z enc u T m a l)(x:α) :
 ∃a' m',(∀{R:Type} (k:AV->Mem->Option R),sApp z bytes (u,s0,t0) (some (enc x,1)) a m k=k a' m')/\Gq z enc u T m' a' (l++[x])/\m'.next=m.next/\∀j:Id,j.2.2∉T->m'.get j=m.get j:=by
 rcases h with ⟨rfl,rfl⟩|⟨s,t,ver,h1,rfl,hg⟩
 .refine⟨.sref (u,s0,t0) 0 0 1 z true,m.new (u,s0,t0) (.row (enc x) 0 false),λk=>?_,Or.inr ⟨s0,t0,0,ht,rfl,by simp⟩,rfl,λj hj=>?_⟩
  .simp only[sApp]
   rw[x1m0 (by omega),x1m1 (by simpa using hr)]
  .rw[Mem.get_new,x1m0 (by rintro rfl;exact hj ht)]
 .have hl:=x135 hz l
  refine⟨.sref (u,s,t) (ver+1) 0 (l.length+1) z true,m.set (u,s,t) (.row (l.flatMap enc++enc x) (ver+1) false),λk=>?_,Or.inr ⟨s,t,ver+1,h1,by simp,by simp⟩,rfl,λj hj=>?_⟩
  .simp only[sApp,hg]
   rw[x1m1 ⟨trivial,trivial,by omega,hr⟩,x1m0 (by omega),x1m0 (by rw[hl,x1nr];omega),x1mi,x1mb (by omega)]
  .rw[Mem.get_set,x1m0 (by rintro rfl;exact hj h1)]
theorem Gq.frz(hz:∀x,(enc x).length=z)(hs:∀x,(enc x).all still1=true){u:Nat}{T:List Nat}{m:Mem}(h:Gq z enc u T m a l):∃a',Sl enc a' l/\Go.Ix.frz m.get deep a=some a':=by
 rcases h with ⟨rfl,rfl⟩|⟨s,t,ver,_,rfl,hg⟩
 .exact⟨nilS,Or.inl ⟨rfl,rfl⟩,rfl⟩
 .have hl:=x135 hz l
  refine⟨.slit (l.flatMap enc) l.length false,Sl.lit l false,?_⟩
  have:=x15m (objs:=m.get) (id:=(u,s,t)) (cs:=l.flatMap enc) (ver:=ver) (off:=0) (n:=l.length) (z:=z) (k:=4) (f:=false) (x:=true) hg (by omega) (by
   rw[x1mi,x1mb (by omega)];exact x13c hs l)
  rw[x1mi,x1mb (by omega)]at this
  exact this
theorem Gq.len{u:Nat}{T:List Nat}{m:Mem}{t e:TypeId}(ht:Tryz.prog.underlying t=some (.slice e))(h:Gq z enc u T m a l):sLen Tryz.prog t a=some (I l.length):=by
 rcases h with ⟨rfl,rfl⟩|⟨s,t,ver,_,rfl,hg⟩
 .exact x17t ht
 .rfl
end Go.Ix
