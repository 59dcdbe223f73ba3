import Derived.Test.YtaoalekmhjclnaaGreatDoorCards
import Derived.Test.YtaoalekmhjclnaaGreatDoorTie
import Derived.Test.YtaoalekmhjclnaaGreatDoorWg0
import Derived.Test.YtaoalekmhjclnaaGreatDoorWg1
import Derived.Stop.LaidErr
import Derived.LaidMore
import Derived.Lay
import Derived.SevenTiedAt
import Derived.Stop.Joined
set_option maxRecDepth 100000
namespace Go.Proofs.YtaoalekmhjclnaaGreatDoor
open Go.ChangeShapes Go.WideShapes Go.ChangeAt Go.RowKit Go.Ix
def laid10:List (String×DataW Unit):=[("math/bits.deBruijn32tab",Rows.laid_math_bits_deBruijn32tab),("math/bits.deBruijn64tab",Rows.laid_math_bits_deBruijn64tab),("internal/strconv.uint64pow10",Rows.laid_internal_strconv_uint64pow10),("unicode/utf8.acceptRanges",Rows.laid_unicode_utf8_acceptRanges),("strconv.ErrRange",Rows.laid_strconv_ErrRange),("strconv.ErrSyntax",Rows.laid_strconv_ErrSyntax),("unicode/utf8.first",Rows.laid_unicode_utf8_first)]
theorem row_es(u:TypeId)(h:Tryz.prog.typeName? 3 u=some "*errors.errorString"):u=314:=
 typeName_ptr_named (nm:="errors.errorString") (by rw[show "*"++"errors.errorString" = "*errors.errorString" by decide];kernel_rfl) (by kernel_rfl) (by decide) u (by rw[show "*"++"errors.errorString" = "*errors.errorString" by decide];exact h)
theorem x1hd{P:Program}{W w':World}{n:String}{cs:Array Value}(hx:Ext (λb=>b<W.heap.size) W w')(h:W.var? P n=some cs):w'.var? P n=some cs:=by
 unfold World.var? at h ⊢
 cases hg:P.globalNamed n with
 |none=>simp[hg]at h
 |some g=>
  simp only[hg,x1uv]at h ⊢
  have hlt:g<W.heap.size:=by
   rcases x1ta g W.heap.size with h'|h'
   .exact h'
   .simp[x1ud h']at h
  rw[hx.same g hlt hlt]
  exact h
theorem known_laid{W:World}(h:laidMetH Tryz.prog laid10 W):∀w',Ext (λb=>b<W.heap.size) W w'->x1cy Tryz.prog w':=by
 rw[MakeChecks.laidMetH_plain _ _ _ (by kernel_rfl)]at h
 intro w' hx
 have h1:Lib.TabIs Tryz.prog W "internal/strconv.uint64pow10" .u64 Lib.pow10Tab:=
  Lib.tabIs_of_head (g:=3) (t:=318) (e:=295) (n:=20) (by kernel_rfl) (by kernel_rfl) (by kernel_rfl) (by kernel_rfl) (by kernel_rfl) (by kernel_rfl) (rest:=[("unicode/utf8.acceptRanges",Rows.laid_unicode_utf8_acceptRanges),("strconv.ErrRange",Rows.laid_strconv_ErrRange),("strconv.ErrSyntax",Rows.laid_strconv_ErrSyntax),("unicode/utf8.first",Rows.laid_unicode_utf8_first)]) h.tail.tail
 obtain⟨a1,s1,hv1,-⟩:=laid_sentinel (g:=2) (ti:=251) (tp:=314) (te:=316) (ts:=9) h.tail.tail.tail.tail (by kernel_rfl) (by kernel_rfl) Tryz.underlying251 row_es Tryz.underlying314 Tryz.underlying316 rfl rfl Tryz.underlying9 (by kernel_rfl) (by kernel_rfl)
 obtain⟨a2,s2,hv2,-⟩:=laid_sentinel (g:=1) (ti:=251) (tp:=314) (te:=316) (ts:=9) h.tail.tail.tail.tail.tail (by kernel_rfl) (by kernel_rfl) Tryz.underlying251 row_es Tryz.underlying314 Tryz.underlying316 rfl rfl Tryz.underlying9 (by kernel_rfl) (by kernel_rfl)
 exact⟨λ_=>x1hd hx h1,λ_=>⟨⟨_,x1hd hx hv2,_,_,rfl⟩,_,x1hd hx hv1,_,_,rfl⟩⟩
theorem laid_fits(os:Os):(World.holding Tryz.prog os ⟨#[],#[],[]⟩).layFits Tryz.prog laid10 []=true:=by kernel_rfl
theorem x1lz(os:Os):(World.holding Tryz.prog os ⟨#[],#[],[]⟩).layIfaces Tryz.prog laid10 (World.laidAll Tryz.prog os laid10)=true:=by kernel_rfl
theorem laid_met(os:Os)(args:Array Value):laidMetH Tryz.prog laid10 ((World.laidAll Tryz.prog os laid10).forCall (λ_ _=>0) ⟨#[],args,[]⟩).memory:=by
 rw[MakeChecks.laidMetH_plain _ _ _ (by kernel_rfl)]
 exact laidMet_laidAll _ (laid_fits os) (x1lz os)
theorem mapsRowed10:mapsRowed Tryz.prog=true:=by kernel_rfl
theorem looks10:true=Tryz.prog.looks []:=by kernel_rfl
end Go.Proofs.YtaoalekmhjclnaaGreatDoor
set_option linter.unusedSimpArgs false
namespace Go.Ix
open Go.Proofs
theorem x1do(d:Nat)(a b c:Int)(m:Mem):x17z (x180 (d+1)) xm [I a,I b,I c] m=some (B (wi a b c),m):=by
 refine call0 rfl (m':=⟨[],1⟩) ?_ rfl
 rw[xzw]
 unfold xbl x97 wi
 by_cases h:b<=a<;>by_cases h2:a<=c<;>simp[h,h2,mem0]
theorem x1he(d:Nat)(b:Bool)(m:Mem):x17z (x180 (d+1)) xp [B b] m=some (I (bif b then 0 else 2),m):=by
 refine call0 rfl (m':=⟨[],1⟩) ?_ rfl
 rw[x101]
 cases b<;>rfl
theorem x1m0(call:x17y)(hs:FHs)(u:Nat){s:ByteArray}{a:AV}(h:Sl u8E a s.data.toList)(hl:s.size<=1000):∀(suf:List UInt8) (k j:Nat) (m:Mem) (fc:Nat),s.data.toList.drop k=suf->suf.length<j ->
 x2m call hs u j (T s) a (I s.data.toList.length) (I k) m fc=some (B (x1b6 k suf&&(decide (0<s.size)&&decide (s.size<=12))),m):=by
 intro suf
 have hsz:s.data.toList.length=s.size:=rfl
 have e0:teq s ⟨#[]⟩=decide (s.size=0):=by
  unfold teq
  rw[ByteArray.toList_eq,ByteArray.toList_eq]
  cases hs:s.data.toList with
  |nil=>
   have:s.size=0:=by show s.data.size=0;rw[<-x1u1,hs];rfl
   simp[this]
  |cons x r=>
   have:s.size=r.length+1:=by show s.data.size=_;rw[<-x1u1,hs];rfl
   simp[this]
 have tne (x y:Operand) (a b:ByteArray):sBin Tryz.prog .neq x5 x y (T a) (T b)=some (B (!teq a b)):=by kernel_rfl
 induction suf with
 |nil=>
  intro k j m fc hd hj
  obtain⟨j,rfl⟩:∃i,j=i+1:=⟨j-1,by simp at hj;omega⟩
  have hk:¬((k:Int)<(s.data.toList.length:Int)):=by have:=x1t3.mp hd;omega
  simp only[x2m]
  unfold xa1 xf2
  simp only[x18k,hk,x1sm,x18b,x182,tne,e0]
  by_cases h0:s.size=0
  .simp[h0,x1b6]
  .simp[h0,x1b6,show 0<s.size by omega]
   try omega
 |cons e r ih=>
  intro k j m fc hd hj
  obtain⟨j,rfl⟩:∃i,j=i+1:=⟨j-1,by simp at hj;omega⟩
  obtain⟨hk,he,hd⟩:=x19i hd
  have hk':(k:Int)<(s.data.toList.length:Int):=by omega
  have ix:=h.ix u8E_len hk
  have ld:=ld_u8 (m:=m) hk
  have next:∀fc,x2m call hs u j (T s) a (I s.size) (I (w64 ((k:Int)+1))) m fc=some (B (x1b6 (k+1) r&&(decide (0<s.size)&&decide (s.size<=12))),m):=λfc=>by
   rw[x18i (by omega) (by omega)]
   exact ih (k+1) j m fc hd (by simp at hj;omega)
  rw[he]at ld
  have hk0:decide ((k:Int)=0)=!decide (0<k):=by
   by_cases h:0<k<;>simp[h]<;>omega
  simp only[x2m]
  unfold xa1
  simp only[x18k,hk',x1si,x18a,x182,ix,ld,u8_ge,u8_le,u8_eq,sW_t,sW_f]
  simp only[x1b6,chOK]
  generalize (e.toNat:Int)=c
  have r1:decide (c<48)=!decide (48<=c):=by by_cases h:48<=c<;>simp[h]<;>omega
  have r2:decide (57<c)=!decide (c<=57):=by by_cases h:c<=57<;>simp[h]<;>omega
  by_cases a1:97<=c<;>by_cases a2:c<=122<;>by_cases b1:65<=c<;>by_cases b2:c<=90<;>by_cases d1:48<=c<;>by_cases d2:c<=57<;>by_cases d0:c=45 <;>
   first
   |(exfalso;omega)
   |(by_cases hp:k=0
     .simp[a1,a2,b1,b2,d1,d2,d0,hp,u8_ge,u8_le,u8_eq,u8_ne,u8_lt,u8_gt,r1,r2]
      try (rw[hp]at next;exact next _)
     .simp[a1,a2,b1,b2,d1,d2,d0,hp,show 0<k by omega,u8_ge,u8_le,u8_eq,u8_ne,u8_lt,u8_gt,r1,r2,next])
theorem x1m1(d:Nat)(s:ByteArray)(m:Mem)(hl:s.size<=1000):x17z (x180 (d+1)) x24 [T s] m=some (B (nmOK s),m):=by
 refine call0 rfl (m':=⟨[],1⟩) ?_ rfl
 rw[x10e]
 have hlen:sLen Tryz.prog xd (.slit (s.data.toList.flatMap u8E) s.data.toList.length false)=some (I s.data.toList.length):=(Sl.lit (enc:=u8E) s.data.toList false).len u_bytes
 have hsz:s.data.toList.length=s.size:=rfl
 have hL:=λfc=>x1m0 (x180 d) [] 0 (Sl.lit (enc:=u8E) s.data.toList false) hl s.data.toList 0 NN ⟨[],1⟩ fc rfl (by rw[x197];omega)
 unfold xc1 xa2 xf3 nmOK
 simp only[cvt_bytes,hlen,x182,mem0]
 have e:∀a b c:Bool,(c&&(a&&b))=(a&&b&&c):=by decide
 rw[<-e]
 exact hL _
def x19o(s:ByteArray)(l:List ByteArray):Int:=bif !nmOK s then 4 else bif l.any (λy=>teq y s)then 5 else 0
theorem l_named(call:x17y)(u:Nat){s:ByteArray}{fv:AV}{l:List ByteArray}(hl:l.length<=1000)(hf:∀(k:Nat) (h:k<l.length) (m:Mem),∃m',x19e call [] 2 fv [I k] m=some (T l[k],m')):∀(suf:List ByteArray) (k j:Nat) (m:Mem) (fc:Nat),l.drop k=suf->suf.length<j ->
 ∃m',x3w call [] u j (T s) fv (I l.length) (I k) m fc=some (I (bif suf.any (λy=>teq y s)then 5 else 0),m'):=by
 intro suf
 induction suf with
 |nil=>
  intro k j m fc hd hj
  obtain⟨j,rfl⟩:∃i,j=i+1:=⟨j-1,by simp at hj;omega⟩
  have hk:¬((k:Int)<(l.length:Int)):=by have:=x1t3.mp hd;omega
  simp only[x3w]
  unfold x9a xds
  simp[hk]
 |cons e r ih=>
  intro k j m fc hd hj
  obtain⟨j,rfl⟩:∃i,j=i+1:=⟨j-1,by simp at hj;omega⟩
  obtain⟨hk,he,hd⟩:=x19i hd
  have hk':(k:Int)<(l.length:Int):=by omega
  obtain⟨m1,h1⟩:=hf k hk m
  rw[he]at h1
  simp only[x3w]
  unfold x9a
  simp only[x18k,hk',x1si,x18a,x182,h1,t_eq]
  cases ht:teq e s with
  |true=>simp[ht]
  |false=>
   obtain⟨m',h'⟩:=ih (k+1) j m1 (fc+10) hd (by simp at hj;omega)
   refine⟨m',?_⟩
   simp only[x18b,x18y,x182]
   rw[x18i (by omega) (by omega)]
   simp only[x1va,ht,x1uz]
   exact h'
theorem a_named(d:Nat){s:ByteArray}{fv:AV}{l:List ByteArray}(hs:s.size<=1000)(hl:l.length<=1000)(hf:∀(k:Nat) (h:k<l.length) (m:Mem),∃m',x19e (x180 (d+1)) [] 2 fv [I k] m=some (T l[k],m')):∃m',x180 (d+2) [] xv [T s,fv,I l.length] mem0=some (I (x19o s l),m'):=by
 rw[xzy]
 unfold xbn x9b x19o
 simp only[x1m1 d s _ hs,x182]
 cases hn:nmOK s with
 |false=>simp
 |true=>
  obtain⟨m',h'⟩:=l_named (x180 (d+1)) 0 (s:=s) hl hf l 0 NN ⟨[],1⟩ 6 rfl (by rw[x197];omega)
  refine⟨m',?_⟩
  simp only[x19y,x182,x1sr,x18b,x199]
  unfold xdt
  exact h'
structure Ps where
 nm:ByteArray
 fr:Int
 to:Int
 va:Int
 da:Int
def Ps.c(x:Ps):List AV:=[T x.nm,I x.fr,I x.to,I x.va,I x.da]
theorem Ps.len(x:Ps):x.c.length=5:=rfl
structure Lk where
 at_:Int
 da:Int
def Lk.c(x:Lk):List AV:=[I x.at_,I x.da]
theorem Lk.len(x:Lk):x.c.length=2:=rfl
def lkBad(l:List Lk)(x:Lk):Int:=bif !wi x.at_ 0 1000000000||!wi x.da 0 1000000 then 2
    else bif(match l.getLast? with|some y=>decide (x.at_<=y.at_)|none=>false)then 9 else 0
def pw2(l:List Ps)(x:Ps):Int:=
 bif !wi x.fr 0 1000000000||!wi x.to 0 1000000000||!wi x.va 0 1000000||!wi x.da 0 1000000 then 2
 else bif decide (x.to<=x.fr)then 26
 else bif(match l.getLast? with|some y=>decide (x.to<y.to)|none=>false)then 9 else 0
def pwErr(l:List Ps)(x:Ps):Int:=bif decide (x19o x.nm (l.map Ps.nm)≠0)then x19o x.nm (l.map Ps.nm)else pw2 l x
def psErr(l:List Ps):Nat->List Ps->Int×Int
 |_,[]=>(0,0)
 |k,x::r=>bif decide (pwErr (l.take k) x≠0)then((k:Int),pwErr (l.take k) x)else psErr l (k+1) r
def psFin(res:Int×Int)(l:List Ps)(k:Nat)(suf:List Ps):Int×Int:=bif decide ((psErr l k suf).2≠0)then psErr l k suf else res
def lkErr(l:List Lk):Nat->List Lk->Int×Int
 |_,[]=>(0,0)
 |k,x::r=>bif decide (lkBad (l.take k) x≠0)then((k:Int),lkBad (l.take k) x)else lkErr l (k+1) r
def lkFin(res:Int×Int)(l:List Lk)(k:Nat)(suf:List Lk):Int×Int:=bif decide ((lkErr l k suf).2≠0)then lkErr l k suf else res
def planM(ps:List Ps)(ls:List Lk)(gap sto:Int):Int×Int:=
 bif decide (40<ps.length)then(0,8)
 else psFin (bif decide (20<ls.length)then(0,8)else lkFin (0,bif wi gap 0 1000000&&wi sto 0 1000000 then 0 else 2) ls 0 ls) ps 0 ps
theorem x1fp{call:x17y}{f:FuncId}{l l':List AV}{m m':Mem}{r:AV}(hl:l.mapM (Go.Ix.frz m.get deep)=some l')(h:call [] f l' mem0=some (r,m'))(hr:x1bd r=true):x19p call f l m=some (r,m):=by
 unfold x19p
 rw[hl]
 simp only[h,hr,x1so]
theorem x1en{objs:Id->Option Ob}{id:Id}{cs cs':List AV}{fr:Bool}{k:Nat}(h:objs id=some (.row cs 0 fr))(hs:cs.mapM (Go.Ix.frz objs k)=some cs'):Go.Ix.frz objs (k+1) (.ptr id 0 0)=some (.plit cs'):=by
 have e:Go.Ix.frz objs (k+1) (.ptr id 0 0)=((cs.drop 0).mapM (Go.Ix.frz objs k)).map .plit:=by
  simp only[Go.Ix.frz,h,x1so]
 rw[e,x1sf,hs]
 rfl
end Go.Ix
