import Derived.Test.YtdcffnlnagmbhaaGreatDoorRows
import Derived.Test.YtdcffnlnagmbhaaGreatDoorFxLaw
import Derived.Test.YtdcffnlnagmbhaaGreatDoorWg1
import Derived.Test.YtdcffnlnagmbhaaGreatDoorWg10
import Derived.Test.YtdcffnlnagmbhaaGreatDoorCards
import Derived.Test.YtdcffnlnagmbhaaGreatDoorTie
import Derived.Test.YtdcffnlnagmbhaaGreatDoorWg0
import Derived.Stop.LaidErr
import Derived.LaidMore
import Derived.Lay
import Derived.SevenTiedAt
import Derived.Stop.Joined
import Derived.Test.YtdcffnlnagmbhaaGreatDoorWg9
set_option maxRecDepth 100000
namespace Go.Proofs.YtdcffnlnagmbhaaGreatDoor
open Go.ChangeShapes Go.WideShapes Go.ChangeAt Go.RowKit Go.Ix
theorem Tryz.own:ownKnob Tryz.prog.godebug=none:=by kernel_rfl
theorem Tryz.laidOut:laidOutB Tryz.prog=true:=by kernel_rfl
theorem sh_str{q:List AV}(h:Sh Tryz.prog x7 q):∃s,q=[T s]:=by
 have ht:Tryz.prog.underlying x7=some .string:=by kernel_rfl
 cases h with
 |string h' s hs=>exact⟨s,rfl⟩
 |int h'=>rw[ht]at h';cases h'
 |nilS h'=>rw[ht]at h';cases h'
 |slice h'=>rw[ht]at h';cases h'
 |bool h'=>rw[ht]at h';cases h'
 |float h'=>rw[ht]at h';cases h'
 |struct h'=>rw[ht]at h';cases h'
 |array h'=>rw[ht]at h';cases h'
theorem text_in{a:AV}(h:ArgSh Tryz.prog x7 a):∃s,a=T s:=by
 have ht:Tryz.prog.underlying x7=some .string:=by kernel_rfl
 unfold ArgSh at h
 rw[ht]at h
 obtain⟨s,hs⟩:=sh_str h
 exact⟨s,by simpa using hs⟩
theorem fs_of{t:TypeId}{l:List (TypeId×Nat)}(h:((Tryz.prog.underlying t).bind λd=>match d with | .struct fs=>some (fs.toList.map λf=>(f.type,f.offset))|_=>none)=some l):∃fs,Tryz.prog.underlying t=some (.struct fs)/\(fs.toList.map λf=>(f.type,f.offset))=l:=by
 cases hu:Tryz.prog.underlying t with
 |none=>rw[hu]at h;cases h
 |some d=>
  rw[hu]at h
  cases d<;>first|exact⟨_,rfl,by simpa using h⟩|cases h
end Go.Proofs.YtdcffnlnagmbhaaGreatDoor
namespace Go.Proofs.YtdcffnlnagmbhaaGreatDoor
open Go.ChangeShapes Go.WideShapes Go.ChangeAt Go.RowKit Go.Ix
def laid10:List (String×DataW Unit):=[("math/bits.deBruijn32tab",Rows.laid_math_bits_deBruijn32tab),("math/bits.deBruijn64tab",Rows.laid_math_bits_deBruijn64tab),("internal/strconv.uint64pow10",Rows.laid_internal_strconv_uint64pow10),("unicode/utf8.acceptRanges",Rows.laid_unicode_utf8_acceptRanges),("strconv.ErrRange",Rows.laid_strconv_ErrRange),("strconv.ErrSyntax",Rows.laid_strconv_ErrSyntax),("unicode/utf8.first",Rows.laid_unicode_utf8_first)]
theorem row_es(u:TypeId)(h:Tryz.prog.typeName? 3 u=some "*errors.errorString"):u=208:=
 typeName_ptr_named (nm:="errors.errorString") (by rw[show "*"++"errors.errorString" = "*errors.errorString" by decide];kernel_rfl) (by kernel_rfl) (by decide) u (by rw[show "*"++"errors.errorString" = "*errors.errorString" by decide];exact h)
theorem xyc{P:Program}{W w':World}{n:String}{cs:Array Value}(hx:Ext (λb=>b<W.heap.size) W w')(h:W.var? P n=some cs):w'.var? P n=some cs:=by
 unfold World.var? at h ⊢
 cases hg:P.globalNamed n with
 |none=>simp[hg]at h
 |some g=>
  simp only[hg,x196]at h ⊢
  have hlt:g<W.heap.size:=by
   rcases x17m g W.heap.size with h'|h'
   .exact h'
   .simp[x18m h']at h
  rw[hx.same g hlt hlt]
  exact h
theorem known_laid{W:World}(h:laidMetH Tryz.prog laid10 W):∀w',Ext (λb=>b<W.heap.size) W w'->xsq Tryz.prog w':=by
 rw[MakeChecks.laidMetH_plain _ _ _ (by kernel_rfl)]at h
 intro w' hx
 have h1:Lib.TabIs Tryz.prog W "internal/strconv.uint64pow10" .u64 Lib.pow10Tab:=
  Lib.tabIs_of_head (g:=3) (t:=199) (e:=174) (n:=20) (by kernel_rfl) (by kernel_rfl) (by kernel_rfl) (by kernel_rfl) (by kernel_rfl) (by kernel_rfl) (rest:=[("unicode/utf8.acceptRanges",Rows.laid_unicode_utf8_acceptRanges),("strconv.ErrRange",Rows.laid_strconv_ErrRange),("strconv.ErrSyntax",Rows.laid_strconv_ErrSyntax),("unicode/utf8.first",Rows.laid_unicode_utf8_first)]) h.tail.tail
 obtain⟨a1,s1,hv1,-⟩:=laid_sentinel (g:=2) (ti:=114) (tp:=208) (te:=210) (ts:=9) h.tail.tail.tail.tail (by kernel_rfl) (by kernel_rfl) Tryz.underlying114 row_es Tryz.underlying208 Tryz.underlying210 rfl rfl Tryz.underlying9 (by kernel_rfl) (by kernel_rfl)
 obtain⟨a2,s2,hv2,-⟩:=laid_sentinel (g:=1) (ti:=114) (tp:=208) (te:=210) (ts:=9) h.tail.tail.tail.tail.tail (by kernel_rfl) (by kernel_rfl) Tryz.underlying114 row_es Tryz.underlying208 Tryz.underlying210 rfl rfl Tryz.underlying9 (by kernel_rfl) (by kernel_rfl)
 exact⟨λ_=>xyc hx h1,λ_=>⟨⟨_,xyc hx hv2,_,_,rfl⟩,_,xyc hx hv1,_,_,rfl⟩⟩
theorem laid_fits(os:Os):(World.holding Tryz.prog os ⟨#[],#[],[]⟩).layFits Tryz.prog laid10 []=true:=by kernel_rfl
theorem x12y(os:Os):(World.holding Tryz.prog os ⟨#[],#[],[]⟩).layIfaces Tryz.prog laid10 (World.laidAll Tryz.prog os laid10)=true:=by kernel_rfl
theorem laid_met(os:Os)(args:Array Value):laidMetH Tryz.prog laid10 ((World.laidAll Tryz.prog os laid10).forCall (λ_ _=>0) ⟨#[],args,[]⟩).memory:=by
 rw[MakeChecks.laidMetH_plain _ _ _ (by kernel_rfl)]
 exact laidMet_laidAll _ (laid_fits os) (x12y os)
theorem mapsRowed10:mapsRowed Tryz.prog=true:=by kernel_rfl
theorem looks10:true=Tryz.prog.looks []:=by kernel_rfl
end Go.Proofs.YtdcffnlnagmbhaaGreatDoor
set_option linter.unusedSimpArgs false
set_option linter.unusedVariables false
namespace Go.Ix
open Go.Proofs
theorem xyd:∀(K u k:Nat),u<10 ^ k->1<=k->(digF K u).length<=k
 |0,u,k,_,_=>by simp[digF]
 |K+1,u,k,h,hk=>by
  unfold digF
  split
  .simp;omega
  .rename_i c
   obtain⟨k,rfl⟩:∃q,k=q+1:=⟨k-1,by omega⟩
   have h2:u / 10<10 ^ k:=by rw[Nat.pow_succ]at h;omega
   have hk1:1<=k:=by
    rcases Nat.eq_zero_or_pos k with rfl|h3
    .simp at h;omega
    .exact h3
   have:=xyd K (u / 10) k h2 hk1
   simp;omega
theorem nbr_in{n:Int}{d:Nat}(hd:1<=d)(hi:-9223372036854775808<=n/\n<=9223372036854775807)(h:n.natAbs<10 ^ d):nbrM (decM n) d=some n:=by
 rw[xy0 hi.1 hi.2,x16u]
 unfold unsg decM
 by_cases c:n<0
 .rw[x16u c]
  have:=xyd 20 n.natAbs d h hd
  simpa using this
 .rw[x16t c]
  have:=xyd 20 n.toNat d (by rw[show n.toNat=n.natAbs by omega];exact h) hd
  split
  .simp;omega
  .exact this
theorem nums_in{d:Nat}(hd:1<=d):∀l:List Int,(∀x∈l,(-9223372036854775808<=x/\x<=9223372036854775807)/\x.natAbs<10 ^ d)->xqi d (l.map decM)=some l
 |[],_=>rfl
 |x::l,h=>by
  have ih:=nums_in hd l λy hy=>h y (x172 _ hy)
  have hx:=h x (by simp)
  show xqi d (decM x::l.map decM)=_
  unfold xqi
  rw[nbr_in hd hx.1 hx.2,ih]
def xq0(l:List Int):List UInt8:=xqm [32] (l.map decM)
theorem text_back{d:Nat}(hd:1<=d){l:List Int}(h0:l≠[])(h:∀x∈l,(-9223372036854775808<=x/\x<=9223372036854775807)/\x.natAbs<10 ^ d):xqi d (cutM 32 (xq0 l))=some l:=by
 have hcut:cutM 32 (xq0 l)=l.map decM:=by
  unfold xq0
  refine x10u (by simpa using h0) λw hw=>?_
  obtain⟨x,hx,rfl⟩:=x17v.1 hw
  exact dec_no32 x (h x hx).1.1 (h x hx).1.2
 rw[hcut,nums_in hd l h]
def xqb(d k:Nat)(s:List UInt8):Option (List Int):=match xqi d (cutM 32 s)with
 |some l=>if l.length=k then some l else none
 |none=>none
theorem x117{d k:Nat}(hd:1<=d){l:List Int}(h0:l≠[])(hk:l.length=k)(h:∀x∈l,(-9223372036854775808<=x/\x<=9223372036854775807)/\x.natAbs<10 ^ d):xqb d k (xq0 l)=some l:=by
 unfold xqb
 rw[text_back hd h0 h]
 simp only
 rw[x16u hk]
end Go.Ix
set_option maxRecDepth 10000
namespace Go.Ix
open Go.Proofs
def SpR(o:Option (List Int))(v:AV):Prop:=∃a l,v=.tup [a,B o.isSome]/\Ints a l/\∀k,o=some k->k=l
theorem x118{d k:Nat}{s:List UInt8}{pre post:List (List UInt8)}{w:List UInt8}(hc:cutM 32 s=pre++w::post)(hn:nbrM w d=none):xqb d k s=none:=by
 unfold xqb
 rw[hc,x10y hn post pre]
theorem xwd{d k:Nat}{s:List UInt8}{l:List Int}(h:xqi d (cutM 32 s)=some l):xqb d k s=if l.length=k then some l else none:=by
 unfold xqb
 rw[h]
def okS:Id->Prop:=λid=>id.2.2=35
theorem xve:xqz=[I 0]:=by kernel_rfl
theorem zz_ints3:x36=[nilS]:=by kernel_rfl
theorem zz_bool3:xdc=[B false]:=by kernel_rfl
theorem ldS{m:Mem}{i:Id}{x:AV}(h:m.get i=some (.row [x] 0 false))(hx:x.one=true):sLd false 1 (.ptr i 0 0) m=some x:=by
 rw[xw2 h]
 simp[hx]
structure SpM (lid:Id) (l:List Int) (m:Mem):Prop where
 n4:m.get (0,0,4)=some (.row [nilS] 0 false)
 n5:m.get (0,1,5)=some (.row [B false] 0 false)
 n6:∃v,m.get (0,2,6)=some (.row [v] 0 false)/\Gk 1 intE okS m v l
 lp:m.get lid=some (.lp none)
def SpF(lid:Id)(m:Mem):Prop:=m.get lid=some (.lp (some .ret))/\m.get (0,0,4)=some (.row [nilS] 0 false)/\m.get (0,1,5)=some (.row [B false] 0 false)
theorem h_word3(d:Nat)(hs:FHs)(u:Nat){lid:Id}(h0:lid.2.2=1){w:List UInt8}(hw:w.length<=100000){l:List Int}{m:Mem}(hl:l.length<=200000)(h:SpM lid l m) :
 match nbrM w 16 with
 |some n=>∃m2,x2e (xpc (d+3)) hs u lid (.ptr (0,0,4) 0 0) (.ptr (0,1,5) 0 0) (.ptr (0,2,6) 0 0) (Tx w) m 0=some m2/\SpM lid (l++[n]) m2/\∀j:Id,j.1≠0->j.2.2≠35->m2.get j=m.get j
 |none=>∃m2,x2e (xpc (d+3)) hs u lid (.ptr (0,0,4) 0 0) (.ptr (0,1,5) 0 0) (.ptr (0,2,6) 0 0) (Tx w) m 0=some m2/\SpF lid m2:=by
 obtain⟨n4,n5,⟨v,n6,hG⟩,lp⟩:=h
 have hlpn:sLpN lid m=some m:=by unfold sLpN lpB;rw[lp];rfl
 have hne4:((0,0,4):Id)≠lid:=by rintro rfl;cases h0
 have hne5:((0,1,5):Id)≠lid:=by rintro rfl;cases h0
 have hne6:((0,2,6):Id)≠lid:=by rintro rfl;cases h0
 have h46:((0,0,4):Id)≠(0,2,6):=by decide
 have h56:((0,1,5):Id)≠(0,2,6):=by decide
 have h54:((0,1,5):Id)≠(0,0,4):=by decide
 have bad:∃m2,sSt 1 (.ptr (0,0,4) 0 0) nilS m (λm_3=>sSt 1 (.ptr (0,1,5) 0 0) (B false) m_3 λm_4=>sLpX lid .ret m_4)=some m2/\SpF lid m2:=by
  rw[xrm (z:=1) (x:=nilS) n4 rfl (by simp) rfl]
  obtain⟨m1,hm1⟩:∃m1:Mem,m1=m.set (0,0,4) (.row (xpo [nilS] 0 nilS.cells) 0 false):=⟨_,rfl⟩
  rw[<-hm1]
  have k4:m1.get (0,0,4)=some (.row [nilS] 0 false):=by rw[hm1,Mem.get_set,x16u rfl];rfl
  have k5:m1.get (0,1,5)=some (.row [B false] 0 false):=by rw[hm1,Mem.get_set,x16t h54];exact n5
  have kl:m1.get lid=some (.lp none):=by rw[hm1,Mem.get_set,x16t hne4.symm];exact lp
  rw[xrm (z:=1) (x:=B false) k5 rfl (by simp) rfl]
  obtain⟨m2,hm2⟩:∃m2:Mem,m2=m1.set (0,1,5) (.row (xpo [B false] 0 (B false).cells) 0 false):=⟨_,rfl⟩
  rw[<-hm2]
  have j4:m2.get (0,0,4)=some (.row [nilS] 0 false):=by rw[hm2,Mem.get_set,x16t h54.symm];exact k4
  have j5:m2.get (0,1,5)=some (.row [B false] 0 false):=by rw[hm2,Mem.get_set,x16u rfl];rfl
  have jl:m2.get lid=some (.lp none):=by rw[hm2,Mem.get_set,x16t hne5.symm];exact kl
  have hlx:sLpX lid .ret m2=some (m2.set lid (.lp (some .ret))):=by unfold sLpX lpB;rw[jl];rfl
  refine⟨_,hlx,?_,?_,?_⟩
  .rw[Mem.get_set,x16u rfl]
  .rw[Mem.get_set,x16t hne4];exact j4
  .rw[Mem.get_set,x16t hne5];exact j5
 have ld6:=ldS n6 hG.one.2
 rw[<-tst_num w (by omega:16<=18)]
 unfold x2e x85
 simp only[hlpn,xpe]
 rcases w_Atoi (d+2) (l:=w) (by omega) m with ⟨x,hx,hA⟩|⟨hx,x,hA⟩
 .have hin:=atoi_in hx
  unfold tstM
  rw[hx]
  have hit:=λm=>w_Itoa (d+2) hin.1 hin.2 m
  simp only[hA,xpe,xss,x184,x185,nil_ne,xt7,xt8,sGp_eq,sW_f,x175,xqc,hit,x_ne,xqe,xqg]
  by_cases c1:decM x=w
  .have hux:(unsg w).length<=w.length:=by unfold unsg;split<;>simp
   simp only[c1,x179,x17e,x175,xqc,xpe,w_Trim,xrd,xue,xqe,xqg,true_and]
   by_cases c2:(unsg w).length<=16
   .have c3:¬(16:Int)<(unsg w).length:=by omega
    rw[x16u c2]
    obtain⟨a',m1,e1,G1,o1,o2,nx1,fr1⟩:=Gk.app (ok:=okS) (l:=l) (bytes:=8) (id0:=(u,0+1+24,35)) xqh (by omega) rfl (by unfold xpt;omega) hG x
    have n6':m1.get (0,2,6)=some (.row [v] 0 false):=by rw[fr1 _ (by simp[okS])];exact n6
    have el:∀objs,elems objs 1 (.slit [I x] 1 true)=some (intE x,1):=λ_=>rfl
    simp only[c3,x176,xq8,xpe,ld6,xve,mkLit_I,el]
    rw[e1,xrm (z:=1) (x:=a') n6' (by rw[o1];rfl) (by simp) (by rw[o1];simp[o2])]
    obtain⟨m2,hm2⟩:∃m2:Mem,m2=m1.set (0,2,6) (.row (xpo [v] 0 a'.cells) 0 false):=⟨_,rfl⟩
    rw[<-hm2]
    have kl:m2.get lid=some (.lp none):=by rw[hm2,Mem.get_set,x16t hne6.symm,fr1 _ (by unfold okS;rw[h0];simp)];exact lp
    refine⟨m2,by unfold sLpN lpB;rw[kl];rfl,⟨?_,?_,⟨a',?_,?_⟩,kl⟩,λj hj hj2=>?_⟩
    .rw[hm2,Mem.get_set,x16t h46,fr1 _ (by simp[okS])];exact n4
    .rw[hm2,Mem.get_set,x16t h56,fr1 _ (by simp[okS])];exact n5
    .rw[hm2,Mem.get_set,x16u rfl,o1];rfl
    .exact G1.frame (m':=m2) λj hj=>by rw[hm2,Mem.get_set,x16t (by rintro rfl;cases hj)]
    .rw[hm2,Mem.get_set,x16t (by rintro rfl;exact hj rfl),fr1 _ hj2]
   .have c3:(16:Int)<(unsg w).length:=by omega
    rw[x16t c2]
    simp only[c3,x179,xq6,xpe]
    exact bad
  .rw[x16t (by rintro⟨h,-⟩;exact c1 h)]
   simp only[c1,x176,x175,x17e,xqc,xpe,xqe,xqg,xq6]
   exact bad
 .have ht:tstM w 16=none:=by
   unfold tstM
   split
   .rename_i n h;exact absurd h (hx n)
   .rfl
  rw[ht]
  simp only[hA,xpe,xss,x184,x185,err_ne,xt7,xt8,sGp_eq,sW_f,x17e,xqg,xqe,xqc,xq6]
  exact bad
theorem x12z(d:Nat)(s:List UInt8)(c:UInt8)(m:Mem):∃M,xsj (xpc (d+2)) x1k [Tx s,Tx [c]] m=some (.clo xw [.ptr (m.next+1,1,4) 0 0,.ptr (m.next+1,0,3) 0 0,.ptr (m.next+1,2,5) 0 0],M) /\
 M.get (m.next+1,1,4)=some (.row [Tx [c]] 0 false)/\M.get (m.next+1,0,3)=some (.row [Tx s] 0 false)/\M.get (m.next+1,2,5)=some (.row [I 0] 0 false)/\M.next=m.next+2/\∀j:Id,j.1<m.next->M.get j=m.get j:=by
 obtain⟨m',h1,h2,h3,h4,h5⟩:∃m',xpc (d+2) [] x1k [Tx s,Tx [c]] ⟨[],m.next⟩=some (.clo xw [.ptr (m.next+1,1,4) 0 0,.ptr (m.next+1,0,3) 0 0,.ptr (m.next+1,2,5) 0 0],m') /\
  m'.get (m.next+1,1,4)=some (.row [Tx [c]] 0 false)/\m'.get (m.next+1,0,3)=some (.row [Tx s] 0 false)/\m'.get (m.next+1,2,5)=some (.row [I 0] 0 false)/\m'.next=m.next+2:=by
  have h2:xpc (d+1) [] x1l [Tx s,Tx [c],I 0] ⟨[],m.next+1⟩=some (.clo xw [.ptr (m.next+1,1,4) 0 0,.ptr (m.next+1,0,3) 0 0,.ptr (m.next+1,2,5) 0 0],(((⟨[],m.next+2⟩:Mem).new (m.next+1,0,3) (.row [Tx s] 0 false)).new (m.next+1,1,4) (.row [Tx [c]] 0 false)).new (m.next+1,2,5) (.row [I 0] 0 false)):=by
   rw[xky];rfl
  obtain⟨M,hc,hn,hj⟩:=call1 (m:=⟨[],m.next+1⟩) (l:=[Tx s,Tx [c],I 0]) rfl h2
  refine⟨M,?_,?_,?_,?_,?_⟩
  .rw[xks]
   unfold x6z x5p
   show(xsj (xpc (d+1)) x1l [Tx s,Tx [c],I 0] ⟨[],m.next+1⟩).bind _=_
   rw[hc];rfl
  .rw[hj,x16u (x170 _)];simp
  .rw[hj,x16u (x170 _)];simp
  .rw[hj,x16u (x170 _)];simp
  .rw[hn];rfl
 obtain⟨M,hc,hn,hj⟩:=call1 (m:=m) (l:=[Tx s,Tx [c]]) rfl h1
 refine⟨M,hc,?_,?_,?_,by omega,λj hlt=>?_⟩
 .rw[hj,x16u (by simp)];exact h2
 .rw[hj,x16u (by simp)];exact h3
 .rw[hj,x16u (by simp)];exact h4
 .rw[hj,x16t (by omega)]
theorem e_split(d:Nat){f:Nat}{k:Nat}{l:List Int}{m:Mem}(fc:Nat)(h:SpM (0,f,1) l m){s:List UInt8}(hs:xqi 16 (cutM 32 s)=some l) :
 RetF (SpR (xqb 16 k s)) (x3a (xpc d) [] 0 (I k) (.ptr (0,0,4) 0 0) (.ptr (0,1,5) 0 0) (.ptr (0,2,6) 0 0) m fc):=by
 obtain⟨n4,n5,⟨v,n6,hG⟩,lp⟩:=h
 have ho:=hG.one
 unfold x3a
 simp only[ldS n6 ho.2,xpe,hG.lenP,xsc]
 rw[xrm (z:=1) (x:=v) n4 (by rw[ho.1];rfl) (by simp) (by rw[ho.1];simp[ho.2])]
 obtain⟨m1,hm1⟩:∃m1:Mem,m1=m.set (0,0,4) (.row (xpo [nilS] 0 v.cells) 0 false):=⟨_,rfl⟩
 rw[<-hm1]
 have k4:m1.get (0,0,4)=some (.row [v] 0 false):=by rw[hm1,Mem.get_set,x16u rfl,ho.1];rfl
 have k5:m1.get (0,1,5)=some (.row [B false] 0 false):=by rw[hm1,Mem.get_set,x16t (by simp)];exact n5
 obtain⟨b,hb⟩:∃b,b=decide ((l.length:Int)=(k:Int)):=⟨_,rfl⟩
 rw[<-hb,xrm (z:=1) (x:=B b) k5 rfl (by simp) rfl]
 obtain⟨m2,hm2⟩:∃m2:Mem,m2=m1.set (0,1,5) (.row (xpo [B false] 0 (B b).cells) 0 false):=⟨_,rfl⟩
 rw[<-hm2]
 have j4:m2.get (0,0,4)=some (.row [v] 0 false):=by rw[hm2,Mem.get_set,x16t (by simp)];exact k4
 have j5:m2.get (0,1,5)=some (.row [B b] 0 false):=by rw[hm2,Mem.get_set,x16u rfl];rfl
 have hG2:Gk 1 intE okS m2 v l:=hG.frame λj hj=>by
  rw[hm2,Mem.get_set,x16t (by rintro rfl;cases hj),hm1,Mem.get_set,x16t (by rintro rfl;cases hj)]
 rw[show(xpp (tR (.ptr (0,2,6) 0 0)) (tS (.ptr (0,0,4) 0 0))&&true)=true from by simp[xpp,disj,tR,tS]]
 have p4:sLdP false 1 (.ptr (0,0,4) 0 0) m2=some v:=by unfold sLdP;exact ldS j4 ho.2
 have p5:sLdP false 1 (.ptr (0,1,5) 0 0) m2=some (B b):=by unfold sLdP;exact ldS j5 rfl
 simp only[xqc,p4,p5,xpe]
 obtain⟨a',ha',hf'⟩:=hG2.frz (k:=3) xqh xw3
 refine RetF.mk (a':=.tup [a',B b]) ?_ ⟨a',l,?_,ha',λq hq=>?_⟩
 .show(([v,B b].mapM (Go.Ix.frz m2.get 5)).map AV.tup)=_
  simp only[x188,x1a4,hf']
  rfl
 .rw[xwd hs,hb]
  by_cases c:l.length=k
  .rw[x16u c,x17y (by omega)];rfl
  .rw[x16t c,x19z (by omega)];rfl
 .rw[xwd hs]at hq
  split at hq
  .exact(x17s hq).symm
  .cases hq
theorem a_split(d:Nat){s:List UInt8}(hs:s.length<=100000)(k:Nat):RetF (SpR (xqb 16 k s)) (xpc (d+6) [] xt [Tx s,I k] mem0):=by
 rw[xkl]
 unfold x6s x5f
 simp only[mem0,xug,zz_ints3,zz_bool3,x17n]
 obtain⟨m1,hm1⟩:∃m1:Mem,m1=(((⟨[],1⟩:Mem).new (0,0,4) (.row [nilS] 0 false)).new (0,1,5) (.row [B false] 0 false)).new (0,2,6) (.row [nilS] 0 false):=⟨_,rfl⟩
 rw[<-hm1]
 have g4:m1.get (0,0,4)=some (.row [nilS] 0 false):=by rw[hm1];simp
 have g5:m1.get (0,1,5)=some (.row [B false] 0 false):=by rw[hm1];simp
 have g6:m1.get (0,2,6)=some (.row [nilS] 0 false):=by rw[hm1];simp
 have hn1:m1.next=1:=by rw[hm1];rfl
 obtain⟨M,hsp,b1,b2,b3,hn2,fr⟩:=x12z (d+3) s 32 m1
 rw[hn1]at b1 b2 b3 hsp fr
 simp only[Nat.reduceAdd]at b1 b2 b3 hsp
 unfold x87
 rw[show(AV.sc (.string ⟨#[32]⟩))=Tx [32]from rfl,hsp]
 simp only[xpe]
 unfold x86
 simp only[sRng]
 generalize hL:((0,3+2,1):Id)=lid
 have hl1:lid.2.2=1:=by rw[<-hL]
 generalize hH:(λ(args:List AV) (m:Mem)=>bif Nat.beq args.length 1&&true then x2e (xpc (d+5)) [] m.next lid (.ptr (0,0,4) 0 0) (.ptr (0,1,5) 0 0) (.ptr (0,2,6) 0 0) (args.getD 0 U) ⟨m.hp,m.next+1⟩ 0 else none)=H
 generalize hm2:M.new lid (.lp none)=m2
 have hne:∀j:Id,j.2.2≠1->j≠lid:=λj hj e=>hj (by rw[e];exact hl1)
 have c1:m2.get (2,1,4)=some (.row [Tx [32]] 0 false):=by rw[<-hm2,Mem.get_new,x16t (hne _ (by simp))];exact b1
 have c2:m2.get (2,0,3)=some (.row [Tx s] 0 false):=by rw[<-hm2,Mem.get_new,x16t (hne _ (by simp))];exact b2
 have c3:m2.get (2,2,5)=some (.row [I 0] 0 false):=by rw[<-hm2,Mem.get_new,x16t (hne _ (by simp))];exact b3
 have hP2:SpM lid [] m2:=by
  refine⟨?_,?_,⟨nilS,?_,Gk.nil⟩,?_⟩
  .rw[<-hm2,Mem.get_new,x16t (hne _ (by simp)),fr _ (by simp)];exact g4
  .rw[<-hm2,Mem.get_new,x16t (hne _ (by simp)),fr _ (by simp)];exact g5
  .rw[<-hm2,Mem.get_new,x16t (hne _ (by simp)),fr _ (by simp)];exact g6
  .rw[<-hm2,Mem.get_new,x16u rfl]
 have hcl:=xwb 32 s
 obtain⟨m3,hc,hI⟩:=c_words d (hh:=[(lid,H)]) (id:=lid) (h:=H) (s:=s) (c:=32) hs (by simp[xs5]) (i1:=(2,1,4)) (i2:=(2,0,3)) (i3:=(2,2,5)) (by decide) (by decide) (m0:=m2) c1 c2 c3
  (λpre m=>∃l,xqi 16 pre=some l/\SpM lid l m) (λm=>xqb 16 k s=none/\SpF lid m)
  (λpre m l ⟨q,h1,h2⟩=>⟨q,h1,⟨by rw[Mem.get_set,x16t (by decide)];exact h2.n4,by rw[Mem.get_set,x16t (by decide)];exact h2.n5,(by
   obtain⟨v,h3,h4⟩:=h2.n6
   refine⟨v,by rw[Mem.get_set,x16t (by decide)];exact h3,h4.frame λj hj=>?_⟩
   rw[Mem.get_set,x16t (by rintro rfl;cases hj)]),by rw[Mem.get_set,x16t (hne _ (by simp)).symm];exact h2.lp⟩⟩)
  (λpre w post m hcut ⟨q,h1,h2⟩=>by
   have hw:w.length<=100000:=by
    have:=xy9 32 s w (by rw[hcut];simp)
    omega
   have hq:q.length<=200000:=by
    have h3:=xy8 h1
    rw[hcut]at hcl
    simp at hcl
    omega
   have hh:=h_word3 (d+2) [] m.next hl1 hw (m:=⟨m.hp,m.next+1⟩) hq ⟨h2.n4,h2.n5,h2.n6,h2.lp⟩
   rw[<-hH]
   cases hn:nbrM w 16 with
   |some n=>
    rw[hn]at hh
    obtain⟨m5,k1,k2,k3⟩:=hh
    refine⟨m5,k1,.inl ⟨?_,⟨_,xy7 hn h1,k2⟩,k3 _ (by simp) (by simp),k3 _ (by simp) (by simp),k3 _ (by simp) (by simp)⟩⟩
    unfold live;rw[hl1,k2.lp];rfl
   |none=>
    rw[hn]at hh
    obtain⟨m5,k1,k2⟩:=hh
    refine⟨m5,k1,.inr ⟨?_,x118 hcut hn,k2⟩⟩
    unfold live;rw[hl1,k2.1];rfl)
  ⟨[],rfl,⟨hP2.n4,hP2.n5,hP2.n6,hP2.lp⟩⟩
 rw[show(AV.yld lid::[AV.ptr (2,1,4) 0 0,.ptr (2,0,3) 0 0,.ptr (2,2,5) 0 0])=[.yld lid,.ptr (2,1,4) 0 0,.ptr (2,0,3) 0 0,.ptr (2,2,5) 0 0]from rfl,hc]
 simp only[xpe]
 unfold sLp
 rcases hI with ⟨l,hl,hP⟩|⟨hp,f1,f2,f3⟩
 .rw[hP.lp]
  simp only
  rw[<-hL]at hP
  exact e_split (d+5) _ hP hl
 .rw[f1]
  simp only
  have p4:sLdP false 1 (.ptr (0,0,4) 0 0) m3=some nilS:=by unfold sLdP;exact ldS f2 rfl
  have p5:sLdP false 1 (.ptr (0,1,5) 0 0) m3=some (B false):=by unfold sLdP;exact ldS f3 rfl
  simp only[p4,p5,xpe]
  rw[hp]
  exact RetF.mk (a':=.tup [nilS,B false]) rfl ⟨nilS,[],rfl,.inl ⟨rfl,rfl⟩,λq hq=>by cases hq⟩
theorem w_split(d:Nat){s:List UInt8}(hs:s.length<=100000)(k:Nat)(m:Mem):∃a l,Ints a l/\(∀q,xqb 16 k s=some q->q=l)/\xp9 (xpc (d+6)) xt [Tx s,I k] m=some (.tup [a,B (xqb 16 k s).isSome],m):=by
 obtain⟨v,⟨a,l,rfl,h1,h2⟩,h3⟩:=xtx (l:=[Tx s,I k]) rfl (a_split d hs k) m
 exact⟨a,l,h1,h2,h3⟩
end Go.Ix
