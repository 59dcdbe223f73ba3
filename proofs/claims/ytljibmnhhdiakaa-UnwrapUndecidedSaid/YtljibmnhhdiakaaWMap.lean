import Derived.Test.YtljibmnhhdiakaaWBase2
import Derived.Test.YtljibmnhhdiakaaWCopy
set_option linter.unusedSimpArgs false
namespace Go.Ix
open Go.Proofs
abbrev void:Int:=1000000000000
def x1td(r c n:Int):Int:=bif !(wi r 1 64)||!(wi c 1 64)then 2 else bif !decide (n=r*c)then 10 else 0
theorem x1x0{r c:Int}(h1:wi r 1 64=true)(h2:wi c 1 64=true):1<=r*c/\r*c<=4096:=by
 have a:=wi_t h1
 have b:=wi_t h2
 have:=Int.mul_le_mul a.2 b.2 (by omega) (by omega)
 have:=Int.mul_le_mul a.1 b.1 (by omega) (by omega)
 omega
theorem w_sizeErr(d:Nat)(r c n:Int)(m:Mem):x1qq (x1qp (d+2)) x5d [I r,I c,I n] m=some (I (x1td r c n),m):=by
 refine Ans.call0 ?_ rfl rfl
 unfold Ans
 rw[xzd]
 unfold xed xgh
 simp[mem0,x204]
 cases c1:wi r 1 64
 .simp[x1td,c1]
 simp[x204]
 cases c2:wi c 1 64
 .simp[x1td,c1,c2]
 have:=x1x0 c1 c2
 simp(disch:=omega) [x1td,c1,c2]
 by_cases c3:n=r*c<;>simp[c3]
theorem x28l(d:Nat)(r c n:Int)(m:Mem):x1qq (x1qp (d+2)) x5b [I r,I c,I n] m=some (I (x1td r c n),m):=by
 refine Ans.call0 ?_ rfl rfl
 unfold Ans
 rw[xzb]
 unfold xeb xgf
 simp[mem0,x1z4]
 cases c1:wi r 1 64
 .simp[x1td,c1]
 simp[x1z4]
 cases c2:wi c 1 64
 .simp[x1td,c1,c2]
 have:=x1x0 c1 c2
 simp(disch:=omega) [x1td,c1,c2]
 by_cases c3:n=r*c<;>simp[c3]
def x1ti(x:Int):Int:=(x+2048) % 4096-2048
theorem x22w(x:Int):-2048<=x1ti x/\x1ti x<=2047:=by unfold x1ti;omega
theorem w_Mod(d:Nat){x y:Int}(h1:0<y)(h2:y<=1000000000000)(m:Mem):x1qq (x1qp (d+1)) x5m [I x,I y] m=some (I (x % y),m):=by
 refine Ans.call0 ?_ rfl rfl
 unfold Ans
 rw[xzw]
 unfold xeo xgz xch
 have h3:x.tmod y=if 0<=x\/y ∣ x then x % y else x % y-y:=by
  have:=Int.tmod_eq_emod (a:=x) (b:=y)
  rw[this]
  split<;>omega
 have h4:=Int.emod_nonneg x (show y≠0 by omega)
 have h5:=Int.emod_lt_of_pos x h1
 simp[mem0,x1y0 (show y≠0 by omega)]
 rw[h3]
 split
 .rename_i h
  simp[x76,show ¬(x % y<0) by omega]
 .rename_i h
  have:x % y-y<0:=by omega
  simp(disch:=omega) [x76,this]
theorem w_Wrapped(d:Nat){x:Int}(h1:-1000000000000000<=x)(h2:x<=1000000000000000)(m:Mem):x1qq (x1qp (d+2)) x5s [I x] m=some (I (x1ti x),m):=by
 refine Ans.call0 ?_ rfl rfl
 unfold Ans
 rw[x105]
 unfold xev xh9
 simp(disch:=omega) [mem0,w_Mod d (show(0:Int)<4096 by omega) (by omega),x1ti]
theorem x268(d:Nat)(x:Int)(m:Mem):x1qq (x1qp (d+1)) x3m [I x] m=some (I (x1ti x),m):=by
 refine Ans.call0 ?_ rfl rfl
 unfold Ans
 rw[xzs]
 unfold xdh xgv xcc
 have h3:x.tmod 4096=if 0<=x\/(4096:Int) ∣ x then x % 4096 else x % 4096-4096:=by
  have:=Int.tmod_eq_emod (a:=x) (b:=4096)
  rw[this]
  split<;>omega
 have h6:(x.tmod 4096+4096).tmod 4096=x % 4096:=by
  rw[Int.tmod_eq_emod_of_nonneg (by rw[h3];split<;>omega),h3]
  split<;>omega
 have h7:-4096<=x.tmod 4096/\x.tmod 4096<=4096:=by rw[h3];split<;>omega
 simp(disch:=omega) [mem0,x1y0,h6]
 by_cases c:2048<=x % 4096
 .simp(disch:=omega) [c,x75]
  unfold x1ti;omega
 .simp[c,x75]
  unfold x1ti;omega
theorem x1uf(d:Nat)(x:Int)(m:Mem):x1qq (x1qp (d+1)) x1b [I x] m=some (B (decide (x=void)),m):=by
 refine Ans.call0 ?_ rfl rfl
 unfold Ans
 rw[xzr]
 unfold xdi xgt
 simp[mem0]
def isW(x:Int):Bool:=wi x (-2048) 2047
theorem isW_wrap(x:Int):decide (x=x1ti x)=isW x:=by
 unfold isW wi x1ti
 by_cases h:-2048<=x/\x<=2047
 .rw[decide_eq_true h,decide_eq_true (by omega)]
 .rw[decide_eq_false h,decide_eq_false (by omega)]
theorem x269(d:Nat)(x:Int)(m:Mem):x1qq (x1qp (d+2)) x6p [I x] m=some (B (isW x),m):=by
 refine Ans.call0 ?_ rfl rfl
 unfold Ans
 rw[x103]
 unfold xet xh7
 simp[mem0,x1z4,isW]
def Tell1(call:x1qo)(f:AV)(p:Int->Bool):Prop:=∀(hs:FHs) (x:Int) (m:Mem),∃n,x1sj call hs 2 f [I x] m=some (B (p x),⟨m.hp,n⟩)
theorem x28m(d:Nat):Tell1 (x1qp (d+2)) (.clo x3v []) isW:=by
 intro hs x m
 refine⟨m.next+1,?_⟩
 show x1qp (d+2) hs x3v [I x] m=_
 rw[xzf]
 unfold xef xgj
 simp[x268,isW_wrap]
def badP(p:Int->Bool)(x:Int):Bool:=!decide (x=void)&&!(p x)
def x1st(p:Int->Bool)(l:List Int):Int:=bif l.any (badP p)then 2 else 0
def x1wl(p:Int->Bool)(r c:Int)(l:List Int):Int:=bif decide (x1td r c l.length=0)then x1st p l else x1td r c l.length
theorem x28n(d:Nat){f:AV}{p:Int->Bool}(hf:Tell1 (x1qp (d+1)) f p)(id:Id):x225 (x1qp (d+2)) (.clo x5q [.ptr id 0 0]) id (.row [f] 0 false) (badP p):=by
 intro hs x m hg
 obtain⟨n,h⟩:=hf hs x ⟨m.hp,m.next+1⟩
 have hg2:(⟨m.hp,m.next+1⟩:Mem).get id=some (.row [f] 0 false):=hg
 have key:∃n,x1qp (d+2) hs x5q [I x,.ptr id 0 0] m=some (B (badP p x),⟨m.hp,n⟩):=by
  rw[x104]
  unfold xeu xh8
  simp only[x1uf,x1qt,sNot_B]
  by_cases c:x=void
  .exact⟨m.next+1,by simp[c,badP]⟩
  .refine⟨n,?_⟩
   simp[c,badP,hg2,h]
 exact key
theorem x28o(d:Nat){f a:AV}{p:Int->Bool}{r c:Int}{l:List Int}(hf:Tell1 (x1qp (d+1)) f p)(h1:f.cells=[f])(h2:f.one=true)(h3:still f=true)(ha:Ints a l)(hl:l.length<1000000)(m:Mem) :
 x1qq (x1qp (d+5)) x5e [.agg [I r,I c,a],f] m=some (I (x1st p l),m):=by
 refine Ans.call0 ?_ (by simp[ha.still1,h3]) rfl
 unfold Ans
 rw[xze]
 unfold xee xgi
 obtain⟨n,h⟩:=x282 (d+2) [] ha hl (x28n d hf (0,1,3)) (((⟨[],1⟩:Mem).new (0,0,2) (.row [I r,I c,a] 0 false)).new (0,1,3) (.row [f] 0 false)) (by simp)
 simp[mem0,ha.one,h1,h2,h]
 unfold x1st
 cases l.any (badP p)<;>simp
theorem x28p(p:Int->Bool)(x:Int)(r:List Int):x1st p (x::r)=bif badP p x then 2 else x1st p r:=by
 unfold x1st
 rw[List.any_cons]
 cases badP p x<;>rfl
theorem x28q(d:Nat)(hs:FHs){a:AV}{l:List Int}(h:Ints a l)(hb:l.length<=1000000):∀(suf:List Int) (k j:Nat) (m:Mem) (fc:Nat),l.drop k=suf->suf.length<j ->
 ∃m',x4l (x1qp (d+2)) hs 0 j a (I k) m fc=some (I (x1st isW suf),m'):=by
 intro suf
 induction suf with
 |nil=>
  intro k j m fc hd hj
  obtain⟨j,rfl⟩:∃i,j=i+1:=⟨j-1,by simp at hj;omega⟩
  have hk:¬((k:Int)<(l.length:Int)):=by have:=List.drop_eq_nil_iff.mp hd;omega
  simp only[x4l]
  unfold xbn
  simp[h.len x1r8,hk,x4k,x1st]
 |cons x r ih=>
  intro k j m fc hd hj
  obtain⟨j,rfl⟩:∃i,j=i+1:=⟨j-1,by simp at hj;omega⟩
  obtain⟨hk,hke,hd⟩:=x1sm hd
  have hk':(k:Int)<(l.length:Int):=by omega
  have ix:=h.ix x1rk hk
  have e1:at0 l k=x:=by rw[x1ri hk,hke]
  have ih':=fun m fc=>ih (k+1) j m fc hd (by simp at hj;omega)
  simp only[x4l,x28p]
  unfold xbn
  simp(disch:=omega) [h.len x1r8,hk',ix,x1rg,e1]
  by_cases c1:x=void
  .simp(disch:=omega) [c1,badP]
   exact ih' _ _
  cases c:isW x
  .simp(disch:=omega) [c1,c,x269,badP,ix,x1rg,e1]
  .simp(disch:=omega) [c1,c,x269,badP,ix,x1rg,e1]
   exact ih' _ _
theorem x28r(d:Nat){a:AV}{l:List Int}(h:Ints a l)(hl:l.length<=1000000)(m:Mem):x1qq (x1qp (d+3)) x5c [a] m=some (I (x1st isW l),m):=by
 refine Ans.call0 ?_ (by simp[h.still]) rfl
 unfold Ans
 rw[xzc]
 unfold xec xgg xbo
 simp[mem0]
 exact x28q d [] h hl l 0 NN _ _ rfl (by rw[x1r6];omega)
theorem x1ut:xt=[I 0,I 0,nilS]:=by kernel_rfl
theorem x26a(d:Nat){a:AV}{r c:Int}{l:List Int}(h:Ints a l)(hl:l.length<=1000000)(m:Mem):∃a',Ints a' l/\x1qq (x1qp (d+2)) x1v [.agg [I r,I c,a]] m=some (.agg [I r,I c,a'],m):=by
 obtain⟨a',ha',hc⟩:=x22f d h hl (((⟨[],1⟩:Mem).new (0,0,1) (.row [I r,I c,a] 0 false)).new (0,1,2) (.row [I 0,I 0,nilS] 0 false))
 refine⟨a',ha',Ans.call0 ?_ (by simp[h.still1]) (by simp[ha'.still1])⟩
 unfold Ans
 rw[xz4]
 unfold xe5 xfw
 simp[mem0,h.one,x1ut,hc,x1qx,x1rx,sLdP,h.clean,ha'.cells,ha'.one]
end Go.Ix
