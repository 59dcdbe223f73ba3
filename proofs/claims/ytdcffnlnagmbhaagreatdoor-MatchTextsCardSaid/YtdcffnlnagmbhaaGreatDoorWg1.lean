import Derived.Test.YtdcffnlnagmbhaaGreatDoorWg0
import Derived.Laws.Strings
import Derived.Test.YtdcffnlnagmbhaaGreatDoorIxA
import Derived.Lib.AtoiAll
set_option linter.unusedSimpArgs false
namespace Go.Ix
open Go.Proofs
structure Edge where
 fr:Int
 to:Int
 jump:Int
 wt:Int
def Edge.c(e:Edge):List AV:=[I e.fr,I e.to,I e.jump,I e.wt]
theorem Edge.len(e:Edge):e.c.length=4:=rfl
def wi(a b c:Int):Bool:=decide (b<=a/\a<=c)
theorem wi_t{a b c:Int}(h:wi a b c=true):b<=a/\a<=c:=x18j h
theorem xrz(d:Nat)(a b c:Int)(m:Mem):xp9 (xpc (d+1)) xp [I a,I b,I c] m=some (B (wi a b c),m):=by
 refine call0 rfl (m':=⟨[],1⟩) ?_ rfl
 rw[xkq]
 unfold x6x x5n wi
 by_cases h:b<=a<;>by_cases h2:a<=c<;>simp[h,h2,mem0]
theorem xta:Tryz.prog.underlying xb=some (.slice xpm):=by kernel_rfl
theorem w_Size(d:Nat)(a:Int)(m:Mem)(h1:-9223372036854775808<a)(h2:a<=9223372036854775807):xp9 (xpc (d+1)) x24 [I a] m=some (I (a.natAbs:Int),m):=by
 refine call0 rfl (m':=⟨[],1⟩) ?_ rfl
 rw[xl0]
 unfold x7c x63
 simp(disch:=omega) [mem0,xr9]
 split<;>omega
abbrev T(s:ByteArray):AV:=.sc (.string s)
abbrev U8(c:Int):AV:=.sc (.int .u8 c)
theorem u8_gt(x y:Operand)(a b:Int):sBin Tryz.prog .gtr x8 x y (U8 a) (U8 b)=some (B (decide (b<a))):=by kernel_rfl
theorem u8_lt(x y:Operand)(a b:Int):sBin Tryz.prog .lss x8 x y (U8 a) (U8 b)=some (B (decide (a<b))):=by kernel_rfl
theorem u8_eq(x y:Operand)(a b:Int):sBin Tryz.prog .eql x8 x y (U8 a) (U8 b)=some (B (decide (a=b))):=by kernel_rfl
def teq(a b:ByteArray):Bool:=a.toList == b.toList
theorem t_eq(x y:Operand)(a b:ByteArray):sBin Tryz.prog .eql x7 x y (T a) (T b)=some (B (teq a b)):=by kernel_rfl
@[simp] theorem sLenS_T(s:ByteArray):xpx (T s)=some (I s.size):=rfl
theorem u_str:Tryz.prog.underlying x7=some .string:=by kernel_rfl
theorem idx_T{s:ByteArray}{k:Nat}(h:k<s.data.toList.length):sIdx Tryz.prog x7 (T s) (I k)=some (U8 (s.data.toList[k]).toNat):=by
 have:xpf Tryz.prog (Instr.index x7 (.string s) (.int .i64 k))=some (.int .u8 (s.data.toList[k]).toNat):=by
  have h2:s[k]?=some s.data.toList[k]:=by
   have h3:k<s.size:=by simpa using h
   rw[getElem?_pos s k h3]
   rfl
  simp only[Instr.index,asIntOf,asInt,underlying,program,Bind.bind,Sem.bind,xpf,Pure.pure,u_str]
  rw[x16u (by omega),Int.toNat_natCast,h2]
  rfl
 have e:sIdx Tryz.prog x7 (T s) (I k)=(xpf Tryz.prog (Instr.index x7 (.string s) (.int .i64 k))).map xpz:=by
  simp only[sIdx,I,xpn]
 rw[e,this]
 rfl
end Go.Ix
set_option linter.unusedVariables false
namespace Go.Ix
def isDig(c:UInt8):Bool:=decide (48<=c.toNat)&&decide (c.toNat<=57)
def valD(acc:Nat)(l:List UInt8):Nat:=l.foldl (λa c=>10*a+(c.toNat-48)) acc
def nbrM(l:List UInt8)(d:Nat):Option Int:=
 let r:=if l.head?=some 45 then l.tail else l
 if r=[]\/d<r.length\/(r.head?=some 48/\1<l.length)\/r.all isDig=false then none else some (if l.head?=some 45 then -(valD 0 r:Int)else valD 0 r)
theorem xui{a b:UInt8}(h:a.toNat=b.toNat):a=b:=UInt8.toNat_inj.1 h
theorem xv9{u:Nat}(h:u<10):(UInt8.ofNat (48+u)).toNat=48+u:=by
 rw[UInt8.toNat_ofNat']
 omega
theorem x10t{u:Nat}(h:u<10):isDig (UInt8.ofNat (48+u))=true:=by
 unfold isDig
 rw[xv9 h]
 simp;omega
theorem xuj{c:UInt8}(h:isDig c=true):48<=c.toNat/\c.toNat<=57:=by
 unfold isDig at h
 simpa using h
theorem xxy(acc:Nat)(l k:List UInt8):valD acc (l++k)=valD (valD acc l) k:=by
 unfold valD;rw[List.foldl_append]
theorem xva(acc:Nat)(c:UInt8):valD acc [c]=10*acc+(c.toNat-48):=rfl
theorem xxz:∀(l:List UInt8) (acc:Nat),acc<=valD acc l
 |[],acc=>x170 _
 |c::r,acc=>by
  have:=xxz r (10*acc+(c.toNat-48))
  show acc<=valD (10*acc+(c.toNat-48)) r
  omega
theorem xw5:∀(l:List UInt8) (acc:Nat),l.all isDig=true->valD acc l<(acc+1)*10 ^ l.length
 |[],acc,_=>by simp[valD]
 |c::r,acc,h=>by
  rw[x17x,x16y]at h
  have hc:=xuj h.1
  have ih:=xw5 r (10*acc+(c.toNat-48)) h.2
  show valD (10*acc+(c.toNat-48)) r<_
  rw[x17d,Nat.pow_succ]
  have h2:(10*acc+(c.toNat-48)+1)*10 ^ r.length<=(acc+1)*10*10 ^ r.length:=x183 _ (by omega)
  rw[Nat.mul_assoc,Nat.mul_comm 10 (10 ^ r.length)]at h2
  omega
structure Digs (l:List UInt8) (u:Nat):Prop where
 all:l.all isDig=true
 val:valD 0 l=u
 ne:l≠[]
 hd:l.head?=some 48->l=[48]
theorem xuk:∀(k u:Nat),1<=k->u<10 ^ k->Digs (digF k u) u
 |0,u,h,_=>absurd h (by decide)
 |k+1,u,_,h=>by
  unfold digF
  by_cases c:u<10
  .rw[x16u c]
   refine⟨by rw[x17x,x10t c];rfl,?_,by simp,?_⟩
   .rw[xva,xv9 c];omega
   .intro e
    simp only[List.head?_cons,x16w]at e
    rw[e]
  .rw[x16t c]
   have hk:1<=k:=by
    rcases k with _|k
    .simp at h;omega
    .omega
   have ih:=xuk k (u / 10) hk (by rw[Nat.pow_succ]at h;omega)
   have hm:u % 10<10:=x19d _ (by omega)
   refine⟨by rw[x1a0,ih.all,x17x,x10t hm];rfl,?_,by simp,?_⟩
   .rw[xxy,ih.val,xva,xv9 hm];omega
   .intro e
    rw[List.head?_append]at e
    obtain⟨x,r,hx⟩:∃x r,digF k (u / 10)=x::r:=by
     cases h2:digF k (u / 10)with
     |nil=>exact absurd h2 ih.ne
     |cons x r=>exact⟨x,r,rfl⟩
    rw[hx]at e
    have e2:x=48:=by simpa using e
    have h3:=ih.hd (by rw[hx,e2];rfl)
    have h4:=ih.val
    rw[h3]at h4
    have:valD 0 [48]=0:=rfl
    omega
theorem digs_uniq:∀(l:List UInt8) (k:Nat),Digs l (valD 0 l)->l.length<=k->digF k (valD 0 l)=l:=by
 intro l
 induction hn:l.length generalizing l with
 |zero=>intro k h _;exact absurd (x18i.1 hn) h.ne
 |succ n ih=>
  intro k h hk
  obtain⟨k,rfl⟩:∃j,k=j+1:=⟨k-1,by omega⟩
  obtain⟨r,c,rfl⟩:∃r c,l=r++[c]:=⟨l.dropLast,l.getLast h.ne,(List.dropLast_concat_getLast h.ne).symm⟩
  have ha:=h.all
  rw[x1a0,x16y]at ha
  have hc:=xuj (by simpa using ha.2)
  have hrl:r.length=n:=by simpa using hn
  by_cases hr:r=[]
  .subst hr
   rw[x18x,xva]
   unfold digF
   rw[x16u (by omega)]
   congr 1
   exact xui (by rw[xv9 (by omega)];omega)
  .obtain⟨x,r',rfl⟩:∃x r',r=x::r':=by
    cases r with
    |nil=>exact absurd rfl hr
    |cons x r'=>exact⟨x,r',rfl⟩
   have hx0:x≠48:=λe=>by
    have:=h.hd (by rw[e];rfl)
    simp at this
   have hxd:=xuj (c:=x) (by
    have:=ha.1
    rw[x17x,x16y]at this
    exact this.1)
   have hx1:49<=x.toNat:=by
    rcases x17m x.toNat 49 with h1|h1
    .exact absurd (xui (by show x.toNat=48;omega)) hx0
    .exact h1
   have hv:1<=valD 0 (x::r'):=by
    have:=xxz r' (10*0+(x.toNat-48))
    show 1<=valD (10*0+(x.toNat-48)) r'
    omega
   have hD:Digs (x::r') (valD 0 (x::r')):=⟨ha.1,rfl,by simp,λe=>by
    simp only[List.head?_cons,x16w]at e
    exact absurd e hx0⟩
   have i1:=ih (x::r') hrl k hD (by omega)
   rw[xxy,xva]
   generalize valD 0 (x::r')=v at hv i1
   unfold digF
   rw[x16t (by omega),show(10*v+(c.toNat-48)) / 10=v from by omega,show(10*v+(c.toNat-48)) % 10=c.toNat-48 from by omega,i1]
   congr 2
   exact xui (by rw[xv9 (by omega)];omega)
theorem nbrM_dec{l:List UInt8}{d:Nat}{n:Int}(hd:d<=18)(h:nbrM l d=some n):decM n=l/\-1000000000000000000<n/\n<1000000000000000000:=by
 unfold nbrM at h
 dsimp only at h
 generalize hr:(if l.head?=some 45 then l.tail else l)=r at h
 by_cases hc:r=[]\/d<r.length\/(r.head?=some 48/\1<l.length)\/r.all isDig=false
 .rw[x16u hc]at h;cases h
 .rw[x16t hc]at h
  simp only[not_or,Bool.not_eq_false]at hc
  obtain⟨h1,h2,h3,h4⟩:=hc
  have hlt:=xw5 r 0 h4
  have hp:10 ^ r.length<=10 ^ 18:=Nat.pow_le_pow_right (by omega) (by omega)
  have hz:∀hh:r.head?=some 48,r=[48]/\l.head?≠some 45:=by
   intro hh
   have h5:¬1<l.length:=λh6=>h3 ⟨hh,h6⟩
   by_cases c:l.head?=some 45
   .rw[x16u c]at hr
    cases l with
    |nil=>cases c
    |cons x t=>
     simp only[List.tail_cons]at hr
     simp only[x17d]at h5
     have:t=[]:=x18i.1 (by omega)
     rw[<-hr,this]at h1
     exact absurd rfl h1
   .rw[x16t c]at hr
    subst hr
    refine⟨?_,c⟩
    cases l with
    |nil=>cases hh
    |cons x t=>
     simp only[x17d]at h5
     have:t=[]:=x18i.1 (by omega)
     subst this
     simp only[List.head?_cons,x16w]at hh
     rw[hh]
  have hD:Digs r (valD 0 r):=⟨h4,rfl,h1,λhh=>(hz hh).1⟩
  have hu:=digs_uniq r 20 hD (by omega)
  by_cases c:l.head?=some 45
  .rw[x16u c]at h hr
   cases h
   have hpos:0<valD 0 r:=by
    rcases Nat.eq_zero_or_pos (valD 0 r)with h0|h0
    .exfalso
     rw[h0]at hu
     have:r=[48]:=by rw[<-hu];rfl
     exact(hz (by rw[this];rfl)).2 c
    .exact h0
   refine⟨?_,by omega,by omega⟩
   unfold decM
   rw[x16u (by omega),show(-(valD 0 r:Int)).natAbs=valD 0 r from by omega,hu]
   cases l with
   |nil=>cases c
   |cons x t=>
    simp only[List.head?_cons,x16w]at c
    rw[c,<-hr];rfl
  .rw[x16t c]at h hr
   cases h
   refine⟨?_,by omega,by omega⟩
   unfold decM
   rw[x16t (by omega),show((valD 0 r:Int)).toNat=valD 0 r from by omega,hu,hr]
theorem not45{c:UInt8}(h:isDig c=true):c≠45:=by
 rintro rfl
 exact absurd h (by decide)
def unsg(l:List UInt8):List UInt8:=if l.head?=some 45 then l.tail else l
theorem xy0{n:Int}(h0:-9223372036854775808<=n)(h1:n<=9223372036854775807)(d:Nat):nbrM (decM n) d=if(unsg (decM n)).length<=d then some n else none:=by
 unfold decM
 by_cases c:n<0
 .rw[x16u c]
  have hD:=xuk 20 n.natAbs (by omega) (by omega)
  have hu:unsg (45::digF 20 n.natAbs)=digF 20 n.natAbs:=by unfold unsg;rw[x16u (show(45::digF 20 n.natAbs).head?=some 45 from rfl)];rfl
  rw[hu]
  unfold nbrM
  dsimp only
  rw[x16u (show(45::digF 20 n.natAbs).head?=some 45 from rfl),List.tail_cons]
  have hz:¬((digF 20 n.natAbs).head?=some 48/\1<(45::digF 20 n.natAbs).length):=by
   rintro⟨h2,-⟩
   have h3:=hD.val
   rw[hD.hd h2]at h3
   have:valD 0 [48]=0:=rfl
   omega
  by_cases c2:(digF 20 n.natAbs).length<=d
  .rw[x16u c2,x16t (by
    rintro(h|h|h|h)
    .exact hD.ne h
    .omega
    .exact hz h
    .rw[hD.all]at h;cases h),x16u (show(45::digF 20 n.natAbs).head?=some 45 from rfl),hD.val]
   congr 1
   omega
  .rw[x16t c2,x16u (.inr (.inl (by omega)))]
 .rw[x16t c]
  have hD:=xuk 20 n.toNat (by omega) (by omega)
  have hh:¬(digF 20 n.toNat).head?=some 45:=by
   cases h2:digF 20 n.toNat with
   |nil=>simp
   |cons x r=>
    have h3:=hD.all
    rw[h2,x17x,x16y]at h3
    simp only[List.head?_cons,x16w]
    exact not45 h3.1
  have hu:unsg (digF 20 n.toNat)=digF 20 n.toNat:=by unfold unsg;rw[x16t hh]
  rw[hu]
  unfold nbrM
  dsimp only
  rw[x16t hh]
  have hz:¬((digF 20 n.toNat).head?=some 48/\1<(digF 20 n.toNat).length):=by
   rintro⟨h2,h3⟩
   rw[hD.hd h2]at h3
   simp at h3
  by_cases c2:(digF 20 n.toNat).length<=d
  .rw[x16u c2,x16t (by
    rintro(h|h|h|h)
    .exact hD.ne h
    .omega
    .exact hz h
    .rw[hD.all]at h;cases h),x16t hh,hD.val]
   congr 1
   omega
  .rw[x16t c2,x16u (.inr (.inl (by omega)))]
theorem xy1:∀(l:List UInt8) (acc:Nat),l.all isDig=true->valD acc l<18446744073709551616->Lib.parseUint10 acc l=.ok (valD acc l)
 |[],acc,_,_=>rfl
 |c::r,acc,h,hv=>by
  rw[x17x,x16y]at h
  have hc:=xuj h.1
  have hv':valD (10*acc+(c.toNat-48)) r<18446744073709551616:=hv
  have hg:=xxz r (10*acc+(c.toNat-48))
  have ih:=xy1 r (acc*10+(c.toNat-48)) h.2 (by rw[Nat.mul_comm acc 10];exact hv')
  unfold Lib.parseUint10
  rw[x16u hc,x16t (by omega),x16t (by omega),ih,Nat.mul_comm acc 10]
  rfl
theorem atoi_dec{n:Int}(h0:-9223372036854775808<=n)(h1:n<=9223372036854775807):Lib.atoiAll (decM n)=.ok n:=by
 unfold decM
 by_cases c:n<0
 .rw[x16u c]
  have hD:=xuk 20 n.natAbs (by omega) (by omega)
  have hp:Lib.parseMag (digF 20 n.natAbs)=.ok n.natAbs:=by
   unfold Lib.parseMag
   rw[x16t hD.ne,xy1 _ 0 hD.all (by rw[hD.val];omega),hD.val]
  unfold Lib.atoiAll
  dsimp only
  rw[x16u (Or.inr (show(45:UInt8).toNat=45 from rfl)),hp]
  dsimp only
  rw[x16t (by
   rintro⟨h2,-⟩
   exact h2 rfl),x16t (by
   rintro⟨-,h2⟩
   omega),x16u (show(45:UInt8).toNat=45 from rfl)]
  congr 1
  omega
 .rw[x16t c]
  have hD:=xuk 20 n.toNat (by omega) (by omega)
  have hp:Lib.parseMag (digF 20 n.toNat)=.ok n.toNat:=by
   unfold Lib.parseMag
   rw[x16t hD.ne,xy1 _ 0 hD.all (by rw[hD.val];omega),hD.val]
  cases h2:digF 20 n.toNat with
  |nil=>exact absurd h2 hD.ne
  |cons x r=>
   have h3:=hD.all
   rw[h2,x17x,x16y]at h3
   have hx:=xuj h3.1
   rw[h2]at hp
   unfold Lib.atoiAll
   dsimp only
   rw[x16t (by omega),hp]
   dsimp only
   rw[x16t (by
    rintro⟨-,h4⟩
    omega),x16t (by
    rintro⟨h4,-⟩
    omega),x16t (by omega)]
   congr 1
   omega
def tstM(w:List UInt8)(d:Nat):Option Int:=
 match Lib.atoiAll w with
 | .ok n=>if decM n=w/\(unsg w).length<=d then some n else none
 |_=>none
theorem atoi_in{w:List UInt8}{n:Int}(h:Lib.atoiAll w=.ok n):-9223372036854775808<=n/\n<=9223372036854775807:=by
 unfold Lib.atoiAll at h
 split at h
 .cases h
 .dsimp only at h
  split at h
  .cases h
  .cases h
  .rename_i u _
   split at h
   .cases h
   .split at h
    .cases h
    .injection h with h
     rename_i h2 h3
     split at h<;>omega
theorem tst_num(w:List UInt8){d:Nat}(hd:d<=18):tstM w d=nbrM w d:=by
 unfold tstM
 cases h:nbrM w d with
 |some n=>
  obtain⟨h1,h2,h3⟩:=nbrM_dec hd h
  have h4:=atoi_dec (n:=n) (by omega) (by omega)
  rw[h1]at h4
  rw[h4]
  have h5:=xy0 (n:=n) (by omega) (by omega) d
  rw[h1,h]at h5
  dsimp only
  by_cases c:(unsg w).length<=d
  .rw[x16u ⟨h1,c⟩]
  .rw[x16t c]at h5;cases h5
 |none=>
  split
  .rename_i n h2
   obtain⟨h3,h4⟩:=atoi_in h2
   rw[x16t]
   rintro⟨h5,h6⟩
   have h7:=xy0 h3 h4 d
   rw[h5,h,x16u h6]at h7
   cases h7
  .rfl
def cutM(c:UInt8):List UInt8->List (List UInt8)
 |[]=>[[]]
 |x::r=>if x=c then[]::cutM c r else match cutM c r with
  |[]=>[[x]]
  |h::t=>(x::h)::t
theorem cutM_ne(c:UInt8):∀l,cutM c l≠[]
 |[]=>by simp[cutM]
 |x::r=>by
  unfold cutM
  split
  .simp
  .split<;>simp
theorem xw6{c:UInt8}:∀{l:List UInt8},c∉l->cutM c l=[l]
 |[],_=>rfl
 |x::r,h=>by
  unfold cutM
  rw[x16t (λe=>h (by rw[e];exact x17l)),xw6 λe=>h (x172 _ e)]
theorem xw7{c:UInt8}:∀{l:List UInt8} (k:List UInt8),c∉l->cutM c (l++c::k)=l::cutM c k
 |[],k,_=>by
  show cutM c (c::k)=_
  rw[cutM,x16u rfl]
 |x::r,k,h=>by
  rw[x18k]
  rw[cutM]
  rw[x16t (λe=>h (by rw[e];exact x17l)),xw7 k λe=>h (x172 _ e)]
theorem x10u{c:UInt8}:∀{ws:List (List UInt8)},ws≠[]->(∀w∈ws,c∉w)->cutM c (xqm [c] ws)=ws
 |[],h,_=>absurd rfl h
 |[w],_,h=>by
  show cutM c w=_
  exact xw6 (h w (by simp))
 |w::x::r,_,h=>by
  have ih:=x10u (ws:=x::r) (by simp) λy hy=>h y (x172 _ hy)
  show cutM c (w++([c]++xqm [c] (x::r)))=_
  rw[List.singleton_append,xw7 _ (h w (by simp)),ih]
theorem dec_no32(n:Int)(h0:-9223372036854775808<=n)(h1:n<=9223372036854775807):(32:UInt8)∉decM n:=by
 have key:∀u,u<10 ^ 20->(32:UInt8)∉digF 20 u:=λu hu h=>by
  have hD:=xuk 20 u (by omega) hu
  have:=x16z.mp hD.all _ h
  exact absurd this (by decide)
 unfold decM
 split
 .intro h
  rcases x174.1 h with h|h
  .exact absurd h (by decide)
  .exact key _ (by omega) h
 .exact key _ (by omega)
theorem x10v{sep:List UInt8}:∀{ws:List (List UInt8)} (w:List UInt8),ws≠[]->xqm sep (ws++[w])=xqm sep ws++(sep++w)
 |[],w,h=>absurd rfl h
 |[x],w,_=>rfl
 |x::y::r,w,_=>by
  have ih:=x10v (sep:=sep) (ws:=y::r) w (by simp)
  show x++(sep++xqm sep ((y::r)++[w]))=(x++(sep++xqm sep (y::r)))++(sep++w)
  rw[ih]
  simp
open Go.Proofs
abbrev Ints(a:AV)(l:List Int):Prop:=Sl intE a l
def exI(t:List Int)(e:Edge):Int:=at0 t e.to.toNat-at0 t e.fr.toNat+e.jump
def TurnsIn(t:List Int):Prop:=∀x∈t,-1000000<=x/\x<=1000000
theorem TurnsIn.get{t:List Int}(h:TurnsIn t)(k:Nat):-1000000<=at0 t k/\at0 t k<=1000000:=by
 unfold at0
 rw[x17t]
 cases hk:t[k]? with
 |none=>simp
 |some x=>simpa using h x (x17q hk)
structure EdgeIn (n:Nat) (e:Edge):Prop where
 f0:0<=e.fr
 f1:e.fr<n
 t0:0<=e.to
 t1:e.to<n
 j0:-1000<=e.jump
 j1:e.jump<=1000
 w0:0<=e.wt
 w1:e.wt<=1000
def RetF(T:AV->Prop)(r:O2):Prop:=∃a m' a',r=some (a,m')/\frz m'.get deep a=some a'/\T a'
theorem RetF.st{T:AV->Prop}{a:AV}{m:Mem}(h:still a=true)(ht:T a):RetF T (some (a,m)):=⟨a,m,a,rfl,xuf _ 4 h,ht⟩
theorem RetF.tup{T:AV->Prop}{l:List AV}{m:Mem}(h:l.all still=true)(ht:T (.tup l)):RetF T (some (.tup l,m)):=⟨_,m,_,rfl,frz_tup h,ht⟩
theorem RetF.mk{T:AV->Prop}{a a':AV}{m:Mem}(h:frz m.get deep a=some a')(ht:T a'):RetF T (some (a,m)):=⟨a,m,a',rfl,h,ht⟩
theorem xtx{T:AV->Prop}{call:xpb}{f:FuncId}{l:List AV}(hl:l.all still=true)(h:RetF T (call [] f l mem0))(m:Mem):∃a,T a/\xp9 call f l m=some (a,m):=by
 obtain⟨a,m',a',h1,h2,h3⟩:=h
 exact⟨a',h3,x10o hl h1 h2⟩
theorem callV{v:AV}{call:xpb}{f:FuncId}{l:List AV}(hl:l.all still=true)(h:RetF (λa=>a=v) (call [] f l mem0))(m:Mem):xp9 call f l m=some (v,m):=by
 obtain⟨a,h1,h2⟩:=xtx hl h m
 rw[h2,h1]
theorem Gr.len{α:Type}{z:Nat}{enc:α->List AV}{l:List α}{a:AV}{u t:Nat}{m:Mem}{y e:TypeId}(ht:Tryz.prog.underlying y=some (.slice e))(h:Gr z enc u t m a l):sLen Tryz.prog y a=some (I l.length):=by
 rcases h with ⟨rfl,rfl⟩|⟨s,ver,rfl,hg⟩
 .exact xw1 ht
 .rfl
end Go.Ix
