import Derived.Test.YtacloojepepcfaaGreatDoorWg0
import Derived.Laws.Strings
import Derived.Test.YtacloojepepcfaaGreatDoorIxA
import Derived.Lib.AtoiAll
set_option linter.unusedSimpArgs false
namespace Go.Ix
open Go.Proofs
structure Edge where
 fr:Int
 to:Int
 jump:Int
 wt:Int
def Edge.c(e:Edge):List AV:=[I e.fr,I e.to,I e.jump,I e.wt]
theorem Edge.len(e:Edge):e.c.length=4:=rfl
def wi(a b c:Int):Bool:=decide (b<=a/\a<=c)
theorem wi_t{a b c:Int}(h:wi a b c=true):b<=a/\a<=c:=x19f h
theorem xux(d:Nat)(a b c:Int)(m:Mem):xox (xow (d+1)) xl [I a,I b,I c] m=some (B (wi a b c),m):=by
 refine call0 rfl (m':=⟨[],1⟩) ?_ rfl
 rw[xko]
 unfold x7k x65 wi
 by_cases h:b<=a<;>by_cases h2:a<=c<;>simp[h,h2,mem0]
theorem xvp(d:Nat)(a b c:Int)(m:Mem):xox (xow (d+1)) xi [I a,I b,I c] m=some (B (wi a b c),m):=by
 refine call0 rfl (m':=⟨[],1⟩) ?_ rfl
 rw[xkk]
 unfold x78 x60 wi
 by_cases h:b<=a<;>by_cases h2:a<=c<;>simp[h,h2,mem0]
theorem xqf:Tryz.prog.underlying xe=some (.slice x18):=by kernel_rfl
theorem xr3:Tryz.prog.underlying x8=some (.slice xpa):=by kernel_rfl
theorem xsa:xc=[I 0,I 0,I 0,I 0]:=by kernel_rfl
theorem z_net:xb=[I 0,nilS]:=by kernel_rfl
theorem xtl:xpy=[I 0]:=by kernel_rfl
theorem w_Size(d:Nat)(a:Int)(m:Mem)(h1:-9223372036854775808<a)(h2:a<=9223372036854775807):xox (xow (d+1)) x26 [I a] m=some (I (a.natAbs:Int),m):=by
 refine call0 rfl (m':=⟨[],1⟩) ?_ rfl
 rw[xkz]
 unfold x7y x6p
 simp(disch:=omega) [mem0,xq4]
 split<;>omega
def xqm(n:Int):Int->List Edge->Int×Int
 |_,[]=>(0,0)
 |i,e::r=>
  bif !(wi e.fr 0 (n-1))||!(wi e.to 0 (n-1))then(i,6)
  else bif decide (e.fr=e.to)then(i,3)
  else bif !(wi e.jump (-1000) 1000)||!(wi e.wt 0 1000)then(i,2)
  else xqm n (i+1) r
def xpo(n:Int)(l:List Edge):Int×Int:=
 bif !(wi n 0 200)then(0,2)else bif decide (600<(l.length:Int))then(0,8)else xqm n 0 l
theorem x13z(d:Nat)(hs:FHs){n:Int}{ev:AV}{l:List Edge}(h:Sl Edge.c ev l)(hn:0<=n/\n<=200)(hl:l.length<=600):∀(suf:List Edge) (k j:Nat) (m:Mem) (fc:Nat),l.drop k=suf->suf.length<j ->
 m.get (0,0,1)=some (.row [I n,ev] 0 false)->∃m',x2e (xow (d+1)) hs 0 j (.ptr (0,0,1) 0 0) (I k) m fc=some (.tup [I (xqm n k suf).1,I (xqm n k suf).2],m'):=by
 intro suf
 induction suf with
 |nil=>
  intro k j m fc hd hj hg
  obtain⟨j,rfl⟩:∃i,j=i+1:=⟨j-1,by simp at hj;omega⟩
  have hk:¬((k:Int)<(l.length:Int)):=by have:=x19a.mp hd;omega
  simp only[x2e]
  unfold x5i
  simp[hg,h.len xqf,hk,x8k,xqm]
 |cons e r ih=>
  intro k j m fc hd hj hg
  obtain⟨j,rfl⟩:∃i,j=i+1:=⟨j-1,by simp at hj;omega⟩
  obtain⟨hk,he,hd⟩:=xrx hd
  have hk':(k:Int)<(l.length:Int):=by omega
  have ix:=h.ix Edge.len hk
  have ld:=xuw (m:=m) Edge.len (by omega) hk
  rw[he]at ld
  simp only[x2e]
  unfold x5i
  simp(disch:=omega) [hg,h.len xqf,hk',ix,ld,xsa,Edge.c,xux]
  cases c1:wi e.fr 0 (n-1)
  .simp[xqm,c1]
  simp(disch:=omega) [hg,xux]
  cases c2:wi e.to 0 (n-1)
  .simp[xqm,c1,c2]
  simp(disch:=omega) [hg,xux]
  by_cases c3:e.fr=e.to
  .simp[xqm,c1,c2,c3]
  simp(disch:=omega) [c3,hg,xux]
  cases c4:wi e.jump (-1000) 1000
  .simp[xqm,c1,c2,c3,c4]
  simp(disch:=omega) [hg,xux]
  cases c5:wi e.wt 0 1000
  .simp[xqm,c1,c2,c3,c4,c5]
  obtain⟨m',h'⟩:=ih (k+1) j ((m.new (0,fc+10,5) (.row [I 0,I 0,I 0,I 0] 0 false)).set (0,fc+10,5) (.row e.c 0 false)) (fc+46) hd (by simp at hj;omega) (by simp[hg])
  simp(disch:=omega) [xqm,c1,c2,c3,c4,c5]
  exact⟨m',h'⟩
theorem x11r(d:Nat){n:Int}{ev:AV}{l:List Edge}(h:Sl Edge.c ev l)(m:Mem):xox (xow (d+2)) x10 [.agg [I n,ev]] m=some (.tup [I (xpo n l).1,I (xpo n l).2],m):=by
 have key:Ans (xow (d+2)) x10 [.agg [I n,ev]] (.tup [I (xpo n l).1,I (xpo n l).2]):=by
  unfold Ans
  rw[xke]
  unfold x7c x5j
  simp[mem0,h.one,xux]
  cases c1:wi n 0 200
  .simp[xpo,c1]
  simp[h.len xqf]
  by_cases c2:(600:Int)<(l.length:Int)
  .simp[xpo,c1,c2]
  obtain⟨m',h'⟩:=x13z d [] h (wi_t c1) (by omega) l 0 NN ((⟨[],1⟩:Mem).new (0,0,1) (.row [I n,ev] 0 false)) 12 rfl (by rw[xq7];omega) (by simp)
  simp[xpo,c1,c2,x8l]
  exact⟨m',h'⟩
 exact key.call0_tup (by simp[still,h.still1]) rfl
theorem w_Err(d:Nat){n:Int}{ev:AV}{l:List Edge}(h:Sl Edge.c ev l)(m:Mem):xox (xow (d+3)) x24 [.agg [I n,ev]] m=some (I (xpo n l).2,m):=by
 refine Ans.call0 ?_ (by simp[h.still1]) rfl
 unfold Ans
 rw[xkv]
 unfold x7r x6i
 simp[mem0,h.one,x11r _ h]
theorem x140(d:Nat)(a:Int)(m:Mem):xox (xow (d+2)) x1j [I a] m=some (B (wi a 0 1000),m):=by
 refine Ans.call0 ?_ rfl rfl
 unfold Ans
 rw[xkl]
 unfold x7i x61
 simp[mem0,xvp]
theorem x141(d:Nat)(hs:FHs){n:Int}{ev:AV}{l:List Edge}(h:Sl Edge.c ev l)(hn:0<=n/\n<=200)(hl:l.length<=600):∀(suf:List Edge) (k j:Nat) (m:Mem) (fc:Nat),l.drop k=suf->suf.length<j ->
 m.get (0,0,1)=some (.row [I n,ev] 0 false)->∃m',x2c (xow (d+2)) hs 0 j (.ptr (0,0,1) 0 0) ev (I l.length) (I k) m fc=some (.tup [I (xqm n k suf).1,I (xqm n k suf).2],m'):=by
 intro suf
 induction suf with
 |nil=>
  intro k j m fc hd hj hg
  obtain⟨j,rfl⟩:∃i,j=i+1:=⟨j-1,by simp at hj;omega⟩
  have hk:¬((k:Int)<(l.length:Int)):=by have:=x19a.mp hd;omega
  simp only[x2c]
  unfold x5d
  simp[hk,x8c,xqm]
 |cons e r ih=>
  intro k j m fc hd hj hg
  obtain⟨j,rfl⟩:∃i,j=i+1:=⟨j-1,by simp at hj;omega⟩
  obtain⟨hk,he,hd⟩:=xrx hd
  have hk':(k:Int)<(l.length:Int):=by omega
  have ix:=h.ix Edge.len hk
  have ld:=xuw (m:=m) Edge.len (by omega) hk
  rw[he]at ld
  simp only[x2c]
  unfold x5d
  simp(disch:=omega) [hg,hk',ix,ld,xsa,Edge.c,xvp]
  cases c1:wi e.fr 0 (n-1)
  .simp[xqm,c1]
  simp(disch:=omega) [hg,xvp]
  cases c2:wi e.to 0 (n-1)
  .simp[xqm,c1,c2]
  simp(disch:=omega)
  by_cases c3:e.fr=e.to
  .simp[xqm,c1,c2,c3]
  simp(disch:=omega) [c3,xvp]
  cases c4:wi e.jump (-1000) 1000
  .simp[xqm,c1,c2,c3,c4]
  simp(disch:=omega) [x140]
  cases c5:wi e.wt 0 1000
  .simp[xqm,c1,c2,c3,c4,c5]
  obtain⟨m',h'⟩:=ih (k+1) j ((m.new (0,fc+4,5) (.row [I 0,I 0,I 0,I 0] 0 false)).set (0,fc+4,5) (.row e.c 0 false)) (fc+43) hd (by simp at hj;omega) (by simp[hg])
  simp(disch:=omega) [xqm,c1,c2,c3,c4,c5]
  exact⟨m',h'⟩
theorem xyn(d:Nat){n:Int}{ev:AV}{l:List Edge}(h:Sl Edge.c ev l)(m:Mem):xox (xow (d+3)) xr [.agg [I n,ev]] m=some (.tup [I (xpo n l).1,I (xpo n l).2],m):=by
 have key:Ans (xow (d+3)) xr [.agg [I n,ev]] (.tup [I (xpo n l).1,I (xpo n l).2]):=by
  unfold Ans
  rw[xkc]
  unfold x7a x5e
  simp[mem0,h.one,xvp]
  cases c1:wi n 0 200
  .simp[xpo,c1]
  simp[h.len xqf]
  by_cases c2:(600:Int)<(l.length:Int)
  .simp[xpo,c1,c2]
  obtain⟨m',h'⟩:=x141 d [] h (wi_t c1) (by omega) l 0 NN ((⟨[],1⟩:Mem).new (0,0,1) (.row [I n,ev] 0 false)) 17 rfl (by rw[xq7];omega) (by simp)
  simp[xpo,c1,c2,x8d,h.len xqf]
  exact⟨m',h'⟩
 exact key.call0_tup (by simp[h.still1]) rfl
theorem z_pnet:xp=[I 0,nilS]:=by kernel_rfl
theorem w_open(d:Nat){n:Int}{ev:AV}{l:List Edge}(h:Sl Edge.c ev l)(m:Mem):xox (xow (d+4)) x13 [.agg [I n,ev]] m=some (.tup [.agg [I n,ev],I (xpo n l).2],m):=by
 refine Ans.call0_tup ?_ (by simp[h.still1]) (by simp[h.still1])
 unfold Ans
 rw[xkm]
 unfold x7j x62
 simp[mem0,h.one,xyn _ h,z_pnet,xp9,xrc,sLdP]
structure Right (n:Int) (l:List Edge):Prop where
 lo:0<=n
 hi:n<=200
 len:l.length<=600
 ed:∀e∈l,(0<=e.fr/\e.fr<=n-1)/\(0<=e.to/\e.to<=n-1)/\e.fr≠e.to/\(-1000<=e.jump/\e.jump<=1000)/\(0<=e.wt/\e.wt<=1000)
theorem x11s{n:Int}:∀{l:List Edge} {i:Int},(xqm n i l).2=0->∀e∈l,(0<=e.fr/\e.fr<=n-1)/\(0<=e.to/\e.to<=n-1)/\e.fr≠e.to/\(-1000<=e.jump/\e.jump<=1000)/\(0<=e.wt/\e.wt<=1000)
 |[],_,_,e,he=>by cases he
 |x::r,i,h,e,he=>by
  unfold xqm at h
  cases c1:wi x.fr 0 (n-1)
  .simp[c1]at h
  cases c2:wi x.to 0 (n-1)
  .simp[c1,c2]at h
  by_cases c3:x.fr=x.to
  .simp[c1,c2,c3]at h
  cases c4:wi x.jump (-1000) 1000
  .simp[c1,c2,c3,c4]at h
  cases c5:wi x.wt 0 1000
  .simp[c1,c2,c3,c4,c5]at h
  simp[c1,c2,c3,c4,c5]at h
  rcases x186.mp he with rfl|he
  .exact⟨wi_t c1,wi_t c2,c3,wi_t c4,wi_t c5⟩
  .exact x11s h e he
theorem xyo{n:Int}{l:List Edge}(h:(xpo n l).2=0):Right n l:=by
 unfold xpo at h
 cases c1:wi n 0 200
 .simp[c1]at h
 by_cases c2:(600:Int)<(l.length:Int)
 .simp[c1,c2]at h
 simp[c1,c2]at h
 exact⟨(wi_t c1).1,(wi_t c1).2,by omega,x11s h⟩
abbrev T(s:ByteArray):AV:=.sc (.string s)
abbrev U8(c:Int):AV:=.sc (.int .u8 c)
theorem u8_gt(x y:Operand)(a b:Int):sBin Tryz.prog .gtr x6 x y (U8 a) (U8 b)=some (B (decide (b<a))):=by kernel_rfl
theorem u8_lt(x y:Operand)(a b:Int):sBin Tryz.prog .lss x6 x y (U8 a) (U8 b)=some (B (decide (a<b))):=by kernel_rfl
theorem u8_eq(x y:Operand)(a b:Int):sBin Tryz.prog .eql x6 x y (U8 a) (U8 b)=some (B (decide (a=b))):=by kernel_rfl
def teq(a b:ByteArray):Bool:=a.toList == b.toList
theorem t_eq(x y:Operand)(a b:ByteArray):sBin Tryz.prog .eql x5 x y (T a) (T b)=some (B (teq a b)):=by kernel_rfl
@[simp] theorem sLenS_T(s:ByteArray):xpk (T s)=some (I s.size):=rfl
theorem u_str:Tryz.prog.underlying x5=some .string:=by kernel_rfl
theorem idx_T{s:ByteArray}{k:Nat}(h:k<s.data.toList.length):sIdx Tryz.prog x5 (T s) (I k)=some (U8 (s.data.toList[k]).toNat):=by
 have:xp2 Tryz.prog (Instr.index x5 (.string s) (.int .i64 k))=some (.int .u8 (s.data.toList[k]).toNat):=by
  have h2:s[k]?=some s.data.toList[k]:=by
   have h3:k<s.size:=by simpa using h
   rw[getElem?_pos s k h3]
   rfl
  simp only[Instr.index,asIntOf,asInt,underlying,program,Bind.bind,Sem.bind,xp2,Pure.pure,u_str]
  rw[x17u (by omega),x18g,h2]
  rfl
 have e:sIdx Tryz.prog x5 (T s) (I k)=(xp2 Tryz.prog (Instr.index x5 (.string s) (.int .i64 k))).map xpm:=by
  simp only[sIdx,I,xpb]
 rw[e,this]
 rfl
end Go.Ix
set_option linter.unusedVariables false
namespace Go.Ix
def isDig(c:UInt8):Bool:=decide (48<=c.toNat)&&decide (c.toNat<=57)
def valD(acc:Nat)(l:List UInt8):Nat:=l.foldl (λa c=>10*a+(c.toNat-48)) acc
def nbrM(l:List UInt8)(d:Nat):Option Int:=
 let r:=if l.head?=some 45 then l.tail else l
 if r=[]\/d<r.length\/(r.head?=some 48/\1<l.length)\/r.all isDig=false then none else some (if l.head?=some 45 then -(valD 0 r:Int)else valD 0 r)
theorem xuy{a b:UInt8}(h:a.toNat=b.toNat):a=b:=UInt8.toNat_inj.1 h
theorem xvq{u:Nat}(h:u<10):(UInt8.ofNat (48+u)).toNat=48+u:=by
 rw[UInt8.toNat_ofNat']
 omega
theorem x11t{u:Nat}(h:u<10):isDig (UInt8.ofNat (48+u))=true:=by
 unfold isDig
 rw[xvq h]
 simp;omega
theorem xuz{c:UInt8}(h:isDig c=true):48<=c.toNat/\c.toNat<=57:=by
 unfold isDig at h
 simpa using h
theorem xyp(acc:Nat)(l k:List UInt8):valD acc (l++k)=valD (valD acc l) k:=by
 unfold valD;rw[x1as]
theorem xvr(acc:Nat)(c:UInt8):valD acc [c]=10*acc+(c.toNat-48):=rfl
theorem xyq:∀(l:List UInt8) (acc:Nat),acc<=valD acc l
 |[],acc=>x17z _
 |c::r,acc=>by
  have:=xyq r (10*acc+(c.toNat-48))
  show acc<=valD (10*acc+(c.toNat-48)) r
  omega
theorem xww:∀(l:List UInt8) (acc:Nat),l.all isDig=true->valD acc l<(acc+1)*10 ^ l.length
 |[],acc,_=>by simp[valD]
 |c::r,acc,h=>by
  rw[x18u,x17y]at h
  have hc:=xuz h.1
  have ih:=xww r (10*acc+(c.toNat-48)) h.2
  show valD (10*acc+(c.toNat-48)) r<_
  rw[x188,Nat.pow_succ]
  have h2:(10*acc+(c.toNat-48)+1)*10 ^ r.length<=(acc+1)*10*10 ^ r.length:=x19e _ (by omega)
  rw[Nat.mul_assoc,Nat.mul_comm 10 (10 ^ r.length)]at h2
  omega
structure Digs (l:List UInt8) (u:Nat):Prop where
 all:l.all isDig=true
 val:valD 0 l=u
 ne:l≠[]
 hd:l.head?=some 48->l=[48]
theorem xv0:∀(k u:Nat),1<=k->u<10 ^ k->Digs (digF k u) u
 |0,u,h,_=>absurd h (by decide)
 |k+1,u,_,h=>by
  unfold digF
  by_cases c:u<10
  .rw[x17u c]
   refine⟨by rw[x18u,x11t c];rfl,?_,by simp,?_⟩
   .rw[xvr,xvq c];omega
   .intro e
    simp only[List.head?_cons,x17w]at e
    rw[e]
  .rw[x17t c]
   have hk:1<=k:=by
    rcases k with _|k
    .simp at h;omega
    .omega
   have ih:=xv0 k (u / 10) hk (by rw[Nat.pow_succ]at h;omega)
   have hm:u % 10<10:=Nat.mod_lt _ (by omega)
   refine⟨by rw[x1bb,ih.all,x18u,x11t hm];rfl,?_,by simp,?_⟩
   .rw[xyp,ih.val,xvr,xvq hm];omega
   .intro e
    rw[List.head?_append]at e
    obtain⟨x,r,hx⟩:∃x r,digF k (u / 10)=x::r:=by
     cases h2:digF k (u / 10)with
     |nil=>exact absurd h2 ih.ne
     |cons x r=>exact⟨x,r,rfl⟩
    rw[hx]at e
    have e2:x=48:=by simpa using e
    have h3:=ih.hd (by rw[hx,e2];rfl)
    have h4:=ih.val
    rw[h3]at h4
    have:valD 0 [48]=0:=rfl
    omega
theorem digs_uniq:∀(l:List UInt8) (k:Nat),Digs l (valD 0 l)->l.length<=k->digF k (valD 0 l)=l:=by
 intro l
 induction hn:l.length generalizing l with
 |zero=>intro k h _;exact absurd (x19s.1 hn) h.ne
 |succ n ih=>
  intro k h hk
  obtain⟨k,rfl⟩:∃j,k=j+1:=⟨k-1,by omega⟩
  obtain⟨r,c,rfl⟩:∃r c,l=r++[c]:=⟨l.dropLast,l.getLast h.ne,(List.dropLast_concat_getLast h.ne).symm⟩
  have ha:=h.all
  rw[x1bb,x17y]at ha
  have hc:=xuz (by simpa using ha.2)
  have hrl:r.length=n:=by simpa using hn
  by_cases hr:r=[]
  .subst hr
   rw[x1a5,xvr]
   unfold digF
   rw[x17u (by omega)]
   congr 1
   exact xuy (by rw[xvq (by omega)];omega)
  .obtain⟨x,r',rfl⟩:∃x r',r=x::r':=by
    cases r with
    |nil=>exact absurd rfl hr
    |cons x r'=>exact⟨x,r',rfl⟩
   have hx0:x≠48:=λe=>by
    have:=h.hd (by rw[e];rfl)
    simp at this
   have hxd:=xuz (c:=x) (by
    have:=ha.1
    rw[x18u,x17y]at this
    exact this.1)
   have hx1:49<=x.toNat:=by
    rcases x18s x.toNat 49 with h1|h1
    .exact absurd (xuy (by show x.toNat=48;omega)) hx0
    .exact h1
   have hv:1<=valD 0 (x::r'):=by
    have:=xyq r' (10*0+(x.toNat-48))
    show 1<=valD (10*0+(x.toNat-48)) r'
    omega
   have hD:Digs (x::r') (valD 0 (x::r')):=⟨ha.1,rfl,by simp,λe=>by
    simp only[List.head?_cons,x17w]at e
    exact absurd e hx0⟩
   have i1:=ih (x::r') hrl k hD (by omega)
   rw[xyp,xvr]
   generalize valD 0 (x::r')=v at hv i1
   unfold digF
   rw[x17t (by omega),show(10*v+(c.toNat-48)) / 10=v from by omega,show(10*v+(c.toNat-48)) % 10=c.toNat-48 from by omega,i1]
   congr 2
   exact xuy (by rw[xvq (by omega)];omega)
theorem nbrM_dec{l:List UInt8}{d:Nat}{n:Int}(hd:d<=18)(h:nbrM l d=some n):decM n=l/\-1000000000000000000<n/\n<1000000000000000000:=by
 unfold nbrM at h
 dsimp only at h
 generalize hr:(if l.head?=some 45 then l.tail else l)=r at h
 by_cases hc:r=[]\/d<r.length\/(r.head?=some 48/\1<l.length)\/r.all isDig=false
 .rw[x17u hc]at h;cases h
 .rw[x17t hc]at h
  simp only[not_or,Bool.not_eq_false]at hc
  obtain⟨h1,h2,h3,h4⟩:=hc
  have hlt:=xww r 0 h4
  have hp:10 ^ r.length<=10 ^ 18:=Nat.pow_le_pow_right (by omega) (by omega)
  have hz:∀hh:r.head?=some 48,r=[48]/\l.head?≠some 45:=by
   intro hh
   have h5:¬1<l.length:=λh6=>h3 ⟨hh,h6⟩
   by_cases c:l.head?=some 45
   .rw[x17u c]at hr
    cases l with
    |nil=>cases c
    |cons x t=>
     simp only[List.tail_cons]at hr
     simp only[x188]at h5
     have:t=[]:=x19s.1 (by omega)
     rw[<-hr,this]at h1
     exact absurd rfl h1
   .rw[x17t c]at hr
    subst hr
    refine⟨?_,c⟩
    cases l with
    |nil=>cases hh
    |cons x t=>
     simp only[x188]at h5
     have:t=[]:=x19s.1 (by omega)
     subst this
     simp only[List.head?_cons,x17w]at hh
     rw[hh]
  have hD:Digs r (valD 0 r):=⟨h4,rfl,h1,λhh=>(hz hh).1⟩
  have hu:=digs_uniq r 20 hD (by omega)
  by_cases c:l.head?=some 45
  .rw[x17u c]at h hr
   cases h
   have hpos:0<valD 0 r:=by
    rcases Nat.eq_zero_or_pos (valD 0 r)with h0|h0
    .exfalso
     rw[h0]at hu
     have:r=[48]:=by rw[<-hu];rfl
     exact(hz (by rw[this];rfl)).2 c
    .exact h0
   refine⟨?_,by omega,by omega⟩
   unfold decM
   rw[x17u (by omega),show(-(valD 0 r:Int)).natAbs=valD 0 r from by omega,hu]
   cases l with
   |nil=>cases c
   |cons x t=>
    simp only[List.head?_cons,x17w]at c
    rw[c,<-hr];rfl
  .rw[x17t c]at h hr
   cases h
   refine⟨?_,by omega,by omega⟩
   unfold decM
   rw[x17t (by omega),show((valD 0 r:Int)).toNat=valD 0 r from by omega,hu,hr]
theorem not45{c:UInt8}(h:isDig c=true):c≠45:=by
 rintro rfl
 exact absurd h (by decide)
def unsg(l:List UInt8):List UInt8:=if l.head?=some 45 then l.tail else l
theorem xyr{n:Int}(h0:-9223372036854775808<=n)(h1:n<=9223372036854775807)(d:Nat):nbrM (decM n) d=if(unsg (decM n)).length<=d then some n else none:=by
 unfold decM
 by_cases c:n<0
 .rw[x17u c]
  have hD:=xv0 20 n.natAbs (by omega) (by omega)
  have hu:unsg (45::digF 20 n.natAbs)=digF 20 n.natAbs:=by unfold unsg;rw[x17u (show(45::digF 20 n.natAbs).head?=some 45 from rfl)];rfl
  rw[hu]
  unfold nbrM
  dsimp only
  rw[x17u (show(45::digF 20 n.natAbs).head?=some 45 from rfl),List.tail_cons]
  have hz:¬((digF 20 n.natAbs).head?=some 48/\1<(45::digF 20 n.natAbs).length):=by
   rintro⟨h2,-⟩
   have h3:=hD.val
   rw[hD.hd h2]at h3
   have:valD 0 [48]=0:=rfl
   omega
  by_cases c2:(digF 20 n.natAbs).length<=d
  .rw[x17u c2,x17t (by
    rintro(h|h|h|h)
    .exact hD.ne h
    .omega
    .exact hz h
    .rw[hD.all]at h;cases h),x17u (show(45::digF 20 n.natAbs).head?=some 45 from rfl),hD.val]
   congr 1
   omega
  .rw[x17t c2,x17u (.inr (.inl (by omega)))]
 .rw[x17t c]
  have hD:=xv0 20 n.toNat (by omega) (by omega)
  have hh:¬(digF 20 n.toNat).head?=some 45:=by
   cases h2:digF 20 n.toNat with
   |nil=>simp
   |cons x r=>
    have h3:=hD.all
    rw[h2,x18u,x17y]at h3
    simp only[List.head?_cons,x17w]
    exact not45 h3.1
  have hu:unsg (digF 20 n.toNat)=digF 20 n.toNat:=by unfold unsg;rw[x17t hh]
  rw[hu]
  unfold nbrM
  dsimp only
  rw[x17t hh]
  have hz:¬((digF 20 n.toNat).head?=some 48/\1<(digF 20 n.toNat).length):=by
   rintro⟨h2,h3⟩
   rw[hD.hd h2]at h3
   simp at h3
  by_cases c2:(digF 20 n.toNat).length<=d
  .rw[x17u c2,x17t (by
    rintro(h|h|h|h)
    .exact hD.ne h
    .omega
    .exact hz h
    .rw[hD.all]at h;cases h),x17t hh,hD.val]
   congr 1
   omega
  .rw[x17t c2,x17u (.inr (.inl (by omega)))]
theorem xys:∀(l:List UInt8) (acc:Nat),l.all isDig=true->valD acc l<18446744073709551616->Lib.parseUint10 acc l=.ok (valD acc l)
 |[],acc,_,_=>rfl
 |c::r,acc,h,hv=>by
  rw[x18u,x17y]at h
  have hc:=xuz h.1
  have hv':valD (10*acc+(c.toNat-48)) r<18446744073709551616:=hv
  have hg:=xyq r (10*acc+(c.toNat-48))
  have ih:=xys r (acc*10+(c.toNat-48)) h.2 (by rw[Nat.mul_comm acc 10];exact hv')
  unfold Lib.parseUint10
  rw[x17u hc,x17t (by omega),x17t (by omega),ih,Nat.mul_comm acc 10]
  rfl
theorem atoi_dec{n:Int}(h0:-9223372036854775808<=n)(h1:n<=9223372036854775807):Lib.atoiAll (decM n)=.ok n:=by
 unfold decM
 by_cases c:n<0
 .rw[x17u c]
  have hD:=xv0 20 n.natAbs (by omega) (by omega)
  have hp:Lib.parseMag (digF 20 n.natAbs)=.ok n.natAbs:=by
   unfold Lib.parseMag
   rw[x17t hD.ne,xys _ 0 hD.all (by rw[hD.val];omega),hD.val]
  unfold Lib.atoiAll
  dsimp only
  rw[x17u (Or.inr (show(45:UInt8).toNat=45 from rfl)),hp]
  dsimp only
  rw[x17t (by
   rintro⟨h2,-⟩
   exact h2 rfl),x17t (by
   rintro⟨-,h2⟩
   omega),x17u (show(45:UInt8).toNat=45 from rfl)]
  congr 1
  omega
 .rw[x17t c]
  have hD:=xv0 20 n.toNat (by omega) (by omega)
  have hp:Lib.parseMag (digF 20 n.toNat)=.ok n.toNat:=by
   unfold Lib.parseMag
   rw[x17t hD.ne,xys _ 0 hD.all (by rw[hD.val];omega),hD.val]
  cases h2:digF 20 n.toNat with
  |nil=>exact absurd h2 hD.ne
  |cons x r=>
   have h3:=hD.all
   rw[h2,x18u,x17y]at h3
   have hx:=xuz h3.1
   rw[h2]at hp
   unfold Lib.atoiAll
   dsimp only
   rw[x17t (by omega),hp]
   dsimp only
   rw[x17t (by
    rintro⟨-,h4⟩
    omega),x17t (by
    rintro⟨h4,-⟩
    omega),x17t (by omega)]
   congr 1
   omega
def tstM(w:List UInt8)(d:Nat):Option Int:=
 match Lib.atoiAll w with
 | .ok n=>if decM n=w/\(unsg w).length<=d then some n else none
 |_=>none
theorem atoi_in{w:List UInt8}{n:Int}(h:Lib.atoiAll w=.ok n):-9223372036854775808<=n/\n<=9223372036854775807:=by
 unfold Lib.atoiAll at h
 split at h
 .cases h
 .dsimp only at h
  split at h
  .cases h
  .cases h
  .rename_i u _
   split at h
   .cases h
   .split at h
    .cases h
    .injection h with h
     rename_i h2 h3
     split at h<;>omega
theorem tst_num(w:List UInt8){d:Nat}(hd:d<=18):tstM w d=nbrM w d:=by
 unfold tstM
 cases h:nbrM w d with
 |some n=>
  obtain⟨h1,h2,h3⟩:=nbrM_dec hd h
  have h4:=atoi_dec (n:=n) (by omega) (by omega)
  rw[h1]at h4
  rw[h4]
  have h5:=xyr (n:=n) (by omega) (by omega) d
  rw[h1,h]at h5
  dsimp only
  by_cases c:(unsg w).length<=d
  .rw[x17u ⟨h1,c⟩]
  .rw[x17t c]at h5;cases h5
 |none=>
  split
  .rename_i n h2
   obtain⟨h3,h4⟩:=atoi_in h2
   rw[x17t]
   rintro⟨h5,h6⟩
   have h7:=xyr h3 h4 d
   rw[h5,h,x17u h6]at h7
   cases h7
  .rfl
def cutM(c:UInt8):List UInt8->List (List UInt8)
 |[]=>[[]]
 |x::r=>if x=c then[]::cutM c r else match cutM c r with
  |[]=>[[x]]
  |h::t=>(x::h)::t
theorem cutM_ne(c:UInt8):∀l,cutM c l≠[]
 |[]=>by simp[cutM]
 |x::r=>by
  unfold cutM
  split
  .simp
  .split<;>simp
theorem xwx{c:UInt8}:∀{l:List UInt8},c∉l->cutM c l=[l]
 |[],_=>rfl
 |x::r,h=>by
  unfold cutM
  rw[x17t (λe=>h (by rw[e];exact x18a)),xwx λe=>h (x183 _ e)]
theorem xwy{c:UInt8}:∀{l:List UInt8} (k:List UInt8),c∉l->cutM c (l++c::k)=l::cutM c k
 |[],k,_=>by
  show cutM c (c::k)=_
  rw[cutM,x17u rfl]
 |x::r,k,h=>by
  rw[x1a6]
  rw[cutM]
  rw[x17t (λe=>h (by rw[e];exact x18a)),xwy k λe=>h (x183 _ e)]
theorem x11u{c:UInt8}:∀{ws:List (List UInt8)},ws≠[]->(∀w∈ws,c∉w)->cutM c (xqd [c] ws)=ws
 |[],h,_=>absurd rfl h
 |[w],_,h=>by
  show cutM c w=_
  exact xwx (h w (by simp))
 |w::x::r,_,h=>by
  have ih:=x11u (ws:=x::r) (by simp) λy hy=>h y (x183 _ hy)
  show cutM c (w++([c]++xqd [c] (x::r)))=_
  rw[List.singleton_append,xwy _ (h w (by simp)),ih]
theorem dec_no32(n:Int)(h0:-9223372036854775808<=n)(h1:n<=9223372036854775807):(32:UInt8)∉decM n:=by
 have key:∀u,u<10 ^ 20->(32:UInt8)∉digF 20 u:=λu hu h=>by
  have hD:=xv0 20 u (by omega) hu
  have:=x181.mp hD.all _ h
  exact absurd this (by decide)
 unfold decM
 split
 .intro h
  rcases x186.1 h with h|h
  .exact absurd h (by decide)
  .exact key _ (by omega) h
 .exact key _ (by omega)
theorem xvs{sep:List UInt8}:∀{ws:List (List UInt8)} (w:List UInt8),ws≠[]->xqd sep (ws++[w])=xqd sep ws++(sep++w)
 |[],w,h=>absurd rfl h
 |[x],w,_=>rfl
 |x::y::r,w,_=>by
  have ih:=xvs (sep:=sep) (ws:=y::r) w (by simp)
  show x++(sep++xqd sep ((y::r)++[w]))=(x++(sep++xqd sep (y::r)))++(sep++w)
  rw[ih]
  simp
open Go.Proofs
abbrev Ints(a:AV)(l:List Int):Prop:=Sl intE a l
def exI(t:List Int)(e:Edge):Int:=at0 t e.to.toNat-at0 t e.fr.toNat+e.jump
def TurnsIn(t:List Int):Prop:=∀x∈t,-1000000<=x/\x<=1000000
theorem TurnsIn.get{t:List Int}(h:TurnsIn t)(k:Nat):-1000000<=at0 t k/\at0 t k<=1000000:=by
 unfold at0
 rw[x18r]
 cases hk:t[k]? with
 |none=>simp
 |some x=>simpa using h x (x18v hk)
structure EdgeIn (n:Nat) (e:Edge):Prop where
 f0:0<=e.fr
 f1:e.fr<n
 t0:0<=e.to
 t1:e.to<n
 j0:-1000<=e.jump
 j1:e.jump<=1000
 w0:0<=e.wt
 w1:e.wt<=1000
end Go.Ix
