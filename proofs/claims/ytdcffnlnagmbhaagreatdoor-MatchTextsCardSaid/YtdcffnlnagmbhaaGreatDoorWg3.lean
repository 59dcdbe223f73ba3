import Derived.Test.YtdcffnlnagmbhaaGreatDoorWg2
import Derived.Test.YtdcffnlnagmbhaaGreatDoorWg1
import Derived.Lib.Bytealg
import Derived.Test.YtdcffnlnagmbhaaGreatDoorWg0
set_option linter.unusedSimpArgs false
set_option linter.unusedVariables false
set_option maxRecDepth 10000
namespace Go.Ix
open Go.Proofs
def dzF(k u:Nat):List UInt8:=if u=0 then[]else digF k u
theorem dzF_succ{k u:Nat}(h:u≠0):dzF (k+1) u=dzF k (u / 10)++[UInt8.ofNat (48+u % 10)]:=by
 unfold dzF
 rw[x16t h]
 by_cases c:u<10
 .rw[x16u (by omega),digF,x16u c,Nat.mod_eq_of_lt c];rfl
 .rw[x16t (by omega),digF,x16t c]
theorem z_u8:x5z=[U8 0]:=by kernel_rfl
theorem mkLit_u8{x:Int}{id:Id}{m:Mem}{R:Type}{k:AV->Mem->Option R}:xpy x5z [(0,1,U8 x)] 1 1 id m k=k (.slit [U8 x] 1 true) m:=by
 rw[z_u8]
 exact xxx rfl rfl rfl
theorem x10w(d:Nat){sg:List UInt8}(hsg:sg.length<=1):∀(k:Nat) (n:Int) (t:List UInt8) (j:Nat) (m:Mem) (fc:Nat),n.natAbs<10 ^ k->k+t.length<=30->k<j->-9223372036854775808<=n->n<=9223372036854775807 ->
 ∃m',x17 (xpc (d+1)) [] 0 j (I n) (Tx t) (Tx sg) m fc=some (Tx (sg++(dzF k n.natAbs++t)),m'):=by
 intro k
 induction k with
 |zero=>
  intro n t j m fc hn ht hj h0 h1
  obtain⟨j,rfl⟩:∃k,j=k+1:=⟨j-1,by omega⟩
  have:n=0:=by simp at hn;omega
  subst this
  simp only[x17]
  unfold x3e x5y
  rw[xt6]
  simp only[xpe,ne_eq,not_true,x176,xq8]
  rw[x_add _ _ (by omega)]
  exact⟨m,rfl⟩
 |succ k ih=>
  intro n t j m fc hn ht hj h0 h1
  obtain⟨j,rfl⟩:∃k,j=k+1:=⟨j-1,by omega⟩
  by_cases c:n=0
  .subst c
   simp only[x17]
   unfold x3e x5y
   rw[xt6]
   simp only[xpe,ne_eq,not_true,x176,xq8]
   rw[x_add _ _ (by omega)]
   exact⟨m,rfl⟩
  .have hr1:-10<n.tmod 10:=by have:=Int.lt_tmod_of_pos n (show(0:Int)<10 by omega);omega
   have hr2:n.tmod 10<10:=Int.tmod_lt_of_pos n (by omega)
   have hmn:(n.tmod 10).natAbs=n.natAbs % 10:=by rw[Int.natAbs_tmod];rfl
   have hqn:(n.tdiv 10).natAbs=n.natAbs / 10:=by rw[Int.natAbs_tdiv];rfl
   have hsz:=λm=>w_Size d (n.tmod 10) m (by omega) (by omega)
   have w1:w64 (48+((n.tmod 10).natAbs:Int))=48+((n.tmod 10).natAbs:Int):=xr9 (by omega) (by omega)
   have e1:IntKind.u8.wrap (48+((n.tmod 10).natAbs:Int))=48+((n.tmod 10).natAbs:Int):=wrap_u8 (by omega) (by omega)
   have e2:UInt8.ofNat (48+((n.tmod 10).natAbs:Int)).toNat=UInt8.ofNat (48+n.natAbs % 10):=by rw[hmn];congr 1
   have w2:w64 (n.tdiv 10)=n.tdiv 10:=by
    have:(n.tdiv 10).natAbs<=n.natAbs:=by rw[hqn];omega
    exact xr9 (by omega) (by omega)
   have hnz:n.natAbs≠0:=by omega
   simp only[x17]
   unfold x3e
   rw[xt6]
   simp only[xpe,ne_eq,c,not_false_eq_true,x179,xq6]
   rw[sRem_I (by decide)]
   simp only[xpe,hsz,xsb,w1,c_u8,e1,mkLit_u8,txt_1,e2]
   rw[show(T ⟨#[UInt8.ofNat (48+n.natAbs % 10)]⟩)=Tx [UInt8.ofNat (48+n.natAbs % 10)]from rfl,x_add _ _ (by simp;omega)]
   rw[sQuo_I (by decide)]
   simp only[xpe,w2]
   have hs:=dzF_succ (k:=k) hnz
   obtain⟨m',h⟩:=ih (n.tdiv 10) ([UInt8.ofNat (48+n.natAbs % 10)]++t) j m (fc+17) (by rw[hqn];rw[Nat.pow_succ]at hn;omega) (by simp;omega) (by omega) (by omega) (by omega)
   refine⟨m',h.trans ?_⟩
   rw[hs,hqn]
   simp
theorem w_Decimal(d:Nat){n:Int}(h0:-9223372036854775808<=n)(h1:n<=9223372036854775807)(m:Mem):xp9 (xpc (d+2)) x1x [I n] m=some (Tx (decM n),m):=by
 refine Ans.call0 (m:=m) ?_ rfl rfl
 unfold Ans
 rw[xkx]
 unfold x74 x60 x9f
 simp only[mem0,xsc,xpe,xrl]
 by_cases c:n=0
 .subst c
  simp only[x179,xq6]
  exact⟨_,rfl⟩
 .simp only[c,x176,xq8]
  have hp:n.natAbs<10 ^ 20:=by omega
  by_cases c2:n<0
  .simp only[c2,x179,xq6]
   obtain⟨m',h⟩:=x10w d (sg:=[45]) (by simp) 20 n [] NN ⟨[],0+1⟩ (0+5+3) hp (by simp) (by rw[xsd];omega) h0 h1
   refine⟨m',h.trans ?_⟩
   unfold decM dzF
   rw[x16u c2,x16t (by omega),x19l];rfl
  .simp only[c2,x176,xq8]
   obtain⟨m',h⟩:=x10w d (sg:=[]) (by simp) 20 n [] NN ⟨[],0+1⟩ (0+5+2) hp (by simp) (by rw[xsd];omega) h0 h1
   refine⟨m',h.trans ?_⟩
   unfold decM dzF
   rw[x16t c2,x16t (by omega),x19l,show n.natAbs=n.toNat by omega];rfl
theorem pr_idx(s:ByteArray)(c:Int):xpf Tryz.prog (callFunc x18 #[.string s,.int .u8 c])=some (.value (.int .i64 (firstIdx s c.toNat.toUInt8))):=by
 have h1:xpf Tryz.prog (callFunc x18 #[.string s,.int .u8 c])=xpf Tryz.prog (do let v <-Extern.BytealgIndexByte.indexByte #[.string s,.int .u8 c];pure (Next.value v)):=by kernel_rfl
 rw[h1]
 show xpf Tryz.prog (((match (List.range s.size).find? λi=>s[i]! == c.toNat.toUInt8 with
  |some i=>(pure (goInt i):Sem Value)
  |none=>pure (goInt (-1)))) >>= λv=>(pure (Next.value v):Sem Next))=_
 unfold firstIdx
 cases(List.range s.size).find? λi=>s[i]! == c.toNat.toUInt8<;>rfl
theorem x12u(d:Nat)(l:List UInt8)(c:UInt8)(m:Mem):xp9 (xpc (d+1)) x18 [Tx l,U8 c.toNat] m=some (I (Lib.indexByte l c),m):=by
 refine Ans.call0 (m:=m) ?_ rfl rfl
 unfold Ans
 have h1:xpc (d+1) [] x18 [Tx l,U8 c.toNat] mem0=(sExtn Tryz.prog x18 [Tx l,U8 c.toNat]).map λv=>(v,mem0):=by kernel_rfl
 have h2:ext0 Tryz.prog x18 [Tx l,U8 c.toNat]=some (I (firstIdx ⟨l.toArray⟩ c)):=by
  unfold ext0
  show(match xpf Tryz.prog (callFunc x18 #[.string ⟨l.toArray⟩,.int .u8 c.toNat])with
   |some (.value u)=>some (xpz u)
   |_=>none)=_
  rw[pr_idx]
  have:((c.toNat:Int)).toNat.toUInt8=c:=by
   rw[Int.toNat_natCast];exact UInt8.ofNat_toNat
  rw[this];rfl
 rw[h1]
 unfold sExtn
 rw[h2,Lib.firstIdx_eq]
 exact⟨mem0,rfl⟩
theorem w_IdxByte(d:Nat)(l:List UInt8)(c:UInt8)(m:Mem):xp9 (xpc (d+2)) x1n [Tx l,U8 c.toNat] m=some (I (Lib.indexByte l c),m):=by
 refine Ans.call0 (m:=m) ?_ rfl rfl
 unfold Ans
 rw[xl5]
 unfold x7h x6d
 simp only[x12u,xpe]
 exact⟨_,rfl⟩
theorem x10x(c:UInt8):∀l:List UInt8,(Lib.indexByte l c=-1/\c∉l)\/∃i:Nat,Lib.indexByte l c=i/\i<l.length/\c∉l.take i/\l.drop i=c::l.drop (i+1)
 |[]=>.inl ⟨rfl,by simp⟩
 |b::l=>by
  unfold Lib.indexByte
  by_cases h:b=c
  .subst h
   exact .inr ⟨0,by simp,by simp,by simp,rfl⟩
  .have hb:(b == c)=false:=by simpa using h
   rw[hb]
   rcases x10x c l with ⟨h1,h2⟩|⟨i,h1,h2,h3,h4⟩
   .refine .inl ⟨by rw[h1];simp,?_⟩
    rw[x174]
    rintro(h5|h5)
    .exact h h5.symm
    .exact h2 h5
   .refine .inr ⟨i+1,?_,by simp;omega,?_,by simpa using h4⟩
    .rw[h1]
     have:((i:Int) == -1)=false:=by rw[beq_eq_false_iff_ne];omega
     simp[this]
    .rw[List.take_succ_cons,x174]
     rintro(h5|h5)
     .exact h h5.symm
     .exact h3 h5
theorem w_Index1(d:Nat)(l:List UInt8)(c:UInt8)(m:Mem):xp9 (xpc (d+4)) x25 [Tx l,Tx [c]] m=some (I (Lib.indexByte l c),m):=by
 have h2:∀m,xp9 (xpc (d+3)) x27 [Tx l,Tx [c]] m=some (I (Lib.indexByte l c),m):=by
  intro m
  refine Ans.call0 (m:=m) ?_ rfl rfl
  unfold Ans
  rw[xl4]
  unfold x7g x69
  have hix:sIdx Tryz.prog x7 (Tx [c]) (I 0)=some (U8 c.toNat):=x_idx (k:=0) (l:=[c]) (by simp)
  have hl1:xpx (Tx [c])=some (I 1):=xrd [c]
  simp only[mem0,hl1,xpe,xsc,xt7,xt8,show decide ((1:Int)=0)=false from rfl,sW_f,x175,xqc,x_eq,xqe,xqg]
  by_cases c1:[c]=l
  .subst c1
   have:Lib.indexByte [c] c=0:=by simp[Lib.indexByte]
   rw[this]
   simp only[x179,xq6]
   exact⟨_,rfl⟩
  .simp only[c1,x176,xq8,show decide ((1:Int)=1)=true from rfl,xq6,hix,xpe,w_IdxByte]
   exact⟨_,rfl⟩
 refine Ans.call0 (m:=m) ?_ rfl rfl
 unfold Ans
 rw[xl2]
 unfold x7e x65
 simp only[h2,xpe]
 exact⟨_,rfl⟩
theorem take1(l:List UInt8):decide (l.take 1=[45])=decide (l.head?=some 45):=by
 cases l with
 |nil=>rfl
 |cons x t=>simp
theorem w_HasPre(d:Nat)(l:List UInt8)(m:Mem):xp9 (xpc (d+1)) x26 [Tx l,Tx [45]] m=some (B (decide (l.head?=some 45)),m):=by
 refine Ans.call0 (m:=m) ?_ rfl rfl
 unfold Ans
 rw[xl3]
 unfold x7f x68
 have hl1:xpx (Tx [45])=some (I 1):=xrd [45]
 simp only[mem0,hl1,xrd,xpe,sGe_I,xt7,xt8,sW_t]
 by_cases c:(1:Int)<=l.length
 .have hs:xpu Tryz.prog x7 (Tx l) none (some (I 1))=some (Tx (l.take 1)):=x_slh (hi:=1) (by omega)
  simp only[c,x179,xqc,xpe,hl1,hs,x_eq,xqe,take1]
  exact⟨_,rfl⟩
 .have:l=[]:=x18i.1 (by omega)
  subst this
  simp only[c,x176,xqg,xpe,xqe]
  exact⟨_,rfl⟩
theorem w_Trim(d:Nat)(l:List UInt8)(m:Mem):xp9 (xpc (d+3)) x1w [Tx l,Tx [45]] m=some (Tx (unsg l),m):=by
 have h2:∀m,xp9 (xpc (d+2)) x23 [Tx l,Tx [45]] m=some (Tx (unsg l),m):=by
  intro m
  refine Ans.call0 (m:=m) ?_ rfl rfl
  unfold Ans
  rw[xkz]
  unfold x7b x62
  have hl1:xpx (Tx [45])=some (I 1):=xrd [45]
  simp only[w_HasPre,xpe,hl1]
  unfold unsg
  by_cases c:l.head?=some 45
  .have hll:1<=l.length:=by
    cases l with
    |nil=>simp at c
    |cons x t=>simp
   have hs:xpu Tryz.prog x7 (Tx l) (some (I 1)) none=some (Tx (l.drop 1)):=x_slo (lo:=1) hll
   rw[List.drop_one]at hs
   simp only[c,x179,xq6,hs,xpe,x17k]
   exact⟨_,rfl⟩
  .simp only[c,x176,xq8,x17b]
   exact⟨_,rfl⟩
 refine Ans.call0 (m:=m) ?_ rfl rfl
 unfold Ans
 rw[xkt]
 unfold x70 x5q
 simp only[h2,xpe]
 exact⟨_,rfl⟩
theorem inv_y{call:xpb}{id:Id}{h:List AV->Mem->Option Mem}{hs:FHs}{mode:Nat}{l:List AV}{m m2:Mem}(hl:xs5 hs id=some h)(e:h l m=some m2):xr6 call hs mode (.yld id) l m=some (B (live m2.get id),m2):=by
 show(match xs5 hs id with
  |some h=>(h l m).map λ(m':Mem)=>(B (live m'.get id),m')
  |none=>none)=_
 rw[hl]
 simp only
 rw[e];rfl
theorem c_words(d:Nat){hh:FHs}{id:Id}{h:List AV->Mem->Option Mem}{s:List UInt8}{c:UInt8}(hs:s.length<=100000)(hl:xs5 hh id=some h){i1 i2 i3:Id}(h12:i1≠i2)(h32:i3≠i2){m0:Mem}(g1:m0.get i1=some (.row [Tx [c]] 0 false))(g2:m0.get i2=some (.row [Tx s] 0 false))(g3:m0.get i3=some (.row [I 0] 0 false))(Inv:List (List UInt8)->Mem->Prop)(Fin:Mem->Prop)(hst:∀pre m l,Inv pre m->Inv pre (m.set i2 (.row [Tx l] 0 false)))(hy:∀pre w post m,cutM c s=pre++w::post->Inv pre m->∃m2,h [Tx w] m=some m2/\((live m2.get id=true/\Inv (pre++[w]) m2/\m2.get i1=m.get i1/\m2.get i2=m.get i2/\m2.get i3=m.get i3)\/(live m2.get id=false/\Fin m2)))(h0:Inv [] ⟨m0.hp,m0.next+1⟩) :
 ∃m',xpc (d+5) hh xw [.yld id,.ptr i1 0 0,.ptr i2 0 0,.ptr i3 0 0] m0=some (.tup [],m')/\(Inv (cutM c s) m'\/Fin m'):=by
 rw[xl1]
 unfold x7d x64
 have e1:(⟨m0.hp,m0.next+1⟩:Mem).get i1=some (.row [Tx [c]] 0 false):=g1
 have e2:(⟨m0.hp,m0.next+1⟩:Mem).get i2=some (.row [Tx s] 0 false):=g2
 have e3:(⟨m0.hp,m0.next+1⟩:Mem).get i3=some (.row [I 0] 0 false):=g3
 have hl1:xpx (Tx [c])=some (I 1):=xrd [c]
 generalize (⟨m0.hp,m0.next+1⟩:Mem)=m at *
 generalize m0.next=u
 have ld:∀{m:Mem} {i:Id} {x:AV},m.get i=some (.row [x] 0 false)->x.one=true->sLd false 1 (.ptr i 0 0) m=some x:=λhg hx=>by
  simp[hg,hx]
 simp only[ld e1 rfl,xpe,hl1,xsc,show decide ((1:Int)=0)=false from rfl]
 unfold xau
 simp only[xq8]
 unfold xat
 have loop:∀(n j:Nat) (r:List UInt8) (pre:List (List UInt8)) (m:Mem) (fc:Nat),r.length<n->n<=j->r.length<=100000->cutM c s=pre++cutM c r->m.get i1=some (.row [Tx [c]] 0 false)->m.get i2=some (.row [Tx r] 0 false)->m.get i3=some (.row [I 0] 0 false)->Inv pre m ->
  ∃m',x3g (xpc (d+4)) hh u j (.yld id) (.ptr i1 0 0) (.ptr i2 0 0) (.ptr i3 0 0) m fc=some (.tup [],m')/\(Inv (cutM c s) m'\/Fin m'):=by
  intro n
  induction n with
  |zero=>intro j r pre m fc hn;omega
  |succ n ih=>
   intro j r pre m fc hn hj hr hc f1 f2 f3 hI
   obtain⟨j,rfl⟩:∃k,j=k+1:=⟨j-1,by omega⟩
   simp only[x3g]
   unfold xar
   simp only[ld f2 rfl,ld f1 rfl,xpe,w_Index1,xrl]
   rcases x10x c r with ⟨q1,q2⟩|⟨i,q1,q2,q3,q4⟩
   .rw[q1]
    simp only[show decide ((-1:Int)<0)=true from rfl,xq6]
    unfold xaq
    rw[xw6 q2]at hc
    obtain⟨m2,k1,k2⟩:=hy pre r [] m hc hI
    simp only[ld f2 rfl,xpe,inv_y hl k1]
    refine⟨m2,rfl,?_⟩
    rcases k2 with ⟨-,k2,-⟩|⟨-,k2⟩
    .rw[hc];exact .inl k2
    .exact .inr k2
   .rw[q1]
    have hi:¬((i:Int)<0):=by omega
    have hr2:cutM c r=r.take i::cutM c (r.drop (i+1)):=by
     conv=>lhs;rw[<-x1ak i r,q4]
     exact xw7 _ q3
    rw[hr2]at hc
    obtain⟨m2,k1,k2⟩:=hy pre (r.take i) _ m hc hI
    have w1:w64 ((i:Int)+0)=(i:Int):=by rw[xr9 (by omega) (by omega)];omega
    have w2:w64 ((i:Int)+1)=((i+1:Nat):Int):=by rw[xr9 (by omega) (by omega)];omega
    simp only[hi,x176,xq8,ld f2 rfl,ld f3 rfl,xpe,xsb,w1,x_slh (show i<=r.length by omega),inv_y hl k1]
    rcases k2 with ⟨kl,k2,k3,k4,k5⟩|⟨kl,k2⟩
    .rw[kl]
     rw[f1]at k3
     rw[f2]at k4
     rw[f3]at k5
     simp only[xsr,x17e,xq8,ld k4 rfl,ld k3 rfl,xpe,hl1,xsb,w2,x_slo (show i+1<=r.length by omega)]
     rw[xrm (z:=1) (x:=Tx (r.drop (i+1))) k4 rfl (by simp) rfl]
     refine ih j (r.drop (i+1)) (pre++[r.take i]) _ _ (by simp;omega) (by omega) (by simp;omega) (by rw[hc];simp) ?_ ?_ ?_ (hst _ _ _ k2)
     .rw[Mem.get_set,x16t h12];exact k3
     .rw[Mem.get_set,x16u rfl];rfl
     .rw[Mem.get_set,x16t h32];exact k5
    .rw[kl]
     simp only[xsr,x175,xq6]
     exact⟨m2,rfl,.inr k2⟩
 exact loop (s.length+1) NN s [] m _ (by omega) (by rw[xsd];omega) hs rfl e1 e2 e3 h0
end Go.Ix
set_option exponentiation.threshold 3000
namespace Go.Ix
open Ieee
def sg(s:Bool)(n:Nat):Int:=if s then -(n:Int)else(n:Int)
end Go.Ix
