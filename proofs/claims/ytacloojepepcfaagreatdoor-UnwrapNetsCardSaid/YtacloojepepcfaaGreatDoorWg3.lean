import Derived.Test.YtacloojepepcfaaGreatDoorWg2
import Derived.Test.YtacloojepepcfaaGreatDoorWg1
import Derived.Lib.Bytealg
import Derived.Test.YtacloojepepcfaaGreatDoorWg0
set_option linter.unusedSimpArgs false
set_option linter.unusedVariables false
set_option maxRecDepth 10000
namespace Go.Ix
open Go.Proofs
def dzF(k u:Nat):List UInt8:=if u=0 then[]else digF k u
theorem dzF_succ{k u:Nat}(h:u≠0):dzF (k+1) u=dzF k (u / 10)++[UInt8.ofNat (48+u % 10)]:=by
 unfold dzF
 rw[x17t h]
 by_cases c:u<10
 .rw[x17u (by omega),digF,x17u c,Nat.mod_eq_of_lt c];rfl
 .rw[x17t (by omega),digF,x17t c]
theorem z_u8:x67=[U8 0]:=by kernel_rfl
theorem mkLit_u8{x:Int}{id:Id}{m:Mem}{R:Type}{k:AV->Mem->Option R}:xpj x67 [(0,1,U8 x)] 1 1 id m k=k (.slit [U8 x] 1 true) m:=by
 rw[z_u8]
 exact xym rfl rfl rfl
theorem x11v(d:Nat){sg:List UInt8}(hsg:sg.length<=1):∀(k:Nat) (n:Int) (t:List UInt8) (j:Nat) (m:Mem) (fc:Nat),n.natAbs<10 ^ k->k+t.length<=30->k<j->-9223372036854775808<=n->n<=9223372036854775807 ->
 ∃m',x1b (xow (d+1)) [] 0 j (I n) (Tx t) (Tx sg) m fc=some (Tx (sg++(dzF k n.natAbs++t)),m'):=by
 intro k
 induction k with
 |zero=>
  intro n t j m fc hn ht hj h0 h1
  obtain⟨j,rfl⟩:∃k,j=k+1:=⟨j-1,by omega⟩
  have:n=0:=by simp at hn;omega
  subst this
  simp only[x1b]
  unfold x3h x66
  rw[xro]
  simp only[xoy,ne_eq,not_true,x185,xpl]
  rw[xsb _ _ (by omega)]
  exact⟨m,rfl⟩
 |succ k ih=>
  intro n t j m fc hn ht hj h0 h1
  obtain⟨j,rfl⟩:∃k,j=k+1:=⟨j-1,by omega⟩
  by_cases c:n=0
  .subst c
   simp only[x1b]
   unfold x3h x66
   rw[xro]
   simp only[xoy,ne_eq,not_true,x185,xpl]
   rw[xsb _ _ (by omega)]
   exact⟨m,rfl⟩
  .have hr1:-10<n.tmod 10:=by have:=Int.lt_tmod_of_pos n (show(0:Int)<10 by omega);omega
   have hr2:n.tmod 10<10:=Int.tmod_lt_of_pos n (by omega)
   have hmn:(n.tmod 10).natAbs=n.natAbs % 10:=by rw[Int.natAbs_tmod];rfl
   have hqn:(n.tdiv 10).natAbs=n.natAbs / 10:=by rw[Int.natAbs_tdiv];rfl
   have hsz:=λm=>w_Size d (n.tmod 10) m (by omega) (by omega)
   have w1:w64 (48+((n.tmod 10).natAbs:Int))=48+((n.tmod 10).natAbs:Int):=xq4 (by omega) (by omega)
   have e1:IntKind.u8.wrap (48+((n.tmod 10).natAbs:Int))=48+((n.tmod 10).natAbs:Int):=wrap_u8 (by omega) (by omega)
   have e2:UInt8.ofNat (48+((n.tmod 10).natAbs:Int)).toNat=UInt8.ofNat (48+n.natAbs % 10):=by rw[hmn];congr 1
   have w2:w64 (n.tdiv 10)=n.tdiv 10:=by
    have:(n.tdiv 10).natAbs<=n.natAbs:=by rw[hqn];omega
    exact xq4 (by omega) (by omega)
   have hnz:n.natAbs≠0:=by omega
   simp only[x1b]
   unfold x3h
   rw[xro]
   simp only[xoy,ne_eq,c,not_false_eq_true,x184,xph]
   rw[sRem_I (by decide)]
   simp only[xoy,hsz,xqv,w1,c_u8,e1,mkLit_u8,txt_1,e2]
   rw[show(T ⟨#[UInt8.ofNat (48+n.natAbs % 10)]⟩)=Tx [UInt8.ofNat (48+n.natAbs % 10)]from rfl,xsb _ _ (by simp;omega)]
   rw[sQuo_I (by decide)]
   simp only[xoy,w2]
   have hs:=dzF_succ (k:=k) hnz
   obtain⟨m',h⟩:=ih (n.tdiv 10) ([UInt8.ofNat (48+n.natAbs % 10)]++t) j m (fc+17) (by rw[hqn];rw[Nat.pow_succ]at hn;omega) (by simp;omega) (by omega) (by omega) (by omega)
   refine⟨m',h.trans ?_⟩
   rw[hs,hqn]
   simp
theorem xvt(d:Nat){n:Int}(h0:-9223372036854775808<=n)(h1:n<=9223372036854775807)(m:Mem):xox (xow (d+2)) xm [I n] m=some (Tx (decM n),m):=by
 refine Ans.call0 (m:=m) ?_ rfl rfl
 unfold Ans
 rw[xkp]
 unfold x7l x68 x9g
 simp only[mem0,xu4,xoy,xq1]
 by_cases c:n=0
 .subst c
  simp only[x184,xph]
  exact⟨_,rfl⟩
 .simp only[c,x185,xpl]
  have hp:n.natAbs<10 ^ 20:=by omega
  by_cases c2:n<0
  .simp only[c2,x184,xph]
   obtain⟨m',h⟩:=x11v d (sg:=[45]) (by simp) 20 n [] NN ⟨[],0+1⟩ (0+5+3) hp (by simp) (by rw[xq7];omega) h0 h1
   refine⟨m',h.trans ?_⟩
   unfold decM dzF
   rw[x17u c2,x17t (by omega),x1a7];rfl
  .simp only[c2,x185,xpl]
   obtain⟨m',h⟩:=x11v d (sg:=[]) (by simp) 20 n [] NN ⟨[],0+1⟩ (0+5+2) hp (by simp) (by rw[xq7];omega) h0 h1
   refine⟨m',h.trans ?_⟩
   unfold decM dzF
   rw[x17t c2,x17t (by omega),x1a7,show n.natAbs=n.toNat by omega];rfl
theorem pr_idx(s:ByteArray)(c:Int):xp2 Tryz.prog (callFunc x1d #[.string s,.int .u8 c])=some (.value (.int .i64 (firstIdx s c.toNat.toUInt8))):=by
 have h1:xp2 Tryz.prog (callFunc x1d #[.string s,.int .u8 c])=xp2 Tryz.prog (do let v <-Extern.BytealgIndexByte.indexByte #[.string s,.int .u8 c];pure (Next.value v)):=by kernel_rfl
 rw[h1]
 show xp2 Tryz.prog (((match (List.range s.size).find? λi=>s[i]! == c.toNat.toUInt8 with
  |some i=>(pure (goInt i):Sem Value)
  |none=>pure (goInt (-1)))) >>= λv=>(pure (Next.value v):Sem Next))=_
 unfold firstIdx
 cases(List.range s.size).find? λi=>s[i]! == c.toNat.toUInt8<;>rfl
theorem x143(d:Nat)(l:List UInt8)(c:UInt8)(m:Mem):xox (xow (d+1)) x1d [Tx l,U8 c.toNat] m=some (I (Lib.indexByte l c),m):=by
 refine Ans.call0 (m:=m) ?_ rfl rfl
 unfold Ans
 have h1:xow (d+1) [] x1d [Tx l,U8 c.toNat] mem0=(sExtn Tryz.prog x1d [Tx l,U8 c.toNat]).map λv=>(v,mem0):=by kernel_rfl
 have h2:ext0 Tryz.prog x1d [Tx l,U8 c.toNat]=some (I (firstIdx ⟨l.toArray⟩ c)):=by
  unfold ext0
  show(match xp2 Tryz.prog (callFunc x1d #[.string ⟨l.toArray⟩,.int .u8 c.toNat])with
   |some (.value u)=>some (xpm u)
   |_=>none)=_
  rw[pr_idx]
  have:((c.toNat:Int)).toNat.toUInt8=c:=by
   rw[x18g];exact UInt8.ofNat_toNat
  rw[this];rfl
 rw[h1]
 unfold sExtn
 rw[h2,Lib.firstIdx_eq]
 exact⟨mem0,rfl⟩
theorem w_IdxByte(d:Nat)(l:List UInt8)(c:UInt8)(m:Mem):xox (xow (d+2)) x1r [Tx l,U8 c.toNat] m=some (I (Lib.indexByte l c),m):=by
 refine Ans.call0 (m:=m) ?_ rfl rfl
 unfold Ans
 rw[xl9]
 unfold x88 x75
 simp only[x143,xoy]
 exact⟨_,rfl⟩
theorem x11w(c:UInt8):∀l:List UInt8,(Lib.indexByte l c=-1/\c∉l)\/∃i:Nat,Lib.indexByte l c=i/\i<l.length/\c∉l.take i/\l.drop i=c::l.drop (i+1)
 |[]=>.inl ⟨rfl,by simp⟩
 |b::l=>by
  unfold Lib.indexByte
  by_cases h:b=c
  .subst h
   exact .inr ⟨0,by simp,by simp,by simp,rfl⟩
  .have hb:(b == c)=false:=by simpa using h
   rw[hb]
   rcases x11w c l with ⟨h1,h2⟩|⟨i,h1,h2,h3,h4⟩
   .refine .inl ⟨by rw[h1];simp,?_⟩
    rw[x186]
    rintro(h5|h5)
    .exact h h5.symm
    .exact h2 h5
   .refine .inr ⟨i+1,?_,by simp;omega,?_,by simpa using h4⟩
    .rw[h1]
     have:((i:Int) == -1)=false:=by rw[beq_eq_false_iff_ne];omega
     simp[this]
    .rw[x1bv,x186]
     rintro(h5|h5)
     .exact h h5.symm
     .exact h3 h5
theorem w_Index1(d:Nat)(l:List UInt8)(c:UInt8)(m:Mem):xox (xow (d+4)) x28 [Tx l,Tx [c]] m=some (I (Lib.indexByte l c),m):=by
 have h2:∀m,xox (xow (d+3)) x2b [Tx l,Tx [c]] m=some (I (Lib.indexByte l c),m):=by
  intro m
  refine Ans.call0 (m:=m) ?_ rfl rfl
  unfold Ans
  rw[xl8]
  unfold x87 x73
  have hix:sIdx Tryz.prog x5 (Tx [c]) (I 0)=some (U8 c.toNat):=x_idx (k:=0) (l:=[c]) (by simp)
  have hl1:xpk (Tx [c])=some (I 1):=xr4 [c]
  simp only[mem0,hl1,xoy,xu4,xt3,xt4,show decide ((1:Int)=0)=false from rfl,sW_f,x18b,xpf,x_eq,xq5,xqa]
  by_cases c1:[c]=l
  .subst c1
   have:Lib.indexByte [c] c=0:=by simp[Lib.indexByte]
   rw[this]
   simp only[x184,xph]
   exact⟨_,rfl⟩
  .simp only[c1,x185,xpl,show decide ((1:Int)=1)=true from rfl,xph,hix,xoy,w_IdxByte]
   exact⟨_,rfl⟩
 refine Ans.call0 (m:=m) ?_ rfl rfl
 unfold Ans
 rw[xl6]
 unfold x85 x6z
 simp only[h2,xoy]
 exact⟨_,rfl⟩
theorem take1(l:List UInt8):decide (l.take 1=[45])=decide (l.head?=some 45):=by
 cases l with
 |nil=>rfl
 |cons x t=>simp
theorem w_HasPre(d:Nat)(l:List UInt8)(m:Mem):xox (xow (d+1)) x29 [Tx l,Tx [45]] m=some (B (decide (l.head?=some 45)),m):=by
 refine Ans.call0 (m:=m) ?_ rfl rfl
 unfold Ans
 rw[xl7]
 unfold x86 x72
 have hl1:xpk (Tx [45])=some (I 1):=xr4 [45]
 simp only[mem0,hl1,xr4,xoy,sGe_I,xt3,xt4,sW_t]
 by_cases c:(1:Int)<=l.length
 .have hs:xpd Tryz.prog x5 (Tx l) none (some (I 1))=some (Tx (l.take 1)):=x_slh (hi:=1) (by omega)
  simp only[c,x184,xpf,xoy,hl1,hs,x_eq,xq5,take1]
  exact⟨_,rfl⟩
 .have:l=[]:=x19s.1 (by omega)
  subst this
  simp only[c,x185,xqa,xoy,xq5]
  exact⟨_,rfl⟩
theorem w_Trim(d:Nat)(l:List UInt8)(m:Mem):xox (xow (d+3)) x23 [Tx l,Tx [45]] m=some (Tx (unsg l),m):=by
 have h2:∀m,xox (xow (d+2)) x27 [Tx l,Tx [45]] m=some (Tx (unsg l),m):=by
  intro m
  refine Ans.call0 (m:=m) ?_ rfl rfl
  unfold Ans
  rw[xl1]
  unfold x81 x6r
  have hl1:xpk (Tx [45])=some (I 1):=xr4 [45]
  simp only[w_HasPre,xoy,hl1]
  unfold unsg
  by_cases c:l.head?=some 45
  .have hll:1<=l.length:=by
    cases l with
    |nil=>simp at c
    |cons x t=>simp
   have hs:xpd Tryz.prog x5 (Tx l) (some (I 1)) none=some (Tx (l.drop 1)):=x_slo (lo:=1) hll
   rw[List.drop_one]at hs
   simp only[c,x184,xph,hs,xoy,x18m]
   exact⟨_,rfl⟩
  .simp only[c,x185,xpl,x18e]
   exact⟨_,rfl⟩
 refine Ans.call0 (m:=m) ?_ rfl rfl
 unfold Ans
 rw[xkr]
 unfold x7n x6a
 simp only[h2,xoy]
 exact⟨_,rfl⟩
theorem inv_y{call:xou}{id:Id}{h:List AV->Mem->Option Mem}{hs:FHs}{mode:Nat}{l:List AV}{m m2:Mem}(hl:xrv hs id=some h)(e:h l m=some m2):xql call hs mode (.yld id) l m=some (B (live m2.get id),m2):=by
 show(match xrv hs id with
  |some h=>(h l m).map λ(m':Mem)=>(B (live m'.get id),m')
  |none=>none)=_
 rw[hl]
 simp only
 rw[e];rfl
theorem c_words(d:Nat){hh:FHs}{id:Id}{h:List AV->Mem->Option Mem}{s:List UInt8}{c:UInt8}(hs:s.length<=100000)(hl:xrv hh id=some h){i1 i2 i3:Id}(h12:i1≠i2)(h32:i3≠i2){m0:Mem}(g1:m0.get i1=some (.row [Tx [c]] 0 false))(g2:m0.get i2=some (.row [Tx s] 0 false))(g3:m0.get i3=some (.row [I 0] 0 false))(Inv:List (List UInt8)->Mem->Prop)(Fin:Mem->Prop)(hst:∀pre m l,Inv pre m->Inv pre (m.set i2 (.row [Tx l] 0 false)))(hy:∀pre w post m,cutM c s=pre++w::post->Inv pre m->∃m2,h [Tx w] m=some m2/\((live m2.get id=true/\Inv (pre++[w]) m2/\m2.get i1=m.get i1/\m2.get i2=m.get i2/\m2.get i3=m.get i3)\/(live m2.get id=false/\Fin m2)))(h0:Inv [] ⟨m0.hp,m0.next+1⟩) :
 ∃m',xow (d+5) hh xv [.yld id,.ptr i1 0 0,.ptr i2 0 0,.ptr i3 0 0] m0=some (.tup [],m')/\(Inv (cutM c s) m'\/Fin m'):=by
 rw[xl5]
 unfold x84 x6y
 have e1:(⟨m0.hp,m0.next+1⟩:Mem).get i1=some (.row [Tx [c]] 0 false):=g1
 have e2:(⟨m0.hp,m0.next+1⟩:Mem).get i2=some (.row [Tx s] 0 false):=g2
 have e3:(⟨m0.hp,m0.next+1⟩:Mem).get i3=some (.row [I 0] 0 false):=g3
 have hl1:xpk (Tx [c])=some (I 1):=xr4 [c]
 generalize (⟨m0.hp,m0.next+1⟩:Mem)=m at *
 generalize m0.next=u
 have ld:∀{m:Mem} {i:Id} {x:AV},m.get i=some (.row [x] 0 false)->x.one=true->sLd false 1 (.ptr i 0 0) m=some x:=λhg hx=>by
  simp[hg,hx]
 simp only[ld e1 rfl,xoy,hl1,xu4,show decide ((1:Int)=0)=false from rfl]
 unfold xbs
 simp only[xpl]
 unfold xbr
 have loop:∀(n j:Nat) (r:List UInt8) (pre:List (List UInt8)) (m:Mem) (fc:Nat),r.length<n->n<=j->r.length<=100000->cutM c s=pre++cutM c r->m.get i1=some (.row [Tx [c]] 0 false)->m.get i2=some (.row [Tx r] 0 false)->m.get i3=some (.row [I 0] 0 false)->Inv pre m ->
  ∃m',x3u (xow (d+4)) hh u j (.yld id) (.ptr i1 0 0) (.ptr i2 0 0) (.ptr i3 0 0) m fc=some (.tup [],m')/\(Inv (cutM c s) m'\/Fin m'):=by
  intro n
  induction n with
  |zero=>intro j r pre m fc hn;omega
  |succ n ih=>
   intro j r pre m fc hn hj hr hc f1 f2 f3 hI
   obtain⟨j,rfl⟩:∃k,j=k+1:=⟨j-1,by omega⟩
   simp only[x3u]
   unfold xbp
   simp only[ld f2 rfl,ld f1 rfl,xoy,w_Index1,xq1]
   rcases x11w c r with ⟨q1,q2⟩|⟨i,q1,q2,q3,q4⟩
   .rw[q1]
    simp only[show decide ((-1:Int)<0)=true from rfl,xph]
    unfold xbo
    rw[xwx q2]at hc
    obtain⟨m2,k1,k2⟩:=hy pre r [] m hc hI
    simp only[ld f2 rfl,xoy,inv_y hl k1]
    refine⟨m2,rfl,?_⟩
    rcases k2 with ⟨-,k2,-⟩|⟨-,k2⟩
    .rw[hc];exact .inl k2
    .exact .inr k2
   .rw[q1]
    have hi:¬((i:Int)<0):=by omega
    have hr2:cutM c r=r.take i::cutM c (r.drop (i+1)):=by
     conv=>lhs;rw[<-x1bu i r,q4]
     exact xwy _ q3
    rw[hr2]at hc
    obtain⟨m2,k1,k2⟩:=hy pre (r.take i) _ m hc hI
    have w1:w64 ((i:Int)+0)=(i:Int):=by rw[xq4 (by omega) (by omega)];omega
    have w2:w64 ((i:Int)+1)=((i+1:Nat):Int):=by rw[xq4 (by omega) (by omega)];omega
    simp only[hi,x185,xpl,ld f2 rfl,ld f3 rfl,xoy,xqv,w1,x_slh (show i<=r.length by omega),inv_y hl k1]
    rcases k2 with ⟨kl,k2,k3,k4,k5⟩|⟨kl,k2⟩
    .rw[kl]
     rw[f1]at k3
     rw[f2]at k4
     rw[f3]at k5
     simp only[xtj,x18k,xpl,ld k4 rfl,ld k3 rfl,xoy,hl1,xqv,w2,x_slo (show i+1<=r.length by omega)]
     rw[xq6 (z:=1) (x:=Tx (r.drop (i+1))) k4 rfl (by simp) rfl]
     refine ih j (r.drop (i+1)) (pre++[r.take i]) _ _ (by simp;omega) (by omega) (by simp;omega) (by rw[hc];simp) ?_ ?_ ?_ (hst _ _ _ k2)
     .rw[Mem.get_set,x17t h12];exact k3
     .rw[Mem.get_set,x17u rfl];rfl
     .rw[Mem.get_set,x17t h32];exact k5
    .rw[kl]
     simp only[xtj,x18b,xph]
     exact⟨m2,rfl,.inr k2⟩
 exact loop (s.length+1) NN s [] m _ (by omega) (by rw[xq7];omega) hs rfl e1 e2 e3 h0
end Go.Ix
set_option exponentiation.threshold 3000
namespace Go.Ix
open Ieee
def sg(s:Bool)(n:Nat):Int:=if s then -(n:Int)else(n:Int)
end Go.Ix
namespace Go.Ix
open Ieee
variable{P:Program}
def OkR(P:Program){α:Type}(s:Sem α)(R:α->Prop):Prop:=safe P s/\∀v,may P s v->R v
theorem OkR.pure{α:Type}{a:α}{R:α->Prop}(h:R a):OkR P (.pure a) R:=⟨trivial,λ_ e=>e▸h⟩
theorem OkR.bind{α β:Type}{Q:α->Prop}{R:β->Prop}{f:α->Sem β}(hf:∀v,Q v->OkR P (f v) R):∀{s:Sem α},OkR P s Q->OkR P (s.bind f) R
 | .pure a,h=>hf a (h.2 a rfl)
 | .program k,h=>OkR.bind (s:=k P) hf h
 | .mark _ k,h=>OkR.bind (s:=k) hf h
 | .choose q k,h=>by
  unfold OkR at h
  unfold Sem.bind OkR
  simp only[safe,may]at h ⊢
  by_cases c:q.forced=true
  .simp only[x17u c]at h ⊢
   exact OkR.bind (s:=k 0) hf h
  .simp only[x17t c]at h ⊢
   exact⟨λt=>(OkR.bind (s:=k (q.cut t)) hf ⟨h.1 t,λv hv=>h.2 v ⟨t,hv⟩⟩).1,λv ⟨t,hv⟩=>(OkR.bind (s:=k (q.cut t)) hf ⟨h.1 t,λv hv=>h.2 v ⟨t,hv⟩⟩).2 v hv⟩
 | .load ..,h=>h.1.elim
 | .store ..,h=>h.1.elim
 | .new ..,h=>h.1.elim
 | .shape ..,h=>h.1.elim
 | .freeze ..,h=>h.1.elim
 | .frozen ..,h=>h.1.elim
 | .getObj ..,h=>h.1.elim
 | .setObj ..,h=>h.1.elim
 | .sys ..,h=>h.1.elim
 | .halt ..,h=>h.1.elim
theorem OkR.choose{α:Type}{q:Question}{k:Nat->Sem α}{R:α->Prop}(hq:q.forced=false)(h:∀t,OkR P (k (q.cut t)) R):OkR P (.choose q k) R:=by
 unfold OkR
 simp only[safe,may,hq,x18i,x18e]
 exact⟨λt=>(h t).1,λv ⟨t,hv⟩=>(h t).2 v hv⟩
theorem xvu{α:Type}:∀{s:Sem α},safe P s->∃v,may P s v
 | .pure a,_=>⟨a,rfl⟩
 | .program k,h=>xvu (s:=k P) h
 | .mark _ k,h=>xvu (s:=k) h
 | .choose q k,h=>by
  simp only[safe,may]at h ⊢
  by_cases c:q.forced=true
  .simp only[x17u c]at h ⊢
   exact xvu h
  .simp only[x17t c]at h ⊢
   obtain⟨v,hv⟩:=xvu (h 0)
   exact⟨v,0,hv⟩
 | .load ..,h=>h.elim
 | .store ..,h=>h.elim
 | .new ..,h=>h.elim
 | .shape ..,h=>h.elim
 | .freeze ..,h=>h.elim
 | .frozen ..,h=>h.elim
 | .getObj ..,h=>h.elim
 | .setObj ..,h=>h.elim
 | .sys ..,h=>h.elim
 | .halt ..,h=>h.elim
theorem xyw{α:Type}:∀{s:Sem α} {v:α},xp2 P s=some v->may P s v
 | .pure a,v,h=>by cases h;rfl
 | .program k,v,h=>xyw (s:=k P) h
 | .mark _ k,v,h=>xyw (s:=k) h
 | .choose ..,v,h=>by cases h
 | .load ..,v,h=>by cases h
 | .store ..,v,h=>by cases h
 | .new ..,v,h=>by cases h
 | .shape ..,v,h=>by cases h
 | .freeze ..,v,h=>by cases h
 | .frozen ..,v,h=>by cases h
 | .getObj ..,v,h=>by cases h
 | .setObj ..,v,h=>by cases h
 | .sys ..,v,h=>by cases h
 | .halt ..,v,h=>by cases h
def NE(a:AV):Prop:=∃v,conc a v
def Is(R:Value->Prop)(a:AV):Prop:=NE a/\∀v,conc a v->R v
theorem conc_tv{a:AV}{v:Value}(h:xpb a=some v):conc a v:=by
 cases a<;>first|exact h|cases h
theorem tv_none{a:AV}(h:xpb a=none)(hn:NE a):∃p,a=.un p:=by
 obtain⟨u,hu⟩:=hn
 cases a<;>first|exact⟨_,rfl⟩|exact nomatch h.symm.trans hu
theorem conc_sc{v u:Value}:conc (.sc v) u↔u=v:=by
 constructor
 .intro h;cases h;rfl
 .intro h;rw[h];rfl
theorem Is.sc{R:Value->Prop}{v:Value}(h:R v):Is R (.sc v):=⟨⟨v,rfl⟩,λu hu=>by rw[conc_sc.mp hu];exact h⟩
theorem Is.mono{R Q:Value->Prop}{a:AV}(h:Is R a)(hi:∀v,R v->Q v):Is Q a:=⟨h.1,λv hv=>hi v (h.2 v hv)⟩
theorem canon_1{q:Value->Prop}{v0:Value}(hn:∃v,q v)(h:∀v,q v->v=v0):canon q=some (.sc v0):=by
 unfold canon
 have c:∃v0,∀v,q v->v=v0:=⟨v0,h⟩
 rw[dif_pos c]
 have hc:=Classical.choose_spec c
 obtain⟨v,hv⟩:=hn
 have e1:=hc v hv
 have e2:=h v hv
 rw[<-e1,e2]
section
variable{l:List AV}{s:List Value->Sem Value}{R:Value->Prop}
theorem abs_ne(hn:∃vs,xqq l vs)(h:∀vs,xqq l vs->OkR P (s vs) R):∃v vs,xqq l vs/\may P (s vs) v:=by
 obtain⟨vs,hvs⟩:=hn
 obtain⟨v,hv⟩:=xvu (h vs hvs).1
 exact⟨v,vs,hvs,hv⟩
theorem absOp_1{v0:Value}(hn:∃vs,xqq l vs)(h:∀vs,xqq l vs->OkR P (s vs) (·=v0)):xrz P l s=some (.sc v0):=by
 unfold xrz
 rw[x17u ⟨hn,λvs hvs=>(h vs hvs).1⟩]
 exact canon_1 (abs_ne hn h) (λv ⟨vs,hvs,hv⟩=>(h vs hvs).2 v hv)
theorem op_1{o:Option AV}{v0:Value}(hv:xpm v0=.sc v0)(ho:∀r,o=some r->∃vs z,xqq l vs/\may P (s vs) z/\r=xpm z)(hn:∃vs,xqq l vs)(h:∀vs,xqq l vs->OkR P (s vs) (·=v0)):(match o with|some r=>some r|none=>xrz P l s)=some (.sc v0):=by
 cases o with
 |none=>exact absOp_1 hn h
 |some r=>
  obtain⟨vs,z,h1,h2,h3⟩:=ho r rfl
  have g:=(h vs h1).2 z h2
  rw[h3,g,hv]
end
theorem bin0_s{op:BinOp}{t:TypeId}{x y:Operand}{a b:AV}(ha:NE a)(hb:NE b):∀r,bin0 P op t x y a b=some r->∃vs z,xqq [a,b] vs/\may P (binS op t x y vs) z/\r=xpm z:=by
 intro r h
 unfold bin0 at h
 cases ea:xpb a with
 |none=>
  obtain⟨p,rfl⟩:=tv_none ea ha
  cases eb:xpb b with
  |none=>simp[ea,eb]at h
  |some v=>
   simp only[ea,eb]at h
   split at h
   .rename_i h1 h2;cases h1
   .split at h
    .rename_i h1;cases h1
    .rename_i h1;cases h1
    .cases h
   .cases h
 |some u=>
  cases eb:xpb b with
  |none=>simp[ea,eb]at h
  |some v=>
   simp only[ea,eb,x17x]at h
   obtain⟨z,hz,rfl⟩:=h
   exact⟨[u,v],z,⟨conc_tv ea,conc_tv eb,trivial⟩,xyw hz,rfl⟩
theorem cs2{a b:AV}(ha:NE a)(hb:NE b):∃vs,xqq [a,b] vs:=by
 obtain⟨u,hu⟩:=ha
 obtain⟨v,hv⟩:=hb
 exact⟨[u,v],hu,hv,trivial⟩
theorem cs2'{a b:AV}{Q:List Value->Prop}(h:∀u v,conc a u->conc b v->Q [u,v]):∀vs,xqq [a,b] vs->Q vs
 |[],h0=>h0.elim
 |[_],h0=>h0.2.elim
 |[u,v],h0=>h u v h0.1 h0.2.1
 |_::_::_::_,h0=>h0.2.2.elim
section
variable{op:BinOp}{t:TypeId}{x y:Operand}{a b:AV}{R A B:Value->Prop}{v0:Value}
theorem sBin_1(ha:Is A a)(hb:Is B b)(hv:xpm v0=.sc v0)(h:∀u v,A u->B v->OkR P (binS op t x y [u,v]) (·=v0)):sBin P op t x y a b=some (.sc v0):=
 op_1 hv (bin0_s ha.1 hb.1) (cs2 ha.1 hb.1) (cs2' λu v hu hv=>h u v (ha.2 u hu) (hb.2 v hv))
end
section
variable{b:Builtin}{f:FuncId}{ts:Array TypeId}{t s d:TypeId}{a c:AV}{R A C:Value->Prop}{v0:Value}{uo:UnOp}
end
end Go.Ix
