import Derived.Test.YtibmppgmjbpdmaaGreatDoorWg4
import Derived.Test.YtibmppgmjbpdmaaGreatDoorWg2
import Derived.Lib.Bytealg
import Derived.Test.YtibmppgmjbpdmaaGreatDoorWg1
set_option linter.unusedSimpArgs false
set_option linter.unusedVariables false
set_option maxRecDepth 10000
namespace Go.Ix
open Go.Proofs
def dzF(k u:Nat):List UInt8:=if u=0 then[]else digF k u
theorem dzF_succ{k u:Nat}(h:u≠0):dzF (k+1) u=dzF k (u / 10)++[UInt8.ofNat (48+u % 10)]:=by
 unfold dzF
 rw[x1rr h]
 by_cases c:u<10
 .rw[x1rq (by omega),digF,x1rq c,Nat.mod_eq_of_lt c];rfl
 .rw[x1rr (by omega),digF,x1rr c]
theorem z_u8:x8r=[U8 0]:=by kernel_rfl
theorem mkLit_u8{x:Int}{id:Id}{m:Mem}{R:Type}{k:AV->Mem->Option R}:x17g x8r [(0,1,U8 x)] 1 1 id m k=k (.slit [U8 x] 1 true) m:=by
 rw[z_u8]
 exact x1g3 rfl rfl rfl
theorem x1j8(d:Nat){sg:List UInt8}(hsg:sg.length<=1):∀(k:Nat) (n:Int) (t:List UInt8) (j:Nat) (m:Mem) (fc:Nat),n.natAbs<10 ^ k->k+t.length<=30->k<j->-9223372036854775808<=n->n<=9223372036854775807 ->
 ∃m',x16 (x16z (d+1)) [] 0 j (I n) (Tx t) (Tx sg) m fc=some (Tx (sg++(dzF k n.natAbs++t)),m'):=by
 intro k
 induction k with
 |zero=>
  intro n t j m fc hn ht hj h0 h1
  obtain⟨j,rfl⟩:∃k,j=k+1:=⟨j-1,by omega⟩
  have:n=0:=by simp at hn;omega
  subst this
  simp only[x16]
  unfold x46 x8q
  rw[x19u]
  simp only[x16y,ne_eq,not_true,x1rx,x17d]
  rw[x18n _ _ (by omega)]
  exact⟨m,rfl⟩
 |succ k ih=>
  intro n t j m fc hn ht hj h0 h1
  obtain⟨j,rfl⟩:∃k,j=k+1:=⟨j-1,by omega⟩
  by_cases c:n=0
  .subst c
   simp only[x16]
   unfold x46 x8q
   rw[x19u]
   simp only[x16y,ne_eq,not_true,x1rx,x17d]
   rw[x18n _ _ (by omega)]
   exact⟨m,rfl⟩
  .have hr1:-10<n.tmod 10:=by have:=Int.lt_tmod_of_pos n (show(0:Int)<10 by omega);omega
   have hr2:n.tmod 10<10:=Int.tmod_lt_of_pos n (by omega)
   have hmn:(n.tmod 10).natAbs=n.natAbs % 10:=by rw[Int.natAbs_tmod];rfl
   have hqn:(n.tdiv 10).natAbs=n.natAbs / 10:=by rw[Int.natAbs_tdiv];rfl
   have hsz:=λm=>w_Size d (n.tmod 10) m (by omega) (by omega)
   have w1:w64 (48+((n.tmod 10).natAbs:Int))=48+((n.tmod 10).natAbs:Int):=x17s (by omega) (by omega)
   have e1:IntKind.u8.wrap (48+((n.tmod 10).natAbs:Int))=48+((n.tmod 10).natAbs:Int):=wrap_u8 (by omega) (by omega)
   have e2:UInt8.ofNat (48+((n.tmod 10).natAbs:Int)).toNat=UInt8.ofNat (48+n.natAbs % 10):=by rw[hmn];congr 1
   have w2:w64 (n.tdiv 10)=n.tdiv 10:=by
    have:(n.tdiv 10).natAbs<=n.natAbs:=by rw[hqn];omega
    exact x17s (by omega) (by omega)
   have hnz:n.natAbs≠0:=by omega
   simp only[x16]
   unfold x46
   rw[x19u]
   simp only[x16y,ne_eq,c,not_false_eq_true,x1rw,x17b]
   rw[sRem_I (by decide)]
   simp only[x16y,hsz,x18m,w1,c_u8,e1,mkLit_u8,txt_1,e2]
   rw[show(T ⟨#[UInt8.ofNat (48+n.natAbs % 10)]⟩)=Tx [UInt8.ofNat (48+n.natAbs % 10)]from rfl,x18n _ _ (by simp;omega)]
   rw[sQuo_I (by decide)]
   simp only[x16y,w2]
   have hs:=dzF_succ (k:=k) hnz
   obtain⟨m',h⟩:=ih (n.tdiv 10) ([UInt8.ofNat (48+n.natAbs % 10)]++t) j m (fc+17) (by rw[hqn];rw[Nat.pow_succ]at hn;omega) (by simp;omega) (by omega) (by omega) (by omega)
   refine⟨m',h.trans ?_⟩
   rw[hs,hqn]
   simp
theorem w_Decimal(d:Nat){n:Int}(h0:-9223372036854775808<=n)(h1:n<=9223372036854775807)(m:Mem):x16v (x16z (d+2)) x22 [I n] m=some (Tx (decM n),m):=by
 refine Ans.call0 (m:=m) ?_ rfl rfl
 unfold Ans
 rw[xzl]
 unfold xa6 x8s xbs
 simp only[mem0,x1ap,x16y,x180]
 by_cases c:n=0
 .subst c
  simp only[x1rw,x17b]
  exact⟨_,rfl⟩
 .simp only[c,x1rx,x17d]
  have hp:n.natAbs<10 ^ 20:=by omega
  by_cases c2:n<0
  .simp only[c2,x1rw,x17b]
   obtain⟨m',h⟩:=x1j8 d (sg:=[45]) (by simp) 20 n [] NN ⟨[],0+1⟩ (0+5+3) hp (by simp) (by rw[x18s];omega) h0 h1
   refine⟨m',h.trans ?_⟩
   unfold decM dzF
   rw[x1rq c2,x1rr (by omega),x1tl];rfl
  .simp only[c2,x1rx,x17d]
   obtain⟨m',h⟩:=x1j8 d (sg:=[]) (by simp) 20 n [] NN ⟨[],0+1⟩ (0+5+2) hp (by simp) (by rw[x18s];omega) h0 h1
   refine⟨m',h.trans ?_⟩
   unfold decM dzF
   rw[x1rr c2,x1rr (by omega),x1tl,show n.natAbs=n.toNat by omega];rfl
theorem pr_idx(s:ByteArray)(c:Int):x175 Tryz.prog (callFunc x17 #[.string s,.int .u8 c])=some (.value (.int .i64 (firstIdx s c.toNat.toUInt8))):=by
 have h1:x175 Tryz.prog (callFunc x17 #[.string s,.int .u8 c])=x175 Tryz.prog (do let v <-Extern.BytealgIndexByte.indexByte #[.string s,.int .u8 c];pure (Next.value v)):=by kernel_rfl
 rw[h1]
 show x175 Tryz.prog (((match (List.range s.size).find? λi=>s[i]! == c.toNat.toUInt8 with
  |some i=>(pure (goInt i):Sem Value)
  |none=>pure (goInt (-1)))) >>= λv=>(pure (Next.value v):Sem Next))=_
 unfold firstIdx
 cases(List.range s.size).find? λi=>s[i]! == c.toNat.toUInt8<;>rfl
theorem x1lf(d:Nat)(l:List UInt8)(c:UInt8)(m:Mem):x16v (x16z (d+1)) x17 [Tx l,U8 c.toNat] m=some (I (Lib.indexByte l c),m):=by
 refine Ans.call0 (m:=m) ?_ rfl rfl
 unfold Ans
 have h1:x16z (d+1) [] x17 [Tx l,U8 c.toNat] mem0=(sExtn Tryz.prog x17 [Tx l,U8 c.toNat]).map λv=>(v,mem0):=by kernel_rfl
 have h2:ext0 Tryz.prog x17 [Tx l,U8 c.toNat]=some (I (firstIdx ⟨l.toArray⟩ c)):=by
  unfold ext0
  show(match x175 Tryz.prog (callFunc x17 #[.string ⟨l.toArray⟩,.int .u8 c.toNat])with
   |some (.value u)=>some (x17v u)
   |_=>none)=_
  rw[pr_idx]
  have:((c.toNat:Int)).toNat.toUInt8=c:=by
   rw[Int.toNat_natCast];exact UInt8.ofNat_toNat
  rw[this];rfl
 rw[h1]
 unfold sExtn
 rw[h2,Lib.firstIdx_eq]
 exact⟨mem0,rfl⟩
theorem x1g9(d:Nat)(l:List UInt8)(c:UInt8)(m:Mem):x16v (x16z (d+2)) x10 [Tx l,U8 c.toNat] m=some (I (Lib.indexByte l c),m):=by
 refine Ans.call0 (m:=m) ?_ rfl rfl
 unfold Ans
 rw[xzs]
 unfold xae x96
 simp only[x1lf,x16y]
 exact⟨_,rfl⟩
theorem x1dh(c:UInt8):∀l:List UInt8,(Lib.indexByte l c=-1/\c∉l)\/∃i:Nat,Lib.indexByte l c=i/\i<l.length/\c∉l.take i/\l.drop i=c::l.drop (i+1)
 |[]=>.inl ⟨rfl,by simp⟩
 |b::l=>by
  unfold Lib.indexByte
  by_cases h:b=c
  .subst h
   exact .inr ⟨0,by simp,by simp,by simp,rfl⟩
  .have hb:(b == c)=false:=by simpa using h
   rw[hb]
   rcases x1dh c l with ⟨h1,h2⟩|⟨i,h1,h2,h3,h4⟩
   .refine .inl ⟨by rw[h1];simp,?_⟩
    rw[x1sa]
    rintro(h5|h5)
    .exact h h5.symm
    .exact h2 h5
   .refine .inr ⟨i+1,?_,by simp;omega,?_,by simpa using h4⟩
    .rw[h1]
     have:((i:Int) == -1)=false:=by rw[beq_eq_false_iff_ne];omega
     simp[this]
    .rw[List.take_succ_cons,x1sa]
     rintro(h5|h5)
     .exact h h5.symm
     .exact h3 h5
theorem w_Index1(d:Nat)(l:List UInt8)(c:UInt8)(m:Mem):x16v (x16z (d+4)) x12 [Tx l,Tx [c]] m=some (I (Lib.indexByte l c),m):=by
 have h2:∀m,x16v (x16z (d+3)) x11 [Tx l,Tx [c]] m=some (I (Lib.indexByte l c),m):=by
  intro m
  refine Ans.call0 (m:=m) ?_ rfl rfl
  unfold Ans
  rw[xki]
  unfold x51 x48
  have hix:sIdx Tryz.prog x0 (Tx [c]) (I 0)=some (U8 c.toNat):=x1c0 (k:=0) (l:=[c]) (by simp)
  have hl1:x179 (Tx [c])=some (I 1):=x17q [c]
  simp only[mem0,hl1,x16y,x1ap,x181,x182,show decide ((1:Int)=0)=false from rfl,sW_f,x1s0,x17j,x_eq,x17l,x17n]
  by_cases c1:[c]=l
  .subst c1
   have:Lib.indexByte [c] c=0:=by simp[Lib.indexByte]
   rw[this]
   simp only[x1rw,x17b]
   exact⟨_,rfl⟩
  .simp only[c1,x1rx,x17d,show decide ((1:Int)=1)=true from rfl,x17b,hix,x16y,x1g9]
   exact⟨_,rfl⟩
 refine Ans.call0 (m:=m) ?_ rfl rfl
 unfold Ans
 rw[xzu]
 unfold xag x98
 simp only[h2,x16y]
 exact⟨_,rfl⟩
theorem inv_y{call:x16u}{id:Id}{h:List AV->Mem->Option Mem}{hs:FHs}{mode:Nat}{l:List AV}{m m2:Mem}(hl:x1a0 hs id=some h)(e:h l m=some m2):x18d call hs mode (.yld id) l m=some (B (live m2.get id),m2):=by
 show(match x1a0 hs id with
  |some h=>(h l m).map λ(m':Mem)=>(B (live m'.get id),m')
  |none=>none)=_
 rw[hl]
 simp only
 rw[e];rfl
end Go.Ix
set_option exponentiation.threshold 3000
namespace Go.Ix
open Ieee
def sg(s:Bool)(n:Nat):Int:=if s then -(n:Int)else(n:Int)
end Go.Ix
namespace Go.Ix
open Ieee
variable{P:Program}
def OkR(P:Program){α:Type}(s:Sem α)(R:α->Prop):Prop:=safe P s/\∀v,may P s v->R v
theorem OkR.pure{α:Type}{a:α}{R:α->Prop}(h:R a):OkR P (.pure a) R:=⟨trivial,λ_ e=>e▸h⟩
theorem OkR.bind{α β:Type}{Q:α->Prop}{R:β->Prop}{f:α->Sem β}(hf:∀v,Q v->OkR P (f v) R):∀{s:Sem α},OkR P s Q->OkR P (s.bind f) R
 | .pure a,h=>hf a (h.2 a rfl)
 | .program k,h=>OkR.bind (s:=k P) hf h
 | .mark _ k,h=>OkR.bind (s:=k) hf h
 | .choose q k,h=>by
  unfold OkR at h
  unfold Sem.bind OkR
  simp only[safe,may]at h ⊢
  by_cases c:q.forced=true
  .simp only[x1rq c]at h ⊢
   exact OkR.bind (s:=k 0) hf h
  .simp only[x1rr c]at h ⊢
   exact⟨λt=>(OkR.bind (s:=k (q.cut t)) hf ⟨h.1 t,λv hv=>h.2 v ⟨t,hv⟩⟩).1,λv ⟨t,hv⟩=>(OkR.bind (s:=k (q.cut t)) hf ⟨h.1 t,λv hv=>h.2 v ⟨t,hv⟩⟩).2 v hv⟩
 | .load ..,h=>h.1.elim
 | .store ..,h=>h.1.elim
 | .new ..,h=>h.1.elim
 | .shape ..,h=>h.1.elim
 | .freeze ..,h=>h.1.elim
 | .frozen ..,h=>h.1.elim
 | .getObj ..,h=>h.1.elim
 | .setObj ..,h=>h.1.elim
 | .sys ..,h=>h.1.elim
 | .halt ..,h=>h.1.elim
theorem OkR.choose{α:Type}{q:Question}{k:Nat->Sem α}{R:α->Prop}(hq:q.forced=false)(h:∀t,OkR P (k (q.cut t)) R):OkR P (.choose q k) R:=by
 unfold OkR
 simp only[safe,may,hq,x1sb,x1s1]
 exact⟨λt=>(h t).1,λv ⟨t,hv⟩=>(h t).2 v hv⟩
def NE(a:AV):Prop:=∃v,conc a v
def Is(R:Value->Prop)(a:AV):Prop:=NE a/\∀v,conc a v->R v
theorem conc_sc{v u:Value}:conc (.sc v) u↔u=v:=by
 constructor
 .intro h;cases h;rfl
 .intro h;rw[h];rfl
theorem Is.sc{R:Value->Prop}{v:Value}(h:R v):Is R (.sc v):=⟨⟨v,rfl⟩,λu hu=>by rw[conc_sc.mp hu];exact h⟩
theorem Is.mono{R Q:Value->Prop}{a:AV}(h:Is R a)(hi:∀v,R v->Q v):Is Q a:=⟨h.1,λv hv=>hi v (h.2 v hv)⟩
section
variable{l:List AV}{s:List Value->Sem Value}{R:Value->Prop}
end
section
variable{op:BinOp}{t:TypeId}{x y:Operand}{a b:AV}{R A B:Value->Prop}{v0:Value}
end
section
variable{b:Builtin}{f:FuncId}{ts:Array TypeId}{t s d:TypeId}{a c:AV}{R A C:Value->Prop}{v0:Value}{uo:UnOp}
end
end Go.Ix
