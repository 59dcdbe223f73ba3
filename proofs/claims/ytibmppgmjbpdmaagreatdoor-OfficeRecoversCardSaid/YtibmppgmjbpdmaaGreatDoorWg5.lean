import Derived.Test.YtibmppgmjbpdmaaGreatDoorWg4
import Derived.Test.YtibmppgmjbpdmaaGreatDoorWg2
import Derived.Lib.Bytealg
import Derived.Test.YtibmppgmjbpdmaaGreatDoorWg1
set_option linter.unusedSimpArgs false
set_option linter.unusedVariables false
set_option maxRecDepth 10000
namespace Go.Ix
open Go.Proofs
theorem z_u8:x71=[U8 0]:=by kernel_rfl
theorem mkLit_u8{x:Int}{id:Id}{m:Mem}{R:Type}{k:AV->Mem->Option R}:x15c x71 [(0,1,U8 x)] 1 1 id m k=k (.slit [U8 x] 1 true) m:=by
 rw[z_u8]
 exact x1go rfl rfl rfl
theorem pr_idx(s:ByteArray)(c:Int):x150 Tryz.prog (callFunc x13 #[.string s,.int .u8 c])=some (.value (.int .i64 (firstIdx s c.toNat.toUInt8))):=by
 have h1:x150 Tryz.prog (callFunc x13 #[.string s,.int .u8 c])=x150 Tryz.prog (do let v <-Extern.BytealgIndexByte.indexByte #[.string s,.int .u8 c];pure (Next.value v)):=by kernel_rfl
 rw[h1]
 show x150 Tryz.prog (((match (List.range s.size).find? λi=>s[i]! == c.toNat.toUInt8 with
  |some i=>(pure (goInt i):Sem Value)
  |none=>pure (goInt (-1)))) >>= λv=>(pure (Next.value v):Sem Next))=_
 unfold firstIdx
 cases(List.range s.size).find? λi=>s[i]! == c.toNat.toUInt8<;>rfl
theorem x1iy(d:Nat)(l:List UInt8)(c:UInt8)(m:Mem):x14q (x14z (d+1)) x13 [Tx l,U8 c.toNat] m=some (I (Lib.indexByte l c),m):=by
 refine Ans.call0 (m:=m) ?_ rfl rfl
 unfold Ans
 have h1:x14z (d+1) [] x13 [Tx l,U8 c.toNat] mem0=(sExtn Tryz.prog x13 [Tx l,U8 c.toNat]).map λv=>(v,mem0):=by kernel_rfl
 have h2:ext0 Tryz.prog x13 [Tx l,U8 c.toNat]=some (I (firstIdx ⟨l.toArray⟩ c)):=by
  unfold ext0
  show(match x150 Tryz.prog (callFunc x13 #[.string ⟨l.toArray⟩,.int .u8 c.toNat])with
   |some (.value u)=>some (x15m u)
   |_=>none)=_
  rw[pr_idx]
  have:((c.toNat:Int)).toNat.toUInt8=c:=by
   rw[x1sy];exact UInt8.ofNat_toNat
  rw[this];rfl
 rw[h1]
 unfold sExtn
 rw[h2,Lib.firstIdx_eq]
 exact⟨mem0,rfl⟩
theorem x1dy(d:Nat)(l:List UInt8)(c:UInt8)(m:Mem):x14q (x14z (d+2)) xy [Tx l,U8 c.toNat] m=some (I (Lib.indexByte l c),m):=by
 refine Ans.call0 (m:=m) ?_ rfl rfl
 unfold Ans
 rw[xxv]
 unfold x8z x80
 simp only[x1iy,x14w]
 exact⟨_,rfl⟩
theorem x1b3(c:UInt8):∀l:List UInt8,(Lib.indexByte l c=-1/\c∉l)\/∃i:Nat,Lib.indexByte l c=i/\i<l.length/\c∉l.take i/\l.drop i=c::l.drop (i+1)
 |[]=>.inl ⟨rfl,by simp⟩
 |b::l=>by
  unfold Lib.indexByte
  by_cases h:b=c
  .subst h
   exact .inr ⟨0,by simp,by simp,by simp,rfl⟩
  .have hb:(b == c)=false:=by simpa using h
   rw[hb]
   rcases x1b3 c l with ⟨h1,h2⟩|⟨i,h1,h2,h3,h4⟩
   .refine .inl ⟨by rw[h1];simp,?_⟩
    rw[x1pd]
    rintro(h5|h5)
    .exact h h5.symm
    .exact h2 h5
   .refine .inr ⟨i+1,?_,by simp;omega,?_,by simpa using h4⟩
    .rw[h1]
     have:((i:Int) == -1)=false:=by rw[beq_eq_false_iff_ne];omega
     simp[this]
    .rw[x1r2,x1pd]
     rintro(h5|h5)
     .exact h h5.symm
     .exact h3 h5
theorem w_Index1(d:Nat)(l:List UInt8)(c:UInt8)(m:Mem):x14q (x14z (d+4)) x10 [Tx l,Tx [c]] m=some (I (Lib.indexByte l c),m):=by
 have h2:∀m,x14q (x14z (d+3)) xz [Tx l,Tx [c]] m=some (I (Lib.indexByte l c),m):=by
  intro m
  refine Ans.call0 (m:=m) ?_ rfl rfl
  unfold Ans
  rw[xip]
  unfold x4f x3l
  have hix:sIdx Tryz.prog x0 (Tx [c]) (I 0)=some (U8 c.toNat):=x_idx (k:=0) (l:=[c]) (by simp)
  have hl1:x157 (Tx [c])=some (I 1):=x16c [c]
  simp only[mem0,hl1,x14w,x1a8,x16l,x16m,show decide ((1:Int)=0)=false from rfl,sW_f,x1pa,x15p,x_eq,x15y,x15t]
  by_cases c1:[c]=l
  .subst c1
   have:Lib.indexByte [c] c=0:=by simp[Lib.indexByte]
   rw[this]
   simp only[x1pb,x15f]
   exact⟨_,rfl⟩
  .simp only[c1,x1pc,x15k,show decide ((1:Int)=1)=true from rfl,x15f,hix,x14w,x1dy]
   exact⟨_,rfl⟩
 refine Ans.call0 (m:=m) ?_ rfl rfl
 unfold Ans
 rw[xxx]
 unfold x91 x82
 simp only[h2,x14w]
 exact⟨_,rfl⟩
theorem inv_y{call:x14p}{id:Id}{h:List AV->Mem->Option Mem}{hs:FHs}{mode:Nat}{l:List AV}{m m2:Mem}(hl:x17t hs id=some h)(e:h l m=some m2):x166 call hs mode (.yld id) l m=some (B (live m2.get id),m2):=by
 show(match x17t hs id with
  |some h=>(h l m).map λ(m':Mem)=>(B (live m'.get id),m')
  |none=>none)=_
 rw[hl]
 simp only
 rw[e];rfl
end Go.Ix
set_option exponentiation.threshold 3000
namespace Go.Ix
open Ieee
end Go.Ix
namespace Go.Ix
open Ieee
variable{P:Program}
def OkR(P:Program){α:Type}(s:Sem α)(R:α->Prop):Prop:=safe P s/\∀v,may P s v->R v
theorem OkR.pure{α:Type}{a:α}{R:α->Prop}(h:R a):OkR P (.pure a) R:=⟨trivial,λ_ e=>e▸h⟩
theorem OkR.bind{α β:Type}{Q:α->Prop}{R:β->Prop}{f:α->Sem β}(hf:∀v,Q v->OkR P (f v) R):∀{s:Sem α},OkR P s Q->OkR P (s.bind f) R
 | .pure a,h=>hf a (h.2 a rfl)
 | .program k,h=>OkR.bind (s:=k P) hf h
 | .mark _ k,h=>OkR.bind (s:=k) hf h
 | .choose q k,h=>by
  unfold OkR at h
  unfold Sem.bind OkR
  simp only[safe,may]at h ⊢
  by_cases c:q.forced=true
  .simp only[x1p0 c]at h ⊢
   exact OkR.bind (s:=k 0) hf h
  .simp only[x1oz c]at h ⊢
   exact⟨λt=>(OkR.bind (s:=k (q.cut t)) hf ⟨h.1 t,λv hv=>h.2 v ⟨t,hv⟩⟩).1,λv ⟨t,hv⟩=>(OkR.bind (s:=k (q.cut t)) hf ⟨h.1 t,λv hv=>h.2 v ⟨t,hv⟩⟩).2 v hv⟩
 | .load ..,h=>h.1.elim
 | .store ..,h=>h.1.elim
 | .new ..,h=>h.1.elim
 | .shape ..,h=>h.1.elim
 | .freeze ..,h=>h.1.elim
 | .frozen ..,h=>h.1.elim
 | .getObj ..,h=>h.1.elim
 | .setObj ..,h=>h.1.elim
 | .sys ..,h=>h.1.elim
 | .halt ..,h=>h.1.elim
theorem OkR.choose{α:Type}{q:Question}{k:Nat->Sem α}{R:α->Prop}(hq:q.forced=false)(h:∀t,OkR P (k (q.cut t)) R):OkR P (.choose q k) R:=by
 unfold OkR
 simp only[safe,may,hq,x1pj,x1p9]
 exact⟨λt=>(h t).1,λv ⟨t,hv⟩=>(h t).2 v hv⟩
def NE(a:AV):Prop:=∃v,conc a v
def Is(R:Value->Prop)(a:AV):Prop:=NE a/\∀v,conc a v->R v
theorem conc_sc{v u:Value}:conc (.sc v) u↔u=v:=by
 constructor
 .intro h;cases h;rfl
 .intro h;rw[h];rfl
theorem Is.sc{R:Value->Prop}{v:Value}(h:R v):Is R (.sc v):=⟨⟨v,rfl⟩,λu hu=>by rw[conc_sc.mp hu];exact h⟩
theorem Is.mono{R Q:Value->Prop}{a:AV}(h:Is R a)(hi:∀v,R v->Q v):Is Q a:=⟨h.1,λv hv=>hi v (h.2 v hv)⟩
section
variable{l:List AV}{s:List Value->Sem Value}{R:Value->Prop}
end
section
variable{op:BinOp}{t:TypeId}{x y:Operand}{a b:AV}{R A B:Value->Prop}{v0:Value}
end
section
variable{b:Builtin}{f:FuncId}{ts:Array TypeId}{t s d:TypeId}{a c:AV}{R A C:Value->Prop}{v0:Value}{uo:UnOp}
end
end Go.Ix
