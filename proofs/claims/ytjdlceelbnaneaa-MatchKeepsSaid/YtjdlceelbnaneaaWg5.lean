import Derived.Test.YtjdlceelbnaneaaWg3
import Derived.Test.YtjdlceelbnaneaaWg4
import Derived.ProofKit
set_option maxRecDepth 100000
namespace Go.Proofs.Ytjdlceelbnaneaa
open Go.ChangeShapes Go.WideShapes Go.ChangeAt Go.RowKit Go.Ix
def xaa(P:Program):Nat->TypeId->Bool
 |0,_=>false
 |k+1,t=>match P.underlying t with
  |some (.int .i64)=>true
  |some (.struct fs)=>fs.toList.all (λf=>xaa P k f.type)&&(match tile P 0 fs.toList with|some n=>Nat.beq n (P.cellsOf t)|none=>false)
  |some (.array n e)=>xaa P k e&&Nat.beq (n*P.cellsOf e) (P.cellsOf t)
  |_=>false
theorem xfk{P:Program}:∀{fs:List Field} {off n:Nat},tile P off fs=some n->∀i,off<=i->i<n->∃f∈fs,f.offset<=i/\i<f.offset+P.cellsOf f.type
 |[],off,n,h,i,h1,h2=>by
  simp only[tile,xi8]at h
  omega
 |f::fs,off,n,h,i,h1,h2=>by
  simp only[tile]at h
  cases hb:Nat.beq f.offset off with
  |false=>rw[hb]at h;cases h
  |true=>
   rw[hb,cond_true]at h
   have hoff:=xie hb
   by_cases c:i<off+P.cellsOf f.type
   .exact⟨f,xif ..,by omega,by omega⟩
   .obtain⟨g,hg,h3⟩:=xfk h i (by omega) h2
    exact⟨g,xic _ hg,h3⟩
theorem xda{P:Program}:∀(k:Nat) {t:TypeId} {q:List AV},xaa P k t=true->Sh P t q->∀a∈q,∃n,a=I n
 |0,_,_,h,_=>by simp[xaa]at h
 |k+1,t,q,h,hs=>by
  simp only[xaa]at h
  split at h
  .rename_i e
   obtain⟨n,rfl,-⟩:=Sh.int_inv e hs
   intro a ha
   simp at ha
   exact⟨n,ha⟩
  .rename_i fs e
   rw[xi9,xib]at h
   obtain⟨h1,h2⟩:=h
   obtain⟨hl,hf⟩:=Sh.struct_inv e hs
   split at h2
   .rename_i n hn
    have hn2:=xie h2
    intro a ha
    obtain⟨i,hi,rfl⟩:=xkd.mp ha
    obtain⟨f,hfm,f1,f2⟩:=xfk hn i (xks _) (by omega)
    refine xda k (h1 f hfm) (hf f hfm) _ ?_
    rw[xkd]
    refine⟨i-f.offset,by simp;omega,?_⟩
    rw[xll,List.getElem_drop]
    congr 1;omega
   .cases h2
  .rename_i n e' e
   rw[xi9]at h
   have hn:=xie h.2
   cases hs with
   |array h' _ hl hf=>
    rw[e]at h';cases h'
    intro a ha
    obtain⟨i,hi,rfl⟩:=xkd.mp ha
    have hz:0<P.cellsOf e':=by
     rcases Nat.eq_zero_or_pos (P.cellsOf e')with h0|h0
     .rw[h0]at hn;omega
     .exact h0
    have hlt:i / P.cellsOf e'<n:=(Nat.div_lt_iff_lt_mul hz).mpr (by omega)
    refine xda k h.1 (hf (i / P.cellsOf e') hlt) _ ?_
    rw[xkd]
    have hm:=Nat.mod_lt i hz
    have hd:=Nat.div_add_mod i (P.cellsOf e')
    rw[Nat.mul_comm]at hd
    have hd2:(i / P.cellsOf e')*P.cellsOf e'+i % P.cellsOf e'<q.length:=by omega
    refine⟨i % P.cellsOf e',by simp;omega,?_⟩
    rw[xll,List.getElem_drop]
    congr 1
   |string h'=>rw[e]at h';cases h'
   |int h'=>rw[e]at h';cases h'
   |nilS h'=>rw[e]at h';cases h'
   |slice h'=>rw[e]at h';cases h'
   |bool h'=>rw[e]at h';cases h'
   |float h'=>rw[e]at h';cases h'
   |struct h'=>rw[e]at h';cases h'
  .cases h
theorem points_sh{z:AV}(f:Sh Try.prog x6 [z]):∃l,Sl Mp.c z l:=sl_sh (e:=xt) (by kernel_rfl) (λr hl hr=>by
 have hc:Try.prog.cellsOf xt=5:=by kernel_rfl
 have hf:=xda 4 (show xaa Try.prog 4 xt=true by kernel_rfl) hr
 rw[hc]at hl
 match r,hl with
 |[x0,x1,x2,x3,x4],_=>
  obtain⟨n0,rfl⟩:=hf x0 (by simp)
  obtain⟨n1,rfl⟩:=hf x1 (by simp)
  obtain⟨n2,rfl⟩:=hf x2 (by simp)
  obtain⟨n3,rfl⟩:=hf x3 (by simp)
  obtain⟨n4,rfl⟩:=hf x4 (by simp)
  exact⟨⟨n0,n1,n2,n3,n4⟩,rfl⟩) f
theorem points_in{a:AV}(h:ArgSh Try.prog x6 a):∃l,Sl Mp.c a l:=points_sh (h.slice (t:=x6) (e:=xt) (by kernel_rfl))
end Go.Proofs.Ytjdlceelbnaneaa
set_option linter.unusedSimpArgs false
set_option linter.unusedVariables false
namespace Go.Ix
structure PtIn (x:Mp):Prop where
 l0:0<=x.ln
 l1:x.ln<=63
 s0:0<=x.sm
 s1:x.sm<=63
 b0:bd x.b0 8
 b1:bd x.b1 8
def x8u(l:List Mp):Prop:=∀x∈l,PtIn x
theorem PtIn.ln{x:Mp}(h:PtIn x):bd x.ln 63:=by have:=h.l0;have:=h.l1;unfold bd;omega
theorem PtIn.sm{x:Mp}(h:PtIn x):bd x.sm 63:=by have:=h.s0;have:=h.s1;unfold bd;omega
section
variable{l:List Mp}
end
open Go.Proofs
def sW2(a b:Int):Int:=w64 (a-b)
structure Nm where
 a:Int
 b:Int
 c:Int
 d:Int
 e:Int
 f:Int
 g:Int
 h:Int
 i:Int
 x:Int
 y:Int
 z:Int
abbrev Nm.v(n:Nm):AV:=.agg [I n.a,I n.b,I n.c,I n.d,I n.e,I n.f,I n.g,I n.h,I n.i,I n.x,I n.y,I n.z]
structure Ep where
 day:Int
 bl:Int
 ph:Int
 mg:Int
def Ep.c(e:Ep):List AV:=[I e.day,I e.bl,I e.ph,I e.mg]
def Ep.r(d0:Int)(e:Ep):List AV:=[I (sW2 e.day d0),I e.bl,I 1]
def Ep.p(e:Ep):List AV:=[I e.ph]
theorem Ep.len(e:Ep):e.c.length=4:=rfl
theorem Ep.still(e:Ep):e.c.all still1=true:=rfl
def Cg(x y:Int):Prop:=∃k:Int,x=y+18446744073709551616*k
theorem Cg.refl(x:Int):Cg x x:=⟨0,by omega⟩
theorem w64_rng(n:Int):Cg (w64 n) n/\-9223372036854775808<=w64 n/\w64 n<=9223372036854775807:=by
 rw[x9l]
 have e:IntKind.i64.wrap n=if(n % 18446744073709551616) ≥ 9223372036854775808 then n % 18446744073709551616-18446744073709551616 else n % 18446744073709551616:=by
  show(if(true&&decide (n % (2 ^ 64:Int) ≥ (2 ^ 63:Int)))=true then n % (2 ^ 64:Int)-(2 ^ 64:Int)else n % (2 ^ 64:Int))=_
  simp
 rw[e]
 have h1:=Int.emod_nonneg n (show(18446744073709551616:Int)≠0 by omega)
 have h2:=Int.emod_lt_of_pos n (show(0:Int)<18446744073709551616 by omega)
 have h3:=Int.mul_ediv_add_emod n 18446744073709551616
 split
 .exact⟨⟨-(n / 18446744073709551616)-1,by omega⟩,by omega,by omega⟩
 .exact⟨⟨-(n / 18446744073709551616),by omega⟩,by omega,by omega⟩
theorem Cg.w{x y:Int}(h:Cg x y):Cg (w64 x) y:=by
 obtain⟨k,h⟩:=h
 obtain⟨⟨j,e⟩,-⟩:=w64_rng x
 exact⟨k+j,by rw[e,h];omega⟩
theorem Cg.add{a b x y:Int}(h:Cg a x)(k:Cg b y):Cg (a+b) (x+y):=by
 obtain⟨p,h⟩:=h
 obtain⟨q,k⟩:=k
 exact⟨p+q,by rw[h,k];omega⟩
theorem Cg.sub{a b x y:Int}(h:Cg a x)(k:Cg b y):Cg (a-b) (x-y):=by
 obtain⟨p,h⟩:=h
 obtain⟨q,k⟩:=k
 exact⟨p-q,by rw[h,k];omega⟩
theorem Cg.mul{a b x y:Int}(h:Cg a x)(k:Cg b y):Cg (a*b) (x*y):=by
 obtain⟨p,h⟩:=h
 obtain⟨q,k⟩:=k
 exact⟨x*q+p*y+18446744073709551616*(p*q),by rw[h,k];grind⟩
theorem Cg.fin{x y:Int}(h:Cg x y)(h1:bd x 9223372036854775807)(hb:bd y 9223372036854775807):x=y:=by
 obtain⟨k,h⟩:=h
 unfold bd at *
 omega
theorem Cg.trans{x y z:Int}(h:Cg x y)(e:y=z):Cg x z:=e▸h
end Go.Ix
