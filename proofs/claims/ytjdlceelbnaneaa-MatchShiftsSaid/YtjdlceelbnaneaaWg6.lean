import Derived.Test.YtjdlceelbnaneaaWg4
import Derived.Test.YtjdlceelbnaneaaWg5
set_option maxRecDepth 100000
namespace Go.Proofs.Ytjdlceelbnaneaa
open Go.ChangeShapes Go.WideShapes Go.ChangeAt Go.RowKit Go.Ix
def x5h(P:Program):Nat->TypeId->Bool
 |0,_=>false
 |k+1,t=>match P.underlying t with
  |some (.int .i64)=>true
  |some (.struct fs)=>fs.toList.all (λf=>x5h P k f.type)&&(match tile P 0 fs.toList with|some n=>Nat.beq n (P.cellsOf t)|none=>false)
  |some (.array n e)=>x5h P k e&&Nat.beq (n*P.cellsOf e) (P.cellsOf t)
  |_=>false
theorem xa2{P:Program}:∀{fs:List Field} {off n:Nat},tile P off fs=some n->∀i,off<=i->i<n->∃f∈fs,f.offset<=i/\i<f.offset+P.cellsOf f.type
 |[],off,n,h,i,h1,h2=>by
  simp only[tile,xbt]at h
  omega
 |f::fs,off,n,h,i,h1,h2=>by
  simp only[tile]at h
  cases hb:Nat.beq f.offset off with
  |false=>rw[hb]at h;cases h
  |true=>
   rw[hb,cond_true]at h
   have hoff:=xbx hb
   by_cases c:i<off+P.cellsOf f.type
   .exact⟨f,xca ..,by omega,by omega⟩
   .obtain⟨g,hg,h3⟩:=xa2 h i (by omega) h2
    exact⟨g,xc0 _ hg,h3⟩
theorem x84{P:Program}:∀(k:Nat) {t:TypeId} {q:List AV},x5h P k t=true->Sh P t q->∀a∈q,∃n,a=I n
 |0,_,_,h,_=>by simp[x5h]at h
 |k+1,t,q,h,hs=>by
  simp only[x5h]at h
  split at h
  .rename_i e
   obtain⟨n,rfl,-⟩:=Sh.int_inv e hs
   intro a ha
   simp at ha
   exact⟨n,ha⟩
  .rename_i fs e
   rw[xbu,xbw]at h
   obtain⟨h1,h2⟩:=h
   obtain⟨hl,hf⟩:=Sh.struct_inv e hs
   split at h2
   .rename_i n hn
    have hn2:=xbx h2
    intro a ha
    obtain⟨i,hi,rfl⟩:=xe5.mp ha
    obtain⟨f,hfm,f1,f2⟩:=xa2 hn i (Nat.zero_le _) (by omega)
    refine x84 k (h1 f hfm) (hf f hfm) _ ?_
    rw[xe5]
    refine⟨i-f.offset,by simp;omega,?_⟩
    rw[List.getElem_take,List.getElem_drop]
    congr 1;omega
   .cases h2
  .rename_i n e' e
   rw[xbu]at h
   have hn:=xbx h.2
   cases hs with
   |array h' _ hl hf=>
    rw[e]at h';cases h'
    intro a ha
    obtain⟨i,hi,rfl⟩:=xe5.mp ha
    have hz:0<P.cellsOf e':=by
     rcases Nat.eq_zero_or_pos (P.cellsOf e')with h0|h0
     .rw[h0]at hn;omega
     .exact h0
    have hlt:i / P.cellsOf e'<n:=(Nat.div_lt_iff_lt_mul hz).mpr (by omega)
    refine x84 k h.1 (hf (i / P.cellsOf e') hlt) _ ?_
    rw[xe5]
    have hm:=Nat.mod_lt i hz
    have hd:=Nat.div_add_mod i (P.cellsOf e')
    rw[Nat.mul_comm]at hd
    have hd2:(i / P.cellsOf e')*P.cellsOf e'+i % P.cellsOf e'<q.length:=by omega
    refine⟨i % P.cellsOf e',by simp;omega,?_⟩
    rw[List.getElem_take,List.getElem_drop]
    congr 1
   |string h'=>rw[e]at h';cases h'
   |int h'=>rw[e]at h';cases h'
   |nilS h'=>rw[e]at h';cases h'
   |slice h'=>rw[e]at h';cases h'
   |bool h'=>rw[e]at h';cases h'
   |float h'=>rw[e]at h';cases h'
   |struct h'=>rw[e]at h';cases h'
  .cases h
theorem aff_in{a:AV}(h:ArgSh Try.prog x12 a):∃f:Aff,a=.agg f.c:=by
 obtain⟨fs,h1,-⟩:=fs_of (t:=x12) (l:=[(x50,0),(x1q,1),(x1q,4)]) (by kernel_rfl)
 obtain⟨q,rfl,hq⟩:=h.struct h1
 have hl:=(Sh.struct_inv h1 hq).1
 have hc:Try.prog.cellsOf x12=7:=by kernel_rfl
 have hf:=x84 4 (show x5h Try.prog 4 x12=true by kernel_rfl) hq
 rw[hc]at hl
 match q,hl with
 |[x0,x1,x2,x3,x4,x5,x6],_=>
  obtain⟨n0,rfl⟩:=hf x0 (by simp)
  obtain⟨n1,rfl⟩:=hf x1 (by simp)
  obtain⟨n2,rfl⟩:=hf x2 (by simp)
  obtain⟨n3,rfl⟩:=hf x3 (by simp)
  obtain⟨n4,rfl⟩:=hf x4 (by simp)
  obtain⟨n5,rfl⟩:=hf x5 (by simp)
  obtain⟨n6,rfl⟩:=hf x6 (by simp)
  exact⟨⟨n0,n1,n2,n3,n4,n5,n6⟩,rfl⟩
end Go.Proofs.Ytjdlceelbnaneaa
set_option linter.unusedSimpArgs false
set_option linter.unusedVariables false
namespace Go.Ix
structure PtIn (x:Mp):Prop where
 l0:0<=x.ln
 l1:x.ln<=63
 s0:0<=x.sm
 s1:x.sm<=63
 b0:bd x.b0 8
 b1:bd x.b1 8
theorem PtIn.ln{x:Mp}(h:PtIn x):bd x.ln 63:=by have:=h.l0;have:=h.l1;unfold bd;omega
theorem PtIn.sm{x:Mp}(h:PtIn x):bd x.sm 63:=by have:=h.s0;have:=h.s1;unfold bd;omega
section
variable{l:List Mp}
end
end Go.Ix
