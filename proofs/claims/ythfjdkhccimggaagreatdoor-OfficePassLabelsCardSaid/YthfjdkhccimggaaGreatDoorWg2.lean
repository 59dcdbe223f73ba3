import Derived.Test.YthfjdkhccimggaaGreatDoorWg1
import Derived.Test.YthfjdkhccimggaaGreatDoorRows
import Derived.Test.YthfjdkhccimggaaGreatDoorFxLaw
set_option linter.unusedSimpArgs false
namespace Go.Ix
open Go.Proofs
abbrev Ints(a:AV)(l:List Int):Prop:=Sl intE a l
def TurnsIn(t:List Int):Prop:=∀x∈t,-1000000<=x/\x<=1000000
theorem TurnsIn.get{t:List Int}(h:TurnsIn t)(k:Nat):-1000000<=at0 t k/\at0 t k<=1000000:=by
 unfold at0
 rw[x1nb]
 cases hk:t[k]? with
 |none=>simp
 |some x=>simpa using h x (x1mr hk)
end Go.Ix
set_option maxRecDepth 100000
namespace Go.Proofs.YthfjdkhccimggaaGreatDoor
open Go.ChangeShapes Go.WideShapes Go.ChangeAt Go.RowKit Go.Ix
theorem Tryz.own:ownKnob Tryz.prog.godebug=none:=by kernel_rfl
theorem Tryz.laidOut:laidOutB Tryz.prog=true:=by kernel_rfl
theorem x17s{q:List AV}(h:Sh Tryz.prog x14s q):∃n,q=[I n]:=by
 obtain⟨n,h,-⟩:=Sh.int_inv (t:=x14s) (k:=.i64) (by kernel_rfl) h
 exact⟨n,h⟩
theorem sh_str{q:List AV}(h:Sh Tryz.prog x0 q):∃s,q=[T s]:=by
 have ht:Tryz.prog.underlying x0=some .string:=by kernel_rfl
 cases h with
 |string h' s hs=>exact⟨s,rfl⟩
 |int h'=>rw[ht]at h';cases h'
 |nilS h'=>rw[ht]at h';cases h'
 |slice h'=>rw[ht]at h';cases h'
 |bool h'=>rw[ht]at h';cases h'
 |float h'=>rw[ht]at h';cases h'
 |struct h'=>rw[ht]at h';cases h'
 |array h'=>rw[ht]at h';cases h'
theorem sl_sh{α:Type}{enc:α->List AV}{P:Program}{t e:TypeId}{z:AV}(ht:P.underlying t=some (.slice e))(hr:∀r,r.length=P.cellsOf e->Sh P e r->∃x,r=enc x)(f:Sh P t [z]):∃l,Sl enc z l:=by
 rcases Sh.slice_inv ht f with h1|⟨rows,x,h1,h2,h3,h4⟩
 .simp at h1;exact⟨[],Or.inl ⟨h1,rfl⟩⟩
 .obtain⟨l,rfl⟩:=x1cc (enc:=enc) λr hm=>hr r (h2 r hm) (h3 r hm)
  simp at h1
  exact⟨l,Or.inr ⟨x,by simpa[List.flatMap]using h1⟩⟩
theorem ints_sh{z:AV}(f:Sh Tryz.prog x5 [z]):∃l,Ints z l:=sl_sh (e:=x14s) (by kernel_rfl) (λ_ _ hr=>x17s hr) f
theorem ints_in{a:AV}(h:ArgSh Tryz.prog x5 a):∃l,Ints a l:=ints_sh (h.slice (t:=x5) (e:=x14s) (by kernel_rfl))
theorem two_sh{t:TypeId}{fs:Array Field}{r:List AV}(ht:Tryz.prog.underlying t=some (.struct fs))(hf:(fs.toList.map λf=>(f.type,f.offset))=[(x14s,0),(x14s,1)])(hc:Tryz.prog.cellsOf t=2)(h:Sh Tryz.prog t r):∃a b,r=[I a,I b]:=by
 obtain⟨hl,hff⟩:=Sh.struct_inv ht h
 rw[hc]at hl
 have hci:Tryz.prog.cellsOf x14s=1:=by kernel_rfl
 match r,hl with
 |[x,y],_=>
  have:∀p∈fs.toList.map (λf=>(f.type,f.offset)),Sh Tryz.prog p.1 (([x,y].drop p.2).take (Tryz.prog.cellsOf p.1)):=λp hp=>by
   obtain⟨f,hf,rfl⟩:=x1n3.mp hp
   exact hff f hf
  rw[hf]at this
  have a1:=this _ (x1ml ..)
  have a2:=this (x14s,1) (by simp)
  simp only[hci,x1n8,x1pj,x1of,x1p3]at a1 a2
  obtain⟨p,hp⟩:=x17s a1
  obtain⟨q,hq⟩:=x17s a2
  simp at hp hq
  exact⟨p,q,by rw[hp,hq]⟩
theorem fs_of{t:TypeId}{l:List (TypeId×Nat)}(h:((Tryz.prog.underlying t).bind λd=>match d with | .struct fs=>some (fs.toList.map λf=>(f.type,f.offset))|_=>none)=some l):∃fs,Tryz.prog.underlying t=some (.struct fs)/\(fs.toList.map λf=>(f.type,f.offset))=l:=by
 cases hu:Tryz.prog.underlying t with
 |none=>rw[hu]at h;cases h
 |some d=>
  rw[hu]at h
  cases d<;>first|exact⟨_,rfl,by simpa using h⟩|cases h
end Go.Proofs.YthfjdkhccimggaaGreatDoor
