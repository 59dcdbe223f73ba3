import Derived.Test.YtpeakdjfagbpcaaGreatRows
import Derived.Test.YtpeakdjfagbpcaaGreatFxLaw
import Derived.Test.YtpeakdjfagbpcaaGreatW7Loop
import Derived.Test.YtpeakdjfagbpcaaGreatW7Pair
import Derived.Test.YtpeakdjfagbpcaaGreatM7Way
set_option maxRecDepth 100000
namespace Go.Proofs.YtpeakdjfagbpcaaGreat
open Go.ChangeShapes Go.WideShapes Go.ChangeAt Go.RowKit Go.Ix
theorem Tryz.own:ownKnob Tryz.prog.godebug=none:=by kernel_rfl
theorem Tryz.laidOut:laidOutB Tryz.prog=true:=by kernel_rfl
theorem sh_int{q:List AV}(h:Sh Tryz.prog x1ny q):∃n,q=[I n]:=by
 obtain⟨n,h,-⟩:=Sh.int_inv (t:=x1ny) (k:=.i64) (by kernel_rfl) h
 exact⟨n,h⟩
theorem sh_str{q:List AV}(h:Sh Tryz.prog xb q):∃s,q=[T s]:=by
 have ht:Tryz.prog.underlying xb=some .string:=by kernel_rfl
 cases h with
 |string h' s hs=>exact⟨s,rfl⟩
 |int h'=>rw[ht]at h';cases h'
 |nilS h'=>rw[ht]at h';cases h'
 |slice h'=>rw[ht]at h';cases h'
 |bool h'=>rw[ht]at h';cases h'
 |float h'=>rw[ht]at h';cases h'
 |struct h'=>rw[ht]at h';cases h'
 |array h'=>rw[ht]at h';cases h'
theorem sl_sh{α:Type}{enc:α->List AV}{P:Program}{t e:TypeId}{z:AV}(ht:P.underlying t=some (.slice e))(hr:∀r,r.length=P.cellsOf e->Sh P e r->∃x,r=enc x)(f:Sh P t [z]):∃l,Sl enc z l:=by
 rcases Sh.slice_inv ht f with h1|⟨rows,x,h1,h2,h3,h4⟩
 .simp at h1;exact⟨[],Or.inl ⟨h1,rfl⟩⟩
 .obtain⟨l,rfl⟩:=x1w7 (enc:=enc) fun r hm=>hr r (h2 r hm) (h3 r hm)
  simp at h1
  exact⟨l,Or.inr ⟨x,by simpa[List.flatMap]using h1⟩⟩
theorem int_in{a:AV}(h:ArgSh Tryz.prog x1ny a):∃n,a=I n:=by
 obtain⟨n,h,-⟩:=h.int (t:=x1ny) (k:=.i64) (by kernel_rfl)
 exact⟨n,h⟩
theorem fs_of{t:TypeId}{l:List (TypeId×Nat)}(h:((Tryz.prog.underlying t).bind fun d=>match d with | .struct fs=>some (fs.toList.map fun f=>(f.type,f.offset))|_=>none)=some l):∃fs,Tryz.prog.underlying t=some (.struct fs)/\(fs.toList.map fun f=>(f.type,f.offset))=l:=by
 cases hu:Tryz.prog.underlying t with
 |none=>rw[hu]at h;cases h
 |some d=>
  rw[hu]at h
  cases d<;>first|exact⟨_,rfl,by simpa using h⟩|cases h
theorem scenes_sh{z:AV}(f:Sh Tryz.prog x6 [z]):∃l,Sl Scene.c z l:=sl_sh (e:=x2c) (by kernel_rfl) (fun r hl hr=>by
 obtain⟨fs,h1,h2⟩:=fs_of (t:=x2c) (l:=[(xb,0),(x1ny,1),(x1ny,2)]) (by kernel_rfl)
 obtain⟨-,hff⟩:=Sh.struct_inv h1 hr
 have hc:Tryz.prog.cellsOf x2c=3:=by kernel_rfl
 have hci:Tryz.prog.cellsOf x1ny=1:=by kernel_rfl
 have hcs:Tryz.prog.cellsOf xb=1:=by kernel_rfl
 rw[hc]at hl
 match r,hl with
 |[x,y,w],_=>
  have:∀p∈fs.toList.map (fun f=>(f.type,f.offset)),Sh Tryz.prog p.1 (([x,y,w].drop p.2).take (Tryz.prog.cellsOf p.1)):=fun p hp=>by
   obtain⟨f,hf,rfl⟩:=List.mem_map.mp hp
   exact hff f hf
  rw[h2]at this
  have a0:=this _ (List.mem_cons_self ..)
  have a1:=this (x1ny,1) (by simp)
  have a2:=this (x1ny,2) (by simp)
  simp only[hci,hcs,List.drop_zero,List.take_succ_cons,List.take_zero,List.drop_succ_cons]at a0 a1 a2
  obtain⟨s,hs⟩:=sh_str a0
  obtain⟨p,hp⟩:=sh_int a1
  obtain⟨q,hq⟩:=sh_int a2
  simp at hs hp hq
  exact⟨⟨s,p,q⟩,by rw[hs,hp,hq];rfl⟩) f
theorem scenes_in{a:AV}(h:ArgSh Tryz.prog x6 a):∃l,Sl Scene.c a l:=scenes_sh (h.slice (t:=x6) (e:=x2c) (by kernel_rfl))
end Go.Proofs.YtpeakdjfagbpcaaGreat
