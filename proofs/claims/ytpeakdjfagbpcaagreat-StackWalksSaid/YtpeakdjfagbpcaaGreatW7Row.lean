import Derived.Test.YtpeakdjfagbpcaaGreatRows
import Derived.Test.YtpeakdjfagbpcaaGreatFxLaw
import Derived.Test.YtpeakdjfagbpcaaGreatW7Loop
import Derived.Test.YtpeakdjfagbpcaaGreatW7Pair
import Derived.Test.YtpeakdjfagbpcaaGreatM7Way
set_option maxRecDepth 100000
namespace Go.Proofs.YtpeakdjfagbpcaaGreat
open Go.ChangeShapes Go.WideShapes Go.ChangeAt Go.RowKit Go.Ix
theorem Tryz.own:ownKnob Tryz.prog.godebug=none:=by kernel_rfl
theorem Tryz.laidOut:laidOutB Tryz.prog=true:=by kernel_rfl
theorem x23n{q:List AV}(h:Sh Tryz.prog x1xc q):∃n,q=[I n]:=by
 obtain⟨n,h,-⟩:=Sh.int_inv (t:=x1xc) (k:=.i64) (by kernel_rfl) h
 exact⟨n,h⟩
theorem sh_str{q:List AV}(h:Sh Tryz.prog xc q):∃s,q=[T s]:=by
 have ht:Tryz.prog.underlying xc=some .string:=by kernel_rfl
 cases h with
 |string h' s hs=>exact⟨s,rfl⟩
 |int h'=>rw[ht]at h';cases h'
 |nilS h'=>rw[ht]at h';cases h'
 |slice h'=>rw[ht]at h';cases h'
 |bool h'=>rw[ht]at h';cases h'
 |float h'=>rw[ht]at h';cases h'
 |struct h'=>rw[ht]at h';cases h'
 |array h'=>rw[ht]at h';cases h'
theorem sl_sh{α:Type}{enc:α->List AV}{P:Program}{t e:TypeId}{z:AV}(ht:P.underlying t=some (.slice e))(hr:∀r,r.length=P.cellsOf e->Sh P e r->∃x,r=enc x)(f:Sh P t [z]):∃l,Sl enc z l:=by
 rcases Sh.slice_inv ht f with h1|⟨rows,x,h1,h2,h3,h4⟩
 .simp at h1;exact⟨[],Or.inl ⟨h1,rfl⟩⟩
 .obtain⟨l,rfl⟩:=x26g (enc:=enc) fun r hm=>hr r (h2 r hm) (h3 r hm)
  simp at h1
  exact⟨l,Or.inr ⟨x,by simpa[List.flatMap]using h1⟩⟩
theorem two_sh{t:TypeId}{fs:Array Field}{r:List AV}(ht:Tryz.prog.underlying t=some (.struct fs))(hf:(fs.toList.map fun f=>(f.type,f.offset))=[(x1xc,0),(x1xc,1)])(hc:Tryz.prog.cellsOf t=2)(h:Sh Tryz.prog t r):∃a b,r=[I a,I b]:=by
 obtain⟨hl,hff⟩:=Sh.struct_inv ht h
 rw[hc]at hl
 have hci:Tryz.prog.cellsOf x1xc=1:=by kernel_rfl
 match r,hl with
 |[x,y],_=>
  have:∀p∈fs.toList.map (fun f=>(f.type,f.offset)),Sh Tryz.prog p.1 (([x,y].drop p.2).take (Tryz.prog.cellsOf p.1)):=fun p hp=>by
   obtain⟨f,hf,rfl⟩:=List.mem_map.mp hp
   exact hff f hf
  rw[hf]at this
  have a1:=this _ (List.mem_cons_self ..)
  have a2:=this (x1xc,1) (by simp)
  simp only[hci,List.drop_zero,List.take_succ_cons,List.take_zero,List.drop_succ_cons]at a1 a2
  obtain⟨p,hp⟩:=x23n a1
  obtain⟨q,hq⟩:=x23n a2
  simp at hp hq
  exact⟨p,q,by rw[hp,hq]⟩
theorem fs_of{t:TypeId}{l:List (TypeId×Nat)}(h:((Tryz.prog.underlying t).bind fun d=>match d with | .struct fs=>some (fs.toList.map fun f=>(f.type,f.offset))|_=>none)=some l):∃fs,Tryz.prog.underlying t=some (.struct fs)/\(fs.toList.map fun f=>(f.type,f.offset))=l:=by
 cases hu:Tryz.prog.underlying t with
 |none=>rw[hu]at h;cases h
 |some d=>
  rw[hu]at h
  cases d<;>first|exact⟨_,rfl,by simpa using h⟩|cases h
theorem pairs_sh{z:AV}(f:Sh Tryz.prog x3 [z]):∃l,Sl Pq.c z l:=sl_sh (e:=x8) (by kernel_rfl) (fun r _ hr=>by
 obtain⟨fs,h1,h2⟩:=fs_of (t:=x8) (l:=[(x1xc,0),(x1xc,1)]) (by kernel_rfl)
 obtain⟨a,b,e⟩:=two_sh h1 h2 (by kernel_rfl) hr
 exact⟨⟨a,b⟩,e⟩) f
theorem steps_sh{z:AV}(f:Sh Tryz.prog x10 [z]):∃l,Sl Sp.c z l:=sl_sh (e:=x7y) (by kernel_rfl) (fun r _ hr=>by
 obtain⟨fs,h1,h2⟩:=fs_of (t:=x7y) (l:=[(x1xc,0),(x1xc,1)]) (by kernel_rfl)
 obtain⟨a,b,e⟩:=two_sh h1 h2 (by kernel_rfl) hr
 exact⟨⟨a,b⟩,e⟩) f
theorem steps_in{a:AV}(h:ArgSh Tryz.prog x10 a):∃l,Sl Sp.c a l:=steps_sh (h.slice (t:=x10) (e:=x7y) (by kernel_rfl))
theorem scenes_sh{z:AV}(f:Sh Tryz.prog x2 [z]):∃l,Sl Scene.c z l:=sl_sh (e:=x3s) (by kernel_rfl) (fun r hl hr=>by
 obtain⟨fs,h1,h2⟩:=fs_of (t:=x3s) (l:=[(xc,0),(x1xc,1),(x1xc,2)]) (by kernel_rfl)
 obtain⟨-,hff⟩:=Sh.struct_inv h1 hr
 have hc:Tryz.prog.cellsOf x3s=3:=by kernel_rfl
 have hci:Tryz.prog.cellsOf x1xc=1:=by kernel_rfl
 have hcs:Tryz.prog.cellsOf xc=1:=by kernel_rfl
 rw[hc]at hl
 match r,hl with
 |[x,y,w],_=>
  have:∀p∈fs.toList.map (fun f=>(f.type,f.offset)),Sh Tryz.prog p.1 (([x,y,w].drop p.2).take (Tryz.prog.cellsOf p.1)):=fun p hp=>by
   obtain⟨f,hf,rfl⟩:=List.mem_map.mp hp
   exact hff f hf
  rw[h2]at this
  have a0:=this _ (List.mem_cons_self ..)
  have a1:=this (x1xc,1) (by simp)
  have a2:=this (x1xc,2) (by simp)
  simp only[hci,hcs,List.drop_zero,List.take_succ_cons,List.take_zero,List.drop_succ_cons]at a0 a1 a2
  obtain⟨s,hs⟩:=sh_str a0
  obtain⟨p,hp⟩:=x23n a1
  obtain⟨q,hq⟩:=x23n a2
  simp at hs hp hq
  exact⟨⟨s,p,q⟩,by rw[hs,hp,hq];rfl⟩) f
theorem net7_sh{q:List AV}(hq:Sh Tryz.prog x2q q):∃s p l k,q=[s,p]/\Sl Scene.c s l/\Sl Pq.c p k:=by
 obtain⟨fs,h1,h2⟩:=fs_of (t:=x2q) (l:=[(x2,0),(x3,1)]) (by kernel_rfl)
 obtain⟨hl,hff⟩:=Sh.struct_inv h1 hq
 have hc:Tryz.prog.cellsOf x2q=2:=by kernel_rfl
 have hc1:Tryz.prog.cellsOf x2=1:=by kernel_rfl
 have hc2:Tryz.prog.cellsOf x3=1:=by kernel_rfl
 rw[hc]at hl
 match q,hl with
 |[x,y],_=>
  have:∀p∈fs.toList.map (fun f=>(f.type,f.offset)),Sh Tryz.prog p.1 (([x,y].drop p.2).take (Tryz.prog.cellsOf p.1)):=fun p hp=>by
   obtain⟨f,hf,rfl⟩:=List.mem_map.mp hp
   exact hff f hf
  rw[h2]at this
  have a0:=this _ (List.mem_cons_self ..)
  have a1:=this (x3,1) (by simp)
  simp only[hc1,hc2,List.drop_zero,List.take_succ_cons,List.take_zero,List.drop_succ_cons]at a0 a1
  obtain⟨l,hl⟩:=scenes_sh a0
  obtain⟨k,hk⟩:=pairs_sh a1
  exact⟨x,y,l,k,rfl,hl,hk⟩
theorem net7_in{a:AV}(h:ArgSh Tryz.prog x2q a):∃s p l k,a=.agg [s,p]/\Sl Scene.c s l/\Sl Pq.c p k:=by
 obtain⟨fs,h1,-⟩:=fs_of (t:=x2q) (l:=[(x2,0),(x3,1)]) (by kernel_rfl)
 obtain⟨q,rfl,hq⟩:=h.struct h1
 obtain⟨s,p,l,k,rfl,h3,h4⟩:=net7_sh hq
 exact⟨s,p,l,k,rfl,h3,h4⟩
end Go.Proofs.YtpeakdjfagbpcaaGreat
