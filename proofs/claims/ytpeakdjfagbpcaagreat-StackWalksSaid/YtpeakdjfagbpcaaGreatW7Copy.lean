import Derived.Test.YtpeakdjfagbpcaaGreatW7Net
import Derived.Test.YtpeakdjfagbpcaaGreatWCopy
set_option linter.unusedSimpArgs false
set_option linter.unusedVariables false
namespace Go.Ix
open Go.Proofs
theorem x251{α:Type}{enc:α->List AV}{z bytes:Nat}(hz:∀x,(enc x).length=z){a:AV}{l:List α}(h:Sl enc a l)(hr:x1xf l.length bytes)(id:Id)(m:Mem) :
 (l=[]/\∀{R:Type} (k:AV->Mem->Option R),sApp z bytes id (elems m.get z a) (.slit [] 0 true) m k=k (.slit [] 0 true) m) \/
 (l≠[]/\∀{R:Type} (k:AV->Mem->Option R),sApp z bytes id (elems m.get z a) (.slit [] 0 true) m k=k (.sref id 0 0 l.length z true) (m.new id (.row (l.flatMap enc) 0 false))):=by
 have he:=h.elems hz m.get
 by_cases hq:l.length=0
 .refine .inl ⟨List.length_eq_zero_iff.mp hq,fun k=>?_⟩
  rw[he,x26s hr,decide_eq_true hq]
  rfl
 .refine .inr ⟨fun e=>hq (by rw[e];rfl),fun k=>?_⟩
  rw[he,x26s hr,decide_eq_false hq]
  rfl
theorem x22x{α:Type}{enc:α->List AV}{z k:Nat}(hz:∀x,(enc x).length=z)(hs:∀x,(enc x).all still1=true){objs:Id->Option Ob}{id:Id}{l:List α}{x:Bool}(hg:objs id=some (.row (l.flatMap enc) 0 false)) :
 frz objs (k+2) (.sref id 0 0 l.length z x)=some (.slit (l.flatMap enc) l.length false):=by
 have hl:=x1zc hz l
 have:=x23l (objs:=objs) (id:=id) (cs:=l.flatMap enc) (ver:=0) (off:=0) (n:=l.length) (z:=z) (k:=k) (f:=false) (x:=x) hg (by omega) (by
  rw[List.drop_zero,List.take_of_length_le (by omega)];exact x22u hs l)
 rw[List.drop_zero,List.take_of_length_le (by omega)]at this
 exact this
theorem x252{objs:Id->Option Ob}{a b a' b':AV}{k:Nat}(ha:frz objs (k+1) a=some a')(hb:frz objs (k+1) b=some b'):frz objs (k+2) (.agg [a,b])=some (.agg [a',b']):=by
 show([a,b].mapM (frz objs (k+1))).map AV.agg=_
 simp only[List.mapM_cons,List.mapM_nil,ha,hb]
 rfl
theorem z_snet:x5w=[nilS,nilS]:=by kernel_rfl
theorem x296(d:Nat){s p:AV}{l:List Scene}{P:List Pq}(hs:Sl Scene.c s l)(hp:Sl Pq.c p P)(hl:l.length<=1000000)(hP:P.length<=1000000)(m:Mem) :
 ∃s' p',Sl Scene.c s' l/\Sl Pq.c p' P/\x1x1 (x1x3 (d+1)) x29 [.agg [s,p]] m=some (.agg [s',p'],m):=by
 have hr:x1xf l.length 32:=by unfold x1xf;omega
 have hr2:x1xf P.length 16:=by unfold x1xf;omega
 have key:RetF (fun v=>∃s' p',v=.agg [s',p']/\Sl Scene.c s' l/\Sl Pq.c p' P) (x1x3 (d+1) [] x29 [.agg [s,p]] mem0):=by
  rw[x12j]
  unfold xbi xcj
  have a1:=fun m=>x251 Scene.len hs hr (0,5,6) m
  have a2:=fun m=>x251 Pq.len hp hr2 (0,9,10) m
  have hx:=hs.tX
  have hx2:=hp.tX
  simp[mem0,hs.one,hp.one,z_snet]
  generalize hm1:Mem.new _ _ _=m1
  rcases a1 m1 with ⟨rfl,h1⟩|⟨h0,h1⟩
  .simp only[h1]
   simp[<-hm1]
   rcases a2 m1 with ⟨rfl,h2⟩|⟨h02,h2⟩<;>rw[<-hm1]at h2
   .simp[h2,x1xd,x1ym,sLdP,tR,tA,hx,hx2,x1x0,disj,<-hm1]
    exact RetF.st rfl ⟨_,_,rfl,Sl.lit [] true,Sl.lit [] true⟩
   .simp[h2,x1xd,x1ym,sLdP,tR,tA,hx,hx2,x1x0,disj,<-hm1]
    refine RetF.mk (x252 rfl (x22x (k:=3) Pq.len Pq.still (x:=true) (l:=P) ?_)) ⟨_,_,rfl,Sl.lit [] true,Sl.lit P false⟩
    simp
  .simp only[h1]
   simp[<-hm1]
   generalize hm2:Mem.new (Mem.new _ _ _) (0,5,6) _=m2
   rcases a2 m2 with ⟨rfl,h2⟩|⟨h02,h2⟩
   .simp only[h2]
    simp[x1xd,x1ym,sLdP,tR,tA,hx,hx2,x1x0,disj,<-hm2]
    refine RetF.mk (x252 (x22x (k:=3) Scene.len Scene.stillA (x:=true) (l:=l) ?_) rfl) ⟨_,_,rfl,Sl.lit l false,Sl.lit [] true⟩
    simp
   .simp only[h2]
    simp[x1xd,x1ym,sLdP,tR,tA,hx,hx2,x1x0,disj,<-hm2]
    refine RetF.mk (x252 (x22x (k:=3) Scene.len Scene.stillA (x:=true) (l:=l) ?_) (x22x (k:=3) Pq.len Pq.still (x:=true) (l:=P) ?_)) ⟨_,_,rfl,Sl.lit l false,Sl.lit P false⟩<;>simp
 obtain⟨v,⟨s',p',rfl,h1,h2⟩,hc⟩:=callF (by simp[hs.still1,hp.still1]) key m
 exact⟨s',p',h1,h2,hc⟩
end Go.Ix
