import Derived.Test.YtpeakdjfagbpcaaGreatWg5
import Derived.Test.YtpeakdjfagbpcaaGreatWg4
import Derived.Test.YtpeakdjfagbpcaaGreatWg3
import Derived.Test.YtpeakdjfagbpcaaGreatWg0
set_option linter.unusedSimpArgs false
set_option linter.unusedVariables false
namespace Go.Ix
open Go.Proofs
theorem ord_rng{f:Int->Int}{N:Nat}:InN N (ordM f N):=fun x hx=>((x2ly f N).2 x).mp hx
theorem ord_len(f:Int->Int)(N:Nat):(ordM f N).length=N:=by
 have:=x2pt (x2ly f N).nodup (x2pu N).nodup fun x=>((x2ly f N).2 x).trans fresh_mem.symm
 rw[this];simp[freshM]
def bE(b:Bool):List AV:=[B b]
variable{α:Type}{z:Nat}{enc:α->List AV}
def Ow(enc:α->List AV)(m:Mem)(id:Id)(l:List α):Prop:=m.get id=some (.row (l.flatMap enc) 0 false)
theorem Ow.fr{m m':Mem}{id:Id}{l:List α}(h:Ow enc m id l)(e:m'.get id=m.get id):Ow enc m' id l:=by unfold Ow;rw[e];exact h
theorem Ow.ld(hz:∀x,(enc x).length=z){m:Mem}{id:Id}{l:List α}(h:Ow enc m id l){k:Nat}(hk:k<l.length){g:Bool}:sLd g z (.ptr id 0 (k*z)) m=rd g z (enc l[k]++(l.drop (k+1)).flatMap enc):=by
 rw[ld_ptr h,x2n7 hz,x2fw hk,List.flatMap_cons]
theorem x2q2(hz:∀x,(enc x).length=z)(x:α):∀(l:List α) (k:Nat),k<l.length->x2f0 (l.flatMap enc) (k*z) (enc x)=(l.set k x).flatMap enc
 |[],_,h=>by simp at h
 |y::r,0,_=>by
  simp only[x2f0,Nat.zero_mul,Nat.zero_add,List.take_zero,List.nil_append,List.set_cons_zero,List.flatMap_cons]
  rw[hz,<-hz y,List.drop_append_of_le_length (Nat.le_refl _),List.drop_of_length_le (Nat.le_refl _),List.nil_append]
 |y::r,k+1,h=>by
  have ih:=x2q2 hz x r k (by simpa using h)
  simp only[x2f0,List.set_cons_succ,List.flatMap_cons]at ih ⊢
  rw[Nat.succ_mul,show k*z+z=(enc y).length+k*z by rw[hz];omega,List.take_length_add_append,Nat.add_assoc,List.drop_append,List.append_assoc,<-ih]
  have e:(enc y).length+(k*z+(enc x).length)-(enc y).length=k*z+(enc x).length:=by omega
  rw[e,List.drop_of_length_le (by omega),List.nil_append]
theorem Ow.st(hz:∀x,(enc x).length=z){m:Mem}{id:Id}{l:List α}(h:Ow enc m id l){k:Nat}(hk:k<l.length){x:α}{v:AV}(hv:v.cells=enc x)(h1:(enc x).all AV.one=true) :
 (∀{R:Type} (K:Mem->Option R),sSt z (.ptr id 0 (k*z)) v m K=K (m.set id (.row ((l.set k x).flatMap enc) 0 false)))/\Ow enc (m.set id (.row ((l.set k x).flatMap enc) 0 false)) id (l.set k x):=by
 refine⟨fun K=>?_,by unfold Ow;simp⟩
 have hl:=x2ge hz l
 rw[st_ptr (z:=z) (x:=v) (k:=K) h (by rw[hv,hz]) (by rw[hl];have:=Nat.mul_le_mul_right z (show k+1<=l.length from hk);rw[Nat.succ_mul]at this;exact this) (by rw[hv];exact h1),hv,x2q2 hz x l k hk]
theorem Ow.st1{g:α->AV}(he:∀x,enc x=[g x]){m:Mem}{id:Id}{l:List α}(h:Ow enc m id l){k:Int}(h0:0<=k)(hk:k<l.length){x:α}(hc:(g x).cells=[g x])(h1:(g x).one=true) :
 (∀{R:Type} (K:Mem->Option R),sSt 1 (.ptr id 0 k.toNat) (g x) m K=K (m.set id (.row ((l.set k.toNat x).flatMap enc) 0 false)))/\Ow enc (m.set id (.row ((l.set k.toNat x).flatMap enc) 0 false)) id (l.set k.toNat x):=by
 have:=h.st (z:=1) (fun x=>by rw[he];rfl) (k:=k.toNat) (by omega) (x:=x) (v:=g x) (by rw[hc,he]) (by rw[he];simp[h1])
 simpa using this
def GkF(ok:Id->Prop)(m:Mem)(a:AV)(l:List Int):Prop:=(a=nilS/\l=[])\/∃id ver b,ok id/\a=.sref id ver 0 l.length 1 true/\m.get id=some (.row (l.flatMap intE) ver b)
theorem GkF.frame{ok:Id->Prop}{m m':Mem}{a:AV}{l:List Int}(h:GkF ok m a l)(hm:∀id,ok id->m'.get id=m.get id):GkF ok m' a l:=by
 rcases h with h|⟨id,ver,b,h0,h1,h2⟩
 .exact Or.inl h
 .exact Or.inr ⟨id,ver,b,h0,h1,by rw[hm _ h0];exact h2⟩
def BestI(f:Int->Int)(S:List Int)(i:Nat)(b:Int):Prop:=(b=-1/\∀j:Nat,j<i->(j:Int)∈S)\/((0<=b/\b<i)/\b∉S/\∀j:Nat,j<i->(j:Int)∉S->(j:Int)=b\/lx f b j)
theorem BestI.fin{f:Int->Int}{N:Nat}{k:Nat}{b:Int}(h:BestI f ((ordM f N).take k) N b)(hk:k<N):b=at0 (ordM f N) k:=by
 have hl:=ord_len f N
 have hO:=x2ly f N
 have hkl:k<(ordM f N).length:=by omega
 have hx:=(InN.get (ord_rng (f:=f) (N:=N)) hkl)
 have hnd:=hO.nodup
 have hxn:at0 (ordM f N) k∉(ordM f N).take k:=fun hm=>by
  obtain⟨j,hj,e⟩:=List.mem_iff_getElem.mp hm
  rw[List.getElem_take,x2fa hkl]at e
  simp at hj
  exact List.pairwise_iff_getElem.mp hnd j k (by omega) hkl (by omega) e
 rcases h with ⟨h1,h2⟩|⟨h1,h2,h3⟩
 .have:=h2 (at0 (ordM f N) k).toNat (by omega)
  rw[Int.toNat_of_nonneg hx.1]at this
  exact absurd this hxn
 .have h4:=h3 (at0 (ordM f N) k).toNat (by omega) (by rw[Int.toNat_of_nonneg hx.1];exact hxn)
  rw[Int.toNat_of_nonneg hx.1]at h4
  rcases h4 with e|e
  .exact e.symm
  .have hb:b∈ordM f N:=(hO.2 b).mpr h1
   rw[<-List.take_append_drop k (ordM f N),List.mem_append]at hb
   have hb2:=hb.resolve_left h2
   rw[x2fw hkl,List.mem_cons]at hb2
   rcases hb2 with e2|e2
   .rw[x2fa hkl];exact e2
   .have hs:=hO.1
    rw[<-List.take_append_drop k (ordM f N),x2fw hkl]at hs
    have:=(List.pairwise_cons.mp (List.pairwise_append.mp hs).2.1).1 b e2
    rw[x2fa hkl]at e
    exact(lx_asym _ _ this e).elim
def DoneI(f:Int->Int)(N k:Nat)(D:List Bool):Prop:=D.length=N/\∀i:Nat,i<N->D.getD i false=decide ((i:Int)∈(ordM f N).take k)
theorem DoneI.next{f:Int->Int}{N k:Nat}{D:List Bool}(h:DoneI f N k D)(hk:k<N):DoneI f N (k+1) (D.set (at0 (ordM f N) k).toNat true):=by
 have hl:=ord_len f N
 have hkl:k<(ordM f N).length:=by omega
 have hx:=InN.get (ord_rng (f:=f) (N:=N)) hkl
 refine⟨by simp[h.1],fun i hi=>?_⟩
 rw[List.take_succ_eq_append_getElem hkl,<-x2fa hkl,List.getD_eq_getElem?_getD,List.getElem?_set]
 have h2:=h.2 i hi
 rw[List.getD_eq_getElem?_getD]at h2
 by_cases c:(at0 (ordM f N) k).toNat=i
 .rw[if_pos c,if_pos (by rw[h.1];omega)]
  have:(i:Int)=at0 (ordM f N) k:=by omega
  simp[this]
 .rw[if_neg c,h2]
  have:¬(i:Int)=at0 (ordM f N) k:=by omega
  simp[this]
end Go.Ix
