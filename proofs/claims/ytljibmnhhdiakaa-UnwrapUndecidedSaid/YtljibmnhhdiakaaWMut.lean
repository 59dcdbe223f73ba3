import Derived.Test.YtljibmnhhdiakaaWBase
set_option linter.unusedSimpArgs false
namespace Go.Ix
variable{R:Type}{m:Mem}
theorem x1us:∀l:List Int,l.flatMap intE=l.map I
 |[]=>rfl
 |x::l=>by rw[List.flatMap_cons,x1us l];rfl
theorem x1th(l:List Int):(l.flatMap intE).length=l.length:=by rw[x1us];simp
def OwnI(m:Mem)(id:Id)(l:List Int):Prop:=m.get id=some (.row (l.flatMap intE) 0 false)
abbrev srI(id:Id)(n:Nat):AV:=.sref id 0 0 n 1 true
theorem x1re{id:Id}{n:Nat}{k:Int}(h0:0<=k)(hk:k<n):sIx 1 (srI id n) (I k)=some (.ptr id 0 k.toNat):=by
 simp[sIx,asI,h0,hk]
@[simp high] theorem x1s7{l:List Int}{k:Nat}{fz:Bool}(hk:k<l.length):x1vv false 1 0 k (some (.row (l.flatMap intE) 0 fz))=some (I (at0 l k)):=by
  simp only[x1vv,Nat.beq_refl,cond_true,rd,Bool.false_eq_true,if_false]
  rw[x1us,<-List.map_drop,x1t5 hk,x1ri hk]
  rfl
@[simp high] theorem x1ss{l:List Int}{k:Nat}{v:Int}(hk:k<l.length):x1s2 1 0 k (I v) (some (.row (l.flatMap intE) 0 false))=some (.row ((l.set k v).flatMap intE) 0 false):=by
  have h:(0:Nat)=0/\(I v).cells.length=1/\k+1<=(l.flatMap intE).length/\((I v).cells.all AV.one)=true:=⟨rfl,rfl,by rw[x1th];omega,rfl⟩
  rw[x1u3,decide_eq_true h,cond_true]
  simp only[x1us,x1rc,cells_I]
  congr 2
  rw[List.map_set,List.set_eq_take_append_cons_drop,if_pos (by simpa using hk)]
  simp
theorem x1sa{l:List Int}{k j:Nat}{v:Int}(hk:k<l.length):at0 (l.set k v) j=if j=k then v else at0 l j:=by
 unfold at0
 rw[List.getD_eq_getElem?_getD,List.getD_eq_getElem?_getD,List.getElem?_set]
 by_cases h:k=j
 .subst h;simp[hk]
 .rw[if_neg h,if_neg (fun e=>h e.symm)]
theorem zeros_int(n:Nat):x1rd [I 0] (n*1)=(List.replicate n (0:Int)).flatMap intE:=by
 rw[x1us,Nat.mul_one]
 simp only[x1rd,List.map_replicate]
 apply List.ext_getElem
 .simp
 .intro i h1 h2
  simp[Nat.mod_one]
theorem x1z5(n k:Nat):at0 (List.replicate n 0) k=0:=by
 unfold at0
 rw[List.getD_eq_getElem?_getD,List.getElem?_replicate]
 split<;>rfl
theorem x1wh{n:Int}{id:Id}{k:AV->Mem->Option R}(h0:0<=n)(h1:n<=1000000):x1ry [I 0] 1 8 (I n) (I n) id m k=k (srI id n.toNat) (m.new id (.row ((List.replicate n.toNat (0:Int)).flatMap intE) 0 false)):=by
 simp only[x1ry,asI]
 rw[if_pos ⟨h0,Int.le_refl _,by omega,by omega⟩,zeros_int]
theorem frz_own{l:List Int}{id:Id}(h:OwnI m id l):frz m.get deep (srI id l.length)=some (.slit (l.flatMap intE) l.length false):=by
 have hl:=x1th l
 have:=x1v4 (objs:=m.get) (id:=id) (cs:=l.flatMap intE) (ver:=0) (off:=0) (n:=l.length) (z:=1) (k:=4) (f:=false) (x:=true) h (by omega) (by
  rw[List.drop_zero,List.take_of_length_le (by omega)];exact x1ur x1wf l)
 rw[List.drop_zero,List.take_of_length_le (by omega)]at this
 exact this
end Go.Ix
