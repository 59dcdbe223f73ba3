import Derived.Test.YtpeakdjfagbpcaaGreatWBase
set_option linter.unusedSimpArgs false
namespace Go.Ix
variable{R:Type}{m:Mem}
theorem x224:∀l:List Int,l.flatMap intE=l.map I
 |[]=>rfl
 |x::l=>by rw[List.flatMap_cons,x224 l];rfl
theorem x273(l:List Int):(l.flatMap intE).length=l.length:=by rw[x224];simp
@[simp high] theorem ldRow_int{l:List Int}{k:Nat}{fz:Bool}(hk:k<l.length):ldRow false 1 0 k (some (.row (l.flatMap intE) 0 fz))=some (I (at0 l k)):=by
  simp only[ldRow,Nat.beq_refl,cond_true,rd,Bool.false_eq_true,if_false]
  rw[x224,<-List.map_drop,x1z2 hk,x20a hk]
  rfl
@[simp high] theorem stRow_int{l:List Int}{k:Nat}{v:Int}(hk:k<l.length):stRow 1 0 k (I v) (some (.row (l.flatMap intE) 0 false))=some (.row ((l.set k v).flatMap intE) 0 false):=by
  have h:(0:Nat)=0/\(I v).cells.length=1/\k+1<=(l.flatMap intE).length/\((I v).cells.all AV.one)=true:=⟨rfl,rfl,by rw[x273];omega,rfl⟩
  rw[x23k,decide_eq_true h,cond_true]
  simp only[x224,x1xl,cells_I]
  congr 2
  rw[List.map_set,List.set_eq_take_append_cons_drop,if_pos (by simpa using hk)]
  simp
end Go.Ix
