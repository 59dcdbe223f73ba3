import Derived.Test.YtjngclcijnpooaaGreatDoorFxSound2
import Derived.Test.YtjngclcijnpooaaGreatDoorFxLe
import Derived.Test.YtjngclcijnpooaaGreatDoorIxD
set_option linter.all false
open Go.Proofs.Tryz
namespace Go.Ix
open Go.Proofs
def xi4:∀d,xN prog pol (aG d)
 |0=>λ_ _ _ _ _ _ _ _ _ h=>by simp[aG]at h
 |d+1=>λ_ _ _ _ _ _ _ a b h=>x4z (xi4 d) a b (xf2 (λ_ _ _ _ _ h=>h) xpp h)
def du(P:Program)(f:FuncId):Bool:=match P.funcs[f]? with
 |some fn=>!fn.body.isNone&&!(fn.name == "runtime.NumGoroutine")
 |none=>false
def GA{P:Program}{f:FuncId}(h:du P f=true):kR P f:=by
 unfold du at h;split at h
 .rename_i fn e;simp only[cK,tf,beq_eq_false_iff_ne,ne_eq]at h;exact⟨fn,e,h.1,h.2⟩
 .cases h
def calls_of_T(l:G1 prog pol){d:Nat}{f:FuncId}{g:List AV}{vs:Array Value}{w:World}{x:Value}{m:Mem}(h:aG d [] f g mem0=some (.sc x,m))(o:vs.size=g.length)(p:∀j,Ext (λb=>b<w.heap.size) w j->xM prog j)(r:∀(i:Nat) (a:AV) (v:Value),g[i]?=some a->vs[i]?=some v->V (λb=>b<w.heap.size) w eta0 [] a v)(t:du prog f=true:=by kernel_rfl) :
    Calls prog f vs w λe j=>e=.returned x/\Ext (λ_=>True) w j:=by
 obtain⟨n,u⟩:=xi4 d _ iy _ _ _ _ _ Mono.nil Under.nil h;exact x60 (by rfl) l p (GA t) u o r
end Go.Ix
