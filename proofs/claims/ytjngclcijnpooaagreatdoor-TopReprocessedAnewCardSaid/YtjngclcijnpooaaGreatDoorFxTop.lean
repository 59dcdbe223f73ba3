import Derived.Test.YtjngclcijnpooaaGreatDoorFxSound2
import Derived.Test.YtjngclcijnpooaaGreatDoorFxLe
import Derived.Test.YtjngclcijnpooaaGreatDoorIxD
set_option linter.all false
open Go.Proofs.Tryz
namespace Go.Ix
open Go.Proofs
def xgm:∀d,xE prog pol (aH d)
 |0=>λ_ _ _ _ _ _ _ _ _ h=>by simp[aH]at h
 |d+1=>λ_ _ _ _ _ _ _ a b h=>x1i (xgm d) a b (xdk (λ_ _ _ _ _ h=>h) xms h)
def av(P:Program)(f:FuncId):Bool:=match P.funcs[f]? with
 |some fn=>!fn.body.isNone&&!(fn.name == "runtime.NumGoroutine")
 |none=>false
def EP{P:Program}{f:FuncId}(h:av P f=true):kG P f:=by
 unfold av at h;split at h
 .rename_i fn e;simp only[cI,pq,beq_eq_false_iff_ne,ne_eq]at h;exact⟨fn,e,h.1,h.2⟩
 .cases h
def calls_of_T(l:G1 prog pol){d:Nat}{f:FuncId}{g:List AV}{vs:Array Value}{w:World}{x:Value}{m:Mem}(h:aH d [] f g mem0=some (.sc x,m))(o:vs.size=g.length)(p:∀j,Ext (λb=>b<w.heap.size) w j->xD prog j)(r:∀(i:Nat) (a:AV) (v:Value),g[i]?=some a->vs[i]?=some v->V (λb=>b<w.heap.size) w eta0 [] a v)(t:av prog f=true:=by kernel_rfl) :
    Calls prog f vs w λe j=>e=.returned x/\Ext (λ_=>True) w j:=by
 obtain⟨n,u⟩:=xgm d _ ee _ _ _ _ _ Mono.nil Under.nil h;exact x3k (by rfl) l p (EP t) u o r
end Go.Ix
