import Derived.Test.YtjngclcijnpooaaGreatDoorFxSound2
import Derived.Test.YtjngclcijnpooaaGreatDoorFxLe
import Derived.Test.YtjngclcijnpooaaGreatDoorIxD
set_option linter.all false
open Go.Proofs.Tryz
namespace Go.Ix
open Go.Proofs
def xjs:∀d,xU prog pol (aG d)
 |0=>λ_ _ _ _ _ _ _ _ _ h=>by simp[aG]at h
 |d+1=>λ_ _ _ _ _ _ _ a b h=>x58 (xjs d) a b (xge (λ_ _ _ _ _ h=>h) xqm h)
def dw(P:Program)(f:FuncId):Bool:=match P.funcs[f]? with
 |some fn=>!fn.body.isNone&&!(fn.name == "runtime.NumGoroutine")
 |none=>false
def G0{P:Program}{f:FuncId}(h:dw P f=true):jG P f:=by
 unfold dw at h;split at h
 .rename_i fn e;simp only[cR,PD,beq_eq_false_iff_ne,ne_eq]at h;exact⟨fn,e,h.1,h.2⟩
 .cases h
def calls_of_T(l:H8 prog pol){d:Nat}{f:FuncId}{g:List AV}{vs:Array Value}{w:World}{x:Value}{m:Mem}(h:aG d [] f g mem0=some (.sc x,m))(o:vs.size=g.length)(p:∀j,Ext (λb=>b<w.heap.size) w j->xT prog j)(r:∀(i:Nat) (a:AV) (v:Value),g[i]?=some a->vs[i]?=some v->V (λb=>b<w.heap.size) w eta0 [] a v)(t:dw prog f=true:=by kernel_rfl) :
    Calls prog f vs w λe j=>e=.returned x/\Ext (λ_=>True) w j:=by
 obtain⟨n,u⟩:=xjs d _ iy _ _ _ _ _ Mono.nil Under.nil h;exact x8a (by rfl) l p (G0 t) u o r
end Go.Ix
