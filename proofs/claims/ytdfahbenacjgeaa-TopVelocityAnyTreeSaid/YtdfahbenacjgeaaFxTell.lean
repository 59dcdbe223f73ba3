import Derived.Test.YtdfahbenacjgeaaFxTop
namespace Go.Ix
open Go.Proofs
theorem pol_no:∀f,pol f tD=0:=by intro f;unfold pol;split<;>rfl
theorem told_no:o5 Try.prog pol:=λ_ _ _ f _ _ _ _ h=>absurd (pol_no f) h
theorem known_no(w:World):n7 Try.prog w:=by have h1:Try.prog.funcs.any (·.name == "strconv.Itoa")=false:=(by kernel_rfl);have h2:Try.prog.funcs.any (·.name == "strconv.Atoi")=false:=(by kernel_rfl);exact⟨λh=>(by rw[h1]at h;cases h),λh=>(by rw[h2]at h;cases h)⟩
theorem calls_of_E{d:Nat}{f:FuncId}{args:List AV}{vs:Array Value}{w:World}{x:Value}{m':Mem}(h:qG d [] f args mem0=some (.sc x,m'))(hl:vs.size=args.length)(hV:∀(i:Nat) (a:AV) (v:Value),args[i]?=some a->vs[i]?=some v->V (λb=>b<w.heap.size) w eta0 [] a v)(hb:J9 Try.prog f=true:=by kernel_rfl) :
 Calls Try.prog f vs w λe w'=>e=.returned x/\Ext (λ_=>True) w w':=x9h told_no h hl (λw' _=>known_no w') hV hb
end Go.Ix
