import Derived.Test.YtdfahbenacjgeaaFxConst
import Derived.ProofKit
namespace Go.Ix
open Go.Proofs
variable{call:qI}{R:Type}{c:FCtx}{E:Nat->Fs->Option R}{T:Fs->Option R}
def nav:Code->List Bool->Code
 |c,[]=>c
 | .seq a _,false::p=>nav a p
 | .seq _ b,true::p=>nav b p
 | .block _ b,_::p=>nav b p
 | .loop b,_::p=>nav b p
 | .cond _ a _,false::p=>nav a p
 | .cond _ _ b,true::p=>nav b p
 | .rangeFunc _ _ a _,false::p=>nav a p
 | .rangeFunc _ _ _ b,true::p=>nav b p
 |c,_=>c
noncomputable def qX(f:FuncId):Code:=match Try.prog.funcs[f]? with
 |some fn=>fn.body.getD .skip
 |none=>.skip
theorem E5(c:Code):nav c []=c:=by cases c<;>rfl
noncomputable def nL(c:Code):Code:=nav c [false]
noncomputable def nR(c:Code):Code:=nav c [true]
noncomputable def nRs:Nat->Code->Code
 |0,c=>c
 |n+1,c=>nRs n (nR c)
noncomputable def isSeq:Code->Bool
 | .seq _ _=>true
 |_=>false
noncomputable def isCh:Nat->Code->Bool
 |0,_=>true
 |n+1,.seq _ b=>isCh n b
 |_+1,_=>false
noncomputable def isBk(id:Nat):Code->Bool
 | .block i _=>Nat.beq i id
 |_=>false
noncomputable def isLp:Code->Bool
 | .loop _=>true
 |_=>false
noncomputable def XK(call:qI)(c:FCtx)(T:Fs->Option R)(X:Code)(K:Fs->Option R)(E:Nat->Fs->Option R):Fs->Option R:=fxK Try.prog pol NN call X R c K E T
noncomputable def XKs(call:qI)(c:FCtx)(T:Fs->Option R):Nat->Code->(Fs->Option R)->(Nat->Fs->Option R)->Fs->Option R
 |0,_,Y,_=>Y
 |n+1,X,Y,E=>XK call c T (nL X) (XKs call c T n (nR X) Y E) E
variable{K Y A B:Fs->Option R}{C:Code}
theorem sq2(hb:XK call c T (nR C) K E=Y)(ha:XK call c T (nL C) Y E=A)(h:isSeq C=true:=by kernel_rfl):XK call c T C K E=A:=by
 cases C with
 |seq a b=>simp only[nL,nR,nav,E5]at ha hb;subst hb;exact ha
 |_=>cases h
theorem sqN':∀(n:Nat) {C:Code},isCh n C=true->XK call c T (nRs n C) K E=Y->XK call c T C K E=XKs call c T n C Y E
 |0,C,_,h=>h
 |n+1,C,hc,h=>by
  cases C with
  |seq a b=>have e:nR (.seq a b)=b:=(by simp only[nR,nav,E5]);have e2:nL (.seq a b)=a:=(by simp only[nL,nav,E5]);simp only[nRs,e]at h;have ih:=sqN' n (C:=b) hc h;simp only[XKs,e,e2];rw[<-ih];rfl
  |_=>cases hc
theorem sqN(n:Nat)(h:XK call c T (nRs n C) K E=Y)(hc:isCh n C=true:=by kernel_rfl):XK call c T C K E=XKs call c T n C Y E:=sqN' n hc h
theorem tr{α:Sort _}{a b c:α}(h:a=b)(h2:b=c:=by kernel_rfl):a=c:=h.trans h2
theorem bk(id:Nat)(ha:XK call c T (nR C) K (setE id K E)=A)(h:isBk id C=true:=by kernel_rfl):XK call c T C K E=A:=by
 cases C with
 |block i b=>simp only[nR,nav,E5]at ha;have:i=id:=xcb h;subst this;exact ha
 |_=>cases h
theorem iter_at{F:(Fs->Option R)->Fs->Option R}{Ln:Nat->Fs->Option R}(h0:Ln 0=λ_=>none)(hs:∀n,F (Ln n)=Ln (n+1)):∀n,z5 F n=Ln n
 |0=>h0.symm
 |n+1=>by rw[<-hs n,<-iter_at h0 hs n];rfl
theorem kq(Y:Fs->Option R)(h:XK call c T C K E=Y:=by kernel_rfl):XK call c T C K E=Y:=h
theorem tq(Y:Fs->Option R){X:Fs->Option R}(h:XK call c T C K E=X)(h2:X=Y:=by kernel_rfl):XK call c T C K E=Y:=h.trans h2
theorem lq{F:Type}(L:Nat->F)(p:F->Fs->Option R){J:F->Fs->Option R}(hs:∀r,XK call c T (nR C) (p r) E=J r)(hn:∀n,J (L n)=p (L (n+1)):=by intro n;kernel_rfl)(h:isLp C=true:=by kernel_rfl)(h0:p (L 0)=λ_=>none:=by rfl):XK call c T C K E=p (L NN):=by
 cases C with
 |loop b=>simp only[nR,nav,E5]at hs;exact iter_at (F:=λrec=>XK call c T b rec E) (Ln:=λn=>p (L n)) h0 (λn=>(hs (L n)).trans (hn n)) NN
 |_=>cases h
theorem rg(f:Operand)(ps:Array Tmp){M H:Nat->Fs->Option Mem}(hb:∀u:Nat,XK call {c with u:=u} tK (nR C) (λs2=>some s2.m) qP=M u)(ha:∀u:Nat,XK call {c with u:=u} tK (nL C) (M u) qP=H u)(h:C=.rangeFunc f ps (nL C) (nR C):=by kernel_rfl)(hl:vO [] (nR C)=false:=by kernel_rfl) :
 XK call c T C K E=λs=>d4 (ev s.sl f) λg caps=>
  (call (((c.u,s.fc,0),yS c.nt ps.size H ps.toList s.sl)::c.hs) g (.yld (c.u,s.fc,0)::caps) s.m).bind λp=>K {s with m:=p.2,fc:=s.fc+1}:=by
 generalize nL C=a at *
 generalize nR C=b at *
 subst h;have e:(λu=>fxK Try.prog pol NN call a Mem {c with u:=u} (fxK Try.prog pol NN call b Mem {c with u:=u} (λs2=>some s2.m) qP tK) qP tK)=H:=funext λu=>by rw[<-ha u,<-hb u];rfl
 subst e;funext s;show d4 (ev s.sl f) (λg caps=>bif vO [] b then _ else _)=_;rw[hl];rfl
noncomputable abbrev VX(n:FuncId)(nt:Nat)(r:Fs->Option R)(call:qI)(hs:FHs)(u:Nat):=XK call {f:=n,u:=u,nt:=nt,hs:=hs} r
def look(D:FnT)(f:FuncId):List (FuncId×FnT)->FnT
 |[]=>D
 |(n,F)::r=>bif Nat.beq f n then F else look D f r
abbrev FL(n:FuncId)(F:FnT):Prop:=∀(call:qI) (hs:FHs) (args:List AV) (m:Mem) (x:AV×Mem),F call hs args m=some x->yT Try.prog pol NN call hs n args m=some x
noncomputable def okF(fn:Func)(nt:Nat)(k:Nat):Bool:=(fn.name != "runtime.NumGoroutine")&&decide (fn.ntmps=nt)&&Nat.ble k nt
theorem E6{n:FuncId}{fn:Func}{body:Code}{nt:Nat}{rs:List ResultVar}{hs:FHs}{args:List AV}{m:Mem}(h0:pol n tD=0)(h1:Try.prog.funcs[n]?=some fn)(h2:fn.body=some body)(h3:okF fn nt args.length=true)(h4:fn.results.toList=rs) :
 yT Try.prog pol NN call hs n args m=XK call {f:=n,u:=m.next,nt:=nt,hs:=hs} (sC Try.prog rs) body (sC Try.prog rs) qP {sl:=vF args,m:=⟨m.hp,m.next+1⟩,fc:=0}:=by
 subst h4;unfold okF at h3;simp only[xc6,xer]at h3;obtain⟨⟨a,rfl⟩,b⟩:=h3;unfold yT XK;have hb:Nat.beq (pol n tD) 0=true:=(by rw[h0];rfl);rw[hb,cond_true];simp only[h1,h2];rw[xc2 ⟨by simpa using a,xdh b⟩]
variable{P:Program}{pol:Pol}{N:Nat}
def Told(P:Program)(pol:Pol)(N:Nat):List (FuncId×FnT)->Prop
 |[]=>True
 |(n,F)::r=>(∀(call:qI) (hs:FHs) (args:List AV) (m:Mem) (x:AV×Mem),F call hs args m=some x->yT P pol N call hs n args m=some x)/\Told P pol N r
theorem x6e{D:FnT}{f:FuncId}(hD:∀(call:qI) (hs:FHs) (args:List AV) (m:Mem) (x:AV×Mem),D call hs args m=some x->yT P pol N call hs f args m=some x):∀{l:List (FuncId×FnT)},Told P pol N l->∀{call:qI} {hs:FHs} {args:List AV} {m:Mem} {x:AV×Mem},look D f l call hs args m=some x->yT P pol N call hs f args m=some x
 |[],_,_,_,_,_,_,h=>hD _ _ _ _ _ h
 |(n,F)::r,ht,_,_,_,_,_,h=>by
  simp only[look]at h;by_cases hn:f=n
  .subst hn;rw[show Nat.beq f f=true from by simp]at h;exact ht.1 _ _ _ _ _ h
  .rw[show Nat.beq f n=false from by rw[xcz];intro e;exact hn (xcb e)]at h;exact x6e hD ht.2 h
end Go.Ix
