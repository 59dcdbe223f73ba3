import Derived.Test.YtjngclcijnpooaaGreatDoorFxConst
import Derived.ProofKit
set_option linter.all false
open Go.Proofs.Tryz
noncomputable section
namespace Go.Ix
open Go.Proofs
variable{call:aK}{R:Type}{c:FCtx}{E:Nat->Fs->Option R}{T:Fs->Option R}
def mD:Code->List Bool->Code
 |c,[]=>c
 | .seq a _,false::p=>mD a p
 | .seq _ b,true::p=>mD b p
 | .block _ b,_::p=>mD b p
 | .loop b,_::p=>mD b p
 | .cond _ a _,false::p=>mD a p
 | .cond _ _ b,true::p=>mD b p
 | .rangeFunc _ _ a _,false::p=>mD a p
 | .rangeFunc _ _ _ b,true::p=>mD b p
 |c,_=>c
def ybw(f:FuncId):Code:=match prog.funcs[f]? with
 |some fn=>fn.body.getD .skip
 |none=>.skip
def N7(c:Code):mD c []=c:=by cases c<;>rfl
def nL(c:Code):Code:=mD c [false]
def nR(c:Code):Code:=mD c [true]
def LP:Nat->Code->Code
 |0,c=>c
 |n+1,c=>LP n (nR c)
def x3j:Code->Bool
 | .seq _ _=>true
 |_=>false
def dm:Nat->Code->Bool
 |0,_=>true
 |n+1,.seq _ b=>dm n b
 |_+1,_=>false
def x3m(id:Nat):Code->Bool
 | .block i _=>Nat.beq i id
 |_=>false
def x3l:Code->Bool
 | .cond _ _ _=>true
 |_=>false
def cdX:Code->Operand
 | .cond x _ _=>x
 |_=>.tmp 0
def x3k:Code->Bool
 | .loop _=>true
 |_=>false
def XK(a:aK)(c:FCtx)(T:Fs->Option R)(X:Code)(K:Fs->Option R)(E:Nat->Fs->Option R):Fs->Option R:=fR prog pol NN a X R c K E T
def NH(a:aK)(c:FCtx)(T:Fs->Option R):Nat->Code->(Fs->Option R)->(Nat->Fs->Option R)->Fs->Option R
 |0,_,Y,_=>Y
 |n+1,X,Y,E=>XK a c T (nL X) (NH a c T n (nR X) Y E) E
variable{K Y A B:Fs->Option R}{C:Code}
def bX(d:XK call c T (nR C) K E=Y)(e:XK call c T (nL C) Y E=A)(h:x3j C=true:=by kernel_rfl):XK call c T C K E=A:=by
 cases C with
 |seq a b=>simp only[nL,nR,mD,N7]at e d;subst d;exact e
 |_=>cases h
def xcu:∀(n:Nat) {C:Code},dm n C=true->XK call c T (LP n C) K E=Y->XK call c T C K E=NH call c T n C Y E
 |0,C,_,h=>h
 |n+1,C,d,h=>by
  cases C with
  |seq a b=>have e:nR (.seq a b)=b:=(by simp only[nR,mD,N7]);have f:nL (.seq a b)=a:=(by simp only[nL,mD,N7]);simp only[LP,e]at h;have g:=xcu n (C:=b) d h;simp only[NH,e,f];rw[<-g];rfl
  |_=>cases d
def aV(n:Nat)(h:XK call c T (LP n C) K E=Y)(a:dm n C=true:=by kernel_rfl):XK call c T C K E=NH call c T n C Y E:=xcu n a h
def tr{α:Sort _}{a b c:α}(h:a=b)(d:b=c:=by kernel_rfl):a=c:=h.trans d
def bk(id:Nat)(a:XK call c T (nR C) K (xc7 id K E)=A)(h:x3m id C=true:=by kernel_rfl):XK call c T C K E=A:=by
 cases C with
 |block i b=>simp only[nR,mD,N7]at a;have:i=id:=fJ h;subst this;exact a
 |_=>cases h
def cd(d:XK call c T (nL C) K E=A)(e:XK call c T (nR C) K E=B)(h:x3l C=true:=by kernel_rfl):XK call c T C K E=λs=>aL (ev s.sl (cdX C)) (A s) (B s):=by
 cases C with
 |cond y a b=>simp only[nL,nR,mD,N7]at d e;subst d e;rfl
 |_=>cases h
def xgv{F:(Fs->Option R)->Fs->Option R}{Ln:Nat->Fs->Option R}(a:Ln 0=λ_=>none)(Z:∀n,F (Ln n)=Ln (n+1)):∀n,U5 F n=Ln n
 |0=>a.symm
 |n+1=>by rw[<-Z n,<-xgv a Z n];rfl
def kq(Y:Fs->Option R)(h:XK call c T C K E=Y:=by kernel_rfl):XK call c T C K E=Y:=h
def tq(Y:Fs->Option R){X:Fs->Option R}(h:XK call c T C K E=X)(a:X=Y:=by kernel_rfl):XK call c T C K E=Y:=h.trans a
def lq{F:Type}(L:Nat->F)(p:F->Fs->Option R){J:F->Fs->Option R}(Z:∀r,XK call c T (nR C) (p r) E=J r)(a:∀n,J (L n)=p (L (n+1)):=by intro n;kernel_rfl)(h:x3k C=true:=by kernel_rfl)(d:p (L 0)=λ_=>none:=by rfl):XK call c T C K E=p (L NN):=by
 cases C with
 |loop b=>simp only[nR,mD,N7]at Z;exact xgv (F:=λrec=>XK call c T b rec E) (Ln:=λn=>p (L n)) d (λn=>(Z (L n)).trans (a n)) NN
 |_=>cases h
def rg(f:Operand)(i:Array Tmp){M H:Nat->Fs->Option Mem}(l:∀u:Nat,XK call {c with u:=u} kE (nR C) (λj=>some j.m) jA=M u)(n:∀u:Nat,XK call {c with u:=u} kE (nL C) (M u) jA=H u)(h:C=.rangeFunc f i (nL C) (nR C):=by kernel_rfl)(o:oQ [] (nR C)=false:=by kernel_rfl) :
    XK call c T C K E=λs=>rD (ev s.sl f) λg d=>
     (call (((c.u,s.fc,0),vX c.nt i.size H i.toList s.sl)::c.hs) g (.yld (c.u,s.fc,0)::d) s.m).bind λp=>K {s with m:=p.2,fc:=s.fc+1}:=by
 generalize nL C=a at *
 generalize nR C=b at *
 subst h;have e:(λu=>fR prog pol NN call a Mem {c with u:=u} (fR prog pol NN call b Mem {c with u:=u} (λj=>some j.m) jA kE) jA kE)=H:=funext λu=>by rw[<-n u,<-l u];rfl
 subst e;funext s;show rD (ev s.sl f) (λg d=>bif oQ [] b then _ else _)=_;rw[o];rfl
abbrev VX(n:FuncId)(b:Nat)(r:Fs->Option R)(a:aK)(Z:FHs)(u:Nat):=XK a {f:=n,u:=u,nt:=b,hs:=Z} r
def FR(D:aU)(f:FuncId):List (FuncId×aU)->aU
 |[]=>D
 |(n,F)::r=>bif Nat.beq f n then F else FR D f r
abbrev FL(n:FuncId)(F:aU):Prop:=∀(a:aK) (Z:FHs) (b:List AV) (m:Mem) (x:AV×Mem),F a Z b m=some x->wY prog pol NN a Z n b m=some x
def A7(fn:Func)(a:Nat)(k:Nat):Bool:=(fn.name != "runtime.NumGoroutine")&&decide (fn.ntmps=a)&&Nat.ble k a
def GD{n:FuncId}{fn:Func}{d:Code}{e:Nat}{g:List ResultVar}{Z:FHs}{args:List AV}{m:Mem}(i:pol n iV=0)(j:prog.funcs[n]?=some fn)(l:fn.body=some d)(h:A7 fn e args.length=true)(o:fn.results.toList=g) :
    wY prog pol NN call Z n args m=XK call {f:=n,u:=m.next,nt:=e,hs:=Z} (gF prog g) d (gF prog g) jA {sl:=nU args,m:=⟨m.hp,m.next+1⟩,fc:=0}:=by
 subst o;unfold A7 at h;simp only[cK,lF]at h;obtain⟨⟨a,rfl⟩,b⟩:=h;unfold wY XK;have p:Nat.beq (pol n iV) 0=true:=(by rw[i];rfl);rw[p,cond_true];simp only[j,l];rw[aH ⟨by simpa using a,rZ b⟩]
variable{P:Program}{pol:Pol}{N:Nat}
def iv(P:Program)(pol:Pol)(N:Nat):List (FuncId×aU)->Prop
 |[]=>True
 |(n,F)::r=>(∀(a:aK) (Z:FHs) (b:List AV) (m:Mem) (x:AV×Mem),F a Z b m=some x->wY P pol N a Z n b m=some x)/\iv P pol N r
def xf2{D:aU}{f:FuncId}(d:∀(a:aK) (Z:FHs) (b:List AV) (m:Mem) (x:AV×Mem),D a Z b m=some x->wY P pol N a Z f b m=some x):∀{l:List (FuncId×aU)},iv P pol N l->∀{a:aK} {Z:FHs} {b:List AV} {m:Mem} {x:AV×Mem},FR D f l a Z b m=some x->wY P pol N a Z f b m=some x
 |[],_,_,_,_,_,_,h=>d _ _ _ _ _ h
 |(n,F)::r,i,_,_,_,_,_,h=>by
  simp only[FR]at h;by_cases g:f=n
  .subst g;rw[show Nat.beq f f=true from by simp]at h;exact i.1 _ _ _ _ _ h
  .rw[show Nat.beq f n=false from by rw[kU];intro e;exact g (fJ e)]at h;exact xf2 d i.2 h
end Go.Ix
