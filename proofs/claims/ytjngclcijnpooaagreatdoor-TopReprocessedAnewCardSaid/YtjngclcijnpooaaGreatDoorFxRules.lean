import Derived.Test.YtjngclcijnpooaaGreatDoorFxConst
import Derived.ProofKit
set_option linter.all false
open Go.Proofs.Tryz
noncomputable section
namespace Go.Ix
open Go.Proofs
variable{call:aJ}{R:Type}{c:FCtx}{E:Nat->Fs->Option R}{T:Fs->Option R}
def mC:Code->List Bool->Code
 |c,[]=>c
 | .seq a _,false::p=>mC a p
 | .seq _ b,true::p=>mC b p
 | .block _ b,_::p=>mC b p
 | .loop b,_::p=>mC b p
 | .cond _ a _,false::p=>mC a p
 | .cond _ _ b,true::p=>mC b p
 | .rangeFunc _ _ a _,false::p=>mC a p
 | .rangeFunc _ _ _ b,true::p=>mC b p
 |c,_=>c
def x79(f:FuncId):Code:=match prog.funcs[f]? with
 |some fn=>fn.body.getD .skip
 |none=>.skip
def N0(c:Code):mC c []=c:=by cases c<;>rfl
def nL(c:Code):Code:=mC c [false]
def nR(c:Code):Code:=mC c [true]
def JW:Nat->Code->Code
 |0,c=>c
 |n+1,c=>JW n (nR c)
def xz1:Code->Bool
 | .seq _ _=>true
 |_=>false
def ak:Nat->Code->Bool
 |0,_=>true
 |n+1,.seq _ b=>ak n b
 |_+1,_=>false
def xz4(id:Nat):Code->Bool
 | .block i _=>Nat.beq i id
 |_=>false
def xz3:Code->Bool
 | .cond _ _ _=>true
 |_=>false
def cdX:Code->Operand
 | .cond x _ _=>x
 |_=>.tmp 0
def xz2:Code->Bool
 | .loop _=>true
 |_=>false
def XK(a:aJ)(c:FCtx)(T:Fs->Option R)(X:Code)(K:Fs->Option R)(E:Nat->Fs->Option R):Fs->Option R:=fT prog pol NN a X R c K E T
def LP(a:aJ)(c:FCtx)(T:Fs->Option R):Nat->Code->(Fs->Option R)->(Nat->Fs->Option R)->Fs->Option R
 |0,_,Y,_=>Y
 |n+1,X,Y,E=>XK a c T (nL X) (LP a c T n (nR X) Y E) E
variable{K Y A B:Fs->Option R}{C:Code}
def cD(d:XK call c T (nR C) K E=Y)(e:XK call c T (nL C) Y E=A)(h:xz1 C=true:=by kernel_rfl):XK call c T C K E=A:=by
 cases C with
 |seq a b=>simp only[nL,nR,mC,N0]at e d;subst d;exact e
 |_=>cases h
def xah:∀(n:Nat) {C:Code},ak n C=true->XK call c T (JW n C) K E=Y->XK call c T C K E=LP call c T n C Y E
 |0,C,_,h=>h
 |n+1,C,d,h=>by
  cases C with
  |seq a b=>have e:nR (.seq a b)=b:=(by simp only[nR,mC,N0]);have f:nL (.seq a b)=a:=(by simp only[nL,mC,N0]);simp only[JW,e]at h;have g:=xah n (C:=b) d h;simp only[LP,e,f];rw[<-g];rfl
  |_=>cases d
def aZ(n:Nat)(h:XK call c T (JW n C) K E=Y)(a:ak n C=true:=by kernel_rfl):XK call c T C K E=LP call c T n C Y E:=xah n a h
def tr{α:Sort _}{a b c:α}(h:a=b)(d:b=c:=by kernel_rfl):a=c:=h.trans d
def bk(id:Nat)(a:XK call c T (nR C) K (xat id K E)=A)(h:xz4 id C=true:=by kernel_rfl):XK call c T C K E=A:=by
 cases C with
 |block i b=>simp only[nR,mC,N0]at a;have:i=id:=fE h;subst this;exact a
 |_=>cases h
def cd(d:XK call c T (nL C) K E=A)(e:XK call c T (nR C) K E=B)(h:xz3 C=true:=by kernel_rfl):XK call c T C K E=λs=>aK (ev s.sl (cdX C)) (A s) (B s):=by
 cases C with
 |cond y a b=>simp only[nL,nR,mC,N0]at d e;subst d e;rfl
 |_=>cases h
def xea{F:(Fs->Option R)->Fs->Option R}{Ln:Nat->Fs->Option R}(a:Ln 0=λ_=>none)(Z:∀n,F (Ln n)=Ln (n+1)):∀n,T6 F n=Ln n
 |0=>a.symm
 |n+1=>by rw[<-Z n,<-xea a Z n];rfl
def kq(Y:Fs->Option R)(h:XK call c T C K E=Y:=by kernel_rfl):XK call c T C K E=Y:=h
def tq(Y:Fs->Option R){X:Fs->Option R}(h:XK call c T C K E=X)(a:X=Y:=by kernel_rfl):XK call c T C K E=Y:=h.trans a
def lq{F:Type}(L:Nat->F)(p:F->Fs->Option R){J:F->Fs->Option R}(Z:∀r,XK call c T (nR C) (p r) E=J r)(a:∀n,J (L n)=p (L (n+1)):=by intro n;kernel_rfl)(h:xz2 C=true:=by kernel_rfl)(d:p (L 0)=λ_=>none:=by rfl):XK call c T C K E=p (L NN):=by
 cases C with
 |loop b=>simp only[nR,mC,N0]at Z;exact xea (F:=λrec=>XK call c T b rec E) (Ln:=λn=>p (L n)) d (λn=>(Z (L n)).trans (a n)) NN
 |_=>cases h
def rg(f:Operand)(i:Array Tmp){M H:Nat->Fs->Option Mem}(l:∀u:Nat,XK call {c with u:=u} jY (nR C) (λj=>some j.m) iV=M u)(n:∀u:Nat,XK call {c with u:=u} jY (nL C) (M u) iV=H u)(h:C=.rangeFunc f i (nL C) (nR C):=by kernel_rfl)(o:oB [] (nR C)=false:=by kernel_rfl) :
    XK call c T C K E=λs=>tV (ev s.sl f) λg d=>
     (call (((c.u,s.fc,0),vN c.nt i.size H i.toList s.sl)::c.hs) g (.yld (c.u,s.fc,0)::d) s.m).bind λp=>K {s with m:=p.2,fc:=s.fc+1}:=by
 generalize nL C=a at *
 generalize nR C=b at *
 subst h;have e:(λu=>fT prog pol NN call a Mem {c with u:=u} (fT prog pol NN call b Mem {c with u:=u} (λj=>some j.m) iV jY) iV jY)=H:=funext λu=>by rw[<-n u,<-l u];rfl
 subst e;funext s;show tV (ev s.sl f) (λg d=>bif oB [] b then _ else _)=_;rw[o];rfl
abbrev VX(n:FuncId)(b:Nat)(r:Fs->Option R)(a:aJ)(Z:FHs)(u:Nat):=XK a {f:=n,u:=u,nt:=b,hs:=Z} r
def EH(D:aS)(f:FuncId):List (FuncId×aS)->aS
 |[]=>D
 |(n,F)::r=>bif Nat.beq f n then F else EH D f r
abbrev FL(n:FuncId)(F:aS):Prop:=∀(a:aJ) (Z:FHs) (b:List AV) (m:Mem) (x:AV×Mem),F a Z b m=some x->wN prog pol NN a Z n b m=some x
def y9(fn:Func)(a:Nat)(k:Nat):Bool:=(fn.name != "runtime.NumGoroutine")&&decide (fn.ntmps=a)&&Nat.ble k a
def ES{n:FuncId}{fn:Func}{d:Code}{e:Nat}{g:List ResultVar}{Z:FHs}{args:List AV}{m:Mem}(i:pol n iP=0)(j:prog.funcs[n]?=some fn)(l:fn.body=some d)(h:y9 fn e args.length=true)(o:fn.results.toList=g) :
    wN prog pol NN call Z n args m=XK call {f:=n,u:=m.next,nt:=e,hs:=Z} (fS prog g) d (fS prog g) iV {sl:=nJ args,m:=⟨m.hp,m.next+1⟩,fc:=0}:=by
 subst o;unfold y9 at h;simp only[cI,mR]at h;obtain⟨⟨a,rfl⟩,b⟩:=h;unfold wN XK;have p:Nat.beq (pol n iP) 0=true:=(by rw[i];rfl);rw[p,cond_true];simp only[j,l];rw[aF ⟨by simpa using a,rK b⟩]
variable{P:Program}{pol:Pol}{N:Nat}
def ea(P:Program)(pol:Pol)(N:Nat):List (FuncId×aS)->Prop
 |[]=>True
 |(n,F)::r=>(∀(a:aJ) (Z:FHs) (b:List AV) (m:Mem) (x:AV×Mem),F a Z b m=some x->wN P pol N a Z n b m=some x)/\ea P pol N r
def xdk{D:aS}{f:FuncId}(d:∀(a:aJ) (Z:FHs) (b:List AV) (m:Mem) (x:AV×Mem),D a Z b m=some x->wN P pol N a Z f b m=some x):∀{l:List (FuncId×aS)},ea P pol N l->∀{a:aJ} {Z:FHs} {b:List AV} {m:Mem} {x:AV×Mem},EH D f l a Z b m=some x->wN P pol N a Z f b m=some x
 |[],_,_,_,_,_,_,h=>d _ _ _ _ _ h
 |(n,F)::r,i,_,_,_,_,_,h=>by
  simp only[EH]at h;by_cases g:f=n
  .subst g;rw[show Nat.beq f f=true from by simp]at h;exact i.1 _ _ _ _ _ h
  .rw[show Nat.beq f n=false from by rw[kI];intro e;exact g (fE e)]at h;exact xdk d i.2 h
end Go.Ix
