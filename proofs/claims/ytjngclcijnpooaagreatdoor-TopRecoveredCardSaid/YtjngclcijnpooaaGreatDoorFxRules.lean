import Derived.Test.YtjngclcijnpooaaGreatDoorFxConst
import Derived.ProofKit
set_option linter.all false
open Go.Proofs.Tryz
noncomputable section
namespace Go.Ix
open Go.Proofs
variable{call:aJ}{R:Type}{c:FCtx}{E:Nat->Fs->Option R}{T:Fs->Option R}
def mL:Code->List Bool->Code
 |c,[]=>c
 | .seq a _,false::p=>mL a p
 | .seq _ b,true::p=>mL b p
 | .block _ b,_::p=>mL b p
 | .loop b,_::p=>mL b p
 | .cond _ a _,false::p=>mL a p
 | .cond _ _ b,true::p=>mL b p
 | .rangeFunc _ _ a _,false::p=>mL a p
 | .rangeFunc _ _ _ b,true::p=>mL b p
 |c,_=>c
def ydl(f:FuncId):Code:=match prog.funcs[f]? with
 |some fn=>fn.body.getD .skip
 |none=>.skip
def O5(c:Code):mL c []=c:=by cases c<;>rfl
def nL(c:Code):Code:=mL c [false]
def nR(c:Code):Code:=mL c [true]
def MC:Nat->Code->Code
 |0,c=>c
 |n+1,c=>MC n (nR c)
def x4o:Code->Bool
 | .seq _ _=>true
 |_=>false
def dq:Nat->Code->Bool
 |0,_=>true
 |n+1,.seq _ b=>dq n b
 |_+1,_=>false
def x4r(id:Nat):Code->Bool
 | .block i _=>Nat.beq i id
 |_=>false
def x4q:Code->Bool
 | .cond _ _ _=>true
 |_=>false
def cdX:Code->Operand
 | .cond x _ _=>x
 |_=>.tmp 0
def x4p:Code->Bool
 | .loop _=>true
 |_=>false
def XK(a:aJ)(c:FCtx)(T:Fs->Option R)(X:Code)(K:Fs->Option R)(E:Nat->Fs->Option R):Fs->Option R:=fG prog pol NN a X R c K E T
def NQ(a:aJ)(c:FCtx)(T:Fs->Option R):Nat->Code->(Fs->Option R)->(Nat->Fs->Option R)->Fs->Option R
 |0,_,Y,_=>Y
 |n+1,X,Y,E=>XK a c T (nL X) (NQ a c T n (nR X) Y E) E
variable{K Y A B:Fs->Option R}{C:Code}
def bZ(d:XK call c T (nR C) K E=Y)(e:XK call c T (nL C) Y E=A)(h:x4o C=true:=by kernel_rfl):XK call c T C K E=A:=by
 cases C with
 |seq a b=>simp only[nL,nR,mL,O5]at e d;subst d;exact e
 |_=>cases h
def xc0:∀(n:Nat) {C:Code},dq n C=true->XK call c T (MC n C) K E=Y->XK call c T C K E=NQ call c T n C Y E
 |0,C,_,h=>h
 |n+1,C,d,h=>by
  cases C with
  |seq a b=>have e:nR (.seq a b)=b:=(by simp only[nR,mL,O5]);have f:nL (.seq a b)=a:=(by simp only[nL,mL,O5]);simp only[MC,e]at h;have g:=xc0 n (C:=b) d h;simp only[NQ,e,f];rw[<-g];rfl
  |_=>cases d
def aY(n:Nat)(h:XK call c T (MC n C) K E=Y)(a:dq n C=true:=by kernel_rfl):XK call c T C K E=NQ call c T n C Y E:=xc0 n a h
def tr{α:Sort _}{a b c:α}(h:a=b)(d:b=c:=by kernel_rfl):a=c:=h.trans d
def bk(id:Nat)(a:XK call c T (nR C) K (xdc id K E)=A)(h:x4r id C=true:=by kernel_rfl):XK call c T C K E=A:=by
 cases C with
 |block i b=>simp only[nR,mL,O5]at a;have:i=id:=gD h;subst this;exact a
 |_=>cases h
def cd(d:XK call c T (nL C) K E=A)(e:XK call c T (nR C) K E=B)(h:x4q C=true:=by kernel_rfl):XK call c T C K E=λs=>aK (ev s.sl (cdX C)) (A s) (B s):=by
 cases C with
 |cond y a b=>simp only[nL,nR,mL,O5]at d e;subst d e;rfl
 |_=>cases h
def xha{F:(Fs->Option R)->Fs->Option R}{Ln:Nat->Fs->Option R}(a:Ln 0=λ_=>none)(Z:∀n,F (Ln n)=Ln (n+1)):∀n,V3 F n=Ln n
 |0=>a.symm
 |n+1=>by rw[<-Z n,<-xha a Z n];rfl
def kq(Y:Fs->Option R)(h:XK call c T C K E=Y:=by kernel_rfl):XK call c T C K E=Y:=h
def tq(Y:Fs->Option R){X:Fs->Option R}(h:XK call c T C K E=X)(a:X=Y:=by kernel_rfl):XK call c T C K E=Y:=h.trans a
def lq{F:Type}(L:Nat->F)(p:F->Fs->Option R){J:F->Fs->Option R}(Z:∀r,XK call c T (nR C) (p r) E=J r)(a:∀n,J (L n)=p (L (n+1)):=by intro n;kernel_rfl)(h:x4p C=true:=by kernel_rfl)(d:p (L 0)=λ_=>none:=by rfl):XK call c T C K E=p (L NN):=by
 cases C with
 |loop b=>simp only[nR,mL,O5]at Z;exact xha (F:=λrec=>XK call c T b rec E) (Ln:=λn=>p (L n)) d (λn=>(Z (L n)).trans (a n)) NN
 |_=>cases h
def rg(f:Operand)(i:Array Tmp){M H:Nat->Fs->Option Mem}(l:∀u:Nat,XK call {c with u:=u} jQ (nR C) (λj=>some j.m) iN=M u)(n:∀u:Nat,XK call {c with u:=u} jQ (nL C) (M u) iN=H u)(h:C=.rangeFunc f i (nL C) (nR C):=by kernel_rfl)(o:nE [] (nR C)=false:=by kernel_rfl) :
    XK call c T C K E=λs=>oV (ev s.sl f) λg d=>
     (call (((c.u,s.fc,0),uJ c.nt i.size H i.toList s.sl)::c.hs) g (.yld (c.u,s.fc,0)::d) s.m).bind λp=>K {s with m:=p.2,fc:=s.fc+1}:=by
 generalize nL C=a at *
 generalize nR C=b at *
 subst h;have e:(λu=>fG prog pol NN call a Mem {c with u:=u} (fG prog pol NN call b Mem {c with u:=u} (λj=>some j.m) iN jQ) iN jQ)=H:=funext λu=>by rw[<-n u,<-l u];rfl
 subst e;funext s;show oV (ev s.sl f) (λg d=>bif nE [] b then _ else _)=_;rw[o];rfl
def rg2(f:Operand)(o:Array Tmp){M H:Id->Nat->Fs->Option Mem}(r:∀(l:Id) (u:Nat),XK call {c with u:=u} (λd=>lN l .ret d.m) (nR C) (λd=>kX l d.m) (λi d=>lN l (.exit i) d.m)=M l u)(t:∀(l:Id) (u:Nat),XK call {c with u:=u} jQ (nL C) (λn=>(kX l n.m).bind λ_=>M l u n) iN=H l u)(h:C=.rangeFunc f o (nL C) (nR C):=by kernel_rfl)(w:nE [] (nR C)=true:=by kernel_rfl) :
    XK call c T C K E=λs=>oV (ev s.sl f) λg j=>
     (call (((c.u,s.fc,1),uJ c.nt o.size (H (c.u,s.fc,1)) o.toList s.sl)::c.hs) g (.yld (c.u,s.fc,1)::j) (s.m.new (c.u,s.fc,1) (.lp none))).bind λp=>
      N4 (c.u,s.fc,1) p.2 (K {s with m:=p.2,fc:=s.fc+1}) (T {s with m:=p.2,fc:=s.fc+1}) λi=>E i {s with m:=p.2,fc:=s.fc+1}:=by
 generalize nL C=a at *
 generalize nR C=b at *
 subst h;have e:∀l:Id,(λu=>fG prog pol NN call a Mem {c with u:=u} (λn=>(kX l n.m).bind λ_=>fG prog pol NN call b Mem {c with u:=u} (λd=>kX l d.m) (λi d=>lN l (.exit i) d.m) (λd=>lN l .ret d.m) n) iN jQ)=H l:=λl=>funext λu=>by rw[<-t l u,<-r l u];rfl
 funext s;rw[<-e (c.u,s.fc,1)];show oV (ev s.sl f) (λg j=>bif nE [] b then _ else _)=_;rw[w];rfl
abbrev VX(n:FuncId)(b:Nat)(r:Fs->Option R)(a:aJ)(Z:FHs)(u:Nat):=XK a {f:=n,u:=u,nt:=b,hs:=Z} r
def GJ(D:aR)(f:FuncId):List (FuncId×aR)->aR
 |[]=>D
 |(n,F)::r=>bif Nat.beq f n then F else GJ D f r
abbrev FL(n:FuncId)(F:aR):Prop:=∀(a:aJ) (Z:FHs) (b:List AV) (m:Mem) (x:AV×Mem),F a Z b m=some x->wU prog pol NN a Z n b m=some x
def C2(fn:Func)(a:Nat)(k:Nat):Bool:=(fn.name != "runtime.NumGoroutine")&&decide (fn.ntmps=a)&&Nat.ble k a
def GS{n:FuncId}{fn:Func}{d:Code}{e:Nat}{g:List ResultVar}{Z:FHs}{args:List AV}{m:Mem}(i:pol n jD=0)(j:prog.funcs[n]?=some fn)(l:fn.body=some d)(h:C2 fn e args.length=true)(o:fn.results.toList=g) :
    wU prog pol NN call Z n args m=XK call {f:=n,u:=m.next,nt:=e,hs:=Z} (fZ prog g) d (fZ prog g) iN {sl:=oD args,m:=⟨m.hp,m.next+1⟩,fc:=0}:=by
 subst o;unfold C2 at h;simp only[cR,mP]at h;obtain⟨⟨a,rfl⟩,b⟩:=h;unfold wU XK;have p:Nat.beq (pol n jD) 0=true:=(by rw[i];rfl);rw[p,cond_true];simp only[j,l];rw[aF ⟨by simpa using a,xL b⟩]
variable{P:Program}{pol:Pol}{N:Nat}
def ir(P:Program)(pol:Pol)(N:Nat):List (FuncId×aR)->Prop
 |[]=>True
 |(n,F)::r=>(∀(a:aJ) (Z:FHs) (b:List AV) (m:Mem) (x:AV×Mem),F a Z b m=some x->wU P pol N a Z n b m=some x)/\ir P pol N r
def xge{D:aR}{f:FuncId}(d:∀(a:aJ) (Z:FHs) (b:List AV) (m:Mem) (x:AV×Mem),D a Z b m=some x->wU P pol N a Z f b m=some x):∀{l:List (FuncId×aR)},ir P pol N l->∀{a:aJ} {Z:FHs} {b:List AV} {m:Mem} {x:AV×Mem},GJ D f l a Z b m=some x->wU P pol N a Z f b m=some x
 |[],_,_,_,_,_,_,h=>d _ _ _ _ _ h
 |(n,F)::r,i,_,_,_,_,_,h=>by
  simp only[GJ]at h;by_cases g:f=n
  .subst g;rw[show Nat.beq f f=true from by simp]at h;exact i.1 _ _ _ _ _ h
  .rw[show Nat.beq f n=false from by rw[kV];intro e;exact g (gD e)]at h;exact xge d i.2 h
end Go.Ix
