import Derived.Test.YtongoppeakpioaaWg3
set_option linter.unusedSimpArgs false
namespace Go.Ix
open Go.Proofs
abbrev Ints(a:AV)(l:List Int):Prop:=Sl intE a l
def TurnsIn(t:List Int):Prop:=∀x∈t,-1000000<=x/\x<=1000000
theorem TurnsIn.get{t:List Int}(h:TurnsIn t)(k:Nat):-1000000<=at0 t k/\at0 t k<=1000000:=by
 unfold at0
 rw[xhn]
 cases hk:t[k]? with
 |none=>simp
 |some x=>simpa using h x (xh4 hk)
def RetF(T:AV->Prop)(r:O2):Prop:=∃a m' a',r=some (a,m')/\frz m'.get deep a=some a'/\T a'
theorem RetF.st{T:AV->Prop}{a:AV}{m:Mem}(h:still a=true)(ht:T a):RetF T (some (a,m)):=⟨a,m,a,rfl,x9l _ 4 h,ht⟩
theorem RetF.tup{T:AV->Prop}{l:List AV}{m:Mem}(h:l.all still=true)(ht:T (.tup l)):RetF T (some (.tup l,m)):=⟨_,m,_,rfl,frz_tup h,ht⟩
theorem RetF.mk{T:AV->Prop}{a a':AV}{m:Mem}(h:frz m.get deep a=some a')(ht:T a'):RetF T (some (a,m)):=⟨a,m,a',rfl,h,ht⟩
theorem callF{T:AV->Prop}{call:x3p}{f:FuncId}{l:List AV}(hl:l.all still=true)(h:RetF T (call [] f l mem0))(m:Mem):∃a,T a/\x3u call f l m=some (a,m):=by
 obtain⟨a,m',a',h1,h2,h3⟩:=h
 exact⟨a',h3,xdz hl h1 h2⟩
theorem callV{v:AV}{call:x3p}{f:FuncId}{l:List AV}(hl:l.all still=true)(h:RetF (λa=>a=v) (call [] f l mem0))(m:Mem):x3u call f l m=some (v,m):=by
 obtain⟨a,h1,h2⟩:=callF hl h m
 rw[h2,h1]
theorem xe6{objs:Id->Option Ob}{a b c a' b' c':AV}(ha:frz objs 5 a=some a')(hb:frz objs 5 b=some b')(hc:frz objs 5 c=some c'):frz objs deep (.tup [a,b,c])=some (.tup [a',b',c']):=by
 show([a,b,c].mapM (frz objs 5)).map AV.tup=_
 simp only[xhx,List.mapM_nil,ha,hb,hc]
 rfl
theorem frz_I{objs:Id->Option Ob}{k:Nat}{x:Int}:frz objs (k+1) (I x)=some (I x):=rfl
theorem Gr.len{α:Type}{z:Nat}{enc:α->List AV}{l:List α}{a:AV}{u t:Nat}{m:Mem}{y e:TypeId}(ht:Try.prog.underlying y=some (.slice e))(h:Gr z enc u t m a l):sLen Try.prog y a=some (I l.length):=by
 rcases h with ⟨rfl,rfl⟩|⟨s,ver,rfl,hg⟩
 .exact xb9 ht
 .rfl
end Go.Ix
set_option linter.unusedVariables false
namespace Go.Ix
open Go.Proofs
def bd(x b:Int):Prop:=-b<=x/\x<=b
theorem bd.add{x y a b:Int}(h:bd x a)(k:bd y b):bd (x+y) (a+b):=by unfold bd at *;omega
theorem bd.sub{x y a b:Int}(h:bd x a)(k:bd y b):bd (x-y) (a+b):=by unfold bd at *;omega
theorem bd.neg{x a:Int}(h:bd x a):bd (-x) a:=by unfold bd at *;omega
theorem bd.abs{x a:Int}:bd x a↔(x.natAbs:Int)<=a:=by unfold bd;omega
theorem bd.mul{x y a b:Int}(h:bd x a)(k:bd y b):bd (x*y) (a*b):=by
 rw[bd.abs]at *
 rw[xjk,Int.natCast_mul]
 exact xk1 h k (by omega) (by omega)
theorem bd.mono{x a b:Int}(h:bd x a)(k:a<=b):bd x b:=by unfold bd at *;omega
theorem bd.zero{b:Int}(h:0<=b):bd 0 b:=by unfold bd;omega
def gl(g:Int)(l:List Int):Int:=l.foldl (λg x=>(Int.gcd g x:Int)) g
def c0(n a b c d e x y z:Int):Int:=x*(c*e-d*d)-y*(a*e-b*d)+z*(a*d-b*c)
def c1(n a b c d e x y z:Int):Int:=n*(y*e-z*d)-x*(a*e-b*d)+b*(a*z-b*y)
def c2(n a b c d e x y z:Int):Int:=n*(c*z-d*y)-a*(a*z-b*y)+x*(a*d-b*c)
def of0(g:Mp->Int)(l:List Mp):Int:=su g l
def of1(g:Mp->Int)(l:List Mp):Int:=su (λx=>x.ln*g x) l
def of2(g:Mp->Int)(l:List Mp):Int:=su (λx=>x.sm*g x) l
def C1(g:Mp->Int)(l:List Mp):Int:=c1 (sN l) (sA l) (sB l) (sC l) (sD l) (sE l) (of0 g l) (of1 g l) (of2 g l)
def C2(g:Mp->Int)(l:List Mp):Int:=c2 (sN l) (sA l) (sB l) (sC l) (sD l) (sE l) (of0 g l) (of1 g l) (of2 g l)
structure Aff where
 den:Int
 l0:Int
 l1:Int
 l2:Int
 s0:Int
 s1:Int
 s2:Int
def Aff.c(f:Aff):List AV:=[I f.den,I f.l0,I f.l1,I f.l2,I f.s0,I f.s1,I f.s2]
end Go.Ix
