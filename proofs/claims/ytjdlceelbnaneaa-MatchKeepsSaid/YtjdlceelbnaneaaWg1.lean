import Derived.Test.YtjdlceelbnaneaaWBase
import Derived.Laws.Strings
import Derived.Test.YtjdlceelbnaneaaFxSound
set_option linter.unusedSimpArgs false
namespace Go.Ix
open Go.Proofs
structure Edge where
 fr:Int
 to:Int
 jump:Int
 wt:Int
def Edge.c(e:Edge):List AV:=[I e.fr,I e.to,I e.jump,I e.wt]
theorem Edge.len(e:Edge):e.c.length=4:=rfl
def wi(a b c:Int):Bool:=decide (b<=a/\a<=c)
theorem wi_t{a b c:Int}(h:wi a b c=true):b<=a/\a<=c:=xjo h
theorem x98(d:Nat)(a b c:Int)(m:Mem):x6h (x6e (d+1)) x8 [I a,I b,I c] m=some (B (wi a b c),m):=by
 refine call0 rfl (m':=⟨[],1⟩) ?_ rfl
 rw[x4p]
 unfold x2x x1r wi
 by_cases h:b<=a<;>by_cases h2:a<=c<;>simp[h,h2,mem0]
theorem x8a:Try.prog.underlying xb=some (.slice x8b):=by kernel_rfl
theorem xbu:z_int=[I 0]:=by kernel_rfl
theorem w_Size(d:Nat)(a:Int)(m:Mem)(h1:-9223372036854775808<a)(h2:a<=9223372036854775807):x6h (x6e (d+1)) xh [I a] m=some (I (a.natAbs:Int),m):=by
 refine call0 rfl (m':=⟨[],1⟩) ?_ rfl
 rw[x4q]
 unfold x2y x1s
 simp(disch:=omega) [mem0,x6u]
 split<;>omega
abbrev Ints(a:AV)(l:List Int):Prop:=Sl intE a l
def TurnsIn(t:List Int):Prop:=∀x∈t,-1000000<=x/\x<=1000000
theorem TurnsIn.get{t:List Int}(h:TurnsIn t)(k:Nat):-1000000<=at0 t k/\at0 t k<=1000000:=by
 unfold at0
 rw[xiq]
 cases hk:t[k]? with
 |none=>simp
 |some x=>simpa using h x (xit hk)
theorem loopW{σ R:Type}{N:Nat}(X:Nat->Nat->σ->Mem->Nat->R)(Inv:Nat->σ->Mem->Prop)(Q:R->Prop)(hstep:∀n k s m fc,k<N->Inv k s m->(∀s' m' fc',Inv (k+1) s' m'->Q (X n (k+1) s' m' fc'))->Q (X (n+1) k s m fc))(hend:∀n s m fc,Inv N s m->Q (X (n+1) N s m fc)):∀n k s m fc,k<=N->N<n+k->Inv k s m->Q (X n k s m fc):=by
 intro n
 induction n with
 |zero=>intro k s m fc h1 h2;omega
 |succ n ih=>
  intro k s m fc h1 h2 hI
  rcases xir k N with h|h
  .exact hstep n k s m fc h hI λs' m' fc' hI'=>ih (k+1) s' m' fc' h (by omega) hI'
  .have:k=N:=by omega
   subst this
   exact hend n s m fc hI
def RetF(T:AV->Prop)(r:O2):Prop:=∃a m' a',r=some (a,m')/\frz m'.get deep a=some a'/\T a'
theorem RetF.st{T:AV->Prop}{a:AV}{m:Mem}(h:still a=true)(ht:T a):RetF T (some (a,m)):=⟨a,m,a,rfl,xbr _ 4 h,ht⟩
theorem RetF.tup{T:AV->Prop}{l:List AV}{m:Mem}(h:l.all still=true)(ht:T (.tup l)):RetF T (some (.tup l,m)):=⟨_,m,_,rfl,frz_tup h,ht⟩
theorem RetF.mk{T:AV->Prop}{a a':AV}{m:Mem}(h:frz m.get deep a=some a')(ht:T a'):RetF T (some (a,m)):=⟨a,m,a',rfl,h,ht⟩
theorem callF{T:AV->Prop}{call:x6f}{f:FuncId}{l:List AV}(hl:l.all still=true)(h:RetF T (call [] f l mem0))(m:Mem):∃a,T a/\x6h call f l m=some (a,m):=by
 obtain⟨a,m',a',h1,h2,h3⟩:=h
 exact⟨a',h3,call0_frz hl h1 h2⟩
theorem x78{v:AV}{call:x6f}{f:FuncId}{l:List AV}(hl:l.all still=true)(h:RetF (λa=>a=v) (call [] f l mem0))(m:Mem):x6h call f l m=some (v,m):=by
 obtain⟨a,h1,h2⟩:=callF hl h m
 rw[h2,h1]
theorem Gr.len{α:Type}{z:Nat}{enc:α->List AV}{l:List α}{a:AV}{u t:Nat}{m:Mem}{y e:TypeId}(ht:Try.prog.underlying y=some (.slice e))(h:Gr z enc u t m a l):sLen Try.prog y a=some (I l.length):=by
 rcases h with ⟨rfl,rfl⟩|⟨s,ver,rfl,hg⟩
 .exact x9n ht
 .rfl
abbrev T(s:ByteArray):AV:=.sc (.string s)
@[simp] theorem sLenS_T(s:ByteArray):sLenS (T s)=some (I s.size):=rfl
structure Scene where
 nm:ByteArray
 day:Int
 bl:Int
def Scene.c(s:Scene):List AV:=[T s.nm,I s.day,I s.bl]
theorem Scene.len(s:Scene):s.c.length=3:=rfl
@[simp] theorem cells_T(s:ByteArray):(T s).cells=[T s]:=rfl
@[simp] theorem one_T(s:ByteArray):(T s).one=true:=rfl
end Go.Ix
