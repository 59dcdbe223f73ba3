import Derived.Test.YtjdlceelbnaneaaWBase
set_option linter.unusedSimpArgs false
namespace Go.Ix
open Go.Proofs
structure Edge where
 fr:Int
 to:Int
 jump:Int
 wt:Int
def Edge.c(e:Edge):List AV:=[I e.fr,I e.to,I e.jump,I e.wt]
theorem Edge.len(e:Edge):e.c.length=4:=rfl
def wi(a b c:Int):Bool:=decide (b<=a/\a<=c)
theorem wi_t{a b c:Int}(h:wi a b c=true):b<=a/\a<=c:=xbe h
theorem x8j(d:Nat)(a b c:Int)(m:Mem):x1t (x1v (d+1)) x1 [I a,I b,I c] m=some (B (wi a b c),m):=by
 refine call0 rfl (m':=⟨[],1⟩) ?_ rfl
 rw[xy]
 unfold xg xb wi
 by_cases h:b<=a<;>by_cases h2:a<=c<;>simp[h,h2,mem0]
def TurnsIn(t:List Int):Prop:=∀x∈t,-1000000<=x/\x<=1000000
theorem TurnsIn.get{t:List Int}(h:TurnsIn t)(k:Nat):-1000000<=at0 t k/\at0 t k<=1000000:=by
 unfold at0
 rw[xax]
 cases hk:t[k]? with
 |none=>simp
 |some x=>simpa using h x (xaj hk)
def RetF(T:AV->Prop)(r:O2):Prop:=∃a m' a',r=some (a,m')/\frz m'.get deep a=some a'/\T a'
theorem RetF.st{T:AV->Prop}{a:AV}{m:Mem}(h:still a=true)(ht:T a):RetF T (some (a,m)):=⟨a,m,a,rfl,x5g _ 4 h,ht⟩
theorem RetF.tup{T:AV->Prop}{l:List AV}{m:Mem}(h:l.all still=true)(ht:T (.tup l)):RetF T (some (.tup l,m)):=⟨_,m,_,rfl,frz_tup h,ht⟩
theorem RetF.mk{T:AV->Prop}{a a':AV}{m:Mem}(h:frz m.get deep a=some a')(ht:T a'):RetF T (some (a,m)):=⟨a,m,a',rfl,h,ht⟩
theorem callF{T:AV->Prop}{call:x1h}{f:FuncId}{l:List AV}(hl:l.all still=true)(h:RetF T (call [] f l mem0))(m:Mem):∃a,T a/\x1t call f l m=some (a,m):=by
 obtain⟨a,m',a',h1,h2,h3⟩:=h
 exact⟨a',h3,call0_frz hl h1 h2⟩
theorem callV{v:AV}{call:x1h}{f:FuncId}{l:List AV}(hl:l.all still=true)(h:RetF (λa=>a=v) (call [] f l mem0))(m:Mem):x1t call f l m=some (v,m):=by
 obtain⟨a,h1,h2⟩:=callF hl h m
 rw[h2,h1]
theorem Gr.len{α:Type}{z:Nat}{enc:α->List AV}{l:List α}{a:AV}{u t:Nat}{m:Mem}{y e:TypeId}(ht:Try.prog.underlying y=some (.slice e))(h:Gr z enc u t m a l):sLen Try.prog y a=some (I l.length):=by
 rcases h with ⟨rfl,rfl⟩|⟨s,ver,rfl,hg⟩
 .exact x6l ht
 .rfl
end Go.Ix
