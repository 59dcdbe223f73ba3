import Derived.Test.YtaoalekmhjclnaaGreatDoorWg8
import Derived.Test.YtaoalekmhjclnaaGreatDoorWg1
set_option linter.unusedSimpArgs false
namespace Go.Ix
open Go.Proofs
theorem ahM_lt{gap fr:Int}:∀{l:List Ps} {k:Nat} (hk:k<l.length),fr<l[k].to+gap->ahM gap fr l<=k
 |x::r,0,_,h=>by
  unfold ahM
  rw[x1tj (show ¬(x.to+gap<=fr) by simp at h;omega)]
  simp
 |x::r,k+1,hk,h=>by
  unfold ahM
  cases decide (x.to+gap<=fr)with
  |true=>simp;exact ahM_lt (by simpa using hk) (by simpa using h)
  |false=>simp
theorem Edge.still(e:Edge):e.c.all still1=true:=rfl
theorem x1kf(d:Nat){a:AV}{l:List Int}(h:Ints a l)(hl:l.length<=1000000)(m:Mem):∃a',Ints a' l/\x17e (x17h (d+1)) x1d [a] m=some (a',m):=by
 have hr:x180 l.length 8:=by unfold x180;omega
 have he:=h.elems x19q
 by_cases h0:l=[]
 .subst h0
  refine⟨.slit [] 0 true,Sl.lit [] true,call0 (m':=⟨[],1⟩) (by simp[h.still]) ?_ rfl⟩
  rw[xlb]
  unfold x4u x4b
  have hr0:x180 0 8:=by unfold x180;omega
  simp[mem0,he,x1ej hr0]
 .have hq:l.length≠0:=by simpa using h0
  have hlen:=x1a2 x19q l
  refine⟨.slit (l.flatMap intE) l.length false,Sl.lit l false,x1il (m':=(⟨[],1⟩:Mem).new (0,3,5) (.row (l.flatMap intE) 0 false)) (r:=.sref (0,3,5) 0 0 l.length 1 true) (by simp[h.still]) ?_ ?_⟩
  .rw[xlb]
   unfold x4u x4b
   simp[mem0,he,x1ej hr,hq,h0]
  .have:=x1dj (objs:=((⟨[],1⟩:Mem).new (0,3,5) (.row (l.flatMap intE) 0 false)).get) (id:=(0,3,5)) (cs:=l.flatMap intE) (ver:=0) (off:=0) (n:=l.length) (z:=1) (k:=4) (f:=false) (x:=true) (by simp) (by omega) (by
    rw[x1qm,x1r6 (by omega)];exact x1ct x1g3 l)
   rw[x1qm,x1r6 (by omega)]at this
   exact this
def RetF(T:AV->Prop)(r:O2):Prop:=∃a m' a',r=some (a,m')/\frz m'.get deep a=some a'/\T a'
theorem RetF.st{T:AV->Prop}{a:AV}{m:Mem}(h:still a=true)(ht:T a):RetF T (some (a,m)):=⟨a,m,a,rfl,x1au _ 4 h,ht⟩
theorem RetF.tup{T:AV->Prop}{l:List AV}{m:Mem}(h:l.all still=true)(ht:T (.tup l)):RetF T (some (.tup l,m)):=⟨_,m,_,rfl,frz_tup h,ht⟩
theorem RetF.mk{T:AV->Prop}{a a':AV}{m:Mem}(h:frz m.get deep a=some a')(ht:T a'):RetF T (some (a,m)):=⟨a,m,a',rfl,h,ht⟩
theorem callF{T:AV->Prop}{call:x17c}{f:FuncId}{l:List AV}(hl:l.all still=true)(h:RetF T (call [] f l mem0))(m:Mem):∃a,T a/\x17e call f l m=some (a,m):=by
 obtain⟨a,m',a',h1,h2,h3⟩:=h
 exact⟨a',h3,x1il hl h1 h2⟩
theorem callV{v:AV}{call:x17c}{f:FuncId}{l:List AV}(hl:l.all still=true)(h:RetF (λa=>a=v) (call [] f l mem0))(m:Mem):x17e call f l m=some (v,m):=by
 obtain⟨a,h1,h2⟩:=callF hl h m
 rw[h2,h1]
theorem x1ix{objs:Id->Option Ob}{a b a' b':AV}(ha:frz objs 5 a=some a')(hb:frz objs 5 b=some b'):frz objs deep (.tup [a,b])=some (.tup [a',b']):=by
 show([a,b].mapM (frz objs 5)).map AV.tup=_
 simp only[x1rt,x1sv,ha,hb]
 rfl
theorem frz_I{objs:Id->Option Ob}{k:Nat}{x:Int}:frz objs (k+1) (I x)=some (I x):=rfl
theorem Gr.len{α:Type}{z:Nat}{enc:α->List AV}{l:List α}{a:AV}{u t:Nat}{m:Mem}{y e:TypeId}(ht:Tryz.prog.underlying y=some (.slice e))(h:Gr z enc u t m a l):sLen Tryz.prog y a=some (I l.length):=by
 rcases h with ⟨rfl,rfl⟩|⟨s,ver,rfl,hg⟩
 .exact x1di ht
 .rfl
end Go.Ix
