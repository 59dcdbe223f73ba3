import Derived.Test.YtklcdahoajabmaaRows
import Derived.Test.YtklcdahoajabmaaFxLaw
import Derived.Test.YtklcdahoajabmaaWg1
import Derived.Test.YtklcdahoajabmaaWg0
set_option maxRecDepth 100000
namespace Go.Proofs.Ytklcdahoajabmaa
open Go.ChangeShapes Go.WideShapes Go.ChangeAt Go.RowKit Go.Ix
theorem Try.own:ownKnob Try.prog.godebug=none:=by kernel_rfl
theorem Try.laidOut:laidOutB Try.prog=true:=by kernel_rfl
theorem sh_int{q:List AV}(h:Sh Try.prog xd5 q):∃n,q=[I n]:=by
 obtain⟨n,h,-⟩:=Sh.int_inv (t:=xd5) (k:=.i64) (by kernel_rfl) h
 exact⟨n,h⟩
theorem sl_sh{α:Type}{enc:α->List AV}{P:Program}{t e:TypeId}{z:AV}(ht:P.underlying t=some (.slice e))(hr:∀r,r.length=P.cellsOf e->Sh P e r->∃x,r=enc x)(f:Sh P t [z]):∃l,Sl enc z l:=by
 rcases Sh.slice_inv ht f with h1|⟨rows,x,h1,h2,h3,h4⟩
 .simp at h1;exact⟨[],Or.inl ⟨h1,rfl⟩⟩
 .obtain⟨l,rfl⟩:=xnx (enc:=enc) λr hm=>hr r (h2 r hm) (h3 r hm)
  simp at h1
  exact⟨l,Or.inr ⟨x,by simpa[List.flatMap]using h1⟩⟩
theorem fs_of{t:TypeId}{l:List (TypeId×Nat)}(h:((Try.prog.underlying t).bind λd=>match d with | .struct fs=>some (fs.toList.map λf=>(f.type,f.offset))|_=>none)=some l):∃fs,Try.prog.underlying t=some (.struct fs)/\(fs.toList.map λf=>(f.type,f.offset))=l:=by
 cases hu:Try.prog.underlying t with
 |none=>rw[hu]at h;cases h
 |some d=>
  rw[hu]at h
  cases d<;>first|exact⟨_,rfl,by simpa using h⟩|cases h
end Go.Proofs.Ytklcdahoajabmaa
set_option linter.unusedSimpArgs false
set_option linter.unusedVariables false
namespace Go.Ix
structure Mp where
 ln:Int
 sm:Int
 b0:Int
 b1:Int
 sc:Int
def Mp.c(x:Mp):List AV:=[I x.ln,I x.sm,I x.b0,I x.b1,I x.sc]
theorem Mp.len(x:Mp):x.c.length=5:=rfl
theorem Mp.still(x:Mp):x.c.all still1=true:=rfl
def su(f:Mp->Int):List Mp->Int
 |[]=>0
 |x::l=>f x+su f l
theorem su_le{f:Mp->Int}{b:Int}:∀{l:List Mp},(∀x∈l,-b<=f x/\f x<=b)->-(l.length*b)<=su f l/\su f l<=l.length*b
 |[],_=>by simp[su]
 |x::l,h=>by
  have h1:=h x (xtk ..)
  have h2:=su_le (l:=l) λy hy=>h y (xti _ hy)
  simp only[su,xtl]
  have e:((l.length+1:Nat):Int)*b=l.length*b+b:=by rw[Int.natCast_add,xvw];omega
  rw[e]
  omega
def sE(l:List Mp):Int:=su (λx=>x.sm*x.sm) l
def pr(f x y:Mp):Int:=(x.ln-f.ln)*(y.sm-f.sm)-(x.sm-f.sm)*(y.ln-f.ln)
def Mp.at(f x:Mp):Prop:=x.ln=f.ln/\x.sm=f.sm
instance (f x:Mp):Decidable (f.at x):=by unfold Mp.at;infer_instance
open Go.Proofs
def eG(a b:Int):Int:=if h:b=0 then a else eG b (a.tmod b)
termination_by b.natAbs
decreasing_by
 have:=Int.natAbs_tmod a b
 rw[this]
 exact xuj _ (by omega)
theorem eG_0(a:Int):eG a 0=a:=by rw[eG];simp
theorem eG_s{a b:Int}(h:b≠0):eG a b=eG b (a.tmod b):=by rw[eG,dif_neg h]
theorem eG_gcd:∀(n:Nat) (a b:Int),b.natAbs<=n->(eG a b).natAbs=Int.gcd a b:=by
 intro n
 induction n with
 |zero=>
  intro a b h
  have:b=0:=by omega
  subst this
  rw[eG_0];simp
 |succ n ih=>
  intro a b h
  by_cases hb:b=0
  .subst hb;rw[eG_0];simp
  .rw[eG_s hb]
   have h1:(a.tmod b).natAbs<b.natAbs:=by rw[Int.natAbs_tmod];exact xuj _ (by omega)
   rw[ih b (a.tmod b) (by omega)]
   unfold Int.gcd
   rw[Int.natAbs_tmod,Nat.gcd_comm,<-Nat.gcd_rec,Nat.gcd_comm]
theorem mod_half{a b:Nat}(hb:0<b)(h1:0<a % b):2*(b % (a % b))<b:=by
 have h2:a % b<b:=xuj _ hb
 have h3:b % (a % b)<a % b:=xuj _ h1
 have h4:=Nat.div_add_mod b (a % b)
 have h5:1<=b / (a % b):=(Nat.one_le_div_iff h1).mpr (by omega)
 have h6:(a % b)*1<=(a % b)*(b / (a % b)):=Nat.mul_le_mul_left _ h5
 omega
theorem build_F(x y:Int):xd4 [I 0,I 0] [(0,1,I x),(1,1,I y)]=some (.agg [I x,I y]):=by simp[xd4,xfu]
theorem tdiv_le{a b:Int}:(a.tdiv b).natAbs<=a.natAbs:=by rw[Int.natAbs_tdiv];exact Nat.div_le_self _ _
def bd(x b:Int):Prop:=-b<=x/\x<=b
theorem bd.add{x y a b:Int}(h:bd x a)(k:bd y b):bd (x+y) (a+b):=by unfold bd at *;omega
theorem bd.sub{x y a b:Int}(h:bd x a)(k:bd y b):bd (x-y) (a+b):=by unfold bd at *;omega
theorem bd.neg{x a:Int}(h:bd x a):bd (-x) a:=by unfold bd at *;omega
theorem bd.abs{x a:Int}:bd x a↔(x.natAbs:Int)<=a:=by unfold bd;omega
theorem bd.mul{x y a b:Int}(h:bd x a)(k:bd y b):bd (x*y) (a*b):=by
 rw[bd.abs]at *
 rw[xwf,Int.natCast_mul]
 exact xve h k (by omega) (by omega)
theorem bd.mono{x a b:Int}(h:bd x a)(k:a<=b):bd x b:=by unfold bd at *;omega
theorem bd.zero{b:Int}(h:0<=b):bd 0 b:=by unfold bd;omega
def c0(n a b c d e x y z:Int):Int:=x*(c*e-d*d)-y*(a*e-b*d)+z*(a*d-b*c)
def c1(n a b c d e x y z:Int):Int:=n*(y*e-z*d)-x*(a*e-b*d)+b*(a*z-b*y)
def c2(n a b c d e x y z:Int):Int:=n*(c*z-d*y)-a*(a*z-b*y)+x*(a*d-b*c)
structure Aff where
 den:Int
 l0:Int
 l1:Int
 l2:Int
 s0:Int
 s1:Int
 s2:Int
def Aff.c(f:Aff):List AV:=[I f.den,I f.l0,I f.l1,I f.l2,I f.s0,I f.s1,I f.s2]
end Go.Ix
