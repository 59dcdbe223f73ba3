import Derived.Test.YtjdlceelbnaneaaWBase
import Derived.Test.YtjdlceelbnaneaaWg1
set_option linter.unusedSimpArgs false
set_option linter.unusedVariables false
namespace Go.Ix
structure Mp where
 ln:Int
 sm:Int
 b0:Int
 b1:Int
 sc:Int
def Mp.c(x:Mp):List AV:=[I x.ln,I x.sm,I x.b0,I x.b1,I x.sc]
theorem Mp.len(x:Mp):x.c.length=5:=rfl
theorem Mp.still(x:Mp):x.c.all still1=true:=rfl
def su(f:Mp->Int):List Mp->Int
 |[]=>0
 |x::l=>f x+su f l
theorem su_app(f:Mp->Int):∀l k:List Mp,su f (l++k)=su f l+su f k
 |[],k=>by simp[su]
 |x::l,k=>by simp only[xln,su,su_app f l k];omega
theorem su_one(f:Mp->Int)(x:Mp):su f [x]=f x:=by simp[su]
theorem su_le{f:Mp->Int}{b:Int}:∀{l:List Mp},(∀x∈l,-b<=f x/\f x<=b)->-(l.length*b)<=su f l/\su f l<=l.length*b
 |[],_=>by simp[su]
 |x::l,h=>by
  have h1:=h x (xkg ..)
  have h2:=su_le (l:=l) λy hy=>h y (xkf _ hy)
  simp only[su,xkn]
  have e:((l.length+1:Nat):Int)*b=l.length*b+b:=by rw[Int.natCast_add,Int.add_mul];omega
  rw[e]
  omega
def dt(n a b c d e:Int):Int:=n*(c*e-d*d)-a*(a*e-d*b)+b*(a*d-c*b)
def qf(n a b c d e p q:Int):Int:=(c*e-d*d)+p*p*(n*e-b*b)+q*q*(n*c-a*a)+2*p*(b*d-a*e)+2*q*(a*d-b*c)+2*p*q*(a*b-n*d)
def rf(n a b c d e x y z:Int):Int:=x*x*n+y*y*c+z*z*e+2*x*y*a+2*x*z*b+2*y*z*d
theorem dt_step(n a b c d e p q:Int):dt (n+1) (a+p) (b+q) (c+p*p) (d+p*q) (e+q*q)=dt n a b c d e+qf n a b c d e p q:=by
 unfold dt qf;grind
theorem qf_step(n a b c d e p q r s:Int):qf (n+1) (a+r) (b+s) (c+r*r) (d+r*s) (e+s*s) p q=qf n a b c d e p q+rf n a b c d e (p*s-q*r) (q-s) (r-p):=by
 unfold qf rf;grind
theorem rf_step(n a b c d e r s x y z:Int):rf (n+1) (a+r) (b+s) (c+r*r) (d+r*s) (e+s*s) x y z=rf n a b c d e x y z+(x+y*r+z*s)*(x+y*r+z*s):=by
 unfold rf;grind
def sN(l:List Mp):Int:=su (λ_=>1) l
def sA(l:List Mp):Int:=su Mp.ln l
def sB(l:List Mp):Int:=su Mp.sm l
def sC(l:List Mp):Int:=su (λx=>x.ln*x.ln) l
def sD(l:List Mp):Int:=su (λx=>x.ln*x.sm) l
def sE(l:List Mp):Int:=su (λx=>x.sm*x.sm) l
def DD(l:List Mp):Int:=dt (sN l) (sA l) (sB l) (sC l) (sD l) (sE l)
def QQ(l:List Mp)(p q:Int):Int:=qf (sN l) (sA l) (sB l) (sC l) (sD l) (sE l) p q
def RR(l:List Mp)(x y z:Int):Int:=rf (sN l) (sA l) (sB l) (sC l) (sD l) (sE l) x y z
theorem xc2(x:Mp)(l:List Mp):DD (x::l)=DD l+QQ l x.ln x.sm:=by
 unfold DD QQ sN sA sB sC sD sE
 simp only[su]
 rw[<-dt_step]
 congr 1<;>omega
theorem xbf(x:Mp)(l:List Mp)(p q:Int):QQ (x::l) p q=QQ l p q+RR l (p*x.sm-q*x.ln) (q-x.sm) (x.ln-p):=by
 unfold QQ RR sN sA sB sC sD sE
 simp only[su]
 rw[<-qf_step]
 congr 1<;>omega
theorem xcs(t:Mp)(l:List Mp)(x y z:Int):RR (t::l) x y z=RR l x y z+(x+y*t.ln+z*t.sm)*(x+y*t.ln+z*t.sm):=by
 unfold RR sN sA sB sC sD sE
 simp only[su]
 rw[<-rf_step]
 congr 1<;>omega
theorem xfb(x:Int):0<=x*x:=by
 rcases Int.le_total 0 x with h|h
 .exact Int.mul_nonneg h h
 .have:=Int.mul_nonneg (show 0<=-x by omega) (show 0<=-x by omega)
  rwa[Int.neg_mul_neg]at this
theorem sq_pos{x:Int}(h:x≠0):0<x*x:=by
 have h1:=xfb x
 have h2:x*x≠0:=Int.mul_ne_zero h h
 omega
theorem xdo(x y z:Int):RR [] x y z=0:=by unfold RR sN sA sB sC sD sE rf;simp[su]
theorem xdp(p q:Int):QQ [] p q=0:=by unfold QQ sN sA sB sC sD sE qf;simp[su]
theorem DD_nil:DD []=0:=by unfold DD sN sA sB sC sD sE dt;simp[su]
theorem RR_nn(x y z:Int):∀l:List Mp,0<=RR l x y z
 |[]=>by rw[xdo];omega
 |t::l=>by
  rw[xcs]
  have:=RR_nn x y z l
  have:=xfb (x+y*t.ln+z*t.sm)
  omega
theorem QQ_nn(p q:Int):∀l:List Mp,0<=QQ l p q
 |[]=>by rw[xdp];omega
 |t::l=>by
  rw[xbf]
  have:=QQ_nn p q l
  have:=RR_nn (p*t.sm-q*t.ln) (q-t.sm) (t.ln-p) l
  omega
theorem RR_mono{x y z:Int}{l k:List Mp}(h:l.Sublist k):RR l x y z<=RR k x y z:=by
 induction h with
 |slnil=>exact xm6 _
 |cons a _ ih=>
  rw[xcs]
  have:=xfb (x+y*a.ln+z*a.sm)
  omega
 |cons_cons a _ ih=>rw[xcs,xcs];omega
theorem QQ_mono{p q:Int}{l k:List Mp}(h:l.Sublist k):QQ l p q<=QQ k p q:=by
 induction h with
 |slnil=>exact xm6 _
 |cons a _ ih=>
  rw[xbf]
  rename_i l1 l2 h
  have:=RR_nn (p*a.sm-q*a.ln) (q-a.sm) (a.ln-p) l2
  omega
 |cons_cons a h ih=>
  rw[xbf,xbf]
  have:=RR_mono (x:=p*a.sm-q*a.ln) (y:=q-a.sm) (z:=a.ln-p) h
  omega
theorem DD_mono{l k:List Mp}(h:l.Sublist k):DD l<=DD k:=by
 induction h with
 |slnil=>exact xm6 _
 |cons a _ ih=>
  rw[xc2]
  rename_i l1 l2 h
  have:=QQ_nn a.ln a.sm l2
  omega
 |cons_cons a h ih=>
  rw[xc2,xc2]
  have:=QQ_mono (p:=a.ln) (q:=a.sm) h
  omega
def pr(f x y:Mp):Int:=(x.ln-f.ln)*(y.sm-f.sm)-(x.sm-f.sm)*(y.ln-f.ln)
theorem DD_three(f x y:Mp):DD [f,x,y]=pr f x y*pr f x y:=by
 rw[xc2,xc2,xc2,DD_nil,xbf,xbf,xdp,xbf,xdp,xdp,xcs,xdo,xdo,xdo]
 unfold pr;grind
def rk2(x y z:Int):List Mp->Int
 |[]=>2
 |p::l=>if x+y*p.ln+z*p.sm≠0 then 3 else rk2 x y z l
def rk1(f:Mp):List Mp->Int
 |[]=>1
 |p::l=>if p.ln=f.ln/\p.sm=f.sm then rk1 f l else rk2 (f.ln*p.sm-f.sm*p.ln) (f.sm-p.sm) (p.ln-f.ln) l
def rkM:List Mp->Int
 |[]=>0
 |f::l=>rk1 f (f::l)
theorem pr_eq(f x y:Mp):(f.ln*x.sm-f.sm*x.ln)+(f.sm-x.sm)*y.ln+(x.ln-f.ln)*y.sm=pr f x y:=by unfold pr;grind
theorem rk2_ok(f p:Mp):∀l:List Mp,(rk2 (f.ln*p.sm-f.sm*p.ln) (f.sm-p.sm) (p.ln-f.ln) l=3/\∃y∈l,pr f p y≠0)\/(rk2 (f.ln*p.sm-f.sm*p.ln) (f.sm-p.sm) (p.ln-f.ln) l=2/\∀y∈l,pr f p y=0)
 |[]=>.inr ⟨rfl,by simp⟩
 |y::l=>by
  rw[rk2,pr_eq]
  by_cases h:pr f p y=0
  .rw[xk9 (by simpa using h)]
   rcases rk2_ok f p l with ⟨h1,z,h2,h3⟩|⟨h1,h2⟩
   .exact .inl ⟨h1,z,xkf _ h2,h3⟩
   .refine .inr ⟨h1,λz hz=>?_⟩
    rcases xkh.mp hz with rfl|hz
    .exact h
    .exact h2 z hz
  .rw[xk8 h]
   exact .inl ⟨rfl,y,xkg ..,h⟩
def Mp.at(f x:Mp):Prop:=x.ln=f.ln/\x.sm=f.sm
instance (f x:Mp):Decidable (f.at x):=by unfold Mp.at;infer_instance
theorem rk1_ok(f:Mp):∀l:List Mp,(rk1 f l=1/\∀x∈l,f.at x) \/
 (∃A p B,l=A++p::B/\(∀x∈A,f.at x)/\¬f.at p/\rk1 f l=rk2 (f.ln*p.sm-f.sm*p.ln) (f.sm-p.sm) (p.ln-f.ln) B)
 |[]=>.inl ⟨rfl,by simp⟩
 |x::l=>by
  rw[rk1]
  by_cases h:x.ln=f.ln/\x.sm=f.sm
  .rw[xk8 h]
   rcases rk1_ok f l with ⟨h1,h2⟩|⟨A,p,B,h1,h2,h3,h4⟩
   .refine .inl ⟨h1,λz hz=>?_⟩
    rcases xkh.mp hz with rfl|hz
    .exact h
    .exact h2 z hz
   .refine .inr ⟨x::A,p,B,by rw[h1];rfl,λz hz=>?_,h3,h4⟩
    rcases xkh.mp hz with rfl|hz
    .exact h
    .exact h2 z hz
  .rw[xk9 h]
   exact .inr ⟨[],x,l,rfl,by simp,h,rfl⟩
theorem pr_at{f x y:Mp}(h:f.at x):pr f x y=0:=by
 unfold pr;rw[h.1,h.2];simp
theorem pr_self(f x:Mp):pr f x x=0:=by unfold pr;rw[Int.mul_comm];omega
theorem pr_at2{f x y:Mp}(h:f.at y):pr f x y=0:=by
 unfold pr;rw[h.1,h.2];simp
theorem rkM_ok(f:Mp)(l:List Mp):(rkM (f::l)=1/\∀x∈f::l,f.at x) \/
 (∃p∈f::l,¬f.at p/\rkM (f::l)=2/\∀y∈f::l,pr f p y=0) \/
 (∃p y,[f,p,y].Sublist (f::l)/\¬f.at p/\rkM (f::l)=3/\pr f p y≠0):=by
 have hf:f.at f:=⟨rfl,rfl⟩
 have e:rkM (f::l)=rk1 f l:=by
  show rk1 f (f::l)=_
  rw[rk1,xk8 (show f.ln=f.ln/\f.sm=f.sm from⟨rfl,rfl⟩)]
 rw[e]
 rcases rk1_ok f l with ⟨h1,h2⟩|⟨A,p,B,rfl,h2,h3,h4⟩
 .refine .inl ⟨h1,λx hx=>?_⟩
  rcases xkh.mp hx with rfl|hx
  .exact hf
  .exact h2 x hx
 .rcases rk2_ok f p B with ⟨h5,y,h6,h7⟩|⟨h5,h6⟩
  .refine .inr (.inr ⟨p,y,?_,h3,by rw[h4,h5],h7⟩)
   refine List.Sublist.cons_cons f ?_
   exact(List.Sublist.cons_cons p (List.singleton_sublist.mpr h6)).trans (List.sublist_append_right A (p::B))
  .refine .inr (.inl ⟨p,by simp,h3,by rw[h4,h5],λy hy=>?_⟩)
   rcases xkh.mp hy with rfl|hy
   .exact pr_at2 hf
   .rcases xla.mp hy with hy|hy
    .exact pr_at2 (h2 y hy)
    .rcases xkh.mp hy with rfl|hy
     .exact pr_self f y
     .exact h6 y hy
theorem rk_det{l:List Mp}(h:rkM l=3):0<DD l:=by
 match l with
 |[]=>simp[rkM]at h
 |f::l=>
  rcases rkM_ok f l with ⟨h1,-⟩|⟨p,-,-,h1,-⟩|⟨p,y,h1,-,-,h4⟩
  .omega
  .omega
  .have h5:=DD_mono h1
   rw[DD_three]at h5
   have:=sq_pos h4
   omega
open Go.Proofs
def eG(a b:Int):Int:=if h:b=0 then a else eG b (a.tmod b)
termination_by b.natAbs
decreasing_by
 have:=Int.natAbs_tmod a b
 rw[this]
 exact xlr _ (by omega)
theorem eG_0(a:Int):eG a 0=a:=by rw[eG];simp
theorem eG_s{a b:Int}(h:b≠0):eG a b=eG b (a.tmod b):=by rw[eG,dif_neg h]
theorem eG_gcd:∀(n:Nat) (a b:Int),b.natAbs<=n->(eG a b).natAbs=Int.gcd a b:=by
 intro n
 induction n with
 |zero=>
  intro a b h
  have:b=0:=by omega
  subst this
  rw[eG_0];simp
 |succ n ih=>
  intro a b h
  by_cases hb:b=0
  .subst hb;rw[eG_0];simp
  .rw[eG_s hb]
   have h1:(a.tmod b).natAbs<b.natAbs:=by rw[Int.natAbs_tmod];exact xlr _ (by omega)
   rw[ih b (a.tmod b) (by omega)]
   unfold Int.gcd
   rw[Int.natAbs_tmod,Nat.gcd_comm,<-Nat.gcd_rec,Nat.gcd_comm]
theorem xhh{a b:Nat}(hb:0<b)(h1:0<a % b):2*(b % (a % b))<b:=by
 have h2:a % b<b:=xlr _ hb
 have h3:b % (a % b)<a % b:=xlr _ h1
 have h4:=Nat.div_add_mod b (a % b)
 have h5:1<=b / (a % b):=(Nat.one_le_div_iff h1).mpr (by omega)
 have h6:(a % b)*1<=(a % b)*(b / (a % b)):=Nat.mul_le_mul_left _ h5
 omega
def bd(x b:Int):Prop:=-b<=x/\x<=b
theorem bd.add{x y a b:Int}(h:bd x a)(k:bd y b):bd (x+y) (a+b):=by unfold bd at *;omega
theorem bd.sub{x y a b:Int}(h:bd x a)(k:bd y b):bd (x-y) (a+b):=by unfold bd at *;omega
theorem bd.neg{x a:Int}(h:bd x a):bd (-x) a:=by unfold bd at *;omega
theorem bd.abs{x a:Int}:bd x a↔(x.natAbs:Int)<=a:=by unfold bd;omega
theorem bd.mul{x y a b:Int}(h:bd x a)(k:bd y b):bd (x*y) (a*b):=by
 rw[bd.abs]at *
 rw[Int.natAbs_mul,Int.natCast_mul]
 exact Int.mul_le_mul h k (by omega) (by omega)
theorem bd.mono{x a b:Int}(h:bd x a)(k:a<=b):bd x b:=by unfold bd at *;omega
theorem bd.zero{b:Int}(h:0<=b):bd 0 b:=by unfold bd;omega
def gl(g:Int)(l:List Int):Int:=l.foldl (λg x=>(Int.gcd g x:Int)) g
theorem gl_dvd:∀(l:List Int) (g:Int),gl g l ∣ g/\∀x∈l,gl g l ∣ x
 |[],g=>⟨Int.dvd_refl _,by simp⟩
 |x::l,g=>by
  obtain⟨h1,h2⟩:=gl_dvd l (Int.gcd g x:Int)
  have e:gl g (x::l)=gl (Int.gcd g x:Int) l:=rfl
  rw[e]
  refine⟨Int.dvd_trans h1 (Int.gcd_dvd_left ..),λy hy=>?_⟩
  rcases xkh.mp hy with rfl|hy
  .exact Int.dvd_trans h1 (Int.gcd_dvd_right ..)
  .exact h2 y hy
theorem gl_pos:∀(l:List Int) {g:Int},0<g->0<gl g l
 |[],_,h=>h
 |x::l,g,h=>by
  have:0<Int.gcd g x:=Int.gcd_pos_of_ne_zero_left x (by omega)
  exact gl_pos l (show(0:Int)<(Int.gcd g x:Int) by omega)
def c0(n a b c d e x y z:Int):Int:=x*(c*e-d*d)-y*(a*e-b*d)+z*(a*d-b*c)
def c1(n a b c d e x y z:Int):Int:=n*(y*e-z*d)-x*(a*e-b*d)+b*(a*z-b*y)
def c2(n a b c d e x y z:Int):Int:=n*(c*z-d*y)-a*(a*z-b*y)+x*(a*d-b*c)
def of0(g:Mp->Int)(l:List Mp):Int:=su g l
def of1(g:Mp->Int)(l:List Mp):Int:=su (λx=>x.ln*g x) l
def of2(g:Mp->Int)(l:List Mp):Int:=su (λx=>x.sm*g x) l
def C0(g:Mp->Int)(l:List Mp):Int:=c0 (sN l) (sA l) (sB l) (sC l) (sD l) (sE l) (of0 g l) (of1 g l) (of2 g l)
def C1(g:Mp->Int)(l:List Mp):Int:=c1 (sN l) (sA l) (sB l) (sC l) (sD l) (sE l) (of0 g l) (of1 g l) (of2 g l)
def C2(g:Mp->Int)(l:List Mp):Int:=c2 (sN l) (sA l) (sB l) (sC l) (sD l) (sE l) (of0 g l) (of1 g l) (of2 g l)
def x98(l:List Mp):List Int:=[C0 Mp.b0 l,C0 Mp.b1 l,C1 Mp.b0 l,C1 Mp.b1 l,C2 Mp.b0 l,C2 Mp.b1 l]
def gF(l:List Mp):Int:=gl (DD l) (x98 l)
structure Aff where
 den:Int
 l0:Int
 l1:Int
 l2:Int
 s0:Int
 s1:Int
 s2:Int
def Aff.c(f:Aff):List AV:=[I f.den,I f.l0,I f.l1,I f.l2,I f.s0,I f.s1,I f.s2]
def fitM(l:List Mp):Aff:=⟨DD l / gF l,C0 Mp.b0 l / gF l,C1 Mp.b0 l / gF l,C2 Mp.b0 l / gF l,C0 Mp.b1 l / gF l,C1 Mp.b1 l / gF l,C2 Mp.b1 l / gF l⟩
def x9l(f:Aff)(x:Mp):Int:=f.den*x.b0-f.l0-f.l1*x.ln-f.l2*x.sm
def x9m(f:Aff)(x:Mp):Int:=f.den*x.b1-f.s0-f.s1*x.ln-f.s2*x.sm
theorem gF_pos{l:List Mp}(h:0<DD l):0<gF l:=gl_pos _ h
theorem gF_dvd(l:List Mp):gF l ∣ DD l/\∀x∈x98 l,gF l ∣ x:=gl_dvd _ _
end Go.Ix
