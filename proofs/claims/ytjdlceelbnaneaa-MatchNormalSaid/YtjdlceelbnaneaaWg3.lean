import Derived.Test.YtjdlceelbnaneaaWBase
import Derived.Test.YtjdlceelbnaneaaWg1
set_option linter.unusedSimpArgs false
set_option linter.unusedVariables false
namespace Go.Ix
structure Mp where
 ln:Int
 sm:Int
 b0:Int
 b1:Int
 sc:Int
def Mp.c(x:Mp):List AV:=[I x.ln,I x.sm,I x.b0,I x.b1,I x.sc]
theorem Mp.len(x:Mp):x.c.length=5:=rfl
theorem Mp.still(x:Mp):x.c.all still1=true:=rfl
def su(f:Mp->Int):List Mp->Int
 |[]=>0
 |x::l=>f x+su f l
theorem x9a(f:Mp->Int):∀l k:List Mp,su f (l++k)=su f l+su f k
 |[],k=>by simp[su]
 |x::l,k=>by simp only[xjf,su,x9a f l k];omega
theorem xa3(f:Mp->Int)(x:Mp):su f [x]=f x:=by simp[su]
theorem su_rev(f:Mp->Int)(l:List Mp):su f l.reverse=su f l:=by
 induction l with
 |nil=>rfl
 |cons x l ih=>rw[xjt,x9a,ih,xa3];simp only[su];omega
theorem su_le{f:Mp->Int}{b:Int}:∀{l:List Mp},(∀x∈l,-b<=f x/\f x<=b)->-(l.length*b)<=su f l/\su f l<=l.length*b
 |[],_=>by simp[su]
 |x::l,h=>by
  have h1:=h x (xhs ..)
  have h2:=su_le (l:=l) λy hy=>h y (xhr _ hy)
  simp only[su,xhz]
  have e:((l.length+1:Nat):Int)*b=l.length*b+b:=by rw[Int.natCast_add,Int.add_mul];omega
  rw[e]
  omega
def dt(n a b c d e:Int):Int:=n*(c*e-d*d)-a*(a*e-d*b)+b*(a*d-c*b)
def qf(n a b c d e p q:Int):Int:=(c*e-d*d)+p*p*(n*e-b*b)+q*q*(n*c-a*a)+2*p*(b*d-a*e)+2*q*(a*d-b*c)+2*p*q*(a*b-n*d)
def rf(n a b c d e x y z:Int):Int:=x*x*n+y*y*c+z*z*e+2*x*y*a+2*x*z*b+2*y*z*d
theorem dt_step(n a b c d e p q:Int):dt (n+1) (a+p) (b+q) (c+p*p) (d+p*q) (e+q*q)=dt n a b c d e+qf n a b c d e p q:=by
 unfold dt qf;grind
theorem qf_step(n a b c d e p q r s:Int):qf (n+1) (a+r) (b+s) (c+r*r) (d+r*s) (e+s*s) p q=qf n a b c d e p q+rf n a b c d e (p*s-q*r) (q-s) (r-p):=by
 unfold qf rf;grind
theorem rf_step(n a b c d e r s x y z:Int):rf (n+1) (a+r) (b+s) (c+r*r) (d+r*s) (e+s*s) x y z=rf n a b c d e x y z+(x+y*r+z*s)*(x+y*r+z*s):=by
 unfold rf;grind
def sN(l:List Mp):Int:=su (λ_=>1) l
def sA(l:List Mp):Int:=su Mp.ln l
def sB(l:List Mp):Int:=su Mp.sm l
def sC(l:List Mp):Int:=su (λx=>x.ln*x.ln) l
def sD(l:List Mp):Int:=su (λx=>x.ln*x.sm) l
def sE(l:List Mp):Int:=su (λx=>x.sm*x.sm) l
def DD(l:List Mp):Int:=dt (sN l) (sA l) (sB l) (sC l) (sD l) (sE l)
def QQ(l:List Mp)(p q:Int):Int:=qf (sN l) (sA l) (sB l) (sC l) (sD l) (sE l) p q
def RR(l:List Mp)(x y z:Int):Int:=rf (sN l) (sA l) (sB l) (sC l) (sD l) (sE l) x y z
theorem x9b(x:Mp)(l:List Mp):DD (x::l)=DD l+QQ l x.ln x.sm:=by
 unfold DD QQ sN sA sB sC sD sE
 simp only[su]
 rw[<-dt_step]
 congr 1<;>omega
theorem x8p(x:Mp)(l:List Mp)(p q:Int):QQ (x::l) p q=QQ l p q+RR l (p*x.sm-q*x.ln) (q-x.sm) (x.ln-p):=by
 unfold QQ RR sN sA sB sC sD sE
 simp only[su]
 rw[<-qf_step]
 congr 1<;>omega
theorem xa4(t:Mp)(l:List Mp)(x y z:Int):RR (t::l) x y z=RR l x y z+(x+y*t.ln+z*t.sm)*(x+y*t.ln+z*t.sm):=by
 unfold RR sN sA sB sC sD sE
 simp only[su]
 rw[<-rf_step]
 congr 1<;>omega
theorem xcw(x:Int):0<=x*x:=by
 rcases Int.le_total 0 x with h|h
 .exact Int.mul_nonneg h h
 .have:=Int.mul_nonneg (show 0<=-x by omega) (show 0<=-x by omega)
  rwa[Int.neg_mul_neg]at this
theorem sq_pos{x:Int}(h:x≠0):0<x*x:=by
 have h1:=xcw x
 have h2:x*x≠0:=Int.mul_ne_zero h h
 omega
theorem xb4(x y z:Int):RR [] x y z=0:=by unfold RR sN sA sB sC sD sE rf;simp[su]
theorem xb5(p q:Int):QQ [] p q=0:=by unfold QQ sN sA sB sC sD sE qf;simp[su]
theorem DD_nil:DD []=0:=by unfold DD sN sA sB sC sD sE dt;simp[su]
theorem RR_nn(x y z:Int):∀l:List Mp,0<=RR l x y z
 |[]=>by rw[xb4];omega
 |t::l=>by
  rw[xa4]
  have:=RR_nn x y z l
  have:=xcw (x+y*t.ln+z*t.sm)
  omega
theorem QQ_nn(p q:Int):∀l:List Mp,0<=QQ l p q
 |[]=>by rw[xb5];omega
 |t::l=>by
  rw[x8p]
  have:=QQ_nn p q l
  have:=RR_nn (p*t.sm-q*t.ln) (q-t.sm) (t.ln-p) l
  omega
theorem RR_mono{x y z:Int}{l k:List Mp}(h:l.Sublist k):RR l x y z<=RR k x y z:=by
 induction h with
 |slnil=>exact Int.le_refl _
 |cons a _ ih=>
  rw[xa4]
  have:=xcw (x+y*a.ln+z*a.sm)
  omega
 |cons_cons a _ ih=>rw[xa4,xa4];omega
theorem QQ_mono{p q:Int}{l k:List Mp}(h:l.Sublist k):QQ l p q<=QQ k p q:=by
 induction h with
 |slnil=>exact Int.le_refl _
 |cons a _ ih=>
  rw[x8p]
  rename_i l1 l2 h
  have:=RR_nn (p*a.sm-q*a.ln) (q-a.sm) (a.ln-p) l2
  omega
 |cons_cons a h ih=>
  rw[x8p,x8p]
  have:=RR_mono (x:=p*a.sm-q*a.ln) (y:=q-a.sm) (z:=a.ln-p) h
  omega
theorem DD_mono{l k:List Mp}(h:l.Sublist k):DD l<=DD k:=by
 induction h with
 |slnil=>exact Int.le_refl _
 |cons a _ ih=>
  rw[x9b]
  rename_i l1 l2 h
  have:=QQ_nn a.ln a.sm l2
  omega
 |cons_cons a h ih=>
  rw[x9b,x9b]
  have:=QQ_mono (p:=a.ln) (q:=a.sm) h
  omega
def pr(f x y:Mp):Int:=(x.ln-f.ln)*(y.sm-f.sm)-(x.sm-f.sm)*(y.ln-f.ln)
theorem DD_three(f x y:Mp):DD [f,x,y]=pr f x y*pr f x y:=by
 rw[x9b,x9b,x9b,DD_nil,x8p,x8p,xb5,x8p,xb5,xb5,xa4,xb4,xb4,xb4]
 unfold pr;grind
def rk2(x y z:Int):List Mp->Int
 |[]=>2
 |p::l=>if x+y*p.ln+z*p.sm≠0 then 3 else rk2 x y z l
def rk1(f:Mp):List Mp->Int
 |[]=>1
 |p::l=>if p.ln=f.ln/\p.sm=f.sm then rk1 f l else rk2 (f.ln*p.sm-f.sm*p.ln) (f.sm-p.sm) (p.ln-f.ln) l
def rkM:List Mp->Int
 |[]=>0
 |f::l=>rk1 f (f::l)
theorem pr_eq(f x y:Mp):(f.ln*x.sm-f.sm*x.ln)+(f.sm-x.sm)*y.ln+(x.ln-f.ln)*y.sm=pr f x y:=by unfold pr;grind
theorem rk2_ok(f p:Mp):∀l:List Mp,(rk2 (f.ln*p.sm-f.sm*p.ln) (f.sm-p.sm) (p.ln-f.ln) l=3/\∃y∈l,pr f p y≠0)\/(rk2 (f.ln*p.sm-f.sm*p.ln) (f.sm-p.sm) (p.ln-f.ln) l=2/\∀y∈l,pr f p y=0)
 |[]=>.inr ⟨rfl,by simp⟩
 |y::l=>by
  rw[rk2,pr_eq]
  by_cases h:pr f p y=0
  .rw[xhl (by simpa using h)]
   rcases rk2_ok f p l with ⟨h1,z,h2,h3⟩|⟨h1,h2⟩
   .exact .inl ⟨h1,z,xhr _ h2,h3⟩
   .refine .inr ⟨h1,λz hz=>?_⟩
    rcases xhu.mp hz with rfl|hz
    .exact h
    .exact h2 z hz
  .rw[xhk h]
   exact .inl ⟨rfl,y,xhs ..,h⟩
def Mp.at(f x:Mp):Prop:=x.ln=f.ln/\x.sm=f.sm
instance (f x:Mp):Decidable (f.at x):=by unfold Mp.at;infer_instance
theorem rk1_ok(f:Mp):∀l:List Mp,(rk1 f l=1/\∀x∈l,f.at x) \/
 (∃A p B,l=A++p::B/\(∀x∈A,f.at x)/\¬f.at p/\rk1 f l=rk2 (f.ln*p.sm-f.sm*p.ln) (f.sm-p.sm) (p.ln-f.ln) B)
 |[]=>.inl ⟨rfl,by simp⟩
 |x::l=>by
  rw[rk1]
  by_cases h:x.ln=f.ln/\x.sm=f.sm
  .rw[xhk h]
   rcases rk1_ok f l with ⟨h1,h2⟩|⟨A,p,B,h1,h2,h3,h4⟩
   .refine .inl ⟨h1,λz hz=>?_⟩
    rcases xhu.mp hz with rfl|hz
    .exact h
    .exact h2 z hz
   .refine .inr ⟨x::A,p,B,by rw[h1];rfl,λz hz=>?_,h3,h4⟩
    rcases xhu.mp hz with rfl|hz
    .exact h
    .exact h2 z hz
  .rw[xhl h]
   exact .inr ⟨[],x,l,rfl,by simp,h,rfl⟩
theorem pr_self(f x:Mp):pr f x x=0:=by unfold pr;rw[Int.mul_comm];omega
theorem pr_at2{f x y:Mp}(h:f.at y):pr f x y=0:=by
 unfold pr;rw[h.1,h.2];simp
theorem rkM_ok(f:Mp)(l:List Mp):(rkM (f::l)=1/\∀x∈f::l,f.at x) \/
 (∃p∈f::l,¬f.at p/\rkM (f::l)=2/\∀y∈f::l,pr f p y=0) \/
 (∃p y,[f,p,y].Sublist (f::l)/\¬f.at p/\rkM (f::l)=3/\pr f p y≠0):=by
 have hf:f.at f:=⟨rfl,rfl⟩
 have e:rkM (f::l)=rk1 f l:=by
  show rk1 f (f::l)=_
  rw[rk1,xhk (show f.ln=f.ln/\f.sm=f.sm from⟨rfl,rfl⟩)]
 rw[e]
 rcases rk1_ok f l with ⟨h1,h2⟩|⟨A,p,B,rfl,h2,h3,h4⟩
 .refine .inl ⟨h1,λx hx=>?_⟩
  rcases xhu.mp hx with rfl|hx
  .exact hf
  .exact h2 x hx
 .rcases rk2_ok f p B with ⟨h5,y,h6,h7⟩|⟨h5,h6⟩
  .refine .inr (.inr ⟨p,y,?_,h3,by rw[h4,h5],h7⟩)
   refine List.Sublist.cons_cons f ?_
   exact(List.Sublist.cons_cons p (List.singleton_sublist.mpr h6)).trans (List.sublist_append_right A (p::B))
  .refine .inr (.inl ⟨p,by simp,h3,by rw[h4,h5],λy hy=>?_⟩)
   rcases xhu.mp hy with rfl|hy
   .exact pr_at2 hf
   .rcases xij.mp hy with hy|hy
    .exact pr_at2 (h2 y hy)
    .rcases xhu.mp hy with rfl|hy
     .exact pr_self f y
     .exact h6 y hy
theorem rk_det{l:List Mp}(h:rkM l=3):0<DD l:=by
 match l with
 |[]=>simp[rkM]at h
 |f::l=>
  rcases rkM_ok f l with ⟨h1,-⟩|⟨p,-,-,h1,-⟩|⟨p,y,h1,-,-,h4⟩
  .omega
  .omega
  .have h5:=DD_mono h1
   rw[DD_three]at h5
   have:=sq_pos h4
   omega
theorem dt_null{n a b c d e x y z:Int}(h0:x*n+y*a+z*b=0)(h1:x*a+y*c+z*d=0)(h2:x*b+y*d+z*e=0):dt n a b c d e*x=0/\dt n a b c d e*y=0/\dt n a b c d e*z=0:=by
 unfold dt
 refine⟨?_,?_,?_⟩
 .have:(n*(c*e-d*d)-a*(a*e-d*b)+b*(a*d-c*b))*x=(x*n+y*a+z*b)*(c*e-d*d)-(x*a+y*c+z*d)*(a*e-d*b)+(x*b+y*d+z*e)*(a*d-c*b):=by grind
  rw[this,h0,h1,h2];simp
 .have:(n*(c*e-d*d)-a*(a*e-d*b)+b*(a*d-c*b))*y=(x*a+y*c+z*d)*(n*e-b*b)-(x*n+y*a+z*b)*(a*e-d*b)-(x*b+y*d+z*e)*(n*d-a*b):=by grind
  rw[this,h0,h1,h2];simp
 .have:(n*(c*e-d*d)-a*(a*e-d*b)+b*(a*d-c*b))*z=(x*b+y*d+z*e)*(n*c-a*a)-(x*a+y*c+z*d)*(n*d-a*b)+(x*n+y*a+z*b)*(a*d-c*b):=by grind
  rw[this,h0,h1,h2];simp
theorem xb6{x y z:Int}{g:Mp->Int}:∀{l:List Mp},(∀p∈l,x+y*p.ln+z*p.sm=0)->x*su g l+y*su (λp=>p.ln*g p) l+z*su (λp=>p.sm*g p) l=0
 |[],_=>by simp[su]
 |p::l,h=>by
  have h1:=h p (xhs ..)
  have ih:=xb6 (g:=g) (l:=l) λq hq=>h q (xhr _ hq)
  simp only[su]
  have e:x*(g p+su g l)+y*(p.ln*g p+su (λp=>p.ln*g p) l)+z*(p.sm*g p+su (λp=>p.sm*g p) l)=(x+y*p.ln+z*p.sm)*g p+(x*su g l+y*su (λp=>p.ln*g p) l+z*su (λp=>p.sm*g p) l):=by grind
  rw[e,h1,ih];simp
theorem DD_null{l:List Mp}{x y z:Int}(h:∀p∈l,x+y*p.ln+z*p.sm=0)(hne:x≠0\/y≠0\/z≠0):DD l=0:=by
 have h0:=xb6 (g:=λ_=>1) h
 have h1:=xb6 (g:=Mp.ln) h
 have h2:=xb6 (g:=Mp.sm) h
 have e0:su (λp=>p.ln*1) l=sA l:=by unfold sA;simp
 have e1:su (λp=>p.sm*1) l=sB l:=by unfold sB;simp
 have e2:su (λp=>p.sm*p.ln) l=sD l:=by unfold sD;congr 1;funext p;rw[Int.mul_comm]
 rw[e0,e1]at h0
 rw[e2]at h1
 obtain⟨q0,q1,q2⟩:=dt_null (n:=sN l) (a:=sA l) (b:=sB l) (c:=sC l) (d:=sD l) (e:=sE l) h0 h1 h2
 rcases hne with h|h|h
 .exact(xkv.mp q0).resolve_right h
 .exact(xkv.mp q1).resolve_right h
 .exact(xkv.mp q2).resolve_right h
theorem det_rk{l:List Mp}(h:0<DD l):rkM l=3:=by
 match l with
 |[]=>rw[DD_nil]at h;omega
 |f::l=>
  rcases rkM_ok f l with ⟨-,h1⟩|⟨p,-,h2,-,h1⟩|⟨p,y,-,-,h1,-⟩
  .have:=DD_null (l:=f::l) (x:=f.ln) (y:=-1) (z:=0) (λp hp=>by rw[(h1 p hp).1];omega) (by omega)
   omega
  .have:=DD_null (l:=f::l) (x:=f.ln*p.sm-f.sm*p.ln) (y:=f.sm-p.sm) (z:=p.ln-f.ln) (λy hy=>by rw[pr_eq];exact h1 y hy) (by
    by_cases e:p.ln=f.ln
    .exact .inr (.inl λe2=>h2 ⟨e,by omega⟩)
    .exact .inr (.inr (by omega)))
   omega
  .exact h1
open Go.Proofs
def eG(a b:Int):Int:=if h:b=0 then a else eG b (a.tmod b)
termination_by b.natAbs
decreasing_by
 have:=Int.natAbs_tmod a b
 rw[this]
 exact xj0 _ (by omega)
theorem eG_0(a:Int):eG a 0=a:=by rw[eG];simp
theorem eG_s{a b:Int}(h:b≠0):eG a b=eG b (a.tmod b):=by rw[eG,dif_neg h]
theorem eG_gcd:∀(n:Nat) (a b:Int),b.natAbs<=n->(eG a b).natAbs=Int.gcd a b:=by
 intro n
 induction n with
 |zero=>
  intro a b h
  have:b=0:=by omega
  subst this
  rw[eG_0];simp
 |succ n ih=>
  intro a b h
  by_cases hb:b=0
  .subst hb;rw[eG_0];simp
  .rw[eG_s hb]
   have h1:(a.tmod b).natAbs<b.natAbs:=by rw[Int.natAbs_tmod];exact xj0 _ (by omega)
   rw[ih b (a.tmod b) (by omega)]
   unfold Int.gcd
   rw[Int.natAbs_tmod,Nat.gcd_comm,<-Nat.gcd_rec,Nat.gcd_comm]
theorem mod_half{a b:Nat}(hb:0<b)(h1:0<a % b):2*(b % (a % b))<b:=by
 have h2:a % b<b:=xj0 _ hb
 have h3:b % (a % b)<a % b:=xj0 _ h1
 have h4:=Nat.div_add_mod b (a % b)
 have h5:1<=b / (a % b):=(Nat.one_le_div_iff h1).mpr (by omega)
 have h6:(a % b)*1<=(a % b)*(b / (a % b)):=Nat.mul_le_mul_left _ h5
 omega
theorem build_F(x y:Int):x6c [I 0,I 0] [(0,1,I x),(1,1,I y)]=some (.agg [I x,I y]):=by simp[x6c,x6x]
theorem tdiv_le{a b:Int}:(a.tdiv b).natAbs<=a.natAbs:=by rw[Int.natAbs_tdiv];exact Nat.div_le_self _ _
def bd(x b:Int):Prop:=-b<=x/\x<=b
theorem bd.add{x y a b:Int}(h:bd x a)(k:bd y b):bd (x+y) (a+b):=by unfold bd at *;omega
theorem bd.sub{x y a b:Int}(h:bd x a)(k:bd y b):bd (x-y) (a+b):=by unfold bd at *;omega
theorem bd.neg{x a:Int}(h:bd x a):bd (-x) a:=by unfold bd at *;omega
theorem bd.abs{x a:Int}:bd x a↔(x.natAbs:Int)<=a:=by unfold bd;omega
theorem bd.mul{x y a b:Int}(h:bd x a)(k:bd y b):bd (x*y) (a*b):=by
 rw[bd.abs]at *
 rw[Int.natAbs_mul,Int.natCast_mul]
 exact Int.mul_le_mul h k (by omega) (by omega)
theorem bd.mono{x a b:Int}(h:bd x a)(k:a<=b):bd x b:=by unfold bd at *;omega
theorem bd.zero{b:Int}(h:0<=b):bd 0 b:=by unfold bd;omega
def gl(g:Int)(l:List Int):Int:=l.foldl (λg x=>(Int.gcd g x:Int)) g
theorem gl_mul{k:Int}(hk:0<=k):∀(l:List Int) (g:Int),gl (k*g) (l.map (k*·))=if l=[]then k*g else k*gl g l
 |[],g=>by simp[gl]
 |x::l,g=>by
  have e:((Int.gcd (k*g) (k*x):Nat):Int)=k*(Int.gcd g x:Int):=by
   rw[Int.gcd_mul_left,Int.natCast_mul,Int.natAbs_of_nonneg hk]
  have:=gl_mul hk l (Int.gcd g x:Int)
  rw[xhl (by simp)]
  unfold gl at *
  simp only[xhw,xjv,e,this]
  split
  .rename_i h;subst h;simp
  .rfl
theorem xb7:∀(l:List Int) (g:Int),gl g l ∣ g/\∀x∈l,gl g l ∣ x
 |[],g=>⟨Int.dvd_refl _,by simp⟩
 |x::l,g=>by
  obtain⟨h1,h2⟩:=xb7 l (Int.gcd g x:Int)
  have e:gl g (x::l)=gl (Int.gcd g x:Int) l:=rfl
  rw[e]
  refine⟨Int.dvd_trans h1 (Int.gcd_dvd_left ..),λy hy=>?_⟩
  rcases xhu.mp hy with rfl|hy
  .exact Int.dvd_trans h1 (Int.gcd_dvd_right ..)
  .exact h2 y hy
theorem xb8:∀(l:List Int) {g:Int},0<g->0<gl g l
 |[],_,h=>h
 |x::l,g,h=>by
  have:0<Int.gcd g x:=Int.gcd_pos_of_ne_zero_left x (by omega)
  exact xb8 l (show(0:Int)<(Int.gcd g x:Int) by omega)
theorem gl_same{D D':Int}(hD:0<D)(hD':0<D'){l l':List Int}(hl:l.map (D'*·)=l'.map (D*·)):D / gl D l=D' / gl D' l'/\l.map (· / gl D l)=l'.map (· / gl D' l'):=by
 have h1:=gl_mul (k:=D') (by omega) l D
 have h2:=gl_mul (k:=D) (by omega) l' D'
 rw[hl,Int.mul_comm D' D,h2]at h1
 have hn:l=[]↔l'=[]:=by
  constructor
  .rintro rfl;simpa using hl.symm
  .rintro rfl;simpa using hl
 have hg:D*gl D' l'=D'*gl D l:=by
  by_cases h:l'=[]
  .have:=hn.mpr h
   subst this;subst h
   unfold gl;simp[Int.mul_comm]
  .have h':l≠[]:=λe=>h (hn.mp e)
   rw[xhl h,xhl h']at h1
   exact h1
 have p1:=xb8 l hD
 have p2:=xb8 l' hD'
 obtain⟨⟨a,ha⟩,da⟩:=xb7 l D
 obtain⟨⟨b,hb⟩,db⟩:=xb7 l' D'
 generalize gl D l=g at *
 generalize gl D' l'=g' at *
 have key:∀x y:Int,D'*x=D*y->g ∣ x->g' ∣ y->x / g=y / g':=by
  rintro x y h ⟨u,rfl⟩ ⟨v,rfl⟩
  rw[Int.mul_ediv_cancel_left _ (by omega),Int.mul_ediv_cancel_left _ (by omega)]
  have e:(D*g')*u=(D*g')*v:=by
   have:D'*(g*u)=(D*g')*u:=by rw[hg,Int.mul_assoc]
   rw[<-this,h,Int.mul_assoc]
  have hne:D*g'≠0:=by
   have:=Int.mul_pos hD p2
   omega
  exact Int.eq_of_mul_eq_mul_left hne e
 refine⟨key D D' (Int.mul_comm _ _) ⟨a,ha⟩ ⟨b,hb⟩,?_⟩
 have hlen:l.length=l'.length:=by
  have:=congrArg List.length hl
  simpa using this
 apply List.ext_getElem
 .simpa using hlen
 .intro i h1 h2
  simp at h1 h2
  simp only[List.getElem_map]
  refine key _ _ ?_ (da _ (xih h1)) (db _ (xih h2))
  have:(l.map (D'*·))[i]'(by simpa using h1)=(l'.map (D*·))[i]'(by simpa using h2):=by
   simp only[hl]
  simpa using this
def c0(n a b c d e x y z:Int):Int:=x*(c*e-d*d)-y*(a*e-b*d)+z*(a*d-b*c)
def c1(n a b c d e x y z:Int):Int:=n*(y*e-z*d)-x*(a*e-b*d)+b*(a*z-b*y)
def c2(n a b c d e x y z:Int):Int:=n*(c*z-d*y)-a*(a*z-b*y)+x*(a*d-b*c)
theorem cr0(n a b c d e x y z:Int):n*c0 n a b c d e x y z+a*c1 n a b c d e x y z+b*c2 n a b c d e x y z=dt n a b c d e*x:=by unfold c0 c1 c2 dt;grind
theorem cr1(n a b c d e x y z:Int):a*c0 n a b c d e x y z+c*c1 n a b c d e x y z+d*c2 n a b c d e x y z=dt n a b c d e*y:=by unfold c0 c1 c2 dt;grind
theorem cr2(n a b c d e x y z:Int):b*c0 n a b c d e x y z+d*c1 n a b c d e x y z+e*c2 n a b c d e x y z=dt n a b c d e*z:=by unfold c0 c1 c2 dt;grind
theorem crU{n a b c d e x y z k p q r:Int}(h0:n*p+a*q+b*r=k*x)(h1:a*p+c*q+d*r=k*y)(h2:b*p+d*q+e*r=k*z) :
 dt n a b c d e*p=k*c0 n a b c d e x y z/\dt n a b c d e*q=k*c1 n a b c d e x y z/\dt n a b c d e*r=k*c2 n a b c d e x y z:=by
 have e0:k*c0 n a b c d e x y z=(k*x)*(c*e-d*d)-(k*y)*(a*e-b*d)+(k*z)*(a*d-b*c):=by unfold c0;grind
 have e1:k*c1 n a b c d e x y z=(k*y)*(n*e-b*b)-(k*z)*(n*d-a*b)-(k*x)*(a*e-b*d):=by unfold c1;grind
 have e2:k*c2 n a b c d e x y z=(k*z)*(n*c-a*a)-(k*y)*(n*d-a*b)+(k*x)*(a*d-b*c):=by unfold c2;grind
 rw[e0,e1,e2,<-h0,<-h1,<-h2]
 unfold dt
 refine⟨?_,?_,?_⟩<;>grind
def of0(g:Mp->Int)(l:List Mp):Int:=su g l
def of1(g:Mp->Int)(l:List Mp):Int:=su (λx=>x.ln*g x) l
def of2(g:Mp->Int)(l:List Mp):Int:=su (λx=>x.sm*g x) l
def C0(g:Mp->Int)(l:List Mp):Int:=c0 (sN l) (sA l) (sB l) (sC l) (sD l) (sE l) (of0 g l) (of1 g l) (of2 g l)
def C1(g:Mp->Int)(l:List Mp):Int:=c1 (sN l) (sA l) (sB l) (sC l) (sD l) (sE l) (of0 g l) (of1 g l) (of2 g l)
def C2(g:Mp->Int)(l:List Mp):Int:=c2 (sN l) (sA l) (sB l) (sC l) (sD l) (sE l) (of0 g l) (of1 g l) (of2 g l)
def x5m(l:List Mp):List Int:=[C0 Mp.b0 l,C0 Mp.b1 l,C1 Mp.b0 l,C1 Mp.b1 l,C2 Mp.b0 l,C2 Mp.b1 l]
def gF(l:List Mp):Int:=gl (DD l) (x5m l)
structure Aff where
 den:Int
 l0:Int
 l1:Int
 l2:Int
 s0:Int
 s1:Int
 s2:Int
def Aff.c(f:Aff):List AV:=[I f.den,I f.l0,I f.l1,I f.l2,I f.s0,I f.s1,I f.s2]
def fitM(l:List Mp):Aff:=⟨DD l / gF l,C0 Mp.b0 l / gF l,C1 Mp.b0 l / gF l,C2 Mp.b0 l / gF l,C0 Mp.b1 l / gF l,C1 Mp.b1 l / gF l,C2 Mp.b1 l / gF l⟩
def x6g(f:Aff)(x:Mp):Int:=f.den*x.b0-f.l0-f.l1*x.ln-f.l2*x.sm
def x6h(f:Aff)(x:Mp):Int:=f.den*x.b1-f.s0-f.s1*x.ln-f.s2*x.sm
theorem xb9(g h:Mp->Int)(k p q r:Int):∀l:List Mp,su (λx=>(k*h x-p-q*x.ln-r*x.sm)*g x) l=k*su (λx=>h x*g x) l-p*su g l-q*su (λx=>x.ln*g x) l-r*su (λx=>x.sm*g x) l
 |[]=>by simp[su]
 |x::l=>by
  simp only[su,xb9 g h k p q r l]
  grind
theorem miss_of{l:List Mp}{h:Mp->Int}{k p q r:Int}(h0:sN l*p+sA l*q+sB l*r=k*of0 h l)(h1:sA l*p+sC l*q+sD l*r=k*of1 h l)(h2:sB l*p+sD l*q+sE l*r=k*of2 h l) :
 su (λx=>k*h x-p-q*x.ln-r*x.sm) l=0/\su (λx=>(k*h x-p-q*x.ln-r*x.sm)*x.ln) l=0/\su (λx=>(k*h x-p-q*x.ln-r*x.sm)*x.sm) l=0:=by
 have e0:=xb9 (λ_=>1) h k p q r l
 have e1:=xb9 Mp.ln h k p q r l
 have e2:=xb9 Mp.sm h k p q r l
 simp only[Int.mul_one]at e0
 have a1:su (λx=>h x*x.ln) l=of1 h l:=by unfold of1;congr 1;funext x;rw[Int.mul_comm]
 have a2:su (λx=>h x*x.sm) l=of2 h l:=by unfold of2;congr 1;funext x;rw[Int.mul_comm]
 have a3:su (λx=>x.sm*x.ln) l=sD l:=by unfold sD;congr 1;funext x;rw[Int.mul_comm]
 rw[a1,a3]at e1
 rw[a2]at e2
 refine⟨?_,?_,?_⟩
 .rw[e0]
  show k*of0 h l-p*sN l-q*sA l-r*sB l=0
  rw[<-h0];grind
 .rw[e1]
  show k*of1 h l-p*sA l-q*sC l-r*sD l=0
  rw[<-h1];grind
 .rw[e2]
  show k*of2 h l-p*sB l-q*sD l-r*sE l=0
  rw[<-h2];grind
theorem xa5{l:List Mp}(h:0<DD l):0<gF l:=xb8 _ h
theorem xa6(l:List Mp):gF l ∣ DD l/\∀x∈x5m l,gF l ∣ x:=xb7 _ _
theorem x9c{g p q r k a b c x:Int}(hg:0<g)(hp:g ∣ p)(hq:g ∣ q)(hr:g ∣ r)(hk:g ∣ k)(h:a*p+b*q+c*r=k*x):a*(p / g)+b*(q / g)+c*(r / g)=(k / g)*x:=by
 obtain⟨p,rfl⟩:=hp
 obtain⟨q,rfl⟩:=hq
 obtain⟨r,rfl⟩:=hr
 obtain⟨k,rfl⟩:=hk
 rw[Int.mul_ediv_cancel_left _ (by omega),Int.mul_ediv_cancel_left _ (by omega),Int.mul_ediv_cancel_left _ (by omega),Int.mul_ediv_cancel_left _ (by omega)]
 have:g*(a*p+b*q+c*r)=g*(k*x):=by rw[<-Int.mul_assoc g k x,<-h];grind
 exact Int.eq_of_mul_eq_mul_left (by omega) this
theorem xf1{l:List Mp}(h:0<DD l) :
 (sN l*(fitM l).l0+sA l*(fitM l).l1+sB l*(fitM l).l2=(fitM l).den*of0 Mp.b0 l/\sA l*(fitM l).l0+sC l*(fitM l).l1+sD l*(fitM l).l2=(fitM l).den*of1 Mp.b0 l/\sB l*(fitM l).l0+sD l*(fitM l).l1+sE l*(fitM l).l2=(fitM l).den*of2 Mp.b0 l) /\
 (sN l*(fitM l).s0+sA l*(fitM l).s1+sB l*(fitM l).s2=(fitM l).den*of0 Mp.b1 l/\sA l*(fitM l).s0+sC l*(fitM l).s1+sD l*(fitM l).s2=(fitM l).den*of1 Mp.b1 l/\sB l*(fitM l).s0+sD l*(fitM l).s1+sE l*(fitM l).s2=(fitM l).den*of2 Mp.b1 l):=by
 have hg:=xa5 h
 obtain⟨d0,d1⟩:=xa6 l
 have t0:=d1 (C0 Mp.b0 l) (by simp[x5m])
 have t1:=d1 (C0 Mp.b1 l) (by simp[x5m])
 have t2:=d1 (C1 Mp.b0 l) (by simp[x5m])
 have t3:=d1 (C1 Mp.b1 l) (by simp[x5m])
 have t4:=d1 (C2 Mp.b0 l) (by simp[x5m])
 have t5:=d1 (C2 Mp.b1 l) (by simp[x5m])
 refine⟨⟨?_,?_,?_⟩,?_,?_,?_⟩
 .exact x9c hg t0 t2 t4 d0 (cr0 ..)
 .exact x9c hg t0 t2 t4 d0 (cr1 ..)
 .exact x9c hg t0 t2 t4 d0 (cr2 ..)
 .exact x9c hg t1 t3 t5 d0 (cr0 ..)
 .exact x9c hg t1 t3 t5 d0 (cr1 ..)
 .exact x9c hg t1 t3 t5 d0 (cr2 ..)
theorem fit_den{l:List Mp}(h:0<DD l):0<(fitM l).den:=by
 have hg:=xa5 h
 exact Int.ediv_pos_of_pos_of_dvd h (by omega) (xa6 l).1
theorem fit_same{l k:List Mp}(hl:0<DD l)(hk:0<DD k)(h0:sN k*(fitM l).l0+sA k*(fitM l).l1+sB k*(fitM l).l2=(fitM l).den*of0 Mp.b0 k)(h1:sA k*(fitM l).l0+sC k*(fitM l).l1+sD k*(fitM l).l2=(fitM l).den*of1 Mp.b0 k)(h2:sB k*(fitM l).l0+sD k*(fitM l).l1+sE k*(fitM l).l2=(fitM l).den*of2 Mp.b0 k)(h3:sN k*(fitM l).s0+sA k*(fitM l).s1+sB k*(fitM l).s2=(fitM l).den*of0 Mp.b1 k)(h4:sA k*(fitM l).s0+sC k*(fitM l).s1+sD k*(fitM l).s2=(fitM l).den*of1 Mp.b1 k)(h5:sB k*(fitM l).s0+sD k*(fitM l).s1+sE k*(fitM l).s2=(fitM l).den*of2 Mp.b1 k) :
 fitM k=fitM l:=by
 obtain⟨a0,a1,a2⟩:=crU h0 h1 h2
 obtain⟨b0,b1,b2⟩:=crU h3 h4 h5
 have hg:=xa5 hl
 obtain⟨d0,d1⟩:=xa6 l
 have t0:=d1 (C0 Mp.b0 l) (by simp[x5m])
 have t1:=d1 (C0 Mp.b1 l) (by simp[x5m])
 have t2:=d1 (C1 Mp.b0 l) (by simp[x5m])
 have t3:=d1 (C1 Mp.b1 l) (by simp[x5m])
 have t4:=d1 (C2 Mp.b0 l) (by simp[x5m])
 have t5:=d1 (C2 Mp.b1 l) (by simp[x5m])
 have key:∀{C C':Int},gF l ∣ C->DD k*(C / gF l)=(DD l / gF l)*C'->DD k*C=DD l*C':=by
  rintro C C' ⟨u,rfl⟩ h
  obtain⟨v,hv⟩:=d0
  rw[hv]at h ⊢
  rw[Int.mul_ediv_cancel_left _ (by omega),Int.mul_ediv_cancel_left _ (by omega)]at h
  have:DD k*(gF l*u)=gF l*(DD k*u):=by grind
  rw[this,h];grind
 have hl':(x5m l).map (DD k*·)=(x5m k).map (DD l*·):=by
  simp only[x5m,xhw,xi9,xjm,and_true]
  exact⟨key t0 a0,key t1 b0,key t2 a1,key t3 b1,key t4 a2,key t5 b2⟩
 obtain⟨e0,e1⟩:=gl_same hl hk hl'
 have f0:DD l / gF l=DD k / gF k:=e0
 have f1:(x5m l).map (· / gF l)=(x5m k).map (· / gF k):=e1
 simp only[x5m,xhw,xi9,xjm,and_true]at f1
 obtain⟨g0,g1,g2,g3,g4,g5⟩:=f1
 unfold fitM
 rw[f0,g0,g1,g2,g3,g4,g5]
theorem DD_rev(l:List Mp):DD l.reverse=DD l:=by
 unfold DD sN sA sB sC sD sE
 simp only[su_rev]
theorem xba(l:List Mp):fitM l.reverse=fitM l:=by
 have e:x5m l.reverse=x5m l:=by
  unfold x5m C0 C1 C2 sN sA sB sC sD sE of0 of1 of2
  simp only[su_rev]
 have e1:gF l.reverse=gF l:=by unfold gF;rw[e,DD_rev]
 unfold fitM
 rw[e1,DD_rev]
 unfold C0 C1 C2 sN sA sB sC sD sE of0 of1 of2
 simp only[su_rev]
theorem fit_more{l:List Mp}{x:Mp}(h:0<DD l)(h0:x6g (fitM l) x=0)(h1:x6h (fitM l) x=0):0<DD (l++[x])/\fitM (l++[x])=fitM l:=by
 have hk:0<DD (l++[x]):=by
  have:=DD_mono (List.sublist_append_left l [x])
  omega
 obtain⟨⟨a0,a1,a2⟩,b0,b1,b2⟩:=xf1 h
 refine⟨hk,fit_same h hk ?_ ?_ ?_ ?_ ?_ ?_⟩
 all_goals
  simp only[sN,sA,sB,sC,sD,sE,of0,of1,of2,x9a,xa3]at *
  unfold x6g at h0
  unfold x6h at h1
 .have:(fitM l).den*(su Mp.b0 l+x.b0)=(fitM l).den*su Mp.b0 l+(fitM l).den*x.b0:=Int.mul_add ..
  rw[this,<-a0];grind
 .have:(fitM l).den*(su (λx=>x.ln*x.b0) l+x.ln*x.b0)=(fitM l).den*su (λx=>x.ln*x.b0) l+x.ln*((fitM l).den*x.b0):=by grind
  rw[this,<-a1,show(fitM l).den*x.b0=(fitM l).l0+(fitM l).l1*x.ln+(fitM l).l2*x.sm by omega];grind
 .have:(fitM l).den*(su (λx=>x.sm*x.b0) l+x.sm*x.b0)=(fitM l).den*su (λx=>x.sm*x.b0) l+x.sm*((fitM l).den*x.b0):=by grind
  rw[this,<-a2,show(fitM l).den*x.b0=(fitM l).l0+(fitM l).l1*x.ln+(fitM l).l2*x.sm by omega];grind
 .have:(fitM l).den*(su Mp.b1 l+x.b1)=(fitM l).den*su Mp.b1 l+(fitM l).den*x.b1:=Int.mul_add ..
  rw[this,<-b0];grind
 .have:(fitM l).den*(su (λx=>x.ln*x.b1) l+x.ln*x.b1)=(fitM l).den*su (λx=>x.ln*x.b1) l+x.ln*((fitM l).den*x.b1):=by grind
  rw[this,<-b1,show(fitM l).den*x.b1=(fitM l).s0+(fitM l).s1*x.ln+(fitM l).s2*x.sm by omega];grind
 .have:(fitM l).den*(su (λx=>x.sm*x.b1) l+x.sm*x.b1)=(fitM l).den*su (λx=>x.sm*x.b1) l+x.sm*((fitM l).den*x.b1):=by grind
  rw[this,<-b2,show(fitM l).den*x.b1=(fitM l).s0+(fitM l).s1*x.ln+(fitM l).s2*x.sm by omega];grind
end Go.Ix
