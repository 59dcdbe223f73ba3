import Derived.Test.YtgediplphidhpaaGreatWg0
import Derived.Test.YtgediplphidhpaaGreatFxSound
import Derived.Laws.StructEq
import Derived.Test.YtgediplphidhpaaGreatRows
import Derived.Test.YtgediplphidhpaaGreatFxLaw
set_option linter.unusedSimpArgs false
namespace Go.Ix
open Go.Proofs
structure Scene where
 nm:ByteArray
 day:Int
 bl:Int
def Scene.c(s:Scene):List AV:=[T s.nm,I s.day,I s.bl]
theorem Scene.len(s:Scene):s.c.length=3:=rfl
@[simp] theorem cells_T(s:ByteArray):(T s).cells=[T s]:=rfl
@[simp] theorem one_T(s:ByteArray):(T s).one=true:=rfl
end Go.Ix
set_option linter.unusedVariables false
namespace Go.Ix
open Go.Proofs
variable{P:Program}
theorem xpa{α β:Type}(f:α->Sem β):∀s:Sem α,xo1 P (s >>= f)=(xo1 P s).bind λa=>xo1 P (f a):=by
 intro s
 show xo1 P (Sem.bind s f)=_
 induction s with
 |pure a=>rfl
 |program k ih=>exact ih P
 |mark x k ih=>exact ih
 |_=>rfl
theorem xqp{α:Type}(a:α):xo1 P (pure a:Sem α)=some a:=rfl
theorem xz9:xo1 P program=some P:=rfl
theorem xx5{t:TypeId}{d:TypeDesc}(h:P.underlying t=some d):xo1 P (underlying t)=some d:=by
 simp only[underlying,xpa,xz9,xnz,h]
 rfl
theorem x12o(d:Nat)(t:TypeId)(xs ys:Array Value)(ht:P.underlying t=some (.struct (P.fieldsOf t)))(hp:P.stoodInHeld t=false) :
 xo1 P (Op.equalIn (d+1) t (.agg xs) (.agg ys))=xo1 P (Op.eqFields d xs ys (P.fieldsOf t).toList):=by
 simp only[Op.equalIn,xpa,xx5 ht,xnz,xz9,hp,x1a0,x19l]
 rw[<-Array.forIn_toList]
 generalize (P.fieldsOf t).toList=fs
 clear ht
 induction fs with
 |nil=>simp[Op.eqFields,xqp]
 |cons f fs ih=>
  simp only[x1dk,Op.eqFields,xpa]
  split
  .simp only[xpa]
   generalize xo1 P (part f.type xs f.offset)=r1
   cases r1 with
   |none=>rfl
   |some a=>
    generalize hb:xo1 P (part f.type ys f.offset)=r2
    cases r2 with
    |none=>simp[hb]
    |some b=>
     simp only[hb,xnz]
     generalize xo1 P (Op.equalIn d f.type a b)=r3
     cases r3 with
     |none=>rfl
     |some r=>
      cases r
      .rfl
      .exact ih
  .exact ih
theorem xvk(d:Nat)(t:TypeId)(k k':IntKind)(a b:Int)(h:P.underlying t=some (.int k')):xo1 P (Op.equalIn (d+1) t (.int k a) (.int k b))=some (a == b):=by
 simp[Op.equalIn,xpa,xx5 h,xqp]
theorem x12p(op:BinOp)(t:TypeId)(x y:Operand)(xs ys:Array Value)(hm:P.eqGuardType P.depth t=false):xo1 P (eqGuard op t x y (.agg xs) (.agg ys))=some ():=by
 cases op<;>simp[eqGuard,xpa,xz9,xqp,hm]
theorem x12q{t:TypeId}{x y:Operand}{xs ys:List Value}{r:Bool}(hm:P.eqGuardType P.depth t=false)(hr:xo1 P (Op.equalIn 10000 t (.agg xs.toArray) (.agg ys.toArray))=some r)(hx:∃k,scs k=some xs) :
 ∀kx ky,scs kx=some xs->scs ky=some ys->sBin P .neq t x y (.agg kx) (.agg ky)=some (B (!r)):=by
 intro kx ky h1 h2
 refine xph ?_
 simp only[bin0,xo9,h1,h2,xpa,x12p _ _ _ _ _ _ hm,xnz]
 have:xo1 P (binOp .neq t (.agg xs.toArray) (.agg ys.toArray))=some (.bool (!r)):=by
  show xo1 P (do pure (Value.bool (!(<-Op.equal t (.agg xs.toArray) (.agg ys.toArray)))))=_
  simp only[xpa,Op.equal,Op.maxDepth,hr,xnz,xqp]
 rw[this];rfl
theorem x15j{t:TypeId}{x y:Operand}{xs ys:List Value}{r:Bool}(hm:P.eqGuardType P.depth t=false)(hr:xo1 P (Op.equalIn 10000 t (.agg xs.toArray) (.agg ys.toArray))=some r) :
 ∀kx ky,scs kx=some xs->scs ky=some ys->sBin P .eql t x y (.agg kx) (.agg ky)=some (B r):=by
 intro kx ky h1 h2
 refine xph ?_
 simp only[bin0,xo9,h1,h2,xpa,x12p _ _ _ _ _ _ hm,xnz]
 have:xo1 P (binOp .eql t (.agg xs.toArray) (.agg ys.toArray))=some (.bool r):=by
  show xo1 P (do pure (Value.bool (<-Op.equal t (.agg xs.toArray) (.agg ys.toArray))))=_
  simp only[xpa,Op.equal,Op.maxDepth,hr,xnz,xqp]
 rw[this];rfl
theorem xvl:Tryz.prog.underlying xo4=some (.int .i64):=by kernel_rfl
structure Pq where
 a:Int
 b:Int
def Pq.c(p:Pq):List AV:=[I p.a,I p.b]
theorem Pq.len(p:Pq):p.c.length=2:=rfl
theorem Pq.still(p:Pq):p.c.all still1=true:=rfl
def Pq.same(p q:Pq):Bool:=decide (p.a=q.a)&&decide (p.b=q.b)
def InB(l:List Scene):Prop:=∀s∈l,(0<=s.day/\s.day<=100000)/\(-100000<=s.bl/\s.bl<=100000)
structure Sp where
 p:Int
 s:Int
def Sp.c(x:Sp):List AV:=[I x.p,I x.s]
theorem Sp.len(x:Sp):x.c.length=2:=rfl
theorem Sp.still(x:Sp):x.c.all still1=true:=rfl
def prAt(P:List Pq)(i:Int):Pq:=P.getD i.toNat ⟨0,0⟩
def frS(P:List Pq)(x:Sp):Int:=if x.s<0 then(prAt P x.p).b else(prAt P x.p).a
def toS(P:List Pq)(x:Sp):Int:=if x.s<0 then(prAt P x.p).a else(prAt P x.p).b
def Wk(P:List Pq):List Sp->Int->Int->Prop
 |[],a,b=>a=b
 |x::r,a,b=>frS P x=a/\Wk P r (toS P x) b
variable{P:List Pq}{F:List Int}
theorem Wk.app:∀{v w:List Sp} {a b c:Int},Wk P v a b->Wk P w b c->Wk P (v++w) a c
 |[],_,_,_,_,h,h2=>by cases h;exact h2
 |x::r,_,_,_,_,h,h2=>⟨h.1,h.2.app h2⟩
theorem Wk.split:∀{v w:List Sp} {a c:Int},Wk P (v++w) a c->∃b,Wk P v a b/\Wk P w b c
 |[],_,a,_,h=>⟨a,rfl,h⟩
 |x::r,_,_,_,h=>by
  obtain⟨b,h1,h2⟩:=Wk.split (v:=r) h.2
  exact⟨b,⟨h.1,h1⟩,h2⟩
def InF(F:List Int)(x:Sp):Prop:=x.p∈F/\(x.s=1\/x.s=-1)
def AllF(F:List Int)(w:List Sp):Prop:=∀x∈w,InF F x
theorem AllF.head{x:Sp}{r:List Sp}(h:AllF F (x::r)):InF F x:=h x (x199 ..)
theorem AllF.app{v w:List Sp}(h:AllF F v)(h2:AllF F w):AllF F (v++w):=λy hy=>by
 rcases x1ae.mp hy with hy|hy
 .exact h y hy
 .exact h2 y hy
def Cut(P:List Pq)(F:List Int):Prop:=∀i∈F,∃s:Int->Bool,s (prAt P i).a≠s (prAt P i).b/\∀j∈F,j≠i->s (prAt P j).a=s (prAt P j).b
theorem x12r{l k:List Int}(hn:l.Nodup)(h:∀x∈l,x∈k):l.length<=k.length:=by
 induction l generalizing k with
 |nil=>simp
 |cons x r ih=>
  rw[x1c3]at hn
  have hx:=h x (x199 ..)
  have:=ih (k:=k.erase x) hn.2 λy hy=>by
   rw[List.mem_erase_of_ne (by rintro rfl;exact hn.1 hy)]
   exact h y (x198 _ hy)
  rw[List.length_erase_of_mem hx]at this
  have h0:0<k.length:=List.length_pos_of_mem hx
  simp only[x19e]
  omega
end Go.Ix
set_option maxRecDepth 100000
namespace Go.Proofs.YtgediplphidhpaaGreat
open Go.ChangeShapes Go.WideShapes Go.ChangeAt Go.RowKit Go.Ix
theorem Tryz.own:ownKnob Tryz.prog.godebug=none:=by kernel_rfl
theorem Tryz.laidOut:laidOutB Tryz.prog=true:=by kernel_rfl
theorem sh_int{q:List AV}(h:Sh Tryz.prog xo4 q):∃n,q=[I n]:=by
 obtain⟨n,h,-⟩:=Sh.int_inv (t:=xo4) (k:=.i64) (by kernel_rfl) h
 exact⟨n,h⟩
theorem sl_sh{α:Type}{enc:α->List AV}{P:Program}{t e:TypeId}{z:AV}(ht:P.underlying t=some (.slice e))(hr:∀r,r.length=P.cellsOf e->Sh P e r->∃x,r=enc x)(f:Sh P t [z]):∃l,Sl enc z l:=by
 rcases Sh.slice_inv ht f with h1|⟨rows,x,h1,h2,h3,h4⟩
 .simp at h1;exact⟨[],Or.inl ⟨h1,rfl⟩⟩
 .obtain⟨l,rfl⟩:=x124 (enc:=enc) λr hm=>hr r (h2 r hm) (h3 r hm)
  simp at h1
  exact⟨l,Or.inr ⟨x,by simpa[List.flatMap]using h1⟩⟩
theorem int_in{a:AV}(h:ArgSh Tryz.prog xo4 a):∃n,a=I n:=by
 obtain⟨n,h,-⟩:=h.int (t:=xo4) (k:=.i64) (by kernel_rfl)
 exact⟨n,h⟩
theorem fs_of{t:TypeId}{l:List (TypeId×Nat)}(h:((Tryz.prog.underlying t).bind λd=>match d with | .struct fs=>some (fs.toList.map λf=>(f.type,f.offset))|_=>none)=some l):∃fs,Tryz.prog.underlying t=some (.struct fs)/\(fs.toList.map λf=>(f.type,f.offset))=l:=by
 cases hu:Tryz.prog.underlying t with
 |none=>rw[hu]at h;cases h
 |some d=>
  rw[hu]at h
  cases d<;>first|exact⟨_,rfl,by simpa using h⟩|cases h
end Go.Proofs.YtgediplphidhpaaGreat
namespace Go.Ix
structure Mp where
 ln:Int
 sm:Int
 b0:Int
 b1:Int
 sc:Int
def Mp.c(x:Mp):List AV:=[I x.ln,I x.sm,I x.b0,I x.b1,I x.sc]
theorem Mp.len(x:Mp):x.c.length=5:=rfl
theorem Mp.still(x:Mp):x.c.all still1=true:=rfl
def su(f:Mp->Int):List Mp->Int
 |[]=>0
 |x::l=>f x+su f l
theorem su_app(f:Mp->Int):∀l k:List Mp,su f (l++k)=su f l+su f k
 |[],k=>by simp[su]
 |x::l,k=>by simp only[x1ad,su,su_app f l k];omega
theorem su_one(f:Mp->Int)(x:Mp):su f [x]=f x:=by simp[su]
theorem su_le{f:Mp->Int}{b:Int}:∀{l:List Mp},(∀x∈l,-b<=f x/\f x<=b)->-(l.length*b)<=su f l/\su f l<=l.length*b
 |[],_=>by simp[su]
 |x::l,h=>by
  have h1:=h x (x199 ..)
  have h2:=su_le (l:=l) λy hy=>h y (x198 _ hy)
  simp only[su,x19e]
  have e:((l.length+1:Nat):Int)*b=l.length*b+b:=by rw[Int.natCast_add,x1av];omega
  rw[e]
  omega
def dt(n a b c d e:Int):Int:=n*(c*e-d*d)-a*(a*e-d*b)+b*(a*d-c*b)
def qf(n a b c d e p q:Int):Int:=(c*e-d*d)+p*p*(n*e-b*b)+q*q*(n*c-a*a)+2*p*(b*d-a*e)+2*q*(a*d-b*c)+2*p*q*(a*b-n*d)
def rf(n a b c d e x y z:Int):Int:=x*x*n+y*y*c+z*z*e+2*x*y*a+2*x*z*b+2*y*z*d
theorem dt_step(n a b c d e p q:Int):dt (n+1) (a+p) (b+q) (c+p*p) (d+p*q) (e+q*q)=dt n a b c d e+qf n a b c d e p q:=by
 unfold dt qf;grind
theorem qf_step(n a b c d e p q r s:Int):qf (n+1) (a+r) (b+s) (c+r*r) (d+r*s) (e+s*s) p q=qf n a b c d e p q+rf n a b c d e (p*s-q*r) (q-s) (r-p):=by
 unfold qf rf;grind
theorem rf_step(n a b c d e r s x y z:Int):rf (n+1) (a+r) (b+s) (c+r*r) (d+r*s) (e+s*s) x y z=rf n a b c d e x y z+(x+y*r+z*s)*(x+y*r+z*s):=by
 unfold rf;grind
def sN(l:List Mp):Int:=su (λ_=>1) l
def sA(l:List Mp):Int:=su Mp.ln l
def sB(l:List Mp):Int:=su Mp.sm l
def sC(l:List Mp):Int:=su (λx=>x.ln*x.ln) l
def sD(l:List Mp):Int:=su (λx=>x.ln*x.sm) l
def sE(l:List Mp):Int:=su (λx=>x.sm*x.sm) l
def DD(l:List Mp):Int:=dt (sN l) (sA l) (sB l) (sC l) (sD l) (sE l)
def QQ(l:List Mp)(p q:Int):Int:=qf (sN l) (sA l) (sB l) (sC l) (sD l) (sE l) p q
def RR(l:List Mp)(x y z:Int):Int:=rf (sN l) (sA l) (sB l) (sC l) (sD l) (sE l) x y z
theorem xui(x:Mp)(l:List Mp):DD (x::l)=DD l+QQ l x.ln x.sm:=by
 unfold DD QQ sN sA sB sC sD sE
 simp only[su]
 rw[<-dt_step]
 congr 1<;>omega
theorem xtl(x:Mp)(l:List Mp)(p q:Int):QQ (x::l) p q=QQ l p q+RR l (p*x.sm-q*x.ln) (q-x.sm) (x.ln-p):=by
 unfold QQ RR sN sA sB sC sD sE
 simp only[su]
 rw[<-qf_step]
 congr 1<;>omega
theorem xvm(t:Mp)(l:List Mp)(x y z:Int):RR (t::l) x y z=RR l x y z+(x+y*t.ln+z*t.sm)*(x+y*t.ln+z*t.sm):=by
 unfold RR sN sA sB sC sD sE
 simp only[su]
 rw[<-rf_step]
 congr 1<;>omega
theorem xza(x:Int):0<=x*x:=by
 rcases x1bv 0 x with h|h
 .exact x19z h h
 .have:=x19z (show 0<=-x by omega) (show 0<=-x by omega)
  rwa[Int.neg_mul_neg]at this
theorem sq_pos{x:Int}(h:x≠0):0<x*x:=by
 have h1:=xza x
 have h2:x*x≠0:=Int.mul_ne_zero h h
 omega
theorem xx6(x y z:Int):RR [] x y z=0:=by unfold RR sN sA sB sC sD sE rf;simp[su]
theorem xx7(p q:Int):QQ [] p q=0:=by unfold QQ sN sA sB sC sD sE qf;simp[su]
theorem DD_nil:DD []=0:=by unfold DD sN sA sB sC sD sE dt;simp[su]
theorem RR_nn(x y z:Int):∀l:List Mp,0<=RR l x y z
 |[]=>by rw[xx6];omega
 |t::l=>by
  rw[xvm]
  have:=RR_nn x y z l
  have:=xza (x+y*t.ln+z*t.sm)
  omega
theorem QQ_nn(p q:Int):∀l:List Mp,0<=QQ l p q
 |[]=>by rw[xx7];omega
 |t::l=>by
  rw[xtl]
  have:=QQ_nn p q l
  have:=RR_nn (p*t.sm-q*t.ln) (q-t.sm) (t.ln-p) l
  omega
theorem RR_mono{x y z:Int}{l k:List Mp}(h:l.Sublist k):RR l x y z<=RR k x y z:=by
 induction h with
 |slnil=>exact x1b6 _
 |cons a _ ih=>
  rw[xvm]
  have:=xza (x+y*a.ln+z*a.sm)
  omega
 |cons_cons a _ ih=>rw[xvm,xvm];omega
theorem QQ_mono{p q:Int}{l k:List Mp}(h:l.Sublist k):QQ l p q<=QQ k p q:=by
 induction h with
 |slnil=>exact x1b6 _
 |cons a _ ih=>
  rw[xtl]
  rename_i l1 l2 h
  have:=RR_nn (p*a.sm-q*a.ln) (q-a.sm) (a.ln-p) l2
  omega
 |cons_cons a h ih=>
  rw[xtl,xtl]
  have:=RR_mono (x:=p*a.sm-q*a.ln) (y:=q-a.sm) (z:=a.ln-p) h
  omega
theorem DD_mono{l k:List Mp}(h:l.Sublist k):DD l<=DD k:=by
 induction h with
 |slnil=>exact x1b6 _
 |cons a _ ih=>
  rw[xui]
  rename_i l1 l2 h
  have:=QQ_nn a.ln a.sm l2
  omega
 |cons_cons a h ih=>
  rw[xui,xui]
  have:=QQ_mono (p:=a.ln) (q:=a.sm) h
  omega
def pr(f x y:Mp):Int:=(x.ln-f.ln)*(y.sm-f.sm)-(x.sm-f.sm)*(y.ln-f.ln)
theorem DD_three(f x y:Mp):DD [f,x,y]=pr f x y*pr f x y:=by
 rw[xui,xui,xui,DD_nil,xtl,xtl,xx7,xtl,xx7,xx7,xvm,xx6,xx6,xx6]
 unfold pr;grind
def rk2(x y z:Int):List Mp->Int
 |[]=>2
 |p::l=>if x+y*p.ln+z*p.sm≠0 then 3 else rk2 x y z l
def rk1(f:Mp):List Mp->Int
 |[]=>1
 |p::l=>if p.ln=f.ln/\p.sm=f.sm then rk1 f l else rk2 (f.ln*p.sm-f.sm*p.ln) (f.sm-p.sm) (p.ln-f.ln) l
def rkM:List Mp->Int
 |[]=>0
 |f::l=>rk1 f (f::l)
theorem pr_eq(f x y:Mp):(f.ln*x.sm-f.sm*x.ln)+(f.sm-x.sm)*y.ln+(x.ln-f.ln)*y.sm=pr f x y:=by unfold pr;grind
theorem rk2_ok(f p:Mp):∀l:List Mp,(rk2 (f.ln*p.sm-f.sm*p.ln) (f.sm-p.sm) (p.ln-f.ln) l=3/\∃y∈l,pr f p y≠0)\/(rk2 (f.ln*p.sm-f.sm*p.ln) (f.sm-p.sm) (p.ln-f.ln) l=2/\∀y∈l,pr f p y=0)
 |[]=>.inr ⟨rfl,by simp⟩
 |y::l=>by
  rw[rk2,pr_eq]
  by_cases h:pr f p y=0
  .rw[if_neg (by simpa using h)]
   rcases rk2_ok f p l with ⟨h1,z,h2,h3⟩|⟨h1,h2⟩
   .exact .inl ⟨h1,z,x198 _ h2,h3⟩
   .refine .inr ⟨h1,λz hz=>?_⟩
    rcases x19a.mp hz with rfl|hz
    .exact h
    .exact h2 z hz
  .rw[if_pos h]
   exact .inl ⟨rfl,y,x199 ..,h⟩
def Mp.at(f x:Mp):Prop:=x.ln=f.ln/\x.sm=f.sm
instance (f x:Mp):Decidable (f.at x):=by unfold Mp.at;infer_instance
theorem rk1_ok(f:Mp):∀l:List Mp,(rk1 f l=1/\∀x∈l,f.at x) \/
 (∃A p B,l=A++p::B/\(∀x∈A,f.at x)/\¬f.at p/\rk1 f l=rk2 (f.ln*p.sm-f.sm*p.ln) (f.sm-p.sm) (p.ln-f.ln) B)
 |[]=>.inl ⟨rfl,by simp⟩
 |x::l=>by
  rw[rk1]
  by_cases h:x.ln=f.ln/\x.sm=f.sm
  .rw[if_pos h]
   rcases rk1_ok f l with ⟨h1,h2⟩|⟨A,p,B,h1,h2,h3,h4⟩
   .refine .inl ⟨h1,λz hz=>?_⟩
    rcases x19a.mp hz with rfl|hz
    .exact h
    .exact h2 z hz
   .refine .inr ⟨x::A,p,B,by rw[h1];rfl,λz hz=>?_,h3,h4⟩
    rcases x19a.mp hz with rfl|hz
    .exact h
    .exact h2 z hz
  .rw[if_neg h]
   exact .inr ⟨[],x,l,rfl,by simp,h,rfl⟩
theorem pr_at{f x y:Mp}(h:f.at x):pr f x y=0:=by
 unfold pr;rw[h.1,h.2];simp
theorem pr_self(f x:Mp):pr f x x=0:=by unfold pr;rw[Int.mul_comm];omega
theorem pr_at2{f x y:Mp}(h:f.at y):pr f x y=0:=by
 unfold pr;rw[h.1,h.2];simp
theorem rkM_ok(f:Mp)(l:List Mp):(rkM (f::l)=1/\∀x∈f::l,f.at x) \/
 (∃p∈f::l,¬f.at p/\rkM (f::l)=2/\∀y∈f::l,pr f p y=0) \/
 (∃p y,[f,p,y].Sublist (f::l)/\¬f.at p/\rkM (f::l)=3/\pr f p y≠0):=by
 have hf:f.at f:=⟨rfl,rfl⟩
 have e:rkM (f::l)=rk1 f l:=by
  show rk1 f (f::l)=_
  rw[rk1,if_pos (show f.ln=f.ln/\f.sm=f.sm from⟨rfl,rfl⟩)]
 rw[e]
 rcases rk1_ok f l with ⟨h1,h2⟩|⟨A,p,B,rfl,h2,h3,h4⟩
 .refine .inl ⟨h1,λx hx=>?_⟩
  rcases x19a.mp hx with rfl|hx
  .exact hf
  .exact h2 x hx
 .rcases rk2_ok f p B with ⟨h5,y,h6,h7⟩|⟨h5,h6⟩
  .refine .inr (.inr ⟨p,y,?_,h3,by rw[h4,h5],h7⟩)
   refine List.Sublist.cons_cons f ?_
   exact(List.Sublist.cons_cons p (List.singleton_sublist.mpr h6)).trans (List.sublist_append_right A (p::B))
  .refine .inr (.inl ⟨p,by simp,h3,by rw[h4,h5],λy hy=>?_⟩)
   rcases x19a.mp hy with rfl|hy
   .exact pr_at2 hf
   .rcases x1ae.mp hy with hy|hy
    .exact pr_at2 (h2 y hy)
    .rcases x19a.mp hy with rfl|hy
     .exact pr_self f y
     .exact h6 y hy
theorem rk_det{l:List Mp}(h:rkM l=3):0<DD l:=by
 match l with
 |[]=>simp[rkM]at h
 |f::l=>
  rcases rkM_ok f l with ⟨h1,-⟩|⟨p,-,-,h1,-⟩|⟨p,y,h1,-,-,h4⟩
  .omega
  .omega
  .have h5:=DD_mono h1
   rw[DD_three]at h5
   have:=sq_pos h4
   omega
end Go.Ix
