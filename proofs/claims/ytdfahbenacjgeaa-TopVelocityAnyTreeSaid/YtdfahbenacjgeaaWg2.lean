import Derived.Test.YtdfahbenacjgeaaWg1
import Derived.Test.YtdfahbenacjgeaaRows
import Derived.Test.YtdfahbenacjgeaaFxLaw
set_option linter.unusedSimpArgs false
set_option linter.unusedVariables false
namespace Go.Ix
open Go.Proofs
structure Pq where
 a:Int
 b:Int
def Pq.c(p:Pq):List AV:=[I p.a,I p.b]
theorem Pq.len(p:Pq):p.c.length=2:=rfl
theorem Pq.still(p:Pq):p.c.all still1=true:=rfl
theorem A8:Try.prog.underlying cG=some (.slice aE):=by kernel_rfl
theorem v3:bB=[I 0,I 0]:=by kernel_rfl
def Pq.same(p q:Pq):Bool:=decide (p.a=q.a)&&decide (p.b=q.b)
theorem Pq.same_iff{a b:Pq}:a.same b=true↔a=b:=by cases a;cases b;simp[Pq.same]
theorem Pq.same_self(a:Pq):a.same a=true:=Pq.same_iff.2 rfl
theorem L0(w0 w1:Int):∀o∈[0,1],qR Try.prog (part sD #[.int .i64 w0,.int .i64 w1] o)=some (.int .i64 ([w0,w1].getD o 0)):=by intro o ho;simp only[xce,xft,or_false]at ho;rcases ho with rfl|rfl<;>kernel_rfl
theorem pr_pairs(p q:Pq):qR Try.prog (Op.equalIn 10000 aE (.agg [.int .i64 p.a,.int .i64 p.b].toArray) (.agg [.int .i64 q.a,.int .i64 q.b].toArray))=some (p.same q):=by refine(eq_ints (offs:=[0,1]) (ga:=λo=>[p.a,p.b].getD o 0) (gb:=λo=>[q.a,q.b].getD o 0) (by kernel_rfl) (by kernel_rfl) (by kernel_rfl) λo ho=>⟨L0 _ _ o ho,L0 _ _ o ho⟩).trans ?_;simp[Pq.same,List.getD];by_cases h0:p.a=q.a<;>by_cases h1:p.b=q.b<;>simp[h0,h1]
def InB(l:List Scene):Prop:=∀s∈l,(0<=s.day/\s.day<=100000)/\(-100000<=s.bl/\s.bl<=100000)
theorem x6v{l:List Scene}:∀(suf:List Scene) (k:Nat),(yA l k suf).2=0->InB suf
 |[],_,_=>λs h=>by cases h
 |x::r,k,h=>by
  simp only[yA]at h;cases hn:tJ x.nm with
  |false=>simp[hn]at h
  |true=>
   cases ha:(l.take k).any λy=>teq y.nm x.nm with
   |true=>simp[hn,ha]at h
   |false=>
    cases hw:wi x.day 0 100000 with
    |false=>simp[hn,ha,hw]at h
    |true=>
     cases hw2:wi x.bl (-100000) 100000 with
     |false=>simp[hn,ha,hw,hw2]at h
     |true=>
      simp[hn,ha,hw,hw2]at h;have ih:=x6v r (k+1) h;intro s hs;rcases xce.mp hs with rfl|hs
      .exact⟨xC hw,xC hw2⟩
      .exact ih s hs
theorem x6w{l:List Scene}(h:(xD l).2=0):l.length<=60/\InB l:=by
 unfold xD at h;by_cases hl:60<l.length
 .simp[hl]at h
 .simp[hl]at h;exact⟨by omega,x6v l 0 h⟩
structure Sp where
 p:Int
 s:Int
def Sp.c(x:Sp):List AV:=[I x.p,I x.s]
theorem Sp.len(x:Sp):x.c.length=2:=rfl
theorem Sp.still(x:Sp):x.c.all still1=true:=rfl
def qO(P:List Pq)(i:Int):Pq:=P.getD i.toNat ⟨0,0⟩
def frS(P:List Pq)(x:Sp):Int:=if x.s<0 then(qO P x.p).b else(qO P x.p).a
def toS(P:List Pq)(x:Sp):Int:=if x.s<0 then(qO P x.p).a else(qO P x.p).b
def Wk(P:List Pq):List Sp->Int->Int->Prop
 |[],a,b=>a=b
 |x::r,a,b=>frS P x=a/\Wk P r (toS P x) b
variable{P:List Pq}{F:List Int}
theorem Wk.app:∀{v w:List Sp} {a b c:Int},Wk P v a b->Wk P w b c->Wk P (v++w) a c
 |[],_,_,_,_,h,h2=>by cases h;exact h2
 |x::r,_,_,_,_,h,h2=>⟨h.1,h.2.app h2⟩
theorem Wk.split:∀{v w:List Sp} {a c:Int},Wk P (v++w) a c->∃b,Wk P v a b/\Wk P w b c
 |[],_,a,_,h=>⟨a,rfl,h⟩
 |x::r,_,_,_,h=>by obtain⟨b,h1,h2⟩:=Wk.split (v:=r) h.2;exact⟨b,⟨h.1,h1⟩,h2⟩
def InF(F:List Int)(x:Sp):Prop:=x.p∈F/\(x.s=1\/x.s=-1)
def AllF(F:List Int)(w:List Sp):Prop:=∀x∈w,InF F x
theorem AllF.tail{x:Sp}{r:List Sp}(h:AllF F (x::r)):AllF F r:=λy hy=>h y (xc9 _ hy)
theorem AllF.head{x:Sp}{r:List Sp}(h:AllF F (x::r)):InF F x:=h x (xcf ..)
theorem AllF.app{v w:List Sp}(h:AllF F v)(h2:AllF F w):AllF F (v++w):=λy hy=>by
 rcases xd0.mp hy with hy|hy
 .exact h y hy
 .exact h2 y hy
def g9(x:Sp):Sp:=⟨x.p,-x.s⟩
theorem flip_fr{x:Sp}(h:InF F x):frS P (g9 x)=toS P x:=by unfold frS toS g9;rcases h.2 with e|e<;>rw[e]<;>simp
theorem flip_to{x:Sp}(h:InF F x):toS P (g9 x)=frS P x:=by unfold frS toS g9;rcases h.2 with e|e<;>rw[e]<;>simp
theorem flip_in{x:Sp}(h:InF F x):InF F (g9 x):=by refine⟨h.1,?_⟩;unfold g9;rcases h.2 with e|e<;>rw[e]<;>simp
theorem Wk.back:∀{w:List Sp} {a b:Int},Wk P w a b->AllF F w->∃v,Wk P v b a/\AllF F v
 |[],_,_,h,_=>⟨[],h.symm,λ_ h=>by cases h⟩
 |x::r,_,_,h,hF=>by
  obtain⟨v,h1,h2⟩:=Wk.back h.2 hF.tail;refine⟨v++[g9 x],h1.app ⟨flip_fr hF.head,?_⟩,h2.app ?_⟩
  .show toS P (g9 x)=_;rw[flip_to hF.head];exact h.1
  .intro y hy;simp at hy;subst hy;exact flip_in hF.head
def Cut(P:List Pq)(F:List Int):Prop:=∀i∈F,∃s:Int->Bool,s (qO P i).a≠s (qO P i).b/\∀j∈F,j≠i->s (qO P j).a=s (qO P j).b
theorem T3{i:Int}{s:Int->Bool}(h:∀j∈F,j≠i->s (qO P j).a=s (qO P j).b):∀{w:List Sp} {a b:Int},Wk P w a b->AllF F w->i∉w.map Sp.p->s a=s b
 |[],_,_,hw,_,_=>by cases hw;rfl
 |x::r,a,b,hw,hF,hi=>by simp only[xcj,xce,not_or]at hi;have h1:=h x.p hF.head.1 (Ne.symm hi.1);have h2:=T3 h hw.2 hF.tail hi.2;rw[<-h2,<-hw.1];unfold frS toS;split<;>simp[h1]
theorem side_ends{i:Int}{s:Int->Bool}(h:s (qO P i).a≠s (qO P i).b){x y:Sp}(hx:x.p=i)(hy:y.p=i)(he:s (frS P y)=s (toS P x)):frS P y=toS P x/\toS P y=frS P x:=by
 unfold frS toS at *
 rw[hx,hy]at *
 by_cases c1:x.s<0<;>by_cases c2:y.s<0<;>simp only[c1,c2,xcm,xck]at*<;> first|exact⟨trivial,trivial⟩|exact⟨rfl,rfl⟩|exact absurd he h|exact absurd he (Ne.symm h)
theorem side_step{i:Int}{s:Int->Bool}(h:s (qO P i).a≠s (qO P i).b){x:Sp}(hx:x.p=i):s (frS P x)≠s (toS P x):=by
 unfold frS toS;rw[hx];split
 .exact h.symm
 .exact h
theorem no_loop(hC:Cut P F){x:Sp}{r:List Sp}{a:Int}(hw:Wk P (x::r) a a)(hF:AllF F (x::r))(hn:x.p∉r.map Sp.p):False:=by obtain⟨s,h1,h2⟩:=hC x.p hF.head.1;have h3:=T3 h2 hw.2 hF.tail hn;exact side_step h1 rfl (by rw[hw.1,h3])
def NB(P:List Pq):List Sp->Prop
 |[]=>True
 |[_]=>True
 |x::y::r=>toS P y≠frS P x/\NB P (y::r)
theorem NB.tail{x:Sp}{r:List Sp}(h:NB P (x::r)):NB P r:=by
 cases r with
 |nil=>trivial
 |cons y r=>exact h.2
theorem x6x(hC:Cut P F):∀{w:List Sp} {a b:Int},Wk P w a b->AllF F w->NB P w->(w.map Sp.p).Nodup
 |[],_,_,_,_,_=>List.nodup_nil
 |x::r,a,b,hw,hF,hn=>by
  have ih:=x6x hC hw.2 hF.tail hn.tail;rw[xcj,xe5];refine⟨λhm=>?_,ih⟩;obtain⟨y,hy,hyp⟩:=xch.mp hm;obtain⟨r1,r2,rfl⟩:=List.append_of_mem hy;obtain⟨c,w1,w2⟩:=hw.2.split;obtain⟨s,h1,h2⟩:=hC x.p hF.head.1;have hi1:x.p∉r1.map Sp.p:=(by rw[xds,xdv]at ih;intro hmem;exact ih.2.2 _ hmem y.p (by simp) hyp.symm);have hF1:AllF F r1:=λz hz=>hF.tail z (xei _ hz)
  have e:=T3 h2 w1 hF1 hi1;obtain⟨e1,e2⟩:=side_ends h1 (x:=x) (y:=y) rfl hyp (by rw[w2.1,e]);cases r1 with
  |nil=>exact hn.1 e2
  |cons z r1=>
   refine no_loop (r:=r1) (x:=z) (a:=toS P x) hC ?_ hF1 ?_
   .have:c=toS P x:=(by rw[<-e1];exact w2.1.symm);rw[this]at w1;exact w1
   .rw[xds,xdv]at ih;have:=ih.1;rw[xcj,xe5]at this;exact this.1
theorem nb_of:∀{w:List Sp} {a b:Int},Wk P w a b->AllF F w->∃v,Wk P v a b/\AllF F v/\NB P v
 |[],_,_,h,hF=>⟨[],h,hF,trivial⟩
 |x::r,a,b,h,hF=>by
  obtain⟨v,h1,h2,h3⟩:=nb_of h.2 hF.tail;cases v with
  |nil=>exact⟨[x],⟨h.1,h1⟩,λy hy=>by simp at hy;subst hy;exact hF.head,trivial⟩
  |cons y v=>
   by_cases c:toS P y=frS P x
   .refine⟨v,?_,h2.tail,h3.tail⟩;have:=h1.2;rw[c,h.1]at this;exact this
   .refine⟨x::y::v,⟨h.1,h1⟩,λz hz=>?_,c,h3⟩;rcases xce.mp hz with rfl|hz
    .exact hF.head
    .exact h2 z hz
def wM(F:List Int):List Sp:=F.flatMap λi=>[⟨i,1⟩,⟨i,-1⟩]
theorem mem_stepsOf{F:List Int}{x:Sp}:x∈wM F↔InF F x:=by
 unfold wM InF;rw[xdc];constructor
 .rintro⟨i,hi,hx⟩;simp only[xce,xft,or_false]at hx;rcases hx with rfl|rfl
  .exact⟨hi,Or.inl rfl⟩
  .exact⟨hi,Or.inr rfl⟩
 .rintro⟨h1,h2⟩;refine⟨x.p,h1,?_⟩;cases x;rcases h2 with e|e<;>simp at e<;>subst e<;>simp
theorem T4{l k:List Int}(hn:l.Nodup)(h:∀x∈l,x∈k):l.length<=k.length:=by
 induction l generalizing k with
 |nil=>simp
 |cons x r ih=>
  rw[xe5]at hn;have hx:=h x (xcf ..);have:=ih (k:=k.erase x) hn.2 λy hy=>by rw[List.mem_erase_of_ne (by rintro rfl;exact hn.1 hy)];exact h y (xc9 _ hy)
  rw[List.length_erase_of_mem hx]at this;have h0:0<k.length:=List.length_pos_of_mem hx;simp only[xco];omega
theorem nb_len(hC:Cut P F){w:List Sp}{a b:Int}(hw:Wk P w a b)(hF:AllF F w)(hn:NB P w):w.length<=F.length:=by
 have:=T4 (x6x hC hw hF hn) (k:=F) λi hi=>by obtain⟨x,hx,rfl⟩:=xch.mp hi;exact(hF x hx).1
 simpa using this
end Go.Ix
set_option maxRecDepth 100000
namespace Go.Proofs.Ytdfahbenacjgeaa
open Go.ChangeShapes Go.WideShapes Go.ChangeAt Go.RowKit Go.Ix
theorem Try.own:ownKnob Try.prog.godebug=none:=by kernel_rfl
theorem Try.laidOut:laidOutB Try.prog=true:=by kernel_rfl
theorem A9{q:List AV}(h:Sh Try.prog sD q):∃n,q=[I n]:=by obtain⟨n,h,-⟩:=Sh.int_inv (t:=sD) (k:=.i64) (by kernel_rfl) h;exact⟨n,h⟩
theorem sh_str{q:List AV}(h:Sh Try.prog aB q):∃s,q=[T s]:=by
 have ht:Try.prog.underlying aB=some .string:=(by kernel_rfl);cases h with
 |string h' s hs=>exact⟨s,rfl⟩
 |int h'=>rw[ht]at h';cases h'
 |nilS h'=>rw[ht]at h';cases h'
 |slice h'=>rw[ht]at h';cases h'
 |bool h'=>rw[ht]at h';cases h'
 |float h'=>rw[ht]at h';cases h'
 |struct h'=>rw[ht]at h';cases h'
 |array h'=>rw[ht]at h';cases h'
theorem sl_sh{α:Type}{enc:α->List AV}{P:Program}{t e:TypeId}{z:AV}(ht:P.underlying t=some (.slice e))(hr:∀r,r.length=P.cellsOf e->Sh P e r->∃x,r=enc x)(f:Sh P t [z]):∃l,Sl enc z l:=by
 rcases Sh.slice_inv ht f with h1|⟨rows,x,h1,h2,h3,h4⟩
 .simp at h1;exact⟨[],Or.inl ⟨h1,rfl⟩⟩
 .obtain⟨l,rfl⟩:=x62 (enc:=enc) λr hm=>hr r (h2 r hm) (h3 r hm)
  simp at h1;exact⟨l,Or.inr ⟨x,by simpa[List.flatMap]using h1⟩⟩
theorem int_in{a:AV}(h:ArgSh Try.prog sD a):∃n,a=I n:=by obtain⟨n,h,-⟩:=h.int (t:=sD) (k:=.i64) (by kernel_rfl);exact⟨n,h⟩
theorem fs_of{t:TypeId}{l:List (TypeId×Nat)}(h:((Try.prog.underlying t).bind λd=>match d with | .struct fs=>some (fs.toList.map λf=>(f.type,f.offset))|_=>none)=some l):∃fs,Try.prog.underlying t=some (.struct fs)/\(fs.toList.map λf=>(f.type,f.offset))=l:=by
 cases hu:Try.prog.underlying t with
 |none=>rw[hu]at h;cases h
 |some d=>rw[hu]at h;cases d<;>first|exact⟨_,rfl,by simpa using h⟩|cases h
end Go.Proofs.Ytdfahbenacjgeaa
namespace Go.Ix
open Go.Proofs
def eG(a b:Int):Int:=if h:b=0 then a else eG b (a.tmod b)
termination_by b.natAbs
decreasing_by
 have:=Int.natAbs_tmod a b;rw[this];exact xe4 _ (by omega)
theorem eG_0(a:Int):eG a 0=a:=by rw[eG];simp
theorem eG_s{a b:Int}(h:b≠0):eG a b=eG b (a.tmod b):=by rw[eG,dif_neg h]
theorem eG_gcd:∀(n:Nat) (a b:Int),b.natAbs<=n->(eG a b).natAbs=Int.gcd a b:=by
 intro n;induction n with
 |zero=>intro a b h;have:b=0:=(by omega);subst this;rw[eG_0];simp
 |succ n ih=>
  intro a b h;by_cases hb:b=0
  .subst hb;rw[eG_0];simp
  .rw[eG_s hb];have h1:(a.tmod b).natAbs<b.natAbs:=(by rw[Int.natAbs_tmod];exact xe4 _ (by omega));rw[ih b (a.tmod b) (by omega)];unfold Int.gcd;rw[Int.natAbs_tmod,Nat.gcd_comm,<-Nat.gcd_rec,Nat.gcd_comm]
theorem mod_half{a b:Nat}(hb:0<b)(h1:0<a % b):2*(b % (a % b))<b:=by have h2:a % b<b:=xe4 _ hb;have h3:b % (a % b)<a % b:=xe4 _ h1;have h4:=Nat.div_add_mod b (a % b);have h5:1<=b / (a % b):=(Nat.one_le_div_iff h1).mpr (by omega);have h6:(a % b)*1<=(a % b)*(b / (a % b)):=Nat.mul_le_mul_left _ h5;omega
theorem l_eG(call:qI)(hs:FHs)(u:Nat)(x y t4:AV)(m:Mem):∀(n:Nat) (a b:Int) (j fc:Nat),b.natAbs<2 ^ n->2*n+1<=j ->
 ∃fc',bF call hs u j x y t4 (I a) (I b) m fc=iC call hs u x y t4 (I (eG a b)) m fc':=by
 intro n;induction n with
 |zero=>intro a b j fc h hj;obtain⟨j,rfl⟩:∃i,j=i+1:=⟨j-1,by omega⟩;have:b=0:=(by simp at h;omega);subst this;simp only[bF];unfold dZ;exact⟨fc+2,by simp[eG_0]⟩
 |succ n ih=>
  intro a b j fc h hj;obtain⟨j,rfl⟩:∃i,j=i+1+1:=⟨j-2,by omega⟩;by_cases hb:b=0
  .subst hb;simp only[bF];unfold dZ;exact⟨fc+2,by simp[eG_0]⟩
  .have e1:(a.tmod b).natAbs=a.natAbs % b.natAbs:=Int.natAbs_tmod a b;rw[eG_s hb];by_cases hc:a.tmod b=0
   .refine⟨fc+8+2,?_⟩;simp only[bF];unfold dZ;simp[hb,K0 hb,hc,eG_0]
   .have e2:(b.tmod (a.tmod b)).natAbs=b.natAbs % (a.natAbs % b.natAbs):=(by rw[Int.natAbs_tmod,e1]);have h2:=mod_half (a:=a.natAbs) (b:=b.natAbs) (by omega) (by omega);obtain⟨fc',hf⟩:=ih (a.tmod b) (b.tmod (a.tmod b)) j (fc+8+8) (by rw[e2];have:=Nat.pow_succ 2 n;omega) (by omega);refine⟨fc',?_⟩;rw[eG_s hc,<-hf];simp only[bF];unfold dZ;simp[hb,K0 hb,hc,K0 hc]
def frN(a b:Int):Int:=if b<0 then -(a / (Int.gcd a b:Int))else a / (Int.gcd a b:Int)
def frD(a b:Int):Int:=if b<0 then -(b / (Int.gcd a b:Int))else b / (Int.gcd a b:Int)
def frE(a b:Int):Int:=if frN a b<=1000000000/\-1000000000<=frN a b/\frD a b<=1000000000 then 0 else 8
theorem fr_eq{a b:Int}(hb:b≠0):(b.tdiv (eG a b)<0/\-(a.tdiv (eG a b))=frN a b/\-(b.tdiv (eG a b))=frD a b)\/(0<=b.tdiv (eG a b)/\a.tdiv (eG a b)=frN a b/\b.tdiv (eG a b)=frD a b):=by
 have hg:(eG a b).natAbs=Int.gcd a b:=eG_gcd b.natAbs a b (xc7 _);have hg0:0<Int.gcd a b:=Int.gcd_pos_of_ne_zero_right a hb;have h1:((Int.gcd a b:Nat):Int) ∣ a:=Int.gcd_dvd_left _ _;have h2:((Int.gcd a b:Nat):Int) ∣ b:=Int.gcd_dvd_right _ _;have e1:a.tdiv ((Int.gcd a b:Nat):Int)=a / ((Int.gcd a b:Nat):Int):=Int.tdiv_eq_ediv_of_dvd h1;have e2:b.tdiv ((Int.gcd a b:Nat):Int)=b / ((Int.gcd a b:Nat):Int):=Int.tdiv_eq_ediv_of_dvd h2;have e4:b=((Int.gcd a b:Nat):Int)*(b / ((Int.gcd a b:Nat):Int)):=(Int.mul_ediv_cancel' h2).symm;have hgI:((eG a b).natAbs:Int)=((Int.gcd a b:Nat):Int):=(by rw[hg]);have hg0I:(0:Int)<((Int.gcd a b:Nat):Int):=(by omega);unfold frN frD;generalize ((Int.gcd a b:Nat):Int)=g at *
 generalize hA:a / g=A at *
 generalize hD:b / g=D at *
 have g0:0<g:=hg0I;by_cases c:b<0
 .have hD0:D<0:=(by apply Int.lt_of_not_ge;intro hge;have:=Int.mul_nonneg (Int.le_of_lt g0) hge;omega);simp only[c,xcm];rcases Int.natAbs_eq (eG a b)with h|h
  .have hq:eG a b=g:=(by omega);rw[hq,e1,e2];exact .inl ⟨hD0,rfl,rfl⟩
  .have hq:eG a b=-g:=(by omega);rw[hq,Int.tdiv_neg,Int.tdiv_neg,e1,e2];exact .inr ⟨by omega,rfl,rfl⟩
 .have hD0:0<D:=(by apply Int.lt_of_not_ge;intro hge;have:=Int.mul_nonneg (Int.le_of_lt g0) (show 0<=-D by omega);have h5:g*-D=-(g*D):=Int.mul_neg g D;omega);simp only[c,xck];rcases Int.natAbs_eq (eG a b)with h|h
  .have hq:eG a b=g:=(by omega);rw[hq,e1,e2];exact .inr ⟨by omega,rfl,rfl⟩
  .have hq:eG a b=-g:=(by omega);rw[hq,Int.tdiv_neg,Int.tdiv_neg,e1,e2];exact .inl ⟨by omega,by omega,by omega⟩
theorem frD_pos{a b:Int}(hb:b≠0):0<=frD a b:=by rcases fr_eq (a:=a) hb with ⟨h1,-,h3⟩|⟨h1,-,h3⟩<;>omega
theorem fr_sh{a b φ:Int}(hb:b≠0):frD (a-φ*b) b=frD a b/\frN (a-φ*b) b=frN a b-φ*frD a b:=by
 have hg0:0<Int.gcd a b:=Int.gcd_pos_of_ne_zero_right a hb;have hg:Int.gcd (a-φ*b) b=Int.gcd a b:=by
  apply Nat.dvd_antisymm
  .apply Int.dvd_gcd
   .have h1:((Int.gcd (a-φ*b) b:Nat):Int) ∣ a-φ*b:=Int.gcd_dvd_left _ _;have h2:((Int.gcd (a-φ*b) b:Nat):Int) ∣ b:=Int.gcd_dvd_right _ _;have:=Int.dvd_add h1 (Int.dvd_trans h2 (Int.dvd_mul_left φ b));rwa[Int.sub_add_cancel]at this
   .exact Int.gcd_dvd_right _ _
  .apply Int.dvd_gcd
   .exact Int.dvd_sub (Int.gcd_dvd_left _ _) (Int.dvd_trans (Int.gcd_dvd_right a b) (Int.dvd_mul_left φ b))
   .exact Int.gcd_dvd_right _ _
 have h1:a=((Int.gcd a b:Nat):Int)*(a / ((Int.gcd a b:Nat):Int)):=(Int.mul_ediv_cancel' (Int.gcd_dvd_left _ _)).symm;have h2:b=((Int.gcd a b:Nat):Int)*(b / ((Int.gcd a b:Nat):Int)):=(Int.mul_ediv_cancel' (Int.gcd_dvd_right _ _)).symm;unfold frN frD;rw[hg];have h3:(a-φ*b) / ((Int.gcd a b:Nat):Int)=a / ((Int.gcd a b:Nat):Int)-φ*(b / ((Int.gcd a b:Nat):Int)):=by
  have g0':((Int.gcd a b:Nat):Int)≠0:=(by omega);generalize ((Int.gcd a b:Nat):Int)=g at *
  have g0:g≠0:=g0';have e:a-φ*b=g*(a / g-φ*(b / g)):=by
   generalize a / g=A at *
   generalize b / g=D at *
   rw[h1,h2];grind
  rw[e,Int.mul_ediv_cancel_left _ g0]
 rw[h3];refine⟨rfl,?_⟩;by_cases c:b<0
 .simp only[c,xcm];grind
 .simp only[c,xck]
theorem B0:bC=[I 0,I 0]:=by kernel_rfl
theorem T5(x y:Int):rI [I 0,I 0] [(0,1,I x),(1,1,I y)]=some (.agg [I x,I y]):=by simp[rI,tP]
theorem build_F0:rI [I 0,I 0] []=some (.agg [I 0,I 0]):=by simp[rI,tP]
theorem T6(d:Nat)(a b c:Int)(m:Mem):qK (qG (d+1)) aX [I a,I b,I c] m=some (B (wi a b c),m):=by refine call0 rfl (m':=⟨[],1⟩) ?_ rfl;rw[x1w];unfold mD jL wi;by_cases h:b<=a<;>by_cases h2:a<=c<;>simp[h,h2,mem0]
theorem T7(d:Nat)(a b:Int)(m:Mem)(h:-9223372036854775807<=b/\b<=9223372036854775807):qK (qG (d+2)) aV [I a,I b] m=some (B (wi a (-b) b),m):=by refine call0 rfl (m':=⟨[],1⟩) ?_ rfl;rw[x1n];unfold lT iY;simp(disch:=omega) [mem0,T6,qQ]
theorem tdiv_le{a b:Int}:(a.tdiv b).natAbs<=a.natAbs:=by rw[Int.natAbs_tdiv];exact Nat.div_le_self _ _
theorem w_frac(d:Nat){a b:Int}(hb:b≠0)(ha:a.natAbs<9000000000000000000)(hb2:b.natAbs<9000000000000000000)(m:Mem) :
 qK (qG (d+3)) cZ [I a,I b] m=some (.tup [.agg [I (if frE a b=0 then frN a b else 0),I (if frE a b=0 then frD a b else 0)],I (frE a b)],m):=by
 refine tM rfl ?_ m;rw[x1e];unfold lL iE;simp[mem0,B0];generalize hm1:Mem.new _ _ _=m1;have g4:m1.get (0,0,4)=some (.row [I 0,I 0] 0 false):=(by rw[<-hm1];simp);obtain⟨fc',hf⟩:=l_eG (qG (d+2)) [] 0 (I a) (I b) (.ptr (0,0,4) 0 0) m1 64 a b NN 6 (by omega) (by rw[rQ];omega);rw[hf];have hfr:=fr_eq (a:=a) hb;have hne:eG a b≠0:=(by have h1:=eG_gcd b.natAbs a b (xc7 _);have h2:0<Int.gcd a b:=Int.gcd_pos_of_ne_zero_right a hb;omega);have b1:=tdiv_le (a:=a) (b:=eG a b);have b2:=tdiv_le (a:=b) (b:=eG a b);have q1:xT (I a) (I (eG a b))=some (I (a.tdiv (eG a b))):=(by rw[sQuo_I hne,qQ (by omega) (by omega)]);have q2:xT (I b) (I (eG a b))=some (I (b.tdiv (eG a b))):=(by rw[sQuo_I hne,qQ (by omega) (by omega)]);have hf4:(0,fc'+7,8)≠((0,0,4):Id):=(by simp);have fin:∀(m2:Mem) (fc:Nat),m2.get (0,0,4)=some (.row [I 0,I 0] 0 false)->m2.get (0,fc'+7,8)=some (.row [I (frN a b),I (frD a b)] 0 false) ->
  RetF (λx=>x=.tup [.agg [I (if frE a b=0 then frN a b else 0),I (if frE a b=0 then frD a b else 0)],I (frE a b)]) (eX (qG (d+2)) [] 0 (.ptr (0,0,4) 0 0) (.ptr (0,fc'+7,8) 0 0) m2 fc):=by
  intro m2 fc k4 k8;unfold eX;simp[k4,k8,T7,B0,build_F0];by_cases c1:wi (frN a b) (-1000000000) 1000000000=true
  .have c1':=wi_iff.mp c1;by_cases c2:frD a b<=1000000000
   .have e:frE a b=0:=(by unfold frE;rw[xc2 ⟨c1'.2,c1'.1,c2⟩]);simp[c1,c2,show ¬(1000000000<frD a b) by omega,k4,k8,e,sG];exact RetF.tup (by rfl) (by rfl)
   .have e:frE a b=8:=(by unfold frE;rw[xc1 (by rintro⟨-,-,h⟩;exact c2 h)]);simp[c1,c2,show(1000000000<frD a b) by omega,k4,k8,e,sG];exact RetF.tup (by rfl) (by rfl)
  .have e:frE a b=8:=(by unfold frE;rw[xc1 (by rintro⟨h1,h2,h⟩;exact c1 (wi_iff.mpr ⟨h2,h1⟩))]);have c1':wi (frN a b) (-1000000000) 1000000000=false:=(by simpa using c1);simp[c1',k4,k8,e,sG];exact RetF.tup (by rfl) (by rfl)
 unfold iC;simp only[q1,q2,qV,B0];rcases hfr with ⟨n0,n1,n2⟩|⟨n0,n1,n2⟩
 .simp only[T5,qV];unfold iB;have s1:w64 (-a.tdiv (eG a b))=frN a b:=(by rw[qQ (by omega) (by omega)];omega);have s2:w64 (-b.tdiv (eG a b))=frD a b:=(by rw[qQ (by omega) (by omega)];omega);simp[n0,s1,s2,B0,T5];exact fin _ _ (by simp[g4]) (by simp)
 .rw[n1,n2];simp only[T5,qV];unfold iB;simp[show ¬(frD a b<0)from by have:=frD_pos (a:=a) hb;omega];exact fin _ _ (by simp[g4]) (by simp)
end Go.Ix
