import Derived.Test.YtacloojepepcfaaWg3
import Derived.Test.YtacloojepepcfaaWg2
import Derived.Test.YtacloojepepcfaaIxA
import Derived.Test.YtacloojepepcfaaWg1
import Derived.Test.YtacloojepepcfaaFxSound
set_option linter.unusedSimpArgs false
set_option linter.unusedVariables false
namespace Go.Ix
open Go.Proofs
def isP(x:Int):Bool:=wi x (-100000000) 100000000
theorem xdc(d:Nat)(x:Int)(m:Mem):x7y (x7v (d+2)) xm [I x] m=some (B (isP x),m):=by
 refine Ans.call0 ?_ rfl rfl
 unfold Ans
 rw[x6p]
 unfold x46 x3b
 simp[mem0,xcp,isP]
theorem tmod_zero{x:Int}:decide (x.tmod 4096=0)=decide (x % 4096=0):=by
 rw[decide_eq_decide,Int.tmod_eq_emod]
 split<;>omega
theorem pr3{a b c a' b' c':Int}(h1:a=a')(h2:b=b')(h3:c=c'):(a,b,c)=(a',b',c'):=by subst h1 h2 h3;rfl
theorem xb7{b m a n c:Int}(h:m<c\/(c=m/\n<b)):x81 (b,m,a) (n,c)=(n,c,a+c):=by unfold x81;exact xmv h
theorem xa1{b m a n c:Int}(h:¬(m<c\/(c=m/\n<b))):x81 (b,m,a) (n,c)=(b,m,a+c):=by unfold x81;exact xmw h
theorem xlg(s:Int×Int×Int)(x y:Int×Int):x81 (x81 s x) y=x81 (x81 s y) x:=by
 obtain⟨b,m,a⟩:=s
 obtain⟨n,c⟩:=x
 obtain⟨k,d⟩:=y
 by_cases h1:m<c\/(c=m/\n<b)<;>by_cases h2:m<d\/(d=m/\k<b)
 .rw[xb7 h1,xb7 h2]
  by_cases h3:c<d\/(d=c/\k<n)<;>by_cases h4:d<c\/(c=d/\n<k)
  .omega
  .rw[xb7 h3,xa1 h4];exact pr3 (by omega) (by omega) (by omega)
  .rw[xa1 h3,xb7 h4];exact pr3 (by omega) (by omega) (by omega)
  .rw[xa1 h3,xa1 h4];exact pr3 (by omega) (by omega) (by omega)
 .rw[xb7 h1,xa1 h2,xa1 (by omega),xb7 h1];exact pr3 (by omega) (by omega) (by omega)
 .rw[xa1 h1,xb7 h2,xb7 h2,xa1 (by omega)];exact pr3 (by omega) (by omega) (by omega)
 .rw[xa1 h1,xa1 h2,xa1 h2,xa1 h1];exact pr3 (by omega) (by omega) (by omega)
theorem xlh{l l':List (Int×Int)}(h:l.Perm l'):∀s,l.foldl x81 s=l'.foldl x81 s:=by
 induction h with
 |nil=>intro s;rfl
 |cons x _ ih=>intro s;exact ih _
 |swap x y l=>intro s;show List.foldl x81 (x81 (x81 s y) x) l=List.foldl x81 (x81 (x81 s x) y) l;rw[xlg]
 |trans _ _ h1 h2=>intro s;rw[h1,h2]
theorem xgi:∀(l:List (Int×Int)) (s:Int×Int×Int),(l.foldl x81 s).2.2=s.2.2+(l.map (·.2)).sum
 |[],s=>by simp
 |x::l,s=>by
  rw[xow,xgi l,xn5,xq7]
  have:(x81 s x).2.2=s.2.2+x.2:=by unfold x81;split<;>rfl
  rw[this];omega
def shF(t x:Int):Int:=if x=void then x else x+t*4096
def shL(t:Int)(l:List Int):List Int:=l.map (shF t)
def shE(t:Int)(l:List Int):Int:=bif !(wi t (-1000) 1000)then 2 else bif(shL t l).any (badP isP)then 8 else 0
def votL:List (Int×Int)->Option (List Int)
 |[]=>some []
 |x::r=>if x.1=void\/x.2=void then votL r else if(x.1-x.2) % 4096=0 then(votL r).map ((x.1-x.2).tdiv 4096::·)else none
def addC:List (Int×Int)->Int->List (Int×Int)
 |[],n=>[(n,1)]
 |x::r,n=>if n=x.1 then(n,x.2+1)::r else x::addC r n
structure Cn (E:List (Int×Int)) (l:List Int):Prop where
 own:(E.map (·.1)).Nodup
 cnt:∀x∈E,x.2=(l.count x.1:Int)/\x.1∈l
 all:∀n∈l,(n,(l.count n:Int))∈E
 sum:(E.map (·.2)).sum=l.length
 len:E.length<=l.length
theorem Cn.nil:Cn [] []:=⟨by simp,by simp,by simp,by simp,by simp⟩
theorem xj7:∀(E:List (Int×Int)) (p:Int),(addC E p).map (·.1)=if p∈E.map (·.1)then E.map (·.1)else E.map (·.1)++[p]
 |[],p=>by simp[addC]
 |x::r,p=>by
  unfold addC
  by_cases c:p=x.1
  .rw[xmv c,xn5,xn5,xmv (by rw[c];exact xnd)];simp[c]
  .rw[xmw c,xn5,xj7 r p,xn5]
   by_cases c2:p∈r.map (·.1)
   .rw[xmv c2,xmv (xn6 _ c2)]
   .have hc:¬p∈x.1::r.map (·.1):=by
     rw[xnh]
     intro h
     rcases h with h|h
     .exact c h
     .exact c2 h
    rw[xmw c2,xmw hc];rfl
theorem xgj:∀{E:List (Int×Int)} {p:Int},(E.map (·.1)).Nodup->∀x:Int×Int,x∈addC E p↔(x∈E/\x.1≠p)\/(x.1=p/\((p,x.2-1)∈E\/(p∉E.map (·.1)/\x.2=1)))
 |[],p,_,x=>by
  obtain⟨a,b⟩:=x
  simp[addC]
 |y::r,p,h,x=>by
  obtain⟨a,b⟩:=x
  obtain⟨n,c⟩:=y
  have hn:n∉r.map (·.1)/\(r.map (·.1)).Nodup:=xpe.1 h
  unfold addC
  dsimp only
  by_cases e:p=n
  .subst e
   rw[xmv rfl]
   have h1:∀z,(p,z)∉r:=λz hz=>hn.1 (xnf.2 ⟨_,hz,rfl⟩)
   simp only[xnh,xmx,xn5,true_or,not_true_eq_false,false_and,or_false,ne_eq]
   constructor
   .rintro(⟨rfl,rfl⟩|hm)
    .exact .inr ⟨rfl,.inl ⟨trivial,by omega⟩⟩
    .refine .inl ⟨.inr hm,?_⟩
     rintro rfl;exact h1 _ hm
   .rintro(⟨⟨rfl,rfl⟩|hm,h2⟩|⟨rfl,⟨-,h3⟩|h3⟩)
    .exact absurd rfl h2
    .exact .inr hm
    .exact .inl ⟨rfl,by omega⟩
    .exact absurd h3 (h1 _)
  .rw[xmw e]
   have ih:=xgj hn.2 (p:=p) (a,b)
   simp only[xnh,ih,xmx,xn5,not_or,ne_eq]
   constructor
   .rintro(⟨rfl,rfl⟩|⟨hm,h2⟩|⟨rfl,h3|⟨h3,h4⟩⟩)
    .exact .inl ⟨.inl ⟨rfl,rfl⟩,λh=>e h.symm⟩
    .exact .inl ⟨.inr hm,h2⟩
    .exact .inr ⟨rfl,.inl (.inr h3)⟩
    .exact .inr ⟨rfl,.inr ⟨⟨e,h3⟩,h4⟩⟩
   .rintro(⟨⟨rfl,rfl⟩|hm,h2⟩|⟨rfl,(⟨rfl,-⟩|h3)|⟨⟨h3,h5⟩,h4⟩⟩)
    .exact .inl ⟨rfl,rfl⟩
    .exact .inr (.inl ⟨hm,h2⟩)
    .exact absurd rfl e
    .exact .inr (.inr ⟨rfl,.inl h3⟩)
    .exact .inr (.inr ⟨rfl,.inr ⟨h5,h4⟩⟩)
theorem xj8:∀(E:List (Int×Int)) (p:Int),((addC E p).map (·.2)).sum=(E.map (·.2)).sum+1
 |[],p=>by simp[addC]
 |x::r,p=>by
  unfold addC
  split
  .simp only[xn5,xq7];omega
  .simp only[xn5,xq7,xj8 r p];omega
theorem xj9:∀(E:List (Int×Int)) (p:Int),(addC E p).length<=E.length+1
 |[],p=>by simp[addC]
 |x::r,p=>by
  unfold addC
  split
  .simp
  .have:=xj9 r p;simp only[xnp];omega
theorem Cn.add{E:List (Int×Int)}{l:List Int}(h:Cn E l)(p:Int):Cn (addC E p) (l++[p]):=by
 have hc:∀n,((l++[p]).count n:Int)=l.count n+(if n=p then 1 else 0):=λn=>by
  rw[List.count_append]
  by_cases e:n=p
  .subst e;simp
  .rw[xmw e,List.count_singleton,xmw (by simp;exact λh=>e h.symm)];simp
 have h0:p∉E.map (·.1)->l.count p=0:=λhp=>by
  rw[List.count_eq_zero]
  intro hm
  exact hp (xnf.2 ⟨_,h.all p hm,rfl⟩)
 refine⟨?_,?_,?_,?_,?_⟩
 .rw[xj7]
  split
  .exact h.own
  .rename_i hp
   refine xq0.2 ⟨h.own,by simp,?_⟩
   rintro a ha b hb rfl
   rw[xoe]at hb
   subst hb
   exact hp ha
 .intro x hx
  rw[xgj h.own]at hx
  rcases hx with ⟨hx,hne⟩|⟨he,hx|⟨hx,h1⟩⟩
  .obtain⟨h1,h2⟩:=h.cnt x hx
   exact⟨by rw[hc,xmw hne];omega,xpi _ h2⟩
  .obtain⟨h1,h2⟩:=h.cnt _ hx
   dsimp only at h1
   exact⟨by rw[hc,xmv he,he];omega,by rw[he];simp⟩
  .have:=h0 hx
   exact⟨by rw[hc,xmv he,he,this];omega,by rw[he];simp⟩
 .intro n hn
  rw[xgj h.own]
  dsimp only
  by_cases e:n=p
  .subst e
   refine .inr ⟨rfl,?_⟩
   by_cases hp:n∈E.map (·.1)
   .left
    obtain⟨y,hy,rfl⟩:=xnf.1 hp
    have h1:=h.cnt y hy
    have:(y.1,((l++[y.1]).count y.1:Int)-1)=y:=by
     rw[hc,xmv rfl]
     refine Prod.ext rfl ?_
     dsimp only
     omega
    rw[this];exact hy
   .right
    exact⟨hp,by rw[hc,xmv rfl,h0 hp];omega⟩
  .left
   refine⟨?_,e⟩
   rw[hc,xmw e]
   rcases xpb.1 hn with h1|h1
   .have:=h.all n h1;simpa using this
   .rw[xoe]at h1;exact absurd h1 e
 .rw[xj8,h.sum];simp
 .have:=xj9 E p
  have:=h.len
  simp;omega
def IsB(L:List (Int×Int))(b m:Int):Prop:=(b,m)∈L/\∀x∈L,¬(m<x.2\/(x.2=m/\x.1<b))
theorem IsB.uniq{L:List (Int×Int)}{b m b' m':Int}(h:IsB L b m)(h':IsB L b' m'):b=b'/\m=m':=by
 have h1:=h.2 _ h'.1
 have h2:=h'.2 _ h.1
 dsimp only at h1 h2
 omega
theorem xja:∀(L:List (Int×Int)) (s:Int×Int×Int),(((L.foldl x81 s).1,(L.foldl x81 s).2.1)∈L\/((L.foldl x81 s).1=s.1/\(L.foldl x81 s).2.1=s.2.1)) /\
 (∀x∈L,¬((L.foldl x81 s).2.1<x.2\/(x.2=(L.foldl x81 s).2.1/\x.1<(L.foldl x81 s).1)))/\¬((L.foldl x81 s).2.1<s.2.1\/(s.2.1=(L.foldl x81 s).2.1/\s.1<(L.foldl x81 s).1))
 |[],s=>⟨.inr ⟨rfl,rfl⟩,by simp,by simp only[List.foldl_nil];omega⟩
 |x::L,s=>by
  obtain⟨h1,h2,h3⟩:=xja L (x81 s x)
  rw[xow]
  have hs:(x81 s x).1=x.1/\(x81 s x).2.1=x.2/\(s.2.1<x.2\/(x.2=s.2.1/\x.1<s.1))\/(x81 s x).1=s.1/\(x81 s x).2.1=s.2.1/\¬(s.2.1<x.2\/(x.2=s.2.1/\x.1<s.1)):=by
   unfold x81
   split
   .rename_i h;exact .inl ⟨rfl,rfl,h⟩
   .rename_i h;exact .inr ⟨rfl,rfl,h⟩
  generalize L.foldl x81 (x81 s x)=f at h1 h2 h3
  obtain⟨f1,f2,f3⟩:=f
  obtain⟨x1,x2⟩:=x
  dsimp only at h1 h2 h3 hs ⊢
  refine⟨?_,?_,?_⟩
  .rcases h1 with h1|⟨h1,h4⟩
   .exact .inl (xn6 _ h1)
   .rcases hs with ⟨a,b,c⟩|⟨a,b,c⟩
    .left;rw[h1,h4,a,b];exact xnd
    .right;exact⟨h1.trans a,h4.trans b⟩
  .intro y hy
   rcases xnh.1 hy with rfl|hy
   .dsimp only;omega
   .exact h2 y hy
  .omega
theorem xjb{L:List (Int×Int)}(hne:L≠[])(h1:∀x∈L,1<=x.2):IsB L (L.foldl x81 (0,0,0)).1 (L.foldl x81 (0,0,0)).2.1:=by
 obtain⟨a,b,c⟩:=xja L (0,0,0)
 refine⟨?_,b⟩
 rcases a with a|⟨a1,a2⟩
 .exact a
 .obtain⟨x,r,rfl⟩:∃x r,L=x::r:=by
   cases L with
   |nil=>exact absurd rfl hne
   |cons x r=>exact⟨x,r,rfl⟩
  have:=b x xnd
  have:=h1 x xnd
  dsimp only at a2
  omega
theorem IsB.same{L L':List (Int×Int)}{b m:Int}(h:IsB L b m)(he:∀x,x∈L↔x∈L'):IsB L' b m:=⟨(he _).1 h.1,λx hx=>h.2 x ((he x).2 hx)⟩
def prL(l:List Int):List (Int×Int):=l.map λn=>(n,(l.count n:Int))
theorem Cn.mem{E:List (Int×Int)}{l:List Int}(h:Cn E l)(x:Int×Int):x∈E↔x∈prL l:=by
 unfold prL
 rw[xnf]
 constructor
 .intro hx
  obtain⟨h1,h2⟩:=h.cnt x hx
  exact⟨x.1,h2,Prod.ext rfl h1.symm⟩
 .rintro⟨n,hn,rfl⟩
  exact h.all n hn
theorem Cn.pos{E:List (Int×Int)}{l:List Int}(h:Cn E l):∀x∈E,1<=x.2:=λx hx=>by
 obtain⟨h1,h2⟩:=h.cnt x hx
 have:=List.count_pos_iff.2 h2
 omega
theorem prL_pos{l:List Int}:∀x∈prL l,1<=x.2:=λx hx=>by
 obtain⟨n,hn,rfl⟩:=xnf.1 hx
 have:=List.count_pos_iff.2 hn
 dsimp only
 omega
def elB(l:List Int):Int:=((prL l).foldl x81 (0,0,0)).1
def elM(l:List Int):Int:=((prL l).foldl x81 (0,0,0)).2.1
theorem xe4{l:List Int}(hne:l≠[]):IsB (prL l) (elB l) (elM l):=xjb (by unfold prL;simpa using hne) prL_pos
theorem Cn.elect{E:List (Int×Int)}{l:List Int}(h:Cn E l)(hne:l≠[]):(E.foldl x81 (0,0,0)).1=elB l/\(E.foldl x81 (0,0,0)).2.2-(E.foldl x81 (0,0,0)).2.1=l.length-elM l:=by
 have hE:E≠[]:=by
  rintro rfl
  have:=h.sum
  simp at this
  exact hne (xol.1 (by omega))
 have h1:=(xjb hE h.pos).same h.mem
 obtain⟨h2,h3⟩:=h1.uniq (xe4 hne)
 have h4:=xgi E (0,0,0)
 rw[h.sum]at h4
 dsimp only at h4
 exact⟨h2,by rw[h3];omega⟩
theorem xjc{l:List Int}(hne:l≠[])(t:Int):elB (l.map (· - t))=elB l-t/\elM (l.map (· - t))=elM l:=by
 have hc:∀n,(l.map (· - t)).count n=l.count (n+t):=λn=>by
  rw[List.count_eq_countP,List.count_eq_countP,List.countP_map]
  congr 1
  funext x
  simp only[Function.comp]
  rw[Bool.eq_iff_iff]
  simp
  omega
 have h1:=xe4 (l:=l.map (· - t)) (by simpa using hne)
 have h2:=xe4 hne
 have hm:∀b m:Int,(b,m)∈prL (l.map (· - t))↔(b+t,m)∈prL l:=λb m=>by
  unfold prL
  simp only[xnf,xmx]
  constructor
  .rintro⟨n,⟨k,hk,rfl⟩,rfl,hcn⟩
   rw[hc,show k-t+t=k from by omega]at hcn
   exact⟨k,hk,by omega,hcn⟩
  .rintro⟨n,hn,e,hcn⟩
   refine⟨n-t,⟨n,hn,rfl⟩,by omega,?_⟩
   rw[hc,show n-t+t=n from by omega]
   exact hcn
 have h3:IsB (prL (l.map (· - t))) (elB l-t) (elM l):=by
  refine⟨?_,λx hx=>?_⟩
  .rw[hm,show elB l-t+t=elB l from by omega];exact h2.1
  .have:=h2.2 (x.1+t,x.2) ((hm x.1 x.2).1 hx)
   dsimp only at this
   omega
 obtain⟨a,b⟩:=h1.uniq h3
 exact⟨a,b⟩
def ovR(A B:List Int)(ca cb ov r:Nat):List (Int×Int):=(List.range ov).map λk=>(at0 A (r*ca+(ca-ov)+k),at0 B (r*cb+k))
def ovL(A B:List Int)(ca cb ov n:Nat):List (Int×Int):=(List.range n).flatMap (ovR A B ca cb ov)
def xah(A B:List Int)(ca cb ov:Nat)(sh:Int)(r k:Nat):Int:=
 if k<ca/\¬(at0 A (r*ca+k)=void/\ca-ov<=k)then at0 A (r*ca+k)else shF sh (at0 B (r*cb+(k-(ca-ov))))
def rowJ(A B:List Int)(ca cb ov:Nat)(sh:Int)(r:Nat):List Int:=(List.range (ca+cb-ov)).map (xah A B ca cb ov sh r)
def jnL(A B:List Int)(ca cb ov n:Nat)(sh:Int):List Int:=(List.range n).flatMap (rowJ A B ca cb ov sh)
def joE(ra ca rb cb ov:Int):Int:=if ¬ra=rb then 13 else bif !(wi ov 1 (if cb<ca then cb else ca))then 2 else if 64<ca+cb-ov then 8 else 0
def joR(A B:List Int)(ca cb ov n:Nat):List Int×Int×Int:=
 match votL (ovL A B ca cb ov n)with
 |none=>([],0,27)
 |some l=>if l=[]then([],0,12)else if(jnL A B ca cb ov n (elB l)).any (badP isP)then([],0,8)else(jnL A B ca cb ov n (elB l),l.length-elM l,0)
theorem xjd{t x:Int}(ht:-100000<=t/\t<=100000)(hx:x=void\/isP x=true):shF t x=void↔x=void:=by
 unfold shF
 by_cases c:x=void
 .rw[xmv c]
 .rw[xmw c]
  rcases hx with hx|hx
  .exact absurd hx c
  .have:=wi_t hx
   refine⟨λh=>?_,λh=>absurd h c⟩
   have hv:void=1000000000000:=rfl
   omega
theorem votL_sh(t:Int):∀L:List (Int×Int),(∀x∈L,shF t x.2=void↔x.2=void)->votL (L.map λx=>(x.1,shF t x.2))=(votL L).map (List.map (· - t))
 |[],_=>rfl
 |x::r,h=>by
  have ih:=votL_sh t r (λy hy=>h y (xn6 _ hy))
  have h0:=h x xnd
  rw[xn5,votL,votL,ih]
  dsimp only
  by_cases c:x.1=void\/x.2=void
  .rw[xmv c,xmv (c.imp id h0.2)]
  .have c2:¬(x.1=void\/shF t x.2=void):=by
    rintro(h1|h1)
    .exact c (.inl h1)
    .exact c (.inr (h0.1 h1))
   rw[xmw c,xmw c2]
   have e:x.1-shF t x.2=x.1-x.2-t*4096:=by
    unfold shF
    rw[xmw (λh1=>c (.inr h1))]
    omega
   rw[e]
   have hm:(x.1-x.2-t*4096) % 4096=(x.1-x.2) % 4096:=by omega
   rw[hm]
   by_cases c3:(x.1-x.2) % 4096=0
   .rw[xmv c3,xmv c3]
    have hq:(x.1-x.2-t*4096).tdiv 4096=(x.1-x.2).tdiv 4096-t:=by
     obtain⟨q,hq⟩:∃q,x.1-x.2=4096*q:=⟨(x.1-x.2) / 4096,by omega⟩
     rw[hq,show 4096*q-t*4096=4096*(q-t)from by omega,Int.mul_tdiv_cancel_left _ (by omega),Int.mul_tdiv_cancel_left _ (by omega)]
    rw[hq]
    cases votL r<;>rfl
   .rw[xmw c3,xmw c3];rfl
theorem shF_sh{t e y:Int}(h:shF t y=void↔y=void):shF (e-t) (shF t y)=shF e y:=by
 by_cases c:y=void
 .have h1:=h.2 c
  have h2:shF e y=y:=by unfold shF;rw[xmv c]
  rw[h2,h1]
  unfold shF
  rw[xmv rfl,c]
 .have h1:¬shF t y=void:=λh3=>c (h.1 h3)
  have h2:shF t y=y+t*4096:=by unfold shF;rw[xmw c]
  have h3:shF e y=y+e*4096:=by unfold shF;rw[xmw c]
  rw[h3]
  unfold shF at h1 ⊢
  rw[xmw h1,xmw c]
  omega
theorem xe5(t:Int)(l:List Int){i:Nat}(h:i<l.length):at0 (shL t l) i=shF t (at0 l i):=by
 rw[x8j (by unfold shL;simpa using h),x8j h]
 unfold shL
 simp
theorem xje{α β:Type}{l:List α}{f g:α->List β}(h:∀a∈l,f a=g a):l.flatMap f=l.flatMap g:=by
 induction l with
 |nil=>rfl
 |cons x r ih=>rw[xo1,xo1,h x xnd,ih λa ha=>h a (xn6 _ ha)]
theorem joR_sh{A B:List Int}{ca cb ov n:Nat}{t:Int}(ht:-1000<=t/\t<=1000)(hB:B.length=n*cb)(h1:ov<=cb)(h2:ov<=ca)(hPB:∀y∈B,y=void\/isP y=true)(hPA:∀y∈A,y=void\/isP y=true)(hA:A.length=n*ca)(hok:(joR A B ca cb ov n).2.2=0):joR A (shL t B) ca cb ov n=joR A B ca cb ov n:=by
 have hin:∀r k,r<n->k<cb->r*cb+k<B.length:=λr k hr hk=>by
  rw[hB]
  have:=xoh (show r+1<=n from hr) (xn3 cb)
  rw[xnu]at this
  omega
 have hinA:∀r k,r<n->k<ca->r*ca+k<A.length:=λr k hr hk=>by
  rw[hA]
  have:=xoh (show r+1<=n from hr) (xn3 ca)
  rw[xnu]at this
  omega
 have hv:∀i,i<B.length->(shF t (at0 B i)=void↔at0 B i=void):=λi hi=>xjd (by omega) (by rw[x8j hi];exact hPB _ (List.getElem_mem hi))
 have e1:ovL A (shL t B) ca cb ov n=(ovL A B ca cb ov n).map λx=>(x.1,shF t x.2):=by
  unfold ovL
  rw[List.map_flatMap]
  refine xje λr hr=>?_
  rw[xni]at hr
  unfold ovR
  rw[List.map_map]
  refine xpg λk hk=>?_
  rw[xni]at hk
  simp only[Function.comp]
  rw[xe5 t B (hin r k hr (by omega))]
 have hmem:∀x∈ovL A B ca cb ov n,∃r k,r<n/\k<ov/\x=(at0 A (r*ca+(ca-ov)+k),at0 B (r*cb+k)):=λx hx=>by
  unfold ovL at hx
  obtain⟨r,hr,hx⟩:=xo0.1 hx
  unfold ovR at hx
  obtain⟨k,hk,rfl⟩:=xnf.1 hx
  exact⟨r,k,xni.1 hr,xni.1 hk,rfl⟩
 have e2:=votL_sh t (ovL A B ca cb ov n) (λx hx=>by
  obtain⟨r,k,hr,hk,rfl⟩:=hmem x hx
  exact hv _ (hin r k hr (by omega)))
 unfold joR at hok ⊢
 rw[e1,e2]
 cases hvl:votL (ovL A B ca cb ov n)with
 |none=>rfl
 |some l=>
  rw[hvl]at hok
  dsimp only at hok
  simp only[Option.map_some]
  by_cases c:l=[]
  .subst c;rfl
  .have c2:¬l.map (· - t)=[]:=by simpa using c
   rw[xmw c,xmw c2,(xjc c t).1,(xjc c t).2]
   have e3:jnL A (shL t B) ca cb ov n (elB l-t)=jnL A B ca cb ov n (elB l):=by
    unfold jnL
    refine xje λr hr=>?_
    rw[xni]at hr
    unfold rowJ
    refine xpg λk hk=>?_
    rw[xni]at hk
    unfold xah
    split
    .rfl
    .have hi:=hin r (k-(ca-ov)) hr (by omega)
     rw[xe5 t B hi,shF_sh (hv _ hi)]
   rw[e3,xo6]
theorem xjf(d:Nat):Tell1 (x7v (d+2)) (.clo x9 []) isP:=by
 intro hs x m
 refine⟨m.next+1,?_⟩
 show x7v (d+2) hs x9 [I x] m=_
 rw[x6i]
 unfold x40 x2v
 simp[xc1,isP]
theorem xey(d:Nat){a:AV}{r c:Int}{l:List Int}(ha:Ints a l)(hl:l.length<1000000)(m:Mem):x7y (x7v (d+7)) xk [.agg [I r,I c,a],.clo x9 []] m=some (I (x88 isP r c l),m):=
 w_mapErr (d+1) (xjf d) rfl rfl rfl ha hl m
theorem xjg(d:Nat){a:AV}{r c:Int}{l:List Int}(ha:Ints a l)(hl:l.length<1000000)(m:Mem):x7y (x7v (d+6)) xd [.agg [I r,I c,a],.clo x9 []] m=some (I (x9d isP l),m):=
 xj6 (d+1) (xjf d) rfl rfl rfl ha hl m
theorem xli(d:Nat)(hs:FHs){a:AV}{r c:Int}{l:List Int}(h:Ints a l)(hb:l.length<=1000000):∀(suf:List Int) (k j:Nat) (m:Mem) (fc:Nat),l.drop k=suf->suf.length<j->m.get (0,0,1)=some (.row [I r,I c,a] 0 false) ->
 ∃m',x1c (x7v (d+2)) hs 0 j (.ptr (0,0,1) 0 0) (I k) m fc=some (I (x9d isP suf),m'):=by
 intro suf
 induction suf with
 |nil=>
  intro k j m fc hd hj hg
  obtain⟨j,rfl⟩:∃i,j=i+1:=⟨j-1,by simp at hj;omega⟩
  have hk:¬((k:Int)<(l.length:Int)):=by have:=xp5.mp hd;omega
  simp only[x1c]
  unfold x2c
  simp[hg,h.len x8q,hk,x4l,x9d]
 |cons x r ih=>
  intro k j m fc hd hj hg
  obtain⟨j,rfl⟩:∃i,j=i+1:=⟨j-1,by simp at hj;omega⟩
  obtain⟨hk,hke,hd⟩:=xe0 hd
  have hk':(k:Int)<(l.length:Int):=by omega
  have ix:=h.ix x8n hk
  have e1:at0 l k=x:=by rw[x8j hk,hke]
  have ih':=λm fc=>ih (k+1) j m fc hd (by simp at hj;omega)
  simp only[x1c,xlf]
  unfold x2c
  simp(disch:=omega) [hg,h.len x8q,hk',ix,xa7,e1]
  by_cases c1:x=void
  .simp(disch:=omega) [c1,badP]
   exact ih' _ _ hg
  cases c:isP x
  .simp(disch:=omega) [c1,c,xdc,badP,ix,xa7,e1,hg]
  .simp(disch:=omega) [c1,c,xdc,badP,ix,xa7,e1,hg]
   exact ih' _ _ hg
theorem xjh(d:Nat){a:AV}{r c:Int}{l:List Int}(h:Ints a l)(hl:l.length<=1000000)(m:Mem):x7y (x7v (d+3)) xq [.agg [I r,I c,a]] m=some (I (x88 isP r c l),m):=by
 refine Ans.call0 ?_ (by simp[h.still1]) rfl
 unfold Ans
 rw[x6d]
 unfold x3v x2d x4m
 simp[mem0,h.one,h.len x8q,xld]
 by_cases e:x9y r c l.length=0
 .simp[e,x88]
  exact xli d [] (r:=r) (c:=c) h hl l 0 NN _ _ rfl (by rw[x9s];omega) (by simp)
 .simp[e,x88]
theorem xgk(d:Nat)(r c:Int){a b:AV}{l:List Int}(ha:Ints a l)(hb:Ints b l)(hl:l.length<=1000000)(m:Mem):x7y (x7v (d+2)) xj [.agg [I r,I c,a],.agg [I r,I c,b]] m=some (B true,m):=by
 have hI:=λm=>w_Ints d ha hb hl m
 refine Ans.call0 (r:=B true) (l:=[.agg [I r,I c,a],.agg [I r,I c,b]]) ⟨((⟨[],1⟩:Mem).new (0,0,2) (.row [I r,I c,a] 0 false)).new (0,1,3) (.row [I r,I c,b] 0 false),?_⟩ (by simp[ha.still1,hb.still1]) rfl
 rw[x6f]
 unfold x3x x2r
 simp[mem0,ha.one,hb.one,hI]
theorem xez{t x:Int}(ht:-1000000<=t/\t<=1000000)(hx:x=void\/isP x=true):w64 (t*4096)=t*4096/\(x≠void->w64 (x+t*4096)=shF t x):=by
 refine⟨x82 (by omega) (by omega),λhne=>?_⟩
 rcases hx with hx|hx
 .exact absurd hx hne
 have:=wi_t hx
 unfold shF
 rw[xmw hne,x82 (by omega) (by omega)]
theorem Gr.reach{u t k:Nat}{v:AV}{l:List Int}{m:Mem}(hG:Gr 1 intE u t m v l):∀i∈Go.Ix.reach m.get (k+2) v,i.2.2=t:=by
 rcases hG with ⟨rfl,rfl⟩|⟨s,ver,rfl,hg⟩
 .intro i hi;cases hi
 .intro i hi
  have e:Go.Ix.reach m.get (k+2) (.sref (u,s,t) ver 0 l.length 1 true)=[(u,s,t)]:=by
   show(match m.get (u,s,t)with|some (.row cs _ _)=>(u,s,t)::((cs.drop 0).take (l.length*1)).flatMap (Go.Ix.reach m.get (k+1))|_=>[(u,s,t)])=_
   rw[hg]
   show(u,s,t)::(((l.flatMap intE).drop 0).take (l.length*1)).flatMap (Go.Ix.reach m.get (k+1))=_
   have hl:=xaf x8n l
   rw[xnc,xn9 (by omega)]
   have:(l.flatMap intE).flatMap (Go.Ix.reach m.get (k+1))=[]:=by
    rw[xp1]
    exact λa ha=>xeu m.get k (xn1.mp (xbj xb6 l) a ha)
   rw[this]
  rw[e,xoe]at hi
  rw[hi]
theorem xlj{objs:Id->Option Ob}{k:Nat}{a:AV}{v:Value}(h:Go.Ix.frz objs k a=some (.sc v)):a=.sc v:=by
 cases k with
 |zero=>simp[Go.Ix.frz]at h
 |succ k=>
  unfold Go.Ix.frz at h
  split at h
  all_goals first
   |(simp only[xmy,AV.sc.injEq]at h;rw[h])
   |(simp only[xmz]at h;obtain⟨_,_,h⟩:=h;cases h)
   |(cases h;done)
   |skip
  .split at h
   .split at h
    .simp only[xmz]at h;obtain⟨_,_,h⟩:=h;cases h
    .cases h
   .cases h
  .split at h
   .split at h
    .simp only[xmz]at h;obtain⟨_,_,h⟩:=h;cases h
    .cases h
   .cases h
theorem phErr_mem(d:Nat){u t:Nat}{v:AV}{l:List Int}{m:Mem}(hG:Gr 1 intE u t m v l)(hl:l.length<1000000)(r c:Int) :
 xdr (x7v (d+6)) xd [.agg [I r,I c,v],.clo x9 []] m=some (I (x9d isP l),m):=by
 obtain⟨b,hb,hz⟩:=hG.frzk x8n xb6 (k:=3)
 have hz2:[AV.agg [I r,I c,v],.clo x9 []].mapM (Go.Ix.frz m.get deep)=some [AV.agg [I r,I c,b],.clo x9 []]:=by
  have e1:Go.Ix.frz m.get deep (.agg [I r,I c,v])=some (.agg [I r,I c,b]):=by
   show([I r,I c,v].mapM (Go.Ix.frz m.get 5)).map AV.agg=_
   simp only[xnw,xoo,hz]
   rfl
  have e2:Go.Ix.frz m.get deep (.clo x9 [])=some (.clo x9 []):=rfl
  simp only[xnw,xoo,e1,e2]
  rfl
 have h1:=xjg d (r:=r) (c:=c) hb hl mem0
 have hm1:[AV.agg [I r,I c,b],.clo x9 []].mapM (Go.Ix.frz mem0.get deep)=some [AV.agg [I r,I c,b],.clo x9 []]:=xev _ (by simp[hb.still1])
 unfold x7y at h1
 rw[hm1]at h1
 unfold xdr
 rw[hz2]
 dsimp only at h1 ⊢
 cases hc:x7v (d+6) [] xd [.agg [I r,I c,b],.clo x9 []] mem0 with
 |none=>rw[hc]at h1;cases h1
 |some p=>
  rw[hc]at h1
  dsimp only at h1 ⊢
  cases hf:Go.Ix.frz p.2.get deep p.1 with
  |none=>rw[hf]at h1;cases h1
  |some r0=>
   rw[hf]at h1
   have e1:=congrArg Prod.fst (xo8 h1)
   dsimp only at e1
   subst e1
   have:p.1=I (x9d isP l):=xlj hf
   rw[this];rfl
theorem Gr.own1{u t:Nat}{v:AV}{l:List Int}{m:Mem}(hG:Gr 1 intE u t m v l):v.one=true/\v.cells=[v]:=by
 rcases hG with ⟨rfl,rfl⟩|⟨s,ver,rfl,hg⟩
 .exact⟨rfl,rfl⟩
 .exact⟨rfl,rfl⟩
theorem xgl{objs:Id->Option Ob}{r c:Int}{v b:AV}(h:Go.Ix.frz objs 4 v=some b):Go.Ix.frz objs 5 (.agg [I r,I c,v])=some (.agg [I r,I c,b]):=by
 show([I r,I c,v].mapM (Go.Ix.frz objs 4)).map AV.agg=_
 simp only[xnw,xoo,h]
 rfl
theorem l_shifted(d:Nat){t r c:Int}(ht:-1000<=t/\t<=1000){a:AV}{l:List Int}(ha:Ints a l)(hl:l.length<=5000)(hP:∀y∈l,y=void\/isP y=true):∀(suf:List Int) (k j:Nat) (acc:List Int) (v:AV) (m:Mem) (fc:Nat),l.drop k=suf->suf.length<j->acc.length=k->acc++shL t suf=shL t l ->
 m.get (0,1,4)=some (.row [I 0,I 0,nilS] 0 false)->m.get (0,8,6)=some (.row [I r,I c,v] 0 false)->Gr 1 intE 0 32 m v acc ->
 RetF (λx=>∃b,Ints b (shL t l)/\x=.tup [.agg [I r,I c,b],B (decide (x9d isP (shL t l)=0))]) (x10 (x7v (d+6)) [] 0 j (I t) (.ptr (0,1,4) 0 0) (.ptr (0,8,6) 0 0) a (I l.length) (I k) m fc):=by
 intro suf
 induction suf with
 |nil=>
  intro k j acc v m fc hd hj hac hsh g4 g6 hG
  obtain⟨j,rfl⟩:∃i,j=i+1:=⟨j-1,by simp at hj;omega⟩
  have hk:¬((k:Int)<(l.length:Int)):=by have:=xp5.mp hd;omega
  have hal:acc=shL t l:=by rw[<-hsh];simp[shL]
  subst hal
  have hlen:(shL t l).length<1000000:=by simp[shL];omega
  have hE:=phErr_mem d hG hlen r c
  obtain⟨ho,hc⟩:=hG.own1
  have l6:sLd true 3 (.ptr (0,8,6) 0 0) m=some (.agg [I r,I c,v]):=by rw[x7z g6];rfl
  obtain⟨M,hM⟩:∃M:Mem,M=m.set (0,1,4) (.row [I r,I c,v] 0 false):=⟨_,rfl⟩
  have S1:∀{R:Type} (K:Mem->Option R),sSt 3 (.ptr (0,1,4) 0 0) (.agg [I r,I c,v]) m K=K M:=λK=>by
   rw[x8y (off:=0) (z:=3) (x:=.agg [I r,I c,v]) (k:=K) g4 rfl (by simp) (by rw[x9z];simp[ho]),hM];rfl
  have p4:M.get (0,1,4)=some (.row [I r,I c,v] 0 false):=by rw[hM,Mem.get_set_same]
  have l4:sLdP true 3 (.ptr (0,1,4) 0 0) M=some (.agg [I r,I c,v]):=by show sLd true 3 (.ptr (0,1,4) 0 0) M=_;rw[x7z p4];rfl
  have hg:(cAp none (tR (.ptr (0,8,6) 0 0)) (mkM 3 [.agg [I r,I c,v],.clo x9 []])&&true)=true:=by simp
  simp only[x10]
  unfold x2x x58
  simp only[x8m,hk,xn2,x7x,x86,l6,hE,xa5,S1,hg,x94,l4]
  obtain⟨b,hb,hz⟩:=(hG.frame (m':=M) λs=>by rw[hM,Mem.get_set_ne (by simp)]).frzk x8n xb6 (k:=2)
  exact RetF.mk (xj4 (xgl hz) rfl) ⟨b,hb,rfl⟩
 |cons x suf ih=>
  intro k j acc v m fc hd hj hac hsh g4 g6 hG
  obtain⟨j,rfl⟩:∃i,j=i+1:=⟨j-1,by simp at hj;omega⟩
  obtain⟨hk,hke,hd1⟩:=xe0 hd
  have hk':(k:Int)<(l.length:Int):=by omega
  have ix:=ha.ix x8n hk
  have e1:at0 l k=x:=by rw[x8j hk,hke]
  have ld:∀m,sLd false 1 (.plit ((l.drop k).flatMap intE)) m=some (I x):=λm=>by rw[xa7 hk,e1]
  have hxP:=hP x (by rw[<-hke];exact List.getElem_mem hk)
  obtain⟨h64,h64'⟩:=xez (t:=t) (by omega) hxP
  have hw:w64 ((k:Int)+1)=((k+1:Nat):Int):=by rw[x82 (by omega) (by omega)];omega
  have step:∀fc',RetF (λx=>∃b,Ints b (shL t l)/\x=.tup [.agg [I r,I c,b],B (decide (x9d isP (shL t l)=0))])
   (x1z (x7v (d+6)) [] 0 (x10 (x7v (d+6)) [] 0 j) (I t) (.ptr (0,1,4) 0 0) (.ptr (0,8,6) 0 0) (I (shF t x)) a (I l.length) (I k) m fc'):=by
   intro fc'
   obtain⟨v',m',A,G1,n1,f1⟩:=hG.app (bytes:=8) (s0:=fc'+4) x8n (by omega) (by unfold x83;omega) (shF t x)
   obtain⟨ho,hc⟩:=G1.own1
   have a1:sFA 2 (.ptr (0,8,6) 0 0)=some (.ptr (0,8,6) 0 2):=rfl
   have a2:sLd false 1 (.ptr (0,8,6) 0 2) m=some v:=by rw[x7z g6];rfl
   have el:∀objs,elems objs 1 (.slit [I (shF t x)] 1 true)=some (intE (shF t x),1):=λ_=>rfl
   have g6':m'.get (0,8,6)=some (.row [I r,I c,v] 0 false):=(f1 _ (by simp)).trans g6
   have g4':m'.get (0,1,4)=some (.row [I 0,I 0,nilS] 0 false):=(f1 _ (by simp)).trans g4
   have S1:∀{R:Type} (K:Mem->Option R),sSt 1 (.ptr (0,8,6) 0 2) v' m' K=K (m'.set (0,8,6) (.row [I r,I c,v'] 0 false)):=λK=>by
    rw[x8y (off:=2) (z:=1) (x:=v') (k:=K) g6' (by rw[hc];rfl) (by simp) (by rw[hc];simp[ho]),hc];rfl
   unfold x1z x59
   simp only[a1,a2,x7x,xcq,xe2,el,A,S1,x8c,hw]
   refine ih (k+1) j (acc++[shF t x]) v' _ _ hd1 (by simp at hj;omega) (by simp;omega) ?_ ?_ ?_ ?_
   .rw[<-hsh];simp[shL]
   .rw[Mem.get_set_ne (by simp)];exact g4'
   .rw[Mem.get_set_same]
   .exact G1.frame λs=>by rw[Mem.get_set_ne (by simp)]
  simp only[x10]
  unfold x2x x5b x5a
  simp only[x8m,hk',xn4,x7x,x89,ix,ld,xdb,xa6,xc0,x8c]
  by_cases c1:x=void
  .simp only[c1,xn4,xnb,x86]
   have e2:shF t void=void:=by unfold shF;rw[xmv rfl]
   have:=step (fc+1+3+3)
   rw[c1,e2]at this
   exact this
  .simp only[c1,xn2,xn8,x89]
   rw[h64,h64' c1]
   exact step _
theorem xbl{r c:Int}{l:List Int}(h:x88 isP r c l=0):wi r 1 64=true/\wi c 1 64=true/\(l.length:Int)=r*c/\∀y∈l,y=void\/isP y=true:=by
 unfold x88 at h
 by_cases e:x9y r c l.length=0
 rotate_left
 .simp[e]at h
 .rw[xny e,cond_true]at h
  unfold x9y at e
  cases c1:wi r 1 64
  .simp[c1]at e
  cases c2:wi c 1 64
  .simp[c1,c2]at e
  by_cases c3:(l.length:Int)=r*c
  .refine⟨rfl,rfl,c3,λy hy=>?_⟩
   unfold x9d at h
   cases c4:l.any (badP isP)
   .have:=List.any_eq_false.mp c4 y hy
    unfold badP at this
    simp only[xn0,xph,decide_eq_false_iff_not,not_and,Bool.not_eq_false]at this
    by_cases c5:y=void
    .exact .inl c5
    .exact .inr (this c5)
   .rw[c4]at h;simp at h
  .simp[c1,c2,c3]at e
theorem xgm(l:List Int):decide (x9d isP l=0)=!l.any (badP isP):=by
 unfold x9d
 cases l.any (badP isP)<;>rfl
def ShT(r c t:Int)(l:List Int)(v:AV):Prop:=∃b,v=.tup [.agg [I (if shE t l=0 then r else 0),I (if shE t l=0 then c else 0),b],I (shE t l)]/\Ints b (if shE t l=0 then shL t l else[])
theorem ShT.err{r c t e:Int}{l:List Int}(h:shE t l=e)(he:e≠0):ShT r c t l (.tup [.agg [I 0,I 0,nilS],I e]):=by
 subst h
 exact⟨nilS,by rw[xmw he,xmw he],by rw[xmw he];exact Or.inl ⟨rfl,rfl⟩⟩
theorem ShT.ok{r c t:Int}{l:List Int}{b:AV}(h:shE t l=0)(hb:Ints b (shL t l)):ShT r c t l (.tup [.agg [I r,I c,b],I 0]):=
 ⟨b,by rw[xmv h,xmv h,h],by rw[xmv h];exact hb⟩
theorem r_shifted(d:Nat){t r c:Int}(ht:-1000<=t/\t<=1000){a:AV}{l:List Int}(ha:Ints a l)(hl:l.length<=5000)(hP:∀y∈l,y=void\/isP y=true) :
 RetF (λx=>∃b,Ints b (shL t l)/\x=.tup [.agg [I r,I c,b],B (decide (x9d isP (shL t l)=0))]) (x7v (d+7) [] xt [.agg [I r,I c,a],I t] mem0):=by
 rw[x6k]
 unfold x41 x2y x5c
 have hbb:x8i x8 [(0,1,I r),(1,1,I c)]=some (.agg [I r,I c,nilS]):=by rw[x8s];rfl
 simp[mem0,ha.one,ha.len x8q,hbb,x8s]
 refine l_shifted d ht ha hl hP l 0 NN [] nilS _ _ rfl (by rw[x9s];omega) rfl rfl ?_ ?_ Gr.nil
 .simp
 .simp
theorem xlk(d:Nat)(t:Int){r c:Int}{a:AV}{l:List Int}(ha:Ints a l)(hl:l.length<=5000)(e:x88 isP r c l≠0)(m:Mem) :
 x7y (x7v (d+8)) xh [.agg [I r,I c,a],I t] m=some (.tup [.agg [I 0,I 0,nilS],I (x88 isP r c l)],m):=by
 have hE:=λm=>xey d (r:=r) (c:=c) ha (by omega) m
 have hbb:x8i x8 []=some (.agg [I 0,I 0,nilS]):=by rw[x8s];rfl
 refine callV (by simp[ha.still1]) ?_ m
 rw[x66]
 unfold x25 x1u
 simp[mem0,ha.one,hE,e,hbb,x8s]
 exact RetF.tup rfl rfl
theorem r_Shifted(d:Nat)(t:Int){r c:Int}{a:AV}{l:List Int}(ha:Ints a l)(hl:l.length<=5000)(e:x88 isP r c l=0) :
 RetF (ShT r c t l) (x7v (d+8) [] xh [.agg [I r,I c,a],I t] mem0):=by
 have hE:=λm=>xey d (r:=r) (c:=c) ha (by omega) m
 have hbb:x8i x8 []=some (.agg [I 0,I 0,nilS]):=by rw[x8s];rfl
 rw[x66]
 unfold x25 x1u
 cases ct:wi t (-1000) 1000
 .have hs:shE t l=2:=by unfold shE;rw[ct];rfl
  simp[mem0,ha.one,hE,e,hbb,x8s,xc1,ct]
  exact RetF.tup rfl (ShT.err hs (by decide))
 have ht:=wi_t ct
 obtain⟨-,-,-,hP⟩:=xbl e
 obtain⟨x,hx,hc⟩:∃x,(∃b,Ints b (shL t l)/\x=.tup [.agg [I r,I c,b],B (decide (x9d isP (shL t l)=0))])/\∀m,x7y (x7v (d+7)) xt [.agg [I r,I c,a],I t] m=some (x,m):=by
  obtain⟨x,m',x',h1,h2,h3⟩:=r_shifted d (r:=r) (c:=c) ht ha hl hP
  exact⟨x',h3,λm=>xda (by simp[ha.still1]) h1 h2⟩
 obtain⟨b,hb,rfl⟩:=hx
 cases ca:(shL t l).any (badP isP)
 .have hs:shE t l=0:=by unfold shE;rw[ct,ca];rfl
  simp[mem0,ha.one,hE,e,hbb,x8s,xc1,ct,hc,xgm,ca,hb.one]
  exact RetF.tup (by simp[hb.still1]) (ShT.ok hs hb)
 .have hs:shE t l=8:=by unfold shE;rw[ct,ca];rfl
  simp[mem0,ha.one,hE,e,hbb,x8s,xc1,ct,hc,xgm,ca,hb.one]
  exact RetF.tup rfl (ShT.err hs (by decide))
theorem xll(d:Nat){t r c:Int}(ht:-1000<=t/\t<=1000)(ct:wi t (-1000) 1000=true){a:AV}{l:List Int}(ha:Ints a l)(hl:l.length<=5000)(hP:∀y∈l,y=void\/isP y=true):∀(suf:List Int) (k j:Nat) (acc:List Int) (v:AV) (m:Mem) (fc:Nat),l.drop k=suf->suf.length<j->acc.length=k->acc++shL t suf=shL t l->acc.any (badP isP)=false ->
 m.get (0,0,2)=some (.row [I r,I c,a] 0 false)->m.get (0,1,4)=some (.row [I 0,I 0,nilS] 0 false)->m.get (0,11,6)=some (.row [I r,I c,v] 0 false)->Gr 1 intE 0 44 m v acc ->
 RetF (ShT r c t l) (xy (x7v (d+2)) [] 0 j (I t) (.ptr (0,0,2) 0 0) (.ptr (0,1,4) 0 0) (.ptr (0,11,6) 0 0) (I k) m fc):=by
 intro suf
 induction suf with
 |nil=>
  intro k j acc v m fc hd hj hac hsh hany g2 g4 g6 hG
  obtain⟨j,rfl⟩:∃i,j=i+1:=⟨j-1,by simp at hj;omega⟩
  have hk:¬((k:Int)<(l.length:Int)):=by have:=xp5.mp hd;omega
  have hal:acc=shL t l:=by rw[<-hsh];simp[shL]
  subst hal
  have hs:shE t l=0:=by unfold shE;rw[ct,hany];rfl
  obtain⟨ho,hc⟩:=hG.own1
  have b1:sFA 2 (.ptr (0,0,2) 0 0)=some (.ptr (0,0,2) 0 2):=rfl
  have b2:sLd false 1 (.ptr (0,0,2) 0 2) m=some a:=by rw[x7z g2];rfl
  have l6:sLd true 3 (.ptr (0,11,6) 0 0) m=some (.agg [I r,I c,v]):=by rw[x7z g6];rfl
  obtain⟨M,hM⟩:∃M:Mem,M=m.set (0,1,4) (.row [I r,I c,v] 0 false):=⟨_,rfl⟩
  have S1:∀{R:Type} (K:Mem->Option R),sSt 3 (.ptr (0,1,4) 0 0) (.agg [I r,I c,v]) m K=K M:=λK=>by
   rw[x8y (off:=0) (z:=3) (x:=.agg [I r,I c,v]) (k:=K) g4 rfl (by simp) (by rw[x9z];simp[ho]),hM];rfl
  have p4:M.get (0,1,4)=some (.row [I r,I c,v] 0 false):=by rw[hM,Mem.get_set_same]
  have l4:sLdP true 3 (.ptr (0,1,4) 0 0) M=some (.agg [I r,I c,v]):=by show sLd true 3 (.ptr (0,1,4) 0 0) M=_;rw[x7z p4];rfl
  simp only[xy]
  unfold x2e x4n
  simp only[b1,b2,ha.len x8q,x8m,hk,xn2,x7x,x86,l6,S1,l4]
  obtain⟨b,hb,hz⟩:=(hG.frame (m':=M) λs=>by rw[hM,Mem.get_set_ne (by simp)]).frzk x8n xb6 (k:=2)
  exact RetF.mk (xj4 (xgl hz) rfl) (ShT.ok hs hb)
 |cons x suf ih=>
  intro k j acc v m fc hd hj hac hsh hany g2 g4 g6 hG
  obtain⟨j,rfl⟩:∃i,j=i+1:=⟨j-1,by simp at hj;omega⟩
  obtain⟨hk,hke,hd1⟩:=xe0 hd
  have hk':(k:Int)<(l.length:Int):=by omega
  have ix:=ha.ix x8n hk
  have e1:at0 l k=x:=by rw[x8j hk,hke]
  have ld:∀m,sLd false 1 (.plit ((l.drop k).flatMap intE)) m=some (I x):=λm=>by rw[xa7 hk,e1]
  have hxP:=hP x (by rw[<-hke];exact List.getElem_mem hk)
  obtain⟨h64,h64'⟩:=xez (t:=t) (by omega) hxP
  have hw:w64 ((k:Int)+1)=((k+1:Nat):Int):=by rw[x82 (by omega) (by omega)];omega
  have b1:sFA 2 (.ptr (0,0,2) 0 0)=some (.ptr (0,0,2) 0 2):=rfl
  have b2:sLd false 1 (.ptr (0,0,2) 0 2) m=some a:=by rw[x7z g2];rfl
  have step:∀fc',badP isP (shF t x)=false->RetF (ShT r c t l)
   (x1v (x7v (d+2)) [] 0 (xy (x7v (d+2)) [] 0 j) (I t) (.ptr (0,0,2) 0 0) (.ptr (0,1,4) 0 0) (.ptr (0,11,6) 0 0) (I k) (I (shF t x)) m fc'):=by
   intro fc' hbad
   obtain⟨v',m',A,G1,n1,f1⟩:=hG.app (bytes:=8) (s0:=fc'+4) x8n (by omega) (by unfold x83;omega) (shF t x)
   obtain⟨ho,hc⟩:=G1.own1
   have a1:sFA 2 (.ptr (0,11,6) 0 0)=some (.ptr (0,11,6) 0 2):=rfl
   have a2:sLd false 1 (.ptr (0,11,6) 0 2) m=some v:=by rw[x7z g6];rfl
   have el:∀objs,elems objs 1 (.slit [I (shF t x)] 1 true)=some (intE (shF t x),1):=λ_=>rfl
   have g6':m'.get (0,11,6)=some (.row [I r,I c,v] 0 false):=(f1 _ (by simp)).trans g6
   have g4':m'.get (0,1,4)=some (.row [I 0,I 0,nilS] 0 false):=(f1 _ (by simp)).trans g4
   have g2':m'.get (0,0,2)=some (.row [I r,I c,a] 0 false):=(f1 _ (by simp)).trans g2
   have S1:∀{R:Type} (K:Mem->Option R),sSt 1 (.ptr (0,11,6) 0 2) v' m' K=K (m'.set (0,11,6) (.row [I r,I c,v'] 0 false)):=λK=>by
    rw[x8y (off:=2) (z:=1) (x:=v') (k:=K) g6' (by rw[hc];rfl) (by simp) (by rw[hc];simp[ho]),hc];rfl
   unfold x1v x4o
   simp only[a1,a2,x7x,xcq,xe2,el,A,S1,x8c,hw]
   refine ih (k+1) j (acc++[shF t x]) v' _ _ hd1 (by simp at hj;omega) (by simp;omega) ?_ ?_ ?_ ?_ ?_ ?_
   .rw[<-hsh];simp[shL]
   .rw[xq8,hany];simp[hbad]
   .rw[Mem.get_set_ne (by simp)];exact g2'
   .rw[Mem.get_set_ne (by simp)];exact g4'
   .rw[Mem.get_set_same]
   .exact G1.frame λs=>by rw[Mem.get_set_ne (by simp)]
  simp only[xy]
  unfold x2e x4q x4p
  have hv:void=1000000000000:=rfl
  simp only[b1,b2,ha.len x8q,x8m,hk',xn4,x7x,x89,ix,ld,x9x,xc0,x8c]
  by_cases c1:x=void
  .simp only[c1,<-hv,xn4,xnb,x86]
   have e2:shF t void=void:=by unfold shF;rw[xmv rfl]
   have:=step (fc+5+6+2)
   rw[c1,e2]at this
   exact this (by unfold badP;rw[xny rfl];rfl)
  .have c1':¬x=1000000000000:=c1
   simp only[c1',xn2,xn8,x89]
   rw[h64,h64' c1]
   have hne:¬shF t x=void:=λh=>c1 ((xjd (by omega) hxP).1 h)
   cases cp:isP (shF t x)
   .have hbad:badP isP (shF t x)=true:=by unfold badP;rw[xq6 hne,cp];rfl
    have hs:shE t l=8:=by
     unfold shE
     have:(shL t l).any (badP isP)=true:=by
      rw[<-hsh,xq8]
      simp[shL,hbad]
     rw[ct,this];rfl
    have hbb:x8i x8 []=some (.agg [I 0,I 0,nilS]):=by rw[x8s];rfl
    have S1:∀{R:Type} (K:Mem->Option R),sSt 3 (.ptr (0,1,4) 0 0) (.agg [I 0,I 0,nilS]) m K=K (m.set (0,1,4) (.row [I 0,I 0,nilS] 0 false)):=λK=>by
     rw[x8y (off:=0) (z:=3) (x:=.agg [I 0,I 0,nilS]) (k:=K) g4 rfl (by simp) rfl];rfl
    have l4:sLdP true 3 (.ptr (0,1,4) 0 0) (m.set (0,1,4) (.row [I 0,I 0,nilS] 0 false))=some (.agg [I 0,I 0,nilS]):=by show sLd true 3 (.ptr (0,1,4) 0 0) _=_;rw[x7z (Mem.get_set_same ..)];rfl
    simp only[xdc,cp,xa6,xn8,x7x,x89,hbb,S1,l4]
    exact RetF.tup rfl (ShT.err hs (by decide))
   .simp only[xdc,cp,xa6,xnb,x7x,x86]
    exact step _ (by unfold badP;rw[cp];simp)
theorem xlm(d:Nat)(t:Int){r c:Int}{a:AV}{l:List Int}(ha:Ints a l)(hl:l.length<=5000)(e:x88 isP r c l=0):RetF (ShT r c t l) (x7v (d+3) [] xr [.agg [I r,I c,a],I t] mem0):=by
 have hbb:x8i x8 []=some (.agg [I 0,I 0,nilS]):=by rw[x8s];rfl
 have hb2:x8i [I 0,I 0,nilS] [(0,1,I r),(1,1,I c)]=some (.agg [I r,I c,nilS]):=rfl
 rw[x6e]
 unfold x3w x2f x4r
 cases ct:wi t (-1000) 1000
 .have hs:shE t l=2:=by unfold shE;rw[ct];rfl
  simp[mem0,ha.one,hbb,x8s,xcp,ct]
  exact RetF.tup rfl (ShT.err hs (by decide))
 have ht:=wi_t ct
 obtain⟨-,-,-,hP⟩:=xbl e
 simp[mem0,ha.one,hbb,hb2,x8s,xcp,ct]
 refine xll d ht ct ha hl hP l 0 NN [] nilS _ _ rfl (by rw[x9s];omega) rfl rfl rfl ?_ ?_ ?_ Gr.nil
 .simp
 .simp
 .simp
end Go.Ix
