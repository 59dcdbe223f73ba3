import Derived.Test.YtdcffnlnagmbhaaGreatDoorWg11
import Derived.Test.YtdcffnlnagmbhaaGreatDoorWg0
import Derived.Test.YtdcffnlnagmbhaaGreatDoorWg1
set_option linter.unusedSimpArgs false
set_option linter.unusedVariables false
set_option maxRecDepth 10000
namespace Go.Ix
open Go.Proofs
def okR3:Id->Prop:=λid=>id.2.2=32
theorem l_numbers(d:Nat){s:List UInt8}(hs:s.length<=100000)(k:Nat){x:AV}(hx:Sl strE x (cutM 32 s)):∀(suf:List (List UInt8)) (i j:Nat) (l:List Int) (v:AV) (m:Mem) (fc:Nat),(cutM 32 s).drop i=suf->suf.length<j->xqi 16 ((cutM 32 s).take i)=some l->Gk 1 intE okR3 m v l ->
 RetF (SpR (xqb 16 k s)) (x2f (xpc (d+3)) [] 0 j (I k) x v (I i) m fc):=by
 have hcl:=xwb 32 s
 intro suf
 induction suf with
 |nil=>
  intro i j l v m fc hd hj hl hG
  obtain⟨j,rfl⟩:∃k,j=k+1:=⟨j-1,by simp at hj;omega⟩
  have hii:=x19j.mp hd
  have hlt:¬((i:Int)<((cutM 32 s).length:Int)):=by omega
  rw[x173 hii]at hl
  simp only[x2f]
  unfold x5j x8b
  simp only[hx.len u_strs,xpe,xrl,hlt,x176,xq8,hG.lenP,xsc]
  obtain⟨b,hb⟩:∃b,b=decide ((l.length:Int)=(k:Int)):=⟨_,rfl⟩
  rw[<-hb]
  obtain⟨a',ha',hf'⟩:=hG.frz (k:=3) xqh xw3
  refine RetF.mk (a':=.tup [a',B b]) ?_ ⟨a',l,?_,ha',λq hq=>?_⟩
  .show(([v,B b].mapM (Go.Ix.frz m.get 5)).map AV.tup)=_
   simp only[x188,x1a4,hf']
   rfl
  .rw[xwd hl,hb]
   by_cases c:l.length=k
   .rw[x16u c,x17y (by omega)];rfl
   .rw[x16t c,x19z (by omega)];rfl
  .rw[xwd hl]at hq
   split at hq
   .exact(x17s hq).symm
   .cases hq
 |cons w suf ih=>
  intro i j l v m fc hd hj hl hG
  obtain⟨j,rfl⟩:∃k,j=k+1:=⟨j-1,by simp at hj;omega⟩
  obtain⟨hi,hw,hd1⟩:=xv7 hd
  have hlt:(i:Int)<((cutM 32 s).length:Int):=by omega
  have hix:=hx.ix xty hi
  rw[hd]at hix
  have hwl:w.length<=100000:=by
   have:=xy9 32 s w (by rw[<-hw];exact x187 hi)
   omega
  have hll:=xy8 hl
  rw[x18y]at hll
  have w7:w64 ((i:Int)+1)=((i+1:Nat):Int):=by rw[xr9 (by omega) (by omega)];omega
  simp only[x2f]
  unfold x5j
  have hnb:∀m,xp9 (xpc (d+3)) x13 [Tx w,I 16] m=some (numV (nbrM w 16),m):=λm=>w_Number (d+2) hwl (k:=16) (by omega) m
  simp only[hx.len u_strs,xpe,xrl,hlt,x179,xq6,hix,x18h,strE,x18k,x18x,xtv,rd_f,List.head?_cons,hnb]
  have hspl:cutM 32 s=(cutM 32 s).take i++w::suf:=by
   conv=>lhs;rw[<-x1ak i (cutM 32 s),hd]
  cases hn:nbrM w 16 with
  |none=>
   simp only[numV,xss,x184,x185,xpe,xsr,x175,xq6]
   rw[x118 hspl hn]
   exact RetF.mk (a':=.tup [nilS,B false]) rfl ⟨nilS,[],rfl,.inl ⟨rfl,rfl⟩,λq hq=>by cases hq⟩
  |some n=>
   obtain⟨a',m1,e1,G1,o1,o2,nx1,fr1⟩:=Gk.app (ok:=okR3) (l:=l) (bytes:=8) (id0:=(0,fc+19,32)) xqh (by omega) rfl (by unfold xpt;omega) hG n
   have el:∀objs,elems objs 1 (.slit [I n] 1 true)=some (intE n,1):=λ_=>rfl
   simp only[numV,xss,x184,x185,xpe,xsr,x17e,xq8,xve,mkLit_I,el]
   rw[e1]
   simp only[xsb,w7,xpe]
   refine ih (i+1) j (l++[n]) a' m1 _ hd1 (by simp at hj;omega) ?_ G1
   rw[List.take_add_one,x178 hi,hw]
   exact xy7 hn hl
theorem x119(d:Nat){s:List UInt8}(hs:s.length<=100000)(k:Nat)(m:Mem):∃a l,Ints a l/\(∀q,xqb 16 k s=some q->q=l)/\xp9 (xpc (d+4)) xu [Tx s,I k] m=some (.tup [a,B (xqb 16 k s).isSome],m):=by
 have key:RetF (SpR (xqb 16 k s)) (xpc (d+4) [] xu [Tx s,I k] mem0):=by
  rw[xko]
  unfold x6v x5k
  obtain⟨x,hx,hc⟩:=w_Cut (d+2) 32 hs
  have hc':∀m,xp9 (xpc (d+3)) x12 [Tx s,(AV.sc (.int .u8 32))] m=some (x,m):=hc
  simp only[hc',xpe]
  unfold x8c
  have hcl:=xwb 32 s
  exact l_numbers d hs k hx (cutM 32 s) 0 NN [] nilS _ _ rfl (by rw[xsd];omega) rfl Gk.nil
 obtain⟨v,⟨a,l,rfl,h1,h2⟩,h3⟩:=xtx (l:=[Tx s,I k]) rfl key m
 exact⟨a,l,h1,h2,h3⟩
structure Mp where
 ln:Int
 sm:Int
 b0:Int
 b1:Int
 sc:Int
def Mp.c(x:Mp):List AV:=[I x.ln,I x.sm,I x.b0,I x.b1,I x.sc]
theorem Mp.len(x:Mp):x.c.length=5:=rfl
theorem Mp.still(x:Mp):x.c.all still1=true:=rfl
def Mp.at(f x:Mp):Prop:=x.ln=f.ln/\x.sm=f.sm
instance (f x:Mp):Decidable (f.at x):=by unfold Mp.at;infer_instance
def bd(x b:Int):Prop:=-b<=x/\x<=b
theorem bd.add{x y a b:Int}(h:bd x a)(k:bd y b):bd (x+y) (a+b):=by unfold bd at *;omega
theorem bd.sub{x y a b:Int}(h:bd x a)(k:bd y b):bd (x-y) (a+b):=by unfold bd at *;omega
theorem bd.neg{x a:Int}(h:bd x a):bd (-x) a:=by unfold bd at *;omega
theorem bd.abs{x a:Int}:bd x a↔(x.natAbs:Int)<=a:=by unfold bd;omega
theorem bd.mul{x y a b:Int}(h:bd x a)(k:bd y b):bd (x*y) (a*b):=by
 rw[bd.abs]at *
 rw[Int.natAbs_mul,Int.natCast_mul]
 exact Int.mul_le_mul h k (by omega) (by omega)
theorem bd.mono{x a b:Int}(h:bd x a)(k:a<=b):bd x b:=by unfold bd at *;omega
theorem bd.zero{b:Int}(h:0<=b):bd 0 b:=by unfold bd;omega
def gl(g:Int)(l:List Int):Int:=l.foldl (λg x=>(Int.gcd g x:Int)) g
def c0(n a b c d e x y z:Int):Int:=x*(c*e-d*d)-y*(a*e-b*d)+z*(a*d-b*c)
def c1(n a b c d e x y z:Int):Int:=n*(y*e-z*d)-x*(a*e-b*d)+b*(a*z-b*y)
def c2(n a b c d e x y z:Int):Int:=n*(c*z-d*y)-a*(a*z-b*y)+x*(a*d-b*c)
structure Aff where
 den:Int
 l0:Int
 l1:Int
 l2:Int
 s0:Int
 s1:Int
 s2:Int
def Aff.c(f:Aff):List AV:=[I f.den,I f.l0,I f.l1,I f.l2,I f.s0,I f.s1,I f.s2]
end Go.Ix
