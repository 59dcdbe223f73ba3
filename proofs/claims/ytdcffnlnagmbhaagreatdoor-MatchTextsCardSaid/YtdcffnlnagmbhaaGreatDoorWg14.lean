import Derived.Test.YtdcffnlnagmbhaaGreatDoorWg13
import Derived.Test.YtdcffnlnagmbhaaGreatDoorWg1
import Derived.Test.YtdcffnlnagmbhaaGreatDoorFxSound
import Derived.Test.YtdcffnlnagmbhaaGreatDoorWg10
import Derived.Test.YtdcffnlnagmbhaaGreatDoorWg0
import Derived.ProofKit
import Derived.Test.YtdcffnlnagmbhaaGreatDoorWg6
set_option linter.unusedSimpArgs false
set_option linter.unusedVariables false
namespace Go.Ix
open Go.Proofs
theorem part2(w0 w1:Int):∀o∈[0,1],xpf Tryz.prog (part xpm #[.int .i64 w0,.int .i64 w1] o)=some (.int .i64 ([w0,w1].getD o 0)):=by
 intro o ho
 simp only[x174,x18z,or_false]at ho
 rcases ho with rfl|rfl<;>kernel_rfl
def tm(a b c x y:Int):Int:=a+b*x+c*y
theorem tm_bd{a b c x y:Int}(ha:bd a 1000000000000000)(hb:bd b 1000000000000000)(hc:bd c 1000000000000000)(hx:bd x 63)(hy:bd y 63):bd (tm a b c x y) 127000000000000000:=
 ((ha.add (hb.mul hx)).add (hc.mul hy)).mono (by omega)
section
variable{f:Aff}{x y:Int}
theorem AffIn.ts(h:AffIn f)(hx:bd x 63)(hy:bd y 63):bd (tm f.s0 f.s1 f.s2 x y) 127000000000000000:=tm_bd h.s0 h.s1 h.s2 hx hy
theorem x11a(d:Nat)(f:Aff)(m:Mem):xp9 (xpc (d+2)) x1g [.agg f.c] m=some (I (chkA f),m):=by
 refine callV rfl ?_ m
 rw[xkj]
 unfold x6q x5a
 simp[mem0,Aff.c,xrz]
 unfold chkA
 cases c0:wi f.den 1 1000000000000
 .simp;exact RetF.st rfl rfl
 simp
 unfold x7l
 obtain⟨NM,hNM⟩:∃NM,NN=NM+4:=⟨NN-4,by have:=xsd;omega⟩
 rw[hNM]
 simp[x59,x7k,sIxA,asI,xrz]
 cases c1:inT f.l0
 .unfold inT at c1;simp[c1];exact RetF.st rfl rfl
 unfold inT at c1;simp[c1,xrz]
 cases c4:inT f.s0
 .unfold inT at c4;simp[c4]
  refine RetF.st rfl ?_
  cases inT f.l1<;>cases inT f.l2<;>rfl
 unfold inT at c4;simp[c4]
 cases c2:inT f.l1
 .unfold inT at c2;simp[c2];exact RetF.st rfl rfl
 unfold inT at c2;simp[c2,xrz]
 cases c5:inT f.s1
 .unfold inT at c5;simp[c5]
  refine RetF.st rfl ?_
  cases inT f.l2<;>rfl
 unfold inT at c5;simp[c5]
 cases c3:inT f.l2
 .unfold inT at c3;simp[c3];exact RetF.st rfl rfl
 unfold inT at c3;simp[c3,xrz]
 cases c6:inT f.s2
 .unfold inT at c6;simp[c6];exact RetF.st rfl rfl
 unfold inT at c6;simp[c6,x7j]
 exact RetF.st rfl rfl
end
structure Scene where
 nm:ByteArray
 day:Int
 bl:Int
def Scene.c(s:Scene):List AV:=[T s.nm,I s.day,I s.bl]
theorem Scene.len(s:Scene):s.c.length=3:=rfl
@[simp] theorem cells_T(s:ByteArray):(T s).cells=[T s]:=rfl
@[simp] theorem one_T(s:ByteArray):(T s).one=true:=rfl
structure Pq where
 a:Int
 b:Int
def Pq.c(p:Pq):List AV:=[I p.a,I p.b]
theorem Pq.len(p:Pq):p.c.length=2:=rfl
theorem Pq.still(p:Pq):p.c.all still1=true:=rfl
def Pq.same(p q:Pq):Bool:=decide (p.a=q.a)&&decide (p.b=q.b)
def InB(l:List Scene):Prop:=∀s∈l,(0<=s.day/\s.day<=100000)/\(-100000<=s.bl/\s.bl<=100000)
theorem InB.get{l:List Scene}(h:InB l){k:Nat}(hk:k<l.length):(0<=l[k].day/\l[k].day<=100000)/\(-100000<=l[k].bl/\l[k].bl<=100000):=h _ (x187 hk)
def Pq.v(p:Pq):Value:=.agg [.int .i64 p.a,.int .i64 p.b].toArray
theorem z_pt:xg=[I 0,I 0,I 0,I 0,I 0]:=by kernel_rfl
theorem rdP_5(a b c d e:AV)(cs:List AV):rd true 5 (a::b::c::d::e::cs)=some (.agg [a,b,c,d,e]):=by rw[rd_t];simp only[x17d];rw[x17y (by omega)];rfl
attribute [local simp high] rdP_5
theorem xwe(m:Mem)(n:Nat)(i:Id):(⟨m.hp,n⟩:Mem).get i=m.get i:=_root_.id rfl
def ptOK(x:Mp):Bool:=wi x.ln 0 63&&(wi x.sm 0 63&&(wi x.b0 (-8) 8&&(wi x.b1 (-8) 8&&wi x.sc 0 1000)))
theorem ptOK_in{x:Mp}(h:ptOK x=true):PtIn x:=by
 simp only[ptOK,x16y]at h
 obtain⟨h1,h2,h3,h4,-⟩:=h
 have:=wi_t h1
 have:=wi_t h2
 exact⟨by omega,by omega,by omega,by omega,wi_t h3,wi_t h4⟩
theorem xwf(d:Nat)(hs:FHs)(a:Int)(m:Mem):xr6 (xpc (d+2)) hs 2 (.clo x11 []) [I a] m=some (B (wi a (-8) 8),⟨m.hp,m.next+1⟩):=by
 show xpc (d+2) hs x11 [I a] m=_
 rw[xku]
 unfold x71 x5r
 simp[xst]
theorem x131(d:Nat)(x:Mp)(m:Mem):xp9 (xpc (d+3)) x1i [.agg x.c] m=some (I (bif ptOK x then 0 else 2),m):=by
 refine callV rfl ?_ m
 rw[xkm]
 unfold x6t x5g
 simp[mem0,Mp.c,xst]
 unfold ptOK
 cases c0:wi x.ln 0 63
 .simp;exact RetF.st rfl rfl
 cases c1:wi x.sm 0 63
 .simp[xst,c1];exact RetF.st rfl rfl
 cases c2:wi x.b0 (-8) 8
 .simp[xst,c1,xwf,xwe,sIxA,asI,c2];exact RetF.st rfl rfl
 cases c3:wi x.b1 (-8) 8
 .simp[xst,c1,xwf,xwe,sIxA,asI,c2,c3];exact RetF.st rfl rfl
 cases c4:wi x.sc 0 1000
 .simp[xst,c1,xwf,xwe,sIxA,asI,c2,c3,c4];exact RetF.st rfl rfl
 simp[xst,c1,xwf,xwe,sIxA,asI,c2,c3,c4];exact RetF.st rfl rfl
theorem x11b(d:Nat)(x:Mp)(m:Mem):xp9 (xpc (d+2)) x1f [.agg x.c] m=some (I (bif ptOK x then 0 else 2),m):=by
 refine callV rfl ?_ m
 rw[xki]
 unfold x6p x58
 simp[mem0,Mp.c,xrz]
 unfold ptOK
 cases c0:wi x.ln 0 63
 .simp;exact RetF.st rfl rfl
 cases c1:wi x.sm 0 63
 .simp[xrz,c1];exact RetF.st rfl rfl
 cases c2:wi x.b0 (-8) 8
 .simp[xrz,c1,sIxA,asI,c2];exact RetF.st rfl rfl
 cases c3:wi x.b1 (-8) 8
 .simp[xrz,c1,sIxA,asI,c2,c3];exact RetF.st rfl rfl
 cases c4:wi x.sc 0 1000
 .simp[xrz,c1,sIxA,asI,c2,c3,c4];exact RetF.st rfl rfl
 simp[xrz,c1,sIxA,asI,c2,c3,c4];exact RetF.st rfl rfl
variable{a:AV}{l:List Mp}
end Go.Ix
