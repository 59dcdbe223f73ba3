import Derived.Test.YtklcdahoajabmaaWg1
import Derived.Test.YtklcdahoajabmaaWg4
import Derived.Test.YtklcdahoajabmaaFxSound
import Derived.Test.YtklcdahoajabmaaWg0
import Derived.ProofKit
set_option linter.unusedSimpArgs false
namespace Go.Ix
open Go.Proofs
theorem Edge.still(e:Edge):e.c.all still1=true:=rfl
end Go.Ix
set_option linter.unusedVariables false
namespace Go.Ix
open Go.Proofs
theorem xec(d:Nat)(a b c:Int)(m:Mem):xcv (xcu (d+1)) xc [I a,I b,I c] m=some (B (wi a b c),m):=by
 refine call0 rfl (m':=⟨[],1⟩) ?_ rfl
 rw[x9p]
 unfold x6h x4a wi
 by_cases h:b<=a<;>by_cases h2:a<=c<;>simp[h,h2,mem0]
theorem fl_eq{x y:Int}(h1:0<y):(if x.tmod y<0 then x.tdiv y-1 else x.tdiv y)=x / y:=by
 have h2:=Int.tdiv_eq_ediv (a:=x) (b:=y)
 have h3:=Int.tmod_eq_emod (a:=x) (b:=y)
 have h4:=xx5 x (show y≠0 by omega)
 have h5:=xx6 x h1
 have h6:y.sign=1:=Int.sign_eq_one_of_pos h1
 by_cases c:0<=x\/y ∣ x
 .simp only[xta c]at h2 h3
  rw[h2,h3,xtb (by omega)];omega
 .simp only[xtb c,h6]at h2 h3
  rw[h2,h3]
  have:x % y-(y.natAbs:Int)<0:=by omega
  rw[xta (by omega)];omega
theorem tdiv_bd{x y b:Int}(h:bd x b):bd (x.tdiv y) b:=by
 rw[bd.abs]at *
 have:=tdiv_le (a:=x) (b:=y)
 omega
theorem xlo(d:Nat){x y:Int}(h1:0<y)(hx:bd x 9223372036854775806)(m:Mem):xcv (xcu (d+1)) xy [I x,I y] m=some (I (x / y),m):=by
 have hd:=tdiv_bd (y:=y) hx
 unfold bd at hd
 refine xd3 rfl ?_ m
 rw[xaf]
 unfold x77 x5i x8s
 simp(disch:=omega) [mem0,xjb (show y≠0 by omega),xi8 (show y≠0 by omega)]
 rw[<-fl_eq h1]
 by_cases c:x.tmod y<0
 .simp(disch:=omega) [c,x3g]
  exact RetF.st rfl rfl
 .simp[c,x3g]
  exact RetF.st rfl rfl
theorem xlp(d:Nat){x y:Int}(h1:0<y)(h2:y<=1000000000000)(hx:bd x 4000000000000000000)(m:Mem):xcv (xcu (d+2)) xx [I x,I y] m=some (I ((2*x+y) / (2*y)),m):=by
 unfold bd at hx
 refine xd3 rfl ?_ m
 rw[xae]
 unfold x76 x5h
 simp(disch:=(first|omega|(unfold bd;omega))) [mem0,xlo]
 exact RetF.st rfl rfl
def inT(x:Int):Bool:=wi x (-1000000000000000) 1000000000000000
def chkA(f:Aff):Int:=bif !wi f.den 1 1000000000000 then 2 else bif !inT f.l0 then 2 else bif !inT f.l1 then 2 else bif !inT f.l2 then 2 else bif !inT f.s0 then 2 else bif !inT f.s1 then 2 else bif !inT f.s2 then 2 else 0
structure AffIn (f:Aff):Prop where
 d0:0<f.den
 d1:f.den<=1000000000000
 l0:bd f.l0 1000000000000000
 l1:bd f.l1 1000000000000000
 l2:bd f.l2 1000000000000000
 s0:bd f.s0 1000000000000000
 s1:bd f.s1 1000000000000000
 s2:bd f.s2 1000000000000000
theorem xhk{x:Int}(h:inT x=true):bd x 1000000000000000:=wi_t h
theorem chkA_in{f:Aff}(h:chkA f=0):AffIn f:=by
 unfold chkA at h
 cases c0:wi f.den 1 1000000000000<;>simp[c0]at h
 cases c1:inT f.l0<;>simp[c1]at h
 cases c2:inT f.l1<;>simp[c2]at h
 cases c3:inT f.l2<;>simp[c3]at h
 cases c4:inT f.s0<;>simp[c4]at h
 cases c5:inT f.s1<;>simp[c5]at h
 cases c6:inT f.s2<;>simp[c6]at h
 have:=wi_t c0
 exact⟨by omega,by omega,xhk c1,xhk c2,xhk c3,xhk c4,xhk c5,xhk c6⟩
theorem xqy(d:Nat)(f:Aff)(m:Mem):xcv (xcu (d+2)) x20 [.agg f.c] m=some (I (chkA f),m):=by
 refine xd3 rfl ?_ m
 rw[x9q]
 unfold x6i x4c
 simp[mem0,Aff.c,xec]
 unfold chkA
 cases c0:wi f.den 1 1000000000000
 .simp;exact RetF.st rfl rfl
 simp
 unfold x82
 obtain⟨NM,hNM⟩:∃NM,NN=NM+7:=⟨NN-7,by have:=xdy;omega⟩
 rw[hNM]
 simp[sSlA,asI,sApp,elems,sLen,xda]
 have hx:∀(id:Id) (k:Int),0<=k->k<6->sIx 1 (.sref id 1 0 6 1 true) (I k)=some (.ptr id 1 (0+k.toNat*1)):=λid k h0 h1=>by
  simp[sIx,asI,h0,h1]
 simp[x4b,x81,sIx,asI,xec]
 cases c1:inT f.l0
 .unfold inT at c1;simp[c1];exact RetF.st rfl rfl
 unfold inT at c1;simp[c1]
 cases c2:inT f.l1
 .unfold inT at c2;simp[c2];exact RetF.st rfl rfl
 unfold inT at c2;simp[c2]
 cases c3:inT f.l2
 .unfold inT at c3;simp[c3];exact RetF.st rfl rfl
 unfold inT at c3;simp[c3]
 cases c4:inT f.s0
 .unfold inT at c4;simp[c4];exact RetF.st rfl rfl
 unfold inT at c4;simp[c4]
 cases c5:inT f.s1
 .unfold inT at c5;simp[c5];exact RetF.st rfl rfl
 unfold inT at c5;simp[c5]
 cases c6:inT f.s2
 .unfold inT at c6;simp[c6];exact RetF.st rfl rfl
 unfold inT at c6;simp[c6,x80]
 exact RetF.st rfl rfl
end Go.Ix
namespace Go.Ix
open Go.Proofs
variable{α:Type}{z:Nat}{enc:α->List AV}{l:List α}{a:AV}
def Gk{α:Type}(z:Nat)(enc:α->List AV)(ok:Id->Prop)(m:Mem)(a:AV)(l:List α):Prop:=
 (a=nilS/\l=[])\/∃id ver,ok id/\a=.sref id ver 0 l.length z true/\m.get id=some (.row (l.flatMap enc) ver false)
theorem Gk.nil{ok:Id->Prop}{m:Mem}:Gk z enc ok m nilS []:=Or.inl ⟨rfl,rfl⟩
theorem Gk.frame{ok:Id->Prop}{m m':Mem}(h:Gk z enc ok m a l)(hm:∀id,ok id->m'.get id=m.get id):Gk z enc ok m' a l:=by
 rcases h with h|⟨id,ver,h0,h1,h2⟩
 .exact Or.inl h
 .exact Or.inr ⟨id,ver,h0,h1,by rw[hm _ h0];exact h2⟩
theorem Gk.app(hz:∀x,(enc x).length=z)(h0:0<z){bytes:Nat}{ok:Id->Prop}{id0:Id}{m:Mem}(ht:ok id0)(hr:xda (l.length+1) bytes)(h:Gk z enc ok m a l)(x:α) :
 ∃a' m',(∀{R:Type} (k:AV->Mem->Option R),sApp z bytes id0 (some (enc x,1)) a m k=k a' m')/\Gk z enc ok m' a' (l++[x])/\a'.cells=[a']/\a'.one=true/\m'.next=m.next/\∀j:Id,¬ok j->m'.get j=m.get j:=by
 rcases h with ⟨rfl,rfl⟩|⟨id,ver,h1,rfl,hg⟩
 .refine⟨.sref id0 0 0 1 z true,m.new id0 (.row (enc x) 0 false),λk=>?_,Or.inr ⟨id0,0,ht,rfl,by simp⟩,rfl,rfl,rfl,λj hj=>?_⟩
  .simp only[sApp]
   rw[xtb (by omega),xta (by simpa using hr)]
  .rw[Mem.get_new,xtb (by rintro rfl;exact hj ht)]
 .have hl:=xfk hz l
  refine⟨.sref id (ver+1) 0 (l.length+1) z true,m.set id (.row (l.flatMap enc++enc x) (ver+1) false),λk=>?_,Or.inr ⟨id,ver+1,h1,by simp,by simp⟩,rfl,rfl,rfl,λj hj=>?_⟩
  .simp only[sApp,hg]
   rw[xta ⟨trivial,trivial,by omega,hr⟩,xtb (by omega),xtb (by rw[hl,xua];omega),xu9,xud (by omega)]
  .rw[Mem.get_set,xtb (by rintro rfl;exact hj h1)]
theorem Gk.one{ok:Id->Prop}{m:Mem}(h:Gk z enc ok m a l):a.cells=[a]/\a.one=true:=by
 rcases h with ⟨rfl,rfl⟩|⟨id,ver,h1,rfl,hg⟩<;>exact⟨rfl,rfl⟩
theorem Gk.frz(hz:∀x,(enc x).length=z)(hs:∀x,(enc x).all still1=true){ok:Id->Prop}{k:Nat}{m:Mem}(h:Gk z enc ok m a l):∃a',Sl enc a' l/\Go.Ix.frz m.get (k+2) a=some a':=by
 rcases h with ⟨rfl,rfl⟩|⟨id,ver,_,rfl,hg⟩
 .exact⟨nilS,Or.inl ⟨rfl,rfl⟩,rfl⟩
 .have hl:=xfk hz l
  refine⟨.slit (l.flatMap enc) l.length false,Sl.lit l false,?_⟩
  have:=xhd (objs:=m.get) (id:=id) (cs:=l.flatMap enc) (ver:=ver) (off:=0) (n:=l.length) (z:=z) (k:=k) (f:=false) (x:=true) hg (by omega) (by
   rw[xu9,xud (by omega)];exact xib hs l)
  rw[xu9,xud (by omega)]at this
  exact this
theorem at0_app{l:List Int}{x:Int}{k:Nat}:at0 (l++[x]) k=if k<l.length then at0 l k else if k=l.length then x else 0:=by
 unfold at0
 simp only[xtu]
 by_cases h:k<l.length
 .rw[xta h,xv5 h]
 .rw[xtb h,xv6 (by omega)]
  by_cases h2:k=l.length
  .rw[xta h2,h2];simp
  .rw[xtb h2,xwt (by simp;omega)];rfl
def OutIn(k:Int)(out:List Int):Prop:=∀i,-(2048*k)<=at0 out i/\at0 out i<=2048*k
theorem OutIn.app{k:Nat}{out:List Int}(h:OutIn k out){x:Int}(h1:-(2048*((k+1:Nat):Int))<=x)(h2:x<=2048*((k+1:Nat):Int)):OutIn ((k+1:Nat):Int) (out++[x]):=by
 intro i
 rw[at0_app]
 have:=h i
 split
 .omega
 .split<;>omega
def Edge.same(a b:Edge):Bool:=decide (a.fr=b.fr)&&(decide (a.to=b.to)&&(decide (a.jump=b.jump)&&decide (a.wt=b.wt)))
end Go.Ix
