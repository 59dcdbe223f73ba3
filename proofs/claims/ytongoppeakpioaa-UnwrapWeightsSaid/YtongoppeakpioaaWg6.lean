import Derived.Test.YtongoppeakpioaaWg4
import Derived.Test.YtongoppeakpioaaWg5
import Derived.Test.YtongoppeakpioaaFxSound
set_option linter.unusedSimpArgs false
namespace Go.Ix
open Go.Proofs
theorem Edge.still(e:Edge):e.c.all still1=true:=rfl
def x4l(r c n:Int):Int:=bif !(wi r 1 64)||!(wi c 1 64)then 2 else bif !decide (n=r*c)then 10 else 0
theorem x83{r c:Int}(h1:wi r 1 64=true)(h2:wi c 1 64=true):1<=r*c/\r*c<=4096:=by
 have a:=wi_t h1
 have b:=wi_t h2
 have:=xk1 a.2 b.2 (by omega) (by omega)
 have:=xk1 a.1 b.1 (by omega) (by omega)
 omega
theorem w_sizeErr(d:Nat)(r c n:Int)(m:Mem):x3u (x3q (d+2)) xf [I r,I c,I n] m=some (I (x4l r c n),m):=by
 refine Ans.call0 ?_ rfl rfl
 unfold Ans
 rw[x2x]
 unfold x21 x1i
 simp[mem0,xe5]
 cases c1:wi r 1 64
 .simp[x4l,c1]
 simp[xe5]
 cases c2:wi c 1 64
 .simp[x4l,c1,c2]
 have:=x83 c1 c2
 simp(disch:=omega) [x4l,c1,c2]
 by_cases c3:n=r*c<;>simp[c3]
theorem xfu(d:Nat)(r c n:Int)(m:Mem):x3u (x3q (d+2)) xi [I r,I c,I n] m=some (I (x4l r c n),m):=by
 refine Ans.call0 ?_ rfl rfl
 unfold Ans
 rw[x31]
 unfold x25 x1m
 simp[mem0,xe4]
 cases c1:wi r 1 64
 .simp[x4l,c1]
 simp[xe4]
 cases c2:wi c 1 64
 .simp[x4l,c1,c2]
 have:=x83 c1 c2
 simp(disch:=omega) [x4l,c1,c2]
 by_cases c3:n=r*c<;>simp[c3]
end Go.Ix
set_option linter.unusedVariables false
namespace Go.Ix
open Go.Proofs
structure AffIn (f:Aff):Prop where
 d0:0<f.den
 d1:f.den<=1000000000000
 l0:bd f.l0 1000000000000000
 l1:bd f.l1 1000000000000000
 l2:bd f.l2 1000000000000000
 s0:bd f.s0 1000000000000000
 s1:bd f.s1 1000000000000000
 s2:bd f.s2 1000000000000000
end Go.Ix
namespace Go.Ix
open Go.Proofs
variable{α:Type}{z:Nat}{enc:α->List AV}{l:List α}{a:AV}
def Gk{α:Type}(z:Nat)(enc:α->List AV)(ok:Id->Prop)(m:Mem)(a:AV)(l:List α):Prop:=
 (a=nilS/\l=[])\/∃id ver,ok id/\a=.sref id ver 0 l.length z true/\m.get id=some (.row (l.flatMap enc) ver false)
theorem Gk.nil{ok:Id->Prop}{m:Mem}:Gk z enc ok m nilS []:=Or.inl ⟨rfl,rfl⟩
theorem Gk.frame{ok:Id->Prop}{m m':Mem}(h:Gk z enc ok m a l)(hm:∀id,ok id->m'.get id=m.get id):Gk z enc ok m' a l:=by
 rcases h with h|⟨id,ver,h0,h1,h2⟩
 .exact Or.inl h
 .exact Or.inr ⟨id,ver,h0,h1,by rw[hm _ h0];exact h2⟩
theorem Gk.app(hz:∀x,(enc x).length=z)(h0:0<z){bytes:Nat}{ok:Id->Prop}{id0:Id}{m:Mem}(ht:ok id0)(hr:x3x (l.length+1) bytes)(h:Gk z enc ok m a l)(x:α) :
 ∃a' m',(∀{R:Type} (k:AV->Mem->Option R),sApp z bytes id0 (some (enc x,1)) a m k=k a' m')/\Gk z enc ok m' a' (l++[x])/\a'.cells=[a']/\a'.one=true/\m'.next=m.next/\∀j:Id,¬ok j->m'.get j=m.get j:=by
 rcases h with ⟨rfl,rfl⟩|⟨id,ver,h1,rfl,hg⟩
 .refine⟨.sref id0 0 0 1 z true,m.new id0 (.row (enc x) 0 false),λk=>?_,Or.inr ⟨id0,0,ht,rfl,by simp⟩,rfl,rfl,rfl,λj hj=>?_⟩
  .simp only[sApp]
   rw[xgi (by omega),xgh (by simpa using hr)]
  .rw[Mem.get_new,xgi (by rintro rfl;exact hj ht)]
 .have hl:=x6e hz l
  refine⟨.sref id (ver+1) 0 (l.length+1) z true,m.set id (.row (l.flatMap enc++enc x) (ver+1) false),λk=>?_,Or.inr ⟨id,ver+1,h1,by simp,by simp⟩,rfl,rfl,rfl,λj hj=>?_⟩
  .simp only[sApp,hg]
   rw[xgh ⟨trivial,trivial,by omega,hr⟩,xgi (by omega),xgi (by rw[hl,xhl];omega),xgq,xhe (by omega)]
  .rw[Mem.get_set,xgi (by rintro rfl;exact hj h1)]
theorem Gk.one{ok:Id->Prop}{m:Mem}(h:Gk z enc ok m a l):a.cells=[a]/\a.one=true:=by
 rcases h with ⟨rfl,rfl⟩|⟨id,ver,h1,rfl,hg⟩<;>exact⟨rfl,rfl⟩
theorem Gk.frz(hz:∀x,(enc x).length=z)(hs:∀x,(enc x).all still1=true){ok:Id->Prop}{k:Nat}{m:Mem}(h:Gk z enc ok m a l):∃a',Sl enc a' l/\Go.Ix.frz m.get (k+2) a=some a':=by
 rcases h with ⟨rfl,rfl⟩|⟨id,ver,_,rfl,hg⟩
 .exact⟨nilS,Or.inl ⟨rfl,rfl⟩,rfl⟩
 .have hl:=x6e hz l
  refine⟨.slit (l.flatMap enc) l.length false,Sl.lit l false,?_⟩
  have:=x9n (objs:=m.get) (id:=id) (cs:=l.flatMap enc) (ver:=ver) (off:=0) (n:=l.length) (z:=z) (k:=k) (f:=false) (x:=true) hg (by omega) (by
   rw[xgq,xhe (by omega)];exact x8t hs l)
  rw[xgq,xhe (by omega)]at this
  exact this
theorem xe7:∃i,Try.prog.info? x4n=some i/\i.size=1:=by
 have h:(Try.prog.info? x4n).map (λi=>i.size)=some 1:=by kernel_rfl
 obtain⟨i,h1,h2⟩:=xgl.mp h
 exact⟨i,h1,h2⟩
theorem slice_lo{id:Id}{ver off n:Nat}{full:Bool}{lo:Int}(h0:0<=lo)(h2:lo<=n):x7e Try.prog x7 (.sref id ver off n 1 full) (some (I lo)) none=some (.sref id ver (off+lo.toNat) (n-lo.toNat) 1 full):=by
 obtain⟨i,e1,e2⟩:=xe7
 simp only[x7e,x3s,x6u,e1,asI,Option.getD_some,Option.getD_none]
 rw[xgh ⟨h0,by omega,by omega,e2.symm,.inr trivial⟩,Nat.mul_one,show((n:Int)-lo).toNat=n-lo.toNat by omega]
theorem NN_3:∃j,NN=j+3:=⟨18446744073709551613,rfl⟩
end Go.Ix
