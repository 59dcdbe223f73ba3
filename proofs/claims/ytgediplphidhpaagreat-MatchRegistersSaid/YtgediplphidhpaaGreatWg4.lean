import Derived.Test.YtgediplphidhpaaGreatWg0
import Derived.Test.YtgediplphidhpaaGreatWg3
import Derived.Test.YtgediplphidhpaaGreatFxSound
import Derived.ProofKit
import Derived.Test.YtgediplphidhpaaGreatWg1
set_option linter.unusedSimpArgs false
namespace Go.Ix
variable{R:Type}{m:Mem}
theorem xum:∀l:List Int,l.flatMap intE=l.map I
 |[]=>rfl
 |x::l=>by rw[x19b,xum l];rfl
theorem x12z(l:List Int):(l.flatMap intE).length=l.length:=by rw[xum];simp
@[simp high] theorem ldRow_int{l:List Int}{k:Nat}{fz:Bool}(hk:k<l.length):ldRow false 1 0 k (some (.row (l.flatMap intE) 0 fz))=some (I (at0 l k)):=by
  simp only[ldRow,Nat.beq_refl,cond_true,rd,x1a0,x19l]
  rw[xum,<-List.map_drop,xp2 hk,xqh hk]
  rfl
@[simp high] theorem stRow_int{l:List Int}{k:Nat}{v:Int}(hk:k<l.length):stRow 1 0 k (I v) (some (.row (l.flatMap intE) 0 false))=some (.row ((l.set k v).flatMap intE) 0 false):=by
  have h:(0:Nat)=0/\(I v).cells.length=1/\k+1<=(l.flatMap intE).length/\((I v).cells.all AV.one)=true:=⟨rfl,rfl,by rw[x12z];omega,rfl⟩
  rw[xz7,x19h h,cond_true]
  simp only[xum,xon,cells_I]
  congr 2
  rw[List.map_set,x1dv,if_pos (by simpa using hk)]
  simp
end Go.Ix
namespace Go.Ix
open Go.Proofs
variable{α:Type}{z:Nat}{enc:α->List AV}{l:List α}{a:AV}
def Gq{α:Type}(z:Nat)(enc:α->List AV)(u:Nat)(T:List Nat)(m:Mem)(a:AV)(l:List α):Prop:=
 (a=nilS/\l=[])\/∃s t ver,t∈T/\a=.sref (u,s,t) ver 0 l.length z true/\m.get (u,s,t)=some (.row (l.flatMap enc) ver false)
theorem Gq.nil{u:Nat}{T:List Nat}{m:Mem}:Gq z enc u T m nilS []:=Or.inl ⟨rfl,rfl⟩
theorem Gq.frame{u:Nat}{T:List Nat}{m m':Mem}(h:Gq z enc u T m a l)(hm:∀s t,t∈T->m'.get (u,s,t)=m.get (u,s,t)):Gq z enc u T m' a l:=by
 rcases h with h|⟨s,t,ver,h0,h1,h2⟩
 .exact Or.inl h
 .exact Or.inr ⟨s,t,ver,h0,h1,by rw[hm _ _ h0];exact h2⟩
theorem Gq.app(hz:∀x,(enc x).length=z)(h0:0<z){u t0 s0 bytes:Nat}{T:List Nat}{m:Mem}(ht:t0∈T)(hr:xol (l.length+1) bytes)(h:Gq z enc u T m a l)(x:α) :
 ∃a' m',(∀{R:Type} (k:AV->Mem->Option R),sApp z bytes (u,s0,t0) (some (enc x,1)) a m k=k a' m')/\Gq z enc u T m' a' (l++[x])/\m'.next=m.next/\∀j:Id,j.2.2∉T->m'.get j=m.get j:=by
 rcases h with ⟨rfl,rfl⟩|⟨s,t,ver,h1,rfl,hg⟩
 .refine⟨.sref (u,s0,t0) 0 0 1 z true,m.new (u,s0,t0) (.row (enc x) 0 false),λk=>?_,Or.inr ⟨s0,t0,0,ht,rfl,by simp⟩,rfl,λj hj=>?_⟩
  .simp only[sApp]
   rw[if_neg (by omega),if_pos (by simpa using hr)]
  .rw[Mem.get_new,if_neg (by rintro rfl;exact hj ht)]
 .have hl:=xrr hz l
  refine⟨.sref (u,s,t) (ver+1) 0 (l.length+1) z true,m.set (u,s,t) (.row (l.flatMap enc++enc x) (ver+1) false),λk=>?_,Or.inr ⟨s,t,ver+1,h1,by simp,by simp⟩,rfl,λj hj=>?_⟩
  .simp only[sApp,hg]
   rw[if_pos ⟨trivial,trivial,by omega,hr⟩,if_neg (by omega),if_neg (by rw[hl,x1ak];omega),x1a6,x19p (by omega)]
  .rw[Mem.get_set,if_neg (by rintro rfl;exact hj h1)]
theorem Gq.frz(hz:∀x,(enc x).length=z)(hs:∀x,(enc x).all still1=true){u:Nat}{T:List Nat}{m:Mem}(h:Gq z enc u T m a l):∃a',Sl enc a' l/\Go.Ix.frz m.get deep a=some a':=by
 rcases h with ⟨rfl,rfl⟩|⟨s,t,ver,_,rfl,hg⟩
 .exact⟨nilS,Or.inl ⟨rfl,rfl⟩,rfl⟩
 .have hl:=xrr hz l
  refine⟨.slit (l.flatMap enc) l.length false,Sl.lit l false,?_⟩
  have:=xug (objs:=m.get) (id:=(u,s,t)) (cs:=l.flatMap enc) (ver:=ver) (off:=0) (n:=l.length) (z:=z) (k:=4) (f:=false) (x:=true) hg (by omega) (by
   rw[x1a6,x19p (by omega)];exact xuh hs l)
  rw[x1a6,x19p (by omega)]at this
  exact this
theorem Gq.len{u:Nat}{T:List Nat}{m:Mem}{t e:TypeId}(ht:Tryz.prog.underlying t=some (.slice e))(h:Gq z enc u T m a l):sLen Tryz.prog t a=some (I l.length):=by
 rcases h with ⟨rfl,rfl⟩|⟨s,t,ver,_,rfl,hg⟩
 .exact xwv ht
 .rfl
theorem Edge.still(e:Edge):e.c.all still1=true:=rfl
theorem w_Mod(d:Nat){x y:Int}(h1:0<y)(h2:y<=1000000000000)(m:Mem):xnu (xnt (d+1)) x2t [I x,I y] m=some (I (x % y),m):=by
 refine Ans.call0 ?_ rfl rfl
 unfold Ans
 rw[xk6]
 unfold xeb xbv xhn
 have h3:x.tmod y=if 0<=x\/y ∣ x then x % y else x % y-y:=by
  have:=Int.tmod_eq_emod (a:=x) (b:=y)
  rw[this]
  split<;>omega
 have h4:=x1cx x (show y≠0 by omega)
 have h5:=x1cy x h1
 simp[mem0,xrq (show y≠0 by omega)]
 rw[h3]
 split
 .rename_i h
  simp[x7f,show ¬(x % y<0) by omega]
 .rename_i h
  have:x % y-y<0:=by omega
  simp(disch:=omega) [x7f,this]
end Go.Ix
set_option linter.unusedVariables false
namespace Go.Ix
open Go.Proofs
theorem xqr(d:Nat)(a b c:Int)(m:Mem):xnu (xnt (d+1)) xo [I a,I b,I c] m=some (B (wi a b c),m):=by
 refine call0 rfl (m':=⟨[],1⟩) ?_ rfl
 rw[xj9]
 unfold xdf x9p wi
 by_cases h:b<=a<;>by_cases h2:a<=c<;>simp[h,h2,mem0]
theorem fl_eq{x y:Int}(h1:0<y):(if x.tmod y<0 then x.tdiv y-1 else x.tdiv y)=x / y:=by
 have h2:=Int.tdiv_eq_ediv (a:=x) (b:=y)
 have h3:=Int.tmod_eq_emod (a:=x) (b:=y)
 have h4:=x1cx x (show y≠0 by omega)
 have h5:=x1cy x h1
 have h6:y.sign=1:=Int.sign_eq_one_of_pos h1
 by_cases c:0<=x\/y ∣ x
 .simp only[if_pos c]at h2 h3
  rw[h2,h3,if_neg (by omega)];omega
 .simp only[if_neg c,h6]at h2 h3
  rw[h2,h3]
  have:x % y-(y.natAbs:Int)<0:=by omega
  rw[if_pos (by omega)];omega
theorem tdiv_bd{x y b:Int}(h:bd x b):bd (x.tdiv y) b:=by
 rw[bd.abs]at *
 have:=tdiv_le (a:=x) (b:=y)
 omega
theorem xzi(d:Nat){x y:Int}(h1:0<y)(hx:bd x 9223372036854775806)(m:Mem):xnu (xnt (d+1)) x1m [I x,I y] m=some (I (x / y),m):=by
 have hd:=tdiv_bd (y:=y) hx
 unfold bd at hd
 refine xo0 rfl ?_ m
 rw[xjx]
 unfold xe3 xbc xhi
 simp(disch:=omega) [mem0,xr9 (show y≠0 by omega),xrq (show y≠0 by omega)]
 rw[<-fl_eq h1]
 by_cases c:x.tmod y<0
 .simp(disch:=omega) [c,x7a]
  exact RetF.st rfl rfl
 .simp[c,x7a]
  exact RetF.st rfl rfl
theorem xsd(d:Nat){x y:Int}(h1:0<y)(hx:bd x 9223372036854775806)(m:Mem):xnu (xnt (d+1)) xt [I x,I y] m=some (I (x / y),m):=by
 have hd:=tdiv_bd (y:=y) hx
 unfold bd at hd
 refine xo0 rfl ?_ m
 rw[xk5]
 unfold xea xbu xhm
 simp(disch:=omega) [mem0,xr9 (show y≠0 by omega),xrq (show y≠0 by omega)]
 rw[<-fl_eq h1]
 by_cases c:x.tmod y<0
 .simp(disch:=omega) [c,x7e]
  exact RetF.st rfl rfl
 .simp[c,x7e]
  exact RetF.st rfl rfl
theorem xzj(d:Nat){x y:Int}(h1:0<y)(h2:y<=1000000000000)(hx:bd x 4000000000000000000)(m:Mem):xnu (xnt (d+2)) x1n [I x,I y] m=some (I ((2*x+y) / (2*y)),m):=by
 unfold bd at hx
 refine xo0 rfl ?_ m
 rw[xk1]
 unfold xe6 xbm
 simp(disch:=(first|omega|(unfold bd;omega))) [mem0,xzi]
 exact RetF.st rfl rfl
structure AffIn (f:Aff):Prop where
 d0:0<f.den
 d1:f.den<=1000000000000
 l0:bd f.l0 1000000000000000
 l1:bd f.l1 1000000000000000
 l2:bd f.l2 1000000000000000
 s0:bd f.s0 1000000000000000
 s1:bd f.s1 1000000000000000
 s2:bd f.s2 1000000000000000
end Go.Ix
namespace Go.Ix
open Go.Proofs
variable{α:Type}{z:Nat}{enc:α->List AV}{l:List α}{a:AV}
def Gk{α:Type}(z:Nat)(enc:α->List AV)(ok:Id->Prop)(m:Mem)(a:AV)(l:List α):Prop:=
 (a=nilS/\l=[])\/∃id ver,ok id/\a=.sref id ver 0 l.length z true/\m.get id=some (.row (l.flatMap enc) ver false)
theorem Gk.nil{ok:Id->Prop}{m:Mem}:Gk z enc ok m nilS []:=Or.inl ⟨rfl,rfl⟩
theorem Gk.frame{ok:Id->Prop}{m m':Mem}(h:Gk z enc ok m a l)(hm:∀id,ok id->m'.get id=m.get id):Gk z enc ok m' a l:=by
 rcases h with h|⟨id,ver,h0,h1,h2⟩
 .exact Or.inl h
 .exact Or.inr ⟨id,ver,h0,h1,by rw[hm _ h0];exact h2⟩
theorem Gk.app(hz:∀x,(enc x).length=z)(h0:0<z){bytes:Nat}{ok:Id->Prop}{id0:Id}{m:Mem}(ht:ok id0)(hr:xol (l.length+1) bytes)(h:Gk z enc ok m a l)(x:α) :
 ∃a' m',(∀{R:Type} (k:AV->Mem->Option R),sApp z bytes id0 (some (enc x,1)) a m k=k a' m')/\Gk z enc ok m' a' (l++[x])/\a'.cells=[a']/\a'.one=true/\m'.next=m.next/\∀j:Id,¬ok j->m'.get j=m.get j:=by
 rcases h with ⟨rfl,rfl⟩|⟨id,ver,h1,rfl,hg⟩
 .refine⟨.sref id0 0 0 1 z true,m.new id0 (.row (enc x) 0 false),λk=>?_,Or.inr ⟨id0,0,ht,rfl,by simp⟩,rfl,rfl,rfl,λj hj=>?_⟩
  .simp only[sApp]
   rw[if_neg (by omega),if_pos (by simpa using hr)]
  .rw[Mem.get_new,if_neg (by rintro rfl;exact hj ht)]
 .have hl:=xrr hz l
  refine⟨.sref id (ver+1) 0 (l.length+1) z true,m.set id (.row (l.flatMap enc++enc x) (ver+1) false),λk=>?_,Or.inr ⟨id,ver+1,h1,by simp,by simp⟩,rfl,rfl,rfl,λj hj=>?_⟩
  .simp only[sApp,hg]
   rw[if_pos ⟨trivial,trivial,by omega,hr⟩,if_neg (by omega),if_neg (by rw[hl,x1ak];omega),x1a6,x19p (by omega)]
  .rw[Mem.get_set,if_neg (by rintro rfl;exact hj h1)]
theorem Gk.one{ok:Id->Prop}{m:Mem}(h:Gk z enc ok m a l):a.cells=[a]/\a.one=true:=by
 rcases h with ⟨rfl,rfl⟩|⟨id,ver,h1,rfl,hg⟩<;>exact⟨rfl,rfl⟩
theorem Gk.frz(hz:∀x,(enc x).length=z)(hs:∀x,(enc x).all still1=true){ok:Id->Prop}{k:Nat}{m:Mem}(h:Gk z enc ok m a l):∃a',Sl enc a' l/\Go.Ix.frz m.get (k+2) a=some a':=by
 rcases h with ⟨rfl,rfl⟩|⟨id,ver,_,rfl,hg⟩
 .exact⟨nilS,Or.inl ⟨rfl,rfl⟩,rfl⟩
 .have hl:=xrr hz l
  refine⟨.slit (l.flatMap enc) l.length false,Sl.lit l false,?_⟩
  have:=xug (objs:=m.get) (id:=id) (cs:=l.flatMap enc) (ver:=ver) (off:=0) (n:=l.length) (z:=z) (k:=k) (f:=false) (x:=true) hg (by omega) (by
   rw[x1a6,x19p (by omega)];exact xuh hs l)
  rw[x1a6,x19p (by omega)]at this
  exact this
theorem at0_app{l:List Int}{x:Int}{k:Nat}:at0 (l++[x]) k=if k<l.length then at0 l k else if k=l.length then x else 0:=by
 unfold at0
 simp only[x1a7]
 by_cases h:k<l.length
 .rw[if_pos h,x1b2 h]
 .rw[if_neg h,x1b3 (by omega)]
  by_cases h2:k=l.length
  .rw[if_pos h2,h2];simp
  .rw[if_neg h2,x1d7 (by simp;omega)];rfl
def OutIn(k:Int)(out:List Int):Prop:=∀i,-(2048*k)<=at0 out i/\at0 out i<=2048*k
theorem OutIn.app{k:Nat}{out:List Int}(h:OutIn k out){x:Int}(h1:-(2048*((k+1:Nat):Int))<=x)(h2:x<=2048*((k+1:Nat):Int)):OutIn ((k+1:Nat):Int) (out++[x]):=by
 intro i
 rw[at0_app]
 have:=h i
 split
 .omega
 .split<;>omega
def Edge.same(a b:Edge):Bool:=decide (a.fr=b.fr)&&(decide (a.to=b.to)&&(decide (a.jump=b.jump)&&decide (a.wt=b.wt)))
end Go.Ix
