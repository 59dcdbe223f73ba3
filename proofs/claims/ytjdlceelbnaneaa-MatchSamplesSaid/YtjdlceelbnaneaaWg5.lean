import Derived.Test.YtjdlceelbnaneaaWg2
import Derived.ProofKit
import Derived.Test.YtjdlceelbnaneaaWBase
import Derived.Test.YtjdlceelbnaneaaWg1
set_option linter.unusedSimpArgs false
set_option linter.unusedVariables false
namespace Go.Ix
structure PtIn (x:Mp):Prop where
 l0:0<=x.ln
 l1:x.ln<=63
 s0:0<=x.sm
 s1:x.sm<=63
 b0:bd x.b0 8
 b1:bd x.b1 8
theorem PtIn.ln{x:Mp}(h:PtIn x):bd x.ln 63:=by have:=h.l0;have:=h.l1;unfold bd;omega
theorem PtIn.sm{x:Mp}(h:PtIn x):bd x.sm 63:=by have:=h.s0;have:=h.s1;unfold bd;omega
section
variable{l:List Mp}
end
open Go.Proofs
theorem retF_e{v:AV}{call:x7q}{f:FuncId}{l:List AV}(h:((call [] f l mem0).bind λp=>Go.Ix.frz p.2.get deep p.1)=some v):RetF (λa=>a=v) (call [] f l mem0):=by
 rw[xlv]at h
 obtain⟨⟨a,m'⟩,h1,h2⟩:=h
 exact⟨a,m',v,h1,h2,rfl⟩
def sW2(a b:Int):Int:=w64 (a-b)
structure Nm where
 a:Int
 b:Int
 c:Int
 d:Int
 e:Int
 f:Int
 g:Int
 h:Int
 i:Int
 x:Int
 y:Int
 z:Int
abbrev Nm.v(n:Nm):AV:=.agg [I n.a,I n.b,I n.c,I n.d,I n.e,I n.f,I n.g,I n.h,I n.i,I n.x,I n.y,I n.z]
structure Ep where
 day:Int
 bl:Int
 ph:Int
 mg:Int
def Ep.c(e:Ep):List AV:=[I e.day,I e.bl,I e.ph,I e.mg]
def Ep.r(d0:Int)(e:Ep):List AV:=[I (sW2 e.day d0),I e.bl,I 1]
def Ep.p(e:Ep):List AV:=[I e.ph]
theorem Ep.len(e:Ep):e.c.length=4:=rfl
theorem Ep.still(e:Ep):e.c.all still1=true:=rfl
def Cg(x y:Int):Prop:=∃k:Int,x=y+18446744073709551616*k
theorem Cg.refl(x:Int):Cg x x:=⟨0,by omega⟩
theorem w64_rng(n:Int):Cg (w64 n) n/\-9223372036854775808<=w64 n/\w64 n<=9223372036854775807:=by
 rw[xb3]
 have e:IntKind.i64.wrap n=if(n % 18446744073709551616) ≥ 9223372036854775808 then n % 18446744073709551616-18446744073709551616 else n % 18446744073709551616:=by
  show(if(true&&decide (n % (2 ^ 64:Int) ≥ (2 ^ 63:Int)))=true then n % (2 ^ 64:Int)-(2 ^ 64:Int)else n % (2 ^ 64:Int))=_
  simp
 rw[e]
 have h1:=xod n (show(18446744073709551616:Int)≠0 by omega)
 have h2:=xoe n (show(0:Int)<18446744073709551616 by omega)
 have h3:=Int.mul_ediv_add_emod n 18446744073709551616
 split
 .exact⟨⟨-(n / 18446744073709551616)-1,by omega⟩,by omega,by omega⟩
 .exact⟨⟨-(n / 18446744073709551616),by omega⟩,by omega,by omega⟩
theorem Cg.w{x y:Int}(h:Cg x y):Cg (w64 x) y:=by
 obtain⟨k,h⟩:=h
 obtain⟨⟨j,e⟩,-⟩:=w64_rng x
 exact⟨k+j,by rw[e,h];omega⟩
theorem Cg.add{a b x y:Int}(h:Cg a x)(k:Cg b y):Cg (a+b) (x+y):=by
 obtain⟨p,h⟩:=h
 obtain⟨q,k⟩:=k
 exact⟨p+q,by rw[h,k];omega⟩
theorem Cg.sub{a b x y:Int}(h:Cg a x)(k:Cg b y):Cg (a-b) (x-y):=by
 obtain⟨p,h⟩:=h
 obtain⟨q,k⟩:=k
 exact⟨p-q,by rw[h,k];omega⟩
theorem Cg.mul{a b x y:Int}(h:Cg a x)(k:Cg b y):Cg (a*b) (x*y):=by
 obtain⟨p,h⟩:=h
 obtain⟨q,k⟩:=k
 exact⟨x*q+p*y+18446744073709551616*(p*q),by rw[h,k];grind⟩
theorem Cg.fin{x y:Int}(h:Cg x y)(h1:bd x 9223372036854775807)(hb:bd y 9223372036854775807):x=y:=by
 obtain⟨k,h⟩:=h
 unfold bd at *
 omega
theorem Cg.trans{x y z:Int}(h:Cg x y)(e:y=z):Cg x z:=e▸h
theorem e_awake3:((x7o 30 [] x4r [] mem0).map (λp=>p.1))=some (B true):=by kernel_rfl
theorem xhn(m:Mem):x7p (x7o 30) x4r [] m=some (B true,m):=by
 have h:=e_awake3
 rw[xl0]at h
 obtain⟨⟨r,m'⟩,h1,rfl⟩:=h
 exact call0 rfl h1 rfl
end Go.Ix
namespace Go.Ix
variable{R:Type}{m:Mem}
theorem xbq:∀l:List Int,l.flatMap intE=l.map I
 |[]=>rfl
 |x::l=>by rw[xlo,xbq l];rfl
theorem xho(l:List Int):(l.flatMap intE).length=l.length:=by rw[xbq];simp
@[simp high] theorem ldRow_int{l:List Int}{k:Nat}{fz:Bool}(hk:k<l.length):ldRow false 1 0 k (some (.row (l.flatMap intE) 0 fz))=some (I (at0 l k)):=by
  simp only[ldRow,Nat.beq_refl,cond_true,rd,xll,xlc]
  rw[xbq,<-List.map_drop,x8n hk,x9z hk]
  rfl
@[simp high] theorem stRow_int{l:List Int}{k:Nat}{v:Int}(hk:k<l.length):stRow 1 0 k (I v) (some (.row (l.flatMap intE) 0 false))=some (.row ((l.set k v).flatMap intE) 0 false):=by
  have h:(0:Nat)=0/\(I v).cells.length=1/\k+1<=(l.flatMap intE).length/\((I v).cells.all AV.one)=true:=⟨rfl,rfl,by rw[xho];omega,rfl⟩
  rw[xew,xlh h,cond_true]
  simp only[xbq,x88,cells_I]
  congr 2
  rw[List.map_set,xoj,xkv (by simpa using hk)]
  simp
end Go.Ix
namespace Go.Ix
open Go.Proofs
variable{α:Type}{z:Nat}{enc:α->List AV}{l:List α}{a:AV}
def Gq{α:Type}(z:Nat)(enc:α->List AV)(u:Nat)(T:List Nat)(m:Mem)(a:AV)(l:List α):Prop:=
 (a=nilS/\l=[])\/∃s t ver,t∈T/\a=.sref (u,s,t) ver 0 l.length z true/\m.get (u,s,t)=some (.row (l.flatMap enc) ver false)
theorem Gq.nil{u:Nat}{T:List Nat}{m:Mem}:Gq z enc u T m nilS []:=Or.inl ⟨rfl,rfl⟩
theorem Gq.frame{u:Nat}{T:List Nat}{m m':Mem}(h:Gq z enc u T m a l)(hm:∀s t,t∈T->m'.get (u,s,t)=m.get (u,s,t)):Gq z enc u T m' a l:=by
 rcases h with h|⟨s,t,ver,h0,h1,h2⟩
 .exact Or.inl h
 .exact Or.inr ⟨s,t,ver,h0,h1,by rw[hm _ _ h0];exact h2⟩
theorem Gq.app(hz:∀x,(enc x).length=z)(h0:0<z){u t0 s0 bytes:Nat}{T:List Nat}{m:Mem}(ht:t0∈T)(hr:x82 (l.length+1) bytes)(h:Gq z enc u T m a l)(x:α) :
 ∃a' m',(∀{R:Type} (k:AV->Mem->Option R),sApp z bytes (u,s0,t0) (some (enc x,1)) a m k=k a' m')/\Gq z enc u T m' a' (l++[x])/\m'.next=m.next/\∀j:Id,j.2.2∉T->m'.get j=m.get j:=by
 rcases h with ⟨rfl,rfl⟩|⟨s,t,ver,h1,rfl,hg⟩
 .refine⟨.sref (u,s0,t0) 0 0 1 z true,m.new (u,s0,t0) (.row (enc x) 0 false),λk=>?_,Or.inr ⟨s0,t0,0,ht,rfl,by simp⟩,rfl,λj hj=>?_⟩
  .simp only[sApp]
   rw[xkw (by omega),xkv (by simpa using hr)]
  .rw[Mem.get_new,xkw (by rintro rfl;exact hj ht)]
 .have hl:=xaq hz l
  refine⟨.sref (u,s,t) (ver+1) 0 (l.length+1) z true,m.set (u,s,t) (.row (l.flatMap enc++enc x) (ver+1) false),λk=>?_,Or.inr ⟨s,t,ver+1,h1,by simp,by simp⟩,rfl,λj hj=>?_⟩
  .simp only[sApp,hg]
   rw[xkv ⟨trivial,trivial,by omega,hr⟩,xkw (by omega),xkw (by rw[hl,xm2];omega),xm1,xly (by omega)]
  .rw[Mem.get_set,xkw (by rintro rfl;exact hj h1)]
theorem Gq.frz(hz:∀x,(enc x).length=z)(hs:∀x,(enc x).all still1=true){u:Nat}{T:List Nat}{m:Mem}(h:Gq z enc u T m a l):∃a',Sl enc a' l/\Go.Ix.frz m.get deep a=some a':=by
 rcases h with ⟨rfl,rfl⟩|⟨s,t,ver,_,rfl,hg⟩
 .exact⟨nilS,Or.inl ⟨rfl,rfl⟩,rfl⟩
 .have hl:=xaq hz l
  refine⟨.slit (l.flatMap enc) l.length false,Sl.lit l false,?_⟩
  have:=xex (objs:=m.get) (id:=(u,s,t)) (cs:=l.flatMap enc) (ver:=ver) (off:=0) (n:=l.length) (z:=z) (k:=4) (f:=false) (x:=true) hg (by omega) (by
   rw[xm1,xly (by omega)];exact xdh hs l)
  rw[xm1,xly (by omega)]at this
  exact this
theorem Gq.len{u:Nat}{T:List Nat}{m:Mem}{t e:TypeId}(ht:Try.prog.underlying t=some (.slice e))(h:Gq z enc u T m a l):sLen Try.prog t a=some (I l.length):=by
 rcases h with ⟨rfl,rfl⟩|⟨s,t,ver,_,rfl,hg⟩
 .exact xdf ht
 .rfl
theorem Edge.still(e:Edge):e.c.all still1=true:=rfl
theorem w_Mod(d:Nat){x y:Int}(h1:0<y)(h2:y<=1000000000000)(m:Mem):x7p (x7o (d+1)) xm [I x,I y] m=some (I (x % y),m):=by
 refine Ans.call0 ?_ rfl rfl
 unfold Ans
 rw[x5j]
 unfold x3q x2e x4s
 have h3:x.tmod y=if 0<=x\/y ∣ x then x % y else x % y-y:=by
  have:=Int.tmod_eq_emod (a:=x) (b:=y)
  rw[this]
  split<;>omega
 have h4:=xod x (show y≠0 by omega)
 have h5:=xoe x h1
 simp[mem0,sRem_I (show y≠0 by omega)]
 rw[h3]
 split
 .rename_i h
  simp[x1v,show ¬(x % y<0) by omega]
 .rename_i h
  have:x % y-y<0:=by omega
  simp(disch:=omega) [x1v,this]
theorem xb7(d:Nat)(a b c:Int)(m:Mem):x7p (x7o (d+1)) xa [I a,I b,I c] m=some (B (wi a b c),m):=by
 refine call0 rfl (m':=⟨[],1⟩) ?_ rfl
 rw[x5w]
 unfold x43 x2w wi
 by_cases h:b<=a<;>by_cases h2:a<=c<;>simp[h,h2,mem0]
theorem fl_eq{x y:Int}(h1:0<y):(if x.tmod y<0 then x.tdiv y-1 else x.tdiv y)=x / y:=by
 have h2:=Int.tdiv_eq_ediv (a:=x) (b:=y)
 have h3:=Int.tmod_eq_emod (a:=x) (b:=y)
 have h4:=xod x (show y≠0 by omega)
 have h5:=xoe x h1
 have h6:y.sign=1:=Int.sign_eq_one_of_pos h1
 by_cases c:0<=x\/y ∣ x
 .simp only[xkv c]at h2 h3
  rw[h2,h3,xkw (by omega)];omega
 .simp only[xkw c,h6]at h2 h3
  rw[h2,h3]
  have:x % y-(y.natAbs:Int)<0:=by omega
  rw[xkv (by omega)];omega
theorem tdiv_bd{x y b:Int}(h:bd x b):bd (x.tdiv y) b:=by
 rw[bd.abs]at *
 have:=tdiv_le (a:=x) (b:=y)
 omega
theorem xf7(d:Nat){x y:Int}(h1:0<y)(hx:bd x 9223372036854775806)(m:Mem):x7p (x7o (d+1)) xi [I x,I y] m=some (I (x / y),m):=by
 have hd:=tdiv_bd (y:=y) hx
 unfold bd at hd
 refine x81 rfl ?_ m
 rw[x64]
 unfold x4b x39 x58
 simp(disch:=omega) [mem0,sQuo_I (show y≠0 by omega),sRem_I (show y≠0 by omega)]
 rw[<-fl_eq h1]
 by_cases c:x.tmod y<0
 .simp(disch:=omega) [c,x21]
  exact RetF.st rfl rfl
 .simp[c,x21]
  exact RetF.st rfl rfl
theorem xch(d:Nat){x y:Int}(h1:0<y)(hx:bd x 9223372036854775806)(m:Mem):x7p (x7o (d+1)) x9 [I x,I y] m=some (I (x / y),m):=by
 have hd:=tdiv_bd (y:=y) hx
 unfold bd at hd
 refine x81 rfl ?_ m
 rw[x5k]
 unfold x3r x2f x4t
 simp(disch:=omega) [mem0,sQuo_I (show y≠0 by omega),sRem_I (show y≠0 by omega)]
 rw[<-fl_eq h1]
 by_cases c:x.tmod y<0
 .simp(disch:=omega) [c,x1w]
  exact RetF.st rfl rfl
 .simp[c,x1w]
  exact RetF.st rfl rfl
theorem w_nearest(d:Nat){x y:Int}(h1:0<y)(h2:y<=1000000000000)(hx:bd x 4000000000000000000)(m:Mem):x7p (x7o (d+2)) x1f [I x,I y] m=some (I ((2*x+y) / (2*y)),m):=by
 unfold bd at hx
 refine x81 rfl ?_ m
 rw[x68]
 unfold x4f x3d
 simp(disch:=(first|omega|(unfold bd;omega))) [mem0,xf7]
 exact RetF.st rfl rfl
structure AffIn (f:Aff):Prop where
 d0:0<f.den
 d1:f.den<=1000000000000
 l0:bd f.l0 1000000000000000
 l1:bd f.l1 1000000000000000
 l2:bd f.l2 1000000000000000
 s0:bd f.s0 1000000000000000
 s1:bd f.s1 1000000000000000
 s2:bd f.s2 1000000000000000
end Go.Ix
