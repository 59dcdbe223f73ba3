import Derived.Test.YtjdlceelbnaneaaWBase
import Derived.ProofKit
import Derived.Test.YtjdlceelbnaneaaWg1
import Derived.Test.YtjdlceelbnaneaaWg5
namespace Go.Ix
theorem e_awake3:((x6e 30 [] x3l [] mem0).map (λp=>p.1))=some (B true):=by kernel_rfl
theorem w_awake3(m:Mem):x6h (x6e 30) x3l [] m=some (B true,m):=by
 have h:=e_awake3
 rw[xia]at h
 obtain⟨⟨r,m'⟩,h1,rfl⟩:=h
 exact call0 rfl h1 rfl
end Go.Ix
set_option linter.unusedSimpArgs false
namespace Go.Ix
variable{R:Type}{m:Mem}
theorem xab:∀l:List Int,l.flatMap intE=l.map I
 |[]=>rfl
 |x::l=>by rw[xjp,xab l];rfl
theorem xfl(l:List Int):(l.flatMap intE).length=l.length:=by rw[xab];simp
@[simp high] theorem ldRow_int{l:List Int}{k:Nat}{fz:Bool}(hk:k<l.length):ldRow false 1 0 k (some (.row (l.flatMap intE) 0 fz))=some (I (at0 l k)):=by
  simp only[ldRow,Nat.beq_refl,cond_true,rd,xix,xii]
  rw[xab,<-List.map_drop,x8t hk,x7i hk]
  rfl
@[simp high] theorem stRow_int{l:List Int}{k:Nat}{v:Int}(hk:k<l.length):stRow 1 0 k (I v) (some (.row (l.flatMap intE) 0 false))=some (.row ((l.set k v).flatMap intE) 0 false):=by
  have h:(0:Nat)=0/\(I v).cells.length=1/\k+1<=(l.flatMap intE).length/\((I v).cells.all AV.one)=true:=⟨rfl,rfl,by rw[xfl];omega,rfl⟩
  rw[xd4,xjb h,cond_true]
  simp only[xab,x6v,cells_I]
  congr 2
  rw[List.map_set,xlr,xi5 (by simpa using hk)]
  simp
end Go.Ix
namespace Go.Ix
open Go.Proofs
variable{α:Type}{z:Nat}{enc:α->List AV}{l:List α}{a:AV}
def Gq{α:Type}(z:Nat)(enc:α->List AV)(u:Nat)(T:List Nat)(m:Mem)(a:AV)(l:List α):Prop:=
 (a=nilS/\l=[])\/∃s t ver,t∈T/\a=.sref (u,s,t) ver 0 l.length z true/\m.get (u,s,t)=some (.row (l.flatMap enc) ver false)
theorem Gq.nil{u:Nat}{T:List Nat}{m:Mem}:Gq z enc u T m nilS []:=Or.inl ⟨rfl,rfl⟩
theorem Gq.frame{u:Nat}{T:List Nat}{m m':Mem}(h:Gq z enc u T m a l)(hm:∀s t,t∈T->m'.get (u,s,t)=m.get (u,s,t)):Gq z enc u T m' a l:=by
 rcases h with h|⟨s,t,ver,h0,h1,h2⟩
 .exact Or.inl h
 .exact Or.inr ⟨s,t,ver,h0,h1,by rw[hm _ _ h0];exact h2⟩
theorem Gq.app(hz:∀x,(enc x).length=z)(h0:0<z){u t0 s0 bytes:Nat}{T:List Nat}{m:Mem}(ht:t0∈T)(hr:x6m (l.length+1) bytes)(h:Gq z enc u T m a l)(x:α) :
 ∃a' m',(∀{R:Type} (k:AV->Mem->Option R),sApp z bytes (u,s0,t0) (some (enc x,1)) a m k=k a' m')/\Gq z enc u T m' a' (l++[x])/\m'.next=m.next/\∀j:Id,j.2.2∉T->m'.get j=m.get j:=by
 rcases h with ⟨rfl,rfl⟩|⟨s,t,ver,h1,rfl,hg⟩
 .refine⟨.sref (u,s0,t0) 0 0 1 z true,m.new (u,s0,t0) (.row (enc x) 0 false),λk=>?_,Or.inr ⟨s0,t0,0,ht,rfl,by simp⟩,rfl,λj hj=>?_⟩
  .simp only[sApp]
   rw[xi6 (by omega),xi5 (by simpa using hr)]
  .rw[Mem.get_new,xi6 (by rintro rfl;exact hj ht)]
 .have hl:=x8s hz l
  refine⟨.sref (u,s,t) (ver+1) 0 (l.length+1) z true,m.set (u,s,t) (.row (l.flatMap enc++enc x) (ver+1) false),λk=>?_,Or.inr ⟨s,t,ver+1,h1,by simp,by simp⟩,rfl,λj hj=>?_⟩
  .simp only[sApp,hg]
   rw[xi5 ⟨trivial,trivial,by omega,hr⟩,xi6 (by omega),xi6 (by rw[hl,xja];omega),xj3,xiu (by omega)]
  .rw[Mem.get_set,xi6 (by rintro rfl;exact hj h1)]
theorem Gq.frz(hz:∀x,(enc x).length=z)(hs:∀x,(enc x).all still1=true){u:Nat}{T:List Nat}{m:Mem}(h:Gq z enc u T m a l):∃a',Sl enc a' l/\Go.Ix.frz m.get deep a=some a':=by
 rcases h with ⟨rfl,rfl⟩|⟨s,t,ver,_,rfl,hg⟩
 .exact⟨nilS,Or.inl ⟨rfl,rfl⟩,rfl⟩
 .have hl:=x8s hz l
  refine⟨.slit (l.flatMap enc) l.length false,Sl.lit l false,?_⟩
  have:=xbt (objs:=m.get) (id:=(u,s,t)) (cs:=l.flatMap enc) (ver:=ver) (off:=0) (n:=l.length) (z:=z) (k:=4) (f:=false) (x:=true) hg (by omega) (by
   rw[xj3,xiu (by omega)];exact xay hs l)
  rw[xj3,xiu (by omega)]at this
  exact this
theorem Gq.len{u:Nat}{T:List Nat}{m:Mem}{t e:TypeId}(ht:Try.prog.underlying t=some (.slice e))(h:Gq z enc u T m a l):sLen Try.prog t a=some (I l.length):=by
 rcases h with ⟨rfl,rfl⟩|⟨s,t,ver,_,rfl,hg⟩
 .exact x9n ht
 .rfl
theorem Edge.still(e:Edge):e.c.all still1=true:=rfl
end Go.Ix
set_option linter.unusedVariables false
namespace Go.Ix
open Go.Proofs
theorem x8v(d:Nat)(a b c:Int)(m:Mem):x6h (x6e (d+1)) xa [I a,I b,I c] m=some (B (wi a b c),m):=by
 refine call0 rfl (m':=⟨[],1⟩) ?_ rfl
 rw[x4x]
 unfold x35 x2b wi
 by_cases h:b<=a<;>by_cases h2:a<=c<;>simp[h,h2,mem0]
structure AffIn (f:Aff):Prop where
 d0:0<f.den
 d1:f.den<=1000000000000
 l0:bd f.l0 1000000000000000
 l1:bd f.l1 1000000000000000
 l2:bd f.l2 1000000000000000
 s0:bd f.s0 1000000000000000
 s1:bd f.s1 1000000000000000
 s2:bd f.s2 1000000000000000
end Go.Ix
