import Derived.Test.YtibmppgmjbpdmaaGreatDoorWg1
import Derived.Test.YtibmppgmjbpdmaaGreatDoorWg2
import Derived.Test.YtibmppgmjbpdmaaGreatDoorWg3
set_option linter.unusedSimpArgs false
namespace Go.Ix
variable{R:Type}{m:Mem}
theorem x1c4:∀l:List Int,l.flatMap intE=l.map I
 |[]=>rfl
 |x::l=>by rw[x1ps,x1c4 l];rfl
theorem x1ad(l:List Int):(l.flatMap intE).length=l.length:=by rw[x1c4];simp
abbrev srI(id:Id)(n:Nat):AV:=.sref id 0 0 n 1 true
@[simp high] theorem ldRow_int{l:List Int}{k:Nat}{fz:Bool}(hk:k<l.length):x1ab false 1 0 k (some (.row (l.flatMap intE) 0 fz))=some (I (at0 l k)):=by
  simp only[x1ab,Nat.beq_refl,cond_true,rd,x1pj,x1p9]
  rw[x1c4,<-List.map_drop,x1b2 hk,at0_lt hk]
  rfl
@[simp high] theorem stRow_int{l:List Int}{k:Nat}{v:Int}(hk:k<l.length):stRow 1 0 k (I v) (some (.row (l.flatMap intE) 0 false))=some (.row ((l.set k v).flatMap intE) 0 false):=by
  have h:(0:Nat)=0/\(I v).cells.length=1/\k+1<=(l.flatMap intE).length/\((I v).cells.all AV.one)=true:=⟨rfl,rfl,by rw[x1ad];omega,rfl⟩
  rw[x1dt,x1pm h,cond_true]
  simp only[x1c4,x15h,cells_I]
  congr 2
  rw[List.map_set,List.set_eq_take_append_cons_drop,x1p0 (by simpa using hk)]
  simp
end Go.Ix
namespace Go.Ix
open Go.Proofs
variable{α:Type}{z:Nat}{enc:α->List AV}{l:List α}{a:AV}
def Gq{α:Type}(z:Nat)(enc:α->List AV)(u:Nat)(T:List Nat)(m:Mem)(a:AV)(l:List α):Prop:=
 (a=nilS/\l=[])\/∃s t ver,t∈T/\a=.sref (u,s,t) ver 0 l.length z true/\m.get (u,s,t)=some (.row (l.flatMap enc) ver false)
theorem Gq.nil{u:Nat}{T:List Nat}{m:Mem}:Gq z enc u T m nilS []:=Or.inl ⟨rfl,rfl⟩
theorem Gq.frame{u:Nat}{T:List Nat}{m m':Mem}(h:Gq z enc u T m a l)(hm:∀s t,t∈T->m'.get (u,s,t)=m.get (u,s,t)):Gq z enc u T m' a l:=by
 rcases h with h|⟨s,t,ver,h0,h1,h2⟩
 .exact Or.inl h
 .exact Or.inr ⟨s,t,ver,h0,h1,by rw[hm _ _ h0];exact h2⟩
theorem Gq.app(hz:∀x,(enc x).length=z)(h0:0<z){u t0 s0 bytes:Nat}{T:List Nat}{m:Mem}(ht:t0∈T)(hr:x15e (l.length+1) bytes)(h:Gq z enc u T m a l)(x:α) :
 ∃a' m',(∀{R:Type} (k:AV->Mem->Option R),sApp z bytes (u,s0,t0) (some (enc x,1)) a m k=k a' m')/\Gq z enc u T m' a' (l++[x])/\m'.next=m.next/\∀j:Id,j.2.2∉T->m'.get j=m.get j:=by
 rcases h with ⟨rfl,rfl⟩|⟨s,t,ver,h1,rfl,hg⟩
 .refine⟨.sref (u,s0,t0) 0 0 1 z true,m.new (u,s0,t0) (.row (enc x) 0 false),λk=>?_,Or.inr ⟨s0,t0,0,ht,rfl,by simp⟩,rfl,λj hj=>?_⟩
  .simp only[sApp]
   rw[x1oz (by omega),x1p0 (by simpa using hr)]
  .rw[Mem.get_new,x1oz (by rintro rfl;exact hj ht)]
 .have hl:=x172 hz l
  refine⟨.sref (u,s,t) (ver+1) 0 (l.length+1) z true,m.set (u,s,t) (.row (l.flatMap enc++enc x) (ver+1) false),λk=>?_,Or.inr ⟨s,t,ver+1,h1,by simp,by simp⟩,rfl,λj hj=>?_⟩
  .simp only[sApp,hg]
   rw[x1p0 ⟨trivial,trivial,by omega,hr⟩,x1oz (by omega),x1oz (by rw[hl,x1qm];omega),x1po,x1pf (by omega)]
  .rw[Mem.get_set,x1oz (by rintro rfl;exact hj h1)]
theorem Gq.frz(hz:∀x,(enc x).length=z)(hs:∀x,(enc x).all still1=true){u:Nat}{T:List Nat}{m:Mem}(h:Gq z enc u T m a l):∃a',Sl enc a' l/\Go.Ix.frz m.get deep a=some a':=by
 rcases h with ⟨rfl,rfl⟩|⟨s,t,ver,_,rfl,hg⟩
 .exact⟨nilS,Or.inl ⟨rfl,rfl⟩,rfl⟩
 .have hl:=x172 hz l
  refine⟨.slit (l.flatMap enc) l.length false,Sl.lit l false,?_⟩
  have:=x1ac (objs:=m.get) (id:=(u,s,t)) (cs:=l.flatMap enc) (ver:=ver) (off:=0) (n:=l.length) (z:=z) (k:=4) (f:=false) (x:=true) hg (by omega) (by
   rw[x1po,x1pf (by omega)];exact x196 hs l)
  rw[x1po,x1pf (by omega)]at this
  exact this
theorem Gq.len{u:Nat}{T:List Nat}{m:Mem}{t e:TypeId}(ht:Tryz.prog.underlying t=some (.slice e))(h:Gq z enc u T m a l):sLen Tryz.prog t a=some (I l.length):=by
 rcases h with ⟨rfl,rfl⟩|⟨s,t,ver,_,rfl,hg⟩
 .exact x1c0 ht
 .rfl
end Go.Ix
set_option linter.unusedVariables false
set_option maxRecDepth 10000
namespace Go.Ix
open Go.Proofs
theorem wrap_i64{n:Int}(h0:-9223372036854775808<=n)(h1:n<=9223372036854775807):IntKind.i64.wrap n=n:=by
 unfold IntKind.wrap
 have e1:((2:Int) ^ IntKind.i64.bits)=18446744073709551616:=by kernel_rfl
 have e2:((2:Int) ^ (IntKind.i64.bits-1))=9223372036854775808:=by kernel_rfl
 have e3:IntKind.i64.signed=true:=by kernel_rfl
 simp only[e1,e2,e3,x1q0,x1qf]
 split<;>omega
end Go.Ix
