import Derived.Test.YtljibmnhhdiakaaWMut
import Derived.Test.YtljibmnhhdiakaaWTurns
set_option linter.unusedSimpArgs false
namespace Go.Ix
open Go.Proofs
variable{α:Type}{z:Nat}{enc:α->List AV}{l:List α}{a:AV}
def Gq{α:Type}(z:Nat)(enc:α->List AV)(u:Nat)(T:List Nat)(m:Mem)(a:AV)(l:List α):Prop:=
 (a=nilS/\l=[])\/∃s t ver,t∈T/\a=.sref (u,s,t) ver 0 l.length z true/\m.get (u,s,t)=some (.row (l.flatMap enc) ver false)
theorem Gq.nil{u:Nat}{T:List Nat}{m:Mem}:Gq z enc u T m nilS []:=Or.inl ⟨rfl,rfl⟩
theorem Gq.frame{u:Nat}{T:List Nat}{m m':Mem}(h:Gq z enc u T m a l)(hm:∀s t,t∈T->m'.get (u,s,t)=m.get (u,s,t)):Gq z enc u T m' a l:=by
 rcases h with h|⟨s,t,ver,h0,h1,h2⟩
 .exact Or.inl h
 .exact Or.inr ⟨s,t,ver,h0,h1,by rw[hm _ _ h0];exact h2⟩
theorem Gq.app(hz:∀x,(enc x).length=z)(h0:0<z){u t0 s0 bytes:Nat}{T:List Nat}{m:Mem}(ht:t0∈T)(hr:x1r4 (l.length+1) bytes)(h:Gq z enc u T m a l)(x:α) :
 ∃a' m',(∀{R:Type} (k:AV->Mem->Option R),sApp z bytes (u,s0,t0) (some (enc x,1)) a m k=k a' m')/\Gq z enc u T m' a' (l++[x])/\m'.next=m.next/\∀j:Id,j.2.2∉T->m'.get j=m.get j:=by
 rcases h with ⟨rfl,rfl⟩|⟨s,t,ver,h1,rfl,hg⟩
 .refine⟨.sref (u,s0,t0) 0 0 1 z true,m.new (u,s0,t0) (.row (enc x) 0 false),fun k=>?_,Or.inr ⟨s0,t0,0,ht,rfl,by simp⟩,rfl,fun j hj=>?_⟩
  .simp only[sApp]
   rw[if_neg (by omega),if_pos (by simpa using hr)]
  .rw[Mem.get_new,if_neg (by rintro rfl;exact hj ht)]
 .have hl:=x1v2 hz l
  refine⟨.sref (u,s,t) (ver+1) 0 (l.length+1) z true,m.set (u,s,t) (.row (l.flatMap enc++enc x) (ver+1) false),fun k=>?_,Or.inr ⟨s,t,ver+1,h1,by simp,by simp⟩,rfl,fun j hj=>?_⟩
  .simp only[sApp,hg]
   rw[if_pos ⟨trivial,trivial,by omega,hr⟩,if_neg (by omega),if_neg (by rw[hl,Nat.succ_mul];omega),List.drop_zero,List.take_of_length_le (by omega)]
  .rw[Mem.get_set,if_neg (by rintro rfl;exact hj h1)]
theorem Gq.frz(hz:∀x,(enc x).length=z)(hs:∀x,(enc x).all still1=true){u:Nat}{T:List Nat}{m:Mem}(h:Gq z enc u T m a l):∃a',Sl enc a' l/\Go.Ix.frz m.get deep a=some a':=by
 rcases h with ⟨rfl,rfl⟩|⟨s,t,ver,_,rfl,hg⟩
 .exact⟨nilS,Or.inl ⟨rfl,rfl⟩,rfl⟩
 .have hl:=x1v2 hz l
  refine⟨.slit (l.flatMap enc) l.length false,Sl.lit l false,?_⟩
  have:=x1v4 (objs:=m.get) (id:=(u,s,t)) (cs:=l.flatMap enc) (ver:=ver) (off:=0) (n:=l.length) (z:=z) (k:=4) (f:=false) (x:=true) hg (by omega) (by
   rw[List.drop_zero,List.take_of_length_le (by omega)];exact x1ur hs l)
  rw[List.drop_zero,List.take_of_length_le (by omega)]at this
  exact this
theorem Gq.len{u:Nat}{T:List Nat}{m:Mem}{t e:TypeId}(ht:Try.prog.underlying t=some (.slice e))(h:Gq z enc u T m a l):sLen Try.prog t a=some (I l.length):=by
 rcases h with ⟨rfl,rfl⟩|⟨s,t,ver,_,rfl,hg⟩
 .exact x1y3 ht
 .rfl
def x225(call:x1qo)(f:AV)(id:Id)(o:Ob)(p:Int->Bool):Prop:=∀(hs:FHs) (x:Int) (m:Mem),m.get id=some o->∃n,x1sj call hs 2 f [I x] m=some (B (p x),⟨m.hp,n⟩)
theorem x281(d:Nat)(hs:FHs){a f:AV}{l:List Int}{p:Int->Bool}{id:Id}{o:Ob}(h:Ints a l)(hl:l.length<1000000)(hf:x225 (x1qp d) f id o p)(u:Nat):∀(suf:List Int) (k j:Nat) (m:Mem) (fc:Nat),l.drop k=suf->suf.length<j->m.get id=some o ->
 ∃n,x1o (x1qp d) hs u j a f (I l.length) (I k) m fc=some (I (x1su p k suf),⟨m.hp,n⟩):=by
 intro suf
 induction suf with
 |nil=>
  intro k j m fc hd hj hg
  obtain⟨j,rfl⟩:∃i,j=i+1:=⟨j-1,by simp at hj;omega⟩
  have hk:¬((k:Int)<(l.length:Int)):=by have:=List.drop_eq_nil_iff.mp hd;omega
  simp only[x1o]
  unfold x6e
  simp[hk,x3d,x1su]
  exact⟨m.next,rfl⟩
 |cons x r ih=>
  intro k j m fc hd hj hg
  obtain⟨j,rfl⟩:∃i,j=i+1:=⟨j-1,by simp at hj;omega⟩
  obtain⟨hk,hke,hd⟩:=x1sm hd
  have hk':(k:Int)<(l.length:Int):=by omega
  have ix:=h.ix x1rk hk
  have e1:at0 l k=x:=by rw[x1ri hk,hke]
  obtain⟨n1,h1⟩:=hf hs x m hg
  obtain⟨n2,h2⟩:=ih (k+1) j ⟨m.hp,n1⟩ (fc+11) hd (by simp at hj;omega) hg
  simp only[x1o]
  unfold x6e
  simp(disch:=omega) [hk',ix,x1rg,e1,h1,x1su]
  cases c:p x
  .simp(disch:=omega)
   exact⟨n2,h2⟩
  .simp
theorem x282(d:Nat)(hs:FHs){a f:AV}{l:List Int}{p:Int->Bool}{id:Id}{o:Ob}(h:Ints a l)(hl:l.length<1000000)(hf:x225 (x1qp d) f id o p)(m:Mem)(hg:m.get id=some o):∃n,x1qp (d+2) hs x3y [a,f] m=some (B (l.any p),⟨m.hp,n⟩):=by
 obtain⟨n,h'⟩:=x281 d hs h hl hf (m.next+1) l 0 NN ⟨m.hp,m.next+1+1⟩ 4 rfl (by rw[x1r6];omega) hg
 refine⟨n,?_⟩
 rw[xzp]
 unfold xel xgs
 have h2:x1qp (d+1) hs x3o [a,f] ⟨m.hp,m.next+1⟩=some (I (x1su p 0 l),⟨m.hp,n⟩):=by
  rw[xl3]
  unfold x9q xcl x9d
  simp[h.len x1r8]
  exact h'
 simp only[h2,Option.bind_some,sGe_I,x24x (Int.le_refl 0)]
end Go.Ix
