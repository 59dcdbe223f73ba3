import Derived.Test.YtjdlceelbnaneaaWg7
import Derived.Test.YtjdlceelbnaneaaWg1
set_option linter.unusedSimpArgs false
namespace Go.Ix
open Go.Proofs
variable{α:Type}{z:Nat}{enc:α->List AV}{l:List α}{a:AV}
def Gq{α:Type}(z:Nat)(enc:α->List AV)(u:Nat)(T:List Nat)(m:Mem)(a:AV)(l:List α):Prop:=
 (a=nilS/\l=[])\/∃s t ver,t∈T/\a=.sref (u,s,t) ver 0 l.length z true/\m.get (u,s,t)=some (.row (l.flatMap enc) ver false)
theorem Gq.nil{u:Nat}{T:List Nat}{m:Mem}:Gq z enc u T m nilS []:=Or.inl ⟨rfl,rfl⟩
theorem Gq.frame{u:Nat}{T:List Nat}{m m':Mem}(h:Gq z enc u T m a l)(hm:∀s t,t∈T->m'.get (u,s,t)=m.get (u,s,t)):Gq z enc u T m' a l:=by
 rcases h with h|⟨s,t,ver,h0,h1,h2⟩
 .exact Or.inl h
 .exact Or.inr ⟨s,t,ver,h0,h1,by rw[hm _ _ h0];exact h2⟩
theorem Gq.app(hz:∀x,(enc x).length=z)(h0:0<z){u t0 s0 bytes:Nat}{T:List Nat}{m:Mem}(ht:t0∈T)(hr:x2p (l.length+1) bytes)(h:Gq z enc u T m a l)(x:α) :
 ∃a' m',(∀{R:Type} (k:AV->Mem->Option R),sApp z bytes (u,s0,t0) (some (enc x,1)) a m k=k a' m')/\Gq z enc u T m' a' (l++[x])/\m'.next=m.next/\∀j:Id,j.2.2∉T->m'.get j=m.get j:=by
 rcases h with ⟨rfl,rfl⟩|⟨s,t,ver,h1,rfl,hg⟩
 .refine⟨.sref (u,s0,t0) 0 0 1 z true,m.new (u,s0,t0) (.row (enc x) 0 false),λk=>?_,Or.inr ⟨s0,t0,0,ht,rfl,by simp⟩,rfl,λj hj=>?_⟩
  .simp only[sApp]
   rw[xbr (by omega),xbq (by simpa using hr)]
  .rw[Mem.get_new,xbr (by rintro rfl;exact hj ht)]
 .have hl:=x4j hz l
  refine⟨.sref (u,s,t) (ver+1) 0 (l.length+1) z true,m.set (u,s,t) (.row (l.flatMap enc++enc x) (ver+1) false),λk=>?_,Or.inr ⟨s,t,ver+1,h1,by simp,by simp⟩,rfl,λj hj=>?_⟩
  .simp only[sApp,hg]
   rw[xbq ⟨trivial,trivial,by omega,hr⟩,xbr (by omega),xbr (by rw[hl,xct];omega),xcp,xcn (by omega)]
  .rw[Mem.get_set,xbr (by rintro rfl;exact hj h1)]
theorem Gq.frz(hz:∀x,(enc x).length=z)(hs:∀x,(enc x).all still1=true){u:Nat}{T:List Nat}{m:Mem}(h:Gq z enc u T m a l):∃a',Sl enc a' l/\Go.Ix.frz m.get deep a=some a':=by
 rcases h with ⟨rfl,rfl⟩|⟨s,t,ver,_,rfl,hg⟩
 .exact⟨nilS,Or.inl ⟨rfl,rfl⟩,rfl⟩
 .have hl:=x4j hz l
  refine⟨.slit (l.flatMap enc) l.length false,Sl.lit l false,?_⟩
  have:=x81 (objs:=m.get) (id:=(u,s,t)) (cs:=l.flatMap enc) (ver:=ver) (off:=0) (n:=l.length) (z:=z) (k:=4) (f:=false) (x:=true) hg (by omega) (by
   rw[xcp,xcn (by omega)];exact x6s hs l)
  rw[xcp,xcn (by omega)]at this
  exact this
theorem Gq.len{u:Nat}{T:List Nat}{m:Mem}{t e:TypeId}(ht:Try.prog.underlying t=some (.slice e))(h:Gq z enc u T m a l):sLen Try.prog t a=some (I l.length):=by
 rcases h with ⟨rfl,rfl⟩|⟨s,t,ver,_,rfl,hg⟩
 .exact x7z ht
 .rfl
theorem Edge.still(e:Edge):e.c.all still1=true:=rfl
end Go.Ix
set_option linter.unusedVariables false
namespace Go.Ix
open Go.Proofs
theorem x62(d:Nat)(a b c:Int)(m:Mem):x2k (x2l (d+1)) xa [I a,I b,I c] m=some (B (wi a b c),m):=by
 refine call0 rfl (m':=⟨[],1⟩) ?_ rfl
 rw[x1y]
 unfold x1a xy wi
 by_cases h:b<=a<;>by_cases h2:a<=c<;>simp[h,h2,mem0]
theorem fl_eq{x y:Int}(h1:0<y):(if x.tmod y<0 then x.tdiv y-1 else x.tdiv y)=x / y:=by
 have h2:=Int.tdiv_eq_ediv (a:=x) (b:=y)
 have h3:=Int.tmod_eq_emod (a:=x) (b:=y)
 have h4:=Int.emod_nonneg x (show y≠0 by omega)
 have h5:=Int.emod_lt_of_pos x h1
 have h6:y.sign=1:=Int.sign_eq_one_of_pos h1
 by_cases c:0<=x\/y ∣ x
 .simp only[xbq c]at h2 h3
  rw[h2,h3,xbr (by omega)];omega
 .simp only[xbr c,h6]at h2 h3
  rw[h2,h3]
  have:x % y-(y.natAbs:Int)<0:=by omega
  rw[xbq (by omega)];omega
theorem tdiv_bd{x y b:Int}(h:bd x b):bd (x.tdiv y) b:=by
 rw[bd.abs]at *
 have:=tdiv_le (a:=x) (b:=y)
 omega
theorem w_floor3(d:Nat){x y:Int}(h1:0<y)(hx:bd x 9223372036854775806)(m:Mem):x2k (x2l (d+1)) xj [I x,I y] m=some (I (x / y),m):=by
 have hd:=tdiv_bd (y:=y) hx
 unfold bd at hd
 refine x44 rfl ?_ m
 rw[x20]
 unfold x1c x10 x1p
 simp(disch:=omega) [mem0,sQuo_I (show y≠0 by omega),sRem_I (show y≠0 by omega)]
 rw[<-fl_eq h1]
 by_cases c:x.tmod y<0
 .simp(disch:=omega) [c,xm]
  exact RetF.st rfl rfl
 .simp[c,xm]
  exact RetF.st rfl rfl
theorem w_Floor(d:Nat){x y:Int}(h1:0<y)(hx:bd x 9223372036854775806)(m:Mem):x2k (x2l (d+1)) xb [I x,I y] m=some (I (x / y),m):=by
 have hd:=tdiv_bd (y:=y) hx
 unfold bd at hd
 refine x44 rfl ?_ m
 rw[x1u]
 unfold x16 xr x1j
 simp(disch:=omega) [mem0,sQuo_I (show y≠0 by omega),sRem_I (show y≠0 by omega)]
 rw[<-fl_eq h1]
 by_cases c:x.tmod y<0
 .simp(disch:=omega) [c,xl]
  exact RetF.st rfl rfl
 .simp[c,xl]
  exact RetF.st rfl rfl
theorem xa3(d:Nat){x y:Int}(h1:0<y)(h2:y<=1000000000000)(hx:bd x 4000000000000000000)(m:Mem):x2k (x2l (d+2)) xd [I x,I y] m=some (I ((2*x+y) / (2*y)),m):=by
 unfold bd at hx
 refine x44 rfl ?_ m
 rw[x21]
 unfold x1d x11
 simp(disch:=(first|omega|(unfold bd;omega))) [mem0,w_floor3]
 exact RetF.st rfl rfl
def inT(x:Int):Bool:=wi x (-1000000000000000) 1000000000000000
def chkA(f:Aff):Int:=bif !wi f.den 1 1000000000000 then 2 else bif !inT f.l0 then 2 else bif !inT f.l1 then 2 else bif !inT f.l2 then 2 else bif !inT f.s0 then 2 else bif !inT f.s1 then 2 else bif !inT f.s2 then 2 else 0
structure AffIn (f:Aff):Prop where
 d0:0<f.den
 d1:f.den<=1000000000000
 l0:bd f.l0 1000000000000000
 l1:bd f.l1 1000000000000000
 l2:bd f.l2 1000000000000000
 s0:bd f.s0 1000000000000000
 s1:bd f.s1 1000000000000000
 s2:bd f.s2 1000000000000000
theorem x5i{x:Int}(h:inT x=true):bd x 1000000000000000:=wi_t h
theorem chkA_in{f:Aff}(h:chkA f=0):AffIn f:=by
 unfold chkA at h
 cases c0:wi f.den 1 1000000000000<;>simp[c0]at h
 cases c1:inT f.l0<;>simp[c1]at h
 cases c2:inT f.l1<;>simp[c2]at h
 cases c3:inT f.l2<;>simp[c3]at h
 cases c4:inT f.s0<;>simp[c4]at h
 cases c5:inT f.s1<;>simp[c5]at h
 cases c6:inT f.s2<;>simp[c6]at h
 have:=wi_t c0
 exact⟨by omega,by omega,x5i c1,x5i c2,x5i c3,x5i c4,x5i c5,x5i c6⟩
theorem xa4(d:Nat)(f:Aff)(m:Mem):x2k (x2l (d+2)) xc [.agg f.c] m=some (I (chkA f),m):=by
 refine x44 rfl ?_ m
 rw[x1w]
 unfold x18 xv
 simp[mem0,Aff.c,x62]
 unfold chkA
 cases c0:wi f.den 1 1000000000000
 .simp;exact RetF.st rfl rfl
 simp
 unfold x1n
 obtain⟨NM,hNM⟩:∃NM,NN=NM+7:=⟨NN-7,by have:=NN_eq;omega⟩
 rw[hNM]
 simp[sSlA,asI,sApp,elems,sLen,x2p]
 have hx:∀(id:Id) (k:Int),0<=k->k<6->sIx 1 (.sref id 1 0 6 1 true) (I k)=some (.ptr id 1 (0+k.toNat*1)):=λid k h0 h1=>by
  simp[sIx,asI,h0,h1]
 simp[xu,x1m,sIx,asI,x62]
 cases c1:inT f.l0
 .unfold inT at c1;simp[c1];exact RetF.st rfl rfl
 unfold inT at c1;simp[c1]
 cases c2:inT f.l1
 .unfold inT at c2;simp[c2];exact RetF.st rfl rfl
 unfold inT at c2;simp[c2]
 cases c3:inT f.l2
 .unfold inT at c3;simp[c3];exact RetF.st rfl rfl
 unfold inT at c3;simp[c3]
 cases c4:inT f.s0
 .unfold inT at c4;simp[c4];exact RetF.st rfl rfl
 unfold inT at c4;simp[c4]
 cases c5:inT f.s1
 .unfold inT at c5;simp[c5];exact RetF.st rfl rfl
 unfold inT at c5;simp[c5]
 cases c6:inT f.s2
 .unfold inT at c6;simp[c6];exact RetF.st rfl rfl
 unfold inT at c6;simp[c6,x1l]
 exact RetF.st rfl rfl
end Go.Ix
