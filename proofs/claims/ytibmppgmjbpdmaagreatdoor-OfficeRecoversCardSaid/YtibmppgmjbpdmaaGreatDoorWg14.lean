import Derived.Test.YtibmppgmjbpdmaaGreatDoorWg1
import Derived.ProofKit
import Derived.Test.YtibmppgmjbpdmaaGreatDoorWg13
import Derived.Test.YtibmppgmjbpdmaaGreatDoorWg6
import Derived.Test.YtibmppgmjbpdmaaGreatDoorWg2
import Derived.Test.YtibmppgmjbpdmaaGreatDoorWg11
import Derived.Test.YtibmppgmjbpdmaaGreatDoorWg10
namespace Go.Ix
end Go.Ix
set_option linter.unusedSimpArgs false
namespace Go.Ix
open Go.Proofs
theorem at0_app{l:List Int}{x:Int}{k:Nat}:at0 (l++[x]) k=if k<l.length then at0 l k else if k=l.length then x else 0:=by
 unfold at0
 simp only[x1q3]
 by_cases h:k<l.length
 .rw[x1p0 h,x1r7 h]
 .rw[x1oz h,x1r8 (by omega)]
  by_cases h2:k=l.length
  .rw[x1p0 h2,h2];simp
  .rw[x1oz h2,x1ru (by simp;omega)];rfl
def OutIn(k:Int)(out:List Int):Prop:=∀i,-(2048*k)<=at0 out i/\at0 out i<=2048*k
theorem OutIn.app{k:Nat}{out:List Int}(h:OutIn k out){x:Int}(h1:-(2048*((k+1:Nat):Int))<=x)(h2:x<=2048*((k+1:Nat):Int)):OutIn ((k+1:Nat):Int) (out++[x]):=by
 intro i
 rw[at0_app]
 have:=h i
 split
 .omega
 .split<;>omega
end Go.Ix
set_option linter.unusedVariables false
namespace Go.Ix
open Go.Proofs
def Edge.same(a b:Edge):Bool:=decide (a.fr=b.fr)&&(decide (a.to=b.to)&&(decide (a.jump=b.jump)&&decide (a.wt=b.wt)))
theorem Edge.still1(e:Edge):e.c.all Go.Ix.still1=true:=rfl
end Go.Ix
set_option maxRecDepth 10000
namespace Go.Ix
open Go.Proofs
def GkL{α:Type}(z:Nat)(enc:α->List AV)(ok:Id->Prop)(m:Mem)(a:AV)(l:List α):Prop:=
 a=.slit (l.flatMap enc) l.length true\/∃id ver,ok id/\a=.sref id ver 0 l.length z true/\m.get id=some (.row (l.flatMap enc) ver false)
theorem GkL.frame{α:Type}{z:Nat}{enc:α->List AV}{a:AV}{l:List α}{ok:Id->Prop}{m m':Mem}(h:GkL z enc ok m a l)(hm:∀id,ok id->m'.get id=m.get id):GkL z enc ok m' a l:=by
 rcases h with h|⟨id,ver,h0,h1,h2⟩
 .exact Or.inl h
 .exact Or.inr ⟨id,ver,h0,h1,by rw[hm _ h0];exact h2⟩
theorem GkL.app{α:Type}{z:Nat}{enc:α->List AV}{a:AV}{l:List α}(hz:∀x,(enc x).length=z)(h0:0<z){bytes:Nat}{ok:Id->Prop}{id0:Id}{m:Mem}(ht:ok id0)(hr:x15e (l.length+1) bytes)(h:GkL z enc ok m a l)(x:α) :
 ∃a' m',(∀{R:Type} (k:AV->Mem->Option R),sApp z bytes id0 (some (enc x,1)) a m k=k a' m')/\GkL z enc ok m' a' (l++[x])/\m'.next=m.next/\∀j:Id,¬ok j->m'.get j=m.get j:=by
 have hl:=x172 hz l
 rcases h with rfl|⟨id,ver,h1,rfl,hg⟩
 .refine⟨.sref id0 0 0 (l.length+1) z true,m.new id0 (.row (l.flatMap enc++enc x) 0 false),λk=>?_,Or.inr ⟨id0,0,ht,by simp,by simp⟩,rfl,λj hj=>?_⟩
  .simp only[sApp]
   rw[x1p0 (by omega),x1oz (by omega),x1p0 hr,x1pf (by omega)]
  .rw[Mem.get_new,x1oz (by rintro rfl;exact hj ht)]
 .refine⟨.sref id (ver+1) 0 (l.length+1) z true,m.set id (.row (l.flatMap enc++enc x) (ver+1) false),λk=>?_,Or.inr ⟨id,ver+1,h1,by simp,by simp⟩,rfl,λj hj=>?_⟩
  .simp only[sApp,hg]
   rw[x1p0 ⟨trivial,trivial,by omega,hr⟩,x1oz (by omega),x1oz (by rw[hl,x1qm];omega),x1po,x1pf (by omega)]
  .rw[Mem.get_set,x1oz (by rintro rfl;exact hj h1)]
theorem GkL.frz{α:Type}{z:Nat}{enc:α->List AV}{a:AV}{l:List α}(hz:∀x,(enc x).length=z)(hs:∀x,(enc x).all still1=true){ok:Id->Prop}{k:Nat}{m:Mem}(h:GkL z enc ok m a l):∃a',Sl enc a' l/\Go.Ix.frz m.get (k+2) a=some a':=by
 have hl:=x172 hz l
 rcases h with rfl|⟨id,ver,_,rfl,hg⟩
 .have h1:Sl enc (.slit (l.flatMap enc) l.length true) l:=Or.inr ⟨true,rfl⟩
  have h2:still (.slit (l.flatMap enc) l.length true)=true:=by simp[still,x196 hs l]
  exact⟨_,h1,x194 m.get k h2⟩
 .refine⟨.slit (l.flatMap enc) l.length false,Sl.lit l false,?_⟩
  have:=x1ac (objs:=m.get) (id:=id) (cs:=l.flatMap enc) (ver:=ver) (off:=0) (n:=l.length) (z:=z) (k:=k) (f:=false) (x:=true) hg (by omega) (by
   rw[x1po,x1pf (by omega)];exact x196 hs l)
  rw[x1po,x1pf (by omega)]at this
  exact this
def I64(n:Int):Prop:=-9223372036854775808<=n/\n<=9223372036854775807
def Edge.i64(e:Edge):Prop:=I64 e.fr/\I64 e.to/\I64 e.jump/\I64 e.wt
theorem x1e3:∀(k u:Nat),(digF k u).length<=k
 |0,u=>x1p6 _
 |k+1,u=>by
  unfold digF
  split
  .simp
  .have:=x1e3 k (u / 10)
   simp;omega
theorem x1e4(n:Int):(decM n).length<=21:=by
 unfold decM
 split
 .have:=x1e3 20 n.natAbs
  simp;omega
 .have:=x1e3 20 n.toNat
  omega
theorem c_wstrJ(d:Nat)(hs:FHs){bid:Id}{T s:List UInt8}{m:Mem}(h:m.get bid=some (.bld xe x1 T))(hl:T.length+s.length<=1099511627776) :
 x14z (d+1) hs x3f [.ptr bid 0 0,Tx s] m=some (.tup [I s.length,.sc .nilIface],m.set bid (.bld xe x1 (T++s))):=by
 have h1:x14z (d+1) hs x3f [.ptr bid 0 0,Tx s] m=(x189 xe x1 m.get [.ptr bid 0 0,Tx s]).map λp=>(p.1,m.set p.2.1 p.2.2):=by kernel_rfl
 have h2:x189 xe x1 m.get [.ptr bid 0 0,Tx s]=(match m.get bid with
  |some (.bld t' e' l)=>if t'=xe/\e'=x1/\l.length+(⟨s.toArray⟩:ByteArray).size<=1099511627776 then some (.tup [.sc (.int .i64 (⟨s.toArray⟩:ByteArray).size),.sc .nilIface],bid,.bld xe x1 (l++s))else none
  |_=>none):=rfl
 rw[h1,h2,h]
 simp only
 rw[x1p0 ⟨trivial,trivial,by rw[x18j];exact hl⟩,x18j]
 rfl
theorem c_bstrJ(d:Nat)(hs:FHs){bid:Id}{T:List UInt8}{m:Mem}(h:m.get bid=some (.bld xe x1 T))(hl:T.length<=1099511627776) :
 x14z (d+1) hs x3e [.ptr bid 0 0] m=some (Tx T,⟨[],m.next⟩):=by
 have h1:x14z (d+1) hs x3e [.ptr bid 0 0] m=(x188 xe x1 m.get [.ptr bid 0 0]).map λv=>(v,⟨[],m.next⟩):=by kernel_rfl
 have h2:x188 xe x1 m.get [.ptr bid 0 0]=(match m.get bid with
  |some (.bld t' e' l)=>if t'=xe/\e'=x1/\l.length<=1099511627776 then some (Tx l)else none
  |_=>none):=rfl
 rw[h1,h2,h]
 simp only
 rw[x1p0 ⟨trivial,trivial,hl⟩]
 rfl
theorem mkM_J(n:Int):mkM 0 [I n]=2:=rfl
theorem cap_J{n:Nat}{id:Id}{v o:Nat}(h:id.1<n):cAp (some n) (tR (.ptr id v o)) 2=true:=by
 simp[cAp,tR,h]
def entL(n:Nat)(x:Ent):List UInt8:=decM (x15l n x)++[32]++x.by_++[32]++x.tx++[10]
def x155:Nat->List Ent->List UInt8
 |_,[]=>[]
 |n,x::r=>entL n x++x155 (x15l n x) r
theorem x1h7(n:Nat){x:Ent}(h:Br10 x):(entL n x).length<=2100:=by
 have:=x1e4 (x15l n x)
 obtain⟨h1,h2⟩:=h
 unfold entL
 simp
 omega
theorem x1h8:∀(L:List Ent) (n:Nat),(∀x∈L,Br10 x)->(x155 n L).length<=2100*L.length
 |[],n,_=>by simp[x155]
 |x::r,n,h=>by
  have h1:=x1h7 n (h x (by simp))
  have h2:=x1h8 r (x15l n x) λy hy=>h y (x1p7 _ hy)
  unfold x155
  rw[x1pn,x1ph]
  omega
theorem x1h9(d:Nat){bid:Id}(hbid:bid.2.2=5){a:AV}{L:List Ent}(ha:Sl Ent.c a L)(hL:∀x∈L,Br10 x)(hl:L.length<=1000):∀(suf:List Ent) (k j n:Nat) (T:List UInt8) (m:Mem) (fc:Nat),L.drop k=suf->suf.length<j->n<998244353->T.length<=2100*k->k<=L.length->0<m.next->m.get bid=some (.bld xe x1 T) ->
 ∃m',x28 (x14z (d+2)) [] 0 j (.ptr bid 0 0) (I n) a (I L.length) (I k) m fc=some (.tup [Tx (T++x155 n suf),I 0],m')
 |[],k,j,n,T,m,fc,hd,hj,hn,hT,hkl,hnx,hB=>by
  obtain⟨j,rfl⟩:∃i,j=i+1:=⟨j-1,by simp at hj;omega⟩
  have hk:¬((k:Int)<(L.length:Int)):=by have:=x1rb.mp hd;omega
  simp only[x28]
  unfold x7b x9f
  simp only[x16y,hk,x1pc,x14w,x15k,c_bstrJ (d+1) [] hB (by omega)]
  exact⟨_,by rw[x155,x1qy]⟩
 |e::r,k,j,n,T,m,fc,hd,hj,hn,hT,hkl,hnx,hB=>by
  obtain⟨j,rfl⟩:∃i,j=i+1:=⟨j-1,by simp at hj;omega⟩
  obtain⟨hk,he,hd⟩:=x1aa hd
  have hk':(k:Int)<(L.length:Int):=by omega
  have ix:=ha.ix Ent.len hk
  have ld:=ld_ent (m:=m) hk
  rw[he]at ld
  have hbr:=hL e (by rw[<-he];exact x1qb hk)
  have w1:w64 ((k:Int)+1)=((k+1:Nat):Int):=by rw[x16a (by omega) (by omega)];omega
  obtain⟨m1,hm1⟩:∃m1:Mem,m1=m.new (0,fc+3,8) (.row [Tx [],Tx []] 0 false):=⟨_,rfl⟩
  have g1:m1.get (0,fc+3,8)=some (.row [Tx [],Tx []] 0 false):=by rw[hm1,Mem.get_new,x1p0 rfl]
  obtain⟨m2,hm2⟩:∃m2:Mem,m2=m1.set (0,fc+3,8) (.row (x15h [Tx [],Tx []] 0 (AV.agg e.c).cells) 0 false):=⟨_,rfl⟩
  have g2:m2.get (0,fc+3,8)=some (.row e.c 0 false):=by rw[hm2,Mem.get_set,x1p0 rfl];rfl
  have hne:bid≠(0,fc+3,8):=by rintro rfl;cases hbid
  have gB:m2.get bid=some (.bld xe x1 T):=by rw[hm2,Mem.get_set,x1oz hne,hm1,Mem.get_new,x1oz hne];exact hB
  have n2:m2.next=m.next:=by rw[hm2,hm1];rfl
  have l2:sLd true 2 (.ptr (0,fc+3,8) 0 0) m2=some (.agg e.c):=by rw[x195 g2];rfl
  have l0:sLd false 1 (.ptr (0,fc+3,8) 0 0) m2=some (Tx e.by_):=by rw[x195 g2];rfl
  have l1:sLd false 1 (.ptr (0,fc+3,8) 0 1) m2=some (Tx e.tx):=by rw[x195 g2];rfl
  have hlt:=x173 hn e
  have hit:=λm=>w_Itoa (d+1) (n:=(x15l n e:Nat)) (by omega) (by omega) m
  have hd:=hd
  have hdl:=x1e4 (x15l n e)
  obtain⟨b1,b2⟩:=hbr
  have hel:=x1h7 n (x:=e) ⟨b1,b2⟩
  simp only[x28]
  unfold x7b
  simp only[x16y,hk',x1pb,x15f,x14w,ix,ld,x1ds,x1ae]
  rw[<-hm1,x180 (z:=2) (x:=.agg e.c) g1 rfl (by simp) rfl,<-hm2,show(AV.sc (.string ⟨#[10]⟩))=Tx [10]from rfl,show(AV.sc (.string ⟨#[32]⟩))=Tx [32]from rfl]
  simp only[l2,x14w,x1h5 (d+1) hn (Br10.sh (x:=e) ⟨b1,b2⟩),hit,x1dr,x1q5,x1qn,l0,l1]
  rw[x181 _ _ (by(try simp only[x1pn,x1ph,x1qa]);omega)]
  simp only[x14w]
  rw[x181 _ _ (by(try simp only[x1pn,x1ph,x1qa]);omega)]
  simp only[x14w]
  rw[x181 _ _ (by(try simp only[x1pn,x1ph,x1qa]);omega)]
  simp only[x14w]
  rw[x181 _ _ (by(try simp only[x1pn,x1ph,x1qa]);omega)]
  simp only[x14w]
  rw[x181 _ _ (by(try simp only[x1pn,x1ph,x1qa]);omega)]
  simp only[x14w]
  rw[show decM (x15l n e)++[32]++e.by_++[32]++e.tx++[10]=entL n e from rfl,c_wstrJ (d+1) [] gB (by omega)]
  simp only[x14w,mkM_J,cap_J (n:=m2.next) (id:=(0,fc+3,8)) (by show 0<m2.next;omega),show Nat.ble 1 2=true from rfl,x1s6,x15p,x17f,w1]
  obtain⟨m',h'⟩:=x1h9 d hbid ha hL hl r (k+1) j (x15l n e) (T++entL n e) (m2.set bid (.bld xe x1 (T++entL n e))) (fc+23) hd (by simp at hj;omega) hlt (by rw[x1pn];omega) (by omega) (by show 0<m2.next;omega) (by rw[Mem.get_set,x1p0 rfl])
  refine⟨m',?_⟩
  rw[h',x155,x1qi]
theorem w_Journal(d:Nat){a:AV}{L:List Ent}(ha:Sl Ent.c a L)(hL:∀x∈L,Br10 x)(hl:L.length<=1000)(m:Mem):x14q (x14z (d+7)) x1o [a] m=some (.tup [Tx (if x16z L=0 then x155 1 L else[]),I (x16z L)],m):=by
 refine Ans.call0_tup (m:=m) ?_ (by simp[ha.still]) rfl
 unfold Ans
 rw[xxh]
 unfold x8l x7c
 dsimp only
 simp only[mem0,w_alone d ha hL (by omega),x14w,sNe_I]
 by_cases he:x16z L=0
 .simp only[he,x1pb,x1pe,x15k,x1pk]
  unfold x9g sBld
  simp only[ha.len x16u,x14w]
  exact x1h9 (d+4) (bid:=(0,0+7,5)) rfl ha hL hl L 0 NN 1 [] _ _ rfl (by rw[x197];omega) (by omega) (by simp) (by omega) (by show 0<0+1;omega) (by rw[Mem.get_new,x1p0 rfl];rfl)
 .simp only[he,x1pc,x1pa,x15f,x1p9]
  exact⟨_,rfl⟩
end Go.Ix
