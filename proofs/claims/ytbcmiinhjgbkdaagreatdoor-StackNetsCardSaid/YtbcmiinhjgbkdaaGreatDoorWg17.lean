import Derived.Test.YtbcmiinhjgbkdaaGreatDoorWg4
import Derived.Test.YtbcmiinhjgbkdaaGreatDoorWg9
import Derived.Test.YtbcmiinhjgbkdaaGreatDoorWg1
import Derived.ProofKit
import Derived.Test.YtbcmiinhjgbkdaaGreatDoorWg6
import Derived.Test.YtbcmiinhjgbkdaaGreatDoorWg3
import Derived.Test.YtbcmiinhjgbkdaaGreatDoorWg13
import Derived.Test.YtbcmiinhjgbkdaaGreatDoorWg15
set_option linter.unusedSimpArgs false
namespace Go.Ix
open Go.Proofs
theorem at0_app{l:List Int}{x:Int}{k:Nat}:at0 (l++[x]) k=if k<l.length then at0 l k else if k=l.length then x else 0:=by
 unfold at0
 simp only[x1mu]
 by_cases h:k<l.length
 .rw[x1m1 h,x1ok h]
 .rw[x1m0 h,x1ol (by omega)]
  by_cases h2:k=l.length
  .rw[x1m1 h2,h2];simp
  .rw[x1m0 h2,x1p8 (by simp;omega)];rfl
def OutIn(k:Int)(out:List Int):Prop:=∀i,-(2048*k)<=at0 out i/\at0 out i<=2048*k
theorem OutIn.app{k:Nat}{out:List Int}(h:OutIn k out){x:Int}(h1:-(2048*((k+1:Nat):Int))<=x)(h2:x<=2048*((k+1:Nat):Int)):OutIn ((k+1:Nat):Int) (out++[x]):=by
 intro i
 rw[at0_app]
 have:=h i
 split
 .omega
 .split<;>omega
end Go.Ix
set_option linter.unusedVariables false
namespace Go.Ix
open Go.Proofs
def Edge.same(a b:Edge):Bool:=decide (a.fr=b.fr)&&(decide (a.to=b.to)&&(decide (a.jump=b.jump)&&decide (a.wt=b.wt)))
theorem Edge.same_iff{a b:Edge}:a.same b=true↔a=b:=by
 cases a;cases b
 simp[Edge.same]
theorem Edge.still1(e:Edge):e.c.all Go.Ix.still1=true:=rfl
end Go.Ix
set_option maxRecDepth 10000
namespace Go.Ix
open Go.Proofs
def GkL{α:Type}(z:Nat)(enc:α->List AV)(ok:Id->Prop)(m:Mem)(a:AV)(l:List α):Prop:=
 a=.slit (l.flatMap enc) l.length true\/∃id ver,ok id/\a=.sref id ver 0 l.length z true/\m.get id=some (.row (l.flatMap enc) ver false)
theorem GkL.frame{α:Type}{z:Nat}{enc:α->List AV}{a:AV}{l:List α}{ok:Id->Prop}{m m':Mem}(h:GkL z enc ok m a l)(hm:∀id,ok id->m'.get id=m.get id):GkL z enc ok m' a l:=by
 rcases h with h|⟨id,ver,h0,h1,h2⟩
 .exact Or.inl h
 .exact Or.inr ⟨id,ver,h0,h1,by rw[hm _ h0];exact h2⟩
theorem GkL.app{α:Type}{z:Nat}{enc:α->List AV}{a:AV}{l:List α}(hz:∀x,(enc x).length=z)(h0:0<z){bytes:Nat}{ok:Id->Prop}{id0:Id}{m:Mem}(ht:ok id0)(hr:x11c (l.length+1) bytes)(h:GkL z enc ok m a l)(x:α) :
 ∃a' m',(∀{R:Type} (k:AV->Mem->Option R),sApp z bytes id0 (some (enc x,1)) a m k=k a' m')/\GkL z enc ok m' a' (l++[x])/\m'.next=m.next/\∀j:Id,¬ok j->m'.get j=m.get j:=by
 have hl:=x135 hz l
 rcases h with rfl|⟨id,ver,h1,rfl,hg⟩
 .refine⟨.sref id0 0 0 (l.length+1) z true,m.new id0 (.row (l.flatMap enc++enc x) 0 false),λk=>?_,Or.inr ⟨id0,0,ht,by simp,by simp⟩,rfl,λj hj=>?_⟩
  .simp only[sApp]
   rw[x1m1 (by omega),x1m0 (by omega),x1m1 hr,x1mb (by omega)]
  .rw[Mem.get_new,x1m0 (by rintro rfl;exact hj ht)]
 .refine⟨.sref id (ver+1) 0 (l.length+1) z true,m.set id (.row (l.flatMap enc++enc x) (ver+1) false),λk=>?_,Or.inr ⟨id,ver+1,h1,by simp,by simp⟩,rfl,λj hj=>?_⟩
  .simp only[sApp,hg]
   rw[x1m1 ⟨trivial,trivial,by omega,hr⟩,x1m0 (by omega),x1m0 (by rw[hl,x1nr];omega),x1mi,x1mb (by omega)]
  .rw[Mem.get_set,x1m0 (by rintro rfl;exact hj h1)]
theorem GkL.frz{α:Type}{z:Nat}{enc:α->List AV}{a:AV}{l:List α}(hz:∀x,(enc x).length=z)(hs:∀x,(enc x).all still1=true){ok:Id->Prop}{k:Nat}{m:Mem}(h:GkL z enc ok m a l):∃a',Sl enc a' l/\Go.Ix.frz m.get (k+2) a=some a':=by
 have hl:=x135 hz l
 rcases h with rfl|⟨id,ver,_,rfl,hg⟩
 .have h1:Sl enc (.slit (l.flatMap enc) l.length true) l:=Or.inr ⟨true,rfl⟩
  have h2:still (.slit (l.flatMap enc) l.length true)=true:=by simp[still,x13c hs l]
  exact⟨_,h1,x150 m.get k h2⟩
 .refine⟨.slit (l.flatMap enc) l.length false,Sl.lit l false,?_⟩
  have:=x15m (objs:=m.get) (id:=id) (cs:=l.flatMap enc) (ver:=ver) (off:=0) (n:=l.length) (z:=z) (k:=k) (f:=false) (x:=true) hg (by omega) (by
   rw[x1mi,x1mb (by omega)];exact x13c hs l)
  rw[x1mi,x1mb (by omega)]at this
  exact this
theorem x1eu:∀ws:List (List UInt8),x158 (ws.flatMap strE)=some (ws.map λw=>⟨w.toArray⟩)
 |[]=>rfl
 |w::r=>by
  show(x158 (r.flatMap strE)).map (λl=>(⟨w.toArray⟩:ByteArray)::l)=_
  rw[x1eu r];rfl
theorem w_Join(d:Nat){x:AV}{ws:List (List UInt8)}(hx:Sl strE x ws)(h1:(x123 [32] ws).length<=1099511627776)(h2:ws.length<=1099511627776)(m:Mem):x10o (x10p (d+1)) xb9 [x,Tx [32]] m=some (Tx (x123 [32] ws),m):=by
 have hstx:still x=true:=by
  rcases hx with ⟨rfl,-⟩|⟨b,rfl⟩
  .rfl
  .simp[still,x13c x172 ws]
 refine Ans.call0 (m:=m) ?_ (by simp only[x1n4,x1oz,hstx];rfl) rfl
 have h:x10p (d+1) [] xb9 [x,Tx [32]] mem0=(tell5 mem0.get [x,Tx [32]]).map λv=>(v,mem0):=by kernel_rfl
 unfold Ans
 rw[h]
 have hl:=x135 x13p ws
 have he:∃n,n=ws.length/\elems mem0.get 1 x=some (ws.flatMap strE,n):=by
  rcases hx with ⟨rfl,rfl⟩|⟨b,rfl⟩
  .exact⟨0,rfl,rfl⟩
  .refine⟨_,rfl,?_⟩
   show(if ws.length*1<=(ws.flatMap strE).length then some ((ws.flatMap strE).take (ws.length*1),ws.length)else none)=_
   rw[x1m1 (by omega),x1mb (by omega)]
 obtain⟨n,hn,he⟩:=he
 have hm:(ws.map λw=>(⟨w.toArray⟩:ByteArray)).map (λs=>s.data.toList)=ws:=by
  rw[List.map_map]
  conv=>rhs;rw[<-List.map_id ws]
  apply x1q3
  intro a _;rfl
 have h3:tell5 mem0.get [x,Tx [32]]=match elems mem0.get 1 x with
  |some (cs,n)=>match x158 cs with
   |some l=>if(x123 [32] (l.map (·.data.toList))).length<=1099511627776/\n<=1099511627776 then some (.sc (.string ⟨(x123 [32] (l.map (·.data.toList))).toArray⟩))else none
   |none=>none
  |none=>none:=rfl
 rw[h3,he]
 dsimp only
 rw[x1eu]
 dsimp only
 rw[hm,x1m1 ⟨h1,by omega⟩]
 exact⟨_,rfl⟩
def I64(n:Int):Prop:=-9223372036854775808<=n/\n<=9223372036854775807
def Edge.i64(e:Edge):Prop:=I64 e.fr/\I64 e.to/\I64 e.jump/\I64 e.wt
theorem x1bh:∀(k u:Nat),(digF k u).length<=k
 |0,u=>x1m8 _
 |k+1,u=>by
  unfold digF
  split
  .simp
  .have:=x1bh k (u / 10)
   simp;omega
theorem x17z(n:Int):(decM n).length<=21:=by
 unfold decM
 split
 .have:=x1bh 20 n.natAbs
  simp;omega
 .have:=x1bh 20 n.toNat
  omega
theorem c_wstr(d:Nat)(hs:FHs){bid:Id}{T s:List UInt8}{m:Mem}(h:m.get bid=some (.bld xb x1 T))(hl:T.length+s.length<=1099511627776) :
 x10p (d+1) hs x42 [.ptr bid 0 0,Tx s] m=some (.tup [I s.length,.sc .nilIface],m.set bid (.bld xb x1 (T++s))):=by
 have h1:x10p (d+1) hs x42 [.ptr bid 0 0,Tx s] m=(x14s xb x1 m.get [.ptr bid 0 0,Tx s]).map λp=>(p.1,m.set p.2.1 p.2.2):=by kernel_rfl
 have h2:x14s xb x1 m.get [.ptr bid 0 0,Tx s]=(match m.get bid with
  |some (.bld t' e' l)=>if t'=xb/\e'=x1/\l.length+(⟨s.toArray⟩:ByteArray).size<=1099511627776 then some (.tup [.sc (.int .i64 (⟨s.toArray⟩:ByteArray).size),.sc .nilIface],bid,.bld xb x1 (l++s))else none
  |_=>none):=rfl
 rw[h1,h2,h]
 simp only
 rw[x1m1 ⟨trivial,trivial,by rw[x14i];exact hl⟩,x14i]
 rfl
theorem c_bstr(d:Nat)(hs:FHs){bid:Id}{T:List UInt8}{m:Mem}(h:m.get bid=some (.bld xb x1 T))(hl:T.length<=1099511627776) :
 x10p (d+1) hs x3y [.ptr bid 0 0] m=some (Tx T,⟨[],m.next⟩):=by
 have h1:x10p (d+1) hs x3y [.ptr bid 0 0] m=(x14r xb x1 m.get [.ptr bid 0 0]).map λv=>(v,⟨[],m.next⟩):=by kernel_rfl
 have h2:x14r xb x1 m.get [.ptr bid 0 0]=(match m.get bid with
  |some (.bld t' e' l)=>if t'=xb/\e'=x1/\l.length<=1099511627776 then some (Tx l)else none
  |_=>none):=rfl
 rw[h1,h2,h]
 simp only
 rw[x1m1 ⟨trivial,trivial,hl⟩]
 rfl
theorem x1ev:∀(l:List Int),∀w∈l.map decM,w.length<=21:=λl w hw=>by
 obtain⟨x,-,rfl⟩:=x1mz.1 hw
 exact x17z x
theorem x1bi{K:Nat}:∀ws:List (List UInt8),(∀w∈ws,w.length<=K)->(x123 [32] ws).length<=(K+1)*ws.length
 |[],_=>by simp[x123]
 |[x],h=>by
  have:=h x (by simp)
  simp[x123];omega
 |x::y::r,h=>by
  have h1:=h x (by simp)
  have h2:=x1bi (y::r) λw hw=>h w (by simp[x1ma.1 hw])
  rw[show x123 [32] (x::y::r)=x++([32]++x123 [32] (y::r))from rfl]
  simp only[x1mk,x1mf,x1mt,Nat.mul_succ]at h2 ⊢
  omega
def rowT(ws:List (List UInt8))(ns:List Int):List UInt8:=x123 [32] (ws++ns.map decM)++[10]
def okL8:Id->Prop:=λid=>id.2.2=17
theorem l_line8(d:Nat)(hs:FHs)(u:Nat){bid:Id}(hb:¬okL8 bid){ns:List Int}(hn:∀n∈ns,I64 n)(hl:ns.length<=10){ws:List (List UInt8)}(hw:∀w∈ws,w.length<=100000)(hwl:ws.length<=10){T:List UInt8}(hT:T.length<=1000000):∀(suf:List Int) (i j:Nat) (t:AV) (m:Mem) (fc:Nat),ns.drop i=suf->suf.length<j->GkL 1 strE okL8 m t (ws++(ns.take i).map decM)->m.get bid=some (.bld xb x1 T) ->
 ∃m',x2y (x10p (d+1)) hs u j t (.ptr bid 0 0) (.slit (ns.flatMap intE) ns.length true) (I ns.length) (I i) m fc=some (.tup [],m')/\m'.get bid=some (.bld xb x1 (T++rowT ws ns))/\m'.next=m.next/\∀j:Id,j≠bid->¬okL8 j->m'.get j=m.get j:=by
 have hx:Ints (.slit (ns.flatMap intE) ns.length true) ns:=.inr ⟨true,rfl⟩
 intro suf
 induction suf with
 |nil=>
  intro i j t m fc hd hj hG hB
  obtain⟨j,rfl⟩:∃k,j=k+1:=⟨j-1,by simp at hj;omega⟩
  have hii:=x1na.mp hd
  have hlt:¬((i:Int)<(ns.length:Int)):=by omega
  rw[x1mb hii]at hG
  obtain⟨y,hy,hf⟩:=hG.frz (k:=4) x13p x172
  have hlw:∀w∈ws++ns.map decM,w.length<=100021:=λw hm=>by
   rcases x1nf.1 hm with h|h
   .have:=hw w h;omega
   .have:=x1ev ns w h;omega
  have h1:=x1bi _ hlw
  rw[x1mk,x1o1]at h1
  have hjl:(x123 [32] (ws++ns.map decM)).length<=100022*20:=x1n7 h1 (Nat.mul_le_mul_left _ (by omega))
  have hjn:=λm=>w_Join d hy (by omega) (by rw[x1mk,x1o1];omega) m
  have hth:=x1bc (m:=m) (l:=[t,Tx [32]]) (l':=[y,Tx [32]]) (by
   simp only[x1n9,x1of]
   rw[show Go.Ix.frz m.get deep t=some y from hf]
   rfl) (by simp only[x1n4,x1oz,hy.still];rfl) hjn
  obtain⟨m1,hm1⟩:∃m1:Mem,m1=⟨x12o ([t,Tx [32]].flatMap (reach m.get deep)) m.hp,m.next⟩:=⟨_,rfl⟩
  have hin:∀i∈[t,Tx [32]].flatMap (reach m.get deep),okL8 i:=λi hi=>by
   rw[x1mj,x1mj,x1nx,x1n0,x1nf]at hi
   rcases hi with h|h
   .rcases hG with rfl|⟨id,ver,h0,rfl,hg⟩
    .cases h
    .have h':i∈Go.Ix.reach m.get (4+2) (.sref id ver 0 (ws++ns.map decM).length 1 true):=h
     rw[x1ef hg (x13c x172 _),x1o8]at h'
     rw[h'];exact h0
   .cases h
  have e1:∀j:Id,¬okL8 j->m1.get j=m.get j:=λj hj=>by rw[hm1];exact x1bd λh=>hj (hin j h)
  rw[<-hm1]at hth
  have hB1:m1.get bid=some (.bld xb x1 T):=by rw[e1 _ hb];exact hB
  have hwst:=c_wstr d hs (s:=x123 [32] (ws++ns.map decM)++[10]) hB1 (by simp;omega)
  simp only[x2y]
  unfold x75 xb8
  simp only[x11t,hlt,x1m9,x10r,x116]
  rw[show(AV.sc (.string ⟨#[32]⟩))=Tx [32]from rfl,show(AV.sc (.string ⟨#[10]⟩))=Tx [10]from rfl,hth]
  simp only[x10r]
  rw[x136 _ _ (by simp;omega)]
  simp only[x10r,hwst]
  refine⟨_,rfl,by rw[Mem.get_set,x1m1 rfl];rfl,by rw[hm1];rfl,λj h1 h2=>by rw[Mem.get_set,x1m0 h1];exact e1 j h2⟩
 |cons e suf ih=>
  intro i j t m fc hd hj hG hB
  obtain⟨j,rfl⟩:∃k,j=k+1:=⟨j-1,by simp at hj;omega⟩
  obtain⟨hi,hwe,hd1⟩:=x13a hd
  have hlt:(i:Int)<(ns.length:Int):=by omega
  have hix:=hx.ix x1au hi
  rw[hd]at hix
  have hbe:=hn e (by rw[<-hwe];exact x1nc hi)
  have hit:=λm=>w_Itoa d hbe.1 hbe.2 m
  have w7:w64 ((i:Int)+1)=((i+1:Nat):Int):=by rw[x11k (by omega) (by omega)];omega
  obtain⟨a',m1,e1,G1,nx1,fr1⟩:=GkL.app (ok:=okL8) (l:=ws++(ns.take i).map decM) (bytes:=16) (id0:=(u,fc+8,17)) x13p (by omega) rfl (by rw[x1mk,x1o1,x1ni];unfold x11c;omega) hG (decM e)
  have el:∀objs,elems objs 1 (.slit [Tx (decM e)] 1 true)=some (strE (decM e),1):=λ_=>rfl
  simp only[x2y]
  unfold x75
  simp only[x11t,hlt,x1m6,x10r,x112,hix,x1mj,intE,x1np,x1od,x12c,rd_f,List.head?_cons,hit,x1b6,el]
  rw[e1]
  simp only[x12k,w7,x10r]
  obtain⟨m2,k1,k2,k3,k4⟩:=ih (i+1) j a' m1 (fc+12) hd1 (by simp at hj;omega) (by
   rw[List.take_add_one,x1ml hi,hwe,List.map_append,<-x1o9]
   exact G1) (by rw[fr1 _ hb];exact hB)
  exact⟨m2,k1,k2,by rw[k3,nx1],λj h1 h2=>by rw[k4 j h1 h2,fr1 j h2]⟩
theorem c_line8(d:Nat)(hs:FHs){bid:Id}(hb:¬okL8 bid){ns:List Int}(hn:∀n∈ns,I64 n)(hl:ns.length<=10){ws:List (List UInt8)}(hw:∀w∈ws,w.length<=100000)(hwl:ws.length<=10){T:List UInt8}(hT:T.length<=1000000){m:Mem}(hB:m.get bid=some (.bld xb x1 T)) :
 ∃m',x10p (d+2) hs xr [.slit (ws.flatMap strE) ws.length true,.slit (ns.flatMap intE) ns.length true,.ptr bid 0 0] m=some (.tup [],m')/\m'.get bid=some (.bld xb x1 (T++rowT ws ns))/\m'.next=m.next+1/\∀j:Id,j≠bid->¬okL8 j->m'.get j=m.get j:=by
 rw[xuf]
 unfold x97 x76
 have hx:Ints (.slit (ns.flatMap intE) ns.length true) ns:=.inr ⟨true,rfl⟩
 dsimp only
 simp only[hx.len u_ints,x10r]
 obtain⟨m',k1,k2,k3,k4⟩:=l_line8 d hs m.next hb hn hl hw hwl hT ns 0 NN (.slit (ws.flatMap strE) ws.length true) ⟨m.hp,m.next+1⟩ (0+3) rfl (by rw[x12a];omega) (.inl (by simp)) hB
 exact⟨m',k1,k2,k3,k4⟩
end Go.Ix
