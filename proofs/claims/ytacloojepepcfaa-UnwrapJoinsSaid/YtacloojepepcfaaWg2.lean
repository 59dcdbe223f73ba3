import Derived.Test.YtacloojepepcfaaWg1
import Derived.Test.YtacloojepepcfaaWg0
import Derived.ProofKit
import Derived.Laws.StructEq
set_option linter.unusedSimpArgs false
set_option linter.unusedVariables false
namespace Go.Ix
open Go.Proofs
theorem z_slint:x34=[nilS]:=by kernel_rfl
theorem NN_3:∃j,NN=j+3:=⟨18446744073709551613,rfl⟩
theorem xgf(n:Nat)(h:n<=1000000):x83 n 8:=by unfold x83;omega
theorem a_Grow(d:Nat)(u:Nat){n:Int}(h0:0<n)(h1:n<=1000000):∃s m',x7v (d+1) [] x19 [nilS,I n] ⟨[],u⟩=some (.sref (u,s,22) 0 0 0 1 true,m')/\m'.get (u,s,22)=some (.row (x8d [I 0] n.toNat) 0 false)/\m'.next=u+1:=by
 refine⟨18,(⟨[],u+1⟩:Mem).new (u,18,22) (.row (x8d [I 0] n.toNat) 0 false),?_,by simp,rfl⟩
 rw[x6z]
 unfold x4d x3o x63 x62
 have hn:¬n<0:=by omega
 have hm:xd1 xbk 1 8 (I n)=some (x8d [I 0] n.toNat,n.toNat):=by
  simp only[xd1,asI,xcq]
  rw[xmv ⟨by omega,by omega,by omega⟩,xoa]
 have hlen:sLen Try.prog x7 nilS=some (I 0):=xew x8q
 have hA:∀(m:Mem) (K:AV->Mem->Option (AV×Mem)),sApp 1 8 (u,18,22) (some (x8d [I 0] n.toNat,n.toNat)) nilS m K=K (.sref (u,18,22) 0 0 n.toNat 1 true) (m.new (u,18,22) (.row (x8d [I 0] n.toNat) 0 false)):=by
  intro m K
  simp only[sApp]
  rw[xmw (by omega),xmv (xgf _ (by omega))]
 have hsl:∀id:Id,x98 Try.prog x7 (.sref id 0 0 n.toNat 1 true) none (some (I 0))=some (.sref id 0 0 0 1 true):=λid=>slice_hi (by omega) (by omega)
 simp(disch:=omega) [hn,cap_nil,xla,hm,hlen,h0,hA,hsl,x3n]
theorem Edge.still(e:Edge):e.c.all still1=true:=rfl
theorem xlc(d:Nat){a:AV}{l:List Int}(h:Ints a l)(hl:l.length<=1000000)(m:Mem):∃a',Ints a' l/\x7y (x7v (d+1)) x14 [a] m=some (a',m):=by
 have hr:x83 l.length 8:=by unfold x83;omega
 have he:=h.elems x8n
 by_cases h0:l=[]
 .subst h0
  refine⟨.slit [] 0 true,Sl.lit [] true,call0 (m':=⟨[],1⟩) (by simp[h.still]) ?_ rfl⟩
  rw[x68]
  unfold x27 x20
  have hr0:x83 0 8:=by unfold x83;omega
  simp[mem0,he,xj1 hr0]
 .have hq:l.length≠0:=by simpa using h0
  have hlen:=xaf x8n l
  refine⟨.slit (l.flatMap intE) l.length false,Sl.lit l false,xda (m':=(⟨[],1⟩:Mem).new (0,3,5) (.row (l.flatMap intE) 0 false)) (r:=.sref (0,3,5) 0 0 l.length 1 true) (by simp[h.still]) ?_ ?_⟩
  .rw[x68]
   unfold x27 x20
   simp[mem0,he,xj1 hr,hq,h0]
  .have:=xco (objs:=((⟨[],1⟩:Mem).new (0,3,5) (.row (l.flatMap intE) 0 false)).get) (id:=(0,3,5)) (cs:=l.flatMap intE) (ver:=0) (off:=0) (n:=l.length) (z:=1) (k:=4) (f:=false) (x:=true) (by simp) (by omega) (by
    rw[xnc,xn9 (by omega)];exact xbj xb6 l)
   rw[xnc,xn9 (by omega)]at this
   exact this
abbrev void:Int:=1000000000000
def x9y(r c n:Int):Int:=bif !(wi r 1 64)||!(wi c 1 64)then 2 else bif !decide (n=r*c)then 10 else 0
theorem mul64{r c:Int}(h1:wi r 1 64=true)(h2:wi c 1 64=true):1<=r*c/\r*c<=4096:=by
 have a:=wi_t h1
 have b:=wi_t h2
 have:=Int.mul_le_mul a.2 b.2 (by omega) (by omega)
 have:=Int.mul_le_mul a.1 b.1 (by omega) (by omega)
 omega
theorem w_sizeErr(d:Nat)(r c n:Int)(m:Mem):x7y (x7v (d+2)) x17 [I r,I c,I n] m=some (I (x9y r c n),m):=by
 refine Ans.call0 ?_ rfl rfl
 unfold Ans
 rw[x6u]
 unfold x49 x3f
 simp[mem0,xc1]
 cases c1:wi r 1 64
 .simp[x9y,c1]
 simp[xc1]
 cases c2:wi c 1 64
 .simp[x9y,c1,c2]
 have:=mul64 c1 c2
 simp(disch:=omega) [x9y,c1,c2]
 by_cases c3:n=r*c<;>simp[c3]
theorem xld(d:Nat)(r c n:Int)(m:Mem):x7y (x7v (d+2)) x15 [I r,I c,I n] m=some (I (x9y r c n),m):=by
 refine Ans.call0 ?_ rfl rfl
 unfold Ans
 rw[x6o]
 unfold x45 x3a
 simp[mem0,xcp]
 cases c1:wi r 1 64
 .simp[x9y,c1]
 simp[xcp]
 cases c2:wi c 1 64
 .simp[x9y,c1,c2]
 have:=mul64 c1 c2
 simp(disch:=omega) [x9y,c1,c2]
 by_cases c3:n=r*c<;>simp[c3]
theorem w_Mod(d:Nat){x y:Int}(h1:0<y)(h2:y<=1000000000000)(m:Mem):x7y (x7v (d+1)) x16 [I x,I y] m=some (I (x % y),m):=by
 refine Ans.call0 ?_ rfl rfl
 unfold Ans
 rw[x6r]
 unfold x48 x3d x5q
 have h3:x.tmod y=if 0<=x\/y ∣ x then x % y else x % y-y:=by
  have:=Int.tmod_eq_emod (a:=x) (b:=y)
  rw[this]
  split<;>omega
 have h4:=Int.emod_nonneg x (show y≠0 by omega)
 have h5:=Int.emod_lt_of_pos x h1
 simp[mem0,sRem_I (show y≠0 by omega)]
 rw[h3]
 split
 .rename_i h
  simp[x23,show ¬(x % y<0) by omega]
 .rename_i h
  have:x % y-y<0:=by omega
  simp(disch:=omega) [x23,this]
theorem xdb(d:Nat)(x:Int)(m:Mem):x7y (x7v (d+1)) xc [I x] m=some (B (decide (x=void)),m):=by
 refine Ans.call0 ?_ rfl rfl
 unfold Ans
 rw[x6t]
 unfold x3q x3e
 simp[mem0]
def Tell1(call:x7w)(f:AV)(p:Int->Bool):Prop:=∀(hs:FHs) (x:Int) (m:Mem),∃n,xb4 call hs 2 f [I x] m=some (B (p x),⟨m.hp,n⟩)
def badP(p:Int->Bool)(x:Int):Bool:=!decide (x=void)&&!(p x)
def x9d(p:Int->Bool)(l:List Int):Int:=bif l.any (badP p)then 2 else 0
def x88(p:Int->Bool)(r c:Int)(l:List Int):Int:=bif decide (x9y r c l.length=0)then x9d p l else x9y r c l.length
theorem xle(d:Nat){f:AV}{p:Int->Bool}(hf:Tell1 (x7v (d+1)) f p)(id:Id):xge (x7v (d+2)) (.clo xw [.ptr id 0 0]) id (.row [f] 0 false) (badP p):=by
 intro hs x m hg
 obtain⟨n,h⟩:=hf hs x ⟨m.hp,m.next+1⟩
 have hg2:(⟨m.hp,m.next+1⟩:Mem).get id=some (.row [f] 0 false):=hg
 have key:∃n,x7v (d+2) hs xw [I x,.ptr id 0 0] m=some (B (badP p x),⟨m.hp,n⟩):=by
  rw[x6x]
  unfold x4c x3k
  simp only[xdb,x7x,xa6]
  by_cases c:x=void
  .exact⟨m.next+1,by simp[c,badP]⟩
  .refine⟨n,?_⟩
   simp[c,badP,hg2,h]
 exact key
theorem xj6(d:Nat){f a:AV}{p:Int->Bool}{r c:Int}{l:List Int}(hf:Tell1 (x7v (d+1)) f p)(h1:f.cells=[f])(h2:f.one=true)(h3:still f=true)(ha:Ints a l)(hl:l.length<1000000)(m:Mem) :
 x7y (x7v (d+5)) xd [.agg [I r,I c,a],f] m=some (I (x9d p l),m):=by
 refine Ans.call0 ?_ (by simp[ha.still1,h3]) rfl
 unfold Ans
 rw[x6n]
 unfold x44 x39
 obtain⟨n,h⟩:=xl9 (d+2) [] ha hl (xle d hf (0,1,3)) (((⟨[],1⟩:Mem).new (0,0,2) (.row [I r,I c,a] 0 false)).new (0,1,3) (.row [f] 0 false)) (by simp)
 simp[mem0,ha.one,h1,h2,h]
 unfold x9d
 cases l.any (badP p)<;>simp
theorem w_mapErr(d:Nat){f a:AV}{p:Int->Bool}{r c:Int}{l:List Int}(hf:Tell1 (x7v (d+1)) f p)(h1:f.cells=[f])(h2:f.one=true)(h3:still f=true)(ha:Ints a l)(hl:l.length<1000000)(m:Mem) :
 x7y (x7v (d+6)) xk [.agg [I r,I c,a],f] m=some (I (x88 p r c l),m):=by
 refine Ans.call0 ?_ (by simp[ha.still1,h3]) rfl
 unfold Ans
 rw[x6h]
 unfold x3z x2u
 simp[mem0,ha.one,ha.len x8q,w_sizeErr]
 by_cases e:x9y r c l.length=0
 .simp[e,x88,xj6 d hf h1 h2 h3 ha hl]
 .simp[e,x88]
theorem xlf(p:Int->Bool)(x:Int)(r:List Int):x9d p (x::r)=bif badP p x then 2 else x9d p r:=by
 unfold x9d
 rw[List.any_cons]
 cases badP p x<;>rfl
theorem x8s:x8=[I 0,I 0,nilS]:=by kernel_rfl
theorem xgg(d:Nat){a:AV}{r c:Int}{l:List Int}(h:Ints a l)(hl:l.length<=1000000)(m:Mem):∃a',Ints a' l/\x7y (x7v (d+2)) xa [.agg [I r,I c,a]] m=some (.agg [I r,I c,a'],m):=by
 obtain⟨a',ha',hc⟩:=xlc d h hl (((⟨[],1⟩:Mem).new (0,0,1) (.row [I r,I c,a] 0 false)).new (0,1,2) (.row [I 0,I 0,nilS] 0 false))
 refine⟨a',ha',Ans.call0 ?_ (by simp[h.still1]) (by simp[ha'.still1])⟩
 unfold Ans
 rw[x6b]
 unfold x3t x29
 simp[mem0,h.one,x8s,hc,x8i,xb3,sLdP,h.clean,ha'.cells,ha'.one]
theorem e_awake:((x7v 30 [] x4g [] mem0).map (λp=>p.1))=some (B true):=by kernel_rfl
theorem xgh(m:Mem):x7y (x7v 30) x4g [] m=some (B true,m):=by
 have h:=e_awake
 rw[xmz]at h
 obtain⟨⟨r,m'⟩,h1,rfl⟩:=h
 exact call0 rfl h1 rfl
theorem at0_app{l:List Int}{x:Int}{k:Nat}:at0 (l++[x]) k=if k<l.length then at0 l k else if k=l.length then x else 0:=by
 unfold at0
 simp only[xnx]
 by_cases h:k<l.length
 .rw[xmv h,xp0 h]
 .rw[xmw h,xos (by omega)]
  by_cases h2:k=l.length
  .rw[xmv h2,h2];simp
  .rw[xmw h2,xpq (by simp;omega)];rfl
def OutIn(k:Int)(out:List Int):Prop:=∀i,-(2048*k)<=at0 out i/\at0 out i<=2048*k
theorem OutIn.app{k:Nat}{out:List Int}(h:OutIn k out){x:Int}(h1:-(2048*((k+1:Nat):Int))<=x)(h2:x<=2048*((k+1:Nat):Int)):OutIn ((k+1:Nat):Int) (out++[x]):=by
 intro i
 rw[at0_app]
 have:=h i
 split
 .omega
 .split<;>omega
theorem l_Ints(d:Nat)(hs:FHs){a b:AV}{l k:List Int}(ha:Ints a l)(hb:Ints b k)(he:l.length=k.length)(hl:l.length<=1000000):∀(suf suk:List Int) (i j:Nat) (m:Mem) (fc:Nat),l.drop i=suf->k.drop i=suk->suf.length<j ->
 ∃m',x1j (x7v d) hs 0 j a b (I i) m fc=some (B (decide (suf=suk)),m'):=by
 intro suf
 induction suf with
 |nil=>
  intro suk i j m fc hd hk hj
  obtain⟨j,rfl⟩:∃i,j=i+1:=⟨j-1,by simp at hj;omega⟩
  have hd0:=xp5.mp hd
  have hsk:suk=[]:=by rw[<-hk];exact xp5.mpr (by omega)
  have hi:¬((i:Int)<(l.length:Int)):=by omega
  simp only[x1j]
  unfold x2s
  simp[ha.len x8q,hi,x56,hsk]
 |cons x r ih=>
  intro suk i j m fc hd hk hj
  obtain⟨j,rfl⟩:∃i,j=i+1:=⟨j-1,by simp at hj;omega⟩
  obtain⟨hi,hie,hd⟩:=xe0 hd
  have hi2:i<k.length:=by omega
  have hk2:suk=at0 k i::k.drop (i+1):=by rw[<-hk,xd9 hi2,x8j hi2]
  have hi':(i:Int)<(l.length:Int):=by omega
  have ix:=ha.ix x8n hi
  have ix2:=hb.ix x8n hi2
  have e1:at0 l i=x:=by rw[x8j hi,hie]
  simp only[x1j]
  unfold x2s
  simp(disch:=omega) [ha.len x8q,hi',ix,ix2,xa7,e1,hk2]
  by_cases c:x=at0 k i
  .obtain⟨m',h'⟩:=ih _ (i+1) j m (fc+16) hd rfl (by simp at hj;omega)
   simp(disch:=omega) [c]
   exact⟨m',h'⟩
  .simp[c]
theorem w_Ints(d:Nat){a b:AV}{l k:List Int}(ha:Ints a l)(hb:Ints b k)(hl:l.length<=1000000)(m:Mem):x7y (x7v (d+1)) x13 [a,b] m=some (B (decide (l=k)),m):=by
 refine Ans.call0 ?_ (by simp[ha.still,hb.still]) rfl
 unfold Ans
 rw[x6g]
 unfold x3y x2t x57
 by_cases he:l.length=k.length
 .obtain⟨m',h'⟩:=l_Ints d [] ha hb he hl l k 0 NN ⟨[],1⟩ 7 rfl rfl (by rw[x9s];omega)
  simp[mem0,ha.len x8q,hb.len x8q,he]
  exact⟨m',h'⟩
 .have:¬(l=k):=λe=>he (by rw[e])
  have he2:¬((l.length:Int)=(k.length:Int)):=by omega
  simp[mem0,ha.len x8q,hb.len x8q,he2,this]
end Go.Ix
namespace Go.Ix
open Go.Proofs
variable{P:Program}
end Go.Ix
