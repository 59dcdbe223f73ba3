import Derived.Test.YtacloojepepcfaaGreatDoorWg1
import Derived.Test.YtacloojepepcfaaGreatDoorWg11
set_option linter.unusedSimpArgs false
set_option linter.unusedVariables false
namespace Go.Ix
open Go.Proofs
def Edge.same(a b:Edge):Bool:=decide (a.fr=b.fr)&&(decide (a.to=b.to)&&(decide (a.jump=b.jump)&&decide (a.wt=b.wt)))
theorem Edge.same_iff{a b:Edge}:a.same b=true↔a=b:=by
 cases a;cases b
 simp[Edge.same]
theorem part4(w0 w1 w2 w3:Int):∀o∈[0,1,2,3],xp2 Tryz.prog (part xpa #[.int .i64 w0,.int .i64 w1,.int .i64 w2,.int .i64 w3] o)=some (.int .i64 ([w0,w1,w2,w3].getD o 0)):=by
 intro o ho
 simp only[x186,x1bd,or_false]at ho
 rcases ho with rfl|rfl|rfl|rfl<;>kernel_rfl
theorem eq_edge(x y:Operand)(a b:Edge):sBin Tryz.prog .neq x18 x y (.agg a.c) (.agg b.c)=some (B (!(a.same b))):=by
 refine x14e (xs:=[.int .i64 a.fr,.int .i64 a.to,.int .i64 a.jump,.int .i64 a.wt]) (ys:=[.int .i64 b.fr,.int .i64 b.to,.int .i64 b.jump,.int .i64 b.wt]) (by kernel_rfl) ?_ ⟨a.c,rfl⟩ _ _ rfl rfl
 refine(eq_ints (offs:=[0,1,2,3]) (ga:=λo=>[a.fr,a.to,a.jump,a.wt].getD o 0) (gb:=λo=>[b.fr,b.to,b.jump,b.wt].getD o 0) (by kernel_rfl) (by kernel_rfl) (by kernel_rfl) λo ho=>⟨part4 _ _ _ _ o ho,part4 _ _ _ _ o ho⟩).trans ?_
 simp[Edge.same,List.getD]
 by_cases h0:a.fr=b.fr<;>by_cases h1:a.to=b.to<;>by_cases h2:a.jump=b.jump<;>by_cases h3:a.wt=b.wt<;>simp[h0,h1,h2,h3]
theorem l_SameNet(d:Nat)(hs:FHs){n:Int}{a b:AV}{l k:List Edge}(ha:Sl Edge.c a l)(hb:Sl Edge.c b k)(he:l.length=k.length)(hl:l.length<=1000000):∀(suf suk:List Edge) (i j:Nat) (m:Mem) (fc:Nat),l.drop i=suf->k.drop i=suk->suf.length<j ->
 m.get (0,0,2)=some (.row [I n,a] 0 false)->m.get (0,1,3)=some (.row [I n,b] 0 false) ->
 ∃m' r,x2k (xow d) hs 0 j (.ptr (0,0,2) 0 0) (.ptr (0,1,3) 0 0) (I i) m fc=some (B r,m')/\(r=true↔suf=suk):=by
 intro suf
 induction suf with
 |nil=>
  intro suk i j m fc hd hk hj g1 g2
  obtain⟨j,rfl⟩:∃i,j=i+1:=⟨j-1,by simp at hj;omega⟩
  have hd0:=x19a.mp hd
  have hsk:suk=[]:=by rw[<-hk];exact x19a.mpr (by omega)
  have hi:¬((i:Int)<(l.length:Int)):=by omega
  refine⟨m,true,?_,by simp[hsk]⟩
  simp only[x2k]
  unfold x5t
  simp[g1,ha.len xqf,hi,x8w]
 |cons x r ih=>
  intro suk i j m fc hd hk hj g1 g2
  obtain⟨j,rfl⟩:∃i,j=i+1:=⟨j-1,by simp at hj;omega⟩
  obtain⟨hi,hie,hd⟩:=xrx hd
  have hi2:i<k.length:=by omega
  have hk2:suk=k[i]::k.drop (i+1):=by rw[<-hk,xu7 hi2]
  have hi':(i:Int)<(l.length:Int):=by omega
  have ix:=ha.ix Edge.len hi
  have ix2:=hb.ix Edge.len hi2
  have ld:=xuw (m:=m) Edge.len (by omega) hi
  have ld2:=xuw (m:=m) Edge.len (by omega) hi2
  rw[hie]at ld
  simp only[x2k]
  unfold x5t
  cases c:x.same k[i]
  .refine⟨m,false,?_,?_⟩
   .simp[g1,g2,ha.len xqf,hi',ix,ix2,ld,ld2,eq_edge,c]
   .rw[hk2]
    constructor
    .intro h;cases h
    .intro h
     injection h with h1 h2
     rw[Edge.same_iff.mpr h1]at c;cases c
  .obtain⟨m',r',h1,h2⟩:=ih _ (i+1) j m (fc+19) hd rfl (by simp at hj;omega) g1 g2
   refine⟨m',r',?_,?_⟩
   .simp(disch:=omega) [g1,g2,ha.len xqf,hi',ix,ix2,ld,ld2,eq_edge,c]
    exact h1
   .rw[h2,hk2,Edge.same_iff.mp c,List.cons_inj_right]
theorem xza(d:Nat){n n':Int}{a b:AV}{l k:List Edge}(ha:Sl Edge.c a l)(hb:Sl Edge.c b k)(hl:l.length<=1000000)(m:Mem) :
 ∃r,xox (xow (d+1)) x11 [.agg [I n,a],.agg [I n',b]] m=some (B r,m)/\(r=true↔n=n'/\l=k):=by
 by_cases hn:n=n'
 rotate_left
 .refine⟨false,Ans.call0 ?_ (by simp[ha.still1,hb.still1]) rfl,by simp[hn]⟩
  unfold Ans
  rw[x89]
  unfold x2z x2l
  simp[mem0,ha.one,hb.one,hn]
 subst hn
 by_cases he:l.length=k.length
 rotate_left
 .have he2:¬((l.length:Int)=(k.length:Int)):=by omega
  refine⟨false,Ans.call0 ?_ (by simp[ha.still1,hb.still1]) rfl,?_⟩
  .unfold Ans
   rw[x89]
   unfold x2z x2l
   simp[mem0,ha.one,hb.one,ha.len xqf,hb.len xqf,he2]
  .constructor
   .intro h;cases h
   .intro h;exact absurd (by rw[h.2]) he
 obtain⟨m',r,h1,h2⟩:=l_SameNet d [] (n:=n) ha hb he hl l k 0 NN (((⟨[],1⟩:Mem).new (0,0,2) (.row [I n,a] 0 false)).new (0,1,3) (.row [I n,b] 0 false)) 18 rfl rfl (by rw[xq7];omega) (by simp) (by simp)
 refine⟨r,Ans.call0 ?_ (by simp[ha.still1,hb.still1]) rfl,by simp[h2]⟩
 unfold Ans
 rw[x89]
 unfold x2z x2l x8x
 simp[mem0,ha.one,hb.one,ha.len xqf,hb.len xqf,he]
 exact⟨m',h1⟩
theorem Edge.still1(e:Edge):e.c.all Go.Ix.still1=true:=rfl
theorem mkLit_4{id:Id}{a b c d:Int}{m:Mem}{R:Type}(k:AV->Mem->Option R):xpj xc [(0,4,.agg [I a,I b,I c,I d])] 1 4 id m k=k (.slit [I a,I b,I c,I d] 1 true) m:=by
 simp[xpj,xrc,xpw,xsa,x1ah,xp7]
theorem x125(a b c d:Int):xp9 xc [(0,1,I a),(1,1,I b),(2,1,I c),(3,1,I d)]=some (.agg [I a,I b,I c,I d]):=by
 simp[xp9,xrc,xsa]
end Go.Ix
