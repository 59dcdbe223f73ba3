import Derived.Test.YtklcdahoajabmaaWg16
import Derived.Test.YtklcdahoajabmaaWg12
import Derived.Test.YtklcdahoajabmaaWg5
import Derived.Test.YtklcdahoajabmaaWg15
set_option linter.unusedSimpArgs false
set_option linter.unusedVariables false
set_option exponentiation.threshold 3000
namespace Go.Ix
open Go.Proofs
variable{a b:AV}{D D2:List Px}{L S L2 S2:Int}
noncomputable def scU(L S:Int)(D:List Px)(L2 S2:Int)(D2:List Px)(x y:Int)(z w:Nat)(p q:Int):(Int×Int)×Int:=
 if xe8 L2 S2 x y z w p q=true then
  (if scE (wA L S D x y) w (z*w)=0\/scE (wA L2 S2 D2 (x+p) (y+q)) w (z*w)=0 then((0,0),11)
   else((scN (wA L S D x y) (wA L2 S2 D2 (x+p) (y+q)) w (z*w),scE (wA L S D x y) w (z*w)*scE (wA L2 S2 D2 (x+p) (y+q)) w (z*w)),0))
 else((0,0),26)
noncomputable def scO(L S:Int)(D:List Px)(L2 S2:Int)(D2:List Px)(x y:Int)(z w:Nat)(p q:Int):Option (Int×Int):=
 if(scU L S D L2 S2 D2 x y z w p q).2=0 then some (scU L S D L2 S2 D2 x y z w p q).1 else none
theorem w_scoreU(d:Nat)(ha:Sl pxE a D)(hR:RtI L S D)(hb:Sl pxE b D2)(hR2:RtI L2 S2 D2){x y p q:Int}{z w:Nat}(hz:1<=z/\z<=8)(hw:1<=w/\w<=8)(hx:0<=x/\x<=64)(hy:0<=y/\y<=64)(hp:inW p)(hq:inW q)(m:Mem) :
 xcv (xcu (d+5)) xo [.agg [I L,I S,a,I L2,I S2,b],.agg [I x,I y,I z,I w],.agg [I p,I q]] m
  = some (.tup [.agg [I (scU L S D L2 S2 D2 x y z w p q).1.1,I (scU L S D L2 S2 D2 x y z w p q).1.2],I (scU L S D L2 S2 D2 x y z w p q).2],m):=by
 unfold scU
 cases c:xe8 L2 S2 x y z w p q
 .exact xp7 d ha hR hb hR2 (z:=(z:Int)) (w:=(w:Int)) (by omega) (by omega) hx hy hp hq c m
 .rw[xp8 d ha hR hb hR2 hz hw hx hy c m]
  by_cases k:scE (wA L S D x y) w (z*w)=0\/scE (wA L2 S2 D2 (x+p) (y+q)) w (z*w)=0
  .simp only[xta k,xtw]
  .simp only[xtb k,xtw]
theorem xk1{x y p q:Int}{z w:Nat}(hR:RtI L S D)(hR2:RtI L2 S2 D2)(hz:z<=8)(hw:w<=8){n e:Int}(h:scO L S D L2 S2 D2 x y z w p q=some (n,e)):0<=n/\0<e/\n<=e/\e<=300000000000000000/\(scU L S D L2 S2 D2 x y z w p q)=((n,e),0):=by
 unfold scO at h
 by_cases c0:(scU L S D L2 S2 D2 x y z w p q).2=0
 rotate_left
 .rw[xtb c0]at h;cases h
 rw[xta c0]at h
 have h1:(scU L S D L2 S2 D2 x y z w p q).1=(n,e):=xuw h
 have h2:(scU L S D L2 S2 D2 x y z w p q)=((n,e),0):=Prod.ext h1 c0
 refine⟨?_,?_,?_,?_,h2⟩<;>unfold scU at h2
 all_goals
  by_cases c:xe8 L2 S2 x y z w p q=true
  rotate_left
  .rw[xtb c]at h2;cases h2
  rw[xta c]at h2
  by_cases k:scE (wA L S D x y) w (z*w)=0\/scE (wA L2 S2 D2 (x+p) (y+q)) w (z*w)=0
  .rw[xta k]at h2;cases h2
  rw[xtb k]at h2
  have hnn:z*w<=64:=xu1 (xuh hz hw) (by omega)
  obtain⟨q1,q2,q3,q4,q5,q6,q7⟩:=xhm (w:=w) (xgh hR x y) (xgh hR2 (x+p) (y+q)) hnn
  obtain⟨-,-,r3,r4,-⟩:=xhm (w:=w) (xgh hR2 (x+p) (y+q)) (xgh hR2 (x+p) (y+q)) hnn
  have hpos:0<scE (wA L S D x y) w (z*w)*scE (wA L2 S2 D2 (x+p) (y+q)) w (z*w):=by
   have k1:scE (wA L S D x y) w (z*w)≠0:=λh=>k (Or.inl h)
   have k2:scE (wA L2 S2 D2 (x+p) (y+q)) w (z*w)≠0:=λh=>k (Or.inr h)
   exact xwk (by omega) (by omega)
  simp only[xtc,and_true]at h2
  omega
def rowO:Option Fo->List AV
 |none=>[I 0,I 0,I 0,I 0]
 |some f=>f.c
structure BInv (a b:AV) (L S L2 S2 x y:Int) (z w:Nat) (o:Option Fo) (m:Mem):Prop where
 g3:m.get (0,0,3)=some (.row [I L,I S,a,I L2,I S2,b] 0 false)
 g4:m.get (0,1,4)=some (.row [I x,I y,I z,I w] 0 false)
 g6:m.get (0,2,6)=some (.row [I 0,I 0,I 0,I 0] 0 false)
 g8:m.get (0,4,8)=some (.row (rowO o) 0 false)
def seen(R u v p q:Int):Prop:=(-R<=p/\p<=R)/\(-R<=q/\q<=R)/\(p<u\/p=u/\q<v)
theorem xgz:x2l=[I 0,I 0,I 0,I 0]:=by kernel_rfl
theorem xk2(p q n e:Int):xd4 [I 0,I 0,I 0,I 0] [(0,2,.agg [I p,I q]),(2,2,.agg [I n,I e])]=some (.agg [I p,I q,I n,I e]):=rfl
theorem xk3(p q:Int):xd4 [I 0,I 0] [(0,1,I p),(1,1,I q)]=some (.agg [I p,I q]):=rfl
theorem fine_of(ha:Sl pxE a D)(hR:RtI L S D)(hb:Sl pxE b D2)(hR2:RtI L2 S2 D2){x y:Int}{z w:Nat}(hz:1<=z/\z<=8)(hw:1<=w/\w<=8)(hx:0<=x/\x<=64)(hy:0<=y/\y<=64){R:Int}(hr:0<=R/\R<=4){p q n e:Int}(hp:-R<=p/\p<=R)(hq:-R<=q/\q<=R)(h:scO L S D L2 S2 D2 x y z w p q=some (n,e)):(⟨p,q,n,e⟩:Fo).fine:=by
 obtain⟨h1,h2,h3,h4,-⟩:=xk1 hR hR2 hz.2 hw.2 h
 exact⟨h1,by show n<_;omega,h2,by show e<_;omega,by show -64<=p/\p<=64;omega,by show -64<=q/\q<=64;omega⟩
section
variable(d:Nat)(hs:FHs)(ha:Sl pxE a D)(hR:RtI L S D)(hb:Sl pxE b D2)(hR2:RtI L2 S2 D2){x y:Int}{z w:Nat}(hz:1<=z/\z<=8)(hw:1<=w/\w<=8)(hx:0<=x/\x<=64)(hy:0<=y/\y<=64){R:Int}(hr:0<=R/\R<=4)
include ha hR hb hR2 hz hw hx hy hr
theorem l_best1(rec0:xez)(u:Int)(hu:-R<=u/\u<=R):∀(n:Nat) (v:Int) (j:Nat) (o:Option Fo) (m:Mem) (fc:Nat),v+n=R+1->-R<=v->n<j->BInv a b L S L2 S2 x y z w o m->BestO (scO L S D L2 S2 D2 x y z w) (seen R u v) o ->
 ∃o' m' fc',x1o (xcu (d+5)) hs 0 rec0 j (I R) (.ptr (0,0,3) 0 0) (.ptr (0,1,4) 0 0) (.ptr (0,2,6) 0 0) (.ptr (0,4,8) 0 0) (B o.isSome) (I u) (I v) m fc
  = x39 (xcu (d+5)) hs 0 rec0 (I R) (.ptr (0,0,3) 0 0) (.ptr (0,1,4) 0 0) (.ptr (0,2,6) 0 0) (.ptr (0,4,8) 0 0) (B o'.isSome) (I u) m' fc'/\BInv a b L S L2 S2 x y z w o' m'/\BestO (scO L S D L2 S2 D2 x y z w) (seen R u (R+1)) o':=by
 intro n
 induction n with
 |zero=>
  intro v j o m fc hv hv2 hj hI hB
  obtain⟨j,rfl⟩:∃i,j=i+1:=⟨j-1,by omega⟩
  have hv3:v=R+1:=by omega
  subst hv3
  have hk:¬(R+1<=R):=by omega
  refine⟨o,m,fc+3,?_,hI,hB⟩
  simp only[x1o]
  conv=>lhs;unfold x1n
  simp[hk]
 |succ n ih=>
  intro v j o m fc hv hv2 hj hI hB
  obtain⟨j,rfl⟩:∃i,j=i+1:=⟨j-1,by omega⟩
  have hk:v<=R:=by omega
  obtain⟨g3,g4,g6,g8⟩:=hI
  have sc:=λm=>w_scoreU d ha hR hb hR2 (p:=u) (q:=v) hz hw hx hy (by unfold inW;omega) (by unfold inW;omega) m
  have hcov:∀p q,seen R u v p q\/(p=u/\q=v)↔seen R u (v+1) p q:=λp q=>by unfold seen;omega
  have cont:∀(o':Option Fo) (m1:Mem) (fc1:Nat),BInv a b L S L2 S2 x y z w o' m1->BestO (scO L S D L2 S2 D2 x y z w) (λp q=>seen R u v p q\/(p=u/\q=v)) o' ->
   ∃o'' m' fc',x3a (xcu (d+5)) hs 0 rec0 (x1o (xcu (d+5)) hs 0 rec0 j) (I R) (.ptr (0,0,3) 0 0) (.ptr (0,1,4) 0 0) (.ptr (0,2,6) 0 0) (.ptr (0,4,8) 0 0) (B o'.isSome) (I u) (I v) m1 fc1
    = x39 (xcu (d+5)) hs 0 rec0 (I R) (.ptr (0,0,3) 0 0) (.ptr (0,1,4) 0 0) (.ptr (0,2,6) 0 0) (.ptr (0,4,8) 0 0) (B o''.isSome) (I u) m' fc'/\BInv a b L S L2 S2 x y z w o'' m'/\BestO (scO L S D L2 S2 D2 x y z w) (seen R u (R+1)) o'':=by
   intro o' m1 fc1 h1 h2
   obtain⟨o'',m',fc',e,h3,h4⟩:=ih (v+1) j o' m1 (fc1+3) (by omega) (by omega) (by omega) h1 (h2.congr hcov)
   refine⟨o'',m',fc',?_,h3,h4⟩
   rw[<-e]
   unfold x3a
   simp(disch:=omega) [xd6]
  generalize hX:scU L S D L2 S2 D2 x y z w u v=X at *
  obtain⟨⟨n1,e1⟩,er⟩:=X
  simp only at sc
  obtain⟨M,hM⟩:∃M:Mem,((((m.new (0,fc+3+9,12) (.row [I 0,I 0] 0 false)).set (0,fc+3+9,12) (.row [I n1,I e1] 0 false)).new (0,fc+3+17,14) (.row [I 0,I 0,I 0,I 0] 0 false)).set (0,fc+3+17,14) (.row [I u,I v,I n1,I e1] 0 false))=M:=⟨_,rfl⟩
  have fr:∀id:Id,id.2.2≠12->id.2.2≠14->M.get id=m.get id:=λid h h'=>by
   rw[<-hM,Mem.get_set_ne (by rintro rfl;exact h' rfl),Mem.get_new_ne (by rintro rfl;exact h' rfl),Mem.get_set_ne (by rintro rfl;exact h rfl),Mem.get_new_ne (by rintro rfl;exact h rfl)]
  have G14:M.get (0,fc+3+17,14)=some (.row [I u,I v,I n1,I e1] 0 false):=by rw[<-hM];simp
  have G8:M.get (0,4,8)=some (.row (rowO o) 0 false):=by rw[fr _ (by decide) (by decide)];exact g8
  have hIM:BInv a b L S L2 S2 x y z w o M:=⟨by rw[fr _ (by decide) (by decide)];exact g3,by rw[fr _ (by decide) (by decide)];exact g4,by rw[fr _ (by decide) (by decide)];exact g6,G8⟩
  have hIt:BInv a b L S L2 S2 x y z w (some ⟨u,v,n1,e1⟩) (M.set (0,4,8) (.row [I u,I v,I n1,I e1] 0 false)):=⟨by rw[Mem.get_set_ne (by decide)];exact hIM.g3,by rw[Mem.get_set_ne (by decide)];exact hIM.g4,by rw[Mem.get_set_ne (by decide)];exact hIM.g6,by simp[rowO,Fo.c]⟩
  simp only[x1o]
  by_cases c0:er=0
  rotate_left
  .have hno:scO L S D L2 S2 D2 x y z w u v=none:=by unfold scO;rw[hX,xtb c0]
   obtain⟨o'',m',fc',e,h3,h4⟩:=cont o M (fc+3+30) hIM (hB.skip hno)
   refine⟨o'',m',fc',?_,h3,h4⟩
   rw[<-e]
   conv=>lhs;unfold x1n x2p
   simp[hk,g3,g4,xe3,xk3,sc,xej,xcy,xgz,xk2,c0]
   rw[hM]
  subst c0
  have hyes:scO L S D L2 S2 D2 x y z w u v=some (n1,e1):=by unfold scO;rw[hX,xta rfl]
  have hfn:=fine_of ha hR hb hR2 hz hw hx hy hr (p:=u) (q:=v) hu ⟨hv2,hk⟩ hyes
  cases o with
  |none=>
   obtain⟨o'',m',fc',e,h3,h4⟩:=cont (some ⟨u,v,n1,e1⟩) (M.set (0,4,8) (.row [I u,I v,I n1,I e1] 0 false)) (fc+3+33) hIt (hB.first hyes)
   refine⟨o'',m',fc',?_,h3,h4⟩
   rw[<-e]
   conv=>lhs;unfold x1n x2p
   simp[hk,g3,g4,xe3,xk3,sc,xej,xcy,xgz,xk2]
   rw[hM]
   simp[G14,G8,g8,rowO]
  |some f=>
   have hff:f.fine:=by
    obtain⟨h1,h2,h3⟩:=Best.own hB
    exact fine_of ha hR hb hR2 hz hw hx hy hr (p:=f.p) (q:=f.q) h1 h2 (Best.hs hB)
   have bb:=λm=>w_before (d+1) hfn hff m
   simp only[Fo.c]at bb
   cases hbe:befB ⟨u,v,n1,e1⟩ f
   .have hnb:¬befF ⟨u,v,n1,e1⟩ f:=λh=>by rw[(xpg hfn hff).mpr h]at hbe;cases hbe
    obtain⟨o'',m',fc',e,h3,h4⟩:=cont (some f) M (fc+3+30) hIM (BestO.keep hB hyes hnb)
    refine⟨o'',m',fc',?_,h3,h4⟩
    rw[<-e]
    conv=>lhs;unfold x1n x2p
    simp[hk,g3,g4,xe3,xk3,sc,xej,xcy,xgz,xk2]
    rw[hM]
    simp[G14,G8,g8,rowO,Fo.c,bb,hbe]
   .have hb':befF ⟨u,v,n1,e1⟩ f:=(xpg hfn hff).mp hbe
    obtain⟨o'',m',fc',e,h3,h4⟩:=cont (some ⟨u,v,n1,e1⟩) (M.set (0,4,8) (.row [I u,I v,I n1,I e1] 0 false)) (fc+3+33) hIt (BestO.take (λp q n e h=>by have:=xk1 hR hR2 hz.2 hw.2 h;exact⟨this.1,this.2.1⟩) hB hyes hb')
    refine⟨o'',m',fc',?_,h3,h4⟩
    rw[<-e]
    conv=>lhs;unfold x1n x2p
    simp[hk,g3,g4,xe3,xk3,sc,xej,xcy,xgz,xk2]
    rw[hM]
    simp[G14,G8,g8,rowO,Fo.c,bb,hbe]
theorem l_best0:∀(n:Nat) (u:Int) (j:Nat) (o:Option Fo) (m:Mem) (fc:Nat),u+n=R+1->-R<=u->n<j->BInv a b L S L2 S2 x y z w o m->BestO (scO L S D L2 S2 D2 x y z w) (seen R u (-R)) o ->
 ∃o' m',x11 (xcu (d+5)) hs 0 j (I R) (.ptr (0,0,3) 0 0) (.ptr (0,1,4) 0 0) (.ptr (0,2,6) 0 0) (.ptr (0,4,8) 0 0) (B o.isSome) (I u) m fc=some (.tup [.agg (rowO o'),B o'.isSome],m')/\BestO (scO L S D L2 S2 D2 x y z w) (seen R (R+1) (-R)) o':=by
 intro n
 induction n with
 |zero=>
  intro u j o m fc hv hv2 hj hI hB
  obtain⟨j,rfl⟩:∃i,j=i+1:=⟨j-1,by omega⟩
  have hv3:u=R+1:=by omega
  subst hv3
  have hk:¬(R+1<=R):=by omega
  obtain⟨g3,g4,g6,g8⟩:=hI
  refine⟨o,m.set (0,2,6) (.row (rowO o) 0 false),?_,hB⟩
  simp only[x11]
  unfold x4s x8h
  cases o with
  |none=>simp[hk,g8,g6,rowO,sLdP]
  |some f=>simp[hk,g8,g6,rowO,Fo.c,sLdP]
 |succ n ih=>
  intro u j o m fc hv hv2 hj hI hB
  obtain⟨j,rfl⟩:∃i,j=i+1:=⟨j-1,by omega⟩
  have hk:u<=R:=by omega
  obtain⟨o1,m1,fc1,e1,hI1,hB1⟩:=l_best1 d hs ha hR hb hR2 hz hw hx hy hr (x11 (xcu (d+5)) hs 0 j) u ⟨hv2,hk⟩ (2*R+1).toNat (-R) NN o m (fc+3+3) (by omega) (by omega) (by rw[xdy];omega) hI hB
  obtain⟨o',m',e,hB'⟩:=ih (u+1) j o1 m1 (fc1+3) (by omega) (by omega) (by omega) hI1 (hB1.congr λp q=>by unfold seen;omega)
  refine⟨o',m',?_,hB'⟩
  rw[<-e]
  simp only[x11]
  unfold x4s x8i
  simp(disch:=omega) [hk,xd6]
  rw[e1]
  unfold x39
  simp(disch:=omega) [xd6]
def grid(R p q:Int):Prop:=(-R<=p/\p<=R)/\(-R<=q/\q<=R)
theorem w_best:∃o,BestO (scO L S D L2 S2 D2 x y z w) (grid R) o/\∀m,xcv (xcu (d+6)) xu [.agg [I L,I S,a,I L2,I S2,b],.agg [I x,I y,I z,I w],I R] m=some (.tup [.agg (rowO o),B o.isSome],m):=by
 obtain⟨M,hM⟩:∃M:Mem,(((((⟨[],1⟩:Mem).new (0,0,3) (.row [I L,I S,a,I L2,I S2,b] 0 false)).new (0,1,4) (.row [I x,I y,I z,I w] 0 false)).new (0,2,6) (.row [I 0,I 0,I 0,I 0] 0 false)).new (0,4,8) (.row [I 0,I 0,I 0,I 0] 0 false))=M:=⟨_,rfl⟩
 have hI:BInv a b L S L2 S2 x y z w none M:=⟨by rw[<-hM];simp,by rw[<-hM];simp,by rw[<-hM];simp,by rw[<-hM];simp[rowO]⟩
 obtain⟨o',m',e,hB'⟩:=l_best0 d [] ha hR hb hR2 hz hw hx hy hr (2*R+1).toNat (-R) NN none M 9 (by omega) (by omega) (by rw[xdy];omega) hI (λp q h=>by unfold seen at h;omega)
 refine⟨o',hB'.congr λp q=>by unfold seen grid;omega,λm=>xd3 (by simp[ha.still1,hb.still1]) ?_ m⟩
 rw[x9x]
 unfold x6p x4t
 simp[mem0,ha.one,hb.one,xcy,xgz]
 rw[hM]
 unfold x8j
 have e':x11 (xcu (d+5)) [] 0 NN (I R) (.ptr (0,0,3) 0 0) (.ptr (0,1,4) 0 0) (.ptr (0,2,6) 0 0) (.ptr (0,4,8) 0 0) (B false) (I (-R)) M 9=_:=e
 simp(disch:=omega) [xd6]
 rw[e']
 refine RetF.tup ?_ rfl
 cases o'<;>rfl
end
end Go.Ix
namespace Go.Ix
open Go.Proofs
variable{a b:AV}{D D2:List Px}{L S L2 S2:Int}
theorem scM_U(x y:Int)(z w:Nat)(p q:Int):(scM L S D L2 S2 D2 x y z w p q).2=(scU L S D L2 S2 D2 x y z w p q).2/\((scU L S D L2 S2 D2 x y z w p q).2=0->(scM L S D L2 S2 D2 x y z w p q).1=lowN (scU L S D L2 S2 D2 x y z w p q).1.1 (scU L S D L2 S2 D2 x y z w p q).1.2):=by
 unfold scM scU
 by_cases c:xe8 L2 S2 x y z w p q=true
 .rw[xta c,xta c]
  by_cases k:scE (wA L S D x y) w (z*w)=0\/scE (wA L2 S2 D2 (x+p) (y+q)) w (z*w)=0
  .rw[xta k,xta k];exact⟨rfl,λh=>absurd h (by decide)⟩
  .rw[xtb k,xtb k];exact⟨rfl,λ_=>rfl⟩
 .rw[xtb c,xtb c];exact⟨rfl,λh=>absurd h (by decide)⟩
def byO:Option Fo->List AV
 |none=>[I 0,I 0]
 |some f=>[I f.p,I f.q]
def loO:Option Fo->List AV
 |none=>[I 0,I 0]
 |some f=>[I (lowN f.n f.e).1,I (lowN f.n f.e).2]
section
variable(d:Nat)(hs:FHs)(ha:Sl pxE a D)(hR:RtI L S D)(hb:Sl pxE b D2)(hR2:RtI L2 S2 D2){x y:Int}{z w:Nat}(hz:1<=z/\z<=8)(hw:1<=w/\w<=8)(hx:0<=x/\x<=64)(hy:0<=y/\y<=64){R:Int}(hr:0<=R/\R<=4)
include ha hR hb hR2 hz hw hx hy hr
end
attribute [local simp high] rd_5
variable{a:AV}{l:List Mp}
theorem ne_two(X Y:Operand)(x y z w:Int):sBin Try.prog .neq xb X Y (.agg [I x,I y]) (.agg [I z,I w])=some (B (!decide (x=z/\y=w))):=by
 have:=eq_pair X Y (x,y) (z,w)
 have e:decide ((x,y)=(z,w))=decide (x=z/\y=w):=by rw[decide_eq_decide,xtc]
 rw[<-e];exact this
end Go.Ix
namespace Go.Ix
open Go.Proofs Ieee
variable{a b:AV}{D D2:List Px}{L S L2 S2:Int}
theorem xph{n:Int}(h:0<n):lowN n n=(1,1):=by
 unfold lowN
 rw[Int.gcd_self,Int.natAbs_of_nonneg (by omega),Int.tdiv_self (by omega)]
theorem fit_of{x y:Int}{z w:Nat}(h:winE L S x y z w=0):fitB L S x y z w=true:=by
 unfold winE at h
 cases c1:wi (z:Int) 1 8
 .simp[c1]at h
 cases c2:wi (w:Int) 1 8
 .simp[c1,c2]at h
 cases c3:fitB L S x y z w
 .simp[c1,c2,c3]at h
 .rfl
end Go.Ix
namespace Go.Ix
open Go.Proofs
variable{a b:AV}{D D2:List Px}{L S L2 S2:Int}
def boE(L S:Int)(D:List Px)(L2 S2:Int)(D2:List Px)(x y z w R:Int):Int:=if seE L S D L2 S2 D2 x y z w=0 then(bif wi R 0 4 then 0 else 2)else seE L S D L2 S2 D2 x y z w
theorem boE_0{x y z w R:Int}(h:boE L S D L2 S2 D2 x y z w R=0):seE L S D L2 S2 D2 x y z w=0/\(0<=R/\R<=4)/\wi R 0 4=true:=by
 unfold boE at h
 by_cases c:seE L S D L2 S2 D2 x y z w=0
 .rw[xta c]at h
  cases c2:wi R 0 4
  .rw[c2]at h;exact absurd h (by decide)
  .exact⟨c,wi_t c2,rfl⟩
 .rw[xtb c]at h;exact absurd h c
theorem w_BestO(d:Nat)(ha:Sl pxE a D)(hl:D.length<=5000)(hb:Sl pxE b D2)(hl2:D2.length<=5000){x y:Int}{z w:Nat}{R:Int}(he:boE L S D L2 S2 D2 x y z w R=0):∃o,BestO (scO L S D L2 S2 D2 x y z w) (grid R) o/\∀m,xcv (xcu (d+9)) x1u [.agg [I L,I S,a,I L2,I S2,b],.agg [I x,I y,I z,I w],I R] m
 = some (.tup [.agg (byO o),.agg (loO o),I (if o.isSome=true then 0 else 12)],m):=by
 obtain⟨h1,h2,h3⟩:=boE_0 he
 obtain⟨c,hR,hR2,c2,hx,hy,zn,wn,e1,e2,hz,hw⟩:=seE_0 h1
 have e1:z=zn:=by omega
 have e2:w=wn:=by omega
 subst e1 e2
 obtain⟨o,ho,eo⟩:=w_best (d+2) ha hR hb hR2 hz hw hx hy h2
 refine⟨o,ho,λm=>?_⟩
 have po:=λm=>xpb (L:=L) (S:=S) (L2:=L2) (S2:=S2) d ha hl hb hl2 m
 have we:=λm=>xm2 (d+5) ha hR x y z w m
 refine xd3 (by simp[ha.still1,hb.still1]) ?_ m
 rw[x9g]
 unfold x68 x3z
 cases o with
 |none=>
  have eo':∀m,xcv (xcu (d+8)) xu [.agg [I L,I S,a,I L2,I S2,b],.agg [I x,I y,I z,I w],I R] m=some (.tup [.agg [I 0,I 0,I 0,I 0],B false],m):=eo
  simp[mem0,ha.one,hb.one,xe3,xfa,xgz,xcy,po,c,we,c2,xec,h3,eo',sLdP,tR,tS,xdb,disj]
  exact RetF.tup rfl rfl
 |some f=>
  have eo':∀m,xcv (xcu (d+8)) xu [.agg [I L,I S,a,I L2,I S2,b],.agg [I x,I y,I z,I w],I R] m=some (.tup [.agg [I f.p,I f.q,I f.n,I f.e],B true],m):=eo
  have hbf:=xk1 hR hR2 hz.2 hw.2 (Best.hs ho)
  have lo:=λm=>xpc (d+5) (n:=f.n) (e:=f.e) hbf.1 hbf.2.1 (by omega) (by omega) m
  simp[mem0,ha.one,hb.one,xe3,xfa,xgz,xcy,po,c,we,c2,xec,h3,eo',lo,sLdP,tR,tS,xdb,disj,cAp,mkM,clean]
  exact RetF.tup rfl rfl
end Go.Ix
namespace Go.Ix
open Go.Proofs Ieee
variable{a:AV}{D:List Px}{L S:Int}
section
variable(d:Nat)(hs:FHs)(ha:Sl pxE a D)(hR:RtI L S D){k:Int}(hk:wi k 0 2=true){f:Aff}(hf:AffIn f)
include ha hR hk hf
end
def rsE(k rl rs:Int)(f:Aff):Int:=bif wi k 0 2 then(bif wi rl 1 64&&wi rs 1 64 then chkA f else 2)else 15
def reE(L S:Int)(D:List Px)(k rl rs:Int)(f:Aff):Int:=if(imE L S D).2=0 then rsE k rl rs f else(imE L S D).2
theorem build_i0:xd4 [I 0,I 0,nilS] []=some (.agg [I 0,I 0,nilS]):=rfl
theorem xpi(d:Nat)(ha:Sl pxE a D)(hl:D.length<=5000){k:Int}{rl rs:Nat}{f:Aff}(hrl:rl<=64)(hrs:rs<=64)(he:reE L S D k rl rs f=0):∃b,Sl pxE b (allR L S D k f rs 0 rl)/\∀m,xcv (xcu (d+8)) x14 [.agg [I L,I S,a],.agg ([I k,I rl,I rs]++f.c)] m=some (.tup [.agg [I rl,I rs,b],I 0],m):=by
 have ie:=λm=>xju (L:=L) (S:=S) d ha hl m
 have hc:=λm=>xqy (d+5) f m
 unfold reE at he
 by_cases c:(imE L S D).2=0
 rotate_left
 .rw[xtb c]at he;exact absurd he c
 rw[xta c]at he
 unfold rsE at he
 cases c1:wi k 0 2
 .simp[c1]at he
 cases c2:wi rl 1 64
 .simp[c1,c2]at he
 cases c3:wi rs 1 64
 .simp[c1,c2,c3]at he
 have he:chkA f=0:=by simpa[c1,c2,c3]using he
 obtain⟨b,hb,e⟩:=xrf (d+2) ha (xgf c) c1 (chkA_in he) hrl hrs
 refine⟨b,hb,λm=>xd3 (by simp[ha.still1,Aff.c]) ?_ m⟩
 have bsc:xd4 xq [(0,3,.agg [I L,I S,a])]=some (.agg [I L,I S,a]):=by
  have:xq=[I 0,I 0,nilS]:=by kernel_rfl
  rw[this];rfl
 simp only[Aff.c,xuy,xuz]at hc e
 rw[x9d]
 unfold x65 x3w x7r x2j
 simp[mem0,ha.one,Aff.c,xdv,xcy,ie,c,build_i0,sLdP,xr9,c1,xec,c2,c3,hc,he,bsc,e,hb.one]
 exact RetF.tup (by simp[hb.still1]) rfl
def tabR(s:Bool)(N:Nat):Bool:=match single.read (single.nearest s N 0)with
 | .number t m e=>(t == s)&&(Nat.beq (m*2 ^ (e+149).toNat) (N*2 ^ 149)&&decide (-149<=e))
 |_=>false
theorem tabR_all:((List.range 2048).all λN=>tabR false N&&tabR true N)=true:=by kernel_rfl
theorem tabR_ok{s:Bool}{N:Nat}(h:N<2048):∃m e,single.read (single.nearest s N 0)=.number s m e/\sv m e=N*2 ^ 1074:=by
 have h1:=xtg.mp tabR_all N (xts.mpr h)
 rw[xte]at h1
 have h2:tabR s N=true:=by
  cases s
  .exact h1.1
  .exact h1.2
 unfold tabR at h2
 split at h2
 .rename_i t m e hr
  rw[xte,xte]at h2
  obtain⟨a,b,c⟩:=h2
  have ht:t=s:=by simpa using a
  subst ht
  refine⟨m,e,hr,?_⟩
  have hb:=xtj b
  have hc:-149<=e:=xuu c
  unfold sv
  rw[show(e+1074).toNat=(e+149).toNat+925 by omega,Nat.pow_add,<-Nat.mul_assoc,hb,Nat.mul_assoc,<-Nat.pow_add]
 .cases h2
theorem xk4{n:Int}(h:bd n 2047):RtP (f32w n)/\val (f32w n)=n:=by
 unfold bd at h
 obtain⟨m,e,h1,h2⟩:=tabR_ok (s:=decide (n<0)) (N:=n.natAbs) (by omega)
 have hf:fcs (f32w n)=.num (decide (n<0)) (n.natAbs*2 ^ 1074):=by
  unfold fcs
  rw[show f32w n=single.nearest (decide (n<0)) n.natAbs 0 from rfl,h1,<-h2]
 refine⟨⟨_,_,hf,by omega⟩,?_⟩
 unfold val
 rw[hf]
 show sg (decide (n<0)) (n.natAbs*2 ^ 1074 / 2 ^ 1074)=n
 rw[Nat.mul_div_cancel _ (Nat.two_pow_pos _),sg_self]
theorem pE_0{c d:Fc}(h1:c.whole=true)(h2:d.whole=true)(h3:c.big=false)(h4:d.big=false):pE c d=0:=by
 unfold pE
 rw[h1,h2,h3,h4];rfl
theorem xk5{s:Bool}{k:Nat}(h:k<=2047):(Fc.num s (k*2 ^ 1074)).whole=true/\(Fc.num s (k*2 ^ 1074)).big=false:=by
 constructor
 .show(k*2 ^ 1074 % 2 ^ 1074 == 0)=true
  rw[Nat.mul_mod_left];rfl
 .show decide (2047*2 ^ 1074<k*2 ^ 1074)=false
  exact xu5 (Nat.not_lt.mpr (xu4 _ h))
theorem pxErr_of{p:Px}(h1:RtP p.1)(h2:RtP p.2):xf9 p=0:=by
 obtain⟨s,k,e,hk⟩:=h1
 obtain⟨s',k',e',hk'⟩:=h2
 unfold xf9
 rw[e,e']
 exact pE_0 (xk5 hk).1 (xk5 hk').1 (xk5 hk).2 (xk5 hk').2
theorem chkS_of:∀(D:List Px) (k:Nat),RtD D->chkS k D=(0,0)
 |[],_,_=>rfl
 |p::r,k,h=>by
  unfold chkS
  rw[xta (pxErr_of (h p (by simp)).1 (h p (by simp)).2)]
  exact chkS_of r (k+1) λq hq=>h q (by simp[hq])
theorem imE_of{L S:Int}{D:List Px}(h:RtI L S D):(imE L S D).2=0:=by
 have hz:szE L S D.length=0:=by
  unfold szE
  rw[h.l,h.s]
  simp[h.n]
 unfold imE
 rw[xta hz,chkS_of D 0 h.d]
section
variable(L S:Int)(D:List Px)(k:Int)(f:Aff)
theorem xpj(l:Nat):∀(n s q:Nat),q<n->(rowR L S D k f l s n)[q]?=some (pxR L S D k f l (s+q))
 |0,s,q,h=>by omega
 |n+1,s,q,h=>by
  rw[rowR_s]
  cases q with
  |zero=>rfl
  |succ q=>
   rw[xvv,xpj l n (s+1) q (by omega)]
   congr 2;omega
theorem xpk(rs:Nat):∀(n l p q:Nat),p<n->q<rs->(allR L S D k f rs l n)[p*rs+q]?=some (pxR L S D k f (l+p) q)
 |0,l,p,q,h,hq=>by omega
 |n+1,l,p,q,h,hq=>by
  rw[allR_s]
  cases p with
  |zero=>
   rw[xty,xuf,xv5 (by rw[xil];exact hq),xpj _ _ _ _ _ _ _ _ _ hq]
   congr 2;omega
  |succ p=>
   rw[xv6 (by rw[xil,xua];omega),xil,show(p+1)*rs+q-rs=p*rs+q by rw[xua];omega,xpk rs n (l+1) p q (by omega) hq]
   congr 2;omega
end
def mvA(b0 b1:Int):Aff:=⟨1,b0,0,0,b1,0,0⟩
theorem shL_mv(b0 b1 x y:Int):shL (mvA b0 b1) x y=16*b0/\shS (mvA b0 b1) x y=16*b1:=by
 unfold shL shS tm mvA
 simp only[Int.zero_mul,Int.add_zero]
 constructor<;>omega
variable{a:AV}{D:List Px}{L S:Int}
theorem pxR_mv(hR:RtI L S D){k:Int}(hk:wi k 0 2=true)(b0 b1:Int)(l s:Nat):pxR L S D k (mvA b0 b1) l s=spx (atM L S D (l+b0) (s+b1)):=by
 unfold pxR
 rw[(shL_mv b0 b1 l s).1,(shL_mv b0 b1 l s).2,show(16:Int)*l+16*b0=16*(l+b0) by omega,show(16:Int)*s+16*b1=16*(s+b1) by omega,smp_whole hR hk]
theorem mv_in(b0 b1:Int)(h0:wi b0 (-70) 70=true)(h1:wi b1 (-70) 70=true):chkA (mvA b0 b1)=0:=by
 have:=wi_t h0
 have:=wi_t h1
 have e0:inT b0=true:=by unfold inT wi;simp;omega
 have e1:inT b1=true:=by unfold inT wi;simp;omega
 have e2:inT 0=true:=rfl
 have e3:wi 1 1 1000000000000=true:=rfl
 unfold chkA mvA
 simp[e0,e1,e2,e3]
theorem mv_RtI(hR:RtI L S D){k:Int}(hk:wi k 0 2=true)(b0 b1:Int){p q:Nat}(hp:L=p)(hq:S=q):RtI L S (allR L S D k (mvA b0 b1) q 0 p):=by
 refine⟨hR.l,hR.s,by rw[xjw,hp,hq];push_cast;rfl,?_⟩
 intro x hx
 unfold allR rowR at hx
 obtain⟨l,hl,hx⟩:=xuo.mp hx
 obtain⟨s,hs,rfl⟩:=xtz.mp hx
 rw[pxR_mv hR hk]
 have hb:=xfo hR (l+b0) (s+b1)
 exact⟨(xk4 hb.1).1,(xk4 hb.2).1⟩
theorem atM_spx{L S:Int}{D:List Px}{l s:Int}{p:Int×Int}(h1:wi l 0 (L-1)=true)(h2:wi s 0 (S-1)=true)(hg:D[(l*S+s).toNat]?=some (spx p))(hb:bd p.1 2047/\bd p.2 2047):atM L S D l s=p:=by
 unfold atM
 rw[h1,h2,xtu,hg]
 show(val (f32w p.1),val (f32w p.2))=p
 rw[(xk4 hb.1).2,(xk4 hb.2).2]
theorem atM_mv(hR:RtI L S D){k:Int}(hk:wi k 0 2=true)(b0 b1:Int){p q:Nat}(hp:L=p)(hq:S=q)(l s:Int):atM L S (allR L S D k (mvA b0 b1) q 0 p) l s=if(wi l 0 (L-1)&&wi s 0 (S-1))=true then atM L S D (l+b0) (s+b1)else(0,0):=by
 by_cases c:(wi l 0 (L-1)&&wi s 0 (S-1))=true
 .rw[xta c]
  rw[xte]at c
  have h1:=wi_t c.1
  have h2:=wi_t c.2
  have hg:=xpk L S D k (mvA b0 b1) q p 0 l.toNat s.toNat (by omega) (by omega)
  rw[xuf,pxR_mv hR hk,xuq h1.1,xuq h2.1]at hg
  refine atM_spx c.1 c.2 ?_ (xfo hR _ _)
  have hm:0<=l*S:=xuv h1.1 (by omega)
  have e:(l*S+s).toNat=l.toNat*q+s.toNat:=by
   have:l*S=((l.toNat*q:Nat):Int):=by rw[Int.natCast_mul,xuq h1.1,hq]
   omega
  rw[e]
  exact hg
 .rw[xtb c]
  unfold atM
  rw[xu0.mpr c];rfl
end Go.Ix
