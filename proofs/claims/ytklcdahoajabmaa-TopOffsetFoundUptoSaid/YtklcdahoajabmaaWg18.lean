import Derived.Test.YtklcdahoajabmaaWg17
import Derived.Test.YtklcdahoajabmaaWg13
import Derived.Test.YtklcdahoajabmaaWg16
set_option linter.unusedSimpArgs false
set_option linter.unusedVariables false
set_option exponentiation.threshold 3000
namespace Go.Ix
open Go.Proofs
theorem xk6{g h:Nat->Nat->Int}{z w:Nat}(hw:0<w)(e:∀l s,l<z->s<w->g l s=h l s):∀k:Nat,k<=z*w->sumS g w k=sumS h w k
 |0,_=>rfl
 |k+1,hk=>by
  unfold sumS
  rw[xk6 hw e k (by omega),e _ _ ((Nat.div_lt_iff_lt_mul hw).mpr (by omega)) (xuj _ hw)]
theorem xrh{g h:Nat->Nat->Px}{z w:Nat}(e:∀l s,l<z->s<w->g l s=h l s):gAll g w 0 z=gAll h w 0 z:=by
 unfold gAll gRow
 rw[List.flatMap_def,List.flatMap_def]
 congr 1
 refine xvk λl hl=>xvk λs hs=>?_
 have h1:=List.mem_range'_1.mp hl
 have h2:=List.mem_range'_1.mp hs
 exact e l s (by omega) (by omega)
section
variable{L S:Int}{D:List Px}(hR:RtI L S D){b0 b1:Int}{p q:Nat}(hp:L=p)(hq:S=q)
def mvY(L S:Int)(D:List Px)(b0 b1:Int)(p q:Nat):List Px:=allR L S D 0 (mvA (-b0) (-b1)) q 0 p
include hR hp hq
theorem mvY_R:RtI L S (mvY L S D b0 b1 p q):=mv_RtI hR (k:=0) rfl (-b0) (-b1) hp hq
theorem mvY_at(l s:Int):atM L S (mvY L S D b0 b1 p q) l s=if(wi l 0 (L-1)&&wi s 0 (S-1))=true then atM L S D (l-b0) (s-b1)else(0,0):=by
 unfold mvY
 rw[atM_mv hR (k:=0) rfl (-b0) (-b1) hp hq,<-xwh,<-xwh]
theorem mvY_in{x y:Int}{z w:Nat}(ho:xe8 L S x y z w b0 b1=true){l s:Nat}(hl:l<z)(hs:s<w):atM L S (mvY L S D b0 b1 p q) (x+b0+l) (y+b1+s)=atM L S D (x+l) (y+s):=by
 unfold xe8 fitB at ho
 simp only[xte]at ho
 obtain⟨-,-,h1,h2⟩:=ho
 have h1:=wi_t h1
 have h2:=wi_t h2
 rw[mvY_at hR hp hq,xta (by unfold wi;simp;omega),show x+b0+l-b0=x+l by omega,show y+b1+s-b1=y+s by omega]
theorem xpl{x y:Int}{z w:Nat}(hw:0<w)(ho:xe8 L S x y z w b0 b1=true):scU L S D L S (mvY L S D b0 b1 p q) x y z w b0 b1=if scE (wA L S D x y) w (z*w)=0 then((0,0),11)else((scE (wA L S D x y) w (z*w)*scE (wA L S D x y) w (z*w),scE (wA L S D x y) w (z*w)*scE (wA L S D x y) w (z*w)),0):=by
 have eA:∀l s,l<z->s<w->wA L S (mvY L S D b0 b1 p q) (x+b0) (y+b1) l s=wA L S D x y l s:=λl s hl hs=>mvY_in hR hp hq ho hl hs
 have e1:scE (wA L S (mvY L S D b0 b1 p q) (x+b0) (y+b1)) w (z*w)=scE (wA L S D x y) w (z*w):=xk6 hw (λl s hl hs=>by unfold tE1;rw[eA l s hl hs]) _ (xth _)
 have e2:sumS (tR1 (wA L S D x y) (wA L S (mvY L S D b0 b1 p q) (x+b0) (y+b1))) w (z*w)=sumS (tR1 (wA L S D x y) (wA L S D x y)) w (z*w):=xk6 hw (λl s hl hs=>by unfold tR1;rw[eA l s hl hs]) _ (xth _)
 have e3:sumS (tI1 (wA L S D x y) (wA L S (mvY L S D b0 b1 p q) (x+b0) (y+b1))) w (z*w)=sumS (tI1 (wA L S D x y) (wA L S D x y)) w (z*w):=xk6 hw (λl s hl hs=>by unfold tI1;rw[eA l s hl hs]) _ (xth _)
 obtain⟨r1,r2⟩:=self_R (wA L S D x y) w (z*w)
 unfold scU
 rw[xta ho,e1]
 unfold scN
 rw[e2,e3,r1,r2]
 by_cases k:scE (wA L S D x y) w (z*w)=0
 .rw[xta (Or.inl k),xta k]
 .rw[xtb (by rintro(h|h)<;>exact k h),xtb k]
  congr 2
  unfold scE
  omega
theorem xri{x y:Int}{z w:Nat}{R:Int}(hz:z<=8)(hw:1<=w/\w<=8)(ho:xe8 L S x y z w b0 b1=true)(hk:scE (wA L S D x y) w (z*w)≠0)(hg:grid R b0 b1){o:Option Fo}(hB:BestO (scO L S D L S (mvY L S D b0 b1 p q) x y z w) (grid R) o) :
 ∃f,o=some f/\lowN f.n f.e=(1,1)/\(f.p.natAbs:Int)+f.q.natAbs<=(b0.natAbs:Int)+b1.natAbs:=by
 have hsc:=xpl hR hp hq (by omega) ho
 rw[xtb hk]at hsc
 have hs:scO L S D L S (mvY L S D b0 b1 p q) x y z w b0 b1=some (scE (wA L S D x y) w (z*w)*scE (wA L S D x y) w (z*w),scE (wA L S D x y) w (z*w)*scE (wA L S D x y) w (z*w)):=by
  unfold scO;rw[hsc,xta rfl]
 cases o with
 |none=>have:=hB _ _ hg;rw[hs]at this;cases this
 |some f=>
  have hn:=Best.all hB ⟨b0,b1,_,_⟩ hg hs
  have hf:=xk1 hR (mvY_R hR hp hq) hz hw.2 (Best.hs hB)
  have h0:=xgw (w:=w) (xgg (wA L S D x y)) (z*w)
  have hpos:0<scE (wA L S D x y) w (z*w)*scE (wA L S D x y) w (z*w):=xwk (by unfold scE at *;omega) (by unfold scE at *;omega)
  generalize scE (wA L S D x y) w (z*w)*scE (wA L S D x y) w (z*w)=X at *
  have h1:¬X*f.e > f.n*X:=λh=>hn (Or.inl h)
  have h2:f.e<=f.n:=by
   have h3:X*f.e<=X*f.n:=by rw[Int.mul_comm X f.n];omega
   exact Int.le_of_mul_le_mul_left h3 hpos
  have h4:f.n=f.e:=by omega
  refine⟨f,rfl,by rw[h4];exact xph hf.2.1,?_⟩
  rcases Int.lt_or_le ((b0.natAbs:Int)+b1.natAbs) ((f.p.natAbs:Int)+f.q.natAbs)with g|g
  .exfalso
   refine hn (Or.inr ⟨?_,Or.inl g⟩)
   show X*f.e=f.n*X
   rw[h4,Int.mul_comm]
  .exact g
theorem xrj{x y:Int}{z w:Nat}{k:Int}(hk:wi k 0 2=true)(hf:fitB L S x y z w=true)(ho:xe8 L S x y z w b0 b1=true):gAll (wpx L S (allR L S (mvY L S D b0 b1 p q) k (mvA b0 b1) q 0 p) x y) w 0 z=gAll (wpx L S D x y) w 0 z:=by
 have hRY:=mvY_R (b0:=b0) (b1:=b1) hR hp hq
 refine xrh λl s hl hs=>?_
 unfold wpx
 congr 1
 unfold fitB at hf
 rw[xte]at hf
 have h1:=wi_t hf.1
 have h2:=wi_t hf.2
 rw[atM_mv hRY hk b0 b1 hp hq,xta (by unfold wi;simp;omega),show x+(l:Int)+b0=x+b0+l by omega,show y+(s:Int)+b1=y+b1+s by omega]
 exact mvY_in hR hp hq ho hl hs
end
end Go.Ix
namespace Go.Ix
open Go.Proofs Ieee
variable{a b z:AV}{D Z:List Px}{L S:Int}
def mvM(L S:Int)(D:List Px)(b0 b1 l s:Int):Int×Int:=bif wi (l-b0) 0 (L-1)&&wi (s-b1) 0 (S-1)then atM L S D l s else(0,0)
section
variable(hb:Sl pxE b D)(hR:RtI L S D)(hz:Sl pxE z Z){b0 b1:Int}(h0:wi b0 (-70) 70=true)(h1:wi b1 (-70) 70=true){M:Mem}(hn:M.next=1)(g4:M.get (0,1,4)=some (.row [I b0,I b1] 0 false))(g12:M.get (0,79,12)=some (.row [I L,I S,z] 0 false))(g7:M.get (0,7,7)=some (.row [I L,I S,b] 0 false)){p q:Nat}(hp:L=p)(hq:S=q)(hZ:∀l s:Nat,l<p->s<q->Z[l*q+s]?=some (spx (mvM L S D b0 b1 l s)))
include hb hR hz h0 h1 hn g4 g12 g7 hp hq hZ
end
theorem z_3m:x2h=[I 0,I 0,I 0]:=by kernel_rfl
theorem z_maff:x3q=[I 0,I 0,I 0,I 0,I 0,I 0,I 0]:=by kernel_rfl
theorem xk7:x7n=[I 0,I 0,I 0,I 0,I 0,I 0,I 0,I 0,I 0,I 0]:=by kernel_rfl
theorem xk8(x:Int):xd4 x2h [(0,1,I x)]=some (.agg [I x,I 0,I 0]):=by rw[z_3m];rfl
theorem xk9(x y:Int):xd4 x3q [(0,1,I 1),(1,3,.agg [I x,I 0,I 0]),(4,3,.agg [I y,I 0,I 0])]=some (.agg [I 1,I x,I 0,I 0,I y,I 0,I 0]):=by rw[z_maff];rfl
theorem xka(k L S x y:Int):xd4 [I 0,I 0,I 0,I 0,I 0,I 0,I 0,I 0,I 0,I 0] [(0,1,I k),(1,1,I L),(2,1,I S),(3,7,.agg [I 1,I x,I 0,I 0,I y,I 0,I 0])]=some (.agg [I k,I L,I S,I 1,I x,I 0,I 0,I y,I 0,I 0]):=rfl
end Go.Ix
set_option maxRecDepth 10000
namespace Go.Ix
open Go.Proofs
variable{a b:AV}{D Y O:List Px}{L S:Int}
theorem xpm(d:Nat)(L S:Int)(hb:Sl pxE b D)(hl:D.length<=1000000):∃b',Sl pxE b' D/\∀m,xcv (xcu (d+1)) x16 [.agg [I L,I S,b]] m=some (.agg [I L,I S,b'],m):=by
 have hr:xda D.length 8:=by unfold xda;omega
 have he:=hb.elems pxL
 by_cases h0:D=[]
 .subst h0
  refine⟨.slit [] 0 true,Sl.lit [] true,λm=>xd3 (by simp[hb.still1]) ?_ m⟩
  rw[x8z]
  unfold x3m x31
  have hr0:xda 0 8:=by unfold xda;omega
  simp[mem0,hb.one,he,xod hr0,xdv,xcy,sLdP]
  exact RetF.st rfl rfl
 .have hq:D.length≠0:=by simpa using h0
  have hlen:=xfk pxL D
  refine⟨.slit (D.flatMap pxE) D.length false,Sl.lit D false,λm=>xd3 (by simp[hb.still1]) ?_ m⟩
  rw[x8z]
  unfold x3m x31
  simp[mem0,hb.one,he,xod hr,hq,h0,xdv,xcy,sLdP]
  refine⟨_,_,_,rfl,xlw ?_,rfl⟩
  exact frz_row (k:=3) pxL pxS (by simp)
theorem xpn{α:Type}(g:Nat->Nat->α)(w:Nat):∀n l:Nat,(gAll g w l n).length=n*w
 |0,l=>by simp[gAll]
 |n+1,l=>by rw[gAll_s,xum,gRow_len,xpn g w n,xua,Nat.add_comm]
section
variable{y o:AV}{x1 y1 z1 w1 b0 b1:Int}(hY:Sl pxE y Y)(hYl:Y.length<=5000)(hO:Sl pxE o O)(hOl:O.length<=100000){p q:Nat}(hp:L=p)(hq:S=q)(hp64:p<=64)(hq64:q<=64)(e1:∀k,wi k 0 2=true->reE L S Y k p q (mvA b0 b1)=0)(e2:∀k,wi k 0 2=true->cwE L S (allR L S Y k (mvA b0 b1) q 0 p) x1 y1 z1 w1=0/\gAll (wpx L S (allR L S Y k (mvA b0 b1) q 0 p) x1 y1) w1.toNat 0 z1.toNat=O)
include hY hYl hO hOl hp hq hp64 hq64 e1 e2
theorem l_found:∀(n k j fc:Nat) (M:Mem),k+n=3->n<j->M.next=1->M.get (0,0,3)=some (.row [I L,I S,a] 0 false)->M.get (0,1,4)=some (.row [I x1,I y1,I z1,I w1] 0 false)->M.get (0,2,5)=some (.row [I b0,I b1] 0 false)
 -> M.get (0,57,8)=some (.row [I L,I S,y] 0 false)->M.get (0,146,18)=some (.row [I z1,I w1,o] 0 false) ->
 ∃M',x2i (xcu 30) [] 0 j (.ptr (0,0,3) 0 0) (.ptr (0,1,4) 0 0) (.ptr (0,2,5) 0 0) (.ptr (0,57,8) 0 0) (.ptr (0,146,18) 0 0) (I k) M fc=some (B true,M'):=by
 intro n
 induction n with
 |zero=>
  intro k j fc M hn hj hM g3 g4 g5 g8 g18
  obtain⟨j,rfl⟩:∃i,j=i+1:=⟨j-1,by omega⟩
  have hk0:¬((k:Int)<=2):=by omega
  simp only[x2i]
  unfold x3p x7m
  simp[hk0]
 |succ n ih=>
  intro k j fc M hn hj hM g3 g4 g5 g8 g18
  obtain⟨j,rfl⟩:∃i,j=i+1:=⟨j-1,by omega⟩
  have hk0:(k:Int)<=2:=by omega
  have hk:wi (k:Int) 0 2=true:=by unfold wi;simp;omega
  obtain⟨c,hc,ec⟩:=xpm 29 L S hY (by omega)
  obtain⟨v,hv,ev⟩:=xpi (L:=L) (S:=S) 22 hc hYl (k:=(k:Int)) (rl:=p) (rs:=q) (f:=mvA b0 b1) hp64 hq64 (e1 k hk)
  have hvl:(allR L S Y k (mvA b0 b1) q 0 p).length<=5000:=by
   rw[xjw]
   have:=xuh hp64 hq64
   omega
  obtain⟨u,hu,eu⟩:=w_Cut (L:=L) (S:=S) 21 hv hvl x1 y1 z1 w1 (e2 k hk).1
  rw[(e2 k hk).2]at hu
  have sm:=λm=>xrb 27 (L:=z1) (S:=w1) (L':=z1) (S':=w1) hu hO hOl m
  rw[<-hp,<-hq]at ev
  simp only[mvA,Aff.c,xuy,xuz]at ev
  simp only[x2i]
  unfold x3p
  simp[hk0,g3,g4,g5,g8,g18,hM,ec,sIxA,asI,xk8,xk9,xka,xk7,ev,eu,sm,xdv,xcy,hc.one,hv.one,hu.one,hY.one,hO.one,hc.clean1,hv.clean1,hu.clean1,hY.clean1,hO.clean1,clean,cAp,tR,mkM,xdb,disj,show Nat.blt 0 1=true from rfl]
  rw[xd6 (by omega) (by omega),show(k:Int)+1=((k+1:Nat):Int) by omega]
  exact ih (k+1) j _ _ (by omega) (by omega) (by simpa using hM) (by simpa using g3) (by simpa using g4) (by simpa using g5) (by simpa using g8) (by simpa using g18)
end
set_option maxHeartbeats 4000000 in
theorem law_TopOffsetFound(L S:Int){l:List Nat}(hl:Sl f32E a l)(x y z w p q:Int)(cl2:l.length<=1048576):∃m',xcu 31 [] x2z [.agg [I L,I S,a],.agg [I x,I y,I z,I w],.agg [I p,I q]] mem0=some (B true,m'):=by
 rw[x98]
 unfold x60 x3r
 obtain⟨b,hb,eb⟩:=w_LImage 28 L S hl cl2
 by_cases cl:l.length<=200
 rotate_left
 .have cl':200<(l.length:Int):=by omega
  simp[mem0,hl.one,xge,cl',eb,xdv,xcy,hb.one,hl.len xfn]
 have hD:=prs_len l
 have cl':¬(200<(l.length:Int)):=by omega
 have ei:=λm=>xr8 (L:=L) (S:=S) 25 hb (by omega) m
 by_cases c0:(imE L S (prsM l)).2=0
 rotate_left
 .simp[mem0,hl.one,xge,cl',eb,xdv,xcy,hb.one,hl.len xfn,ei,c0]
 have hR:=xgf c0
 have ew:=λm=>xrc 27 hb hR x y z w m
 by_cases c1:winE L S x y z w=0
 rotate_left
 .simp[mem0,hl.one,xge,cl',eb,xdv,xcy,hb.one,hl.len xfn,ei,c0,ew,c1]
 cases cp:wi p (-4) 4
 .simp[mem0,hl.one,xge,cl',eb,xdv,xcy,hb.one,hl.len xfn,ei,c0,ew,c1,sIxA,asI,xeb,cp]
 cases cq:wi q (-4) 4
 .simp[mem0,hl.one,xge,cl',eb,xdv,xcy,hb.one,hl.len xfn,ei,c0,ew,c1,sIxA,asI,xeb,cp,cq]
 have kp:=wi_t cp
 have kq:=wi_t cq
 have hL:=wi_t hR.l
 have hS:=wi_t hR.s
 obtain⟨P,hP⟩:∃P:Nat,L=P:=⟨L.toNat,by omega⟩
 obtain⟨Q,hQ⟩:∃Q:Nat,S=Q:=⟨S.toNat,by omega⟩
 have w70:∀x:Int,-4<=x->x<=4->wi x (-70) 70=true:=λx h1 h2=>by unfold wi;simp;omega
 have hrs:∀k:Int,wi k 0 2=true->∀x y:Int,wi x (-70) 70=true->wi y (-70) 70=true->rsE k P Q (mvA x y)=0:=λk ck x y hx hy=>by
  unfold rsE
  rw[ck,<-hP,<-hQ,hR.l,hR.s,mv_in x y hx hy];rfl
 have e1:reE L S (prsM l) 0 P Q (mvA (-p) (-q))=0:=by unfold reE;rw[xta c0];exact hrs _ rfl _ _ (w70 _ (by omega) (by omega)) (w70 _ (by omega) (by omega))
 obtain⟨v,hv,ev⟩:=xpi (L:=L) (S:=S) 22 hb (by omega) (k:=0) (rl:=P) (rs:=Q) (f:=mvA (-p) (-q)) (by omega) (by omega) e1
 have hRY:=mvY_R (b0:=p) (b1:=q) hR hP hQ
 have hYl:(allR L S (prsM l) 0 (mvA (-p) (-q)) Q 0 P).length<=5000:=by
  rw[xjw]
  have:=xuh (show P<=64 by omega) (show Q<=64 by omega)
  omega
 have hYe:mvY L S (prsM l) p q P Q=allR L S (prsM l) 0 (mvA (-p) (-q)) Q 0 P:=rfl
 rw[<-hYe]at hv hYl
 obtain⟨c,hc,ec⟩:=xpm 29 L S hv (by omega)
 have eci:=λm=>xp1 (L:=L) (S:=S) 24 hc hYl m
 have ciY:=imE_of hRY
 have es:=λm=>w_Score (L:=L) (S:=S) (L2:=L) (S2:=S) (p:=p) (q:=q) 21 hb (by omega) hv hYl x y z w (by unfold inW;omega) (by unfold inW;omega) m
 have hpr:prE L S (prsM l) L S (mvY L S (prsM l) p q P Q)=0:=by unfold prE;rw[xta c0];exact ciY
 have hse:seE L S (prsM l) L S (mvY L S (prsM l) p q P Q) x y z w=0:=by unfold seE;rw[xta hpr];exact c1
 obtain⟨-,-,-,-,hx,hy,zn,wn,rfl,rfl,hz,hw⟩:=seE_0 hse
 have e2:scP L S (prsM l) L S (mvY L S (prsM l) p q P Q) x y zn wn p q=scM L S (prsM l) L S (mvY L S (prsM l) p q P Q) x y zn wn p q:=by
  unfold scP;rw[xta hse,xur,xur]
 rw[e2]at es
 have n0:w64 (-p)=-p:=xd6 (by omega) (by omega)
 have n1:w64 (-q)=-q:=xd6 (by omega) (by omega)
 rw[<-hP,<-hQ]at ev
 simp only[mvA,Aff.c,xuy,xuz]at ev
 have simps:True:=trivial
 obtain⟨k1,k2⟩:=scM_U (L:=L) (S:=S) (D:=prsM l) (L2:=L) (S2:=S) (D2:=mvY L S (prsM l) p q P Q) x y zn wn p q
 cases co:xe8 L S x y zn wn p q
 .have h26:scM L S (prsM l) L S (mvY L S (prsM l) p q P Q) x y zn wn p q=((0,0),26):=by unfold scM;rw[xtb (by rw[co];decide)]
  rw[h26]at es
  simp[mem0,hl.one,xge,cl',eb,xdv,xcy,hb.one,hl.len xfn,ei,c0,ew,c1,sIxA,asI,xeb,cp,cq,xk8,xk9,xka,xk7,n0,n1,ev,hv.one,ec,eci,ciY,hc.one,xmb,xim,es,xe3,hv.clean1,hl.clean1,hb.clean1,hc.clean1,clean,cAp,tR,mkM,xdb,disj,show Nat.blt 0 1=true from rfl]
  done
 have hsc:=xpl hR hP hQ (by omega) co
 by_cases he:scE (wA L S (prsM l) x y) wn (zn*wn)=0
 .rw[xta he]at hsc
  rw[hsc]at k1
  have h11:scM L S (prsM l) L S (mvY L S (prsM l) p q P Q) x y zn wn p q=((0,0),11):=by unfold scM;rw[xta co,xta (Or.inl he)]
  rw[h11]at es
  simp[mem0,hl.one,xge,cl',eb,xdv,xcy,hb.one,hl.len xfn,ei,c0,ew,c1,sIxA,asI,xeb,cp,cq,xk8,xk9,xka,xk7,n0,n1,ev,hv.one,ec,eci,ciY,hc.one,xmb,xim,es,xe3,hv.clean1,hl.clean1,hb.clean1,hc.clean1,clean,cAp,tR,mkM,xdb,disj,show Nat.blt 0 1=true from rfl]
  done
 rw[xtb he]at hsc
 have h0:=xgw (w:=wn) (xgg (wA L S (prsM l) x y)) (zn*wn)
 have hpos:0<scE (wA L S (prsM l) x y) wn (zn*wn)*scE (wA L S (prsM l) x y) wn (zn*wn):=xwk (by unfold scE at *;omega) (by unfold scE at *;omega)
 rw[hsc]at k1 k2
 have hM1:scM L S (prsM l) L S (mvY L S (prsM l) p q P Q) x y zn wn p q=((1,1),0):=Prod.ext (by rw[k2 rfl];exact xph hpos) k1
 rw[hM1]at es
 have hbo:boE L S (prsM l) L S (mvY L S (prsM l) p q P Q) x y zn wn 4=0:=by unfold boE;rw[xta hse];rfl
 obtain⟨o,ho,be⟩:=w_BestO (L:=L) (S:=S) (L2:=L) (S2:=S) 21 hb (by omega) hv hYl (x:=x) (y:=y) (z:=zn) (w:=wn) (R:=4) hbo
 obtain⟨f,rfl,hf1,hf2⟩:=xri hR hP hQ hz.2 hw co he (R:=4) (by unfold grid;omega) ho
 simp only[byO,loO,Option.isSome,xtw,hf1]at be
 have hg:=Best.own ho
 unfold grid at hg
 have s1:=λm=>xjg 29 f.p m (by omega) (by omega)
 have s2:=λm=>xjg 29 f.q m (by omega) (by omega)
 have s3:=λm=>xjg 29 p m (by omega) (by omega)
 have s4:=λm=>xjg 29 q m (by omega) (by omega)
 have hcw:cwE L S (prsM l) x y zn wn=0:=by unfold cwE;rw[xta c0];exact c1
 obtain⟨u,hu,eu⟩:=w_Cut (L:=L) (S:=S) 21 hb (by omega) x y zn wn hcw
 rw[xur,xur]at hu
 have hfit:=fit_of c1
 have E1:∀k,wi k 0 2=true->reE L S (mvY L S (prsM l) p q P Q) k P Q (mvA p q)=0:=λk ck=>by
  unfold reE;rw[xta ciY];exact hrs _ ck _ _ (w70 _ (by omega) (by omega)) (w70 _ (by omega) (by omega))
 have E2:∀k,wi k 0 2=true->cwE L S (allR L S (mvY L S (prsM l) p q P Q) k (mvA p q) Q 0 P) x y zn wn=0/\gAll (wpx L S (allR L S (mvY L S (prsM l) p q P Q) k (mvA p q) Q 0 P) x y) (wn:Int).toNat 0 (zn:Int).toNat=gAll (wpx L S (prsM l) x y) wn 0 zn:=λk ck=>by
  refine⟨?_,by rw[xur,xur];exact xrj hR hP hQ ck hfit co⟩
  unfold cwE
  rw[xta (imE_of (mv_RtI hRY ck p q hP hQ))]
  exact c1
 have q1:w64 ((f.p.natAbs:Int)+f.q.natAbs)=(f.p.natAbs:Int)+f.q.natAbs:=xd6 (by omega) (by omega)
 have q2:w64 ((p.natAbs:Int)+q.natAbs)=(p.natAbs:Int)+q.natAbs:=xd6 (by omega) (by omega)
 have hsum:¬((f.p.natAbs:Int)+f.q.natAbs > (p.natAbs:Int)+q.natAbs):=by omega
 simp(maxSteps:=1000000) [mem0,hl.one,xge,cl',eb,xdv,xcy,hb.one,hl.len xfn,ei,c0,ew,c1,sIxA,asI,xeb,cp,cq,xk8,xk9,xka,xk7,n0,n1,ev,hv.one,ec,eci,ciY,hc.one,xmb,xim,es,xe3,be,xm8,ne_two,s1,s2,s3,s4,q1,q2,hsum,eu,hu.one,hu.clean1,hv.clean1,hl.clean1,hb.clean1,hc.clean1,clean,cAp,tR,mkM,xdb,disj,show Nat.blt 0 1=true from rfl]
 generalize hM:Mem.set _ _ _=M
 have hn:M.next=1:=by rw[<-hM];rfl
 have g3:M.get (0,0,3)=some (.row [I L,I S,a] 0 false):=by rw[<-hM];simp
 have g4:M.get (0,1,4)=some (.row [I x,I y,I zn,I wn] 0 false):=by rw[<-hM];simp
 have g5:M.get (0,2,5)=some (.row [I p,I q] 0 false):=by rw[<-hM];simp
 have g8:M.get (0,57,8)=some (.row [I L,I S,v] 0 false):=by rw[<-hM];simp
 have g18:M.get (0,146,18)=some (.row [I zn,I wn,u] 0 false):=by rw[<-hM];simp
 unfold x7o
 rw[show(I 0:AV)=I ((0:Nat):Int)from rfl]
 exact l_found hv hYl hu (by rw[xpn];have:=xuh hz.2 hw.2;omega) hP hQ (by omega) (by omega) E1 E2 3 0 NN _ M rfl (by rw[xdy];omega) hn g3 g4 g5 g8 g18
end Go.Ix
