import Derived.Test.YtjdlceelbnaneaaWg10
import Derived.Test.YtjdlceelbnaneaaWg4
import Derived.Test.YtjdlceelbnaneaaWg15
import Derived.Test.YtjdlceelbnaneaaWg16
set_option linter.unusedSimpArgs false
set_option linter.unusedVariables false
namespace Go.Ix
open Go.Proofs
attribute [local simp high] rd_5
variable{a:AV}{l:List Mp}
end Go.Ix
set_option exponentiation.threshold 3000
namespace Go.Ix
open Go.Proofs Ieee
variable{a b:AV}{D D2:List Px}{L S L2 S2:Int}
theorem w_LPair(d:Nat)(L S L2 S2:Int){l r:List Nat}(ha:Sl f32E a l)(hb:Sl f32E b r)(hl:l.length<=1048576)(hl2:r.length<=1048576):∃p q,Sl pxE p (prsM l)/\Sl pxE q (prsM r)/\∀m,xbz (xby (d+3)) x12 [.agg [I L,I S,a,I L2,I S2,b]] m=some (.agg [I L,I S,p,I L2,I S2,q],m):=by
 obtain⟨p,hp,ep⟩:=xne d L S ha hl
 obtain⟨q,hq,eq⟩:=xne d L2 S2 hb hl2
 refine⟨p,q,hp,hq,λm=>xc8 (by simp[ha.still1,hb.still1]) ?_ m⟩
 rw[x8q]
 unfold x5w x3q
 simp[mem0,ha.one,hb.one,xip,xc2,ep,eq,xko,hp.one,hq.one,cAp,tR,mkM,clean,ha.clean1,hb.clean1,sLdP,show Nat.blt 0 1=true from rfl]
 exact RetF.st (by simp[hp.still1,hq.still1]) rfl
theorem w_both(d:Nat)(L S L2 S2:Int){l r:List Nat}(ha:Sl f32E a l)(hb:Sl f32E b r)(m:Mem):xbz (xby (d+2)) x1p [.agg [I L,I S,a,I L2,I S2,b]] m=some (B (decide (l.length<=200)&&decide (r.length<=200)),m):=by
 have s1:=λm=>xnf d L S ha m
 have s2:=λm=>xnf d L2 S2 hb m
 refine xc8 (by simp[ha.still1,hb.still1]) ?_ m
 rw[x8p]
 unfold x5v x3p
 by_cases c:l.length<=200
 .simp[mem0,ha.one,hb.one,s1,s2,c]
  exact RetF.st rfl rfl
 .simp[mem0,ha.one,hb.one,s1,s2,c]
  exact RetF.st rfl rfl
end Go.Ix
namespace Go.Ix
open Go.Proofs
variable{a b:AV}{D D2:List Px}{L S L2 S2:Int}
def boE(L S:Int)(D:List Px)(L2 S2:Int)(D2:List Px)(x y z w R:Int):Int:=if seE L S D L2 S2 D2 x y z w=0 then(bif wi R 0 4 then 0 else 2)else seE L S D L2 S2 D2 x y z w
theorem w_BestE(d:Nat)(ha:Sl pxE a D)(hl:D.length<=5000)(hb:Sl pxE b D2)(hl2:D2.length<=5000)(x y z w R:Int)(he:boE L S D L2 S2 D2 x y z w R≠0)(m:Mem):xbz (xby (d+9)) x13 [.agg [I L,I S,a,I L2,I S2,b],.agg [I x,I y,I z,I w],I R] m
 = some (.tup [.agg [I 0,I 0],.agg [I 0,I 0],I (boE L S D L2 S2 D2 x y z w R)],m):=by
 have po:=λm=>xnn (L:=L) (S:=S) (L2:=L2) (S2:=S2) d ha hl hb hl2 m
 refine xc8 (by simp[ha.still1,hb.still1]) ?_ m
 rw[x8d]
 unfold x3k x30
 unfold boE seE at he ⊢
 by_cases c:prE L S D L2 S2 D2=0
 rotate_left
 .simp[mem0,ha.one,hb.one,xcs,xet,xc2,po,c,sLdP,tR,tS,xcl,disj]
  exact RetF.tup rfl rfl
 have we:=λm=>xnk (d+5) ha (imE_0 (prE_0 c).1) x y z w m
 by_cases c2:winE L S x y z w=0
 rotate_left
 .simp[mem0,ha.one,hb.one,xcs,xet,xc2,po,c,we,c2,sLdP,tR,tS,xcl,disj]
  exact RetF.tup rfl rfl
 cases c3:wi R 0 4
 .simp[mem0,ha.one,hb.one,xcs,xet,xc2,po,c,we,c2,xdx,c3,sLdP,tR,tS,xcl,disj]
  exact RetF.tup rfl rfl
 .simp[c,c2,c3]at he
theorem boE_0{x y z w R:Int}(h:boE L S D L2 S2 D2 x y z w R=0):seE L S D L2 S2 D2 x y z w=0/\(0<=R/\R<=4)/\wi R 0 4=true:=by
 unfold boE at h
 by_cases c:seE L S D L2 S2 D2 x y z w=0
 .rw[xr8 c]at h
  cases c2:wi R 0 4
  .rw[c2]at h;exact absurd h (by decide)
  .exact⟨c,wi_t c2,rfl⟩
 .rw[xr9 c]at h;exact absurd h c
theorem w_BestO(d:Nat)(ha:Sl pxE a D)(hl:D.length<=5000)(hb:Sl pxE b D2)(hl2:D2.length<=5000){x y:Int}{z w:Nat}{R:Int}(he:boE L S D L2 S2 D2 x y z w R=0):∃o,BestO (scO L S D L2 S2 D2 x y z w) (grid R) o/\∀m,xbz (xby (d+9)) x13 [.agg [I L,I S,a,I L2,I S2,b],.agg [I x,I y,I z,I w],I R] m
 = some (.tup [.agg (byO o),.agg (loO o),I (if o.isSome=true then 0 else 12)],m):=by
 obtain⟨h1,h2,h3⟩:=boE_0 he
 obtain⟨c,hR,hR2,c2,hx,hy,zn,wn,e1,e2,hz,hw⟩:=seE_0 h1
 have e1:z=zn:=by omega
 have e2:w=wn:=by omega
 subst e1 e2
 obtain⟨o,ho,eo⟩:=w_best (d+2) ha hR hb hR2 hz hw hx hy h2
 refine⟨o,ho,λm=>?_⟩
 have po:=λm=>xnn (L:=L) (S:=S) (L2:=L2) (S2:=S2) d ha hl hb hl2 m
 have we:=λm=>xnk (d+5) ha hR x y z w m
 refine xc8 (by simp[ha.still1,hb.still1]) ?_ m
 rw[x8d]
 unfold x3k x30
 cases o with
 |none=>
  have eo':∀m,xbz (xby (d+8)) xp [.agg [I L,I S,a,I L2,I S2,b],.agg [I x,I y,I z,I w],I R] m=some (.tup [.agg [I 0,I 0,I 0,I 0],B false],m):=eo
  simp[mem0,ha.one,hb.one,xcs,xet,xfw,xc2,po,c,we,c2,xdx,h3,eo',sLdP,tR,tS,xcl,disj]
  exact RetF.tup rfl rfl
 |some f=>
  have eo':∀m,xbz (xby (d+8)) xp [.agg [I L,I S,a,I L2,I S2,b],.agg [I x,I y,I z,I w],I R] m=some (.tup [.agg [I f.p,I f.q,I f.n,I f.e],B true],m):=eo
  have hbf:=xgk hR hR2 hz.2 hw.2 (Best.hs ho)
  have lo:=λm=>w_lowest (d+5) (n:=f.n) (e:=f.e) hbf.1 hbf.2.1 (by omega) (by omega) m
  simp[mem0,ha.one,hb.one,xcs,xet,xfw,xc2,po,c,we,c2,xdx,h3,eo',lo,sLdP,tR,tS,xcl,disj,cAp,mkM,clean]
  exact RetF.tup rfl rfl
theorem law_MatchBests(L S:Int){l r:List Nat}(ha:Sl f32E a l)(L2 S2:Int)(hb:Sl f32E b r)(x y z w:Int)(R:Int):∃m',xby 31 [] x2x [.agg [I L,I S,a,I L2,I S2,b],.agg [I x,I y,I z,I w],I R] mem0=some (B true,m'):=by
 rw[x8o]
 unfold x5u x3n
 have bo:=λm=>w_both 28 L S L2 S2 ha hb m
 by_cases cl:l.length<=200
 rotate_left
 .simp[mem0,ha.one,hb.one,xhc,bo,cl]
 by_cases cr:r.length<=200
 rotate_left
 .simp[mem0,ha.one,hb.one,xhc,bo,cl,cr]
 obtain⟨u,v,hu,hv,ep⟩:=w_LPair 27 L S L2 S2 ha hb (by omega) (by omega)
 have hD:=xkk l
 have hD2:=xkk r
 have ee:=λm=>xpi (L:=L) (S:=S) (L2:=L2) (S2:=S2) 23 hu (by omega) hv (by omega) x y z w m
 by_cases c:boE L S (prsM l) L2 S2 (prsM r) x y z w R=0
 rotate_left
 .have be:=λm=>w_BestE (L:=L) (S:=S) (L2:=L2) (S2:=S2) 21 hu (by omega) hv (by omega) x y z w R c m
  simp[mem0,ha.one,hb.one,hu.one,hv.one,xhc,bo,cl,cr,ep,be,ee,xcs,xip,xc2,cAp,tR,mkM,clean,ha.clean1,hb.clean1,hu.clean1,hv.clean1,xcl,disj,show Nat.blt 0 1=true from rfl]
  unfold x2z x2h
  unfold boE at c ⊢
  by_cases c1:seE L S (prsM l) L2 S2 (prsM r) x y z w=0
  .rw[xr8 c1]at c ⊢
   cases c2:wi R 0 4
   .simp[c1,c2,xd7,xcs,xdf,xil]
   .rw[c2]at c;exact absurd rfl c
  .rw[xr9 c1]at c ⊢
   simp[c1,xcs,xdf,xil]
 obtain⟨c1,hr,c2⟩:=boE_0 c
 obtain⟨-,hR,hR2,-,hx,hy,zn,wn,rfl,rfl,hz,hw⟩:=seE_0 c1
 obtain⟨o,ho,be⟩:=w_BestO (L:=L) (S:=S) (L2:=L2) (S2:=S2) 21 hu (by omega) hv (by omega) (x:=x) (y:=y) (z:=zn) (w:=wn) (R:=R) c
 obtain⟨o2,ho2,re⟩:=w_rBest 25 hu hR hv hR2 hz hw hx hy hr
 have:=ho.uniq ho2
 subst this
 cases o with
 |none=>
  simp only[byO,loO,Option.isSome]at be re
  simp[mem0,ha.one,hb.one,hu.one,hv.one,xhc,bo,cl,cr,ep,be,ee,xcs,xip,xc2,cAp,tR,mkM,clean,ha.clean1,hb.clean1,hu.clean1,hv.clean1,xcl,disj,show Nat.blt 0 1=true from rfl]
  unfold x2z x2h
  simp[c1,c2,xd7,xcs,xdf,xil,re,xc2]
 |some f=>
  simp only[byO,loO,Option.isSome]at be re
  simp[mem0,ha.one,hb.one,hu.one,hv.one,xhc,bo,cl,cr,ep,be,ee,xcs,xip,xc2,cAp,tR,mkM,clean,ha.clean1,hb.clean1,hu.clean1,hv.clean1,xcl,disj,show Nat.blt 0 1=true from rfl]
  unfold x2z x2h
  simp[c1,c2,xd7,xcs,xdf,xil,re,xc2]
end Go.Ix
