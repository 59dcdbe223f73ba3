import Derived.Test.YtjdlceelbnaneaaWg16
import Derived.Test.YtjdlceelbnaneaaWg17
import Derived.Test.YtjdlceelbnaneaaWg12
import Derived.Test.YtjdlceelbnaneaaWg5
set_option linter.unusedSimpArgs false
set_option linter.unusedVariables false
set_option exponentiation.threshold 3000
namespace Go.Ix
open Go.Proofs Ieee
variable{a:AV}{D:List Px}{L S:Int}
end Go.Ix
namespace Go.Ix
open Go.Proofs Ieee
variable{a:AV}{D:List Px}{L S:Int}
section
variable(d:Nat)(hs:FHs)(ha:Sl pxE a D)(hR:RtI L S D){x y:Int}{z w:Nat}(hx:bd x 100000)(hy:bd y 100000)(hz:z<=8)(hw:w<=8)
include ha hR hx hy hw
include hz
end
theorem cwE_0{x y z w:Int}(he:cwE L S D x y z w=0):(imE L S D).2=0/\(1<=z/\z<=8)/\(1<=w/\w<=8)/\fitB L S x y z w=true/\bd x 64/\bd y 64:=by
 have c0:(imE L S D).2=0:=by
  unfold cwE at he
  by_cases c:(imE L S D).2=0
  .exact c
  .rw[xmz c]at he;exact absurd he c
 have hR:=imE_0 c0
 have we:winE L S x y z w=0:=by unfold cwE at he;rwa[xmy c0]at he
 unfold winE at we
 cases c1:wi z 1 8
 .simp[c1]at we
 cases c2:wi w 1 8
 .simp[c1,c2]at we
 cases c3:fitB L S x y z w
 .simp[c1,c2,c3]at we
 have hf:=c3
 unfold fitB at hf
 rw[xn2]at hf
 have hx:=wi_t hf.1
 have hy:=wi_t hf.2
 have hL:=wi_t hR.l
 have hS:=wi_t hR.s
 have h1:=wi_t c1
 have h2:=wi_t c2
 exact⟨c0,h1,h2,rfl,by unfold bd;omega,by unfold bd;omega⟩
end Go.Ix
namespace Go.Ix
open Go.Proofs Ieee
variable{a b:AV}{D D2:List Px}{L S L2 S2:Int}
theorem xbp:x25=[I 0,I 0,nilS,I 0,I 0,nilS]:=by kernel_rfl
theorem xdc:x2n=[I 0,I 0,nilS,I 0,I 0,nilS]:=by kernel_rfl
theorem xfd:x64=[I 0,I 0,nilS,I 0,I 0,nilS]:=by kernel_rfl
theorem z_2img:x66=[I 0,I 0,nilS,I 0,I 0,nilS]:=by kernel_rfl
theorem xcq(L S L2 S2:Int)(a b:AV):x9h [I 0,I 0,nilS,I 0,I 0,nilS] [(0,3,.agg [I L,I S,a]),(3,3,.agg [I L2,I S2,b])]=some (.agg [I L,I S,a,I L2,I S2,b]):=rfl
theorem xh4:x9h [I 0,I 0,nilS,I 0,I 0,nilS] []=some (.agg [I 0,I 0,nilS,I 0,I 0,nilS]):=rfl
theorem idx_i0(L S L2 S2:Int)(a b:AV):sIdx Try.prog x36 (.agg [I L,I S,a,I L2,I S2,b]) (I 0)=some (.agg [I L,I S,a]):=by kernel_rfl
theorem idx_i1(L S L2 S2:Int)(a b:AV):sIdx Try.prog x36 (.agg [I L,I S,a,I L2,I S2,b]) (I 1)=some (.agg [I L2,I S2,b]):=by kernel_rfl
def prE(L S:Int)(D:List Px)(L2 S2:Int)(D2:List Px):Int:=if(imE L S D).2=0 then(imE L2 S2 D2).2 else(imE L S D).2
theorem w_pairOf(d:Nat)(ha:Sl pxE a D)(hl:D.length<=5000)(hb:Sl pxE b D2)(hl2:D2.length<=5000)(m:Mem):x8x (x8w (d+8)) x1b [.agg [I L,I S,a,I L2,I S2,b]] m
 = some (.tup [if prE L S D L2 S2 D2=0 then .agg [I L,I S,a,I L2,I S2,b]else .agg [I 0,I 0,nilS,I 0,I 0,nilS],I (prE L S D L2 S2 D2)],m):=by
 have i1:=λm=>xjv (L:=L) (S:=S) d ha hl m
 have i2:=λm=>xjv (L:=L2) (S:=S2) d hb hl2 m
 refine x99 (by simp[ha.still1,hb.still1]) ?_ m
 rw[x6r]
 obtain⟨NM,hNM⟩:∃NM,NN=NM+3:=⟨NN-3,by have:=xb9;omega⟩
 unfold x4m x38 x5n prE
 simp[mem0,ha.one,hb.one,x93,xbp,z_2img,xcq,hNM]
 simp only[x37]
 unfold x5m x5l
 by_cases c1:(imE L S D).2=0
 rotate_left
 .simp[idx_i0,xda,x93,ha.one,i1,c1,xbp,xh4,sLdP]
  exact RetF.tup rfl rfl
 by_cases c2:(imE L2 S2 D2).2=0
 rotate_left
 .simp[idx_i0,idx_i1,xda,x93,ha.one,hb.one,i1,i2,c1,c2,xbp,xh4,sLdP,x95]
  exact RetF.tup rfl rfl
 .simp[idx_i0,idx_i1,xda,x93,ha.one,hb.one,i1,i2,c1,c2,xbp,xh4,sLdP,x95,xlm,xcq]
  exact RetF.tup (by simp[ha.still1,hb.still1]) rfl
theorem xln(d:Nat)(ha:Sl pxE a D)(hl:D.length<=5000)(hb:Sl pxE b D2)(hl2:D2.length<=5000)(m:Mem):x8x (x8w (d+6)) x1e [.agg [I L,I S,a,I L2,I S2,b]] m=some (I (prE L S D L2 S2 D2),m):=by
 have i1:=λm=>xjw (L:=L) (S:=S) d ha hl m
 have i2:=λm=>xjw (L:=L2) (S:=S2) d hb hl2 m
 refine x99 (by simp[ha.still1,hb.still1]) ?_ m
 rw[x6u]
 unfold x4p x3d prE
 by_cases c1:(imE L S D).2=0
 .simp[mem0,ha.one,hb.one,i1,i2,c1]
  exact RetF.st rfl rfl
 .simp[mem0,ha.one,hb.one,i1,i2,c1]
  exact RetF.st rfl rfl
def seE(L S:Int)(D:List Px)(L2 S2:Int)(D2:List Px)(x y z w:Int):Int:=if prE L S D L2 S2 D2=0 then winE L S x y z w else prE L S D L2 S2 D2
theorem prE_0(h:prE L S D L2 S2 D2=0):(imE L S D).2=0/\(imE L2 S2 D2).2=0:=by
 unfold prE at h
 by_cases c:(imE L S D).2=0
 .rw[xmy c]at h;exact⟨c,h⟩
 .rw[xmz c]at h;exact absurd h c
theorem xlo(d:Nat)(ha:Sl pxE a D)(hl:D.length<=5000)(hb:Sl pxE b D2)(hl2:D2.length<=5000)(x y z w:Int)(m:Mem):x8x (x8w (d+7)) x16 [.agg [I L,I S,a,I L2,I S2,b],.agg [I x,I y,I z,I w]] m=some (I (seE L S D L2 S2 D2 x y z w),m):=by
 have i1:=λm=>xln (L:=L) (S:=S) (L2:=L2) (S2:=S2) d ha hl hb hl2 m
 refine x99 (by simp[ha.still1,hb.still1]) ?_ m
 rw[x6h]
 unfold x4c x2r seE
 by_cases c:prE L S D L2 S2 D2=0
 .have we:=λm=>xll (d+3) ha (imE_0 (prE_0 c).1) x y z w m
  simp[mem0,ha.one,hb.one,i1,c,we]
  exact RetF.st rfl rfl
 .simp[mem0,ha.one,hb.one,i1,c]
  exact RetF.st rfl rfl
theorem seE_0{x y z w:Int}(h:seE L S D L2 S2 D2 x y z w=0):prE L S D L2 S2 D2=0/\RtI L S D/\RtI L2 S2 D2/\winE L S x y z w=0/\(0<=x/\x<=64)/\(0<=y/\y<=64)/\∃zn wn:Nat,z=zn/\w=wn/\(1<=zn/\zn<=8)/\1<=wn/\wn<=8:=by
 unfold seE at h
 by_cases c:prE L S D L2 S2 D2=0
 rotate_left
 .rw[xmz c]at h;exact absurd h c
 rw[xmy c]at h
 obtain⟨c1,c2⟩:=prE_0 c
 have hR:=imE_0 c1
 have hc:cwE L S D x y z w=0:=by unfold cwE;rw[xmy c1];exact h
 obtain⟨-,hz,hw,hf,-,-⟩:=cwE_0 hc
 unfold fitB at hf
 rw[xn2]at hf
 have hx:=wi_t hf.1
 have hy:=wi_t hf.2
 have hL:=wi_t hR.l
 have hS:=wi_t hR.s
 exact⟨c,hR,imE_0 c2,h,by omega,by omega,z.toNat,w.toNat,by omega,by omega,by omega,by omega⟩
theorem w_lowest(d:Nat){n e:Int}(h0:0<=n)(he:0<e)(hb:n<=4000000000000000000)(hb2:e<=4000000000000000000)(m:Mem):x8x (x8w (d+3)) x1d [.agg [I n,I e]] m=some (.agg [I (lowN n e).1,I (lowN n e).2],m):=by
 obtain⟨l1,l2,l3,-⟩:=low_ok h0 he (by omega) (by omega)
 have gc:=λm=>xle d (a:=n) (b:=e) (by unfold bd;omega) (by unfold bd;omega) m
 refine x99 rfl ?_ m
 rw[x6t]
 unfold x4o x3c
 simp[mem0,xa0,x93,gc]
 rw[xdv (by omega),xdv (by omega),l2,l3]
 simp[xcp,sLdP]
 exact RetF.st (by simp) rfl
noncomputable def scP(L S:Int)(D:List Px)(L2 S2:Int)(D2:List Px)(x y z w p q:Int):(Int×Int)×Int:=
 if seE L S D L2 S2 D2 x y z w=0 then scM L S D L2 S2 D2 x y z.toNat w.toNat p q else((0,0),seE L S D L2 S2 D2 x y z w)
theorem w_Score(d:Nat)(ha:Sl pxE a D)(hl:D.length<=5000)(hb:Sl pxE b D2)(hl2:D2.length<=5000)(x y z w:Int){p q:Int}(hp:inW p)(hq:inW q)(m:Mem):x8x (x8w (d+9)) xr [.agg [I L,I S,a,I L2,I S2,b],.agg [I x,I y,I z,I w],.agg [I p,I q]] m
 = some (.tup [.agg [I (scP L S D L2 S2 D2 x y z w p q).1.1,I (scP L S D L2 S2 D2 x y z w p q).1.2],I (scP L S D L2 S2 D2 x y z w p q).2],m):=by
 have po:=λm=>w_pairOf (L:=L) (S:=S) (L2:=L2) (S2:=S2) d ha hl hb hl2 m
 refine x99 (by simp[ha.still1,hb.still1]) ?_ m
 rw[x6f]
 unfold x4a x2p scP seE
 by_cases c:prE L S D L2 S2 D2=0
 rotate_left
 .simp[mem0,ha.one,hb.one,xa0,xbp,x93,po,c,x9v,sLdP]
  exact RetF.tup rfl rfl
 have we:=λm=>xlk (d+5) ha (imE_0 (prE_0 c).1) x y z w m
 by_cases c2:winE L S x y z w=0
 rotate_left
 .simp[mem0,ha.one,hb.one,xa0,xbp,x93,po,c,we,c2,x9v,sLdP]
  exact RetF.tup rfl rfl
 obtain⟨-,hR,hR2,-,hx,hy,zn,wn,rfl,rfl,hz,hw⟩:=seE_0 (show seE L S D L2 S2 D2 x y z w=0 by unfold seE;rw[xmy c];exact c2)
 rw[xmy c,xmy c2,xoi,xoi]
 unfold scM
 cases co:xbd L2 S2 x y zn wn p q
 .have so:=λm=>w_scoreB (d+3) ha hR hb hR2 (z:=(zn:Int)) (w:=(wn:Int)) (by omega) (by omega) hx hy hp hq co m
  simp[mem0,ha.one,hb.one,xa0,xbp,xbc,x93,po,c,we,c2,x9v,sLdP,so]
  exact RetF.tup rfl rfl
 have so:=λm=>w_scoreO (d+3) ha hR hb hR2 hz hw hx hy co m
 have hnn:zn*wn<=64:=xnl (xox hz.2 hw.2) (by omega)
 have hA:=xas hR x y
 have hB:=xas hR2 (x+p) (y+q)
 obtain⟨q1,q2,q3,q4,q5,q6,q7⟩:=xbe (w:=wn) hA hB hnn
 obtain⟨-,-,r3,r4,-⟩:=xbe (w:=wn) hB hB hnn
 by_cases k:scE (wA L S D x y) wn (zn*wn)=0\/scE (wA L2 S2 D2 (x+p) (y+q)) wn (zn*wn)=0
 .simp only[xmy k]at so ⊢
  simp[mem0,ha.one,hb.one,xa0,xbp,xbc,x93,po,c,we,c2,x9v,sLdP,so]
  exact RetF.tup rfl rfl
 .simp only[xmz k]at so ⊢
  have hpos:0<scE (wA L S D x y) wn (zn*wn)*scE (wA L2 S2 D2 (x+p) (y+q)) wn (zn*wn):=by
   have k1:scE (wA L S D x y) wn (zn*wn)≠0:=λh=>k (Or.inl h)
   have k2:scE (wA L2 S2 D2 (x+p) (y+q)) wn (zn*wn)≠0:=λh=>k (Or.inr h)
   exact xpu (by omega) (by omega)
  have lo:=λm=>w_lowest (d+5) q5 hpos (by omega) (by omega) m
  simp[mem0,ha.one,hb.one,xa0,xbp,xbc,x93,po,c,we,c2,x9v,sLdP,so,lo]
  exact RetF.tup rfl rfl
open Go.Proofs
attribute [local simp high] rd_5
variable{a:AV}{l:List Mp}
theorem xfe(X Y:Operand)(x y z w:Int):sBin Try.prog .neq xb X Y (.agg [I x,I y]) (.agg [I z,I w])=some (B (!decide (x=z/\y=w))):=by
 have:=eq_pair X Y (x,y) (z,w)
 have e:decide ((x,y)=(z,w))=decide (x=z/\y=w):=by rw[decide_eq_decide,xn0]
 rw[<-e];exact this
end Go.Ix
