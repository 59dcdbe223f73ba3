import Derived.Test.YtjdlceelbnaneaaWg13
import Derived.Test.YtjdlceelbnaneaaWg14
set_option linter.unusedSimpArgs false
set_option linter.unusedVariables false
set_option exponentiation.threshold 3000
namespace Go.Ix
open Go.Proofs Ieee
variable{a:AV}{D:List Px}{L S:Int}
end Go.Ix
namespace Go.Ix
open Go.Proofs Ieee
variable{a:AV}{D:List Px}{L S:Int}
section
variable(d:Nat)(hs:FHs)(ha:Sl pxE a D)(hR:RtI L S D){x y:Int}{z w:Nat}(hx:bd x 100000)(hy:bd y 100000)(hz:z<=8)(hw:w<=8)
include ha hR hx hy hw
include hz
end
theorem cwE_0{x y z w:Int}(he:cwE L S D x y z w=0):(imE L S D).2=0/\(1<=z/\z<=8)/\(1<=w/\w<=8)/\fitB L S x y z w=true/\bd x 64/\bd y 64:=by
 have c0:(imE L S D).2=0:=by
  unfold cwE at he
  by_cases c:(imE L S D).2=0
  .exact c
  .rw[xn6 c]at he;exact absurd he c
 have hR:=imE_0 c0
 have we:winE L S x y z w=0:=by unfold cwE at he;rwa[xn5 c0]at he
 unfold winE at we
 cases c1:wi z 1 8
 .simp[c1]at we
 cases c2:wi w 1 8
 .simp[c1,c2]at we
 cases c3:fitB L S x y z w
 .simp[c1,c2,c3]at we
 have hf:=c3
 unfold fitB at hf
 rw[xn9]at hf
 have hx:=wi_t hf.1
 have hy:=wi_t hf.2
 have hL:=wi_t hR.l
 have hS:=wi_t hR.s
 have h1:=wi_t c1
 have h2:=wi_t c2
 exact⟨c0,h1,h2,rfl,by unfold bd;omega,by unfold bd;omega⟩
end Go.Ix
namespace Go.Ix
open Go.Proofs Ieee
variable{a b:AV}{D D2:List Px}{L S L2 S2:Int}
theorem xba:x20=[I 0,I 0,nilS,I 0,I 0,nilS]:=by kernel_rfl
theorem z_mpair:x5l=[I 0,I 0,nilS,I 0,I 0,nilS]:=by kernel_rfl
theorem z_2img:x6i=[I 0,I 0,nilS,I 0,I 0,nilS]:=by kernel_rfl
theorem xhb(L S L2 S2:Int)(a b:AV):x9u [I 0,I 0,nilS,I 0,I 0,nilS] [(0,3,.agg [I L,I S,a]),(3,3,.agg [I L2,I S2,b])]=some (.agg [I L,I S,a,I L2,I S2,b]):=rfl
theorem xhc:x9u [I 0,I 0,nilS,I 0,I 0,nilS] []=some (.agg [I 0,I 0,nilS,I 0,I 0,nilS]):=rfl
theorem idx_i0(L S L2 S2:Int)(a b:AV):sIdx Try.prog x39 (.agg [I L,I S,a,I L2,I S2,b]) (I 0)=some (.agg [I L,I S,a]):=by kernel_rfl
theorem idx_i1(L S L2 S2:Int)(a b:AV):sIdx Try.prog x39 (.agg [I L,I S,a,I L2,I S2,b]) (I 1)=some (.agg [I L2,I S2,b]):=by kernel_rfl
def prE(L S:Int)(D:List Px)(L2 S2:Int)(D2:List Px):Int:=if(imE L S D).2=0 then(imE L2 S2 D2).2 else(imE L S D).2
theorem xk7(d:Nat)(ha:Sl pxE a D)(hl:D.length<=5000)(hb:Sl pxE b D2)(hl2:D2.length<=5000)(m:Mem):x99 (x98 (d+8)) x16 [.agg [I L,I S,a,I L2,I S2,b]] m
 = some (.tup [if prE L S D L2 S2 D2=0 then .agg [I L,I S,a,I L2,I S2,b]else .agg [I 0,I 0,nilS,I 0,I 0,nilS],I (prE L S D L2 S2 D2)],m):=by
 have i1:=λm=>xjy (L:=L) (S:=S) d ha hl m
 have i2:=λm=>xjy (L:=L2) (S:=S2) d hb hl2 m
 refine x9k (by simp[ha.still1,hb.still1]) ?_ m
 rw[x71]
 obtain⟨NM,hNM⟩:∃NM,NN=NM+3:=⟨NN-3,by have:=xay;omega⟩
 unfold x4q x3b x5s prE
 simp[mem0,ha.one,hb.one,x9e,xba,z_2img,xhb,hNM]
 simp only[x3a]
 unfold x5r x5q
 by_cases c1:(imE L S D).2=0
 rotate_left
 .simp[idx_i0,xdd,x9e,ha.one,i1,c1,xba,xhc,sLdP]
  exact RetF.tup rfl rfl
 by_cases c2:(imE L2 S2 D2).2=0
 rotate_left
 .simp[idx_i0,idx_i1,xdd,x9e,ha.one,hb.one,i1,i2,c1,c2,xba,xhc,sLdP,x9j]
  exact RetF.tup rfl rfl
 .simp[idx_i0,idx_i1,xdd,x9e,ha.one,hb.one,i1,i2,c1,c2,xba,xhc,sLdP,x9j,xlu,xhb]
  exact RetF.tup (by simp[ha.still1,hb.still1]) rfl
def seE(L S:Int)(D:List Px)(L2 S2:Int)(D2:List Px)(x y z w:Int):Int:=if prE L S D L2 S2 D2=0 then winE L S x y z w else prE L S D L2 S2 D2
theorem prE_0(h:prE L S D L2 S2 D2=0):(imE L S D).2=0/\(imE L2 S2 D2).2=0:=by
 unfold prE at h
 by_cases c:(imE L S D).2=0
 .rw[xn5 c]at h;exact⟨c,h⟩
 .rw[xn6 c]at h;exact absurd h c
theorem seE_0{x y z w:Int}(h:seE L S D L2 S2 D2 x y z w=0):prE L S D L2 S2 D2=0/\RtI L S D/\RtI L2 S2 D2/\winE L S x y z w=0/\(0<=x/\x<=64)/\(0<=y/\y<=64)/\∃zn wn:Nat,z=zn/\w=wn/\(1<=zn/\zn<=8)/\1<=wn/\wn<=8:=by
 unfold seE at h
 by_cases c:prE L S D L2 S2 D2=0
 rotate_left
 .rw[xn6 c]at h;exact absurd h c
 rw[xn5 c]at h
 obtain⟨c1,c2⟩:=prE_0 c
 have hR:=imE_0 c1
 have hc:cwE L S D x y z w=0:=by unfold cwE;rw[xn5 c1];exact h
 obtain⟨-,hz,hw,hf,-,-⟩:=cwE_0 hc
 unfold fitB at hf
 rw[xn9]at hf
 have hx:=wi_t hf.1
 have hy:=wi_t hf.2
 have hL:=wi_t hR.l
 have hS:=wi_t hR.s
 exact⟨c,hR,imE_0 c2,h,by omega,by omega,z.toNat,w.toNat,by omega,by omega,by omega,by omega⟩
theorem xk8(d:Nat){n e:Int}(h0:0<=n)(he:0<e)(hb:n<=4000000000000000000)(hb2:e<=4000000000000000000)(m:Mem):x99 (x98 (d+3)) x18 [.agg [I n,I e]] m=some (.agg [I (lowN n e).1,I (lowN n e).2],m):=by
 obtain⟨l1,l2,l3,-⟩:=low_ok h0 he (by omega) (by omega)
 have gc:=λm=>xlr d (a:=n) (b:=e) (by unfold bd;omega) (by unfold bd;omega) m
 refine x9k rfl ?_ m
 rw[x73]
 unfold x4s x3f
 simp[mem0,xai,x9e,gc]
 rw[xf0 (by omega),xf0 (by omega),l2,l3]
 simp[xk4,sLdP]
 exact RetF.st (by simp) rfl
noncomputable def scP(L S:Int)(D:List Px)(L2 S2:Int)(D2:List Px)(x y z w p q:Int):(Int×Int)×Int:=
 if seE L S D L2 S2 D2 x y z w=0 then scM L S D L2 S2 D2 x y z.toNat w.toNat p q else((0,0),seE L S D L2 S2 D2 x y z w)
theorem w_Score(d:Nat)(ha:Sl pxE a D)(hl:D.length<=5000)(hb:Sl pxE b D2)(hl2:D2.length<=5000)(x y z w:Int){p q:Int}(hp:inW p)(hq:inW q)(m:Mem):x99 (x98 (d+9)) x1n [.agg [I L,I S,a,I L2,I S2,b],.agg [I x,I y,I z,I w],.agg [I p,I q]] m
 = some (.tup [.agg [I (scP L S D L2 S2 D2 x y z w p q).1.1,I (scP L S D L2 S2 D2 x y z w p q).1.2],I (scP L S D L2 S2 D2 x y z w p q).2],m):=by
 have po:=λm=>xk7 (L:=L) (S:=S) (L2:=L2) (S2:=S2) d ha hl hb hl2 m
 refine x9k (by simp[ha.still1,hb.still1]) ?_ m
 rw[x6r]
 unfold x4g x2x scP seE
 by_cases c:prE L S D L2 S2 D2=0
 rotate_left
 .simp[mem0,ha.one,hb.one,xai,xba,x9e,po,c,xbm,sLdP]
  exact RetF.tup rfl rfl
 have we:=λm=>xk1 (d+5) ha (imE_0 (prE_0 c).1) x y z w m
 by_cases c2:winE L S x y z w=0
 rotate_left
 .simp[mem0,ha.one,hb.one,xai,xba,x9e,po,c,we,c2,xbm,sLdP]
  exact RetF.tup rfl rfl
 obtain⟨-,hR,hR2,-,hx,hy,zn,wn,rfl,rfl,hz,hw⟩:=seE_0 (show seE L S D L2 S2 D2 x y z w=0 by unfold seE;rw[xn5 c];exact c2)
 rw[xn5 c,xn5 c2,xp9,xp9]
 unfold scM
 cases co:xbn L2 S2 x y zn wn p q
 .have so:=λm=>xk5 (d+3) ha hR hb hR2 (z:=(zn:Int)) (w:=(wn:Int)) (by omega) (by omega) hx hy hp hq co m
  simp[mem0,ha.one,hb.one,xai,xba,xap,x9e,po,c,we,c2,xbm,sLdP,so]
  exact RetF.tup rfl rfl
 have so:=λm=>xk6 (d+3) ha hR hb hR2 hz hw hx hy co m
 have hnn:zn*wn<=64:=xns (xow hz.2 hw.2) (by omega)
 have hA:=xcd hR x y
 have hB:=xcd hR2 (x+p) (y+q)
 obtain⟨q1,q2,q3,q4,q5,q6,q7⟩:=xdf (w:=wn) hA hB hnn
 obtain⟨-,-,r3,r4,-⟩:=xdf (w:=wn) hB hB hnn
 by_cases k:scE (wA L S D x y) wn (zn*wn)=0\/scE (wA L2 S2 D2 (x+p) (y+q)) wn (zn*wn)=0
 .simp only[xn5 k]at so ⊢
  simp[mem0,ha.one,hb.one,xai,xba,xap,x9e,po,c,we,c2,xbm,sLdP,so]
  exact RetF.tup rfl rfl
 .simp only[xn6 k]at so ⊢
  have hpos:0<scE (wA L S D x y) wn (zn*wn)*scE (wA L2 S2 D2 (x+p) (y+q)) wn (zn*wn):=by
   have k1:scE (wA L S D x y) wn (zn*wn)≠0:=λh=>k (Or.inl h)
   have k2:scE (wA L2 S2 D2 (x+p) (y+q)) wn (zn*wn)≠0:=λh=>k (Or.inr h)
   exact xoo (by omega) (by omega)
  have lo:=λm=>xk8 (d+5) q5 hpos (by omega) (by omega) m
  simp[mem0,ha.one,hb.one,xai,xba,xap,x9e,po,c,we,c2,xbm,sLdP,so,lo]
  exact RetF.tup rfl rfl
open Go.Proofs
abbrev U6(n:Nat):AV:=.sc (.int .u64 (n:Int))
theorem xfh(n:Int):IntKind.wrap .u64 n=n % 18446744073709551616:=rfl
section
variable(t:TypeId)(X Y:Operand)
theorem u_and(a:Nat):sBin Try.prog .and t X Y (U6 a) (AV.sc (.int .u64 4294967295))=some (U6 (a % 4294967296)):=by
 refine xcq ?_
 have e:bin0 Try.prog .and t X Y (U6 a) (AV.sc (.int .u64 4294967295))=some (AV.sc (.int .u64 (IntKind.wrap .u64 ((BitVec.ofInt 64 (a:Int) &&& BitVec.ofInt 64 4294967295).toNat:Int)))):=rfl
 rw[e,xfh]
 have h1:BitVec.ofInt 64 (a:Int)=BitVec.ofNat 64 a:=by
  apply BitVec.eq_of_toNat_eq
  rw[BitVec.toNat_ofInt,BitVec.toNat_ofNat]
  omega
 have h2:BitVec.ofInt 64 4294967295=BitVec.ofNat 64 (2 ^ 32-1):=rfl
 rw[h1,h2,BitVec.toNat_and,BitVec.toNat_ofNat,BitVec.toNat_ofNat,show(2 ^ 32-1) % 2 ^ 64=2 ^ 32-1 by omega,Nat.and_two_pow_sub_one_eq_mod]
 congr 3
 omega
theorem u_shr(a:Nat):sBin Try.prog .shr t X Y (U6 a) (AV.sc (.int .u64 32))=some (U6 (a / 4294967296)):=by
 refine xcq ?_
 have e:bin0 Try.prog .shr t X Y (U6 a) (AV.sc (.int .u64 32))=some (AV.sc (.int .u64 ((a:Int).fdiv 4294967296))):=rfl
 rw[e,Int.fdiv_eq_ediv_of_nonneg _ (by omega)]
 rfl
theorem u_add(a b:Nat)(h:a+b<18446744073709551616):sBin Try.prog .add t X Y (U6 a) (U6 b)=some (U6 (a+b)):=by
 refine xcq ?_
 have e:bin0 Try.prog .add t X Y (U6 a) (U6 b)=some (AV.sc (.int .u64 (IntKind.wrap .u64 ((a:Int)+b)))):=rfl
 rw[e,xfh]
 congr 3
 omega
theorem u_mul(a b:Nat):sBin Try.prog .mul t X Y (U6 a) (U6 b)=some (U6 (a*b % 18446744073709551616)):=by
 refine xcq ?_
 have e:bin0 Try.prog .mul t X Y (U6 a) (U6 b)=some (AV.sc (.int .u64 (IntKind.wrap .u64 ((a:Int)*b)))):=rfl
 rw[e,xfh,<-Int.natCast_mul]
 rfl
theorem u_lss(a b:Nat):sBin Try.prog .lss t X Y (U6 a) (U6 b)=some (B (decide (a<b))):=by
 refine xcq ?_
 have e:bin0 Try.prog .lss t X Y (U6 a) (U6 b)=some (B (decide ((a:Int)<b))):=rfl
 rw[e]
 congr 2
 by_cases c:a<b
 .rw[xny c,xny (by omega)]
 .rw[xou c,xou (by omega)]
theorem u_gtr(a b:Nat):sBin Try.prog .gtr t X Y (U6 a) (U6 b)=some (B (decide (b<a))):=by
 refine xcq ?_
 have e:bin0 Try.prog .gtr t X Y (U6 a) (U6 b)=some (B (decide ((a:Int) > b))):=rfl
 rw[e]
 congr 2
 by_cases c:b<a
 .rw[xny c,xny (by omega)]
 .rw[xou c,xou (by omega)]
theorem u_neq(a:Nat):sBin Try.prog .neq t X Y (U6 a) (U6 a)=some (B false):=by
 refine xcq ?_
 have e:bin0 Try.prog .neq t X Y (U6 a) (U6 a)=some (B ((a:Int) != a)):=rfl
 rw[e]
 simp
end
theorem mul_parts{x1 x0 y1 y0:Nat}:(x1*4294967296+x0)*(y1*4294967296+y0)=x1*y1*18446744073709551616+(x1*y0+x0*y1)*4294967296+x0*y0:=by grind
theorem w_Mul64(d:Nat){x y:Nat}(hx:x<18446744073709551616)(hy:y<18446744073709551616)(m:Mem):x99 (x98 (d+1)) xy [U6 x,U6 y] m=some (.tup [U6 (x*y / 18446744073709551616),U6 (x*y % 18446744073709551616)],m):=by
 refine x9k rfl ?_ m
 rw[x7m]
 unfold x4d x44
 have ex:x=x / 4294967296*4294967296+x % 4294967296:=by omega
 have ey:y=y / 4294967296*4294967296+y % 4294967296:=by omega
 have hp:=mul_parts (x1:=x / 4294967296) (x0:=x % 4294967296) (y1:=y / 4294967296) (y0:=y % 4294967296)
 rw[<-ex,<-ey]at hp
 have bP:=xow (show x % 4294967296<=4294967295 by omega) (show y % 4294967296<=4294967295 by omega)
 have bQ:=xow (show x / 4294967296<=4294967295 by omega) (show y % 4294967296<=4294967295 by omega)
 have bR:=xow (show x % 4294967296<=4294967295 by omega) (show y / 4294967296<=4294967295 by omega)
 have bS:=xow (show x / 4294967296<=4294967295 by omega) (show y / 4294967296<=4294967295 by omega)
 simp only[mem0,u_and,u_shr,x9r,u_mul]
 generalize x*y=Z at *
 generalize x % 4294967296*(y % 4294967296)=P at *
 generalize x / 4294967296*(y % 4294967296)=Q at *
 generalize x % 4294967296*(y / 4294967296)=R at *
 generalize x / 4294967296*(y / 4294967296)=S at *
 rw[Nat.mod_eq_of_lt (show P<18446744073709551616 by omega),Nat.mod_eq_of_lt (show Q<18446744073709551616 by omega),Nat.mod_eq_of_lt (show R<18446744073709551616 by omega),Nat.mod_eq_of_lt (show S<18446744073709551616 by omega)]
 rw[u_add _ _ _ _ _ (by omega)]
 simp only[u_and,u_shr,x9r]
 rw[u_add _ _ _ _ _ (by omega)]
 simp only[u_and,u_shr,x9r]
 rw[u_add _ _ _ _ _ (by omega)]
 simp only[u_and,u_shr,x9r]
 rw[u_add _ _ _ _ _ (by omega)]
 have e1:S+(Q+P / 4294967296) / 4294967296+((Q+P / 4294967296) % 4294967296+R) / 4294967296=Z / 18446744073709551616:=by omega
 rw[e1]
 exact RetF.tup rfl rfl
def cmpN(u v:Nat):Int:=if u<v then -1 else if v<u then 1 else 0
def cmpI(u v:Int):Int:=if u<v then -1 else if v<u then 1 else 0
theorem xk9(d:Nat)(x y:Nat)(m:Mem):x99 (x98 (d+2)) x1c [U6 x,U6 y] m=some (I (cmpN x y),m):=by
 have nn:∀(z:Nat) m,x99 (x98 (d+1)) x1f [U6 z] m=some (B false,m):=λz m=>by
  refine x9k rfl ?_ m
  rw[x7r]
  unfold x5f x49
  simp only[mem0,u_neq,x9r]
  exact RetF.st rfl rfl
 refine x9k rfl ?_ m
 rw[x7n]
 unfold x5b x45 cmpN
 by_cases c1:x<y
 .simp[mem0,nn,u_lss,u_gtr,c1];exact RetF.st rfl rfl
 by_cases c2:y<x
 .simp[mem0,nn,u_lss,u_gtr,c1,c2];exact RetF.st rfl rfl
 .simp[mem0,nn,u_lss,u_gtr,c1,c2];exact RetF.st rfl rfl
theorem xfi(d:Nat)(x y:Int)(m:Mem):x99 (x98 (d+2)) x1b [I x,I y] m=some (I (cmpI x y),m):=by
 have nn:∀(z:Int) m,x99 (x98 (d+1)) x1d [I z] m=some (B false,m):=λz m=>by
  refine x9k rfl ?_ m
  rw[x7o]
  unfold x5c x46
  simp[mem0]
  exact RetF.st rfl rfl
 refine x9k rfl ?_ m
 rw[x7i]
 unfold x57 x3y cmpI
 by_cases c1:x<y
 .simp[mem0,nn,c1];exact RetF.st rfl rfl
 by_cases c2:y<x
 .simp[mem0,nn,c1,c2];exact RetF.st rfl rfl
 .simp[mem0,nn,c1,c2];exact RetF.st rfl rfl
def orI:List Int->Int
 |[]=>0
 |x::r=>if x=0 then orI r else x
theorem w_Or(d:Nat){l:List Int}(hl:l.length<=3)(m:Mem):x99 (x98 (d+1)) xm [slI l] m=some (I (orI l),m):=by
 refine x9k rfl ?_ m
 rw[x7g]
 obtain⟨NM,hNM⟩:∃NM,NN=NM+4:=⟨NN-4,by have:=xay;omega⟩
 unfold x55 x3w x64
 simp only[mem0,(slI_S l).len u_int,x9r,hNM]
 have key:∀(suf:List Int) (k j fc:Nat) (mm:Mem),l.drop k=suf->suf.length<j->x27 (x98 d) [] 0 j (I 0) (slI l) (I l.length) (I k) mm fc=some (I (orI suf),mm):=by
  intro suf
  induction suf with
  |nil=>
   intro k j fc mm hd hj
   obtain⟨j,rfl⟩:∃i,j=i+1:=⟨j-1,by simp at hj;omega⟩
   have hk:¬((k:Int)<(l.length:Int)):=by have:=List.drop_eq_nil_iff.mp hd;omega
   simp only[x27]
   unfold x3v
   simp[hk,x63,orI]
  |cons x r ih=>
   intro k j fc mm hd hj
   obtain⟨j,rfl⟩:∃i,j=i+1:=⟨j-1,by simp at hj;omega⟩
   obtain⟨hk,he,hd⟩:=xjd hd
   have hk':(k:Int)<(l.length:Int):=by omega
   have ix:=(slI_S l).ix (z:=1) (λ_=>rfl) hk
   rw[xb7 hk,xom,he]at ix
   have h':=ih (k+1) j (fc+9) mm hd (by simp at hj;omega)
   simp only[x27]
   unfold x3v orI
   by_cases c:x=0
   .simp(disch:=omega) [hk',ix,intE,c,x9j]
    exact h'
   .simp[hk',ix,intE,c]
 rw[show(I 0:AV)=I ((0:Nat):Int)from rfl]
 have:=key l 0 (NM+4) 5 ⟨[],1⟩ rfl (by omega)
 rw[show(I ((0:Nat):Int):AV)=I 0 from rfl]at this ⊢
 rw[this]
 exact RetF.st rfl rfl
theorem xfj{u v:Nat}(h:u<v):cmpN u v=-1:=xn5 h
theorem xfk{u v:Nat}(h:v<u):cmpN u v=1:=by unfold cmpN;rw[xn6 (by omega),xn5 h]
theorem xhd(u:Nat):cmpN u u=0:=by unfold cmpN;rw[xn6 (by omega),xn6 (by omega)]
theorem or_1{x y:Int}(h:x≠0):orI [x,y]=x:=xn6 h
theorem or_0(y:Int):orI [0,y]=y:=by
 show(if y=0 then 0 else y)=y
 split<;>omega
theorem cmp_128(u v:Nat):orI [cmpN (u / 18446744073709551616) (v / 18446744073709551616),cmpN (u % 18446744073709551616) (v % 18446744073709551616)]=cmpN u v:=by
 rcases Nat.lt_trichotomy (u / 18446744073709551616) (v / 18446744073709551616)with h|h|h
 .rw[xfj h,or_1 (by omega),xfj (by omega)]
 .rw[h,xhd,or_0]
  rcases Nat.lt_trichotomy (u % 18446744073709551616) (v % 18446744073709551616)with g|g|g
  .rw[xfj g,xfj (by omega)]
  .rw[g,xhd,show u=v by omega,xhd]
  .rw[xfk g,xfk (by omega)]
 .rw[xfk h,or_1 (by omega),xfk (by omega)]
theorem cvt_u{n:Int}(h:0<=n)(h2:n<18446744073709551616):sCvt Try.prog x9q x7 (I n)=some (U6 n.toNat):=by
 have hn:x9l Try.prog (convert x9q x7 (.int .i64 n))=some (.int .u64 (IntKind.wrap .u64 n)):=by kernel_rfl
 unfold sCvt cvt0
 simp only[show x9g (I n)=some (.int .i64 n)from rfl,show xcy Try.prog x9q x7 (.int .i64 n)=none from rfl,hn]
 rw[xfh]
 have e:n % 18446744073709551616=((n.toNat:Nat):Int):=by omega
 rw[e]
 rfl
theorem w_compare(d:Nat){n e k g:Int}(hn:0<=n/\n<9000000000000000000)(he:0<=e/\e<9000000000000000000)(hk:0<=k/\k<9000000000000000000)(hg:0<=g/\g<9000000000000000000)(m:Mem):x99 (x98 (d+3)) x1v [.agg [I n,I e],.agg [I k,I g]] m=some (I (cmpN (n.toNat*g.toNat) (k.toNat*e.toNat)),m):=by
 have m1:=λm=>w_Mul64 (d+1) (x:=n.toNat) (y:=g.toNat) (by omega) (by omega) m
 have m2:=λm=>w_Mul64 (d+1) (x:=k.toNat) (y:=e.toNat) (by omega) (by omega) m
 have hor:=λa b m=>w_Or (d+1) (l:=[a,b]) (by simp) m
 refine x9k rfl ?_ m
 rw[x7h]
 unfold x56 x3x
 have hmk:∀(x y:Int) (id:Id) (mm:Mem) (k:AV->Mem->O2),xan xcv [(0,1,I x),(1,1,I y)] 2 1 id mm k=k (slI [x,y]) mm:=λx y id mm k=>by
  rw[z_int3];rfl
 simp[mem0,cvt_u hn.1 (by omega),cvt_u he.1 (by omega),cvt_u hk.1 (by omega),cvt_u hg.1 (by omega),m1,m2]
 have hor':∀(x y:Int) mm,x99 (x98 (d+2)) xm [slI [x,y]] mm=some (I (orI [x,y]),mm):=hor
 rw[xk9,x9r]
 simp only[]
 rw[xk9,x9r,hmk,hor',x9r]
 simp only[]
 rw[cmp_128]
 exact RetF.st (still_sc _) (Eq.refl _)
end Go.Ix
