import Derived.Test.YtklcdahoajabmaaWg15
set_option linter.unusedSimpArgs false
set_option linter.unusedVariables false
set_option exponentiation.threshold 3000
namespace Go.Ix
open Go.Proofs Ieee
variable{a:AV}{D:List Px}{L S:Int}
section
variable(d:Nat)(hs:FHs)(ha:Sl pxE a D)(hR:RtI L S D){x y:Int}{z w:Nat}(hx:bd x 100000)(hy:bd y 100000)(hz:z<=8)(hw:w<=8)
include ha hR hx hy hw
include hz
end
theorem cwE_0{x y z w:Int}(he:cwE L S D x y z w=0):(imE L S D).2=0/\(1<=z/\z<=8)/\(1<=w/\w<=8)/\fitB L S x y z w=true/\bd x 64/\bd y 64:=by
 have c0:(imE L S D).2=0:=by
  unfold cwE at he
  by_cases c:(imE L S D).2=0
  .exact c
  .rw[xtb c]at he;exact absurd he c
 have hR:=xgf c0
 have we:winE L S x y z w=0:=by unfold cwE at he;rwa[xta c0]at he
 unfold winE at we
 cases c1:wi z 1 8
 .simp[c1]at we
 cases c2:wi w 1 8
 .simp[c1,c2]at we
 cases c3:fitB L S x y z w
 .simp[c1,c2,c3]at we
 have hf:=c3
 unfold fitB at hf
 rw[xte]at hf
 have hx:=wi_t hf.1
 have hy:=wi_t hf.2
 have hL:=wi_t hR.l
 have hS:=wi_t hR.s
 have h1:=wi_t c1
 have h2:=wi_t c2
 exact⟨c0,h1,h2,rfl,by unfold bd;omega,by unfold bd;omega⟩
end Go.Ix
namespace Go.Ix
open Go.Proofs Ieee
variable{a b:AV}{D D2:List Px}{L S L2 S2:Int}
theorem xfa:x2k=[I 0,I 0,nilS,I 0,I 0,nilS]:=by kernel_rfl
theorem xmb:x7q=[I 0,I 0,nilS,I 0,I 0,nilS]:=by kernel_rfl
theorem z_2img:x92=[I 0,I 0,nilS,I 0,I 0,nilS]:=by kernel_rfl
theorem xim(L S L2 S2:Int)(a b:AV):xd4 [I 0,I 0,nilS,I 0,I 0,nilS] [(0,3,.agg [I L,I S,a]),(3,3,.agg [I L2,I S2,b])]=some (.agg [I L,I S,a,I L2,I S2,b]):=rfl
theorem xmc:xd4 [I 0,I 0,nilS,I 0,I 0,nilS] []=some (.agg [I 0,I 0,nilS,I 0,I 0,nilS]):=rfl
theorem idx_i0(L S L2 S2:Int)(a b:AV):sIdx Try.prog x4l (.agg [I L,I S,a,I L2,I S2,b]) (I 0)=some (.agg [I L,I S,a]):=by kernel_rfl
theorem idx_i1(L S L2 S2:Int)(a b:AV):sIdx Try.prog x4l (.agg [I L,I S,a,I L2,I S2,b]) (I 1)=some (.agg [I L2,I S2,b]):=by kernel_rfl
def prE(L S:Int)(D:List Px)(L2 S2:Int)(D2:List Px):Int:=if(imE L S D).2=0 then(imE L2 S2 D2).2 else(imE L S D).2
theorem xpb(d:Nat)(ha:Sl pxE a D)(hl:D.length<=5000)(hb:Sl pxE b D2)(hl2:D2.length<=5000)(m:Mem):xcv (xcu (d+8)) x18 [.agg [I L,I S,a,I L2,I S2,b]] m
 = some (.tup [if prE L S D L2 S2 D2=0 then .agg [I L,I S,a,I L2,I S2,b]else .agg [I 0,I 0,nilS,I 0,I 0,nilS],I (prE L S D L2 S2 D2)],m):=by
 have i1:=λm=>xju (L:=L) (S:=S) d ha hl m
 have i2:=λm=>xju (L:=L2) (S:=S2) d hb hl2 m
 refine xd3 (by simp[ha.still1,hb.still1]) ?_ m
 rw[x9u]
 obtain⟨NM,hNM⟩:∃NM,NN=NM+3:=⟨NN-3,by have:=xdy;omega⟩
 unfold x6m x4n x8a prE
 simp[mem0,ha.one,hb.one,xcy,xfa,z_2img,xim,hNM]
 simp only[x4m]
 unfold x89 x88
 by_cases c1:(imE L S D).2=0
 rotate_left
 .simp[idx_i0,xdv,xcy,ha.one,i1,c1,xfa,xmc,sLdP]
  exact RetF.tup rfl rfl
 by_cases c2:(imE L2 S2 D2).2=0
 rotate_left
 .simp[idx_i0,idx_i1,xdv,xcy,ha.one,hb.one,i1,i2,c1,c2,xfa,xmc,sLdP,xd6]
  exact RetF.tup rfl rfl
 .simp[idx_i0,idx_i1,xdv,xcy,ha.one,hb.one,i1,i2,c1,c2,xfa,xmc,sLdP,xd6,xm3,xim]
  exact RetF.tup (by simp[ha.still1,hb.still1]) rfl
def seE(L S:Int)(D:List Px)(L2 S2:Int)(D2:List Px)(x y z w:Int):Int:=if prE L S D L2 S2 D2=0 then winE L S x y z w else prE L S D L2 S2 D2
theorem prE_0(h:prE L S D L2 S2 D2=0):(imE L S D).2=0/\(imE L2 S2 D2).2=0:=by
 unfold prE at h
 by_cases c:(imE L S D).2=0
 .rw[xta c]at h;exact⟨c,h⟩
 .rw[xtb c]at h;exact absurd h c
theorem seE_0{x y z w:Int}(h:seE L S D L2 S2 D2 x y z w=0):prE L S D L2 S2 D2=0/\RtI L S D/\RtI L2 S2 D2/\winE L S x y z w=0/\(0<=x/\x<=64)/\(0<=y/\y<=64)/\∃zn wn:Nat,z=zn/\w=wn/\(1<=zn/\zn<=8)/\1<=wn/\wn<=8:=by
 unfold seE at h
 by_cases c:prE L S D L2 S2 D2=0
 rotate_left
 .rw[xtb c]at h;exact absurd h c
 rw[xta c]at h
 obtain⟨c1,c2⟩:=prE_0 c
 have hR:=xgf c1
 have hc:cwE L S D x y z w=0:=by unfold cwE;rw[xta c1];exact h
 obtain⟨-,hz,hw,hf,-,-⟩:=cwE_0 hc
 unfold fitB at hf
 rw[xte]at hf
 have hx:=wi_t hf.1
 have hy:=wi_t hf.2
 have hL:=wi_t hR.l
 have hS:=wi_t hR.s
 exact⟨c,hR,xgf c2,h,by omega,by omega,z.toNat,w.toNat,by omega,by omega,by omega,by omega⟩
theorem xpc(d:Nat){n e:Int}(h0:0<=n)(he:0<e)(hb:n<=4000000000000000000)(hb2:e<=4000000000000000000)(m:Mem):xcv (xcu (d+3)) x19 [.agg [I n,I e]] m=some (.agg [I (lowN n e).1,I (lowN n e).2],m):=by
 obtain⟨l1,l2,l3,-⟩:=low_ok h0 he (by omega) (by omega)
 have gc:=λm=>xr3 d (a:=n) (b:=e) (by unfold bd;omega) (by unfold bd;omega) m
 refine xd3 rfl ?_ m
 rw[x9w]
 unfold x6o x4r
 simp[mem0,xe3,xcy,gc]
 rw[xjb (by omega),xjb (by omega),l2,l3]
 simp[xm8,sLdP]
 exact RetF.st (by simp) rfl
noncomputable def scP(L S:Int)(D:List Px)(L2 S2:Int)(D2:List Px)(x y z w p q:Int):(Int×Int)×Int:=
 if seE L S D L2 S2 D2 x y z w=0 then scM L S D L2 S2 D2 x y z.toNat w.toNat p q else((0,0),seE L S D L2 S2 D2 x y z w)
theorem w_Score(d:Nat)(ha:Sl pxE a D)(hl:D.length<=5000)(hb:Sl pxE b D2)(hl2:D2.length<=5000)(x y z w:Int){p q:Int}(hp:inW p)(hq:inW q)(m:Mem):xcv (xcu (d+9)) x1t [.agg [I L,I S,a,I L2,I S2,b],.agg [I x,I y,I z,I w],.agg [I p,I q]] m
 = some (.tup [.agg [I (scP L S D L2 S2 D2 x y z w p q).1.1,I (scP L S D L2 S2 D2 x y z w p q).1.2],I (scP L S D L2 S2 D2 x y z w p q).2],m):=by
 have po:=λm=>xpb (L:=L) (S:=S) (L2:=L2) (S2:=S2) d ha hl hb hl2 m
 refine xd3 (by simp[ha.still1,hb.still1]) ?_ m
 rw[x9f]
 unfold x67 x3y scP seE
 by_cases c:prE L S D L2 S2 D2=0
 rotate_left
 .simp[mem0,ha.one,hb.one,xe3,xfa,xcy,po,c,xfp,sLdP]
  exact RetF.tup rfl rfl
 have we:=λm=>xm2 (d+5) ha (xgf (prE_0 c).1) x y z w m
 by_cases c2:winE L S x y z w=0
 rotate_left
 .simp[mem0,ha.one,hb.one,xe3,xfa,xcy,po,c,we,c2,xfp,sLdP]
  exact RetF.tup rfl rfl
 obtain⟨-,hR,hR2,-,hx,hy,zn,wn,rfl,rfl,hz,hw⟩:=seE_0 (show seE L S D L2 S2 D2 x y z w=0 by unfold seE;rw[xta c];exact c2)
 rw[xta c,xta c2,xur,xur]
 unfold scM
 cases co:xe8 L2 S2 x y zn wn p q
 .have so:=λm=>xp7 (d+3) ha hR hb hR2 (z:=(zn:Int)) (w:=(wn:Int)) (by omega) (by omega) hx hy hp hq co m
  simp[mem0,ha.one,hb.one,xe3,xfa,xej,xcy,po,c,we,c2,xfp,sLdP,so]
  exact RetF.tup rfl rfl
 have so:=λm=>xp8 (d+3) ha hR hb hR2 hz hw hx hy co m
 have hnn:zn*wn<=64:=xu1 (xuh hz.2 hw.2) (by omega)
 have hA:=xgh hR x y
 have hB:=xgh hR2 (x+p) (y+q)
 obtain⟨q1,q2,q3,q4,q5,q6,q7⟩:=xhm (w:=wn) hA hB hnn
 obtain⟨-,-,r3,r4,-⟩:=xhm (w:=wn) hB hB hnn
 by_cases k:scE (wA L S D x y) wn (zn*wn)=0\/scE (wA L2 S2 D2 (x+p) (y+q)) wn (zn*wn)=0
 .simp only[xta k]at so ⊢
  simp[mem0,ha.one,hb.one,xe3,xfa,xej,xcy,po,c,we,c2,xfp,sLdP,so]
  exact RetF.tup rfl rfl
 .simp only[xtb k]at so ⊢
  have hpos:0<scE (wA L S D x y) wn (zn*wn)*scE (wA L2 S2 D2 (x+p) (y+q)) wn (zn*wn):=by
   have k1:scE (wA L S D x y) wn (zn*wn)≠0:=λh=>k (Or.inl h)
   have k2:scE (wA L2 S2 D2 (x+p) (y+q)) wn (zn*wn)≠0:=λh=>k (Or.inr h)
   exact xwk (by omega) (by omega)
  have lo:=λm=>xpc (d+5) q5 hpos (by omega) (by omega) m
  simp[mem0,ha.one,hb.one,xe3,xfa,xej,xcy,po,c,we,c2,xfp,sLdP,so,lo]
  exact RetF.tup rfl rfl
open Go.Proofs
abbrev U6(n:Nat):AV:=.sc (.int .u64 (n:Int))
theorem xjx(n:Int):IntKind.wrap .u64 n=n % 18446744073709551616:=rfl
section
variable(t:TypeId)(X Y:Operand)
theorem u_and(a:Nat):sBin Try.prog .and t X Y (U6 a) (AV.sc (.int .u64 4294967295))=some (U6 (a % 4294967296)):=by
 refine xfx ?_
 have e:bin0 Try.prog .and t X Y (U6 a) (AV.sc (.int .u64 4294967295))=some (AV.sc (.int .u64 (IntKind.wrap .u64 ((BitVec.ofInt 64 (a:Int) &&& BitVec.ofInt 64 4294967295).toNat:Int)))):=rfl
 rw[e,xjx]
 have h1:BitVec.ofInt 64 (a:Int)=BitVec.ofNat 64 a:=by
  apply BitVec.eq_of_toNat_eq
  rw[BitVec.toNat_ofInt,BitVec.toNat_ofNat]
  omega
 have h2:BitVec.ofInt 64 4294967295=BitVec.ofNat 64 (2 ^ 32-1):=rfl
 rw[h1,h2,BitVec.toNat_and,BitVec.toNat_ofNat,BitVec.toNat_ofNat,show(2 ^ 32-1) % 2 ^ 64=2 ^ 32-1 by omega,Nat.and_two_pow_sub_one_eq_mod]
 congr 3
 omega
theorem u_shr(a:Nat):sBin Try.prog .shr t X Y (U6 a) (AV.sc (.int .u64 32))=some (U6 (a / 4294967296)):=by
 refine xfx ?_
 have e:bin0 Try.prog .shr t X Y (U6 a) (AV.sc (.int .u64 32))=some (AV.sc (.int .u64 ((a:Int).fdiv 4294967296))):=rfl
 rw[e,Int.fdiv_eq_ediv_of_nonneg _ (by omega)]
 rfl
theorem u_add(a b:Nat)(h:a+b<18446744073709551616):sBin Try.prog .add t X Y (U6 a) (U6 b)=some (U6 (a+b)):=by
 refine xfx ?_
 have e:bin0 Try.prog .add t X Y (U6 a) (U6 b)=some (AV.sc (.int .u64 (IntKind.wrap .u64 ((a:Int)+b)))):=rfl
 rw[e,xjx]
 congr 3
 omega
theorem u_mul(a b:Nat):sBin Try.prog .mul t X Y (U6 a) (U6 b)=some (U6 (a*b % 18446744073709551616)):=by
 refine xfx ?_
 have e:bin0 Try.prog .mul t X Y (U6 a) (U6 b)=some (AV.sc (.int .u64 (IntKind.wrap .u64 ((a:Int)*b)))):=rfl
 rw[e,xjx,<-Int.natCast_mul]
 rfl
theorem u_lss(a b:Nat):sBin Try.prog .lss t X Y (U6 a) (U6 b)=some (B (decide (a<b))):=by
 refine xfx ?_
 have e:bin0 Try.prog .lss t X Y (U6 a) (U6 b)=some (B (decide ((a:Int)<b))):=rfl
 rw[e]
 congr 2
 by_cases c:a<b
 .rw[xtq c,xtq (by omega)]
 .rw[xu5 c,xu5 (by omega)]
theorem u_gtr(a b:Nat):sBin Try.prog .gtr t X Y (U6 a) (U6 b)=some (B (decide (b<a))):=by
 refine xfx ?_
 have e:bin0 Try.prog .gtr t X Y (U6 a) (U6 b)=some (B (decide ((a:Int) > b))):=rfl
 rw[e]
 congr 2
 by_cases c:b<a
 .rw[xtq c,xtq (by omega)]
 .rw[xu5 c,xu5 (by omega)]
theorem u_neq(a:Nat):sBin Try.prog .neq t X Y (U6 a) (U6 a)=some (B false):=by
 refine xfx ?_
 have e:bin0 Try.prog .neq t X Y (U6 a) (U6 a)=some (B ((a:Int) != a)):=rfl
 rw[e]
 simp
end
theorem mul_parts{x1 x0 y1 y0:Nat}:(x1*4294967296+x0)*(y1*4294967296+y0)=x1*y1*18446744073709551616+(x1*y0+x0*y1)*4294967296+x0*y0:=by grind
theorem w_Mul64(d:Nat){x y:Nat}(hx:x<18446744073709551616)(hy:y<18446744073709551616)(m:Mem):xcv (xcu (d+1)) x13 [U6 x,U6 y] m=some (.tup [U6 (x*y / 18446744073709551616),U6 (x*y % 18446744073709551616)],m):=by
 refine xd3 rfl ?_ m
 rw[xaq]
 unfold x5z x5v
 have ex:x=x / 4294967296*4294967296+x % 4294967296:=by omega
 have ey:y=y / 4294967296*4294967296+y % 4294967296:=by omega
 have hp:=mul_parts (x1:=x / 4294967296) (x0:=x % 4294967296) (y1:=y / 4294967296) (y0:=y % 4294967296)
 rw[<-ex,<-ey]at hp
 have bP:=xuh (show x % 4294967296<=4294967295 by omega) (show y % 4294967296<=4294967295 by omega)
 have bQ:=xuh (show x / 4294967296<=4294967295 by omega) (show y % 4294967296<=4294967295 by omega)
 have bR:=xuh (show x % 4294967296<=4294967295 by omega) (show y / 4294967296<=4294967295 by omega)
 have bS:=xuh (show x / 4294967296<=4294967295 by omega) (show y / 4294967296<=4294967295 by omega)
 simp only[mem0,u_and,u_shr,xdd,u_mul]
 generalize x*y=Z at *
 generalize x % 4294967296*(y % 4294967296)=P at *
 generalize x / 4294967296*(y % 4294967296)=Q at *
 generalize x % 4294967296*(y / 4294967296)=R at *
 generalize x / 4294967296*(y / 4294967296)=S at *
 rw[Nat.mod_eq_of_lt (show P<18446744073709551616 by omega),Nat.mod_eq_of_lt (show Q<18446744073709551616 by omega),Nat.mod_eq_of_lt (show R<18446744073709551616 by omega),Nat.mod_eq_of_lt (show S<18446744073709551616 by omega)]
 rw[u_add _ _ _ _ _ (by omega)]
 simp only[u_and,u_shr,xdd]
 rw[u_add _ _ _ _ _ (by omega)]
 simp only[u_and,u_shr,xdd]
 rw[u_add _ _ _ _ _ (by omega)]
 simp only[u_and,u_shr,xdd]
 rw[u_add _ _ _ _ _ (by omega)]
 have e1:S+(Q+P / 4294967296) / 4294967296+((Q+P / 4294967296) % 4294967296+R) / 4294967296=Z / 18446744073709551616:=by omega
 rw[e1]
 exact RetF.tup rfl rfl
def cmpN(u v:Nat):Int:=if u<v then -1 else if v<u then 1 else 0
def cmpI(u v:Int):Int:=if u<v then -1 else if v<u then 1 else 0
theorem xpd(d:Nat)(x y:Nat)(m:Mem):xcv (xcu (d+2)) x1i [U6 x,U6 y] m=some (I (cmpN x y),m):=by
 have nn:∀(z:Nat) m,xcv (xcu (d+1)) x1k [U6 z] m=some (B false,m):=λz m=>by
  refine xd3 rfl ?_ m
  rw[xat]
  unfold x7k x5y
  simp only[mem0,u_neq,xdd]
  exact RetF.st rfl rfl
 refine xd3 rfl ?_ m
 rw[xar]
 unfold x7i x5w cmpN
 by_cases c1:x<y
 .simp[mem0,nn,u_lss,u_gtr,c1];exact RetF.st rfl rfl
 by_cases c2:y<x
 .simp[mem0,nn,u_lss,u_gtr,c1,c2];exact RetF.st rfl rfl
 .simp[mem0,nn,u_lss,u_gtr,c1,c2];exact RetF.st rfl rfl
theorem xjy(d:Nat)(x y:Int)(m:Mem):xcv (xcu (d+2)) x1g [I x,I y] m=some (I (cmpI x y),m):=by
 have nn:∀(z:Int) m,xcv (xcu (d+1)) x1j [I z] m=some (B false,m):=λz m=>by
  refine xd3 rfl ?_ m
  rw[xas]
  unfold x7j x5x
  simp[mem0]
  exact RetF.st rfl rfl
 refine xd3 rfl ?_ m
 rw[xan]
 unfold x7f x5r cmpI
 by_cases c1:x<y
 .simp[mem0,nn,c1];exact RetF.st rfl rfl
 by_cases c2:y<x
 .simp[mem0,nn,c1,c2];exact RetF.st rfl rfl
 .simp[mem0,nn,c1,c2];exact RetF.st rfl rfl
def orI:List Int->Int
 |[]=>0
 |x::r=>if x=0 then orI r else x
theorem w_Or(d:Nat){l:List Int}(hl:l.length<=3)(m:Mem):xcv (xcu (d+1)) xp [slI l] m=some (I (orI l),m):=by
 refine xd3 rfl ?_ m
 rw[xal]
 obtain⟨NM,hNM⟩:∃NM,NN=NM+4:=⟨NN-4,by have:=xdy;omega⟩
 unfold x7d x5p x8v
 simp only[mem0,(xhl l).len u_int,xdd,hNM]
 have key:∀(suf:List Int) (k j fc:Nat) (mm:Mem),l.drop k=suf->suf.length<j->x2x (xcu d) [] 0 j (I 0) (slI l) (I l.length) (I k) mm fc=some (I (orI suf),mm):=by
  intro suf
  induction suf with
  |nil=>
   intro k j fc mm hd hj
   obtain⟨j,rfl⟩:∃i,j=i+1:=⟨j-1,by simp at hj;omega⟩
   have hk:¬((k:Int)<(l.length:Int)):=by have:=xvf.mp hd;omega
   simp only[x2x]
   unfold x5o
   simp[hk,x8u,orI]
  |cons x r ih=>
   intro k j fc mm hd hj
   obtain⟨j,rfl⟩:∃i,j=i+1:=⟨j-1,by simp at hj;omega⟩
   obtain⟨hk,he,hd⟩:=xhc hd
   have hk':(k:Int)<(l.length:Int):=by omega
   have ix:=(xhl l).ix (z:=1) (λ_=>rfl) hk
   rw[xe2 hk,xu7,he]at ix
   have h':=ih (k+1) j (fc+9) mm hd (by simp at hj;omega)
   simp only[x2x]
   unfold x5o orI
   by_cases c:x=0
   .simp(disch:=omega) [hk',ix,intE,c,xd6]
    exact h'
   .simp[hk',ix,intE,c]
 rw[show(I 0:AV)=I ((0:Nat):Int)from rfl]
 have:=key l 0 (NM+4) 5 ⟨[],1⟩ rfl (by omega)
 rw[show(I ((0:Nat):Int):AV)=I 0 from rfl]at this ⊢
 rw[this]
 exact RetF.st rfl rfl
theorem xjz{u v:Nat}(h:u<v):cmpN u v=-1:=xta h
theorem xk0{u v:Nat}(h:v<u):cmpN u v=1:=by unfold cmpN;rw[xtb (by omega),xta h]
theorem xmd(u:Nat):cmpN u u=0:=by unfold cmpN;rw[xtb (by omega),xtb (by omega)]
theorem or_1{x y:Int}(h:x≠0):orI [x,y]=x:=xtb h
theorem or_0(y:Int):orI [0,y]=y:=by
 show(if y=0 then 0 else y)=y
 split<;>omega
theorem cmp_128(u v:Nat):orI [cmpN (u / 18446744073709551616) (v / 18446744073709551616),cmpN (u % 18446744073709551616) (v % 18446744073709551616)]=cmpN u v:=by
 rcases Nat.lt_trichotomy (u / 18446744073709551616) (v / 18446744073709551616)with h|h|h
 .rw[xjz h,or_1 (by omega),xjz (by omega)]
 .rw[h,xmd,or_0]
  rcases Nat.lt_trichotomy (u % 18446744073709551616) (v % 18446744073709551616)with g|g|g
  .rw[xjz g,xjz (by omega)]
  .rw[g,xmd,show u=v by omega,xmd]
  .rw[xk0 g,xk0 (by omega)]
 .rw[xk0 h,or_1 (by omega),xk0 (by omega)]
theorem cvt_u{n:Int}(h:0<=n)(h2:n<18446744073709551616):sCvt Try.prog xd5 x7 (I n)=some (U6 n.toNat):=by
 have hn:xd0 Try.prog (convert xd5 x7 (.int .i64 n))=some (.int .u64 (IntKind.wrap .u64 n)):=by kernel_rfl
 unfold sCvt cvt0
 simp only[show xd7 (I n)=some (.int .i64 n)from rfl,show xfr Try.prog xd5 x7 (.int .i64 n)=none from rfl,hn]
 rw[xjx]
 have e:n % 18446744073709551616=((n.toNat:Nat):Int):=by omega
 rw[e]
 rfl
theorem w_compare(d:Nat){n e k g:Int}(hn:0<=n/\n<9000000000000000000)(he:0<=e/\e<9000000000000000000)(hk:0<=k/\k<9000000000000000000)(hg:0<=g/\g<9000000000000000000)(m:Mem):xcv (xcu (d+3)) x2f [.agg [I n,I e],.agg [I k,I g]] m=some (I (cmpN (n.toNat*g.toNat) (k.toNat*e.toNat)),m):=by
 have m1:=λm=>w_Mul64 (d+1) (x:=n.toNat) (y:=g.toNat) (by omega) (by omega) m
 have m2:=λm=>w_Mul64 (d+1) (x:=k.toNat) (y:=e.toNat) (by omega) (by omega) m
 have hor:=λa b m=>w_Or (d+1) (l:=[a,b]) (by simp) m
 refine xd3 rfl ?_ m
 rw[xam]
 unfold x7e x5q
 have hmk:∀(x y:Int) (id:Id) (mm:Mem) (k:AV->Mem->O2),xe1 xgy [(0,1,I x),(1,1,I y)] 2 1 id mm k=k (slI [x,y]) mm:=λx y id mm k=>by
  rw[z_int3];rfl
 simp[mem0,cvt_u hn.1 (by omega),cvt_u he.1 (by omega),cvt_u hk.1 (by omega),cvt_u hg.1 (by omega),m1,m2]
 have hor':∀(x y:Int) mm,xcv (xcu (d+2)) xp [slI [x,y]] mm=some (I (orI [x,y]),mm):=hor
 rw[xpd,xdd]
 simp only[]
 rw[xpd,xdd,hmk,hor',xdd]
 simp only[]
 rw[cmp_128]
 exact RetF.st (still_sc _) (Eq.refl _)
structure Fo where
 p:Int
 q:Int
 n:Int
 e:Int
def Fo.far(f:Fo):Int:=(f.p.natAbs:Int)+(f.q.natAbs:Int)
def Fo.ok(f:Fo):Prop:=0<=f.n/\0<f.e
def befF(f g:Fo):Prop:=f.n*g.e > g.n*f.e\/f.n*g.e=g.n*f.e/\(f.far<g.far\/f.far=g.far/\(f.p<g.p\/f.p=g.p/\f.q<g.q))
theorem xpe{a b c d e f:Int}(hb:0<b)(hd:0<d)(hf:0<f)(h1:a*d ≥ c*b)(h2:c*f ≥ e*d):a*f ≥ e*b/\(a*d > c*b\/c*f > e*d->a*f > e*b):=by
 have k1:a*d*f ≥ c*b*f:=xvx h1 (by omega)
 have k2:c*f*b ≥ e*d*b:=xvx h2 (by omega)
 have e1:c*b*f=c*f*b:=by grind
 have e2:a*d*f=a*f*d:=by grind
 have e3:e*d*b=e*b*d:=by grind
 have k3:a*f*d ≥ e*b*d:=by omega
 refine⟨Int.le_of_mul_le_mul_right k3 hd,λh=>?_⟩
 have k4:a*f*d > e*b*d:=by
  rcases h with h|h
  .have:a*d*f > c*b*f:=Int.mul_lt_mul_of_pos_right h hf
   omega
  .have:c*f*b > e*d*b:=Int.mul_lt_mul_of_pos_right h hb
   omega
 exact Int.lt_of_mul_lt_mul_right k4 (by omega)
theorem xrg{f g h:Fo}(hf:f.ok)(hg:g.ok)(hh:h.ok)(h1:befF f g)(h2:befF g h):befF f h:=by
 have a1:f.n*g.e ≥ g.n*f.e:=by unfold befF at h1;omega
 have a2:g.n*h.e ≥ h.n*g.e:=by unfold befF at h2;omega
 obtain⟨b1,b2⟩:=xpe hf.2 hg.2 hh.2 a1 a2
 by_cases c:f.n*g.e > g.n*f.e\/g.n*h.e > h.n*g.e
 .exact Or.inl (b2 c)
 .have e1:f.n*g.e=g.n*f.e:=by omega
  have e2:g.n*h.e=h.n*g.e:=by omega
  have e3:f.n*h.e=h.n*f.e:=by
   obtain⟨c1,-⟩:=xpe hh.2 hg.2 hf.2 (show h.n*g.e ≥ g.n*h.e by omega) (show g.n*f.e ≥ f.n*g.e by omega)
   omega
  unfold befF at h1 h2 ⊢
  omega
theorem xpf(f:Fo):¬befF f f:=by unfold befF;omega
structure Best (sc:Int->Int->Option (Int×Int)) (Q:Int->Int->Prop) (f:Fo):Prop where
 own:Q f.p f.q
 hs:sc f.p f.q=some (f.n,f.e)
 all:∀g:Fo,Q g.p g.q->sc g.p g.q=some (g.n,g.e)->¬befF g f
def BestO(sc:Int->Int->Option (Int×Int))(Q:Int->Int->Prop):Option Fo->Prop
 |none=>∀p q,Q p q->sc p q=none
 |some f=>Best sc Q f
variable{sc:Int->Int->Option (Int×Int)}{Q Q':Int->Int->Prop}
theorem BestO.congr{o:Option Fo}(h:BestO sc Q o)(hq:∀p q,Q p q↔Q' p q):BestO sc Q' o:=by
 cases o with
 |none=>exact λp q hpq=>h p q ((hq p q).mpr hpq)
 |some f=>exact⟨(hq _ _).mp h.own,h.hs,λg h1 h2=>Best.all h g ((hq _ _).mpr h1) h2⟩
theorem BestO.skip{o:Option Fo}{x y:Int}(h:BestO sc Q o)(hx:sc x y=none):BestO sc (λp q=>Q p q\/(p=x/\q=y)) o:=by
 cases o with
 |none=>
  intro p q hpq
  rcases hpq with hpq|⟨rfl,rfl⟩
  .exact h p q hpq
  .exact hx
 |some f=>
  refine⟨Or.inl (Best.own h),Best.hs h,λg h1 h2=>?_⟩
  rcases h1 with h1|⟨h1,h3⟩
  .exact Best.all h g h1 h2
  .rw[h1,h3,hx]at h2;cases h2
theorem BestO.keep{f:Fo}{x y n e:Int}(h:BestO sc Q (some f))(hx:sc x y=some (n,e))(hb:¬befF ⟨x,y,n,e⟩ f):BestO sc (λp q=>Q p q\/(p=x/\q=y)) (some f):=by
 refine⟨Or.inl (Best.own h),Best.hs h,λg h1 h2=>?_⟩
 rcases h1 with h1|⟨h1,h3⟩
 .exact Best.all h g h1 h2
 .rw[h1,h3,hx]at h2
  simp only[xtd,xtc]at h2
  obtain⟨p,q,n',e'⟩:=g
  simp only at h1 h3 h2
  rw[h1,h3,<-h2.1,<-h2.2]
  exact hb
theorem BestO.take{f:Fo}{x y n e:Int}(hok:∀p q n e,sc p q=some (n,e)->0<=n/\0<e)(h:BestO sc Q (some f))(hx:sc x y=some (n,e))(hb:befF ⟨x,y,n,e⟩ f):BestO sc (λp q=>Q p q\/(p=x/\q=y)) (some ⟨x,y,n,e⟩):=by
 refine⟨Or.inr ⟨rfl,rfl⟩,hx,λg h1 h2 h3=>?_⟩
 rcases h1 with h1|⟨h1,h4⟩
 .exact Best.all h g h1 h2 (xrg (hok _ _ _ _ h2) (hok _ _ _ _ hx) (hok _ _ _ _ (Best.hs h)) h3 hb)
 .rw[h1,h4,hx]at h2
  simp only[xtd,xtc]at h2
  obtain⟨p,q,n',e'⟩:=g
  simp only at h1 h4 h2
  rw[h1,h4,<-h2.1,<-h2.2]at h3
  exact xpf _ h3
theorem BestO.first{x y n e:Int}(h:BestO sc Q none)(hx:sc x y=some (n,e)):BestO sc (λp q=>Q p q\/(p=x/\q=y)) (some ⟨x,y,n,e⟩):=by
 refine⟨Or.inr ⟨rfl,rfl⟩,hx,λg h1 h2 h3=>?_⟩
 rcases h1 with h1|⟨h1,h4⟩
 .have:=h _ _ h1;rw[h2]at this;cases this
 .rw[h1,h4,hx]at h2
  simp only[xtd,xtc]at h2
  obtain⟨p,q,n',e'⟩:=g
  simp only at h1 h4 h2
  rw[h1,h4,<-h2.1,<-h2.2]at h3
  exact xpf _ h3
def lexC(p q p' q':Int):Int:=if cmpI p p'=0 then cmpI q q' else cmpI p p'
theorem w_sCmp(d:Nat)(p q p' q':Int):RetF (λa=>a=I (lexC p q p' q')) (xcu (d+3) [] x2g [.slit [I p,I q] 2 false,.slit [I p',I q'] 2 false] mem0):=by
 have hx:Sl intE (.slit [I p,I q] 2 false) [p,q]:=Sl.lit (enc:=intE) [p,q] false
 have hy:Sl intE (.slit [I p',I q'] 2 false) [p',q']:=Sl.lit (enc:=intE) [p',q'] false
 have i0:=hx.ix (z:=1) (λ_=>rfl) (k:=0) (by simp)
 have i1:=hx.ix (z:=1) (λ_=>rfl) (k:=1) (by simp)
 have j0:=hy.ix (z:=1) (λ_=>rfl) (k:=0) (by simp)
 have j1:=hy.ix (z:=1) (λ_=>rfl) (k:=1) (by simp)
 have n1:=hx.len u_int
 have n2:=hy.len u_int
 rw[xao]
 obtain⟨NM,hNM⟩:∃NM,NN=NM+3:=⟨NN-3,by have:=xdy;omega⟩
 unfold x7g x5t x8y lexC
 simp only[mem0,n1,xdd,hNM]
 simp only[x5s]
 unfold x8x x8w
 simp only[xtl,xv8]at n1 n2
 have i0':sIx 1 (.slit [I p,I q] 2 false) (I 0)=some (.plit [I p,I q]):=i0
 have i1':sIx 1 (.slit [I p,I q] 2 false) (I 1)=some (.plit [I q]):=i1
 have j0':sIx 1 (.slit [I p',I q'] 2 false) (I 0)=some (.plit [I p',I q']):=j0
 have j1':sIx 1 (.slit [I p',I q'] 2 false) (I 1)=some (.plit [I q']):=j1
 have n1':sLen Try.prog xi (.slit [I p,I q] 2 false)=some (I 2):=n1
 have n2':sLen Try.prog xi (.slit [I p',I q'] 2 false)=some (I 2):=n2
 by_cases c1:cmpI p p'=0
 .by_cases c2:cmpI q q'=0
  .simp[i0',i1',j0',j1',n1',n2',xjy,c1,c2,xd6]
   exact RetF.st rfl rfl
  .simp[i0',i1',j0',j1',n1',n2',xjy,c1,c2,xd6]
   exact RetF.st rfl rfl
 .simp[i0',i1',j0',j1',n1',n2',xjy,c1,xd6]
  exact RetF.st rfl rfl
structure Fo.fine (f:Fo):Prop where
 n0:0<=f.n
 n1:f.n<9000000000000000000
 e0:0<f.e
 e1:f.e<9000000000000000000
 p:-64<=f.p/\f.p<=64
 q:-64<=f.q/\f.q<=64
def Fo.c(f:Fo):List AV:=[I f.p,I f.q,I f.n,I f.e]
def befB(f g:Fo):Bool:=decide (orI [cmpN (g.n.toNat*f.e.toNat) (f.n.toNat*g.e.toNat),cmpI f.far g.far,lexC f.p f.q g.p g.q]<0)
theorem xpg{f g:Fo}(hf:f.fine)(hg:g.fine):befB f g=true↔befF f g:=by
 have e1:((g.n.toNat*f.e.toNat:Nat):Int)=g.n*f.e:=by rw[Int.natCast_mul,xuq hg.n0,xuq (Int.le_of_lt hf.e0)]
 have e2:((f.n.toNat*g.e.toNat:Nat):Int)=f.n*g.e:=by rw[Int.natCast_mul,xuq hf.n0,xuq (Int.le_of_lt hg.e0)]
 unfold befB befF
 rw[xvu,<-e1,<-e2]
 generalize g.n.toNat*f.e.toNat=u
 generalize f.n.toNat*g.e.toNat=v
 generalize f.far=a
 generalize g.far=b
 unfold orI orI orI orI cmpN cmpI lexC cmpI
 by_cases c1:u<v
 .simp[c1]
 by_cases c2:v<u
 .simp[c1,c2];omega
 have:u=v:=by omega
 subst this
 by_cases c3:a<b
 .simp[c3]
 by_cases c4:b<a
 .simp[c3,c4];omega
 have:a=b:=by omega
 subst this
 by_cases c5:f.p<g.p
 .simp[c5]
 by_cases c6:g.p<f.p
 .simp[c5,c6];omega
 have:f.p=g.p:=by omega
 simp[c5,c6,this]
 by_cases c7:f.q<g.q
 .simp[c7]
 by_cases c8:g.q<f.q
 .simp[c7,c8]
 .simp[c7,c8]
theorem w_far(d:Nat){f:Fo}(hf:f.fine)(m:Mem):xfi (xcu (d+2)) [] 0 (.clo xd []) [.agg f.c] m=some (I f.far,m):=by
 obtain⟨hp1,hp2⟩:=hf.p
 obtain⟨hq1,hq2⟩:=hf.q
 have s1:=λm=>xik d f.p m (by omega) (by omega)
 have s2:=λm=>xik d f.q m (by omega) (by omega)
 show xcv (xcu (d+2)) xd [.agg f.c] m=_
 refine xd3 rfl ?_ m
 rw[xak]
 unfold x7c x5n
 simp(disch:=omega) [mem0,Fo.c,sIxA,asI,s1,s2,xd6,cAp,tR,mkM,clean,show Nat.blt 0 1=true from rfl]
 exact RetF.st rfl rfl
theorem w_before(d:Nat){f g:Fo}(hf:f.fine)(hg:g.fine)(m:Mem):xcv (xcu (d+4)) x2d [.agg f.c,.agg g.c] m=some (B (befB f g),m):=by
 have cp:=λm=>w_compare d (n:=g.n) (e:=g.e) (k:=f.n) (g:=f.e) ⟨hg.n0,hg.n1⟩ ⟨by have:=hg.e0;omega,hg.e1⟩ ⟨hf.n0,hf.n1⟩ ⟨by have:=hf.e0;omega,hf.e1⟩ m
 have f1:=λm=>w_far (d+1) hf m
 have f2:=λm=>w_far (d+1) hg m
 have ci:=λm=>xjy (d+1) f.far g.far m
 refine xd3 rfl ?_ m
 rw[xab]
 unfold x73 x5d
 simp only[Fo.c]at f1 f2
 simp[mem0,Fo.c,cp,f1,f2,ci]
 generalize hM:Mem.new _ _ _=M
 have g2:M.get (0,0,2)=some (.row [I f.p,I f.q,I f.n,I f.e] 0 false):=by rw[<-hM];simp
 have g3:M.get (0,1,3)=some (.row [I g.p,I g.q,I g.n,I g.e] 0 false):=by rw[<-hM];simp
 have a2:sSlA 2 1 (.ptr (0,0,2) 0 0) none none M=some (.sref (0,0,2) 0 0 2 1 false):=by
  unfold sSlA
  simp[asI,g2]
 have a3:sSlA 2 1 (.ptr (0,1,3) 0 0) none none M=some (.sref (0,1,3) 0 0 2 1 false):=by
  unfold sSlA
  simp[asI,g3]
 have z2:Go.Ix.frz M.get deep (.sref (0,0,2) 0 0 2 1 false)=some (.slit [I f.p,I f.q] 2 false):=xhd (k:=4) g2 (by simp) rfl
 have z3:Go.Ix.frz M.get deep (.sref (0,1,3) 0 0 2 1 false)=some (.slit [I g.p,I g.q] 2 false):=xhd (k:=4) g3 (by simp) rfl
 obtain⟨r,m',r',k1,k2,k3⟩:=w_sCmp d f.p f.q g.p g.q
 subst k3
 obtain⟨m2,k4,k5⟩:=call0_any (m:=M) (l:=[.sref (0,0,2) 0 0 2 1 false,.sref (0,1,3) 0 0 2 1 false]) (by simp only[xue,xvn,z2,z3];rfl) k1 k2
 have hmk:∀(x y z:Int) (id:Id) (mm:Mem) (k:AV->Mem->O2),xe1 xgy [(0,1,I x),(1,1,I y),(2,1,I z)] 3 1 id mm k=k (slI [x,y,z]) mm:=λx y z id mm k=>by
  rw[z_int3];rfl
 have ho:∀(x y z:Int) mm,xcv (xcu (d+3)) xp [slI [x,y,z]] mm=some (I (orI [x,y,z]),mm):=λx y z mm=>w_Or (d+2) (l:=[x,y,z]) (by simp) mm
 rw[a2,xdd,a3,xdd,k5,xdd]
 simp only[]
 rw[hmk,ho,xdd]
 simp[mkD,mkM,cAp,tR,clean,show Nat.blt 0 1=true from rfl]
 exact RetF.st rfl rfl
end Go.Ix
