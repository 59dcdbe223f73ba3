import Derived.Test.YtgediplphidhpaaGreatWg13
import Derived.ProofKit
set_option linter.unusedSimpArgs false
set_option linter.unusedVariables false
set_option exponentiation.threshold 3000
namespace Go.Ix
open Go.Proofs Ieee
variable{a:AV}{D:List Px}{L S:Int}
section
variable(d:Nat)(hs:FHs)(ha:Sl pxE a D)(hR:RtI L S D){x y:Int}{z w:Nat}(hx:bd x 100000)(hy:bd y 100000)(hz:z<=8)(hw:w<=8)
include ha hR hx hy hw
include hz
end
end Go.Ix
namespace Go.Ix
open Go.Proofs Ieee
variable{a b:AV}{D D2:List Px}{L S L2 S2:Int}
theorem xqx:x10=[I 0,I 0,nilS,I 0,I 0,nilS]:=by kernel_rfl
theorem xxq:x7z=[I 0,I 0,nilS,I 0,I 0,nilS]:=by kernel_rfl
theorem z_2img:xid=[I 0,I 0,nilS,I 0,I 0,nilS]:=by kernel_rfl
theorem x102(L S L2 S2:Int)(a b:AV):xo5 [I 0,I 0,nilS,I 0,I 0,nilS] [(0,3,.agg [I L,I S,a]),(3,3,.agg [I L2,I S2,b])]=some (.agg [I L,I S,a,I L2,I S2,b]):=rfl
theorem x103:xo5 [I 0,I 0,nilS,I 0,I 0,nilS] []=some (.agg [I 0,I 0,nilS,I 0,I 0,nilS]):=rfl
theorem idx_i0(L S L2 S2:Int)(a b:AV):sIdx Tryz.prog x9k (.agg [I L,I S,a,I L2,I S2,b]) (I 0)=some (.agg [I L,I S,a]):=by kernel_rfl
theorem idx_i1(L S L2 S2:Int)(a b:AV):sIdx Tryz.prog x9k (.agg [I L,I S,a,I L2,I S2,b]) (I 1)=some (.agg [I L2,I S2,b]):=by kernel_rfl
def prE(L S:Int)(D:List Px)(L2 S2:Int)(D2:List Px):Int:=if(imE L S D).2=0 then(imE L2 S2 D2).2 else(imE L S D).2
theorem x13w(d:Nat)(ha:Sl pxE a D)(hl:D.length<=5000)(hb:Sl pxE b D2)(hl2:D2.length<=5000)(m:Mem):xnu (xnt (d+8)) x3r [.agg [I L,I S,a,I L2,I S2,b]] m
 = some (.tup [if prE L S D L2 S2 D2=0 then .agg [I L,I S,a,I L2,I S2,b]else .agg [I 0,I 0,nilS,I 0,I 0,nilS],I (prE L S D L2 S2 D2)],m):=by
 have i1:=λm=>x13k (L:=L) (S:=S) d ha hl m
 have i2:=λm=>x13k (L:=L2) (S:=S2) d hb hl2 m
 refine xo0 (by simp[ha.still1,hb.still1]) ?_ m
 rw[xj8]
 obtain⟨NM,hNM⟩:∃NM,NN=NM+3:=⟨NN-3,by have:=xo8;omega⟩
 unfold xde x9m xgk prE
 simp[mem0,ha.one,hb.one,xny,xqx,z_2img,x102,hNM]
 simp only[x9l]
 unfold xgj xgi
 by_cases c1:(imE L S D).2=0
 rotate_left
 .simp[idx_i0,xq5,xny,ha.one,i1,c1,xqx,x103,sLdP]
  exact RetF.tup rfl rfl
 by_cases c2:(imE L2 S2 D2).2=0
 rotate_left
 .simp[idx_i0,idx_i1,xq5,xny,ha.one,hb.one,i1,i2,c1,c2,xqx,x103,sLdP,xnx]
  exact RetF.tup rfl rfl
 .simp[idx_i0,idx_i1,xq5,xny,ha.one,hb.one,i1,i2,c1,c2,xqx,x103,sLdP,xnx,x13q,x102]
  exact RetF.tup (by simp[ha.still1,hb.still1]) rfl
theorem x164(d:Nat)(ha:Sl pxE a D)(hl:D.length<=5000)(hb:Sl pxE b D2)(hl2:D2.length<=5000)(m:Mem):xnu (xnt (d+6)) x3k [.agg [I L,I S,a,I L2,I S2,b]] m=some (I (prE L S D L2 S2 D2),m):=by
 have i1:=λm=>x13l (L:=L) (S:=S) d ha hl m
 have i2:=λm=>x13l (L:=L2) (S:=S2) d hb hl2 m
 refine xo0 (by simp[ha.still1,hb.still1]) ?_ m
 rw[xio]
 unfold xcu x84 prE
 by_cases c1:(imE L S D).2=0
 .simp[mem0,ha.one,hb.one,i1,i2,c1]
  exact RetF.st rfl rfl
 .simp[mem0,ha.one,hb.one,i1,i2,c1]
  exact RetF.st rfl rfl
theorem xtx(h:prE L S D L2 S2 D2=0):(imE L S D).2=0/\(imE L2 S2 D2).2=0:=by
 unfold prE at h
 by_cases c:(imE L S D).2=0
 .rw[if_pos c]at h;exact⟨c,h⟩
 .rw[if_neg c]at h;exact absurd h c
open Go.Proofs
abbrev U6(n:Nat):AV:=.sc (.int .u64 (n:Int))
theorem xrz(n:Int):IntKind.wrap .u64 n=n % 18446744073709551616:=rfl
section
variable(t:TypeId)(X Y:Operand)
theorem xur(a:Nat):sBin Tryz.prog .and t X Y (U6 a) (AV.sc (.int .u64 4294967295))=some (U6 (a % 4294967296)):=by
 refine xph ?_
 have e:bin0 Tryz.prog .and t X Y (U6 a) (AV.sc (.int .u64 4294967295))=some (AV.sc (.int .u64 (IntKind.wrap .u64 ((BitVec.ofInt 64 (a:Int) &&& BitVec.ofInt 64 4294967295).toNat:Int)))):=rfl
 rw[e,xrz]
 have h1:BitVec.ofInt 64 (a:Int)=BitVec.ofNat 64 a:=by
  apply BitVec.eq_of_toNat_eq
  rw[BitVec.toNat_ofInt,BitVec.toNat_ofNat]
  omega
 have h2:BitVec.ofInt 64 4294967295=BitVec.ofNat 64 (2 ^ 32-1):=rfl
 rw[h1,h2,BitVec.toNat_and,BitVec.toNat_ofNat,BitVec.toNat_ofNat,show(2 ^ 32-1) % 2 ^ 64=2 ^ 32-1 by omega,Nat.and_two_pow_sub_one_eq_mod]
 congr 3
 omega
theorem xus(a:Nat):sBin Tryz.prog .shr t X Y (U6 a) (AV.sc (.int .u64 32))=some (U6 (a / 4294967296)):=by
 refine xph ?_
 have e:bin0 Tryz.prog .shr t X Y (U6 a) (AV.sc (.int .u64 32))=some (AV.sc (.int .u64 ((a:Int).fdiv 4294967296))):=rfl
 rw[e,Int.fdiv_eq_ediv_of_nonneg _ (by omega)]
 rfl
theorem xrd(a b:Nat)(h:a+b<18446744073709551616):sBin Tryz.prog .add t X Y (U6 a) (U6 b)=some (U6 (a+b)):=by
 refine xph ?_
 have e:bin0 Tryz.prog .add t X Y (U6 a) (U6 b)=some (AV.sc (.int .u64 (IntKind.wrap .u64 ((a:Int)+b)))):=rfl
 rw[e,xrz]
 congr 3
 omega
theorem xsi(a b:Nat):sBin Tryz.prog .mul t X Y (U6 a) (U6 b)=some (U6 (a*b % 18446744073709551616)):=by
 refine xph ?_
 have e:bin0 Tryz.prog .mul t X Y (U6 a) (U6 b)=some (AV.sc (.int .u64 (IntKind.wrap .u64 ((a:Int)*b)))):=rfl
 rw[e,xrz,<-Int.natCast_mul]
 rfl
theorem u_lss(a b:Nat):sBin Tryz.prog .lss t X Y (U6 a) (U6 b)=some (B (decide (a<b))):=by
 refine xph ?_
 have e:bin0 Tryz.prog .lss t X Y (U6 a) (U6 b)=some (B (decide ((a:Int)<b))):=rfl
 rw[e]
 congr 2
 by_cases c:a<b
 .rw[x19h c,x19h (by omega)]
 .rw[x19w c,x19w (by omega)]
theorem xsy(a b:Nat):sBin Tryz.prog .gtr t X Y (U6 a) (U6 b)=some (B (decide (b<a))):=by
 refine xph ?_
 have e:bin0 Tryz.prog .gtr t X Y (U6 a) (U6 b)=some (B (decide ((a:Int) > b))):=rfl
 rw[e]
 congr 2
 by_cases c:b<a
 .rw[x19h c,x19h (by omega)]
 .rw[x19w c,x19w (by omega)]
theorem u_neq(a:Nat):sBin Tryz.prog .neq t X Y (U6 a) (U6 a)=some (B false):=by
 refine xph ?_
 have e:bin0 Tryz.prog .neq t X Y (U6 a) (U6 a)=some (B ((a:Int) != a)):=rfl
 rw[e]
 simp
end
theorem mul_parts{x1 x0 y1 y0:Nat}:(x1*4294967296+x0)*(y1*4294967296+y0)=x1*y1*18446744073709551616+(x1*y0+x0*y1)*4294967296+x0*y0:=by grind
theorem x104(d:Nat){x y:Nat}(hx:x<18446744073709551616)(hy:y<18446744073709551616)(m:Mem):xnu (xnt (d+1)) x1g [U6 x,U6 y] m=some (.tup [U6 (x*y / 18446744073709551616),U6 (x*y % 18446744073709551616)],m):=by
 refine xo0 rfl ?_ m
 rw[xk0]
 unfold xcq xbf
 have ex:x=x / 4294967296*4294967296+x % 4294967296:=by omega
 have ey:y=y / 4294967296*4294967296+y % 4294967296:=by omega
 have hp:=mul_parts (x1:=x / 4294967296) (x0:=x % 4294967296) (y1:=y / 4294967296) (y0:=y % 4294967296)
 rw[<-ex,<-ey]at hp
 have bP:=x1a3 (show x % 4294967296<=4294967295 by omega) (show y % 4294967296<=4294967295 by omega)
 have bQ:=x1a3 (show x / 4294967296<=4294967295 by omega) (show y % 4294967296<=4294967295 by omega)
 have bR:=x1a3 (show x % 4294967296<=4294967295 by omega) (show y / 4294967296<=4294967295 by omega)
 have bS:=x1a3 (show x / 4294967296<=4294967295 by omega) (show y / 4294967296<=4294967295 by omega)
 simp only[mem0,xur,xus,xnz,xsi]
 generalize x*y=Z at *
 generalize x % 4294967296*(y % 4294967296)=P at *
 generalize x / 4294967296*(y % 4294967296)=Q at *
 generalize x % 4294967296*(y / 4294967296)=R at *
 generalize x / 4294967296*(y / 4294967296)=S at *
 rw[Nat.mod_eq_of_lt (show P<18446744073709551616 by omega),Nat.mod_eq_of_lt (show Q<18446744073709551616 by omega),Nat.mod_eq_of_lt (show R<18446744073709551616 by omega),Nat.mod_eq_of_lt (show S<18446744073709551616 by omega)]
 rw[xrd _ _ _ _ _ (by omega)]
 simp only[xur,xus,xnz]
 rw[xrd _ _ _ _ _ (by omega)]
 simp only[xur,xus,xnz]
 rw[xrd _ _ _ _ _ (by omega)]
 simp only[xur,xus,xnz]
 rw[xrd _ _ _ _ _ (by omega)]
 have e1:S+(Q+P / 4294967296) / 4294967296+((Q+P / 4294967296) % 4294967296+R) / 4294967296=Z / 18446744073709551616:=by omega
 rw[e1]
 exact RetF.tup rfl rfl
def cmpN(u v:Nat):Int:=if u<v then -1 else if v<u then 1 else 0
def cmpI(u v:Int):Int:=if u<v then -1 else if v<u then 1 else 0
theorem x13x(d:Nat)(x y:Nat)(m:Mem):xnu (xnt (d+2)) x2x [U6 x,U6 y] m=some (I (cmpN x y),m):=by
 have nn:∀(z:Nat) m,xnu (xnt (d+1)) x31 [U6 z] m=some (B false,m):=λz m=>by
  refine xo0 rfl ?_ m
  rw[xks]
  unfold xex xcl
  simp only[mem0,u_neq,xnz]
  exact RetF.st rfl rfl
 refine xo0 rfl ?_ m
 rw[xkm]
 unfold xer xcf cmpN
 by_cases c1:x<y
 .simp[mem0,nn,u_lss,xsy,c1];exact RetF.st rfl rfl
 by_cases c2:y<x
 .simp[mem0,nn,u_lss,xsy,c1,c2];exact RetF.st rfl rfl
 .simp[mem0,nn,u_lss,xsy,c1,c2];exact RetF.st rfl rfl
theorem xxr(d:Nat)(x y:Int)(m:Mem):xnu (xnt (d+2)) x2v [I x,I y] m=some (I (cmpI x y),m):=by
 have nn:∀(z:Int) m,xnu (xnt (d+1)) x2y [I z] m=some (B false,m):=λz m=>by
  refine xo0 rfl ?_ m
  rw[xkn]
  unfold xes xcg
  simp[mem0]
  exact RetF.st rfl rfl
 refine xo0 rfl ?_ m
 rw[xkd]
 unfold xei xc4 cmpI
 by_cases c1:x<y
 .simp[mem0,nn,c1];exact RetF.st rfl rfl
 by_cases c2:y<x
 .simp[mem0,nn,c1,c2];exact RetF.st rfl rfl
 .simp[mem0,nn,c1,c2];exact RetF.st rfl rfl
def orI:List Int->Int
 |[]=>0
 |x::r=>if x=0 then orI r else x
theorem w_Or(d:Nat){l:List Int}(hl:l.length<=3)(m:Mem):xnu (xnt (d+1)) x18 [slI l] m=some (I (orI l),m):=by
 refine xo0 rfl ?_ m
 rw[xkb]
 obtain⟨NM,hNM⟩:∃NM,NN=NM+4:=⟨NN-4,by have:=xo8;omega⟩
 unfold xeg xc2 xhp
 simp only[mem0,(xqj l).len xrv,xnz,hNM]
 have key:∀(suf:List Int) (k j fc:Nat) (mm:Mem),l.drop k=suf->suf.length<j->x5q (xnt d) [] 0 j (I 0) (slI l) (I l.length) (I k) mm fc=some (I (orI suf),mm):=by
  intro suf
  induction suf with
  |nil=>
   intro k j fc mm hd hj
   obtain⟨j,rfl⟩:∃i,j=i+1:=⟨j-1,by simp at hj;omega⟩
   have hk:¬((k:Int)<(l.length:Int)):=by have:=x19k.mp hd;omega
   simp only[x5q]
   unfold xc1
   simp[hk,xho,orI]
  |cons x r ih=>
   intro k j fc mm hd hj
   obtain⟨j,rfl⟩:∃i,j=i+1:=⟨j-1,by simp at hj;omega⟩
   obtain⟨hk,he,hd⟩:=xpe hd
   have hk':(k:Int)<(l.length:Int):=by omega
   have ix:=(xqj l).ix (z:=1) (λ_=>rfl) hk
   rw[xp2 hk,x19b,he]at ix
   have h':=ih (k+1) j (fc+9) mm hd (by simp at hj;omega)
   simp only[x5q]
   unfold xc1 orI
   by_cases c:x=0
   .simp(disch:=omega) [hk',ix,intE,c,xnx]
    exact h'
   .simp[hk',ix,intE,c]
 rw[show(I 0:AV)=I ((0:Nat):Int)from rfl]
 have:=key l 0 (NM+4) 5 ⟨[],1⟩ rfl (by omega)
 rw[show(I ((0:Nat):Int):AV)=I 0 from rfl]at this ⊢
 rw[this]
 exact RetF.st rfl rfl
theorem xxs{u v:Nat}(h:u<v):cmpN u v=-1:=if_pos h
theorem xxt{u v:Nat}(h:v<u):cmpN u v=1:=by unfold cmpN;rw[if_neg (by omega),if_pos h]
theorem x105(u:Nat):cmpN u u=0:=by unfold cmpN;rw[if_neg (by omega),if_neg (by omega)]
theorem or_1{x y:Int}(h:x≠0):orI [x,y]=x:=if_neg h
theorem or_0(y:Int):orI [0,y]=y:=by
 show(if y=0 then 0 else y)=y
 split<;>omega
theorem cmp_128(u v:Nat):orI [cmpN (u / 18446744073709551616) (v / 18446744073709551616),cmpN (u % 18446744073709551616) (v % 18446744073709551616)]=cmpN u v:=by
 rcases Nat.lt_trichotomy (u / 18446744073709551616) (v / 18446744073709551616)with h|h|h
 .rw[xxs h,or_1 (by omega),xxs (by omega)]
 .rw[h,x105,or_0]
  rcases Nat.lt_trichotomy (u % 18446744073709551616) (v % 18446744073709551616)with g|g|g
  .rw[xxs g,xxs (by omega)]
  .rw[g,x105,show u=v by omega,x105]
  .rw[xxt g,xxt (by omega)]
 .rw[xxt h,or_1 (by omega),xxt (by omega)]
theorem xut{n:Int}(h:0<=n)(h2:n<18446744073709551616):sCvt Tryz.prog xo4 x7 (I n)=some (U6 n.toNat):=by
 have hn:xo1 Tryz.prog (convert xo4 x7 (.int .i64 n))=some (.int .u64 (IntKind.wrap .u64 n)):=by kernel_rfl
 unfold sCvt cvt0
 simp only[show xo9 (I n)=some (.int .i64 n)from rfl,show xr2 Tryz.prog xo4 x7 (.int .i64 n)=none from rfl,hn]
 rw[xrz]
 have e:n % 18446744073709551616=((n.toNat:Nat):Int):=by omega
 rw[e]
 rfl
theorem w_compare(d:Nat){n e k g:Int}(hn:0<=n/\n<9000000000000000000)(he:0<=e/\e<9000000000000000000)(hk:0<=k/\k<9000000000000000000)(hg:0<=g/\g<9000000000000000000)(m:Mem):xnu (xnt (d+3)) x4d [.agg [I n,I e],.agg [I k,I g]] m=some (I (cmpN (n.toNat*g.toNat) (k.toNat*e.toNat)),m):=by
 have m1:=λm=>x104 (d+1) (x:=n.toNat) (y:=g.toNat) (by omega) (by omega) m
 have m2:=λm=>x104 (d+1) (x:=k.toNat) (y:=e.toNat) (by omega) (by omega) m
 have hor:=λa b m=>w_Or (d+1) (l:=[a,b]) (by simp) m
 refine xo0 rfl ?_ m
 rw[xkc]
 unfold xeh xc3
 have hmk:∀(x y:Int) (id:Id) (mm:Mem) (k:AV->Mem->O2),xp1 xra [(0,1,I x),(1,1,I y)] 2 1 id mm k=k (slI [x,y]) mm:=λx y id mm k=>by
  rw[z_int3];rfl
 simp[mem0,xut hn.1 (by omega),xut he.1 (by omega),xut hk.1 (by omega),xut hg.1 (by omega),m1,m2]
 have hor':∀(x y:Int) mm,xnu (xnt (d+2)) x18 [slI [x,y]] mm=some (I (orI [x,y]),mm):=hor
 rw[x13x,xnz]
 simp only[]
 rw[x13x,xnz,hmk,hor',xnz]
 simp only[]
 rw[cmp_128]
 exact RetF.st (still_sc _) (Eq.refl _)
theorem quo_eq{N Y q:Nat}(h1:q*Y<=N)(h2:N<(q+1)*Y):q=N / Y:=by
 have hY:0<Y:=by
  rcases Nat.eq_zero_or_pos Y with h|h
  .rw[h,Nat.mul_zero]at h2;omega
  .exact h
 have a:=(Nat.le_div_iff_mul_le hY).mpr h1
 have b:=(Nat.div_lt_iff_lt_mul hY).mpr h2
 omega
def digN(B yn0 yn1 un0:Nat):Nat->Nat->Nat->Nat
 |0,q,_=>q
 |j+1,q,r=>if q*yn0 > B*r+un0 then(if r+yn1 ≥ B then q-1 else digN B yn0 yn1 un0 j (q-1) (r+yn1))else q
theorem digN_ok{B yn0 yn1 un0 U:Nat}(hB:un0<B)(h0:yn0<B):∀(j q r:Nat),q<=j->q<=B->U=q*yn1+r->(U*B+un0)<(q+1)*(yn1*B+yn0) ->
 digN B yn0 yn1 un0 j q r=(U*B+un0) / (yn1*B+yn0)
 |0,q,r,hj,hq,hU,h2=>by
  have:q=0:=by omega
  subst this
  exact quo_eq (q:=0) (by omega) h2
 |j+1,q,r,hj,hq,hU,h2=>by
  have e1:(q*yn1+r)*B+un0=q*(yn1*B)+(B*r+un0):=by grind
  have e2:q*(yn1*B+yn0)=q*(yn1*B)+q*yn0:=by grind
  unfold digN
  by_cases c:q*yn0 > B*r+un0
  .rw[if_pos c]
   have hq0:q≠0:=by rintro rfl;omega
   obtain⟨p,rfl⟩:∃p,q=p+1:=⟨q-1,by omega⟩
   have hlt:U*B+un0<(p+1)*(yn1*B+yn0):=by rw[hU,e1,e2];omega
   have hU2:U=p*yn1+(r+yn1):=by rw[hU];grind
   rw[x1bu]
   by_cases k:r+yn1 ≥ B
   .rw[if_pos k]
    refine quo_eq ?_ hlt
    have e3:(p*yn1+(r+yn1))*B+un0=p*(yn1*B)+(B*(r+yn1)+un0):=by grind
    have e4:p*(yn1*B+yn0)=p*(yn1*B)+p*yn0:=by grind
    have b1:B*B<=B*(r+yn1):=x1a3 (x196 _) k
    have b2:p*yn0<=B*B:=x1a3 (by omega) (by omega)
    rw[hU2,e3,e4]
    omega
   .rw[if_neg k]
    exact digN_ok hB h0 j p (r+yn1) (by omega) (by omega) hU2 hlt
  .rw[if_neg c]
   refine quo_eq ?_ h2
   rw[hU,e1,e2]
   omega
theorem guess{B yn0 yn1 un0 U:Nat}(hy:0<yn1)(hB:un0<B):U*B+un0<(U / yn1+1)*(yn1*B+yn0):=by
 have h1:U<(U / yn1+1)*yn1:=by
  have:=Nat.div_add_mod U yn1
  have h2:=x1aa U hy
  rw[x1ak,Nat.mul_comm (U / yn1)]
  omega
 have h2:(U+1)*B<=(U / yn1+1)*yn1*B:=x1a3 h1 (x196 _)
 have h3:(U / yn1+1)*(yn1*B+yn0)=(U / yn1+1)*yn1*B+(U / yn1+1)*yn0:=by grind
 have h4:(U+1)*B=U*B+B:=by grind
 omega
def bl(x:Nat):Nat:=if x=0 then 0 else Nat.log2 x+1
theorem bl_in{x:Nat}(h:x≠0):2 ^ (bl x-1)<=x/\x<2 ^ bl x:=by
 unfold bl
 rw[if_neg h,x1bu]
 exact⟨Nat.log2_self_le h,Nat.lt_log2_self⟩
theorem x106{x k:Nat}(h:2 ^ k<=x):bl x=k+bl (x / 2 ^ k):=by
 have hp:=Nat.two_pow_pos k
 have hx:x≠0:=by omega
 have hq:x / 2 ^ k≠0:=by have:=(Nat.le_div_iff_mul_le hp).mpr (show 1*2 ^ k<=x by omega);omega
 unfold bl
 rw[if_neg hx,if_neg hq]
 have h1:=Nat.log2_self_le hq
 have h2:=@Nat.lt_log2_self (x / 2 ^ k)
 have h3:=(Nat.le_div_iff_mul_le hp).mp h1
 have h4:=(Nat.div_lt_iff_lt_mul hp).mp h2
 rw[<-Nat.pow_add]at h3 h4
 have h5:=(Nat.le_log2 hx).mpr h3
 have h6:=(Nat.log2_lt hx).mpr h4
 omega
section
variable(t:TypeId)(X Y:Operand)
theorem xre(a b:Nat):sBin Tryz.prog .geq t X Y (U6 a) (U6 b)=some (B (decide (b<=a))):=by
 refine xph ?_
 have e:bin0 Tryz.prog .geq t X Y (U6 a) (U6 b)=some (B (decide ((a:Int) ≥ b))):=rfl
 rw[e]
 congr 2
 by_cases c:b<=a
 .rw[x19h c,x19h (by omega)]
 .rw[x19w c,x19w (by omega)]
theorem u_leq(a b:Nat):sBin Tryz.prog .leq t X Y (U6 a) (U6 b)=some (B (decide (a<=b))):=by
 refine xph ?_
 have e:bin0 Tryz.prog .leq t X Y (U6 a) (U6 b)=some (B (decide ((a:Int)<=b))):=rfl
 rw[e]
 congr 2
 by_cases c:a<=b
 .rw[x19h c,x19h (by omega)]
 .rw[x19w c,x19w (by omega)]
theorem u_eql(a b:Nat):sBin Tryz.prog .eql t X Y (U6 a) (U6 b)=some (B (decide (a=b))):=by
 refine xph ?_
 have e:bin0 Tryz.prog .eql t X Y (U6 a) (U6 b)=some (B ((a:Int) == b)):=rfl
 rw[e]
 congr 2
 by_cases c:a=b
 .subst c;simp
 .rw[x19w c,beq_eq_false_iff_ne];omega
theorem u_sub(a b:Nat)(h:b<=a)(h2:a<18446744073709551616):sBin Tryz.prog .sub t X Y (U6 a) (U6 b)=some (U6 (a-b)):=by
 refine xph ?_
 have e:bin0 Tryz.prog .sub t X Y (U6 a) (U6 b)=some (AV.sc (.int .u64 (IntKind.wrap .u64 ((a:Int)-b)))):=rfl
 rw[e,xrz]
 congr 3
 omega
theorem u_quo(a b:Nat)(h:b≠0)(h2:a<18446744073709551616):sBin Tryz.prog .quo t X Y (U6 a) (U6 b)=some (U6 (a / b)):=by
 refine xph ?_
 have e:bin0 Tryz.prog .quo t X Y (U6 a) (U6 b)=(xo1 Tryz.prog (Op.intDiv .quo .u64 (a:Int) b)).map xom:=rfl
 rw[e]
 unfold Op.intDiv
 rw[if_neg (by omega)]
 have e2:(xo1 Tryz.prog (pure (Value.int .u64 (IntKind.wrap .u64 ((a:Int).tdiv b))))).map xom=some (AV.sc (.int .u64 (IntKind.wrap .u64 ((a:Int).tdiv b)))):=rfl
 refine e2.trans ?_
 rw[xrz,Int.tdiv_eq_ediv_of_nonneg (by omega),<-Int.natCast_ediv]
 have:=x1dl a b
 generalize a / b=q at *
 congr 3
 omega
theorem u_rem(a b:Nat)(h:b≠0):sBin Tryz.prog .rem t X Y (U6 a) (U6 b)=some (U6 (a % b)):=by
 refine xph ?_
 have e:bin0 Tryz.prog .rem t X Y (U6 a) (U6 b)=(xo1 Tryz.prog (Op.intDiv .rem .u64 (a:Int) b)).map xom:=rfl
 rw[e]
 unfold Op.intDiv
 rw[if_neg (by omega)]
 have e2:(xo1 Tryz.prog (pure (Value.int .u64 ((a:Int).tmod b)))).map xom=some (AV.sc (.int .u64 ((a:Int).tmod b))):=rfl
 refine e2.trans ?_
 rw[Int.tmod_eq_emod_of_nonneg (by omega),<-Int.natCast_emod]
theorem u_shl(a s:Nat)(h:s<64):sBin Tryz.prog .shl t X Y (U6 a) (U6 s)=some (U6 (a*2 ^ s % 18446744073709551616)):=by
 refine xph ?_
 have e:bin0 Tryz.prog .shl t X Y (U6 a) (U6 s)=(xo1 Tryz.prog (Op.shift .shl .u64 (a:Int) .u64 s)).map xom:=rfl
 rw[e]
 unfold Op.shift
 rw[if_neg (by omega)]
 have e2:(xo1 Tryz.prog (pure (Value.int .u64 (IntKind.wrap .u64 ((a:Int)*2 ^ min (Int.toNat s) 64))))).map xom=some (AV.sc (.int .u64 (IntKind.wrap .u64 ((a:Int)*2 ^ min (Int.toNat s) 64)))):=rfl
 refine e2.trans ?_
 rw[xrz,x1ax,x1ca (by omega)]
 congr 3
theorem xw2(a s:Nat)(h:s<64):sBin Tryz.prog .shr t X Y (U6 a) (U6 s)=some (U6 (a / 2 ^ s)):=by
 refine xph ?_
 have e:bin0 Tryz.prog .shr t X Y (U6 a) (U6 s)=(xo1 Tryz.prog (Op.shift .shr .u64 (a:Int) .u64 s)).map xom:=rfl
 rw[e]
 unfold Op.shift
 rw[if_neg (by omega)]
 have e2:(xo1 Tryz.prog (pure (Value.int .u64 ((a:Int).fdiv (2 ^ min (Int.toNat s) 64))))).map xom=some (AV.sc (.int .u64 ((a:Int).fdiv (2 ^ min (Int.toNat s) 64)))):=rfl
 refine e2.trans ?_
 rw[x1ax,x1ca (by omega),show((2:Int) ^ s)=((2 ^ s:Nat):Int) by rw[Int.natCast_pow];rfl,Int.fdiv_eq_ediv_of_nonneg _ (Int.natCast_nonneg _),<-Int.natCast_ediv]
theorem u_or(a b s:Nat)(h:b<2 ^ s)(h2:a*2 ^ s+b<18446744073709551616):sBin Tryz.prog .or t X Y (U6 (a*2 ^ s)) (U6 b)=some (U6 (a*2 ^ s+b)):=by
 refine xph ?_
 have e:bin0 Tryz.prog .or t X Y (U6 (a*2 ^ s)) (U6 b)=some (AV.sc (.int .u64 (IntKind.wrap .u64 ((BitVec.ofInt 64 ((a*2 ^ s:Nat):Int) ||| BitVec.ofInt 64 (b:Int)).toNat:Int)))):=rfl
 rw[e,xrz]
 have h1:∀c:Nat,BitVec.ofInt 64 (c:Int)=BitVec.ofNat 64 c:=λc=>by
  apply BitVec.eq_of_toNat_eq
  rw[BitVec.toNat_ofInt,BitVec.toNat_ofNat]
  omega
 rw[h1,h1,BitVec.toNat_or,BitVec.toNat_ofNat,BitVec.toNat_ofNat,Nat.mod_eq_of_lt (show a*2 ^ s<2 ^ 64 by omega),Nat.mod_eq_of_lt (show b<2 ^ 64 by omega),Nat.mul_comm a,<-Nat.two_pow_add_eq_or_of_lt h]
 congr 3
 rw[Nat.mul_comm]at h2
 omega
end
theorem len_tab(call:xnv)(hs:FHs)(u:Nat)(n:Int)(m:Mem)(fc:Nat) :
 (List.range 256).map (λx=>x7j call hs u (U6 x) (I n) m fc)=(List.range 256).map (λx=>some (I (w64 (n+(bl x:Nat))),m)):=by kernel_rfl
theorem B0_len(call:xnv)(hs:FHs)(u:Nat){x:Nat}(hx:x<256)(n:Int)(m:Mem)(fc:Nat):x7j call hs u (U6 x) (I n) m fc=some (I (w64 (n+(bl x:Nat))),m):=
 List.map_inj_left.mp (len_tab call hs u n m fc) x (x19v.mpr hx)
theorem bl_le{x k:Nat}(h:x<2 ^ k):bl x<=k:=by
 unfold bl
 split
 .omega
 .rename_i c
  have:=(Nat.log2_lt c).mpr h
  omega
theorem B1_len(call:xnv)(hs:FHs)(u:Nat){x:Nat}(hx:x<65536)(n:Int)(hn:0<=n/\n<=48)(m:Mem)(fc:Nat):x7k call hs u (U6 x) (I n) m fc=some (I (n+(bl x:Nat)),m):=by
 unfold x7k
 rw[show(AV.sc (.int .u64 256))=U6 256 from rfl,show(AV.sc (.int .u64 8))=U6 8 from rfl]
 by_cases c:256<=x
 .have hb:=x106 (x:=x) (k:=8) (by omega)
  have hle:=bl_le (x:=x / 2 ^ 8) (k:=8) (by omega)
  simp only[xre,xnz,c,x19d,xot,xw2 _ _ _ x 8 (by omega)]
  rw[xws]
  simp only[xnz]
  rw[B0_len _ _ _ (by omega),xnx (n:=n+8) (by omega) (by omega),xnx (by omega) (by omega),hb]
  congr 3
  omega
 .have hle:=bl_le (x:=x) (k:=8) (by omega)
  simp only[xre,xnz,c,x1a8,xpj]
  rw[B0_len _ _ _ (by omega),xnx (by omega) (by omega)]
theorem B2_len(call:xnv)(hs:FHs)(u:Nat){x:Nat}(hx:x<4294967296)(n:Int)(hn:0<=n/\n<=32)(m:Mem)(fc:Nat):x7l call hs u (U6 x) (I n) m fc=some (I (n+(bl x:Nat)),m):=by
 unfold x7l
 rw[show(AV.sc (.int .u64 65536))=U6 65536 from rfl,show(AV.sc (.int .u64 16))=U6 16 from rfl]
 by_cases c:65536<=x
 .have hb:=x106 (x:=x) (k:=16) (by omega)
  simp only[xre,xnz,c,x19d,xot,xw2 _ _ _ x 16 (by omega)]
  rw[xws]
  simp only[xnz]
  rw[xnx (n:=n+16) (by omega) (by omega),B1_len _ _ _ (by omega) _ (by omega),hb]
  congr 3
  omega
 .simp only[xre,xnz,c,x1a8,xpj]
  rw[B1_len _ _ _ (by omega) _ (by omega)]
theorem w_Len64(d:Nat){x:Nat}(hx:x<18446744073709551616)(m:Mem):xnu (xnt (d+1)) x4l [U6 x] m=some (I (bl x:Nat),m):=by
 refine xo0 rfl ?_ m
 rw[xkq]
 unfold xev xcj xhx
 rw[show(AV.sc (.int .u64 4294967296))=U6 4294967296 from rfl,show(AV.sc (.int .u64 32))=U6 32 from rfl]
 by_cases c:4294967296<=x
 .have hb:=x106 (x:=x) (k:=32) (by omega)
  simp only[xre,xnz,c,x19d,xot,xw2 _ _ _ x 32 (by omega)]
  rw[B2_len _ _ _ (by omega) _ (by omega),hb]
  refine RetF.st rfl ?_
  rfl
 .simp only[xre,xnz,c,x1a8,xpj]
  rw[B2_len _ _ _ (by omega) _ (by omega),x1ce]
  exact RetF.st rfl rfl
theorem x165(d:Nat){x:Nat}(hx:x<18446744073709551616)(m:Mem):xnu (xnt (d+2)) x4h [U6 x] m=some (I (64-(bl x:Nat)),m):=by
 have hl:=λm=>w_Len64 d hx m
 have hb:=bl_le (x:=x) (k:=64) (by omega)
 refine xo0 rfl ?_ m
 rw[xki]
 unfold xen xcb
 simp only[hl,xnz]
 rw[sSub_I,xnx (by omega) (by omega)]
 exact RetF.st rfl rfl
end Go.Ix
set_option maxRecDepth 20000
namespace Go.Ix
open Go.Proofs
theorem u_subw(t:TypeId)(X Y:Operand)(a b:Nat)(h1:a<18446744073709551616)(h2:b<18446744073709551616):∃c,sBin Tryz.prog .sub t X Y (U6 a) (U6 b)=some (U6 c):=by
 refine⟨(a+18446744073709551616-b) % 18446744073709551616,xph ?_⟩
 have e:bin0 Tryz.prog .sub t X Y (U6 a) (U6 b)=some (AV.sc (.int .u64 (IntKind.wrap .u64 ((a:Int)-b)))):=rfl
 rw[e,xrz]
 congr 3
 omega
theorem u_cvt(a:Nat)(h:a<18446744073709551616):sCvt Tryz.prog xo4 x7c (I a)=some (U6 a):=by
 have hn:xo1 Tryz.prog (convert xo4 x7c (.int .i64 (a:Int)))=some (.int .u64 (IntKind.wrap .u64 (a:Int))):=by kernel_rfl
 unfold sCvt cvt0
 simp only[show xo9 (I (a:Int))=some (.int .i64 (a:Int))from rfl,show xr2 Tryz.prog xo4 x7c (.int .i64 (a:Int))=none from rfl,hn]
 rw[xrz]
 have e:(a:Int) % 18446744073709551616=(a:Int):=by omega
 rw[e]
 rfl
theorem div_facts{hi lo y s P Q:Nat}(hlo:lo<18446744073709551616)(hN:hi*18446744073709551616+lo<=1000*y)(hP:P*Q=18446744073709551616)(h1:y<Q)(h2:Q<=2*y)(hP0:0<P) :
 y*P<18446744073709551616/\9223372036854775808<=y*P/\lo / Q<P/\hi*P+lo / Q<1000/\(hi*P+lo / Q)*18446744073709551616+lo*P % 18446744073709551616=(hi*18446744073709551616+lo)*P:=by
 have hQ0:0<Q:=by omega
 have a1:y*P<Q*P:=(Nat.mul_lt_mul_right hP0).mpr h1
 have a2:Q*P<=2*y*P:=x1a3 h2 (x196 _)
 rw[Nat.mul_comm Q P,hP]at a1 a2
 have a3:lo / Q<P:=(Nat.div_lt_iff_lt_mul hQ0).mpr (by omega)
 have a4:lo*P / 18446744073709551616=lo / Q:=by
  rw[<-hP,Nat.mul_comm P Q,Nat.mul_div_mul_right _ _ hP0]
 have a5:=Nat.div_add_mod (lo*P) 18446744073709551616
 rw[a4]at a5
 have a6:(hi*18446744073709551616+lo)*P<=1000*y*P:=x1a3 hN (x196 _)
 have e1:(hi*P+lo / Q)*18446744073709551616+lo*P % 18446744073709551616=(hi*18446744073709551616+lo)*P:=by
  have:(hi*18446744073709551616+lo)*P=hi*P*18446744073709551616+lo*P:=by grind
  rw[this]
  generalize hi*P=u at *
  omega
 refine⟨a1,by rw[Nat.mul_assoc]at a2;omega,a3,?_,e1⟩
 rw[Nat.mul_assoc]at a6
 omega
theorem nplus{a b U:Nat}(h:a*4294967296+b / 4294967296=U):U*4294967296+b % 4294967296=a*18446744073709551616+b:=by
 have e2:b / 4294967296*4294967296+b % 4294967296=b:=Nat.div_add_mod' b 4294967296
 have e:(a*4294967296+b / 4294967296)*4294967296=a*18446744073709551616+b / 4294967296*4294967296:=by rw[x1aq,Nat.mul_assoc]
 rw[<-h,e,x1ag,e2]
theorem l_dig(call:xnv)(hs:FHs)(u:Nat)(Y s yn1 yn0 un0 un21:Nat)(h0:yn0<4294967296)(h1:yn1<4294967296)(hu:un0<4294967296)(m:Mem):∀(k q r j fc:Nat),q<=k->q<=5000->k<j->r<4294967296 ->
 ∃fc',x5n call hs u j (U6 Y) (U6 s) (U6 yn1) (U6 yn0) (U6 un0) (U6 0) (U6 r) (U6 un21) (U6 q) m fc=x7b call hs u (U6 Y) (U6 s) (U6 un0) (U6 0) (U6 un21) (U6 (digN 4294967296 yn0 yn1 un0 k q r)) m fc':=by
 intro k
 induction k with
 |zero=>
  intro q r j fc hq _ hj hr
  obtain⟨j,rfl⟩:∃i,j=i+1:=⟨j-1,by omega⟩
  have:q=0:=by omega
  subst this
  refine⟨fc+12,?_⟩
  simp only[x5n]
  unfold xbg digN
  rw[show(AV.sc (.int .u64 4294967296))=U6 4294967296 from rfl]
  have e1:¬4294967296<=0:=by omega
  have ea:=λt X Y=>xrd t X Y (4294967296*r % 18446744073709551616) un0 (by omega)
  simp[xre,xsi,xsy,ea]
 |succ k ih=>
  intro q r j fc hq h5 hj hr
  obtain⟨j,rfl⟩:∃i,j=i+1:=⟨j-1,by omega⟩
  have hm1:q*yn0<=5000*4294967296:=x1a3 h5 (by omega)
  have e1:¬4294967296<=q:=by omega
  have e2:q*yn0 % 18446744073709551616=q*yn0:=Nat.mod_eq_of_lt (by omega)
  have e3:4294967296*r % 18446744073709551616=4294967296*r:=Nat.mod_eq_of_lt (by omega)
  have ea:=λt X Y=>xrd t X Y (4294967296*r) un0 (by omega)
  have eb:=λt X Y=>xrd t X Y r yn1 (by omega)
  simp only[x5n]
  unfold xbg
  conv=>rhs;unfold digN
  rw[show(AV.sc (.int .u64 4294967296))=U6 4294967296 from rfl,show(AV.sc (.int .u64 1))=U6 1 from rfl]
  by_cases c:4294967296*r+un0<q*yn0
  rotate_left
  .refine⟨fc+12,?_⟩
   rw[if_neg (by omega)]
   simp[xre,xsi,xsy,e1,e2,e3,ea,c]
  have hq0:1<=q:=by
   rcases Nat.eq_zero_or_pos q with h|h
   .rw[h]at c;omega
   .exact h
  have ec:=λt X Y=>u_sub t X Y q 1 hq0 (by omega)
  rw[if_pos (by omega)]
  by_cases c2:4294967296<=r+yn1
  .refine⟨fc+21,?_⟩
   rw[if_pos (by omega)]
   simp[xre,xsi,xsy,e1,e2,e3,ea,eb,ec,c,c2]
  .obtain⟨fc',e⟩:=ih (q-1) (r+yn1) j (fc+21) (by omega) (by omega) (by omega) (by omega)
   refine⟨fc',?_⟩
   rw[if_neg (by omega),<-e]
   simp[xre,xsi,xsy,e1,e2,e3,ea,eb,ec,c,c2]
theorem w_Div64(d:Nat){hi lo y:Nat}(hlo:lo<18446744073709551616)(hy0:0<y)(hy:y<9223372036854775808)(hN:hi*18446744073709551616+lo<=1000*y):∃r,∀m,xnu (xnt (d+3)) x49 [U6 hi,U6 lo,U6 y] m=some (.tup [U6 ((hi*18446744073709551616+lo) / y),U6 r],m):=by
 have g1:¬y<=hi:=by omega
 have g0:¬y=0:=by omega
 by_cases c:hi=0
 .subst c
  refine⟨lo % y,λm=>xo0 rfl ?_ m⟩
  rw[xi8]
  unfold x7x x7d xbl xbk xbj
  rw[show(AV.sc (.int .u64 0))=U6 0 from rfl]
  simp[u_eql,u_leq,g0,g1,u_quo _ _ _ lo y g0 hlo,u_rem _ _ _ lo y g0]
  exact RetF.tup rfl rfl
 obtain⟨b1,b2⟩:=bl_in g0
 have hb:=bl_le (x:=y) (k:=63) (by omega)
 have hb0:bl y≠0:=by intro h;rw[h]at b2;omega
 obtain⟨s,hs⟩:∃s,s+bl y=64:=⟨64-bl y,by omega⟩
 have hPQ:2 ^ s*2 ^ bl y=18446744073709551616:=by rw[<-Nat.pow_add,hs]
 have hQ2:2 ^ bl y<=2*y:=by
  obtain⟨e,he⟩:∃e,bl y=e+1:=⟨bl y-1,by omega⟩
  rw[he,x1bu]at b1
  rw[he,Nat.pow_succ];omega
 have hqN:(hi*18446744073709551616+lo) / y<=1000:=by
  have:(hi*18446744073709551616+lo) / y<1001:=(Nat.div_lt_iff_lt_mul hy0).mpr (by omega)
  omega
 obtain⟨f1,f2,f3,f4,f5⟩:=div_facts (s:=s) hlo hN hPQ b2 hQ2 (Nat.two_pow_pos s)
 have lz:=λm=>x165 d (x:=y) (by omega) m
 have e64:((64:Int)-(bl y:Nat))=((s:Nat):Int):=by omega
 have ec:=u_cvt s (by omega)
 have eY:=λt X Y=>u_shl t X Y y s (by omega)
 have eh:=λt X Y=>u_shl t X Y hi s (by omega)
 have el:=λt X Y=>u_shl t X Y lo s (by omega)
 have es:=λt X Y=>u_sub t X Y 64 s (by omega) (by omega)
 have er:=λt X Y=>xw2 t X Y lo (64-s) (by omega)
 rw[show 64-s=bl y by omega]at es er
 have eo:=λt X Y=>u_or t X Y hi (lo / 2 ^ bl y) s f3 (by omega)
 rw[Nat.mod_eq_of_lt f1]at eY
 have hhi:hi*2 ^ s<18446744073709551616:=Nat.lt_of_le_of_lt (Nat.le_add_right _ (lo / 2 ^ bl y)) (Nat.lt_trans f4 (by omega))
 rw[Nat.mod_eq_of_lt hhi]at eh
 obtain⟨un32,h32⟩:∃v,hi*2 ^ s+lo / 2 ^ bl y=v:=⟨_,rfl⟩
 obtain⟨un10,h10⟩:∃v,lo*2 ^ s % 18446744073709551616=v:=⟨_,rfl⟩
 obtain⟨Y,hY⟩:∃v,y*2 ^ s=v:=⟨_,rfl⟩
 rw[h32]at f4 f5 eo
 rw[h10]at f5 el
 rw[hY]at f1 f2 eY
 have h10l:un10<18446744073709551616:=by rw[<-h10];exact x1aa _ (by omega)
 have q1:un32 / (Y / 4294967296)=0:=Nat.div_eq_of_lt (by omega)
 have hU:un32*4294967296+un10 / 4294967296<4294967296000:=by omega
 have eq1:=λt X Z=>u_quo t X Z un32 (Y / 4294967296) (by omega) (by omega)
 rw[q1]at eq1
 have es1:=λt X Z=>u_sub t X Z un32 0 (by omega) (by omega)
 obtain⟨U,hUe⟩:∃v,un32*4294967296+un10 / 4294967296=v:=⟨_,rfl⟩
 rw[hUe]at hU
 have hYe:Y / 4294967296*4294967296+Y % 4294967296=Y:=Nat.div_add_mod' Y 4294967296
 have hNe:U*4294967296+un10 % 4294967296=(hi*18446744073709551616+lo)*2 ^ s:=by rw[<-f5];exact nplus hUe
 have m1:4294967296*un32 % 18446744073709551616=4294967296*un32:=Nat.mod_eq_of_lt (by omega)
 have m2:un32*4294967296 % 18446744073709551616=un32*4294967296:=Nat.mod_eq_of_lt (by omega)
 have ea1:=λt X Z=>xrd t X Z (4294967296*un32) (un10 / 4294967296) (by omega)
 have ea2:=λt X Z=>xrd t X Z (un32*4294967296) (un10 / 4294967296) (by omega)
 rw[hUe]at ea2
 have es2:=λt X Z=>u_sub t X Z U 0 (by omega) (by omega)
 have eq2:=λt X Z=>u_quo t X Z U (Y / 4294967296) (by omega) (by omega)
 have hdm:=Nat.div_add_mod U (Y / 4294967296)
 have hml:=x1aa U (show 0<Y / 4294967296 by omega)
 have hq0:U / (Y / 4294967296)<=2000:=by
  have:U / (Y / 4294967296)<2001:=(Nat.div_lt_iff_lt_mul (by omega)).mpr (by omega)
  omega
 rw[Nat.mul_comm]at hdm
 have m3:U / (Y / 4294967296)*(Y / 4294967296) % 18446744073709551616=U / (Y / 4294967296)*(Y / 4294967296):=Nat.mod_eq_of_lt (by omega)
 have es3:=λt X Z=>u_sub t X Z U (U / (Y / 4294967296)*(Y / 4294967296)) (by omega) (by omega)
 have hr:U-U / (Y / 4294967296)*(Y / 4294967296)=U % (Y / 4294967296):=by omega
 rw[hr]at es3
 have hg:=guess (B:=4294967296) (yn0:=Y % 4294967296) (yn1:=Y / 4294967296) (un0:=un10 % 4294967296) (U:=U) (by omega) (by omega)
 have hdig:=digN_ok (B:=4294967296) (yn0:=Y % 4294967296) (yn1:=Y / 4294967296) (un0:=un10 % 4294967296) (U:=U) (by omega) (by omega) 2000 (U / (Y / 4294967296)) (U % (Y / 4294967296)) hq0 (by omega) hdm.symm hg
 rw[hYe,hNe,<-hY,Nat.mul_div_mul_right _ _ (Nat.two_pow_pos s)]at hdig
 rw[hY]at hdig
 have loop:=λm fc=>l_dig (xnt (d+2)) [] 0 Y s (Y / 4294967296) (Y % 4294967296) (un10 % 4294967296) U (by omega) (by omega) (by omega) m 2000 (U / (Y / 4294967296)) (U % (Y / 4294967296)) NN fc hq0 (by omega) (by rw[xo8];omega) (by omega)
 rw[hdig]at loop
 generalize (hi*18446744073709551616+lo) / y=q at *
 have r1:U*4294967296 % 18446744073709551616+un10 % 4294967296<18446744073709551616:=by omega
 have er1:=λt X Z=>xrd t X Z (U*4294967296 % 18446744073709551616) (un10 % 4294967296) r1
 obtain⟨cr,hcr⟩:=u_subw x7 (.tmp 128) (.tmp 131) (U*4294967296 % 18446744073709551616+un10 % 4294967296) (q*Y % 18446744073709551616) r1 (x1aa _ (by omega))
 have er2:=λt X Z=>xw2 t X Z cr s (by omega)
 have er3:=λt X Z=>xrd t X Z 0 q (by omega)
 have z32:¬4294967296<=0:=by omega
 have zgt:¬(4294967296*un32+un10 / 4294967296<0):=by omega
 obtain⟨NM,hNM⟩:∃NM,NN=NM+1:=⟨NN-1,by have:=xo8;omega⟩
 refine⟨cr / 2 ^ s,λm=>xo0 rfl ?_ m⟩
 obtain⟨fc',hl⟩:=loop ⟨[],1⟩ (64+19)
 rw[xi8]
 unfold x7x x7d xbl xbk xbj
 rw[show(AV.sc (.int .u64 0))=U6 0 from rfl,show(AV.sc (.int .u64 64))=U6 64 from rfl]
 simp only[mem0,u_eql,u_leq,g0,g1,c,x1a8,xnz,xpj,lz,e64,ec,eY,eh,el,es,er,eo,xur,xus,eq1,xsi,x19q,Nat.zero_mod,es1,x1c7]
 rw[hNM]
 simp only[xbi]
 unfold xhj
 rw[show(AV.sc (.int .u64 4294967296))=U6 4294967296 from rfl]
 simp[xre,xsi,xsy,xur,xus,m1,ea1,zgt]
 unfold xbh
 rw[show(AV.sc (.int .u64 4294967296))=U6 4294967296 from rfl]
 simp only[xsi,m2,xnz,ea2,x19q,Nat.zero_mod,es2,x1c7,eq2,m3,es3]
 rw[hl]
 unfold x7b
 rw[show(AV.sc (.int .u64 4294967296))=U6 4294967296 from rfl]
 simp only[xsi,x19q,Nat.zero_mod,xnz,er3,er1,hcr,er2,x1aj]
 exact RetF.tup rfl rfl
end Go.Ix
