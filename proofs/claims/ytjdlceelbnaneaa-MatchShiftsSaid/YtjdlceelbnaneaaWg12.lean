import Derived.Test.YtjdlceelbnaneaaWg11
import Derived.Test.YtjdlceelbnaneaaWg8
set_option linter.unusedSimpArgs false
set_option linter.unusedVariables false
namespace Go.Ix
open Go.Proofs
abbrev Pr:=Int×Int
def Pr.c(x:Pr):List AV:=[I x.1,I x.2]
theorem Pr.len(x:Pr):(Pr.c x).length=2:=rfl
theorem Pr.still(x:Pr):(Pr.c x).all Go.Ix.still1=true:=rfl
theorem part2(w0 w1:Int):∀o∈[0,1],x2g Try.prog (part x50 #[.int .i64 w0,.int .i64 w1] o)=some (.int .i64 ([w0,w1].getD o 0)):=by
 intro o ho
 simp only[xc7,List.not_mem_nil,or_false]at ho
 rcases ho with rfl|rfl<;>kernel_rfl
theorem eq_pair(x y:Operand)(a b:Pr):sBin Try.prog .neq x7 x y (.agg (Pr.c a)) (.agg (Pr.c b))=some (B (!decide (a=b))):=by
 obtain⟨a1,a2⟩:=a
 obtain⟨b1,b2⟩:=b
 refine xbb (xs:=[.int .i64 a1,.int .i64 a2]) (ys:=[.int .i64 b1,.int .i64 b2]) (by kernel_rfl) ?_ ⟨Pr.c (a1,a2),rfl⟩ _ _ rfl rfl
 have hu:Try.prog.underlying x7=some (.array 2 x50):=by kernel_rfl
 have hz:x2g Try.prog (sizeOf x50)=some 1:=by kernel_rfl
 have pa:=part2 a1 a2
 have pb:=part2 b1 b2
 have pa0:=pa 0 (by simp)
 have pa1:=pa 1 (by simp)
 have pb0:=pb 0 (by simp)
 have pb1:=pb 1 (by simp)
 simp only[List.getD_cons_zero,List.getD_cons_succ]at pa0 pa1 pb0 pb1
 rw[show(10000:Nat)=9998+1+1 from rfl,Op.equalIn]
 simp only[x3e,xa0 hu,x4k,hz]
 simp only[Std.Legacy.Range.forIn_eq_forIn_range',Std.Legacy.Range.size,Nat.sub_zero,Nat.add_sub_cancel,Nat.div_one,List.range'_succ,List.range'_zero,List.forIn_cons,List.forIn_nil,x3e,xdc,xd0,Nat.one_mul,Nat.mul_one]
 simp only[pa0,pa1,pb0,pb1,x4k,x82 _ _ _ _ _ _ x83]
 have e:decide ((a1,a2)=(b1,b2))=(decide (a1=b1)&&decide (a2=b2)):=by
  rw[<-Bool.decide_and,decide_eq_decide,xbs]
 rw[e]
 by_cases h0:a1=b1
 .subst h0
  by_cases h1:a2=b2
  .subst h1;simp[x5g,x3e,pa1,x82 _ _ _ _ _ _ x83]
  .simp[x5g,x3e,pa1,pb1,h1,x82 _ _ _ _ _ _ x83]
 .simp[x5g,x3e,h0]
def dotW(a b c x y z:Int):Int:=aW (aW (mW a x) (mW b y)) (mW c z)
theorem e_shat(d:Nat)(f:Aff)(x y:Int):((x2l (d+2) [] x1o [.agg f.c,I x,I y] mem0).bind λp=>Go.Ix.frz p.2.get deep p.1)=some (.agg [I (dotW f.l0 f.l1 f.l2 1 x y),I (dotW f.s0 f.s1 f.s2 1 x y)]):=by kernel_rfl
theorem e_term3(d:Nat)(a b c x y:Int):((x2l (d+1) [] xx [.agg [I a,I b,I c],I x,I y] mem0).bind λp=>Go.Ix.frz p.2.get deep p.1)=some (I (aW (aW a (mW b x)) (mW c y))):=by kernel_rfl
def tm(a b c x y:Int):Int:=a+b*x+c*y
theorem tm_bd{a b c x y:Int}(ha:bd a 1000000000000000)(hb:bd b 1000000000000000)(hc:bd c 1000000000000000)(hx:bd x 63)(hy:bd y 63):bd (tm a b c x y) 127000000000000000:=
 ((ha.add (hb.mul hx)).add (hc.mul hy)).mono (by omega)
theorem dotW_tm{a b c x y:Int}(h:bd (tm a b c x y) 127000000000000000):dotW a b c 1 x y=tm a b c x y:=by
 refine aW_of ?_ (h.mono (by omega))
 exact(cg_a (cg_a (cg_m (.refl a) (.refl 1)) (cg_m (.refl b) (.refl x))) (cg_m (.refl c) (.refl y))).trans (by unfold tm;omega)
theorem termW_tm{a b c x y:Int}(h:bd (tm a b c x y) 127000000000000000):aW (aW a (mW b x)) (mW c y)=tm a b c x y:=
 aW_of (cg_a (cg_a (.refl a) (cg_m (.refl b) (.refl x))) (cg_m (.refl c) (.refl y))) (h.mono (by omega))
section
variable{f:Aff}{x y:Int}
theorem AffIn.tl(h:AffIn f)(hx:bd x 63)(hy:bd y 63):bd (tm f.l0 f.l1 f.l2 x y) 127000000000000000:=tm_bd h.l0 h.l1 h.l2 hx hy
theorem AffIn.ts(h:AffIn f)(hx:bd x 63)(hy:bd y 63):bd (tm f.s0 f.s1 f.s2 x y) 127000000000000000:=tm_bd h.s0 h.s1 h.s2 hx hy
theorem w_shat(d:Nat)(h:AffIn f)(hx:bd x 63)(hy:bd y 63)(m:Mem):x2k (x2l (d+2)) x1o [.agg f.c,I x,I y] m=some (.agg [I (tm f.l0 f.l1 f.l2 x y),I (tm f.s0 f.s1 f.s2 x y)],m):=by
 have e:=e_shat d f x y
 rw[dotW_tm (h.tl hx hy),dotW_tm (h.ts hx hy)]at e
 exact x44 rfl (retF_e e) m
theorem w_term3(d:Nat){a b c:Int}(h:bd (tm a b c x y) 127000000000000000)(m:Mem):x2k (x2l (d+1)) xx [.agg [I a,I b,I c],I x,I y] m=some (I (tm a b c x y),m):=by
 have e:=e_term3 d a b c x y
 rw[termW_tm h]at e
 exact x44 rfl (retF_e e) m
def shL(f:Aff)(x y:Int):Int:=(32*tm f.l0 f.l1 f.l2 x y+f.den) / (2*f.den)
def shS(f:Aff)(x y:Int):Int:=(32*tm f.s0 f.s1 f.s2 x y+f.den) / (2*f.den)
theorem z_shift3:x1k=[I 0,I 0,I 0,I 0,I 0,I 0,I 0]:=by kernel_rfl
theorem w_parts3(d:Nat)(h:AffIn f)(hx:bd x 63)(hy:bd y 63)(m:Mem):x2k (x2l (d+3)) xi [.agg f.c,I x,I y] m=some (.agg [I (shL f x y),I (shS f x y)],m):=by
 refine x44 rfl ?_ m
 have h1:=h.d0
 have h2:=h.d1
 have t1:=h.tl hx hy
 have t2:=h.ts hx hy
 have a1:=w_shat (d+0) h hx hy
 have b1:bd (16*tm f.l0 f.l1 f.l2 x y) 4000000000000000000:=by unfold bd at *;omega
 have b2:bd (16*tm f.s0 f.s1 f.s2 x y) 4000000000000000000:=by unfold bd at *;omega
 have n1:=xa3 d h1 h2 b1
 have n2:=xa3 d h1 h2 b2
 rw[x1z]
 unfold x1b xz
 unfold bd at b1 b2
 simp only[Aff.c]at a1
 simp[mem0,Aff.c,x51]
 simp[a1]
 simp(disch:=omega) [sIxA,asI]
 simp(disch:=omega) [n1,n2,build_F]
 refine RetF.st (by simp) ?_
 simp only[shL,shS]
 rw[show(2:Int)*(16*tm f.l0 f.l1 f.l2 x y)=32*tm f.l0 f.l1 f.l2 x y by omega,show(2:Int)*(16*tm f.s0 f.s1 f.s2 x y)=32*tm f.s0 f.s1 f.s2 x y by omega]
 rfl
theorem w_ShiftAt(d:Nat)(f:Aff)(x y:Int)(m:Mem):x2k (x2l (d+4)) xg [.agg f.c,I x,I y] m=some (.tup (bif decide (chkA f=0)then bif wi x 0 63&&wi y 0 63 then[.agg [I (shL f x y),I (shS f x y)],I 0]else[.agg [I 0,I 0],I 2]else[.agg [I 0,I 0],I (chkA f)]),m):=by
 refine x44 rfl ?_ m
 have a1:=xa4 (d+1) f
 rw[x1v]
 unfold x17 xt
 simp only[Aff.c]at a1
 simp[mem0,Aff.c,x51,a1,x6t]
 by_cases c0:chkA f=0
 rotate_left
 .simp[c0]
  exact RetF.tup (by simp) rfl
 simp[c0,x62]
 cases c1:wi x 0 63
 .simp
  exact RetF.tup (by simp) rfl
 cases c2:wi y 0 63
 .simp[x62,c2]
  exact RetF.tup (by simp) rfl
 have h1:=wi_t c1
 have h2:=wi_t c2
 have a2:=w_parts3 d (f:=f) (x:=x) (y:=y) (chkA_in c0) (by unfold bd;omega) (by unfold bd;omega)
 simp only[Aff.c]at a2
 have eb:x38 x1k [(0,7,.agg [I f.den,I f.l0,I f.l1,I f.l2,I f.s0,I f.s1,I f.s2])]=some (.agg [I f.den,I f.l0,I f.l1,I f.l2,I f.s0,I f.s1,I f.s2]):=by rw[z_shift3];simp[x38,x42]
 simp[x62,c2,eb,a2]
 exact RetF.tup (by simp) rfl
theorem xbd(d:Nat)(f:Aff)(m:Mem):x2k (x2l (d+2)) xf [.agg f.c] m=some (I (chkA f),m):=by
 refine x44 rfl ?_ m
 rw[x1t]
 unfold x15 xq
 simp[mem0,Aff.c,x4l]
 unfold chkA
 cases c0:wi f.den 1 1000000000000
 .simp;exact RetF.st rfl rfl
 simp
 unfold x1i
 obtain⟨NM,hNM⟩:∃NM,NN=NM+4:=⟨NN-4,by have:=NN_eq;omega⟩
 rw[hNM]
 simp[xp,x1h,sIxA,asI,x4l]
 cases c1:inT f.l0
 .unfold inT at c1;simp[c1];exact RetF.st rfl rfl
 unfold inT at c1;simp[c1,x4l]
 cases c4:inT f.s0
 .unfold inT at c4;simp[c4]
  refine RetF.st rfl ?_
  cases inT f.l1<;>cases inT f.l2<;>rfl
 unfold inT at c4;simp[c4]
 cases c2:inT f.l1
 .unfold inT at c2;simp[c2];exact RetF.st rfl rfl
 unfold inT at c2;simp[c2,x4l]
 cases c5:inT f.s1
 .unfold inT at c5;simp[c5]
  refine RetF.st rfl ?_
  cases inT f.l2<;>rfl
 unfold inT at c5;simp[c5]
 cases c3:inT f.l2
 .unfold inT at c3;simp[c3];exact RetF.st rfl rfl
 unfold inT at c3;simp[c3,x4l]
 cases c6:inT f.s2
 .unfold inT at c6;simp[c6];exact RetF.st rfl rfl
 unfold inT at c6;simp[c6,x1g]
 exact RetF.st rfl rfl
theorem xbe(d:Nat)(h:AffIn f)(hx:bd x 63)(hy:bd y 63)(m:Mem):x2k (x2l (d+2)) xh [.agg f.c,I x,I y] m=some (.agg [I (shL f x y),I (shS f x y)],m):=by
 refine x44 rfl ?_ m
 have h1:=h.d0
 have h2:=h.d1
 have t1:=h.tl hx hy
 have t2:=h.ts hx hy
 have a1:=w_term3 d t1
 have a2:=w_term3 d t2
 have b1:=w_Floor d (x:=32*tm f.l0 f.l1 f.l2 x y+f.den) (y:=2*f.den) (by omega) (by unfold bd at *;omega)
 have b2:=w_Floor d (x:=32*tm f.s0 f.s1 f.s2 x y+f.den) (y:=2*f.den) (by omega) (by unfold bd at *;omega)
 unfold bd at t1 t2
 rw[x1x]
 unfold x19 xw
 simp(disch:=omega) [mem0,Aff.c,x51,a1,a2,b1,b2,build_F]
 exact RetF.st (by simp) rfl
theorem x6v(X Y:Operand)(a b c e:Int):sBin Try.prog .eql x7 X Y (.agg [I a,I b]) (.agg [I c,I e])=some (B (decide (a=c/\b=e))):=by
 have:=eq_pair X Y (a,b) (c,e)
 have hs:∀op,sBin Try.prog op x7 X Y (.agg [I a,I b]) (.agg [I c,I e])=(x2g Try.prog (do eqGuard op x7 X Y (.agg #[.int .i64 a,.int .i64 b]) (.agg #[.int .i64 c,.int .i64 e]);binOp op x7 (.agg #[.int .i64 a,.int .i64 b]) (.agg #[.int .i64 c,.int .i64 e]))).map x2o:=λop=>rfl
 have hm:Try.prog.eqGuardType Try.prog.depth x7=false:=by kernel_rfl
 have h1:sBin Try.prog .neq x7 X Y (.agg [I a,I b]) (.agg [I c,I e])=some (B (!decide ((a,b)=(c,e)))):=this
 rw[hs]at h1 ⊢
 simp only[x3e,xa1 _ _ _ _ _ _ hm,x4k]at h1 ⊢
 have n1:x2g Try.prog (binOp .neq x7 (.agg #[.int .i64 a,.int .i64 b]) (.agg #[.int .i64 c,.int .i64 e]))=(x2g Try.prog (Op.equal x7 (.agg #[.int .i64 a,.int .i64 b]) (.agg #[.int .i64 c,.int .i64 e]))).map λr=>Value.bool (!r):=by
  show x2g Try.prog (do pure (Value.bool (!(<-Op.equal _ _ _))))=_
  rw[x3e]
  cases x2g Try.prog (Op.equal x7 (.agg #[.int .i64 a,.int .i64 b]) (.agg #[.int .i64 c,.int .i64 e]))<;>rfl
 have n2:x2g Try.prog (binOp .eql x7 (.agg #[.int .i64 a,.int .i64 b]) (.agg #[.int .i64 c,.int .i64 e]))=(x2g Try.prog (Op.equal x7 (.agg #[.int .i64 a,.int .i64 b]) (.agg #[.int .i64 c,.int .i64 e]))).map λr=>Value.bool r:=by
  show x2g Try.prog (do pure (Value.bool (<-Op.equal _ _ _)))=_
  rw[x3e]
  cases x2g Try.prog (Op.equal x7 (.agg #[.int .i64 a,.int .i64 b]) (.agg #[.int .i64 c,.int .i64 e]))<;>rfl
 rw[n1]at h1
 rw[n2]
 cases hr:x2g Try.prog (Op.equal x7 (.agg #[.int .i64 a,.int .i64 b]) (.agg #[.int .i64 c,.int .i64 e]))with
 |none=>rw[hr]at h1;cases h1
 |some r=>
  rw[hr]at h1
  simp[x2o]at h1 ⊢
  have:r=decide (a=c/\b=e):=by
   cases r<;>simp_all
  simpa using this
end
theorem law_MatchShifts(f:Aff)(x y:Int):∃m',x2l 31 [] xk [.agg f.c,I x,I y] mem0=some (B true,m'):=by
 rw[x1r]
 unfold x13 xn
 have a1:=w_ShiftAt 26 f x y
 have a2:=xbd 28 f
 have a3:=xa4 28 f
 simp only[Aff.c]at a1 a2 a3
 simp[mem0,Aff.c,w_awake3,x51,a1,a2,a3]
 unfold x1e
 by_cases c0:chkA f=0
 rotate_left
 .simp[c0]
  unfold xe
  simp[c0,x51,x6t,x6v]
 simp[c0,x4l]
 cases c1:wi x 0 63
 .simp
  unfold xe
  simp[x51,x6t,x6v]
 cases c2:wi y 0 63
 .simp[x4l,c2]
  unfold xe
  simp[x51,x6t,x6v]
 have h1:=wi_t c1
 have h2:=wi_t c2
 have a4:=xbe 28 (f:=f) (x:=x) (y:=y) (chkA_in c0) (by unfold bd;omega) (by unfold bd;omega)
 simp only[Aff.c]at a4
 simp[x4l,c2]
 unfold xe
 simp[a4,x6v]
end Go.Ix
