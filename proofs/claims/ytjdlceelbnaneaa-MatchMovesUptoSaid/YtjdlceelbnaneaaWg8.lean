import Derived.Test.YtjdlceelbnaneaaWg7
set_option linter.unusedSimpArgs false
set_option linter.unusedVariables false
set_option exponentiation.threshold 3000
namespace Go.Ix
open Go.Proofs Ieee
theorem neq_self(c:Fc):cmpB .neq (c.order c)=(match c with | .nan=>true|_=>false):=by
 cases c with
 |nan=>rfl
 |inf s=>cases s<;>rfl
 |num s V=>
  show(some (compare (sg s V) (sg s V)) != some .eq)=false
  rw[Int.compare_eq_eq.mpr rfl];rfl
def Fc.sub0:Fc->Fc
 | .num _ _=>.num false 0
 |_=>.nan
theorem binS_sub{t:TypeId}{x y:Operand}{u v:Nat}:binS .sub t x y [.float .f64 u,.float .f64 v]=Op.floatArith .sub .f64 u v:=rfl
theorem fsub_some{u v r:Nat}(h:double.sub u v=some r):Op.floatArith .sub .f64 u v=.pure (.float .f64 r):=by
 unfold Op.floatArith
 show(match double.sub u v with
  |some r=>Pure.pure (Value.float .f64 r)
  |none=>_)=_
 rw[h];rfl
theorem fsub_none{u v:Nat}(h:double.sub u v=none):Op.floatArith .sub .f64 u v=.choose (.nanBits .f64 u v) λk=>.pure (.float .f64 k):=by
 unfold Op.floatArith
 show(match double.sub u v with
  |some r=>Pure.pure (Value.float .f64 r)
  |none=>_)=_
 rw[h];rfl
theorem nan_cut(u v t:Nat):Cl .nan ((Question.nanBits .f64 u v).cut t):=xhx t _ (xn4 _ (by omega))
theorem s_sub0{c:Fc}{a:AV}{t:TypeId}{X Y:Operand}(ha:Is (Fa c) a)(h:c≠.nan):∃r,sBin Try.prog .sub t X Y a a=some r/\Is (Fa c.sub0) r:=by
 refine xdv ha ha ?_
 rintro _ _ ⟨u,rfl,hu⟩ ⟨v,rfl,hv⟩
 rw[binS_sub]
 cases c with
 |nan=>exact absurd rfl h
 |inf s=>
  have hu:double.read u=.infinity s:=hu
  have hv:double.read v=.infinity s:=hv
  have e:double.sub u v=none:=by
   unfold Format.sub
   rw[hu,hv]
   cases s<;>rfl
  rw[fsub_none e]
  exact OkR.choose rfl λt=>OkR.pure ⟨xbz (c:=.nan) ⟨_,rfl,nan_cut u v t⟩,_,rfl,nan_cut u v t⟩
 |num s V=>
  obtain⟨m,i,h1,h2,h3,h4⟩:=hu
  obtain⟨n,j,g1,g2,g3,g4⟩:=hv
  have e:double.sub u v=some (double.nearest false 0 (min i j)):=by
   unfold Format.sub
   rw[h1,g1]
   show some (double.write (.number (if signed s m (i-min i j).toNat+signed (!s) n (j-min i j).toNat=0 then s&&!s else decide (signed s m (i-min i j).toNat+signed (!s) n (j-min i j).toNat<0)) (signed s m (i-min i j).toNat+signed (!s) n (j-min i j).toNat).natAbs (min i j)))=_
   have k1:=xc0 s m i (min i j) (by omega) (by omega)
   have k2:=xc0 (!s) n j (min i j) (by omega) (by omega)
   rw[h4]at k1
   rw[g4,sg_not]at k2
   have k3:signed s m (i-min i j).toNat+signed (!s) n (j-min i j).toNat=0:=by
    have hp:(0:Int)<((2 ^ (min i j+1074).toNat:Nat):Int):=Int.natCast_pos.mpr (Nat.two_pow_pos _)
    have:(signed s m (i-min i j).toNat+signed (!s) n (j-min i j).toNat)*((2 ^ (min i j+1074).toNat:Nat):Int)=0:=by rw[Int.add_mul,k1,k2];omega
    rcases Int.mul_eq_zero.mp this with q|q
    .exact q
    .omega
   rw[k3,xlb rfl]
   cases s<;>rfl
  rw[fsub_some e]
  have g:Fa (.num false 0) (.float .f64 (double.nearest false 0 (min i j))):=⟨_,rfl,0,-1074,near_0 _ _,by omega,by omega,by unfold sv;simp⟩
  exact OkR.pure ⟨xbz g,g⟩
def T16:Nat:=10000000000000000*2 ^ 1074
theorem k0:Is (Fa (.num false 0)) (AV.sc (.float .f64 0)):=Is.sc ⟨_,rfl,0,-1074,rfl,by omega,by omega,rfl⟩
theorem kT{s:Bool}{w:Nat}(h:double.read w=.number s 5000000000000000 1):Is (Fa (.num s T16)) (AV.sc (.float .f64 w)):=by
 refine Is.sc ⟨_,rfl,_,_,h,by omega,by omega,?_⟩
 unfold sv T16
 rw[show((1:Int)+1074).toNat=1075 from rfl,show(1075:Nat)=1+1074 from rfl,Nat.pow_add,<-Nat.mul_assoc]
theorem geqT{s:Bool}{V:Nat}:cmpB .geq ((Fc.num s V).order (.num true T16))=(!s||decide (V<=T16)):=by
 show(some (compare (sg s V) (sg true T16)) == some .gt||some (compare (sg s V) (sg true T16)) == some .eq)=_
 have hT:0<T16:=xmn (by omega) (Nat.two_pow_pos _)
 generalize T16=T at *
 have e:sg true T=-(T:Int):=rfl
 rw[e]
 cases s
 .have e2:sg false V=(V:Int):=rfl
  rw[e2,Int.compare_eq_gt.mpr (by omega)];rfl
 .have e2:sg true V=-(V:Int):=rfl
  rw[e2]
  rcases Nat.lt_trichotomy V T with g|g|g
  .rw[Int.compare_eq_gt.mpr (by omega),xlu (by omega)];rfl
  .rw[Int.compare_eq_eq.mpr (by omega),xlu (by omega)];rfl
  .rw[Int.compare_eq_lt.mpr (by omega),xmg (by omega)];rfl
theorem leqT{s:Bool}{V:Nat}:cmpB .leq ((Fc.num s V).order (.num false T16))=(s||decide (V<=T16)):=by
 show(some (compare (sg s V) (sg false T16)) == some .lt||some (compare (sg s V) (sg false T16)) == some .eq)=_
 have hT:0<T16:=xmn (by omega) (Nat.two_pow_pos _)
 generalize T16=T at *
 have e:sg false T=(T:Int):=rfl
 rw[e]
 cases s
 .have e2:sg false V=(V:Int):=rfl
  rw[e2]
  rcases Nat.lt_trichotomy V T with g|g|g
  .rw[Int.compare_eq_lt.mpr (by omega),xlu (by omega)];rfl
  .rw[Int.compare_eq_eq.mpr (by omega),xlu (by omega)];rfl
  .rw[Int.compare_eq_gt.mpr (by omega),xmg (by omega)];rfl
 .have e2:sg true V=-(V:Int):=rfl
  rw[e2,Int.compare_eq_lt.mpr (by omega)];rfl
theorem xjw{s:Bool}{V:Nat}{a:AV}(ha:Is (Fa (.num s V)) a)(h:T16<V):V % 2 ^ 1074=0:=by
 obtain⟨v,hv⟩:=ha.1
 obtain⟨w,rfl,m,e,h1,h2,h3,h4⟩:=ha.2 v hv
 have hm:=(xcr h1).1
 have he:0<=e:=by
  rcases Int.lt_or_le e 0 with g|g
  .exfalso
   have q1:m*2 ^ (e+1074).toNat<=2 ^ 53*2 ^ 1073:=xo7 (Nat.le_of_lt hm) (Nat.pow_le_pow_right (by omega) (by omega))
   have q2:2 ^ 53*2 ^ 1073<T16:=by unfold T16;decide
   unfold sv at h4
   omega
  .exact g
 rw[<-h4]
 unfold sv
 rw[show(e+1074).toNat=e.toNat+1074 by omega,Nat.pow_add,<-Nat.mul_assoc,Nat.mul_mod_left]
theorem s_f2i{s:Bool}{V:Nat}{a:AV}(ha:Is (Fa (.num s V)) a)(h:V<=T16):sCvt Try.prog x3 y_int a=some (I (sg s (V / 2 ^ 1074))):=by
 have hb:V / 2 ^ 1074<=10000000000000000:=Nat.div_le_of_le_mul (by rw[Nat.mul_comm];exact h)
 generalize hq:V / 2 ^ 1074=q at *
 refine sCvt_1 (A:=Fa (.num s V)) ha rfl (λu hu=>by obtain⟨w,rfl,-⟩:=hu;rfl) (λu hu=>?_)
 .obtain⟨w,rfl,hw⟩:=hu
  have hn:nfS Try.prog (convert x3 y_int (.float .f64 w))=nfS Try.prog (Conv.floatToInt .f64 w .i64):=by kernel_rfl
  rw[<-x9f,hn,x9f]
  unfold Conv.floatToInt
  simp only[xi0 hw,hq]
  have h1:IntKind.i64.min=-9223372036854775808:=rfl
  have h2:IntKind.i64.max=9223372036854775807:=rfl
  rw[h1,h2,xlb (by cases s<;>simp[sg]<;>omega)]
  exact OkR.pure rfl
theorem s_i2f{n:Int}(h:n.natAbs<2 ^ 53\/n.natAbs<=10000000000000000):∃r,sCvt Try.prog y_int x3 (I n)=some r/\r=.sc (.float .f64 (FloatKind.f64.nearest n)):=by
 refine⟨_,?_,rfl⟩
 have hn:x86 Try.prog (convert y_int x3 (.int .i64 n))=some (.float .f64 (FloatKind.f64.nearest n)):=by kernel_rfl
 unfold sCvt cvt0
 simp only[show x87 (I n)=some (.int .i64 n)from rfl,show xat Try.prog y_int x3 (.int .i64 n)=none from rfl,hn]
 rfl
theorem eql_back{s:Bool}{V:Nat}:cmpB .eql ((Fc.num (decide (sg s (V / 2 ^ 1074)<0)) (V / 2 ^ 1074*2 ^ 1074)).order (.num s V))=(V % 2 ^ 1074 == 0):=by
 show(some (compare (sg (decide (sg s (V / 2 ^ 1074)<0)) (V / 2 ^ 1074*2 ^ 1074)) (sg s V)) == some .eq)=_
 have hd:=Nat.div_add_mod V (2 ^ 1074)
 have hK:0<2 ^ 1074:=Nat.two_pow_pos _
 generalize (2:Nat) ^ 1074=K at *
 rw[Nat.mul_comm]at hd
 have e:sg (decide (sg s (V / K)<0)) (V / K*K)=sg s (V / K*K):=by
  cases s
  .rw[show decide (sg false (V / K)<0)=false from xmg (Int.not_lt.mpr (Int.natCast_nonneg _))]
  .by_cases h:V / K=0
   .rw[h,xm4];rfl
   .rw[show decide (sg true (V / K)<0)=true from xlu (by show -((V / K:Nat):Int)<0;generalize V / K=q at *;omega)]
 rw[e]
 by_cases h:V % K=0
 .have:V=V / K*K:=by omega
  rw[<-this,Int.compare_eq_eq.mpr rfl,h];rfl
 .have hne:sg s (V / K*K)≠sg s V:=λe=>h (by have:=sg_inj.mp e;omega)
  have h2:compare (sg s (V / K*K)) (sg s V)≠.eq:=λe=>hne (Int.compare_eq_eq.mp e)
  have h3:(V % K == 0)=false:=by simpa using h
  rw[h3]
  cases hc:compare (sg s (V / K*K)) (sg s V)
  .rfl
  .exact absurd hc h2
  .rfl
theorem near_num(n:Int)(h:n.natAbs<=10000000000000000){s:Bool}{V:Nat}{w:Nat}(hw:Cl (.num s V) w)(hq:n=sg s (V / 2 ^ 1074)):Cl (.num (decide (n<0)) (V / 2 ^ 1074*2 ^ 1074)) (FloatKind.f64.nearest n):=by
 show Cl _ (double.nearest (decide (n<0)) n.natAbs 0)
 have:n.natAbs=V / 2 ^ 1074:=by rw[hq,xdy]
 rw[this]
 exact tr_Cl hw _
theorem xcu{c:Fc}{a:AV}(ha:Is (Fa c) a)(d:Nat)(m:Mem):x81 (x80 (d+1)) xn [a] m=some (B c.whole,m):=by
 refine x8c (by simp[ha.oneA.st]) ?_ m
 rw[x6n]
 unfold x4p x3p
 have h1:=λX Y=>x9u (P:=Try.prog) (t:=x3) (x:=X) (y:=Y) (op:=.neq) rfl ha ha
 rw[neq_self]at h1
 cases c with
 |nan=>
  simp[mem0,h1]
  exact RetF.st rfl rfl
 |inf s=>
  obtain⟨r,e,hr⟩:=s_sub0 (t:=x3) (X:=.tmp 7) (Y:=.tmp 8) ha (λh=>by cases h)
  have h2:=x9u (P:=Try.prog) (t:=x3) (x:=.tmp 9) (y:=.const (.float .f64 0)) (op:=.neq) rfl hr k0
  rw[show cmpB .neq ((Fc.inf s).sub0.order (.num false 0))=true from rfl]at h2
  simp[mem0,h1,e,h2]
  exact RetF.st rfl rfl
 |num s V=>
  obtain⟨r,e,hr⟩:=s_sub0 (t:=x3) (X:=.tmp 7) (Y:=.tmp 8) ha (λh=>by cases h)
  have h2:=x9u (P:=Try.prog) (t:=x3) (x:=.tmp 9) (y:=.const (.float .f64 0)) (op:=.neq) rfl hr k0
  rw[show cmpB .neq ((Fc.num s V).sub0.order (.num false 0))=false from rfl]at h2
  have h3:=x9u (P:=Try.prog) (t:=x3) (x:=.tmp 12) (y:=.const (.float .f64 14069741636278059008)) (op:=.geq) rfl ha (kT (s:=true) (w:=14069741636278059008) rfl)
  have h4:=x9u (P:=Try.prog) (t:=x3) (x:=.tmp 15) (y:=.const (.float .f64 4846369599423283200)) (op:=.leq) rfl ha (kT (s:=false) (w:=4846369599423283200) rfl)
  rw[geqT]at h3
  rw[leqT]at h4
  by_cases hV:V<=T16
  .have h5:=s_f2i ha hV
   have hb:V / 2 ^ 1074<=10000000000000000:=Nat.div_le_of_le_mul (by rw[Nat.mul_comm];exact hV)
   have hb2:(sg s (V / 2 ^ 1074)).natAbs<=10000000000000000:=by rw[xdy];exact hb
   obtain⟨r2,e2,hr2⟩:=s_i2f (n:=sg s (V / 2 ^ 1074)) (Or.inr hb2)
   obtain⟨v,hv⟩:=ha.1
   obtain⟨w,rfl,hw⟩:=ha.2 v hv
   have hr3:Is (Fa (.num (decide (sg s (V / 2 ^ 1074)<0)) (V / 2 ^ 1074*2 ^ 1074))) r2:=by
    rw[hr2]
    exact Is.sc ⟨_,rfl,near_num _ hb2 hw rfl⟩
   have h6:=x9u (P:=Try.prog) (t:=x3) (x:=.tmp 21) (y:=.tmp 22) (op:=.eql) rfl hr3 ha
   rw[eql_back]at h6
   simp[mem0,h1,e,h2,h3,h4,xlu hV,h5,e2,h6]
   exact RetF.st rfl rfl
  .have hw:(Fc.num s V).whole=true:=by
    show(V % 2 ^ 1074 == 0)=true
    rw[xjw ha (by omega)];rfl
   rw[hw]
   rw[xmg hV]at h3 h4
   cases s
   .simp[mem0,h1,e,h2,h3,h4]
    exact RetF.st rfl rfl
   .simp[mem0,h1,e,h2,h3,h4]
    exact RetF.st rfl rfl
theorem kM:Is (Fa (.num true (2047*2 ^ 1074))) (AV.sc (.float .f64 13880089653509357568)):=by
 refine Is.sc ⟨_,rfl,?_⟩
 refine⟨2047*2 ^ 42,-42,rfl,by omega,by omega,?_⟩
 unfold sv
 rw[show((-42:Int)+1074).toNat=1032 from rfl,Nat.mul_assoc,<-Nat.pow_add]
theorem lss_M{s:Bool}{V:Nat}:cmpB .lss ((Fc.num s V).order (.num true (2047*2 ^ 1074)))=(s&&(Fc.num s V).big):=by
 show(some (compare (sg s V) (sg true (2047*2 ^ 1074))) == some .lt)=(s&&decide (2047*2 ^ 1074<V))
 have hK:0<2047*2 ^ 1074:=xmn (by omega) (Nat.two_pow_pos _)
 generalize 2047*2 ^ 1074=K at *
 have e:sg true K=-(K:Int):=rfl
 rw[e]
 cases s
 .have e2:sg false V=(V:Int):=rfl
  rw[e2,Int.compare_eq_gt.mpr (by omega)];rfl
 .have e2:sg true V=-(V:Int):=rfl
  rw[e2]
  rcases Nat.lt_trichotomy V K with g|g|g
  .rw[Int.compare_eq_gt.mpr (by omega),xmg (by omega)];rfl
  .rw[Int.compare_eq_eq.mpr (by omega),xmg (by omega)];rfl
  .rw[Int.compare_eq_lt.mpr (by omega),xlu (by omega)];rfl
theorem gtr_M{s:Bool}{V:Nat}:cmpB .gtr ((Fc.num s V).order (.num false (2047*2 ^ 1074)))=(!s&&(Fc.num s V).big):=by
 show(some (compare (sg s V) (sg false (2047*2 ^ 1074))) == some .gt)=(!s&&decide (2047*2 ^ 1074<V))
 have hK:0<2047*2 ^ 1074:=xmn (by omega) (Nat.two_pow_pos _)
 generalize 2047*2 ^ 1074=K at *
 have e:sg false K=(K:Int):=rfl
 rw[e]
 cases s
 .have e2:sg false V=(V:Int):=rfl
  rw[e2]
  rcases Nat.lt_trichotomy V K with g|g|g
  .rw[Int.compare_eq_lt.mpr (by omega),xmg (by omega)];rfl
  .rw[Int.compare_eq_eq.mpr (by omega),xmg (by omega)];rfl
  .rw[Int.compare_eq_gt.mpr (by omega),xlu (by omega)];rfl
 .have e2:sg true V=-(V:Int):=rfl
  rw[e2,Int.compare_eq_lt.mpr (by omega)];rfl
theorem cvt2047:sCvt Try.prog y_int x3 (I 2047)=some x9l:=by
 obtain⟨r,e,h⟩:=s_i2f (n:=2047) (Or.inl (by decide))
 rw[e,h];rfl
theorem neg2047:sUn Try.prog .neg x9l=some (AV.sc (.float .f64 13880089653509357568)):=by
 have h:x86 Try.prog (Op.unary .neg (.float .f64 4656717616654581760))=some (.float .f64 13880089653509357568):=by kernel_rfl
 unfold sUn un0
 simp only[show x87 x9l=some (.float .f64 4656717616654581760)from rfl,h]
 rfl
theorem xjx{c e:Fc}{a b:AV}(ha:Is (Fa c) a)(hb:Is (Fa e) b)(d:Nat)(m:Mem):x81 (x80 (d+2)) x1i [a,b,I 2047] m=some (I (pE c e),m):=by
 refine x8c (by simp[ha.oneA.st,hb.oneA.st]) ?_ m
 rw[x6k]
 unfold x4m x3m
 unfold pE
 cases cx:c.whole
 .simp[mem0,xcu ha,cx]
  exact RetF.st rfl rfl
 cases cy:e.whole
 .simp[mem0,xcu ha,xcu hb,cx,cy]
  exact RetF.st rfl rfl
 obtain⟨s,V,rfl⟩:=xct cx
 obtain⟨s',V',rfl⟩:=xct cy
 have l1:=λX Y=>x9u (P:=Try.prog) (t:=x3) (x:=X) (y:=Y) (op:=.lss) rfl ha kM
 have l2:=λX Y=>x9u (P:=Try.prog) (t:=x3) (x:=X) (y:=Y) (op:=.gtr) rfl ha k2047
 have l3:=λX Y=>x9u (P:=Try.prog) (t:=x3) (x:=X) (y:=Y) (op:=.lss) rfl hb kM
 have l4:=λX Y=>x9u (P:=Try.prog) (t:=x3) (x:=X) (y:=Y) (op:=.gtr) rfl hb k2047
 simp only[lss_M,gtr_M]at l1 l2 l3 l4
 simp[mem0,xcu ha,xcu hb,cx,cy,cvt2047,neg2047,l1]
 cases s<;>cases s'<;>cases bx:(Fc.big _)<;>cases bY:(Fc.big (.num _ V'))<;>simp[bx,bY,l2,l3,l4,neg2047]<;>exact RetF.st rfl rfl
theorem xcv(x y:Nat):x89 Try.prog .real #[x5] x4 [C32 x y]=some (.sc (.float .f32 x)):=by
 have h:x86 Try.prog (biS .real #[x5] x4 [.complex .f32 x y])=some (.float .f32 x):=by kernel_rfl
 unfold x89 bi0
 simp only[show x8e [C32 x y]=some [.complex .f32 x y]from rfl,h]
 rfl
theorem xe0(x y:Nat):x89 Try.prog .imag #[x5] x4 [C32 x y]=some (.sc (.float .f32 y)):=by
 have h:x86 Try.prog (biS .imag #[x5] x4 [.complex .f32 x y])=some (.float .f32 y):=by kernel_rfl
 unfold x89 bi0
 simp only[show x8e [C32 x y]=some [.complex .f32 x y]from rfl,h]
 rfl
theorem xi4(d:Nat)(x y:Nat)(m:Mem):x81 (x80 (d+3)) x1f [C32 x y,I 2047] m=some (I (pE (fcs x) (fcs y)),m):=by
 obtain⟨a,e1,ha⟩:=s_f2f x
 obtain⟨b,e2,hb⟩:=s_f2f y
 refine x8c (by simp) ?_ m
 rw[x6g]
 unfold x4i x3h
 simp[mem0,xcv,xe0,e1,e2,xjx ha hb]
 exact RetF.st rfl rfl
open Go.Proofs
section
variable{n a b d e f g h i:Int}
end
attribute [local simp high] rd_5
variable{a:AV}{l:List Mp}
end Go.Ix
