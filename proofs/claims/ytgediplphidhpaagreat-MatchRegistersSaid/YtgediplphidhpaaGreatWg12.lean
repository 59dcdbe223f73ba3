import Derived.Test.YtgediplphidhpaaGreatWg11
import Derived.Test.YtgediplphidhpaaGreatWg0
import Derived.Test.YtgediplphidhpaaGreatWg6
import Derived.Test.YtgediplphidhpaaGreatWg9
set_option linter.unusedSimpArgs false
set_option linter.unusedVariables false
set_option exponentiation.threshold 3000
namespace Go.Ix
open Go.Proofs Ieee
theorem w_Sample(d:Nat){x y:Int}(hx:bd x 2047)(hy:bd y 2047)(m:Mem):xnu (xnt (d+1)) x2p [I x,I y] m=some (sPX (x,y),m):=by
 unfold bd at hx hy
 refine xo0 rfl ?_ m
 rw[xjq]
 unfold xdw xb5
 have h1:¬(10000:Int)<x:=by omega
 have h2:¬(10000:Int)<y:=by omega
 have e1:(if x<10000 then x else 10000)=x:=if_pos (by omega)
 have e2:(if y<10000 then y else 10000)=y:=if_pos (by omega)
 have e3:(if x > -10000 then x else -10000)=x:=if_pos (by omega)
 have e4:(if y > -10000 then y else -10000)=y:=if_pos (by omega)
 simp only[mem0,sMin_I,sMax_I,xnz,e1,e2,e3,e4,s_if32,cplx32]
 exact RetF.st rfl rfl
theorem xzx(d:Nat)(x:Nat)(m:Mem):xnu (xnt (d+1)) x58 [.sc (.float .f32 x)] m=some (.sc (.int .u32 x),m):=by
 have h:((xnt (d+1) [] x58 [.sc (.float .f32 x)] mem0).bind λq=>Go.Ix.frz q.2.get deep q.1)=some (.sc (.int .u32 x)):=by kernel_rfl
 exact xo0 rfl (xpw h) m
theorem xzy(X Y:Operand)(x y:Nat):sBin Tryz.prog .neq x14 X Y (.sc (.int .u32 x)) (.sc (.int .u32 y))=some (B (!decide (x=y))):=by
 have h:xo1 Tryz.prog (do eqGuard .neq x14 X Y (.int .u32 x) (.int .u32 y);binOp .neq x14 (.int .u32 x) (.int .u32 y))=some (.bool (!decide ((x:Int)=y))):=by
  rw[xpa]
  have hg:xo1 Tryz.prog (eqGuard .neq x14 X Y (.int .u32 x) (.int .u32 y))=some ():=rfl
  rw[hg]
  have h2:binOp .neq x14 (.int .u32 x) (.int .u32 y)=.pure (.bool ((x:Int) != y)):=rfl
  show xo1 Tryz.prog (binOp .neq x14 (.int .u32 x) (.int .u32 y))=_
  rw[h2]
  show some (Value.bool ((x:Int) != y))=_
  congr 2
 refine xph ?_
 show(xo1 Tryz.prog (do eqGuard .neq x14 X Y (.int .u32 x) (.int .u32 y);binOp .neq x14 (.int .u32 x) (.int .u32 y))).map xom=_
 rw[h]
 show some (B (!decide ((x:Int)=y)))=_
 by_cases c:x=y
 .subst c;simp
 .have:¬(x:Int)=y:=by omega
  simp[c,this]
variable{a b:AV}{A B':List Px}
theorem l_Same(d:Nat)(hs:FHs)(u:Nat)(ha:Sl pxE a A)(hb:Sl pxE b B')(hl:A.length=B'.length)(hl2:A.length<=100000):∀(suf suf2:List Px) (k j:Nat) (m:Mem) (fc:Nat),A.drop k=suf->B'.drop k=suf2->suf.length<j ->
 x59 (xnt (d+1)) hs u j a b (I k) m fc=some (B (decide (suf=suf2)),m):=by
 intro suf
 induction suf with
 |nil=>
  intro suf2 k j m fc hd hd2 hj
  obtain⟨j,rfl⟩:∃i,j=i+1:=⟨j-1,by simp at hj;omega⟩
  have hk0:=x19k.mp hd
  have hk:¬((k:Int)<(A.length:Int)):=by omega
  have:suf2=[]:=by rw[<-hd2];exact x19k.mpr (by omega)
  subst this
  simp only[x59]
  unfold x9i
  simp[ha.len xqw,hk,xgg]
 |cons p suf ih=>
  intro suf2 k j m fc hd hd2 hj
  obtain⟨j,rfl⟩:∃i,j=i+1:=⟨j-1,by simp at hj;omega⟩
  obtain⟨hk,he,hd⟩:=xpe hd
  have hk':(k:Int)<(A.length:Int):=by omega
  have hkB:k<B'.length:=by omega
  rw[xp2 hkB]at hd2
  subst hd2
  generalize hq:B'[k]=q
  have ix:=ha.ix pxL hk
  rw[xp2 hk,x19b,he]at ix
  have ix2:=hb.ix pxL hkB
  rw[xp2 hkB,x19b,hq]at ix2
  have h':=ih (B'.drop (k+1)) (k+1) j m (fc+35) hd rfl (by simp at hj;omega)
  have hcons:decide (p::suf=q::B'.drop (k+1))=(decide (p.1=q.1)&&(decide (p.2=q.2)&&decide (suf=B'.drop (k+1)))):=by
   rw[<-Bool.decide_and,<-Bool.decide_and]
   congr 1
   rw[x1b7,Prod.ext_iff,and_assoc]
  rw[hcons]
  simp only[x59]
  unfold x9i
  simp only[ha.len xqw,xou,hk',x19d,xnz,xot,ix,ix2,pxE]
  by_cases c1:p.1=q.1
  rotate_left
  .simp(disch:=omega) [xvx,xzx,xzy,c1,cAp,tR,mkM,show Nat.blt 0 1=true from rfl]
  by_cases c2:p.2=q.2
  rotate_left
  .simp(disch:=omega) [xvx,xxi,xzx,xzy,c1,c2,cAp,tR,mkM,show Nat.blt 0 1=true from rfl,ix,ix2,pxE]
  .simp(disch:=omega) [xvx,xxi,xzx,xzy,c1,c2,cAp,tR,mkM,show Nat.blt 0 1=true from rfl,ix,ix2,pxE,xnx]
   exact h'
theorem w_Same(d:Nat)(ha:Sl pxE a A)(hb:Sl pxE b B')(hl2:A.length<=100000)(m:Mem):xnu (xnt (d+2)) x3q [a,b] m=some (B (decide (A=B')),m):=by
 refine xo0 (by simp[ha.still,hb.still]) ?_ m
 rw[xj7]
 unfold xdd x9j
 by_cases c:A.length=B'.length
 .have h':=l_Same d [] 0 ha hb c hl2 A B' 0 NN ⟨[],1⟩ 7 rfl rfl (by rw[xo8];omega)
  have c':(A.length:Int)=B'.length:=by omega
  simp[mem0,ha.len xqw,hb.len xqw,c',xgh]
  rw[show(0:Int)=((0:Nat):Int)from rfl,h']
  exact RetF.st rfl rfl
 .have c':¬(A.length:Int)=B'.length:=by omega
  have hne:¬A=B':=λe=>c (by rw[e])
  simp[mem0,ha.len xqw,hb.len xqw,c',hne]
  exact RetF.st rfl rfl
theorem x162(d:Nat){L S L' S':Int}(ha:Sl pxE a A)(hb:Sl pxE b B')(hl2:A.length<=100000)(m:Mem):xnu (xnt (d+3)) x28 [.agg [I L,I S,a],.agg [I L',I S',b]] m=some (B (decide (L=L')&&(decide (S=S')&&decide (A=B'))),m):=by
 refine xo0 (by simp[ha.still1,hb.still1]) ?_ m
 rw[xir]
 unfold xcx x88
 have h:=λm=>w_Same d ha hb hl2 m
 by_cases c1:L=L'
 .by_cases c2:S=S'
  .simp[mem0,ha.one,hb.one,c1,c2,h];exact RetF.st rfl rfl
  .simp[mem0,ha.one,hb.one,c1,c2,h];exact RetF.st rfl rfl
 .simp[mem0,ha.one,hb.one,c1,h];exact RetF.st rfl rfl
theorem x13p{objs:Id->Option Ob}{id:Id}{cs:List AV}{v off k:Nat}{f:Bool}(h:objs id=some (.row cs v f)):Go.Ix.frz objs (k+1) (.ptr id v off)=((cs.drop off).mapM (Go.Ix.frz objs k)).map AV.plit:=by
 simp only[Go.Ix.frz,h,x19o]
theorem xrw:x1t=[I 0,I 0,I 0,I 0]:=by kernel_rfl
def fitB(L S x y z w:Int):Bool:=wi x 0 (L-z)&&wi y 0 (S-w)
variable{a:AV}{D:List Px}{L S:Int}
theorem w_fits(d:Nat)(h1:still1 a=true)(h2:a.one=true)(L S x y z w:Int)(hz:bd (L-z) 1000000000000000)(hw:bd (S-w) 1000000000000000)(m:Mem):xnu (xnt (d+2)) x44 [.agg [I L,I S,a],.agg [I x,I y,I z,I w]] m=some (B (fitB L S x y z w),m):=by
 unfold bd at hz hw
 refine xo0 (by simp[h1]) ?_ m
 rw[xjr]
 unfold xdx xb6 fitB
 cases c1:wi x 0 (L-z)
 .simp(disch:=omega) [mem0,h2,xqr,c1,xnx];exact RetF.st rfl rfl
 .simp(disch:=omega) [mem0,h2,xqr,c1,xnx];exact RetF.st rfl rfl
theorem z_scene3:x60=[I 0,I 0,nilS]:=by kernel_rfl
theorem x13q(L S:Int)(a:AV):xo5 x60 [(0,3,.agg [I L,I S,a])]=some (.agg [I L,I S,a]):=by
 rw[z_scene3];rfl
theorem x13r(d:Nat)(h1:still1 a=true)(h2:a.one=true)(x y z w:Int)(m:Mem):xnu (xnt (d+1)) x2q [.agg [I L,I S,a],.agg [I x,I y,I z,I w]] m=some (.clo xz [.plit [I x,I y,I z,I w],.plit [I L,I S,a]],m):=by
 refine xo0 (by simp[h1]) ?_ m
 rw[xjt]
 unfold xdz xb8
 simp[mem0,h2]
 generalize hm:Mem.new _ _ _=m1
 have g2:m1.get (0,0,2)=some (.row [I L,I S,a] 0 false):=by rw[<-hm];simp
 have g3:m1.get (0,1,3)=some (.row [I x,I y,I z,I w] 0 false):=by rw[<-hm];simp
 have e2:Go.Ix.frz m1.get 5 (.ptr (0,0,2) 0 0)=some (.plit [I L,I S,a]):=by
  rw[x13p g2]
  simp only[x1a6,x1a9,x1b4,xue m1.get 3 h1]
  rfl
 have e3:Go.Ix.frz m1.get 5 (.ptr (0,1,3) 0 0)=some (.plit [I x,I y,I z,I w]):=by
  rw[x13p g3]
  rfl
 refine RetF.mk (a':=.clo xz [.plit [I x,I y,I z,I w],.plit [I L,I S,a]]) ?_ rfl
 show(([AV.ptr (0,1,3) 0 0,.ptr (0,0,2) 0 0].mapM (Go.Ix.frz m1.get 5)).map λl=>AV.clo _ l)=_
 simp only[x1a9,x1b4,e2,e3]
 rfl
theorem x13s(d:Nat){hh:FHs}{id:Id}{h:List AV->Mem->Option Mem}(ha:Sl pxE a D)(hR:RtI L S D)(hl:xst hh id=some h)(hid:id.2.2=0){x y z w:Int}(hz:1<=z/\z<=8)(hw:1<=w/\w<=8)(hx:bd x 100000)(hy:bd y 100000){m0:Mem}(Inv:Nat->Mem->Prop)(hst:∀i m m',Inv i m->m'.hp=m.hp->m.next<=m'.next->Inv i m')(hb:∀(i:Nat) (r:AV) m,(i:Int)<z*w->Is (Fzi (atM L S D (x+i / w) (y+i % w)).1 (atM L S D (x+i / w) (y+i % w)).2) r->Inv i m->∃m2,h [I i,r] m=some m2/\Inv (i+1) m2)(h0:Inv 0 m0) :
 ∃m',xnt (d+3) hh xz [.yld id,.plit [I x,I y,I z,I w],.plit [I L,I S,a]] m0=some (.tup [],m')/\Inv (z*w).toNat m':=by
 have hzw:1<=z*w/\z*w<=64:=by
  have q1:z*w<=8*8:=x1bh (by omega) (by omega) (by omega) (by omega)
  have q2:1*1<=z*w:=x1bh (by omega) (by omega) (by omega) (by omega)
  omega
 unfold bd at hx hy
 rw[xk9]
 unfold xee xbz
 generalize hu:m0.next=u
 have key:∀(n k j:Nat) (m:Mem) (fc:Nat),(k:Int)+n=z*w->n<j->Inv k m ->
  ∃m',x5p (xnt (d+2)) hh u j (.yld id) (.plit [I x,I y,I z,I w]) (.plit [I L,I S,a]) (I (z*w)) (I k) m fc=some (.tup [],m')/\Inv (z*w).toNat m':=by
  intro n
  induction n with
  |zero=>
   intro k j m fc hk hj hI
   obtain⟨j,rfl⟩:∃i,j=i+1:=⟨j-1,by omega⟩
   have hk0:¬((k:Int)<z*w):=by omega
   refine⟨m,?_,by rw[show(z*w).toNat=k by omega];exact hI⟩
   simp only[x5p]
   unfold xby
   rw[xou,x19w hk0]
   rfl
  |succ n ih=>
   intro k j m fc hk hj hI
   obtain⟨j,rfl⟩:∃i,j=i+1:=⟨j-1,by omega⟩
   have hk0:(k:Int)<z*w:=by omega
   have hdv:(k:Int).tdiv w=(k:Int) / w:=Int.tdiv_eq_ediv_of_nonneg (by omega)
   have hmd:(k:Int).tmod w=(k:Int) % w:=Int.tmod_eq_emod_of_nonneg (by omega)
   have q1:0<=(k:Int) / w:=Int.ediv_nonneg (by omega) (by omega)
   have q2:(k:Int) / w<=k:=Int.ediv_le_self _ (by omega)
   have q3:=x1cx (k:Int) (show w≠0 by omega)
   have q4:=x1cy (k:Int) (show 0<w by omega)
   obtain⟨r,er,hr⟩:=w_at d ha hR (x+(k:Int) / w) (y+(k:Int) % w) m
   obtain⟨m2,e2,hI2⟩:=hb k r m hk0 hr hI
   have hlv:live m2.get id=true:=by unfold live;rw[hid];rfl
   have hinv:xqa (xnt (d+2)) hh 2 (.yld id) [I k,r] m=some (B true,m2):=by
    show(match xst hh id with
     |some h=>(h [I k,r] m).map λ(m':Mem)=>(B (live m'.get id),m')
     |none=>none)=_
    rw[hl]
    simp only
    rw[e2]
    show some (B (live m2.get id),m2)=_
    rw[hlv]
   obtain⟨m',e,hI'⟩:=ih (k+1) j m2 (fc+25) (by omega) (by omega) hI2
   refine⟨m',?_,hI'⟩
   rw[<-e]
   simp only[x5p]
   conv=>lhs;unfold xby
   simp only[xou,hk0,x19d,xnz,xot]
   simp(disch:=omega) [xr9 (show w≠0 by omega),xrq (show w≠0 by omega),hdv,hmd,xnx,er,hinv,mkM,clean,ha.clean1]
 obtain⟨m',e,hI'⟩:=key (z*w).toNat 0 NN ⟨m0.hp,u+1⟩ 6 (by omega) (by rw[xo8];omega) (hst 0 m0 _ h0 rfl (by rw[<-hu];exact x1bf _))
 refine⟨m',?_,hI'⟩
 rw[<-e]
 simp(disch:=omega) [xnx]
theorem xor_63(w:Nat):(w ^^^ 2 ^ 63) % 2 ^ 63=w % 2 ^ 63/\((w ^^^ 2 ^ 63) / 2 ^ 63 % 2 == 1)=!(w / 2 ^ 63 % 2 == 1):=by
 constructor
 .rw[Nat.xor_mod_two_pow,Nat.mod_self,Nat.xor_zero]
 .rw[Nat.xor_div_two_pow,Nat.div_self (Nat.two_pow_pos _)]
  have h:=Nat.xor_mod_two_pow (a:=w / 2 ^ 63) (b:=1) (n:=1)
  rw[Nat.pow_one]at h
  rw[h]
  rcases Nat.mod_two_eq_zero_or_one (w / 2 ^ 63)with g|g
  .rw[g];rfl
  .rw[g];rfl
theorem xor_read(w:Nat):double.read (w ^^^ 2 ^ 63)=match double.read w with
 | .number s m e=>.number (!s) m e
 | .infinity s=>.infinity (!s)
 | .nan s t=>.nan (!s) t:=by
 have e5:double.signWeight=2 ^ 63:=rfl
 obtain⟨h1,h2⟩:=xor_63 w
 unfold Format.read
 simp only[e5,h1,h2]
 by_cases c1:w % 2 ^ 63<double.binade
 .rw[if_pos c1,if_pos c1]
 .rw[if_neg c1,if_neg c1]
  by_cases c2:w % 2 ^ 63<double.infRung
  .rw[if_pos c2,if_pos c2]
  .rw[if_neg c2,if_neg c2]
   by_cases c3:w % 2 ^ 63=double.infRung
   .rw[if_pos c3,if_pos c3]
   .rw[if_neg c3,if_neg c3]
theorem neg_I{w:Nat}{n:Int}(h:IsI w n):IsI (w ^^^ 2 ^ 63) (-n):=by
 obtain⟨s,m,e,h1,h2,h3,h4⟩:=h
 refine⟨!s,m,e,?_,h2,h3,?_⟩
 .rw[xor_read,h1]
 .rw[sg_not,h4,Int.neg_mul]
theorem s_fneg{a:AV}{n:Int}(ha:Is (Fi n) a):∃r,sUn Tryz.prog .neg a=some r/\Is (Fi (-n)) r:=by
 refine sUn_R ha ?_
 rintro _ ⟨w,rfl,hw⟩
 have e:Op.unary .neg (.float .f64 w)=.pure (.float .f64 (w ^^^ 2 ^ 63)):=rfl
 rw[e]
 have g:Fi (-n) (.float .f64 (w ^^^ 2 ^ 63)):=⟨_,rfl,neg_I hw⟩
 exact OkR.pure ⟨xxd g,g⟩
theorem s_cplx{a b:AV}{p q:Int}(ha:Is (Fi p) a)(hb:Is (Fi q) b):∃r,xoi Tryz.prog .complex #[x8,x8] xa [a,b]=some r/\Is (Fzi p q) r:=by
 refine op_R (bi0_s1 [a,b] tvs2) (cs2 ha.1 hb.1) (cs2' λu v hu hv=>?_)
 obtain⟨x,rfl,hx⟩:=ha.2 u hu
 obtain⟨y,rfl,hy⟩:=hb.2 v hv
 have e:biS .complex #[x8,x8] xa [.float .f64 x,.float .f64 y]=.pure (.complex .f64 x y):=rfl
 rw[e]
 exact OkR.pure ⟨xxe ⟨x,y,rfl,hx,hy⟩,x,y,rfl,hx,hy⟩
theorem xzz{r:AV}{a b:Int}(hr:Is (Fzi a b) r)(ha:bd a 1000000000)(hb:bd b 1000000000)(d:Nat)(m:Mem):xnu (xnt (d+1)) x1l [r] m=some (I (a*a+b*b),m):=by
 obtain⟨x,ex,hx⟩:=xzt (t:=x8) (ts:=#[xa]) hr
 obtain⟨y,ey,hy⟩:=xzu (t:=x8) (ts:=#[xa]) hr
 have b1:=ha.mul ha
 have b2:=hb.mul hb
 refine xo0 (by simp[hr.oneZi.st]) ?_ m
 rw[xju]
 unfold xe0 xb9
 have c1:=s_fi hx (ha.mono (by decide))
 have c2:=s_fi hy (hb.mono (by decide))
 unfold bd at b1 b2
 simp(disch:=omega) [mem0,ex,ey,c1,c2,xnx]
 exact RetF.st rfl rfl
def sumS(g:Nat->Nat->Int)(w:Nat):Nat->Int
 |0=>0
 |k+1=>sumS g w k+g (k / w) (k % w)
theorem xsh{g:Nat->Nat->Int}{w:Nat}{B:Int}(h:∀l s,bd (g l s) B):∀k:Nat,bd (sumS g w k) (k*B)
 |0=>by unfold sumS bd;simp
 |k+1=>by
  have h1:=xsh (w:=w) h k
  have h2:=h (k / w) (k % w)
  unfold bd at *
  unfold sumS
  rw[x1bi,x1av,x1ba]
  omega
theorem xw1{g:Nat->Nat->Int}{w:Nat}(h:∀l s,0<=g l s):∀k:Nat,0<=sumS g w k
 |0=>by unfold sumS;omega
 |k+1=>by
  have h1:=xw1 (w:=w) h k
  have h2:=h (k / w) (k % w)
  unfold sumS;omega
theorem cs_step{R J E F r j e f:Int}(h:R*R+J*J<=E*F)(hE:0<=E)(hF:0<=F)(he:0<=e)(hf:0<=f)(hr:r*r+j*j=e*f):(R+r)*(R+r)+(J+j)*(J+j)<=(E+e)*(F+f):=by
 have key:2*(R*r+J*j)<=E*f+e*F:=by
  have hY:0<=E*f+e*F:=Int.add_nonneg (x19z hE hf) (x19z he hF)
  rcases Int.lt_or_le (E*f+e*F) (2*(R*r+J*j))with g|g
  .exfalso
   have q1:(E*f+e*F)*(E*f+e*F)<(2*(R*r+J*j))*(2*(R*r+J*j)):=by
    have a1:(E*f+e*F)*(E*f+e*F)<=(E*f+e*F)*(2*(R*r+J*j)):=x1dx (by omega) hY
    have a2:(E*f+e*F)*(2*(R*r+J*j))<(2*(R*r+J*j))*(2*(R*r+J*j)):=Int.mul_lt_mul_of_pos_right g (by omega)
    omega
   have q2:(R*r+J*j)*(R*r+J*j)+(R*j-J*r)*(R*j-J*r)=(R*R+J*J)*(r*r+j*j):=by grind
   have q3:0<=(R*j-J*r)*(R*j-J*r):=by
    rcases x1bv 0 (R*j-J*r)with g|g
    .exact x19z g g
    .exact Int.mul_nonneg_of_nonpos_of_nonpos g g
   have q4:(R*R+J*J)*(e*f)<=E*F*(e*f):=x1aw h (x19z he hf)
   have q5:0<=(E*f-e*F)*(E*f-e*F):=by
    rcases x1bv 0 (E*f-e*F)with g|g
    .exact x19z g g
    .exact Int.mul_nonneg_of_nonpos_of_nonpos g g
   have q6:(E*f+e*F)*(E*f+e*F)=(E*f-e*F)*(E*f-e*F)+4*(E*F*(e*f)):=by grind
   have q7:(2*(R*r+J*j))*(2*(R*r+J*j))=4*((R*r+J*j)*(R*r+J*j)):=by grind
   rw[hr]at q2
   omega
  .exact g
 have e1:(R+r)*(R+r)+(J+j)*(J+j)=(R*R+J*J)+2*(R*r+J*j)+(r*r+j*j):=by grind
 have e2:(E+e)*(F+f)=E*F+(E*f+e*F)+e*f:=by grind
 omega
section
variable(A B:Nat->Nat->Int×Int)
def tR1(l s:Nat):Int:=(A l s).1*(B l s).1+(A l s).2*(B l s).2
def tI1(l s:Nat):Int:=(A l s).2*(B l s).1-(A l s).1*(B l s).2
def tE1(l s:Nat):Int:=(A l s).1*(A l s).1+(A l s).2*(A l s).2
theorem xqs(x:Int):0<=x*x:=by
 rcases x1bv 0 x with g|g
 .exact x19z g g
 .exact Int.mul_nonneg_of_nonpos_of_nonpos g g
theorem xuq(l s:Nat):0<=tE1 A l s:=Int.add_nonneg (xqs _) (xqs _)
theorem cs_all(w:Nat):∀k:Nat,sumS (tR1 A B) w k*sumS (tR1 A B) w k+sumS (tI1 A B) w k*sumS (tI1 A B) w k<=sumS (tE1 A) w k*sumS (tE1 B) w k
 |0=>by simp[sumS]
 |k+1=>by
  unfold sumS
  refine cs_step (cs_all w k) (xw1 (xuq A) k) (xw1 (xuq B) k) (xuq A _ _) (xuq B _ _) ?_
  unfold tR1 tI1 tE1
  grind
end
theorem t_bd{A B:Nat->Nat->Int×Int}(hA:∀l s,bd (A l s).1 2047/\bd (A l s).2 2047)(hB:∀l s,bd (B l s).1 2047/\bd (B l s).2 2047):(∀l s,bd (tR1 A B l s) 8380418)/\(∀l s,bd (tI1 A B l s) 8380418)/\(∀l s,bd (tE1 A l s) 8380418):=by
 refine⟨λl s=>?_,λl s=>?_,λl s=>?_⟩
 .exact(((hA l s).1.mul (hB l s).1).add ((hA l s).2.mul (hB l s).2)).mono (by decide)
 .exact(((hA l s).2.mul (hB l s).1).sub ((hA l s).1.mul (hB l s).2)).mono (by decide)
 .exact(((hA l s).1.mul (hA l s).1).add ((hA l s).2.mul (hA l s).2)).mono (by decide)
abbrev zE(r:AV):List AV:=[r]
theorem zL(r:AV):(zE r).length=1:=rfl
theorem x100:∀(T:List AV) (k:Nat),(T.flatMap zE).drop k=T.drop k
 |[],k=>by simp
 |r::T,0=>by
  show(zE r++T.flatMap zE)=_
  have:=x100 T 0
  rw[x1a6,x1a6]at this
  rw[this];rfl
 |r::T,k+1=>x100 T k
theorem gk_at{ok:Id->Prop}{m:Mem}{v:AV}{T:List AV}(h:Gk 1 zE ok m v T){k:Nat}(hk:k<T.length):∃p,sIx 1 v (I k)=some p/\sLd false 1 p m=some T[k]:=by
 rcases h with ⟨rfl,rfl⟩|⟨id,ver,h0,rfl,hg⟩
 .simp at hk
 .refine⟨.ptr id ver (0+k*1),?_,?_⟩
  .simp only[sIx,asI]
   rw[if_pos ⟨by omega,by omega,trivial⟩,x1ax]
  .simp only[sLd,hg,x19o,x1aj,Nat.mul_one,x100]
   rw[xp2 hk];rfl
theorem xtw{m m':Mem}(h:m'.hp=m.hp)(i:Id):m'.get i=m.get i:=by
 show hget m'.hp i=hget m.hp i
 rw[h]
theorem xrb:x5a=[I 0,I 0]:=by kernel_rfl
theorem z_c128:x9o=[.sc (.complex .f64 0 0)]:=by kernel_rfl
theorem z_sc128:xie=[nilS]:=by kernel_rfl
theorem z_int3:xra=[I 0]:=by kernel_rfl
theorem x13t(x y:Int):xo5 [I 0,I 0] [(0,1,I x),(1,1,I y)]=some (.agg [I x,I y]):=rfl
theorem xrc:xo5 [I 0,I 0] []=some (.agg [I 0,I 0]):=rfl
theorem w_moved(d:Nat)(x y z w p q:Int)(m:Mem):xnu (xnt (d+1)) x45 [.agg [I x,I y,I z,I w],.agg [I p,I q]] m=some (.agg [I (w64 (x+p)),I (w64 (y+q)),I z,I w],m):=by
 refine xo0 (by simp) ?_ m
 rw[xjs]
 unfold xdy xb7
 simp[mem0,xrw,xny,sIxA,asI,sLdP,tR,tS,xoa,disj]
 exact RetF.st rfl rfl
theorem w_sizeMin(d:Nat)(m:Mem):xnu (xnt (d+1)) xh [I (-9223372036854775808)] m=some (I (-9223372036854775808),m):=by
 have h:((xnt (d+1) [] xh [I (-9223372036854775808)] mem0).bind λq=>Go.Ix.frz q.2.get deep q.1)=some (I (-9223372036854775808)):=by kernel_rfl
 exact xo0 rfl (xpw h) m
variable{a b:AV}{D D2:List Px}{L S L2 S2:Int}
def inW(p:Int):Prop:=-9223372036854775808<=p/\p<=9223372036854775807
def xrx(L2 S2 x y z w p q:Int):Bool:=wi p (-64) 64&&(wi q (-64) 64&&fitB L2 S2 (x+p) (y+q) z w)
theorem w_scoreB(d:Nat)(ha:Sl pxE a D)(hR:RtI L S D)(hb:Sl pxE b D2)(hR2:RtI L2 S2 D2){x y z w p q:Int}(hz:1<=z/\z<=8)(hw:1<=w/\w<=8)(hx:0<=x/\x<=64)(hy:0<=y/\y<=64)(hp:inW p)(hq:inW q)(hf:xrx L2 S2 x y z w p q=false)(m:Mem) :
 xnu (xnt (d+5)) x1i [.agg [I L,I S,a,I L2,I S2,b],.agg [I x,I y,I z,I w],.agg [I p,I q]] m=some (.tup [.agg [I 0,I 0],I 26],m):=by
 have hl2:=wi_t hR2.l
 have hs2:=wi_t hR2.s
 have mv:=λm=>w_moved (d+3) x y z w p q m
 have ft:=λX Y m=>w_fits (d+2) hb.still1 hb.one L2 S2 X Y z w (by unfold bd;omega) (by unfold bd;omega) m
 unfold inW at hp hq
 refine xo0 (by simp[ha.still1,hb.still1]) ?_ m
 rw[xi5]
 unfold x7u x6t
 have sz:∀p:Int,-9223372036854775808<=p->p<=9223372036854775807->∃n:Int,(∀m,xnu (xnt (d+4)) xh [I p] m=some (I n,m))/\(n > 64↔¬(wi p (-64) 64=true)/\p≠-9223372036854775808):=λp h1 h2=>by
  by_cases c:p=-9223372036854775808
  .subst c
   exact⟨_,λm=>w_sizeMin (d+3) m,by constructor<;>intro h<;>omega⟩
  .refine⟨_,λm=>xtu (d+3) p m (by omega) h2,?_⟩
   unfold wi
   simp
   omega
 obtain⟨n,en,hn⟩:=sz p hp.1 hp.2
 obtain⟨k,ek,hk⟩:=sz q hq.1 hq.2
 by_cases c1:n > 64
 .simp[mem0,ha.one,hb.one,mv,xrw,xrb,xny,sIxA,asI,en,c1,xrc,sLdP]
  exact RetF.tup rfl rfl
 by_cases c2:k > 64
 .simp[mem0,ha.one,hb.one,mv,xrw,xrb,xny,sIxA,asI,en,ek,c1,c2,xrc,sLdP]
  exact RetF.tup rfl rfl
 have hff:fitB L2 S2 (w64 (x+p)) (w64 (y+q)) z w=false:=by
  by_cases m1:p=-9223372036854775808
  .have:w64 (x+p)=x+p:=xnx (by omega) (by omega)
   unfold fitB
   have:wi (w64 (x+p)) 0 (L2-z)=false:=by
    rw[this];unfold wi;simp;omega
   rw[this];rfl
  by_cases m2:q=-9223372036854775808
  .have:w64 (y+q)=y+q:=xnx (by omega) (by omega)
   unfold fitB
   have:wi (w64 (y+q)) 0 (S2-w)=false:=by
    rw[this];unfold wi;simp;omega
   rw[this,x1dr]
  have p1:wi p (-64) 64=true:=by
   cases h:wi p (-64) 64
   .exact absurd (hn.mpr ⟨by rw[h];decide,m1⟩) c1
   .rfl
  have q1:wi q (-64) 64=true:=by
   cases h:wi q (-64) 64
   .exact absurd (hk.mpr ⟨by rw[h];decide,m2⟩) c2
   .rfl
  unfold xrx at hf
  rw[p1,q1]at hf
  have p2:=wi_t p1
  have q2:=wi_t q1
  rw[xnx (show -9223372036854775808<=x+p by omega) (by omega),xnx (show -9223372036854775808<=y+q by omega) (by omega)]
  exact hf
 simp[mem0,ha.one,hb.one,mv,xrw,xrb,xny,sIxA,asI,en,ek,c1,c2,xrc,sLdP,ft,hff]
 exact RetF.tup rfl rfl
def wA(L S:Int)(D:List Px)(x y:Int)(l s:Nat):Int×Int:=atM L S D (x+l) (y+s)
theorem xry(hR:RtI L S D)(x y:Int):∀l s,bd (wA L S D x y l s).1 2047/\bd (wA L S D x y l s).2 2047:=λl s=>xsg hR _ _
theorem wA_at{x y:Int}{w:Nat}(i:Nat):atM L S D (x+(i:Int) / (w:Int)) (y+(i:Int) % (w:Int))=wA L S D x y (i / w) (i % w):=by
 unfold wA
 rw[Int.natCast_ediv,Int.natCast_emod]
def okZ3:Id->Prop:=λid=>id.2.2=47
structure SI1 (M0:Mem) (B:Nat->Nat->Int×Int) (w i:Nat) (m:Mem):Prop where
 nx:0<m.next
 fr:∀id:Id,id.2.2≠11->id.2.2≠12->id.2.2≠47->m.get id=M0.get id
 g11:m.get (0,29,11)=some (.row [I (sumS (tE1 B) w i)] 0 false)
 g12:∃v T,m.get (0,32,12)=some (.row [v] 0 false)/\Gk 1 zE okZ3 m v T/\T.length=i/\∀k (hk:k<T.length),Is (Fzi (B (k / w) (k % w)).1 (B (k / w) (k % w)).2) T[k]
structure SI2 (M1:Mem) (A B:Nat->Nat->Int×Int) (w i:Nat) (m:Mem):Prop where
 nx:0<m.next
 fr:∀id:Id,id.2.2≠9->id.2.2≠10->m.get id=M1.get id
 g9:∃r,m.get (0,27,9)=some (.row [r] 0 false)/\Is (Fzi (sumS (tR1 A B) w i) (sumS (tI1 A B) w i)) r
 g10:m.get (0,28,10)=some (.row [I (sumS (tE1 A) w i)] 0 false)
theorem step1(d:Nat){M0:Mem}{B:Nat->Nat->Int×Int}{w i:Nat}(hB:∀l s,bd (B l s).1 2047/\bd (B l s).2 2047)(hi:i<64){r:AV}{m:Mem}(hr:Is (Fzi (B (i / w) (i % w)).1 (B (i / w) (i % w)).2) r)(hI:SI1 M0 B w i m) :
 ∃m2,x6s (xnt (d+1)) [] m.next (.ptr (0,29,11) 0 0) (.ptr (0,32,12) 0 0) r ⟨m.hp,m.next+1⟩ 0=some m2/\SI1 M0 B w (i+1) m2:=by
 obtain⟨nx,fr,g11,v,T,g12,gk,hT,hel⟩:=hI
 have gk':Gk 1 zE okZ3 ⟨m.hp,m.next+1⟩ v T:=gk.frame λ_ _=>rfl
 obtain⟨v2,m2,hA,hG2,c2,o2,hn2,hfr⟩:=gk'.app zL (by decide) (bytes:=16) (id0:=(m.next,4,47)) (show okZ3 (m.next,4,47)from rfl) (by unfold xol;omega) r
 have o:=hr.oneZi
 have hA':∀(k':AV->Mem->Option Mem),sApp 1 16 (m.next,4,47) (some ([r],1)) v ⟨m.hp,m.next+1⟩ k'=k' v2 m2:=hA
 have pw:=λm=>xzz hr ((hB (i / w) (i % w)).1.mono (by decide)) ((hB (i / w) (i % w)).2.mono (by decide)) d m
 have G12:(⟨m.hp,m.next+1⟩:Mem).get (0,32,12)=some (.row [v] 0 false):=g12
 have G12':m2.get (0,32,12)=some (.row [v] 0 false):=by rw[hfr _ (by unfold okZ3;decide)];exact g12
 have G11':m2.get (0,29,11)=some (.row [I (sumS (tE1 B) w i)] 0 false):=by rw[hfr _ (by unfold okZ3;decide)];exact g11
 have bE:=xsh (w:=w) (t_bd hB hB).2.2 i
 have bE2:=(t_bd hB hB).2.2 (i / w) (i % w)
 have hi':(i:Int)*8380418<=64*8380418:=by omega
 refine⟨(m2.set (0,32,12) (.row [v2] 0 false)).set (0,29,11) (.row [I (sumS (tE1 B) w (i+1))] 0 false),?_,?_⟩
 .unfold x6s xgn
  have hmk:∀(k:AV->Mem->Option Mem) (id:Id) (mm:Mem),xp1 x9o [(0,1,r)] 1 1 id mm k=k (.slit [r] 1 true) mm:=λk id mm=>by rw[z_c128];exact xvi o.cs o.on o.c1
  have hel1:∀objs,elems objs 1 (.slit [r] 1 true)=some ([r],1):=λ_=>rfl
  unfold bd tE1 at bE bE2
  simp only[xx1,G12,xnz]
  simp[hmk,hel1,hA',G12',G11',o2,c2,pw,cAp,tR,mkM,o.cl]
  rw[xnx (by unfold tE1;omega) (by unfold tE1;omega)]
  rfl
 .refine⟨by show 0<m2.next;rw[hn2];exact Nat.succ_pos _,λid h1 h2 h3=>?_,by simp,v2,T++[r],by simp,?_,by simp[hT],λk hk=>?_⟩
  .rw[Mem.get_set_ne (by rintro rfl;exact h1 rfl),Mem.get_set_ne (by rintro rfl;exact h2 rfl),hfr _ h3]
   exact fr id h1 h2 h3
  .exact hG2.frame λid hid=>by rw[Mem.get_set_ne (by rintro rfl;exact absurd hid (by unfold okZ3;decide)),Mem.get_set_ne (by rintro rfl;exact absurd hid (by unfold okZ3;decide))]
  .rw[x1a2,List.length_singleton]at hk
   by_cases c:k<T.length
   .rw[List.getElem_append_left c];exact hel k c
   .have:k=i:=by omega
    subst this
    rw[x1dp (by omega)]
    simpa using hr
theorem step2(d:Nat){M1:Mem}{A B:Nat->Nat->Int×Int}{w i:Nat}(hA:∀l s,bd (A l s).1 2047/\bd (A l s).2 2047)(hB:∀l s,bd (B l s).1 2047/\bd (B l s).2 2047)(hi:i<64){r v:AV}{T:List AV}{m:Mem}(hr:Is (Fzi (A (i / w) (i % w)).1 (A (i / w) (i % w)).2) r)(g12:M1.get (0,32,12)=some (.row [v] 0 false))(gk:Gk 1 zE okZ3 M1 v T)(hT:i<T.length)(hel:∀k (hk:k<T.length),Is (Fzi (B (k / w) (k % w)).1 (B (k / w) (k % w)).2) T[k])(hI:SI2 M1 A B w i m) :
 ∃m2,x6r (xnt (d+1)) [] m.next (.ptr (0,27,9) 0 0) (.ptr (0,28,10) 0 0) (.ptr (0,32,12) 0 0) (I i) r ⟨m.hp,m.next+1⟩ 0=some m2/\SI2 M1 A B w (i+1) m2:=by
 obtain⟨nx,fr,⟨s,g9,hs⟩,g10⟩:=hI
 have G9:(⟨m.hp,m.next+1⟩:Mem).get (0,27,9)=some (.row [s] 0 false):=g9
 have G10:(⟨m.hp,m.next+1⟩:Mem).get (0,28,10)=some (.row [I (sumS (tE1 A) w i)] 0 false):=g10
 have G12:(⟨m.hp,m.next+1⟩:Mem).get (0,32,12)=some (.row [v] 0 false):=by
  show m.get (0,32,12)=_
  rw[fr _ (by decide) (by decide)];exact g12
 have gk':Gk 1 zE okZ3 ⟨m.hp,m.next+1⟩ v T:=gk.frame λid hid=>fr id (by rw[hid];decide) (by rw[hid];decide)
 obtain⟨pt,ix,ld⟩:=gk_at gk' hT
 have ht:=hel i hT
 obtain⟨bA1,bA2⟩:=hA (i / w) (i % w)
 obtain⟨bB1,bB2⟩:=hB (i / w) (i % w)
 have o:=hr.oneZi
 have pw:=λm=>xzz hr (bA1.mono (by decide)) (bA2.mono (by decide)) d m
 have bR:=xsh (w:=w) (t_bd hA hB).1 i
 have bJ:=xsh (w:=w) (t_bd hA hB).2.1 i
 have bE:=xsh (w:=w) (t_bd hA hA).2.2 i
 have cR:=(t_bd hA hB).1 (i / w) (i % w)
 have cJ:=(t_bd hA hB).2.1 (i / w) (i % w)
 have cE:=(t_bd hA hA).2.2 (i / w) (i % w)
 have hi':(i:Int)*8380418<=64*8380418:=by omega
 have tR_eq:tR1 A B (i / w) (i % w)=(A (i / w) (i % w)).1*(B (i / w) (i % w)).1-(A (i / w) (i % w)).2*-(B (i / w) (i % w)).2:=by unfold tR1;rw[Int.mul_neg];omega
 have tI_eq:tI1 A B (i / w) (i % w)=(A (i / w) (i % w)).1*-(B (i / w) (i % w)).2+(A (i / w) (i % w)).2*(B (i / w) (i % w)).1:=by unfold tI1;rw[Int.mul_neg];omega
 have tE_eq:tE1 A (i / w) (i % w)=(A (i / w) (i % w)).1*(A (i / w) (i % w)).1+(A (i / w) (i % w)).2*(A (i / w) (i % w)).2:=rfl
 have sR:sumS (tR1 A B) w (i+1)=sumS (tR1 A B) w i+tR1 A B (i / w) (i % w):=rfl
 have sJ:sumS (tI1 A B) w (i+1)=sumS (tI1 A B) w i+tI1 A B (i / w) (i % w):=rfl
 have sE:sumS (tE1 A) w (i+1)=sumS (tE1 A) w i+tE1 A (i / w) (i % w):=rfl
 rw[tR_eq]at cR sR
 rw[tI_eq]at cJ sJ
 rw[tE_eq]at cE sE
 generalize (A (i / w) (i % w)).1=p1 at *
 generalize (A (i / w) (i % w)).2=p2 at *
 generalize (B (i / w) (i % w)).1=q1 at *
 generalize (B (i / w) (i % w)).2=q2 at *
 obtain⟨rr,er,hrr⟩:=xzt (t:=x8) (ts:=#[xa]) ht
 obtain⟨ri,ei,hri⟩:=xzu (t:=x8) (ts:=#[xa]) ht
 obtain⟨rn,en,hrn⟩:=s_fneg hri
 obtain⟨rc,ec,hrc⟩:=s_cplx hrr hrn
 have bB2':bd (-q2) 2047:=bB2.neg
 obtain⟨rm,em,hrm⟩:=s_zmul (t:=xa) (X:=.tmp 59) (Y:=.tmp 71) hr hrc (bA1.mono (by decide)) (bA2.mono (by decide)) (bB1.mono (by decide)) (bB2'.mono (by decide))
  ((bA1.mul bB1).mono (by decide)) ((bA2.mul bB2').mono (by decide)) ((bA1.mul bB2').mono (by decide)) ((bA2.mul bB1).mono (by decide))
 obtain⟨ra,ea,hra⟩:=s_zadd (t:=xa) (X:=.tmp 58) (Y:=.tmp 72) hs hrm (by unfold bd at *;omega) (by unfold bd at *;omega)
 have oa:=hra.oneZi
 rw[<-sR,<-sJ]at hra
 have nz1:(0,27,9)≠((0,28,10):Id):=by decide
 refine⟨((⟨m.hp,m.next+1⟩:Mem).set (0,27,9) (.row [ra] 0 false)).set (0,28,10) (.row [I (sumS (tE1 A) w (i+1))] 0 false),?_,?_⟩
 .unfold x6r xgl
  unfold bd at bE cE
  simp only[xx1,G9,G12,xz8,xnz]
  simp[G9,G10,G12,ix,ld,er,ei,en,ec,em,ea,oa.cs,oa.on,pw,cAp,tR,mkM,o.cl]
  rw[xnx (by omega) (by omega),sE]
 .refine⟨Nat.succ_pos _,λid h1 h2=>?_,⟨ra,?_,hra⟩,by simp⟩
  .rw[Mem.get_set_ne (by rintro rfl;exact h2 rfl),Mem.get_set_ne (by rintro rfl;exact h1 rfl)]
   exact fr id h1 h2
  .rw[Mem.get_set_ne nz1,Mem.get_set_same]
def scE(A:Nat->Nat->Int×Int)(w n:Nat):Int:=sumS (tE1 A) w n
def scN(A B:Nat->Nat->Int×Int)(w n:Nat):Int:=sumS (tR1 A B) w n*sumS (tR1 A B) w n+sumS (tI1 A B) w n*sumS (tI1 A B) w n
theorem SI1.hp{M0:Mem}{B:Nat->Nat->Int×Int}{w i:Nat}{m m':Mem}(h:SI1 M0 B w i m)(hp:m'.hp=m.hp)(hn:m.next<=m'.next):SI1 M0 B w i m':=by
 obtain⟨nx,fr,g11,v,T,g12,gk,hT,hel⟩:=h
 exact⟨by omega,λid h1 h2 h3=>by rw[xtw hp];exact fr id h1 h2 h3,by rw[xtw hp];exact g11,v,T,by rw[xtw hp];exact g12,gk.frame λid _=>xtw hp id,hT,hel⟩
theorem SI2.hp{M1:Mem}{A B:Nat->Nat->Int×Int}{w i:Nat}{m m':Mem}(h:SI2 M1 A B w i m)(hp:m'.hp=m.hp)(hn:m.next<=m'.next):SI2 M1 A B w i m':=by
 obtain⟨nx,fr,⟨s,g9,hs⟩,g10⟩:=h
 exact⟨by omega,λid h1 h2=>by rw[xtw hp];exact fr id h1 h2,⟨s,by rw[xtw hp];exact g9,hs⟩,by rw[xtw hp];exact g10⟩
theorem xsx{A B:Nat->Nat->Int×Int}{w n:Nat}(hA:∀l s,bd (A l s).1 2047/\bd (A l s).2 2047)(hB:∀l s,bd (B l s).1 2047/\bd (B l s).2 2047)(hn:n<=64) :
 bd (sumS (tR1 A B) w n) 536346752/\bd (sumS (tI1 A B) w n) 536346752/\bd (scE A w n) 536346752/\0<=scE A w n/\0<=scN A B w n/\scN A B w n<=scE A w n*scE B w n/\scE A w n*scE B w n<=300000000000000000:=by
 have bR:=xsh (w:=w) (t_bd hA hB).1 n
 have bJ:=xsh (w:=w) (t_bd hA hB).2.1 n
 have bE:=xsh (w:=w) (t_bd hA hA).2.2 n
 have bF:=xsh (w:=w) (t_bd hB hB).2.2 n
 have hn':(n:Int)*8380418<=64*8380418:=by omega
 have e0:=xw1 (w:=w) (xuq A) n
 have f0:=xw1 (w:=w) (xuq B) n
 unfold scE scN
 refine⟨by unfold bd at *;omega,by unfold bd at *;omega,by unfold bd at *;omega,e0,Int.add_nonneg (xqs _) (xqs _),cs_all A B w n,?_⟩
 unfold bd at bE bF
 have:=x1bh (show sumS (tE1 A) w n<=536346752 by omega) (show sumS (tE1 B) w n<=536346752 by omega) f0 (by omega)
 omega
theorem w_scoreO(d:Nat)(ha:Sl pxE a D)(hR:RtI L S D)(hb:Sl pxE b D2)(hR2:RtI L2 S2 D2){x y p q:Int}{z w:Nat}(hz:1<=z/\z<=8)(hw:1<=w/\w<=8)(hx:0<=x/\x<=64)(hy:0<=y/\y<=64)(hf:xrx L2 S2 x y z w p q=true)(m:Mem) :
 xnu (xnt (d+5)) x1i [.agg [I L,I S,a,I L2,I S2,b],.agg [I x,I y,I z,I w],.agg [I p,I q]] m
  = some (.tup (if scE (wA L S D x y) w (z*w)=0\/scE (wA L2 S2 D2 (x+p) (y+q)) w (z*w)=0 then[.agg [I 0,I 0],I 11]
    else[.agg [I (scN (wA L S D x y) (wA L2 S2 D2 (x+p) (y+q)) w (z*w)),I (scE (wA L S D x y) w (z*w)*scE (wA L2 S2 D2 (x+p) (y+q)) w (z*w))],I 0]),m):=by
 have hl2:=wi_t hR2.l
 have hs2:=wi_t hR2.s
 unfold xrx at hf
 rw[x195,x195]at hf
 obtain⟨hp,hq,hff⟩:=hf
 have hp':=wi_t hp
 have hq':=wi_t hq
 have hnn:z*w<=64:=x19s (x1a3 hz.2 hw.2) (by omega)
 have mv:=λm=>w_moved (d+3) x y z w p q m
 rw[xnx (show -9223372036854775808<=x+p by omega) (by omega),xnx (show -9223372036854775808<=y+q by omega) (by omega)]at mv
 have ft:=λm=>w_fits (d+2) hb.still1 hb.one L2 S2 (x+p) (y+q) z w (by unfold bd;omega) (by unfold bd;omega) m
 rw[hff]at ft
 have sp:=λm=>xtu (d+3) p m (by omega) (by omega)
 have sq:=λm=>xtu (d+3) q m (by omega) (by omega)
 have np:¬(p.natAbs:Int) > 64:=by omega
 have nq:¬(q.natAbs:Int) > 64:=by omega
 have hA:=xry hR x y
 have hB:=xry hR2 (x+p) (y+q)
 have bds:=xsx (w:=w) hA hB hnn
 have bdf:=xsx (w:=w) hB hB hnn
 refine xo0 (by simp[ha.still1,hb.still1]) ?_ m
 rw[xi5]
 unfold x7u x6t
 simp[mem0,ha.one,hb.one,mv,xrw,xrb,xny,sIxA,asI,sp,sq,np,nq,ft,z_c128,z_int3,z_sc128]
 generalize hM:Mem.new _ _ _=M0
 have g3:M0.get (0,0,3)=some (.row [I L,I S,a,I L2,I S2,b] 0 false):=by rw[<-hM];simp
 have g4:M0.get (0,1,4)=some (.row [I x,I y,I z,I w] 0 false):=by rw[<-hM];simp
 have g6:M0.get (0,3,6)=some (.row [I 0,I 0] 0 false):=by rw[<-hM];simp
 have g8:M0.get (0,8,8)=some (.row [I (x+p),I (y+q),I z,I w] 0 false):=by rw[<-hM];simp
 have g9:M0.get (0,27,9)=some (.row [.sc (.complex .f64 0 0)] 0 false):=by rw[<-hM];simp
 have g10:M0.get (0,28,10)=some (.row [I 0] 0 false):=by rw[<-hM];simp
 have g11:M0.get (0,29,11)=some (.row [I 0] 0 false):=by rw[<-hM];simp
 have g12:M0.get (0,32,12)=some (.row [nilS] 0 false):=by rw[<-hM];simp
 have hn0:0<M0.next:=by rw[<-hM];exact Nat.succ_pos 0
 have hzw:((z:Int)*(w:Int)).toNat=z*w:=by rw[<-Int.natCast_mul,x1ax]
 have wv2:=λm=>x13r (L:=L2) (S:=S2) (d+3) hb.still1 hb.one (x+p) (y+q) z w m
 have wv1:=λm=>x13r (L:=L) (S:=S) (d+3) ha.still1 ha.one x y z w m
 let h1:List AV->Mem->Option Mem:=λargs m=>bif Nat.beq args.length 2&&true then x6s (xnt (d+4)) [] m.next (.ptr (0,29,11) 0 0) (.ptr (0,32,12) 0 0) (args.getD 1 U) ⟨m.hp,m.next+1⟩ 0 else none
 have hi1:∀i:Nat,(i:Int)<(z:Int)*(w:Int)->i<z*w:=λi hi=>by
  rw[<-Int.natCast_mul]at hi
  omega
 obtain⟨m1,e1,hI1⟩:=x13s (d+1) (hh:=[((0,37,0),h1)]) (id:=(0,37,0)) hb hR2 rfl rfl (x:=x+p) (y:=y+q) (z:=z) (w:=w) (by omega) (by omega) (by unfold bd;omega) (by unfold bd;omega) (m0:=M0) (SI1 M0 (wA L2 S2 D2 (x+p) (y+q)) w)
  (λi m m' h hp hn=>h.hp hp hn) (λi r m hi hr hI=>step1 (d+3) hB (by have:=hi1 i hi;omega) (by rw[wA_at]at hr;exact hr) hI)
  ⟨hn0,λ_ _ _ _=>rfl,g11,nilS,[],g12,Gk.nil,rfl,λk hk=>absurd hk (Nat.not_lt_zero k)⟩
 rw[hzw]at hI1
 obtain⟨nx1,fr1,f11,v,T,f12,gkT,hT,hel⟩:=hI1
 let h2:List AV->Mem->Option Mem:=λargs m=>bif Nat.beq args.length 2&&true then x6r (xnt (d+4)) [] m.next (.ptr (0,27,9) 0 0) (.ptr (0,28,10) 0 0) (.ptr (0,32,12) 0 0) (args.getD 0 U) (args.getD 1 U) ⟨m.hp,m.next+1⟩ 0 else none
 have k9:m1.get (0,27,9)=some (.row [.sc (.complex .f64 0 0)] 0 false):=by rw[fr1 _ (by decide) (by decide) (by decide)];exact g9
 have k10:m1.get (0,28,10)=some (.row [I 0] 0 false):=by rw[fr1 _ (by decide) (by decide) (by decide)];exact g10
 have k3:m1.get (0,0,3)=some (.row [I L,I S,a,I L2,I S2,b] 0 false):=by rw[fr1 _ (by decide) (by decide) (by decide)];exact g3
 have k4:m1.get (0,1,4)=some (.row [I x,I y,I z,I w] 0 false):=by rw[fr1 _ (by decide) (by decide) (by decide)];exact g4
 obtain⟨m2,e2,hI2⟩:=x13s (d+1) (hh:=[((0,42,0),h2)]) (id:=(0,42,0)) ha hR rfl rfl (x:=x) (y:=y) (z:=z) (w:=w) (by omega) (by omega) (by unfold bd;omega) (by unfold bd;omega) (m0:=m1) (SI2 m1 (wA L S D x y) (wA L2 S2 D2 (x+p) (y+q)) w)
  (λi m m' h hp hn=>h.hp hp hn) (λi r m hi hr hI=>step2 (d+3) hA hB (by have:=hi1 i hi;omega) (by rw[wA_at]at hr;exact hr) f12 gkT (by rw[hT];exact hi1 i hi) hel hI)
  ⟨nx1,λ_ _ _=>rfl,⟨_,k9,Is.sc ⟨0,0,rfl,I_0,I_0⟩⟩,k10⟩
 rw[hzw]at hI2
 obtain⟨nx2,fr2,⟨r,j9,hr⟩,j10⟩:=hI2
 have j11:m2.get (0,29,11)=some (.row [I (scE (wA L2 S2 D2 (x+p) (y+q)) w (z*w))] 0 false):=by rw[fr2 _ (by decide) (by decide)];exact f11
 have j6:m2.get (0,3,6)=some (.row [I 0,I 0] 0 false):=by rw[fr2 _ (by decide) (by decide),fr1 _ (by decide) (by decide) (by decide)];exact g6
 have j10:m2.get (0,28,10)=some (.row [I (scE (wA L S D x y) w (z*w))] 0 false):=j10
 have fin:RetF (λa=>a=AV.tup (if scE (wA L S D x y) w (z*w)=0\/scE (wA L2 S2 D2 (x+p) (y+q)) w (z*w)=0 then[.agg [I 0,I 0],I 11]
  else[.agg [I (scN (wA L S D x y) (wA L2 S2 D2 (x+p) (y+q)) w (z*w)),I (scE (wA L S D x y) w (z*w)*scE (wA L2 S2 D2 (x+p) (y+q)) w (z*w))],I 0]))
  (x6q (xnt (d+4)) [] 0 (.ptr (0,3,6) 0 0) (.ptr (0,27,9) 0 0) (.ptr (0,28,10) 0 0) (.ptr (0,29,11) 0 0) m2 43):=by
  obtain⟨q1,q2,q3,q4,q5,q6,q7⟩:=bds
  have pw:=λm=>xzz hr (q1.mono (by decide)) (q2.mono (by decide)) (d+3) m
  have q8:scN (wA L S D x y) (wA L2 S2 D2 (x+p) (y+q)) w (z*w)=sumS (tR1 (wA L S D x y) (wA L2 S2 D2 (x+p) (y+q))) w (z*w)*sumS (tR1 (wA L S D x y) (wA L2 S2 D2 (x+p) (y+q))) w (z*w)+sumS (tI1 (wA L S D x y) (wA L2 S2 D2 (x+p) (y+q))) w (z*w)*sumS (tI1 (wA L S D x y) (wA L2 S2 D2 (x+p) (y+q))) w (z*w):=rfl
  rw[<-q8]at pw
  have o:=hr.oneZi
  have hE:scE (wA L S D x y) w (z*w)*scE (wA L2 S2 D2 (x+p) (y+q)) w (z*w) ≥ 0:=by omega
  unfold x6q
  by_cases c1:scE (wA L S D x y) w (z*w)=0
  .simp[j10,j6,c1,xrc,xrb,sLdP]
   exact RetF.tup rfl rfl
  by_cases c2:scE (wA L2 S2 D2 (x+p) (y+q)) w (z*w)=0
  .simp[j10,j11,j6,c1,c2,xrc,xrb,sLdP]
   exact RetF.tup rfl rfl
  have hblt:Nat.blt 0 m2.next=true:=x1dj nx2
  simp only[xx1,j10,j11,j9,xz8,xnz,rd_f]
  simp(disch:=omega) [j10,j11,j9,j6,c1,c2,pw,x13t,xrb,sLdP,xnx,cAp,tR,mkM,o.cl,hblt]
  exact RetF.tup rfl rfl
 unfold xgp
 simp[g3,g8,wv2]
 unfold xgo
 show RetF _ ((xnt (d+4) [((0,37,0),h1)] xz [.yld (0,37,0),.plit [I (x+p),I (y+q),I z,I w],.plit [I L2,I S2,b]] M0).bind λp=>x9n (xnt (d+4)) [] 0 (AV.ptr (0,0,3) 0 0) (AV.ptr (0,1,4) 0 0) (AV.ptr (0,3,6) 0 0) (AV.ptr (0,27,9) 0 0) (AV.ptr (0,28,10) 0 0) (AV.ptr (0,29,11) 0 0) (AV.ptr (0,32,12) 0 0) p.snd (37+1))
 rw[e1]
 unfold x9n
 simp[k3,k4,wv1]
 unfold xgm
 show RetF _ ((xnt (d+4) [((0,42,0),h2)] xz [.yld (0,42,0),.plit [I x,I y,I z,I w],.plit [I L,I S,a]] m1).bind λp=>x6q (xnt (d+4)) [] 0 (AV.ptr (0,3,6) 0 0) (AV.ptr (0,27,9) 0 0) (AV.ptr (0,28,10) 0 0) (AV.ptr (0,29,11) 0 0) p.snd (42+1))
 rw[e2]
 exact fin
end Go.Ix
