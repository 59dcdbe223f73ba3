import Derived.Test.YtongoppeakpioaaWg12
import Derived.Test.YtongoppeakpioaaWg8
set_option linter.unusedSimpArgs false
set_option linter.unusedVariables false
set_option exponentiation.threshold 3000
set_option maxRecDepth 10000
namespace Go.Ix
open Go.Proofs Ieee
def F32(x:Nat):AV:=.sc (.float .f32 x)
theorem order_s(x y:Nat):single.order x y=(fcs x).order (fcs y):=by
 unfold Format.order fcs
 cases h:single.read x with
 |nan s t=>cases single.read y<;>rfl
 |infinity s=>cases single.read y<;>rfl
 |number s m i=>
  cases h2:single.read y with
  |nan s t=>rfl
  |infinity s=>rfl
  |number t n j=>
   have h3:=x9p h
   have h4:=x9p h2
   exact xbh (by omega) (by omega)
theorem xfz{op:BinOp}{t:TypeId}{x y:Operand}(ho:isCmp op=true){u v:Nat}:binS op t x y [.float .f32 u,.float .f32 v]=.pure (.bool (cmpB op (single.order u v))):=by
 cases op
 case eql=>rfl
 case neq=>rfl
 case lss=>rfl
 case leq=>rfl
 case gtr=>rfl
 case geq=>rfl
 all_goals cases ho
theorem s_cmp32{P:Program}{op:BinOp}{t:TypeId}{X Y:Operand}(ho:isCmp op=true)(x y:Nat):sBin P op t X Y (F32 x) (F32 y)=some (B (cmpB op ((fcs x).order (fcs y)))):=by
 refine sBin_1 (v0:=.bool (cmpB op ((fcs x).order (fcs y)))) (A:=(·=.float .f32 x)) (B:=(·=.float .f32 y)) (Is.sc rfl) (Is.sc rfl) rfl ?_
 rintro _ _ rfl rfl
 rw[<-order_s,xfz ho];exact OkR.pure rfl
def x5a:Nat:=1000*2 ^ 1074
theorem fcs_0:fcs 0=.num false 0:=rfl
theorem fcs_1000:fcs 1148846080=.num false x5a:=by
 show Fc.num false (sv 16384000 (-14))=_
 have:sv 16384000 (-14)=x5a:=by decide +kernel
 rw[this]
def Fc.out:Fc->Bool
 | .num s V=>decide (sg s V<0)||decide ((x5a:Int)<sg s V)
 |_=>false
theorem cmp_lss(a b:Int):(some (compare a b) == some Ordering.lt)=decide (a<b):=by
 rcases xjn a b with h|h|h
 .rw[Int.compare_eq_lt.mpr h];simp[h]
 .rw[Int.compare_eq_eq.mpr h];simp[h]
 .rw[Int.compare_eq_gt.mpr h];simp;omega
theorem cmp_gtr(a b:Int):(some (compare a b) == some Ordering.gt)=decide (b<a):=by
 rcases xjn a b with h|h|h
 .rw[Int.compare_eq_lt.mpr h];simp;omega
 .rw[Int.compare_eq_eq.mpr h];simp[h]
 .rw[Int.compare_eq_gt.mpr h];simp[h]
theorem lss_0(s:Bool)(V:Nat):cmpB .lss ((Fc.num s V).order (.num false 0))=decide (sg s V<0):=cmp_lss _ _
theorem xec(s:Bool)(V:Nat):cmpB .gtr ((Fc.num s V).order (.num false x5a))=decide ((x5a:Int)<sg s V):=cmp_gtr _ _
theorem k1000:Is (Fa (.num false x5a)) (AV.sc (.float .f64 4652007308841189376)):=by
 refine Is.sc ⟨_,rfl,8796093022208000,-43,rfl,by omega,by omega,?_⟩
 decide +kernel
def fvl(x:Nat):Int:=match fcs x with
 | .num s V=>sg s (V / 2 ^ 1074)
 |_=>0
theorem fcs_read{x:Nat}{s:Bool}{V:Nat}(h:fcs x=.num s V):∃m e,single.read x=.number s m e/\-149<=e/\sv m e=V:=by
 unfold fcs at h
 cases hr:single.read x with
 |nan s t=>rw[hr]at h;cases h
 |infinity s=>rw[hr]at h;cases h
 |number t m e=>
  rw[hr]at h
  injection h with h1 h2
  subst h1
  exact⟨m,e,rfl,(x9p hr).2.1,h2⟩
theorem toInt_s{x:Nat}{s:Bool}{V:Nat}(h:fcs x=.num s V):(FloatKind.f32.decode x).toInt .zero=some (sg s (V / 2 ^ 1074)):=by
 obtain⟨m,e,h1,h2,h4⟩:=fcs_read h
 show(single.read x).toInt .zero=_
 rw[h1]
 unfold Datum.toInt
 rw[xbi,x9q (by omega),h4]
 show some (signed s (V / 2 ^ 1074) 0)=_
 unfold signed sg
 rw[Nat.shiftLeft_zero]
theorem sgPM(s:Bool)(V:Nat):sg s V=(V:Int)\/sg s V=-(V:Int):=by cases s<;>simp[sg]
theorem K1000_div{V:Nat}(h:V<=x5a):V / 2 ^ 1074<=1000:=Nat.div_le_of_le_mul (by rw[Nat.mul_comm];exact h)
theorem xbn{s:Bool}{V:Nat}(h:(Fc.num s V).out=false):V<=x5a/\0<=sg s V:=by
 unfold Fc.out at h
 simp only[Bool.or_eq_false_iff,decide_eq_false_iff_not,Int.not_lt]at h
 generalize x5a=K at *
 rcases sgPM s V with e|e<;>omega
theorem s_f32i{x:Nat}{s:Bool}{V:Nat}(h:fcs x=.num s V)(ho:(fcs x).out=false):sCvt Try.prog x6 x4n (F32 x)=some (I (fvl x)):=by
 rw[h]at ho
 have hb:=K1000_div (xbn ho).1
 have hv:fvl x=sg s (V / 2 ^ 1074):=by unfold fvl;rw[h]
 rw[hv]
 have ht:=toInt_s h
 generalize V / 2 ^ 1074=q at *
 refine sCvt_1 (A:=(·=.float .f32 x)) (Is.sc rfl) rfl (λu hu=>by subst hu;rfl) (λu hu=>?_)
 .subst hu
  have hn:nfS Try.prog (convert x6 x4n (.float .f32 x))=nfS Try.prog (Conv.floatToInt .f32 x .i64):=by kernel_rfl
  rw[<-x5y,hn,x5y]
  unfold Conv.floatToInt
  simp only[ht]
  have h1:IntKind.i64.min=-9223372036854775808:=rfl
  have h2:IntKind.i64.max=9223372036854775807:=rfl
  rw[h1,h2,xgh (by rcases sgPM s q with e|e<;>omega)]
  exact OkR.pure rfl
theorem x9y{s t:Bool}{V W:Nat}(h1:0<=sg s V)(h:sg s V<=sg t W):sg s (V / 2 ^ 1074)<=sg t (W / 2 ^ 1074):=by
 have hs:sg s V=(V:Int)/\sg s (V / 2 ^ 1074)=((V / 2 ^ 1074:Nat):Int):=by
  cases s
  .exact⟨by simp[sg],by simp[sg]⟩
  .have:V=0:=by simp[sg]at h1;omega
   subst this
   simp[sg]
 have ht:sg t W=(W:Int)/\sg t (W / 2 ^ 1074)=((W / 2 ^ 1074:Nat):Int):=by
  cases t
  .exact⟨by simp[sg],by simp[sg]⟩
  .have:W=0:=by have:=Int.le_trans h1 h;simp[sg]at this;omega
   subst this
   simp[sg]
 rw[hs.2,ht.2]
 rw[hs.1,ht.1]at h
 have:=Nat.div_le_div_right (c:=2 ^ 1074) (Int.ofNat_le.mp h)
 exact Int.ofNat_le.mpr this
theorem s_min32{x y:Nat}{s t:Bool}{V W:Nat}(hx:fcs x=.num s V)(hy:fcs y=.num t W)(ox:(fcs x).out=false)(oy:(fcs y).out=false)(ts:Array TypeId) :
 ∃z,(z=x\/z=y)/\x4g Try.prog .min ts x6 [F32 x,F32 y]=some (F32 z)/\fvl z=if fvl y<fvl x then fvl y else fvl x:=by
 have run:∀z,Builtin.min2 (.float .f32 x) (.float .f32 y)=pure (.float .f32 z)->x4g Try.prog .min ts x6 [F32 x,F32 y]=some (F32 z):=λz h=>by
  have h0:biS .min ts x6 [.float .f32 x,.float .f32 y]=(Builtin.min2 (.float .f32 x) (.float .f32 y) >>= λv=>pure v):=rfl
  have h2:x3w Try.prog (biS .min ts x6 [.float .f32 x,.float .f32 y])=some (.float .f32 z):=by rw[h0,h];rfl
  unfold x4g bi0
  simp only[show x45 [F32 x,F32 y]=some [.float .f32 x,.float .f32 y]from rfl,h2]
  rfl
 have ho:single.order x y=some (compare (sg s V) (sg t W)):=by rw[order_s,hx,hy];rfl
 have hvx:fvl x=sg s (V / 2 ^ 1074):=by unfold fvl;rw[hx]
 have hvy:fvl y=sg t (W / 2 ^ 1074):=by unfold fvl;rw[hy]
 rw[hx]at ox
 rw[hy]at oy
 have px:=(xbn ox).2
 have py:=(xbn oy).2
 rcases xjn (sg s V) (sg t W)with h|h|h
 .rw[Int.compare_eq_lt.mpr h]at ho
  refine⟨x,.inl rfl,run x ?_,?_⟩
  .unfold Builtin.min2;show(match single.order x y with|none=>_|some .lt=>_|some .gt=>_|some .eq=>_)=_;rw[ho]
  .have:=x9y px (Int.le_of_lt h)
   rw[xgi (by omega)]
 .rw[Int.compare_eq_eq.mpr h]at ho
  have e1:=x9y px (Int.le_of_eq h)
  have e2:=x9y py (Int.le_of_eq h.symm)
  by_cases c:(FloatKind.f32.decode x).neg=true
  .refine⟨x,.inl rfl,run x ?_,?_⟩
   .unfold Builtin.min2;show(match single.order x y with|none=>_|some .lt=>_|some .gt=>_|some .eq=>_)=_;rw[ho];simp only[c,xhg]
   .rw[xgi (by omega)]
  .refine⟨y,.inr rfl,run y ?_,?_⟩
   .unfold Builtin.min2;show(match single.order x y with|none=>_|some .lt=>_|some .gt=>_|some .eq=>_)=_;rw[ho];simp only[c];rfl
   .rw[xgi (by omega)];omega
 .rw[Int.compare_eq_gt.mpr h]at ho
  refine⟨y,.inr rfl,run y ?_,?_⟩
  .unfold Builtin.min2;show(match single.order x y with|none=>_|some .lt=>_|some .gt=>_|some .eq=>_)=_;rw[ho]
  .have:=x9y py (Int.le_of_lt h)
   split<;>omega
open Go.Proofs
def f5E(x:Nat):List AV:=[F32 x]
theorem f5L(x:Nat):(f5E x).length=1:=rfl
theorem f5S(x:Nat):(f5E x).all still1=true:=rfl
theorem u_f5:Try.prog.underlying x8=some (.slice x6):=by kernel_rfl
def fE:List Nat->Int
 |[]=>0
 |x::r=>bif(fcs x).whole then(bif(fcs x).out then 2 else fE r)else 29
theorem fE_0:∀{l:List Nat},fE l=0->∀x∈l,(fcs x).whole=true/\(fcs x).out=false
 |[],_,x,h=>by simp at h
 |y::r,h,x,hx=>by
  rw[fE]at h
  cases hw:(fcs y).whole with
  |false=>rw[hw]at h;simp at h
  |true=>
   rw[hw,cond_true]at h
   cases ho:(fcs y).out with
   |true=>rw[ho]at h;simp at h
   |false=>
    rw[ho,cond_false]at h
    rcases xh0.mp hx with rfl|hx
    .exact⟨hw,ho⟩
    .exact fE_0 h x hx
def wtE(r c:Int)(l:List Nat):Int:=if x4l r c l.length≠0 then x4l r c l.length else if 144<l.length then 8 else fE l
def mn2(v:List Int)(p:Int×Int):Int:=if at0 v p.2.toNat<at0 v p.1.toNat then at0 v p.2.toNat else at0 v p.1.toNat
def wAc(r c:Int)(v:List Int):List Int:=(sideL (acrossS c) 1 (r*c).toNat 0).map (mn2 v)
def wDn(r c:Int)(v:List Int):List Int:=(sideL (downS r c) c (r*c).toNat 0).map (mn2 v)
theorem neq_sym(c:Fc):cmpB .neq (c.tr.order c)=cmpB .neq (c.order c.tr):=by
 cases c with
 |nan=>rfl
 |inf s=>cases s<;>rfl
 |num s V=>
  show(some (compare (sg s (V / 2 ^ 1074*2 ^ 1074)) (sg s V)) != some Ordering.eq)=(some (compare (sg s V) (sg s (V / 2 ^ 1074*2 ^ 1074))) != some Ordering.eq)
  generalize sg s (V / 2 ^ 1074*2 ^ 1074)=a
  generalize sg s V=b
  rcases xjn a b with h|h|h
  .rw[Int.compare_eq_lt.mpr h,Int.compare_eq_gt.mpr h];rfl
  .rw[h]
  .rw[Int.compare_eq_gt.mpr h,Int.compare_eq_lt.mpr h];rfl
theorem l_wck(d:Nat)(hs:FHs)(u:Nat){t1 a:AV}{l:List Nat}(h:Sl f5E a l)(hl:l.length<=1000)(Q:O2->Prop)(hno:∀m e,fE l=e->e≠0->Q (some (.tup [nilS,nilS,I e],m)))(m:Mem)(hok:∀fc,fE l=0->Q (x18 (x3q (d+4)) hs u t1 m fc)) :
 ∀(suf:List Nat) (k j:Nat) (fc:Nat),l.drop k=suf->suf.length<j->fE suf=fE l ->
 Q (xu (x3q (d+4)) hs u j t1 a (I l.length) (I k) m fc):=by
 intro suf
 induction suf with
 |nil=>
  intro k j fc hd hj hE
  obtain⟨j,rfl⟩:∃i,j=i+1:=⟨j-1,by simp at hj;omega⟩
  have hk:¬((k:Int)<(l.length:Int)):=by have:=xjm.mp hd;omega
  simp only[xu]
  unfold x19
  simp only[x5n,hk,xho,x3y,x4k]
  exact hok _ hE.symm
 |cons e r ih=>
  intro k j fc hd hj hE
  obtain⟨j,rfl⟩:∃i,j=i+1:=⟨j-1,by simp at hj;omega⟩
  obtain⟨hk,he,hd1⟩:=x8s hd
  have hk':(k:Int)<(l.length:Int):=by omega
  have ix:=h.ix f5L hk
  have ld:∀m,sLd false 1 (.plit ((l.drop k).flatMap f5E)) m=some (F32 e):=λm=>by rw[x6f hk,xhr,he];rfl
  have hw:w64 ((k:Int)+1)=((k+1:Nat):Int):=by rw[x53 (by omega) (by omega)];omega
  obtain⟨x,ex,hx⟩:=s_f2f e
  obtain⟨y,ey,hy⟩:=w_Trunc hx (d+2) m
  have hn:=x6h (P:=Try.prog) (t:=x3) (x:=.tmp 39) (y:=.tmp 40) (op:=.neq) rfl hy hx
  rw[neq_sym,neq_tr]at hn
  have hinf:x3u (x3q (d+4)) xh [x,I 0] m=some (B (fcs e).isInf,m):=w_IsInf hx (d+1) m
  have ey':x3u (x3q (d+4)) xg [x] m=some (y,m):=ey
  have l0:=x6h (P:=Try.prog) (t:=x3) (x:=.tmp 47) (y:=.const (.float .f64 0)) (op:=.lss) rfl hx k0
  have g0:=x6h (P:=Try.prog) (t:=x3) (x:=.tmp 50) (y:=.const (.float .f64 4652007308841189376)) (op:=.gtr) rfl hx k1000
  have b1:(true == false&&false == false)=false:=rfl
  have b2:(false == false&&false == false)=true:=rfl
  have b3:(false == false&&true == false)=false:=rfl
  rw[fE]at hE
  have ex':sCvt Try.prog x6 x3 (F32 e)=some x:=ex
  simp only[xu]
  unfold x19
  simp only[x5n,hk',xhm,x3y,x4f,ix,ld,ex',ey',hn]
  cases c1:(fcs e).whole with
  |false=>
   rw[c1,cond_false]at hE
   have fin:=hno m 29 hE.symm (by decide)
   cases c2:(fcs e).isInf
   .simp only[b2,x7z,x9m,sW_f,xht,x6g,x3y,x6t,x58,x4f]
    exact fin
   .simp only[b1,xht,xhh,x7z,x9m,sW_f,x58,x6g,x3y,hinf,c2,x6t,x4f]
    exact fin
  |true=>
   rw[c1,cond_true]at hE
   have c2:(fcs e).isInf=false:=by
    cases hc:fcs e with
    |num s V=>rfl
    |nan=>rfl
    |inf s=>rw[hc]at c1;cases c1
   obtain⟨s,V,hc⟩:=x9x c1
   rw[hc]at l0 g0
   rw[lss_0]at l0
   rw[xec]at g0
   have hout:(fcs e).out=(decide (sg s V<0)||decide ((x5a:Int)<sg s V)):=by rw[hc];rfl
   simp only[c2,b3,xht,xhh,x7z,x9m,sGo_eq,sW_f,x58,x6g,x3y,hinf,x6t,x4k,l0]
   cases c3:decide (sg s V<0)
   .rw[c3,Bool.false_or]at hout
    simp only[xhh,x58,x3y,g0,x6g,x6t]
    cases c4:decide ((x5a:Int)<sg s V)
    .rw[hout,c4,cond_false]at hE
     simp only[x4k,x7h,hw,x3y]
     exact ih (k+1) j _ hd1 (by simp at hj;omega) hE
    .rw[hout,c4,cond_true]at hE
     simp only[x4f]
     exact hno m 2 hE.symm (by decide)
   .rw[c3,xjh]at hout
    rw[hout,cond_true]at hE
    simp only[xht,x6g,x58,x3y,x6t,x4f]
    exact hno m 2 hE.symm (by decide)
def okW(id:Id):Prop:=id.2.2=77
structure WI (r c:Int) (a:AV) (f9:Nat) (l:List Nat) (k:Nat) (m:Mem):Prop where
 s:m.get (0,0,1)=some (.row [I r,I c,a] 0 false)
 o:∃v,m.get (0,f9,9)=some (.row [v] 0 false)/\Gk 1 intE okW m v (((sidesM r c).take k).map (mn2 (l.map fvl)))
theorem z_2i:xt=[I 0,I 0]:=by kernel_rfl
theorem x9z{R:Type}{x:Int}{id:Id}{m:Mem}{k:AV->Mem->Option R}:x52 x84 [(0,1,I x)] 1 1 id m k=k (.slit [I x] 1 true) m:=by
 rw[show x84=[I 0] by kernel_rfl]
 rfl
theorem el_i5(M:Mem)(x:Int):elems M.get 1 (.slit [I x] 1 true)=some (intE x,1):=rfl
theorem at0_fvl{l:List Nat}{k:Nat}(h:k<l.length):at0 (l.map fvl) k=fvl l[k]:=by
 rw[x80 (by simpa using h),List.getElem_map]
theorem st_1w{m:Mem}{id:Id}{w v:AV}(hg:m.get id=some (.row [w] 0 false))(hv:v.one=true/\v.cells=[v]):∀{R:Type} (K:Mem->Option R),sSt 1 (.ptr id 0 0) v m K=K (m.set id (.row [v] 0 false)):=λK=>by
 rw[st_ptr (off:=0) (z:=1) (x:=v) (k:=K) hg (by rw[hv.2];rfl) (by simp) (by rw[hv.2];simp[hv.1]),hv.2]
 rfl
theorem w_wstep(call:x3p)(hs:FHs){r c:Int}{a:AV}{f9:Nat}{l:List Nat}(h:Sl f5E a l)(hl:l.length<=1000)(hE:fE l=0){k:Nat}{p:Int×Int}{m:Mem}(hk:(sidesM r c)[k]?=some p)(hlen:(sidesM r c).length<=10000)(hp:0<=p.1/\p.1<l.length/\0<=p.2/\p.2<l.length)(hI:WI r c a f9 l k m) :
 ∃m',x10 call hs m.next (.ptr (0,0,1) 0 0) (.ptr (0,f9,9) 0 0) (.agg [I p.1,I p.2]) ⟨m.hp,m.next+1⟩ 0=some m'/\WI r c a f9 l (k+1) m':=by
 obtain⟨g1,v,g2,G⟩:=hI
 obtain⟨hk1,hk2⟩:=xgx.mp hk
 obtain⟨m1,hm1⟩:∃m1:Mem,m1=⟨m.hp,m.next+1⟩:=⟨_,rfl⟩
 have hmg:∀j,m1.get j=m.get j:=λj=>by rw[hm1];rfl
 obtain⟨M,hM⟩:∃M:Mem,M=(m1.new (m.next,0,11) (.row [I 0,I 0] 0 false)).set (m.next,0,11) (.row [I p.1,I p.2] 0 false):=⟨_,rfl⟩
 have hMg:∀j:Id,j≠(m.next,0,11)->M.get j=m.get j:=λj hj=>by rw[hM,Mem.get_set_ne hj,Mem.get_new_ne hj];exact hmg j
 have g3:M.get (m.next,0,11)=some (.row [I p.1,I p.2] 0 false):=by rw[hM,Mem.get_set_same]
 have g1':M.get (0,0,1)=some (.row [I r,I c,a] 0 false):=by rw[hMg _ (by simp)];exact g1
 have g2':M.get (0,f9,9)=some (.row [v] 0 false):=by rw[hMg _ (by simp)];exact g2
 have GM:Gk 1 intE okW M v (((sidesM r c).take k).map (mn2 (l.map fvl))):=G.frame λj hj=>hMg j (by rintro rfl;simp[okW]at hj)
 have S0:∀{R:Type} (K:Mem->Option R),sSt 2 (.ptr (m.next,0,11) 0 0) (.agg [I p.1,I p.2]) (m1.new (m.next,0,11) (.row [I 0,I 0] 0 false)) K=K M:=λK=>by
  rw[st_ptr (cs:=[I 0,I 0]) (off:=0) (z:=2) (x:=.agg [I p.1,I p.2]) (k:=K) (by rw[Mem.get_new_same]) rfl (by simp) rfl,hM]
  rfl
 obtain⟨p1,q1,x1,y1⟩:=hp
 obtain⟨i,hi⟩:∃i:Nat,p.1=i:=⟨p.1.toNat,by omega⟩
 obtain⟨j,hj⟩:∃i:Nat,p.2=i:=⟨p.2.toNat,by omega⟩
 have hi':i<l.length:=by omega
 have hj':j<l.length:=by omega
 have ixi:=h.ix f5L hi'
 have ixj:=h.ix f5L hj'
 have ldi:∀m,sLd false 1 (.plit ((l.drop i).flatMap f5E)) m=some (F32 l[i]):=λm=>by rw[x6f hi',xhr];rfl
 have ldj:∀m,sLd false 1 (.plit ((l.drop j).flatMap f5E)) m=some (F32 l[j]):=λm=>by rw[x6f hj',xhr];rfl
 obtain⟨wi_,oi⟩:=fE_0 hE _ (xi6 hi')
 obtain⟨wj_,oj⟩:=fE_0 hE _ (xi6 hj')
 obtain⟨si,Vi,ci⟩:=x9x wi_
 obtain⟨sj,Vj,cj⟩:=x9x wj_
 obtain⟨z,hz,hmin,hzv⟩:=s_min32 ci cj oi oj #[x6,x6]
 have hcv:sCvt Try.prog x6 x4n (F32 z)=some (I (fvl z)):=by
  rcases hz with rfl|rfl
  .exact s_f32i ci oi
  .exact s_f32i cj oj
 have hmn:mn2 (l.map fvl) p=fvl z:=by
  unfold mn2
  rw[hi,hj,xk2,xk2,at0_fvl hi',at0_fvl hj',hzv]
 obtain⟨v',m2,A,G2,c1,c2,n2,f2⟩:=GM.app (bytes:=8) (id0:=(m.next,0+2+16,77)) x7j (by omega) (show(77:Nat)=77 from rfl) (by unfold x3x;simp;omega) (fvl z)
 have g4:m2.get (0,f9,9)=some (.row [v] 0 false):=by rw[f2 _ (by simp[okW])];exact g2'
 have g5:m2.get (0,0,1)=some (.row [I r,I c,a] 0 false):=by rw[f2 _ (by simp[okW])];exact g1'
 have S1:∀{R:Type} (K:Mem->Option R),sSt 1 (.ptr (0,f9,9) 0 0) v' m2 K=K (m2.set (0,f9,9) (.row [v'] 0 false)):=st_1w g4 ⟨c2,c1⟩
 have hap:(x64 (tR (.ptr (0,f9,9) 0 0)) (some [],some [(m.next,0+2+15,76)])&&true)=true:=by simp[x64,tR,disj]
 have e1:sLd false 1 (.ptr (0,f9,9) 0 0) M=some v:=by rw[x4c g2'];rfl
 have e2:sFA 2 (.ptr (0,0,1) 0 0)=some (.ptr (0,0,1) 0 2):=rfl
 have e3:sLd false 1 (.ptr (0,0,1) 0 2) M=some a:=by rw[x4c g1'];rfl
 have e4:sIxA 2 1 (.ptr (m.next,0,11) 0 0) (I 0)=some (.ptr (m.next,0,11) 0 0):=rfl
 have e5:sIxA 2 1 (.ptr (m.next,0,11) 0 0) (I 1)=some (.ptr (m.next,0,11) 0 1):=rfl
 have e6:sLd false 1 (.ptr (m.next,0,11) 0 0) M=some (I i):=by rw[x4c g3,hi];rfl
 have e7:sLd false 1 (.ptr (m.next,0,11) 0 1) M=some (I j):=by rw[x4c g3,hj];rfl
 refine⟨m2.set (0,f9,9) (.row [v'] 0 false),?_,⟨by rw[Mem.get_set_ne (by simp)];exact g5,v',by rw[Mem.get_set_same],?_⟩⟩
 .unfold x10 x2c
  rw[<-hm1]
  simp only[xbb,z_2i,S0,e1,e2,e3,e4,e5,e6,e7,x3y,ixi,ldi,ixj,ldj,hmin,hcv,x9z,el_i5,A,S1,hap,x58]
 .rw[xk5 hk1,xj0,hk2,xgu,xh2,hmn]
  exact G2.frame λj hj=>Mem.get_set_ne (by rintro rfl;simp[okW]at hj)
end Go.Ix
