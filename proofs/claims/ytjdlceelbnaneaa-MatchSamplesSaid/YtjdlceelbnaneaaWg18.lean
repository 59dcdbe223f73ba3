import Derived.Test.YtjdlceelbnaneaaWg17
set_option linter.unusedSimpArgs false
set_option linter.unusedVariables false
set_option exponentiation.threshold 3000
namespace Go.Ix
open Go.Proofs Ieee
def rnd(n b:Int):Int:=
 if(if(2*n+b) / (2*b)<2047 then(2*n+b) / (2*b)else 2047) > -2047 then(if(2*n+b) / (2*b)<2047 then(2*n+b) / (2*b)else 2047)else -2047
theorem rnd_bd(n b:Int):bd (rnd n b) 2047:=by
 unfold rnd bd
 generalize (2*n+b) / (2*b)=q
 split<;>split<;>omega
def smpX(L S:Int)(D:List Px)(k y x:Int):Int:=x8o (λl s=>(atM L S D l s).1) (x / 16-kA k) (kwM k (x % 16)) (y / 16-kA k) (kwM k (y % 16))
def smpY(L S:Int)(D:List Px)(k y x:Int):Int:=x8o (λl s=>(atM L S D l s).2) (x / 16-kA k) (kwM k (x % 16)) (y / 16-kA k) (kwM k (y % 16))
def smpM(L S:Int)(D:List Px)(k y x:Int):Int×Int:=(rnd (smpX L S D k y x) (kS k*kS k),rnd (smpY L S D k y x) (kS k*kS k))
def f32w(n:Int):Nat:=FloatKind.f32.nearest n
abbrev sPX(p:Int×Int):AV:=C32 (f32w p.1) (f32w p.2)
theorem kS_bd{k:Int}(hk:wi k 0 2=true):1<=kS k/\kS k<=8192/\1<=kS k*kS k/\kS k*kS k<=67108864/\0<=kA k/\kA k<=1:=by
 have:=wi_t hk
 have:k=0\/k=1\/k=2:=by omega
 rcases this with rfl|rfl|rfl<;>decide
theorem w_cut{r:AV}{n b:Int}(hr:Is (Fi n) r)(hn:bd n 2000000000000000)(h1:1<=b)(h2:b<=67108864)(d:Nat)(m:Mem):x7p (x7o (d+3)) xr [r,I b] m=some (.sc (.float .f32 (f32w (rnd n b))),m):=by
 refine x81 (by simp[hr.oneFi.st]) ?_ m
 have e:=w_nearest d (x:=n) (y:=b) (by omega) (by omega) (hn.mono (by decide))
 rw[x65]
 unfold x4c x3a
 simp[mem0,s_fi hr (hn.mono (by decide)),e,s_if32]
 exact RetF.st rfl rfl
theorem z_kern:x55=[nilS,I 0,I 0]:=by kernel_rfl
variable{a:AV}{D:List Px}{L S:Int}
theorem smp_bd(hR:RtI L S D){k y x:Int}(hk:wi k 0 2=true):bd (smpX L S D k y x) 2000000000000000/\bd (smpY L S D k y x) 2000000000000000:=by
 have hx:0<=x % 16/\x % 16<=15:=by omega
 have hy:0<=y % 16/\y % 16<=15:=by omega
 obtain⟨k1,k2⟩:=xbs hk hx
 obtain⟨k3,k4⟩:=xbs hk hy
 have b1:=xfe (f:=λl s=>(atM L S D l s).1) (s:=x / 16-kA k) (λl s=>(xa1 hR l s).1) k1 k2 (kwM k (y % 16)) (y / 16-kA k) k3
 have b2:=xfe (f:=λl s=>(atM L S D l s).2) (s:=x / 16-kA k) (λl s=>(xa1 hR l s).2) k1 k2 (kwM k (y % 16)) (y / 16-kA k) k3
 unfold smpX smpY
 unfold bd at *
 constructor<;>omega
theorem w_sample(d:Nat)(ha:Sl pxE a D)(hR:RtI L S D){k y x:Int}(hk:wi k 0 2=true)(hy:bd y 4000000000000000000)(hx:bd x 4000000000000000000)(m:Mem) :
 x7p (x7o (d+4)) x18 [.agg [I L,I S,a],I k,.agg [I y,I x]] m=some (sPX (smpM L S D k y x),m):=by
 refine x81 (by simp[ha.still1]) ?_ m
 have hx2:0<=x % 16/\x % 16<=15:=by omega
 have hy2:0<=y % 16/\y % 16<=15:=by omega
 obtain⟨k1,k2⟩:=xbs hk hx2
 obtain⟨k3,k4⟩:=xbs hk hy2
 obtain⟨s1,s2,s3,s4,s5,s6⟩:=kS_bd hk
 have f1:=xf7 (d+2) (x:=y) (y:=16) (by decide) (hy.mono (by decide))
 have f2:=xf7 (d+2) (x:=x) (y:=16) (by decide) (hx.mono (by decide))
 have q1:y-y / 16*16=y % 16:=by omega
 have q2:x-x / 16*16=x % 16:=by omega
 unfold bd at hx hy
 rw[x5z]
 unfold x46 x33
 have kv:=λm=>xi3 hk hy2 (d+2) m
 have kw:=λm=>xi3 hk hx2 (d+2) m
 simp(disch:=omega) [mem0,ha.one,sIxA,asI,f1,f2,q1,q2,x86,cAp,tR,mkM,show Nat.blt 0 1=true from rfl,kv,kw,z_kern,x8j,disj]
 obtain⟨M,hM⟩:∃M:Mem,((((((⟨[],1⟩:Mem).new (0,0,3) (Ob.row [I L,I S,a] 0 false)).new (0,1,5) (Ob.row [I y,I x] 0 false)).new (0,25,9) (Ob.row [nilS,I 0,I 0] 0 false)).new (0,26,10) (Ob.row [nilS,I 0,I 0] 0 false)).set (0,25,9) (Ob.row [slI (kwM k (y % 16)),I (kA k),I (kS k)] 0 false)).set (0,26,10) (Ob.row [slI (kwM k (x % 16)),I (kA k),I (kS k)] 0 false)=M:=⟨_,rfl⟩
 rw[hM]
 have g3:M.get (0,0,3)=some (.row [I L,I S,a] 0 false):=by rw[<-hM];simp
 have g9:M.get (0,25,9)=some (.row [slI (kwM k (y % 16)),I (kA k),I (kS k)] 0 false):=by rw[<-hM];simp
 have g10:M.get (0,26,10)=some (.row [slI (kwM k (x % 16)),I (kA k),I (kS k)] 0 false):=by rw[<-hM];simp
 obtain⟨b1,b2⟩:=smp_bd (y:=y) (x:=x) hR hk
 obtain⟨r,fc',e,hr⟩:=l_smp0 (d+1) [] 0 ha hR (kwM k (y % 16)) (kwM k (x % 16)) k3 k4 k1 k2 (y / 16) (x / 16) (kA k) (kA k) (kS k) (by unfold bd;omega) (by unfold bd;omega) ⟨s5,s6⟩ ⟨s5,s6⟩ M g3 g9 g10
  (kwM k (y % 16)) 0 NN (.sc (.complex .f64 0 0)) 0 0 34 rfl (by rw[xab];omega) (Is.sc ⟨0,0,rfl,I_0,I_0⟩) (by unfold bd;omega) (by unfold bd;omega)
 rw[xnp,xnp,show y / 16+((0:Nat):Int)-kA k=y / 16-kA k by omega]at hr
 have hr:Is (Fzi (smpX L S D k y x) (smpY L S D k y x)) r:=hr
 unfold x54
 simp[g9,(x9r (kwM k (y % 16))).len xb9]
 rw[show(0:Int)=((0:Nat):Int)from rfl,e]
 obtain⟨rr,er,hrr⟩:=s_zreal (t:=x3) (ts:=#[x6]) hr
 obtain⟨ri,ei,hri⟩:=s_zimag (t:=x3) (ts:=#[x6]) hr
 have c1:=λm=>w_cut hrr b1 s3 s4 d m
 have c2:=λm=>w_cut hri b2 s3 s4 d m
 unfold x2z
 simp(disch:=omega) [g9,g10,x86,er,ei,c1,c2,cplx32]
 exact RetF.st rfl rfl
section
variable(d:Nat)(hs:FHs)(u:Nat)(ha:Sl pxE a D)(hR:RtI L S D)
include ha hR
theorem l_rsm1(rec0:xa3)(V W:List Int)(hW:∀w∈W,bd w 8192)(h4:W.length<=4)(ln sm v:Int)(i:Nat)(hi:i<V.length)(hvi:V[i]=v)(hv:bd v 8192)(hln:bd ln 1000000000000000000)(hsm:bd sm 1000000000000000000)(hi4:V.length<=4){t11 t13:AV}(m:Mem)(g3:m.get (u,0,3)=some (.row [I L,I S,a] 0 false)) :
 ∀(suf:List Int) (k j:Nat) (A B:Int) (fc:Nat),W.drop k=suf->suf.length<j->bd A (3000000000000000-suf.length*137371844608)->bd B (3000000000000000-suf.length*137371844608) ->
 ∃fc',x1n (x7o (d+3)) hs u rec0 j (.ptr (u,0,3) 0 0) (I ln) (I sm) (slI V) t11 (slI W) t13 (I A) (I B) (I i) (I k) m fc
  = x2o (x7o (d+3)) hs u rec0 (.ptr (u,0,3) 0 0) (I ln) (I sm) (slI V) t11 (slI W) t13 (I (A+rowS v (λs=>(atM L S D (ln+i) s).1) (sm+k) suf)) (I (B+rowS v (λs=>(atM L S D (ln+i) s).2) (sm+k) suf)) (I i) m fc':=by
 intro suf
 have ixV:=(x9r V).ix (z:=1) (λ_=>rfl) hi
 rw[x8n hi,xlo,hvi]at ixV
 induction suf with
 |nil=>
  intro k j A B fc hd hj hA hB
  obtain⟨j,rfl⟩:∃i,j=i+1:=⟨j-1,by simp at hj;omega⟩
  have hk:¬((k:Int)<(W.length:Int)):=by have:=xmj.mp hd;omega
  refine⟨fc+4,?_⟩
  simp only[x1n]
  conv=>lhs;unfold x2p
  rw[(x9r W).len xb9]
  simp[hk,rowS]
 |cons w suf ih=>
  intro k j A B fc hd hj hA hB
  obtain⟨j,rfl⟩:∃i,j=i+1:=⟨j-1,by simp at hj;omega⟩
  obtain⟨hk,he,hd⟩:=xb4 hd
  have hk':(k:Int)<(W.length:Int):=by omega
  have ix:=(x9r W).ix (z:=1) (λ_=>rfl) hk
  rw[x8n hk,xlo,he]at ix
  have hw:bd w 8192:=hW w (he▸xln hk)
  have hat:=xa1 hR (ln+i) (sm+k)
  have ez:=λm=>w_rAt d ha hR (ln+i) (sm+k) m
  have hv1:=vw_bd hv hw hat.1
  have hv2:=vw_bd hv hw hat.2
  have hvw:v*w<=67108864/\-67108864<=v*w:=⟨hv1.1.2,hv1.1.1⟩
  generalize hP:(atM L S D (ln+i) (sm+k)).1=P at *
  generalize hQ:(atM L S D (ln+i) (sm+k)).2=Q at *
  have q1:=hv1.2
  have q2:=hv2.2
  unfold bd at hln hsm q1 q2 hA hB
  simp only[xl6,xn2]at hA hB
  have hkl:k<=4:=by omega
  obtain⟨fc',e⟩:=ih (k+1) j (A+v*w*P) (B+v*w*Q) (fc+48) hd (by simp at hj;omega) (by unfold bd;omega) (by unfold bd;omega)
  refine⟨fc',?_⟩
  unfold rowS
  rw[hP,hQ]
  have e1:sm+((k+1:Nat):Int)=sm+k+1:=by omega
  rw[e1]at e
  rw[<-xmk,<-xmk,<-e]
  simp only[x1n]
  conv=>lhs;unfold x2p
  rw[(x9r W).len xb9]
  simp(disch:=omega) [hk',ix,ixV,intE,x86,g3,ez]
  simp only[xmd,x8g]
  simp(disch:=omega) [x86]
theorem l_rsm0(V W:List Int)(hV:∀w∈V,bd w 8192)(hV4:V.length<=4)(hW:∀w∈W,bd w 8192)(h4:W.length<=4)(ln sm:Int)(hln:bd ln 1000000000000000000)(hsm:bd sm 1000000000000000000){t11 t13:AV}(m:Mem)(g3:m.get (u,0,3)=some (.row [I L,I S,a] 0 false)) :
 ∀(suf:List Int) (i j:Nat) (A B:Int) (fc:Nat),V.drop i=suf->suf.length<j->bd A (2000000000000000-suf.length*549487378432)->bd B (2000000000000000-suf.length*549487378432) ->
 ∃fc',xy (x7o (d+3)) hs u j (.ptr (u,0,3) 0 0) (I ln) (I sm) (slI V) t11 (slI W) t13 (I A) (I B) (I i) m fc
  = x2n (x7o (d+3)) hs u t11 t13 (I (A+x8o (λl s=>(atM L S D l s).1) sm W (ln+i) suf)) (I (B+x8o (λl s=>(atM L S D l s).2) sm W (ln+i) suf)) m fc':=by
 intro suf
 induction suf with
 |nil=>
  intro i j A B fc hd hj hA hB
  obtain⟨j,rfl⟩:∃i,j=i+1:=⟨j-1,by simp at hj;omega⟩
  have hk:¬((i:Int)<(V.length:Int)):=by have:=xmj.mp hd;omega
  refine⟨fc+4,?_⟩
  simp only[xy]
  conv=>lhs;unfold x2q
  rw[(x9r V).len xb9]
  simp[hk,x8o]
 |cons v suf ih=>
  intro i j A B fc hd hj hA hB
  obtain⟨j,rfl⟩:∃i,j=i+1:=⟨j-1,by simp at hj;omega⟩
  obtain⟨hk,he,hd⟩:=xb4 hd
  have hk':(i:Int)<(V.length:Int):=by omega
  have hv:bd v 8192:=hV v (he▸xln hk)
  have b1:=xbt (f:=λs=>(atM L S D (ln+i) s).1) hv (λs=>(xa1 hR _ s).1) W sm hW
  have b2:=xbt (f:=λs=>(atM L S D (ln+i) s).2) hv (λs=>(xa1 hR _ s).2) W sm hW
  unfold bd at hA hB b1 b2
  simp only[xl6,xn2]at hA hB
  obtain⟨fc1,e1⟩:=l_rsm1 d hs u ha hR (xy (x7o (d+3)) hs u j) V W hW h4 ln sm v i hk he hv hln hsm hV4 (t11:=t11) (t13:=t13) m g3 W 0 NN A B (fc+4+1) rfl (by rw[xab];omega) (by unfold bd;omega) (by unfold bd;omega)
  rw[show sm+((0:Nat):Int)=sm by omega]at e1
  obtain⟨fc',e⟩:=ih (i+1) j _ _ (fc1+3) hd (by simp at hj;omega) (show bd (A+rowS v (λs=>(atM L S D (ln+i) s).1) sm W) _ by unfold bd;omega) (show bd (B+rowS v (λs=>(atM L S D (ln+i) s).2) sm W) _ by unfold bd;omega)
  refine⟨fc',?_⟩
  unfold x8o
  have e2:ln+((i+1:Nat):Int)=ln+i+1:=by omega
  rw[e2]at e
  rw[<-xmk,<-xmk,<-e]
  simp only[xy]
  conv=>lhs;unfold x2q x4x
  rw[(x9r V).len xb9]
  simp only[xaa,hk',decide_true,x8g,xap]
  rw[show(0:Int)=((0:Nat):Int)from rfl,e1]
  unfold x2o
  simp(disch:=omega) [x86]
end
theorem w_round(d:Nat){n b:Int}(hn:bd n 2000000000000000)(h1:1<=b)(h2:b<=67108864)(m:Mem):x7p (x7o (d+2)) xq [I n,I b] m=some (I (rnd n b),m):=by
 have f:=xch d (x:=2*n+b) (y:=2*b) (by omega) (by unfold bd at *;omega)
 refine x81 rfl ?_ m
 unfold bd at hn
 rw[x61]
 unfold x48 x36
 simp(disch:=omega) [mem0,x86,f]
 exact RetF.st rfl rfl
theorem xjr(d:Nat)(ha:Sl pxE a D)(hR:RtI L S D){k y x:Int}(hk:wi k 0 2=true)(hy:bd y 4000000000000000000)(hx:bd x 4000000000000000000)(m:Mem) :
 x7p (x7o (d+4)) x13 [.agg [I L,I S,a],I k,.agg [I y,I x]] m=some (.tup [I (smpM L S D k y x).1,I (smpM L S D k y x).2],m):=by
 refine x81 (by simp[ha.still1]) ?_ m
 have hx2:0<=x % 16/\x % 16<=15:=by omega
 have hy2:0<=y % 16/\y % 16<=15:=by omega
 obtain⟨k1,k2⟩:=xbs hk hx2
 obtain⟨k3,k4⟩:=xbs hk hy2
 obtain⟨s1,s2,s3,s4,s5,s6⟩:=kS_bd hk
 have f1:=xch (d+2) (x:=y) (y:=16) (by decide) (hy.mono (by decide))
 have f2:=xch (d+2) (x:=x) (y:=16) (by decide) (hx.mono (by decide))
 have mo:=λx m=>w_Mod (d+2) (x:=x) (y:=16) (by decide) (by decide) m
 unfold bd at hx hy
 have kv:=λm=>xi4 hk hy2 (d+2) m
 have kw:=λm=>xi4 hk hx2 (d+2) m
 obtain⟨b1,b2⟩:=smp_bd (y:=y) (x:=x) hR hk
 have c1:=λm=>w_round (d+1) b1 s3 s4 m
 have c2:=λm=>w_round (d+1) b2 s3 s4 m
 have hlen:(kwM k (y % 16)).length=4/\kA k=1\/¬(kwM k (y % 16)).length=4/\kA k=0:=by
  unfold kwM kA
  have:=wi_t hk
  have:k=0\/k=1\/k=2:=by omega
  rcases this with rfl|rfl|rfl
  .right;exact⟨by simp,rfl⟩
  .right;exact⟨by simp,rfl⟩
  .left;exact⟨by simp,rfl⟩
 rw[x5r]
 unfold x3y x2r
 simp(disch:=omega) [mem0,ha.one,sIxA,asI,f1,f2,mo,x86,cAp,tR,mkM,show Nat.blt 0 1=true from rfl,kv,kw,x8j,disj]
 obtain⟨M,hM⟩:∃M:Mem,(((⟨[],1⟩:Mem).new (0,0,3) (Ob.row [I L,I S,a] 0 false)).new (0,1,5) (Ob.row [I y,I x] 0 false))=M:=⟨_,rfl⟩
 rw[hM]
 have g3:M.get (0,0,3)=some (.row [I L,I S,a] 0 false):=by rw[<-hM];simp
 unfold x4z
 simp only[xmd,x8g]
 rw[(x9r (kwM k (y % 16))).len xb9]
 have fin:∀fc,RetF (λr=>r=.tup [I (smpM L S D k y x).1,I (smpM L S D k y x).2]) (x1x (x7o (d+3)) [] 0 (.ptr (0,0,3) 0 0) (I (y / 16-kA k)) (I (x / 16-kA k)) (slI (kwM k (y % 16))) (I (kS k)) (slI (kwM k (x % 16))) (I (kS k)) M fc):=by
  intro fc
  obtain⟨fc',e⟩:=l_rsm0 d [] 0 ha hR (kwM k (y % 16)) (kwM k (x % 16)) k3 k4 k1 k2 (y / 16-kA k) (x / 16-kA k) (by unfold bd;omega) (by unfold bd;omega) (t11:=I (kS k)) (t13:=I (kS k)) M g3
   (kwM k (y % 16)) 0 NN 0 0 (fc+2+1) rfl (by rw[xab];omega) (by unfold bd;omega) (by unfold bd;omega)
  unfold x1x x4y
  rw[show(I 0:AV)=I ((0:Nat):Int)from rfl]
  rw[show(I ((0:Nat):Int):AV)=I 0 from rfl]at e ⊢
  rw[e]
  unfold x2n
  rw[xnp,xnp,show y / 16-kA k+((0:Nat):Int)=y / 16-kA k by omega]
  have c1':=c1 M
  have c2':=c2 M
  unfold smpX at c1'
  unfold smpY at c2'
  simp(disch:=omega) [x86,c1',c2']
  exact RetF.tup rfl rfl
 rcases hlen with ⟨h1,h2⟩|⟨h1,h2⟩
 .rw[h2]at fin
  have h1':(((kwM k (y % 16)).length:Nat):Int)=4:=by omega
  simp(disch:=omega) [h1',x86]
  exact fin _
 .rw[h2,Int.sub_zero,Int.sub_zero]at fin
  have h1':¬(((kwM k (y % 16)).length:Nat):Int)=4:=by omega
  simp[h1']
  exact fin _
theorem xi5(d:Nat){x y:Int}(hx:bd x 2047)(hy:bd y 2047)(m:Mem):x7p (x7o (d+1)) xo [I x,I y] m=some (sPX (x,y),m):=by
 unfold bd at hx hy
 refine x81 rfl ?_ m
 rw[x5s]
 unfold x3z x2s
 have h1:¬(10000:Int)<x:=by omega
 have h2:¬(10000:Int)<y:=by omega
 have e1:(if x<10000 then x else 10000)=x:=xkv (by omega)
 have e2:(if y<10000 then y else 10000)=y:=xkv (by omega)
 have e3:(if x > -10000 then x else -10000)=x:=xkv (by omega)
 have e4:(if y > -10000 then y else -10000)=y:=xkv (by omega)
 simp only[mem0,sMin_I,sMax_I,x8g,e1,e2,e3,e4,s_if32,cplx32]
 exact RetF.st rfl rfl
theorem xff(d:Nat)(x:Nat)(m:Mem):x7p (x7o (d+1)) x1k [.sc (.float .f32 x)] m=some (.sc (.int .u32 x),m):=by
 have h:((x7o (d+1) [] x1k [.sc (.float .f32 x)] mem0).bind λq=>Go.Ix.frz q.2.get deep q.1)=some (.sc (.int .u32 x)):=by kernel_rfl
 exact x81 rfl (retF_e h) m
theorem xfg(X Y:Operand)(x y:Nat):sBin Try.prog .neq xb X Y (.sc (.int .u32 x)) (.sc (.int .u32 y))=some (B (!decide (x=y))):=by
 have h:x7t Try.prog (do eqGuard .neq xb X Y (.int .u32 x) (.int .u32 y);binOp .neq xb (.int .u32 x) (.int .u32 y))=some (.bool (!decide ((x:Int)=y))):=by
  rw[pr_bind]
  have hg:x7t Try.prog (eqGuard .neq xb X Y (.int .u32 x) (.int .u32 y))=some ():=rfl
  rw[hg]
  have h2:binOp .neq xb (.int .u32 x) (.int .u32 y)=.pure (.bool ((x:Int) != y)):=rfl
  show x7t Try.prog (binOp .neq xb (.int .u32 x) (.int .u32 y))=_
  rw[h2]
  show some (Value.bool ((x:Int) != y))=_
  congr 2
 refine sBin_0 ?_
 show(x7t Try.prog (do eqGuard .neq xb X Y (.int .u32 x) (.int .u32 y);binOp .neq xb (.int .u32 x) (.int .u32 y))).map x87=_
 rw[h]
 show some (B (!decide ((x:Int)=y)))=_
 by_cases c:x=y
 .subst c;simp
 .have:¬(x:Int)=y:=by omega
  simp[c,this]
variable{a b:AV}{A B':List Px}
theorem l_Same(d:Nat)(hs:FHs)(u:Nat)(ha:Sl pxE a A)(hb:Sl pxE b B')(hl:A.length=B'.length)(hl2:A.length<=100000):∀(suf suf2:List Px) (k j:Nat) (m:Mem) (fc:Nat),A.drop k=suf->B'.drop k=suf2->suf.length<j ->
 x1l (x7o (d+1)) hs u j a b (I k) m fc=some (B (decide (suf=suf2)),m):=by
 intro suf
 induction suf with
 |nil=>
  intro suf2 k j m fc hd hd2 hj
  obtain⟨j,rfl⟩:∃i,j=i+1:=⟨j-1,by simp at hj;omega⟩
  have hk0:=xmj.mp hd
  have hk:¬((k:Int)<(A.length:Int)):=by omega
  have:suf2=[]:=by rw[<-hd2];exact xmj.mpr (by omega)
  subst this
  simp only[x1l]
  unfold x2l
  simp[ha.len x9i,hk,x4v]
 |cons p suf ih=>
  intro suf2 k j m fc hd hd2 hj
  obtain⟨j,rfl⟩:∃i,j=i+1:=⟨j-1,by simp at hj;omega⟩
  obtain⟨hk,he,hd⟩:=xb4 hd
  have hk':(k:Int)<(A.length:Int):=by omega
  have hkB:k<B'.length:=by omega
  rw[x8n hkB]at hd2
  subst hd2
  generalize hq:B'[k]=q
  have ix:=ha.ix pxL hk
  rw[x8n hk,xlo,he]at ix
  have ix2:=hb.ix pxL hkB
  rw[x8n hkB,xlo,hq]at ix2
  have h':=ih (B'.drop (k+1)) (k+1) j m (fc+35) hd rfl (by simp at hj;omega)
  have hcons:decide (p::suf=q::B'.drop (k+1))=(decide (p.1=q.1)&&(decide (p.2=q.2)&&decide (suf=B'.drop (k+1)))):=by
   rw[<-Bool.decide_and,<-Bool.decide_and]
   congr 1
   rw[xni,Prod.ext_iff,and_assoc]
  rw[hcons]
  simp only[x1l]
  unfold x2l
  simp only[ha.len x9i,xaa,hk',decide_true,x8g,xap,ix,ix2,pxE]
  by_cases c1:p.1=q.1
  rotate_left
  .simp(disch:=omega) [xck,xff,xfg,c1,cAp,tR,mkM,show Nat.blt 0 1=true from rfl]
  by_cases c2:p.2=q.2
  rotate_left
  .simp(disch:=omega) [xck,xdo,xff,xfg,c1,c2,cAp,tR,mkM,show Nat.blt 0 1=true from rfl,ix,ix2,pxE]
  .simp(disch:=omega) [xck,xdo,xff,xfg,c1,c2,cAp,tR,mkM,show Nat.blt 0 1=true from rfl,ix,ix2,pxE,x86]
   exact h'
theorem w_Same(d:Nat)(ha:Sl pxE a A)(hb:Sl pxE b B')(hl2:A.length<=100000)(m:Mem):x7p (x7o (d+2)) xh [a,b] m=some (B (decide (A=B')),m):=by
 refine x81 (by simp[ha.still,hb.still]) ?_ m
 rw[x5q]
 unfold x3x x2m
 by_cases c:A.length=B'.length
 .have h':=l_Same d [] 0 ha hb c hl2 A B' 0 NN ⟨[],1⟩ 7 rfl rfl (by rw[xab];omega)
  have c':(A.length:Int)=B'.length:=by omega
  simp[mem0,ha.len x9i,hb.len x9i,c',x4w]
  rw[show(0:Int)=((0:Nat):Int)from rfl,h']
  exact RetF.st rfl rfl
 .have c':¬(A.length:Int)=B'.length:=by omega
  have hne:¬A=B':=λe=>c (by rw[e])
  simp[mem0,ha.len x9i,hb.len x9i,c',hne]
  exact RetF.st rfl rfl
theorem xi6{n b:Int}(hn:bd n 2047)(h1:1<=b):rnd (b*n) b=n:=by
 have e:(2*(b*n)+b) / (2*b)=n:=by
  have:2*(b*n)+b=b+2*b*n:=by rw[Int.mul_assoc];omega
  rw[this,Int.add_mul_ediv_left _ _ (by omega),Int.ediv_eq_zero_of_lt (by omega) (by omega)]
  omega
 unfold rnd
 unfold bd at hn
 rw[e]
 split<;>split<;>omega
variable{a:AV}{D:List Px}{L S:Int}
theorem smp_whole(hR:RtI L S D){k:Int}(hk:wi k 0 2=true)(p q:Int):smpM L S D k (16*p) (16*q)=atM L S D p q:=by
 have hb:=xa1 hR p q
 obtain⟨s1,s2,s3,s4,s5,s6⟩:=kS_bd hk
 have e1:16*p % 16=0:=by omega
 have e2:16*q % 16=0:=by omega
 have e3:16*p / 16=p:=by omega
 have e4:16*q / 16=q:=by omega
 have key:smpX L S D k (16*p) (16*q)=kS k*kS k*(atM L S D p q).1/\smpY L S D k (16*p) (16*q)=kS k*kS k*(atM L S D p q).2:=by
  unfold smpX smpY
  rw[e1,e2,e3,e4,kw_0 hk]
  have:=wi_t hk
  have:k=0\/k=1\/k=2:=by omega
  rcases this with rfl|rfl|rfl
  .simp[x8o,rowS,kA,kS]
  .simp[x8o,rowS,kA,kS]
  .simp[x8o,rowS,kA,kS,show p-1+1=p by omega,show q-1+1=q by omega]
 unfold smpM
 rw[key.1,key.2,xi6 hb.1 s3,xi6 hb.2 s3]
def sAtE(L S:Int)(D:List Px)(k y x:Int):Int:=if(imE L S D).2=0 then(bif wi k 0 2 then(bif wi y (-2048) 2048&&wi x (-2048) 2048 then 0 else 2)else 15)else(imE L S D).2
theorem xjs(d:Nat)(ha:Sl pxE a D)(hl:D.length<=5000)(k y x:Int)(m:Mem):x7p (x7o (d+8)) xn [.agg [I L,I S,a],I k,.agg [I y,I x]] m=some (.tup [if sAtE L S D k y x=0 then sPX (smpM L S D k y x)else C32 0 0,I (sAtE L S D k y x)],m):=by
 refine x81 (by simp[ha.still1]) ?_ m
 rw[x5o]
 unfold x3v x2j
 have ie:=λm=>xjn (L:=L) (S:=S) d ha hl m
 unfold sAtE
 by_cases c:(imE L S D).2=0
 rotate_left
 .simp[mem0,ha.one,ie,c]
  exact RetF.tup rfl rfl
 cases ck:wi k 0 2
 .simp[mem0,ha.one,ie,c,xdr,ck]
  exact RetF.tup rfl rfl
 cases cy:wi y (-2048) 2048
 .simp[mem0,ha.one,ie,c,xdr,ck,sIxA,asI,xb7,cy]
  exact RetF.tup rfl rfl
 cases cx:wi x (-2048) 2048
 .simp[mem0,ha.one,ie,c,xdr,ck,sIxA,asI,xb7,cy,cx]
  exact RetF.tup rfl rfl
 have hR:=imE_0 c
 have h1:=wi_t cy
 have h2:=wi_t cx
 have hs:=λm=>w_sample (d+3) ha hR ck (y:=y) (x:=x) (by unfold bd;omega) (by unfold bd;omega) m
 have hb:x8y x4u [(0,3,.agg [I L,I S,a])]=some (.agg [I L,I S,a]):=by
  have:x4u=[I 0,I 0,nilS]:=by kernel_rfl
  rw[this];rfl
 simp[mem0,ha.one,ie,c,xdr,ck,sIxA,asI,xb7,cy,cx,hb,hs]
 exact RetF.tup rfl rfl
theorem pxS1(x y:Nat):Sl pxE (.slit [C32 x y] 1 true) [(x,y)]:=Sl.lit (enc:=pxE) [(x,y)] true
theorem mkl{R:Type}(x y:Nat){id:Id}{m:Mem}{k:AV->Mem->Option R}:x8z xe [(0,1,C32 x y)] 1 1 id m k=k (.slit [C32 x y] 1 true) m:=by rw[z_c64];exact xey rfl rfl rfl
theorem law_MatchSamples(L S:Int){l:List Nat}(h0:Sl f32E a l)(k y x:Int):∃m',x7o 31 [] x1t [.agg [I L,I S,a],I k,.agg [I y,I x]] mem0=some (B true,m'):=by
 rw[x5h]
 unfold x3o x2c
 have hsm:=λm=>w_small3 29 L S h0 m
 by_cases cl:l.length<=200
 rotate_left
 .simp[mem0,h0.one,xhn,hsm,cl]
 obtain⟨b,hb,eb⟩:=w_LImage 28 L S h0 (by omega)
 have hD:=prs_len l
 have es:=λy x m=>xjs (L:=L) (S:=S) 22 hb (by omega) k y x m
 have ei:=λm=>xjo (L:=L) (S:=S) 25 hb (by omega) m
 have wm:=λ(x y x' y':Nat) m=>w_Same (d:=28) (pxS1 x y) (pxS1 x' y') (by simp) m
 simp[mem0,h0.one,xhn,hsm,cl,eb,z_img,hb.one,sIxA,asI,es,ei,cAp,tR,mkM,show Nat.blt 0 1=true from rfl,x8j,disj,h0.clean1]
 obtain⟨M,hM⟩:∃M:Mem,(((((⟨[],1⟩:Mem).new (0,0,3) (Ob.row [I L,I S,a] 0 false)).new (0,1,5) (Ob.row [I y,I x] 0 false)).new (0,10,7) (Ob.row [I 0,I 0,nilS] 0 false)).set (0,10,7) (Ob.row [I L,I S,b] 0 false))=M:=⟨_,rfl⟩
 rw[hM]
 have hn:M.next=1:=by rw[<-hM];rfl
 have g3:M.get (0,0,3)=some (Ob.row [I L,I S,a] 0 false):=by rw[<-hM];simp
 have g5:M.get (0,1,5)=some (Ob.row [I y,I x] 0 false):=by rw[<-hM];simp
 have g7:M.get (0,10,7)=some (Ob.row [I L,I S,b] 0 false):=by rw[<-hM];simp
 unfold x4q x2b sAtE
 by_cases c:(imE L S (prsM l)).2=0
 rotate_left
 .unfold xk
  simp[c,mkl,wm]
 have hR:=imE_0 c
 cases ck:wi k 0 2
 .unfold xk
  simp[c,ck,mkl,wm,xbr]
 cases cy:wi y (-2048) 2048
 .unfold xk
  simp[c,ck,cy,mkl,wm,xbr,x9f,g5,sIxA,asI]
 cases cx:wi x (-2048) 2048
 .unfold xk
  simp[c,ck,cy,cx,mkl,wm,xbr,x9f,g5,sIxA,asI]
 have h1:=wi_t cy
 have h2:=wi_t cx
 have rs:=λm=>xjr 26 hb hR ck (y:=y) (x:=x) (by unfold bd;omega) (by unfold bd;omega) m
 have ws:=λm=>xi5 29 (rnd_bd (smpX L S (prsM l) k y x) (kS k*kS k)) (rnd_bd (smpY L S (prsM l) k y x) (kS k*kS k)) m
 have f1:=xch 29 (x:=y) (y:=16) (by decide) (by unfold bd;omega)
 have f2:=xch 29 (x:=x) (y:=16) (by decide) (by unfold bd;omega)
 have c3:wi (16*(y / 16)) (-2048) 2048=true:=by unfold wi;simp;omega
 have c4:wi (16*(x / 16)) (-2048) 2048=true:=by unfold wi;simp;omega
 have hat:=xa1 hR (y / 16) (x / 16)
 have ra:=λm=>w_rAt 27 hb hR (y / 16) (x / 16) m
 have wa:=λm=>xi5 29 hat.1 hat.2 m
 have sa:=es (16*(y / 16)) (16*(x / 16))
 rw[show sAtE L S (prsM l) k (16*(y / 16)) (16*(x / 16))=0 by unfold sAtE;simp[c,ck,c3,c4],smp_whole hR ck]at sa
 unfold xk
 simp only[smpM]at rs
 simp(disch:=omega) [c,ck,cy,cx,mkl,wm,xbr,x9f,g3,g5,g7,hn,sIxA,asI,rs,ws,smpM,f1,f2,z_2int,xf1,eb,x86,sa,ra,wa,cAp,tR,mkM,show Nat.blt 0 1=true from rfl,x8j,disj,h0.clean1,clean]
 simp only[xmd,x8g]
 simp(disch:=omega) [c,ck,cy,cx,mkl,wm,xbr,x9f,g3,g5,g7,hn,sIxA,asI,rs,ws,smpM,f1,f2,z_2int,xf1,eb,x86,sa,ra,wa,cAp,tR,mkM,show Nat.blt 0 1=true from rfl,x8j,disj,h0.clean1,clean]
 simp only[xmd,x8g]
 simp(disch:=omega) [c,ck,cy,cx,mkl,wm,xbr,x9f,g3,g5,g7,hn,sIxA,asI,rs,ws,smpM,f1,f2,z_2int,xf1,eb,x86,sa,ra,wa,cAp,tR,mkM,show Nat.blt 0 1=true from rfl,x8j,disj,h0.clean1,clean]
end Go.Ix
