import Derived.Test.YtjdlceelbnaneaaWg5
import Derived.Test.YtjdlceelbnaneaaWg1
import Derived.Test.YtjdlceelbnaneaaWg15
set_option linter.unusedSimpArgs false
set_option linter.unusedVariables false
namespace Go.Ix
open Go.Proofs
theorem xk5(d:Nat)(k:Int)(m:Mem):x81 (x80 (d+2)) x15 [I k] m=some (B (wi k 0 2),m):=by
 refine x8c rfl ?_ m
 rw[x65]
 unfold x47 x2x
 simp[mem0,xbi]
 exact RetF.st rfl rfl
theorem xe3(d:Nat)(k:Int)(m:Mem):x81 (x80 (d+2)) xw [I k] m=some (B (wi k 0 2),m):=by
 refine x8c rfl ?_ m
 rw[x5t]
 unfold x3v x2i
 simp[mem0,x9k]
 exact RetF.st rfl rfl
end Go.Ix
set_option exponentiation.threshold 3000
namespace Go.Ix
open Go.Proofs Ieee
theorem s_zmul{a b:AV}{p q u v:Int}{t:TypeId}{X Y:Operand}(ha:Is (Fzi p q) a)(hb:Is (Fzi u v) b)(h1:bd p 4000000000000000)(h2:bd q 4000000000000000)(h3:bd u 4000000000000000)(h4:bd v 4000000000000000)(k1:bd (p*u) 2000000000000000)(k2:bd (q*v) 2000000000000000)(k3:bd (p*v) 2000000000000000)(k4:bd (q*u) 2000000000000000):∃r,sBin Try.prog .mul t X Y a b=some r/\Is (Fzi (p*u-q*v) (p*v+q*u)) r:=by
 refine xdv ha hb ?_
 rintro _ _ ⟨x,y,rfl,hx,hy⟩ ⟨z,w,rfl,hz,hw⟩
 unfold bd at *
 obtain⟨e,f,h,he,hf⟩:=zi_mul hx hy hz hw (by omega) (by omega) (by omega) (by omega) (by omega) (by omega) (by omega) (by omega)
 have hb:binS .mul t X Y [.complex .f64 x y,.complex .f64 z w]=Op.complexOp .mul .f64 x y z w:=rfl
 rw[hb,h]
 exact OkR.pure ⟨one_Zi ⟨e,f,rfl,he,hf⟩,e,f,rfl,he,hf⟩
theorem s_zadd{a b:AV}{p q u v:Int}{t:TypeId}{X Y:Operand}(ha:Is (Fzi p q) a)(hb:Is (Fzi u v) b)(k1:bd (p+u) 4000000000000000)(k2:bd (q+v) 4000000000000000):∃r,sBin Try.prog .add t X Y a b=some r/\Is (Fzi (p+u) (q+v)) r:=by
 refine xdv ha hb ?_
 rintro _ _ ⟨x,y,rfl,hx,hy⟩ ⟨z,w,rfl,hz,hw⟩
 unfold bd at *
 obtain⟨e,f,h,he,hf⟩:=zi_add hx hy hz hw (by omega) (by omega)
 have hb:binS .add t X Y [.complex .f64 x y,.complex .f64 z w]=Op.complexOp .add .f64 x y z w:=rfl
 rw[hb,h]
 exact OkR.pure ⟨one_Zi ⟨e,f,rfl,he,hf⟩,e,f,rfl,he,hf⟩
theorem s_zreal{a:AV}{p q:Int}{t:TypeId}{ts:Array TypeId}(ha:Is (Fzi p q) a):∃r,x89 Try.prog .real ts t [a]=some r/\Is (Fi p) r:=by
 refine xdw ha ?_
 rintro _ ⟨u,v,rfl,hu,hv⟩
 exact OkR.pure ⟨one_Fi ⟨u,rfl,hu⟩,u,rfl,hu⟩
theorem s_zimag{a:AV}{p q:Int}{t:TypeId}{ts:Array TypeId}(ha:Is (Fzi p q) a):∃r,x89 Try.prog .imag ts t [a]=some r/\Is (Fi q) r:=by
 refine xdw ha ?_
 rintro _ ⟨u,v,rfl,hu,hv⟩
 exact OkR.pure ⟨one_Fi ⟨v,rfl,hv⟩,v,rfl,hv⟩
theorem s_fi{a:AV}{n:Int}(ha:Is (Fi n) a)(hn:bd n 9000000000000000000):sCvt Try.prog x3 y_int a=some (I n):=by
 refine sCvt_1 (A:=Fi n) ha rfl (λu hu=>by obtain⟨w,rfl,-⟩:=hu;rfl) (λu hu=>?_)
 obtain⟨w,rfl,hw⟩:=hu
 have hn':nfS Try.prog (convert x3 y_int (.float .f64 w))=nfS Try.prog (Conv.floatToInt .f64 w .i64):=by kernel_rfl
 rw[<-x9f,hn',x9f]
 unfold Conv.floatToInt
 simp only[I_toInt hw]
 have e1:IntKind.i64.min=-9223372036854775808:=rfl
 have e2:IntKind.i64.max=9223372036854775807:=rfl
 unfold bd at hn
 rw[e1,e2,xlb (by omega)]
 exact OkR.pure rfl
theorem s_if64(n:Int):sCvt Try.prog y_int x3 (I n)=some (.sc (.float .f64 (FloatKind.f64.nearest n))):=by
 have hn:x86 Try.prog (convert y_int x3 (.int .i64 n))=some (.float .f64 (FloatKind.f64.nearest n)):=by kernel_rfl
 unfold sCvt cvt0
 simp only[show x87 (I n)=some (.int .i64 n)from rfl,show xat Try.prog y_int x3 (.int .i64 n)=none from rfl,hn]
 rfl
theorem s_if32(n:Int):sCvt Try.prog y_int x4 (I n)=some (.sc (.float .f32 (FloatKind.f32.nearest n))):=by
 have hn:x86 Try.prog (convert y_int x4 (.int .i64 n))=some (.float .f32 (FloatKind.f32.nearest n)):=by kernel_rfl
 unfold sCvt cvt0
 simp only[show x87 (I n)=some (.int .i64 n)from rfl,show xat Try.prog y_int x4 (.int .i64 n)=none from rfl,hn]
 rfl
theorem cplx64(x y:Nat):x89 Try.prog .complex #[x3,x3] x6 [.sc (.float .f64 x),.sc (.float .f64 y)]=some (.sc (.complex .f64 x y)):=by
 have h:x86 Try.prog (biS .complex #[x3,x3] x6 [.float .f64 x,.float .f64 y])=some (.complex .f64 x y):=by kernel_rfl
 unfold x89 bi0
 simp only[show x8e [AV.sc (.float .f64 x),AV.sc (.float .f64 y)]=some [.float .f64 x,.float .f64 y]from rfl,h]
 rfl
def kwM(k p:Int):List Int:=if k=0 then[1-p / 8,p / 8]else if k=1 then[16-p,p]else[32*p*p-p*p*p-256*p,3*p*p*p-80*p*p+8192,64*p*p-3*p*p*p+256*p,p*p*p-16*p*p]
def kA(k:Int):Int:=if k=2 then 1 else 0
def kS(k:Int):Int:=if k=0 then 1 else if k=1 then 16 else 8192
theorem xih{Q:Int->Int->Prop}{k p:Int}(hk:wi k 0 2=true)(hp:0<=p/\p<=15)(h:∀k p:Int,(k=0\/k=1\/k=2)->(p=0\/p=1\/p=2\/p=3\/p=4\/p=5\/p=6\/p=7\/p=8\/p=9\/p=10\/p=11\/p=12\/p=13\/p=14\/p=15)->Q k p):Q k p:=by
 have:=wi_t hk
 exact h k p (by omega) (by omega)
theorem kw_ok{k p:Int}(hk:wi k 0 2=true)(hp:0<=p/\p<=15):(∀w∈kwM k p,bd w 8192)/\(kwM k p).length<=4:=by
 refine xih (Q:=λk p=>(∀w∈kwM k p,bd w 8192)/\(kwM k p).length<=4) hk hp ?_
 clear hk hp k p
 intro k p hk hp
 unfold bd
 rcases hk with rfl|rfl|rfl<;>rcases hp with rfl|rfl|rfl|rfl|rfl|rfl|rfl|rfl|rfl|rfl|rfl|rfl|rfl|rfl|rfl|rfl<;>decide
theorem kw_0{k:Int}(hk:wi k 0 2=true):kwM k 0=if k=0 then[1,0]else if k=1 then[16,0]else[0,8192,0,0]:=by
 have:=wi_t hk
 have:k=0\/k=1\/k=2:=by omega
 rcases this with rfl|rfl|rfl<;>decide
theorem xk6{k p:Int}(hk:wi k 0 2=true)(hp:0<=p/\p<=15):∀d:Nat,((x80 (d+1) [] x21 [I k,I p] mem0).bind λq=>Go.Ix.frz q.2.get deep q.1)=some (.agg [.slit ((kwM k p).flatMap intE) (kwM k p).length true,I (kA k),I (kS k)]):=by
 refine xih (Q:=λk p=>∀d:Nat,((x80 (d+1) [] x21 [I k,I p] mem0).bind λq=>Go.Ix.frz q.2.get deep q.1)=some (.agg [.slit ((kwM k p).flatMap intE) (kwM k p).length true,I (kA k),I (kS k)])) hk hp ?_
 clear hk hp k p
 intro k p hk hp d
 rcases hk with rfl|rfl|rfl<;>rcases hp with rfl|rfl|rfl|rfl|rfl|rfl|rfl|rfl|rfl|rfl|rfl|rfl|rfl|rfl|rfl|rfl<;>kernel_rfl
theorem xii{k p:Int}(hk:wi k 0 2=true)(hp:0<=p/\p<=15)(d:Nat)(m:Mem):x81 (x80 (d+1)) x21 [I k,I p] m=some (.agg [.slit ((kwM k p).flatMap intE) (kwM k p).length true,I (kA k),I (kS k)],m):=
 x8c rfl (retF_e (xk6 hk hp d)) m
def rowS(v:Int)(f:Int->Int):Int->List Int->Int
 |_,[]=>0
 |s,w::r=>v*w*f s+rowS v f (s+1) r
def x9g(f:Int->Int->Int)(s:Int)(W:List Int):Int->List Int->Int
 |_,[]=>0
 |l,v::V=>rowS v (f l) s W+x9g f s W (l+1) V
theorem vw_bd{v w x:Int}(hv:bd v 8192)(hw:bd w 8192)(hx:bd x 2047):bd (v*w) 67108864/\bd (v*w*x) 137371844608:=by
 have h1:=hv.mul hw
 have h2:=h1.mul hx
 exact⟨h1.mono (by decide),h2.mono (by decide)⟩
theorem xe4{v:Int}{f:Int->Int}(hv:bd v 8192)(hf:∀s,bd (f s) 2047):∀(W:List Int) (s:Int),(∀w∈W,bd w 8192)->bd (rowS v f s W) (W.length*137371844608)
 |[],s,_=>by unfold rowS bd;simp
 |w::r,s,h=>by
  have h1:=(vw_bd hv (h w (by simp)) (hf s)).2
  have h2:=xe4 hv hf r (s+1) λx hx=>h x (by simp[hx])
  unfold rowS
  unfold bd at *
  simp only[xlm,xo8]
  generalize v*w*f s=A at *
  generalize rowS v f (s+1) r=B at *
  omega
theorem xfr{f:Int->Int->Int}{s:Int}{W:List Int}(hf:∀l s,bd (f l s) 2047)(hW:∀w∈W,bd w 8192)(h4:W.length<=4):∀(V:List Int) (l:Int),(∀v∈V,bd v 8192)->bd (x9g f s W l V) (V.length*549487378432)
 |[],l,_=>by unfold x9g bd;simp
 |v::V,l,h=>by
  have h1:=xe4 (h v (by simp)) (hf l) W s hW
  have h2:=xfr (s:=s) hf hW h4 V (l+1) λx hx=>h x (by simp[hx])
  unfold x9g
  unfold bd at *
  simp only[xlm,xo8]
  generalize rowS v (f l) s W=A at *
  generalize x9g f s W (l+1) V=B at *
  omega
theorem xar{L S:Int}{D:List Px}(hR:RtI L S D)(l s:Int):bd (atM L S D l s).1 2047/\bd (atM L S D l s).2 2047:=by
 unfold atM
 cases c:(wi l 0 (L-1)&&wi s 0 (S-1))
 .unfold bd;simp
 rw[xlf]at c
 obtain⟨b1,b2,-,-⟩:=at_in hR c.1 c.2
 have hk:(l*S+s).toNat<D.length:=by omega
 have hrt:=hR.d _ (xm7 hk)
 rw[xco,xlt,xlq hk]
 exact⟨hrt.1.bd,hrt.2.bd⟩
theorem u_int:Try.prog.underlying x2r=some (.slice y_int):=by kernel_rfl
abbrev slI(l:List Int):AV:=.slit (l.flatMap intE) l.length true
theorem slI_S(l:List Int):Sl intE (slI l) l:=Sl.lit l true
variable{a:AV}{D:List Px}{L S:Int}
section
variable(d:Nat)(hs:FHs)(u:Nat)(ha:Sl pxE a D)(hR:RtI L S D)
include ha hR
theorem l_smp1(rec0:x9m)(V W:List Int)(hW:∀w∈W,bd w 8192)(h4:W.length<=4)(ln sm ah bh ks v:Int)(i:Nat)(hv:bd v 8192)(hln:bd ln 1000000000000000000)(hsm:bd sm 1000000000000000000)(hah:0<=ah/\ah<=1)(hbh:0<=bh/\bh<=1)(hi:i<=4){t38 t39 xV:AV}(m:Mem)(g3:m.get (u,0,3)=some (.row [I L,I S,a] 0 false))(g9:m.get (u,25,9)=some (.row [xV,I ah,I ks] 0 false))(g10:m.get (u,26,10)=some (.row [slI W,I bh,I ks] 0 false)) :
 ∀(suf:List Int) (k j:Nat) (r:AV) (A B:Int) (fc:Nat),W.drop k=suf->suf.length<j->Is (Fzi A B) r->bd A (3000000000000000-suf.length*137371844608)->bd B (3000000000000000-suf.length*137371844608) ->
 ∃r' fc',x1p (x80 (d+2)) hs u rec0 j (.ptr (u,0,3) 0 0) (I ln) (I sm) (.ptr (u,25,9) 0 0) (.ptr (u,26,10) 0 0) r (I i) (I v) t38 t39 (I i) (slI W) (I W.length) (I k) m fc
  = x30 (x80 (d+2)) hs u rec0 (.ptr (u,0,3) 0 0) (I ln) (I sm) (.ptr (u,25,9) 0 0) (.ptr (u,26,10) 0 0) r' t38 t39 (I i) m fc' /\
  Is (Fzi (A+rowS v (λs=>(atM L S D (ln+i-ah) s).1) (sm+k-bh) suf) (B+rowS v (λs=>(atM L S D (ln+i-ah) s).2) (sm+k-bh) suf)) r':=by
 intro suf
 induction suf with
 |nil=>
  intro k j r A B fc hd hj hr hA hB
  obtain⟨j,rfl⟩:∃i,j=i+1:=⟨j-1,by simp at hj;omega⟩
  have hk:¬((k:Int)<(W.length:Int)):=by have:=xnh.mp hd;omega
  refine⟨r,fc+1,?_,by simpa[rowS]using hr⟩
  simp only[x1p]
  unfold x31
  simp[hk]
 |cons w suf ih=>
  intro k j r A B fc hd hj hr hA hB
  obtain⟨j,rfl⟩:∃i,j=i+1:=⟨j-1,by simp at hj;omega⟩
  obtain⟨hk,he,hd⟩:=xcn hd
  have hk':(k:Int)<(W.length:Int):=by omega
  have ix:=(slI_S W).ix (z:=1) (λ_=>rfl) hk
  rw[x93 hk,xm9,he]at ix
  have hw:bd w 8192:=hW w (he▸xm7 hk)
  have hat:=xar hR (ln+i-ah) (sm+k-bh)
  obtain⟨z,ez,hz⟩:=w_at d ha hR (ln+i-ah) (sm+k-bh) m
  have hv1:=vw_bd hv hw hat.1
  have hv2:=vw_bd hv hw hat.2
  have hvw:v*w<=67108864/\-67108864<=v*w:=⟨hv1.1.2,hv1.1.1⟩
  have hc:Is (Fzi (v*w) 0) (.sc (.complex .f64 (FloatKind.f64.nearest (v*w)) 0)):=Is.sc ⟨_,_,rfl,I_int (by omega),I_0⟩
  generalize hP:(atM L S D (ln+i-ah) (sm+k-bh)).1=P at *
  generalize hQ:(atM L S D (ln+i-ah) (sm+k-bh)).2=Q at *
  obtain⟨y,ey,hy⟩:=s_zmul (t:=x6) (X:=.tmp 58) (Y:=.tmp 72) hc hz (by unfold bd;omega) (by unfold bd;omega) (hat.1.mono (by decide)) (hat.2.mono (by decide)) (hv1.2.mono (by decide)) (by rw[Int.zero_mul];unfold bd;omega) (hv2.2.mono (by decide)) (by rw[Int.zero_mul];unfold bd;omega)
  have hy:Is (Fzi (v*w*P) (v*w*Q)) y:=by simpa using hy
  have q1:=hv1.2
  have q2:=hv2.2
  unfold bd at hln hsm q1 q2 hA hB
  simp only[xlm,xo8]at hA hB
  obtain⟨x,ex,hx⟩:=s_zadd (t:=x6) (X:=.tmp 53) (Y:=.tmp 73) hr hy (by unfold bd;omega) (by unfold bd;omega)
  have hkl:k<=4:=by omega
  obtain⟨r',fc',e,hr'⟩:=ih (k+1) j x (A+v*w*P) (B+v*w*Q) (fc+31) hd (by simp at hj;omega) hx (by unfold bd;omega) (by unfold bd;omega)
  refine⟨r',fc',?_,?_⟩
  .rw[<-e]
   simp only[x1p]
   conv=>lhs;unfold x31
   simp(disch:=omega) [hk',ix,intE,x8h,s_if64,cplx64,g3,g9,g10,ez,ey,ex]
  .unfold rowS
   rw[hP,hQ]
   have e1:sm+((k+1:Nat):Int)-bh=sm+k-bh+1:=by omega
   rw[e1]at hr'
   rw[<-xo9,<-xo9]
   exact hr'
theorem l_smp0(V W:List Int)(hV:∀w∈V,bd w 8192)(hV4:V.length<=4)(hW:∀w∈W,bd w 8192)(h4:W.length<=4)(ln sm ah bh ks:Int)(hln:bd ln 1000000000000000000)(hsm:bd sm 1000000000000000000)(hah:0<=ah/\ah<=1)(hbh:0<=bh/\bh<=1){xV:AV}(m:Mem)(g3:m.get (u,0,3)=some (.row [I L,I S,a] 0 false))(g9:m.get (u,25,9)=some (.row [xV,I ah,I ks] 0 false))(g10:m.get (u,26,10)=some (.row [slI W,I bh,I ks] 0 false)) :
 ∀(suf:List Int) (i j:Nat) (r:AV) (A B:Int) (fc:Nat),V.drop i=suf->suf.length<j->Is (Fzi A B) r->bd A (2000000000000000-suf.length*549487378432)->bd B (2000000000000000-suf.length*549487378432) ->
 ∃r' fc',xt (x80 (d+2)) hs u j (.ptr (u,0,3) 0 0) (I ln) (I sm) (.ptr (u,25,9) 0 0) (.ptr (u,26,10) 0 0) r (slI V) (I V.length) (I i) m fc
  = x2z (x80 (d+2)) hs u (.ptr (u,25,9) 0 0) (.ptr (u,26,10) 0 0) r' m fc' /\
  Is (Fzi (A+x9g (λl s=>(atM L S D l s).1) (sm-bh) W (ln+i-ah) suf) (B+x9g (λl s=>(atM L S D l s).2) (sm-bh) W (ln+i-ah) suf)) r':=by
 intro suf
 induction suf with
 |nil=>
  intro i j r A B fc hd hj hr hA hB
  obtain⟨j,rfl⟩:∃i,j=i+1:=⟨j-1,by simp at hj;omega⟩
  have hk:¬((i:Int)<(V.length:Int)):=by have:=xnh.mp hd;omega
  refine⟨r,fc+1,?_,by simpa[x9g]using hr⟩
  simp only[xt]
  unfold x32
  simp[hk]
 |cons v suf ih=>
  intro i j r A B fc hd hj hr hA hB
  obtain⟨j,rfl⟩:∃i,j=i+1:=⟨j-1,by simp at hj;omega⟩
  obtain⟨hk,he,hd⟩:=xcn hd
  have hk':(i:Int)<(V.length:Int):=by omega
  have ix:=(slI_S V).ix (z:=1) (λ_=>rfl) hk
  rw[x93 hk,xm9,he]at ix
  have hv:bd v 8192:=hV v (he▸xm7 hk)
  have b1:=xe4 (f:=λs=>(atM L S D (ln+i-ah) s).1) hv (λs=>(xar hR _ s).1) W (sm-bh) hW
  have b2:=xe4 (f:=λs=>(atM L S D (ln+i-ah) s).2) hv (λs=>(xar hR _ s).2) W (sm-bh) hW
  unfold bd at hA hB b1 b2
  simp only[xlm,xo8]at hA hB
  obtain⟨r1,fc1,e1,hr1⟩:=l_smp1 d hs u ha hR (xt (x80 (d+2)) hs u j) V W hW h4 ln sm ah bh ks v i hv hln hsm hah hbh (by omega) (t38:=slI V) (t39:=I V.length) m g3 g9 g10 W 0 NN r A B (fc+1+9) rfl (by rw[x9t];omega) hr (by unfold bd;omega) (by unfold bd;omega)
  rw[show sm+((0:Nat):Int)-bh=sm-bh by omega]at hr1
  obtain⟨r',fc',e,hr'⟩:=ih (i+1) j r1 _ _ (fc1+2) hd (by simp at hj;omega) hr1 (by unfold bd;omega) (by unfold bd;omega)
  refine⟨r',fc',?_,?_⟩
  .rw[<-e]
   simp only[xt]
   conv=>lhs;unfold x32 x5a
   simp only[xae,hk',xoa,x8x,xap,ix]
   simp[intE,g10,(slI_S W).len u_int]
   rw[show(0:Int)=((0:Nat):Int)from rfl,e1]
   unfold x30
   simp(disch:=omega) [x8h]
  .unfold x9g
   have e1:ln+((i+1:Nat):Int)-ah=ln+i-ah+1:=by omega
   rw[e1]at hr'
   rw[<-xo9,<-xo9]
   exact hr'
end
def rnd(n b:Int):Int:=
 if(if(2*n+b) / (2*b)<2047 then(2*n+b) / (2*b)else 2047) > -2047 then(if(2*n+b) / (2*b)<2047 then(2*n+b) / (2*b)else 2047)else -2047
def smpX(L S:Int)(D:List Px)(k y x:Int):Int:=x9g (λl s=>(atM L S D l s).1) (x / 16-kA k) (kwM k (x % 16)) (y / 16-kA k) (kwM k (y % 16))
def smpY(L S:Int)(D:List Px)(k y x:Int):Int:=x9g (λl s=>(atM L S D l s).2) (x / 16-kA k) (kwM k (x % 16)) (y / 16-kA k) (kwM k (y % 16))
def smpM(L S:Int)(D:List Px)(k y x:Int):Int×Int:=(rnd (smpX L S D k y x) (kS k*kS k),rnd (smpY L S D k y x) (kS k*kS k))
def f32w(n:Int):Nat:=FloatKind.f32.nearest n
def spx(p:Int×Int):Px:=(f32w p.1,f32w p.2)
abbrev sPX(p:Int×Int):AV:=C32 (f32w p.1) (f32w p.2)
theorem kS_bd{k:Int}(hk:wi k 0 2=true):1<=kS k/\kS k<=8192/\1<=kS k*kS k/\kS k*kS k<=67108864/\0<=kA k/\kA k<=1:=by
 have:=wi_t hk
 have:k=0\/k=1\/k=2:=by omega
 rcases this with rfl|rfl|rfl<;>decide
theorem w_cut{r:AV}{n b:Int}(hr:Is (Fi n) r)(hn:bd n 2000000000000000)(h1:1<=b)(h2:b<=67108864)(d:Nat)(m:Mem):x81 (x80 (d+3)) xl [r,I b] m=some (.sc (.float .f32 (f32w (rnd n b))),m):=by
 refine x8c (by simp[hr.oneFi.st]) ?_ m
 have e:=xfl d (x:=n) (y:=b) (by omega) (by omega) (hn.mono (by decide))
 rw[x6e]
 unfold x4g x3f
 simp[mem0,s_fi hr (hn.mono (by decide)),e,s_if32]
 exact RetF.st rfl rfl
theorem z_kern:x5c=[nilS,I 0,I 0]:=by kernel_rfl
variable{a:AV}{D:List Px}{L S:Int}
theorem smp_bd(hR:RtI L S D){k y x:Int}(hk:wi k 0 2=true):bd (smpX L S D k y x) 2000000000000000/\bd (smpY L S D k y x) 2000000000000000:=by
 have hx:0<=x % 16/\x % 16<=15:=by omega
 have hy:0<=y % 16/\y % 16<=15:=by omega
 obtain⟨k1,k2⟩:=kw_ok hk hx
 obtain⟨k3,k4⟩:=kw_ok hk hy
 have b1:=xfr (f:=λl s=>(atM L S D l s).1) (s:=x / 16-kA k) (λl s=>(xar hR l s).1) k1 k2 (kwM k (y % 16)) (y / 16-kA k) k3
 have b2:=xfr (f:=λl s=>(atM L S D l s).2) (s:=x / 16-kA k) (λl s=>(xar hR l s).2) k1 k2 (kwM k (y % 16)) (y / 16-kA k) k3
 unfold smpX smpY
 unfold bd at *
 constructor<;>omega
theorem w_sample(d:Nat)(ha:Sl pxE a D)(hR:RtI L S D){k y x:Int}(hk:wi k 0 2=true)(hy:bd y 4000000000000000000)(hx:bd x 4000000000000000000)(m:Mem) :
 x81 (x80 (d+4)) x17 [.agg [I L,I S,a],I k,.agg [I y,I x]] m=some (sPX (smpM L S D k y x),m):=by
 refine x8c (by simp[ha.still1]) ?_ m
 have hx2:0<=x % 16/\x % 16<=15:=by omega
 have hy2:0<=y % 16/\y % 16<=15:=by omega
 obtain⟨k1,k2⟩:=kw_ok hk hx2
 obtain⟨k3,k4⟩:=kw_ok hk hy2
 obtain⟨s1,s2,s3,s4,s5,s6⟩:=kS_bd hk
 have f1:=xfk (d+2) (x:=y) (y:=16) (by decide) (hy.mono (by decide))
 have f2:=xfk (d+2) (x:=x) (y:=16) (by decide) (hx.mono (by decide))
 have q1:y-y / 16*16=y % 16:=by omega
 have q2:x-x / 16*16=x % 16:=by omega
 unfold bd at hx hy
 rw[x67]
 unfold x49 x33
 have kv:=λm=>xii hk hy2 (d+2) m
 have kw:=λm=>xii hk hx2 (d+2) m
 simp(disch:=omega) [mem0,ha.one,sIxA,asI,f1,f2,q1,q2,x8h,cAp,tR,mkM,show Nat.blt 0 1=true from rfl,kv,kw,z_kern,x8t,disj]
 obtain⟨M,hM⟩:∃M:Mem,((((((⟨[],1⟩:Mem).new (0,0,3) (Ob.row [I L,I S,a] 0 false)).new (0,1,5) (Ob.row [I y,I x] 0 false)).new (0,25,9) (Ob.row [nilS,I 0,I 0] 0 false)).new (0,26,10) (Ob.row [nilS,I 0,I 0] 0 false)).set (0,25,9) (Ob.row [slI (kwM k (y % 16)),I (kA k),I (kS k)] 0 false)).set (0,26,10) (Ob.row [slI (kwM k (x % 16)),I (kA k),I (kS k)] 0 false)=M:=⟨_,rfl⟩
 rw[hM]
 have g3:M.get (0,0,3)=some (.row [I L,I S,a] 0 false):=by rw[<-hM];simp
 have g9:M.get (0,25,9)=some (.row [slI (kwM k (y % 16)),I (kA k),I (kS k)] 0 false):=by rw[<-hM];simp
 have g10:M.get (0,26,10)=some (.row [slI (kwM k (x % 16)),I (kA k),I (kS k)] 0 false):=by rw[<-hM];simp
 obtain⟨b1,b2⟩:=smp_bd (y:=y) (x:=x) hR hk
 obtain⟨r,fc',e,hr⟩:=l_smp0 (d+1) [] 0 ha hR (kwM k (y % 16)) (kwM k (x % 16)) k3 k4 k1 k2 (y / 16) (x / 16) (kA k) (kA k) (kS k) (by unfold bd;omega) (by unfold bd;omega) ⟨s5,s6⟩ ⟨s5,s6⟩ M g3 g9 g10
  (kwM k (y % 16)) 0 NN (.sc (.complex .f64 0 0)) 0 0 34 rfl (by rw[x9t];omega) (Is.sc ⟨0,0,rfl,I_0,I_0⟩) (by unfold bd;omega) (by unfold bd;omega)
 rw[Int.zero_add,Int.zero_add,show y / 16+((0:Nat):Int)-kA k=y / 16-kA k by omega]at hr
 have hr:Is (Fzi (smpX L S D k y x) (smpY L S D k y x)) r:=hr
 unfold x5b
 simp[g9,(slI_S (kwM k (y % 16))).len u_int]
 rw[show(0:Int)=((0:Nat):Int)from rfl,e]
 obtain⟨rr,er,hrr⟩:=s_zreal (t:=x3) (ts:=#[x6]) hr
 obtain⟨ri,ei,hri⟩:=s_zimag (t:=x3) (ts:=#[x6]) hr
 have c1:=λm=>w_cut hrr b1 s3 s4 d m
 have c2:=λm=>w_cut hri b2 s3 s4 d m
 unfold x2z
 simp(disch:=omega) [g9,g10,x8h,er,ei,c1,c2,cplx32]
 exact RetF.st rfl rfl
section
variable(d:Nat)(hs:FHs)(u:Nat)(ha:Sl pxE a D)(hR:RtI L S D)
include ha hR
end
end Go.Ix
