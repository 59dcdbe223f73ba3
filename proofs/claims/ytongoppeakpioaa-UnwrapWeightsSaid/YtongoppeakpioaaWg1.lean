import Derived.Test.YtongoppeakpioaaWBase
set_option linter.unusedSimpArgs false
set_option linter.unusedVariables false
set_option exponentiation.threshold 3000
namespace Go.Ix
open Ieee
theorem cut_0(neg:Bool)(n:Nat):Toward.even.cut neg n 0=n:=by
 unfold Toward.cut
 simp[Nat.mod_one]
theorem cut_dvd(neg:Bool){n k:Nat}(h0:0<n)(h:2 ^ k ∣ n):Toward.even.cut neg n k=n / 2 ^ k:=by
 have h1:2 ^ k<=n:=Nat.le_of_dvd h0 h
 have h2:k<=n.log2:=(Nat.le_log2 (by omega)).mpr h1
 unfold Toward.cut
 rw[xk0 (by omega)]
 simp only[Nat.shiftLeft_eq,Nat.one_mul,Nat.mod_eq_zero_of_dvd h,Nat.mul_zero]
 have:0<2 ^ k:=Nat.two_pow_pos k
 simp
def x3r(place:Int)(mag:Nat):Int:=max (place+mag.log2-52) (-1074)
def x5x(place:Int)(mag:Nat):Nat:=if x3r place mag<=place then mag*2 ^ (place-x3r place mag).toNat else mag / 2 ^ (x3r place mag-place).toNat
theorem xfs(neg:Bool){mag:Nat}{place:Int}(h0:0<mag)(hd:place<x3r place mag->2 ^ (x3r place mag-place).toNat ∣ mag) :
 double.nearest neg mag place=double.word neg (min ((x3r place mag+1074).toNat*2 ^ 52+x5x place mag) (2047*2 ^ 52)):=by
 unfold Format.nearest
 rw[xgi (by omega)]
 have e1:double.leastPlace=-1074:=rfl
 have e2:(double.fractionBits:Int)=52:=rfl
 have e3:double.binade=2 ^ 52:=rfl
 have e4:double.infRung=2047*2 ^ 52:=rfl
 simp only[e1,e2,e3,e4]
 rw[show max (place+(mag.log2:Int)-52) (-1074)=x3r place mag from rfl]
 have e5:x3r place mag - -1074=x3r place mag+1074:=by omega
 rw[e5]
 suffices hk:Toward.even.cut neg (mag <<< (place-x3r place mag).toNat) (x3r place mag-place).toNat=x5x place mag by rw[hk]
 .unfold x5x
  by_cases c:x3r place mag<=place
  .rw[xgh c,show(x3r place mag-place).toNat=0 by omega,cut_0,Nat.shiftLeft_eq]
  .rw[xgi c,show(place-x3r place mag).toNat=0 by omega,Nat.shiftLeft_zero]
   exact cut_dvd neg h0 (hd (by omega))
theorem kept_bd{mag:Nat}{place:Int}(h0:0<mag)(hd:place<x3r place mag->2 ^ (x3r place mag-place).toNat ∣ mag):x5x place mag<2 ^ 53/\(-1074<x3r place mag->2 ^ 52<=x5x place mag):=by
 have hl:=Nat.log2_self_le (n:=mag) (by omega)
 have hu:mag<2 ^ (mag.log2+1):=Nat.lt_log2_self
 unfold x5x
 by_cases c:x3r place mag<=place
 .rw[xgh c]
  constructor
  .have e:(place-x3r place mag).toNat+(mag.log2+1)<=53:=by unfold x3r at *;omega
   calc mag*2 ^ (place-x3r place mag).toNat<2 ^ (mag.log2+1)*2 ^ (place-x3r place mag).toNat:=Nat.mul_lt_mul_of_pos_right hu (Nat.two_pow_pos _)
    _=2 ^ (mag.log2+1+(place-x3r place mag).toNat):=(Nat.pow_add ..).symm
    _<=2 ^ 53:=Nat.pow_le_pow_right (by omega) (by omega)
  .intro hlt
   have e:(place-x3r place mag).toNat+mag.log2=52:=by unfold x3r at *;omega
   calc 2 ^ 52=2 ^ (mag.log2+(place-x3r place mag).toNat):=by rw[<-e,xiq]
    _=2 ^ mag.log2*2 ^ (place-x3r place mag).toNat:=Nat.pow_add ..
    _<=mag*2 ^ (place-x3r place mag).toNat:=xhd _ hl
 .rw[xgi c]
  obtain⟨q,hq⟩:=hd (by omega)
  have hp:=Nat.two_pow_pos (x3r place mag-place).toNat
  have e0:mag / 2 ^ (x3r place mag-place).toNat=q:=Nat.div_eq_of_eq_mul_right hp hq
  rw[e0]
  constructor
  .have e:(x3r place mag-place).toNat+53 ≥ mag.log2+1:=by unfold x3r at *;omega
   have h1:2 ^ (x3r place mag-place).toNat*q<2 ^ (x3r place mag-place).toNat*2 ^ 53:=by
    rw[<-hq,<-Nat.pow_add]
    exact xgs hu (Nat.pow_le_pow_right (by omega) e)
   exact Nat.lt_of_mul_lt_mul_left h1
  .intro hlt
   have e:(x3r place mag-place).toNat+52=mag.log2:=by unfold x3r at *;omega
   have h1:2 ^ (x3r place mag-place).toNat*2 ^ 52<=2 ^ (x3r place mag-place).toNat*q:=by
    rw[<-hq,<-Nat.pow_add,e];exact hl
   exact Nat.le_of_mul_le_mul_left h1 hp
theorem x9o(neg:Bool){r:Nat}(hr:r<2047*2 ^ 52):double.read (double.word neg r)=if r<2 ^ 52 then .number neg r (-1074)else .number neg (2 ^ 52+r % 2 ^ 52) (-1074+(r / 2 ^ 52-1:Nat)):=by
 have e1:double.leastPlace=-1074:=rfl
 have e3:double.binade=2 ^ 52:=rfl
 have e4:double.infRung=2047*2 ^ 52:=rfl
 have e5:double.signWeight=2 ^ 63:=rfl
 unfold Format.read Format.word
 simp only[e1,e3,e4,e5]
 have h1:(if neg=true then 2 ^ 63+r else r) % 2 ^ 63=r:=by
  cases neg
  .simp;omega
  .simp;omega
 have h2:((if neg=true then 2 ^ 63+r else r) / 2 ^ 63 % 2 == 1)=neg:=by
  cases neg
  .have:r / 2 ^ 63=0:=by omega
   simp[this]
  .have:(2 ^ 63+r) / 2 ^ 63=1:=by omega
   simp[this]
 rw[h1,h2]
 by_cases c:r<2 ^ 52
 .rw[xgh c,xgh c]
 .rw[xgi c,xgi c,xgh hr]
theorem xbe(neg:Bool){mag:Nat}{place:Int}(h0:0<mag)(hd:place<x3r place mag->2 ^ (x3r place mag-place).toNat ∣ mag)(hb:x3r place mag<=900) :
 double.read (double.nearest neg mag place)=.number neg (x5x place mag) (x3r place mag):=by
 obtain⟨k1,k2⟩:=kept_bd h0 hd
 rw[xfs neg h0 hd]
 have hlo:-1074<=x3r place mag:=by unfold x3r;omega
 generalize x5x place mag=K at *
 generalize x3r place mag=L at *
 have hr:(L+1074).toNat*2 ^ 52+K<2047*2 ^ 52:=by omega
 rw[xk0 (by omega),x9o neg hr]
 by_cases c:L=-1074
 .subst c
  simp only[show((-1074:Int)+1074).toNat=0 from rfl,xh5,xgr]
  by_cases c2:K<2 ^ 52
  .rw[xgh c2]
  .rw[xgi c2]
   congr 1
   .omega
   .omega
 .have hK:=k2 (by omega)
  rw[xgi (by omega)]
  congr 1
  .omega
  .omega
def sv(m:Nat)(e:Int):Nat:=m*2 ^ (e+1074).toNat
def sg(s:Bool)(n:Nat):Int:=if s then -(n:Int)else(n:Int)
theorem xbf{mag:Nat}{place:Int}(hp:-1074<=place)(hd:place<x3r place mag->2 ^ (x3r place mag-place).toNat ∣ mag):sv (x5x place mag) (x3r place mag)=sv mag place:=by
 have hlo:-1074<=x3r place mag:=by unfold x3r;omega
 unfold sv x5x
 by_cases c:x3r place mag<=place
 .rw[xgh c,Nat.mul_assoc,<-Nat.pow_add]
  congr 2;omega
 .rw[xgi c]
  obtain⟨q,hq⟩:=hd (by omega)
  have e:mag / 2 ^ (x3r place mag-place).toNat=q:=Nat.div_eq_of_eq_mul_right (Nat.two_pow_pos _) hq
  rw[e]
  have e2:mag*2 ^ (place+1074).toNat=2 ^ (x3r place mag-place).toNat*q*2 ^ (place+1074).toNat:=congrArg (·*2 ^ (place+1074).toNat) hq
  rw[e2,Nat.mul_comm (2 ^ _) q,Nat.mul_assoc,<-Nat.pow_add]
  congr 2;omega
def IsI(w:Nat)(n:Int):Prop:=∃s m e,double.read w=.number s m e/\-1074<=e/\e<=900/\sg s (sv m e)=n*2 ^ 1074
theorem near_I{neg:Bool}{mag:Nat}{place:Int}{N:Nat}(hp:-1074<=place)(hp2:place<=900)(hN:N<2 ^ 53)(h:sv mag place=N*2 ^ 1074) :
 ∃m e,double.read (double.nearest neg mag place)=.number neg m e/\-1074<=e/\e<=900/\sv m e=N*2 ^ 1074:=by
 by_cases h0:mag=0
 .subst h0
  refine⟨0,-1074,?_,by omega,by omega,?_⟩
  .unfold Format.nearest
   rw[xgh rfl,x9o neg (by omega),xgh (by omega)]
  .rw[<-h];unfold sv;simp
 .have hpos:0<mag:=by omega
  have hl:=Nat.log2_self_le (n:=mag) (by omega)
  have hu:mag<2 ^ (mag.log2+1):=Nat.lt_log2_self
  have hL:place+(mag.log2:Int)<=52:=by
   rcases Int.lt_or_le 52 (place+(mag.log2:Int))with hc|hc
   .exfalso
    unfold sv at h
    have h1:2 ^ mag.log2*2 ^ (place+1074).toNat<=mag*2 ^ (place+1074).toNat:=xhd _ hl
    rw[h,<-Nat.pow_add]at h1
    have h2:N*2 ^ 1074<2 ^ 53*2 ^ 1074:=Nat.mul_lt_mul_of_pos_right hN (Nat.two_pow_pos _)
    rw[<-Nat.pow_add]at h2
    have h3:2 ^ (53+1074)<=2 ^ (mag.log2+(place+1074).toNat):=Nat.pow_le_pow_right (by omega) (by omega)
    omega
   .exact hc
  have hd:place<x3r place mag->2 ^ (x3r place mag-place).toNat ∣ mag:=by
   intro hlt
   have hneg:place<0:=by unfold x3r at hlt;omega
   have e:mag=N*2 ^ (-place).toNat:=by
    unfold sv at h
    have:(1074:Nat)=(place+1074).toNat+(-place).toNat:=by omega
    rw[this,Nat.pow_add,Nat.mul_comm (2 ^ (place+1074).toNat),<-Nat.mul_assoc]at h
    exact Nat.eq_of_mul_eq_mul_right (Nat.two_pow_pos _) h
   have hdv:2 ^ (-place).toNat ∣ mag:=⟨N,by rw[Nat.mul_comm];exact e⟩
   refine Nat.dvd_trans (Nat.pow_dvd_pow 2 ?_) hdv
   have:x3r place mag<=0:=by unfold x3r;omega
   omega
  have hb:x3r place mag<=900:=by unfold x3r;omega
  exact⟨_,_,xbe neg hpos hd hb,by unfold x3r;omega,hb,by rw[xbf hp hd];exact h⟩
theorem xbg{neg:Bool}{mag:Nat}{place:Int}(hp:-1074<=place)(hp2:place<=800)(hm:mag<2 ^ 53) :
 ∃m e,double.read (double.nearest neg mag place)=.number neg m e/\-1074<=e/\e<=900/\sv m e=sv mag place:=by
 by_cases h0:mag=0
 .subst h0
  refine⟨0,-1074,?_,by omega,by omega,?_⟩
  .unfold Format.nearest
   rw[xgh rfl,x9o neg (by omega),xgh (by omega)]
  .unfold sv;simp
 .have hl:mag.log2<=52:=by
   have:=(Nat.log2_lt (n:=mag) (k:=53) (by omega)).mpr hm
   omega
  have hd:place<x3r place mag->2 ^ (x3r place mag-place).toNat ∣ mag:=λhlt=>by unfold x3r at hlt;omega
  have hb:x3r place mag<=900:=by unfold x3r;omega
  exact⟨_,_,xbe neg (by omega) hd hb,by unfold x3r;omega,hb,xbf hp hd⟩
end Go.Ix
namespace Go.Ix
open Ieee
variable{P:Program}
def OkR(P:Program){α:Type}(s:Sem α)(R:α->Prop):Prop:=safe P s/\∀v,may P s v->R v
theorem OkR.pure{α:Type}{a:α}{R:α->Prop}(h:R a):OkR P (.pure a) R:=⟨trivial,λ_ e=>e▸h⟩
theorem OkR.bind{α β:Type}{Q:α->Prop}{R:β->Prop}{f:α->Sem β}(hf:∀v,Q v->OkR P (f v) R):∀{s:Sem α},OkR P s Q->OkR P (s.bind f) R
 | .pure a,h=>hf a (h.2 a rfl)
 | .program k,h=>OkR.bind (s:=k P) hf h
 | .mark _ k,h=>OkR.bind (s:=k) hf h
 | .choose q k,h=>by
  unfold OkR at h
  unfold Sem.bind OkR
  simp only[safe,may]at h ⊢
  by_cases c:q.forced=true
  .simp only[xgh c]at h ⊢
   exact OkR.bind (s:=k 0) hf h
  .simp only[xgi c]at h ⊢
   exact⟨λt=>(OkR.bind (s:=k (q.cut t)) hf ⟨h.1 t,λv hv=>h.2 v ⟨t,hv⟩⟩).1,λv ⟨t,hv⟩=>(OkR.bind (s:=k (q.cut t)) hf ⟨h.1 t,λv hv=>h.2 v ⟨t,hv⟩⟩).2 v hv⟩
 | .load ..,h=>h.1.elim
 | .store ..,h=>h.1.elim
 | .new ..,h=>h.1.elim
 | .shape ..,h=>h.1.elim
 | .freeze ..,h=>h.1.elim
 | .frozen ..,h=>h.1.elim
 | .getObj ..,h=>h.1.elim
 | .setObj ..,h=>h.1.elim
 | .sys ..,h=>h.1.elim
 | .halt ..,h=>h.1.elim
theorem OkR.choose{α:Type}{q:Question}{k:Nat->Sem α}{R:α->Prop}(hq:q.forced=false)(h:∀t,OkR P (k (q.cut t)) R):OkR P (.choose q k) R:=by
 unfold OkR
 simp only[safe,may,hq,xha,xgy]
 exact⟨λt=>(h t).1,λv ⟨t,hv⟩=>(h t).2 v hv⟩
theorem x8u{α:Type}:∀{s:Sem α},safe P s->∃v,may P s v
 | .pure a,_=>⟨a,rfl⟩
 | .program k,h=>x8u (s:=k P) h
 | .mark _ k,h=>x8u (s:=k) h
 | .choose q k,h=>by
  simp only[safe,may]at h ⊢
  by_cases c:q.forced=true
  .simp only[xgh c]at h ⊢
   exact x8u h
  .simp only[xgi c]at h ⊢
   obtain⟨v,hv⟩:=x8u (h 0)
   exact⟨v,0,hv⟩
 | .load ..,h=>h.elim
 | .store ..,h=>h.elim
 | .new ..,h=>h.elim
 | .shape ..,h=>h.elim
 | .freeze ..,h=>h.elim
 | .frozen ..,h=>h.elim
 | .getObj ..,h=>h.elim
 | .setObj ..,h=>h.elim
 | .sys ..,h=>h.elim
 | .halt ..,h=>h.elim
theorem x81{α:Type}:∀{s:Sem α} {v:α},x3w P s=some v->may P s v
 | .pure a,v,h=>by cases h;rfl
 | .program k,v,h=>x81 (s:=k P) h
 | .mark _ k,v,h=>x81 (s:=k) h
 | .choose ..,v,h=>by cases h
 | .load ..,v,h=>by cases h
 | .store ..,v,h=>by cases h
 | .new ..,v,h=>by cases h
 | .shape ..,v,h=>by cases h
 | .freeze ..,v,h=>by cases h
 | .frozen ..,v,h=>by cases h
 | .getObj ..,v,h=>by cases h
 | .setObj ..,v,h=>by cases h
 | .sys ..,v,h=>by cases h
 | .halt ..,v,h=>by cases h
theorem x8v{α β:Type}{f:α->Sem β}{v:α}{u:β}(hu:may P (f v) u):∀{s:Sem α},may P s v->may P (s.bind f) u
 | .pure a,h=>by cases h;exact hu
 | .program k,h=>x8v hu (s:=k P) h
 | .mark _ k,h=>x8v hu (s:=k) h
 | .choose q k,h=>by
  unfold Sem.bind
  simp only[may]at h ⊢
  by_cases c:q.forced=true
  .simp only[xgh c]at h ⊢
   exact x8v hu h
  .simp only[xgi c]at h ⊢
   obtain⟨t,ht⟩:=h
   exact⟨t,x8v hu ht⟩
 | .load ..,h=>h.elim
 | .store ..,h=>h.elim
 | .new ..,h=>h.elim
 | .shape ..,h=>h.elim
 | .freeze ..,h=>h.elim
 | .frozen ..,h=>h.elim
 | .getObj ..,h=>h.elim
 | .setObj ..,h=>h.elim
 | .sys ..,h=>h.elim
 | .halt ..,h=>h.elim
def NE(a:AV):Prop:=∃v,conc a v
def Is(R:Value->Prop)(a:AV):Prop:=NE a/\∀v,conc a v->R v
theorem x7l{a:AV}{v:Value}(h:x3s a=some v):conc a v:=by
 cases a<;>first|exact h|cases h
theorem tv_none{a:AV}(h:x3s a=none)(hn:NE a):∃p,a=.un p:=by
 obtain⟨u,hu⟩:=hn
 cases a<;>first|exact⟨_,rfl⟩|exact nomatch h.symm.trans hu
theorem one1_of{v:Value}(h:one1 v):x40 v=.sc v:=by
 cases v<;>first|rfl|(exact absurd h.2.1 (by simp[Value.oneCell']))
theorem conc_sc{v u:Value}:conc (.sc v) u↔u=v:=by
 constructor
 .intro h;cases h;rfl
 .intro h;rw[h];rfl
theorem Is.sc{R:Value->Prop}{v:Value}(h:R v):Is R (.sc v):=⟨⟨v,rfl⟩,λu hu=>by rw[conc_sc.mp hu];exact h⟩
theorem Is.mono{R Q:Value->Prop}{a:AV}(h:Is R a)(hi:∀v,R v->Q v):Is Q a:=⟨h.1,λv hv=>hi v (h.2 v hv)⟩
theorem canon_R{q R:Value->Prop}(hn:∃v,q v)(h:∀v,q v->one1 v/\R v):∃r,x6w q=some r/\Is R r:=by
 unfold x6w
 by_cases c:∃v0,∀v,q v->v=v0
 .rw[dif_pos c]
  have hc:=Classical.choose_spec c
  obtain⟨v,hv⟩:=hn
  refine⟨_,rfl,Is.sc ?_⟩
  rw[<-hc v hv]
  exact(h v hv).2
 .rw[dif_neg c,xgh (λv hv=>(h v hv).1)]
  exact⟨_,rfl,hn,λv hv=>(h v hv).2⟩
theorem canon_1{q:Value->Prop}{v0:Value}(hn:∃v,q v)(h:∀v,q v->v=v0):x6w q=some (.sc v0):=by
 unfold x6w
 have c:∃v0,∀v,q v->v=v0:=⟨v0,h⟩
 rw[dif_pos c]
 have hc:=Classical.choose_spec c
 obtain⟨v,hv⟩:=hn
 have e1:=hc v hv
 have e2:=h v hv
 rw[<-e1,e2]
section
variable{l:List AV}{s:List Value->Sem Value}{R:Value->Prop}
theorem abs_ne(hn:∃vs,x49 l vs)(h:∀vs,x49 l vs->OkR P (s vs) R):∃v vs,x49 l vs/\may P (s vs) v:=by
 obtain⟨vs,hvs⟩:=hn
 obtain⟨v,hv⟩:=x8u (h vs hvs).1
 exact⟨v,vs,hvs,hv⟩
theorem absOp_R(hn:∃vs,x49 l vs)(h:∀vs,x49 l vs->OkR P (s vs) (λz=>one1 z/\R z)):∃r,x50 P l s=some r/\Is R r:=by
 unfold x50
 rw[xgh ⟨hn,λvs hvs=>(h vs hvs).1⟩]
 exact canon_R (abs_ne hn h) (λv ⟨vs,hvs,hv⟩=>(h vs hvs).2 v hv)
theorem absOp_1{v0:Value}(hn:∃vs,x49 l vs)(h:∀vs,x49 l vs->OkR P (s vs) (·=v0)):x50 P l s=some (.sc v0):=by
 unfold x50
 rw[xgh ⟨hn,λvs hvs=>(h vs hvs).1⟩]
 exact canon_1 (abs_ne hn h) (λv ⟨vs,hvs,hv⟩=>(h vs hvs).2 v hv)
theorem op_R{o:Option AV}(ho:∀r,o=some r->∃vs z,x49 l vs/\may P (s vs) z/\r=x40 z)(hn:∃vs,x49 l vs)(h:∀vs,x49 l vs->OkR P (s vs) (λz=>one1 z/\R z)):∃r,(match o with|some r=>some r|none=>x50 P l s)=some r/\Is R r:=by
 cases o with
 |none=>exact absOp_R hn h
 |some r=>
  obtain⟨vs,z,h1,h2,h3⟩:=ho r rfl
  obtain⟨g1,g2⟩:=(h vs h1).2 z h2
  exact⟨r,rfl,by rw[h3,one1_of g1];exact Is.sc g2⟩
theorem op_1{o:Option AV}{v0:Value}(hv:x40 v0=.sc v0)(ho:∀r,o=some r->∃vs z,x49 l vs/\may P (s vs) z/\r=x40 z)(hn:∃vs,x49 l vs)(h:∀vs,x49 l vs->OkR P (s vs) (·=v0)):(match o with|some r=>some r|none=>x50 P l s)=some (.sc v0):=by
 cases o with
 |none=>exact absOp_1 hn h
 |some r=>
  obtain⟨vs,z,h1,h2,h3⟩:=ho r rfl
  have g:=(h vs h1).2 z h2
  rw[h3,g,hv]
end
theorem bin0_s{op:BinOp}{t:TypeId}{x y:Operand}{a b:AV}(ha:NE a)(hb:NE b):∀r,bin0 P op t x y a b=some r->∃vs z,x49 [a,b] vs/\may P (binS op t x y vs) z/\r=x40 z:=by
 intro r h
 unfold bin0 at h
 cases ea:x3s a with
 |none=>
  obtain⟨p,rfl⟩:=tv_none ea ha
  cases eb:x3s b with
  |none=>simp[ea,eb]at h
  |some v=>
   simp only[ea,eb]at h
   split at h
   .rename_i h1 h2;cases h1
   .split at h
    .rename_i h1;cases h1
    .rename_i h1;cases h1
    .cases h
   .cases h
 |some u=>
  cases eb:x3s b with
  |none=>simp[ea,eb]at h
  |some v=>
   simp only[ea,eb,xgl]at h
   obtain⟨z,hz,rfl⟩:=h
   exact⟨[u,v],z,⟨x7l ea,x7l eb,trivial⟩,x81 hz,rfl⟩
theorem cs2{a b:AV}(ha:NE a)(hb:NE b):∃vs,x49 [a,b] vs:=by
 obtain⟨u,hu⟩:=ha
 obtain⟨v,hv⟩:=hb
 exact⟨[u,v],hu,hv,trivial⟩
theorem cs1{a:AV}(ha:NE a):∃vs,x49 [a] vs:=by
 obtain⟨u,hu⟩:=ha
 exact⟨[u],hu,trivial⟩
theorem cs2'{a b:AV}{Q:List Value->Prop}(h:∀u v,conc a u->conc b v->Q [u,v]):∀vs,x49 [a,b] vs->Q vs
 |[],h0=>h0.elim
 |[_],h0=>h0.2.elim
 |[u,v],h0=>h u v h0.1 h0.2.1
 |_::_::_::_,h0=>h0.2.2.elim
theorem cs1'{a:AV}{Q:List Value->Prop}(h:∀u,conc a u->Q [u]):∀vs,x49 [a] vs->Q vs
 |[],h0=>h0.elim
 |[u],h0=>h u h0.1
 |_::_::_,h0=>h0.2.elim
section
variable{op:BinOp}{t:TypeId}{x y:Operand}{a b:AV}{R A B:Value->Prop}{v0:Value}
theorem sBin_R(ha:Is A a)(hb:Is B b)(h:∀u v,A u->B v->OkR P (binS op t x y [u,v]) (λz=>one1 z/\R z)):∃r,sBin P op t x y a b=some r/\Is R r:=
 op_R (bin0_s ha.1 hb.1) (cs2 ha.1 hb.1) (cs2' λu v hu hv=>h u v (ha.2 u hu) (hb.2 v hv))
theorem sBin_1(ha:Is A a)(hb:Is B b)(hv:x40 v0=.sc v0)(h:∀u v,A u->B v->OkR P (binS op t x y [u,v]) (·=v0)):sBin P op t x y a b=some (.sc v0):=
 op_1 hv (bin0_s ha.1 hb.1) (cs2 ha.1 hb.1) (cs2' λu v hu hv=>h u v (ha.2 u hu) (hb.2 v hv))
end
theorem toVals1{a:AV}{vs:List Value}(h:x45 [a]=some vs):∃u,vs=[u]/\conc a u:=by
 unfold x45 at h
 cases e:x3s a with
 |none=>simp[e]at h
 |some u=>simp[e,x45]at h;exact⟨u,h.symm,x7l e⟩
section
variable{b:Builtin}{f:FuncId}{ts:Array TypeId}{t s d:TypeId}{a c:AV}{R A C:Value->Prop}{v0:Value}{uo:UnOp}
theorem sCvt_R(ha:Is A a)(hno:∀u,conc a u->x7o P s d u=none)(h:∀u,A u->OkR P (convert s d u) (λz=>one1 z/\R z)):∃r,sCvt P s d a=some r/\Is R r:=by
 refine op_R (l:=[a]) (s:=cvtS s d) ?_ (cs1 ha.1) (cs1' λu hu=>h u (ha.2 u hu))
 intro r hr
 unfold cvt0 at hr
 cases e:x3s a with
 |none=>simp[e]at hr
 |some u=>
  simp only[e,hno u (x7l e),xgl]at hr
  obtain⟨z,hz,rfl⟩:=hr
  exact⟨[u],z,⟨x7l e,trivial⟩,x81 hz,rfl⟩
theorem sExt_R(ha:Is A a)(h:∀u,A u->OkR P (callFunc f #[u] >>= extK) (λz=>one1 z/\R z)):∃r,x6j P f [a]=some r/\Is R r:=by
 refine op_R (l:=[a]) (s:=extS f) ?_ (cs1 ha.1) (cs1' λu hu=>h u (ha.2 u hu))
 intro r hr
 unfold ext0 at hr
 cases e:x45 [a]with
 |none=>simp[e]at hr
 |some vs=>
  obtain⟨u,rfl,hu⟩:=toVals1 e
  simp only[e]at hr
  split at hr
  .rename_i z hz
   cases hr
   have hm:=x81 hz
   refine⟨[u],z,⟨hu,trivial⟩,?_,rfl⟩
   exact x8v (f:=extK) (v:=.value z) (u:=z) (show may P (extK (.value z)) z from rfl) hm
  .cases hr
end
end Go.Ix
