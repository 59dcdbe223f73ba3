import Derived.Test.YtklcdahoajabmaaWg2
import Derived.Test.YtklcdahoajabmaaWg0
set_option maxRecDepth 100000
namespace Go.Proofs.Ytklcdahoajabmaa
open Go.ChangeShapes Go.WideShapes Go.ChangeAt Go.RowKit Go.Ix
def xgu(P:Program):Nat->TypeId->Bool
 |0,_=>false
 |k+1,t=>match P.underlying t with
  |some (.int .i64)=>true
  |some (.struct fs)=>fs.toList.all (λf=>xgu P k f.type)&&(match tile P 0 fs.toList with|some n=>Nat.beq n (P.cellsOf t)|none=>false)
  |some (.array n e)=>xgu P k e&&Nat.beq (n*P.cellsOf e) (P.cellsOf t)
  |_=>false
theorem xoh{P:Program}:∀{fs:List Field} {off n:Nat},tile P off fs=some n->∀i,off<=i->i<n->∃f∈fs,f.offset<=i/\i<f.offset+P.cellsOf f.type
 |[],off,n,h,i,h1,h2=>by
  simp only[tile,xtd]at h
  omega
 |f::fs,off,n,h,i,h1,h2=>by
  simp only[tile]at h
  cases hb:Nat.beq f.offset off with
  |false=>rw[hb]at h;cases h
  |true=>
   rw[hb,cond_true]at h
   have hoff:=xtj hb
   by_cases c:i<off+P.cellsOf f.type
   .exact⟨f,xtk ..,by omega,by omega⟩
   .obtain⟨g,hg,h3⟩:=xoh h i (by omega) h2
    exact⟨g,xti _ hg,h3⟩
theorem xjh{P:Program}:∀(k:Nat) {t:TypeId} {q:List AV},xgu P k t=true->Sh P t q->∀a∈q,∃n,a=I n
 |0,_,_,h,_=>by simp[xgu]at h
 |k+1,t,q,h,hs=>by
  simp only[xgu]at h
  split at h
  .rename_i e
   obtain⟨n,rfl,-⟩:=Sh.int_inv e hs
   intro a ha
   simp at ha
   exact⟨n,ha⟩
  .rename_i fs e
   rw[xte,xtg]at h
   obtain⟨h1,h2⟩:=h
   obtain⟨hl,hf⟩:=Sh.struct_inv e hs
   split at h2
   .rename_i n hn
    have hn2:=xtj h2
    intro a ha
    obtain⟨i,hi,rfl⟩:=xwg.mp ha
    obtain⟨f,hfm,f1,f2⟩:=xoh hn i (xw5 _) (by omega)
    refine xjh k (h1 f hfm) (hf f hfm) _ ?_
    rw[xwg]
    refine⟨i-f.offset,by simp;omega,?_⟩
    rw[List.getElem_take,List.getElem_drop]
    congr 1;omega
   .cases h2
  .rename_i n e' e
   rw[xte]at h
   have hn:=xtj h.2
   cases hs with
   |array h' _ hl hf=>
    rw[e]at h';cases h'
    intro a ha
    obtain⟨i,hi,rfl⟩:=xwg.mp ha
    have hz:0<P.cellsOf e':=by
     rcases Nat.eq_zero_or_pos (P.cellsOf e')with h0|h0
     .rw[h0]at hn;omega
     .exact h0
    have hlt:i / P.cellsOf e'<n:=(Nat.div_lt_iff_lt_mul hz).mpr (by omega)
    refine xjh k h.1 (hf (i / P.cellsOf e') hlt) _ ?_
    rw[xwg]
    have hm:=xuj i hz
    have hd:=Nat.div_add_mod i (P.cellsOf e')
    rw[Nat.mul_comm]at hd
    have hd2:(i / P.cellsOf e')*P.cellsOf e'+i % P.cellsOf e'<q.length:=by omega
    refine⟨i % P.cellsOf e',by simp;omega,?_⟩
    rw[List.getElem_take,List.getElem_drop]
    congr 1
   |string h'=>rw[e]at h';cases h'
   |int h'=>rw[e]at h';cases h'
   |nilS h'=>rw[e]at h';cases h'
   |slice h'=>rw[e]at h';cases h'
   |bool h'=>rw[e]at h';cases h'
   |float h'=>rw[e]at h';cases h'
   |struct h'=>rw[e]at h';cases h'
  .cases h
end Go.Proofs.Ytklcdahoajabmaa
set_option linter.unusedSimpArgs false
set_option linter.unusedVariables false
set_option exponentiation.threshold 3000
namespace Go.Ix
open Ieee
theorem cut_0(neg:Bool)(n:Nat):Toward.even.cut neg n 0=n:=by
 unfold Toward.cut
 simp[Nat.mod_one]
theorem cut_dvd(neg:Bool){n k:Nat}(h0:0<n)(h:2 ^ k ∣ n):Toward.even.cut neg n k=n / 2 ^ k:=by
 have h1:2 ^ k<=n:=Nat.le_of_dvd h0 h
 have h2:k<=n.log2:=(Nat.le_log2 (by omega)).mpr h1
 unfold Toward.cut
 rw[xx4 (by omega)]
 simp only[Nat.shiftLeft_eq,Nat.one_mul,Nat.mod_eq_zero_of_dvd h,Nat.mul_zero]
 have:0<2 ^ k:=Nat.two_pow_pos k
 simp
def xcz(place:Int)(mag:Nat):Int:=max (place+mag.log2-52) (-1074)
def xfm(place:Int)(mag:Nat):Nat:=if xcz place mag<=place then mag*2 ^ (place-xcz place mag).toNat else mag / 2 ^ (xcz place mag-place).toNat
theorem xqw(neg:Bool){mag:Nat}{place:Int}(h0:0<mag)(hd:place<xcz place mag->2 ^ (xcz place mag-place).toNat ∣ mag) :
 double.nearest neg mag place=double.word neg (min ((xcz place mag+1074).toNat*2 ^ 52+xfm place mag) (2047*2 ^ 52)):=by
 unfold Format.nearest
 rw[xtb (by omega)]
 have e1:double.leastPlace=-1074:=rfl
 have e2:(double.fractionBits:Int)=52:=rfl
 have e3:double.binade=2 ^ 52:=rfl
 have e4:double.infRung=2047*2 ^ 52:=rfl
 simp only[e1,e2,e3,e4]
 rw[show max (place+(mag.log2:Int)-52) (-1074)=xcz place mag from rfl]
 have e5:xcz place mag - -1074=xcz place mag+1074:=by omega
 rw[e5]
 suffices hk:Toward.even.cut neg (mag <<< (place-xcz place mag).toNat) (xcz place mag-place).toNat=xfm place mag by rw[hk]
 .unfold xfm
  by_cases c:xcz place mag<=place
  .rw[xta c,show(xcz place mag-place).toNat=0 by omega,cut_0,Nat.shiftLeft_eq]
  .rw[xtb c,show(place-xcz place mag).toNat=0 by omega,Nat.shiftLeft_zero]
   exact cut_dvd neg h0 (hd (by omega))
theorem kept_bd{mag:Nat}{place:Int}(h0:0<mag)(hd:place<xcz place mag->2 ^ (xcz place mag-place).toNat ∣ mag):xfm place mag<2 ^ 53/\(-1074<xcz place mag->2 ^ 52<=xfm place mag):=by
 have hl:=Nat.log2_self_le (n:=mag) (by omega)
 have hu:mag<2 ^ (mag.log2+1):=Nat.lt_log2_self
 unfold xfm
 by_cases c:xcz place mag<=place
 .rw[xta c]
  constructor
  .have e:(place-xcz place mag).toNat+(mag.log2+1)<=53:=by unfold xcz at *;omega
   calc mag*2 ^ (place-xcz place mag).toNat<2 ^ (mag.log2+1)*2 ^ (place-xcz place mag).toNat:=Nat.mul_lt_mul_of_pos_right hu (Nat.two_pow_pos _)
    _=2 ^ (mag.log2+1+(place-xcz place mag).toNat):=(Nat.pow_add ..).symm
    _<=2 ^ 53:=Nat.pow_le_pow_right (by omega) (by omega)
  .intro hlt
   have e:(place-xcz place mag).toNat+mag.log2=52:=by unfold xcz at *;omega
   calc 2 ^ 52=2 ^ (mag.log2+(place-xcz place mag).toNat):=by rw[<-e,Nat.add_comm]
    _=2 ^ mag.log2*2 ^ (place-xcz place mag).toNat:=Nat.pow_add ..
    _<=mag*2 ^ (place-xcz place mag).toNat:=xu4 _ hl
 .rw[xtb c]
  obtain⟨q,hq⟩:=hd (by omega)
  have hp:=Nat.two_pow_pos (xcz place mag-place).toNat
  have e0:mag / 2 ^ (xcz place mag-place).toNat=q:=Nat.div_eq_of_eq_mul_right hp hq
  rw[e0]
  constructor
  .have e:(xcz place mag-place).toNat+53 ≥ mag.log2+1:=by unfold xcz at *;omega
   have h1:2 ^ (xcz place mag-place).toNat*q<2 ^ (xcz place mag-place).toNat*2 ^ 53:=by
    rw[<-hq,<-Nat.pow_add]
    exact xtn hu (Nat.pow_le_pow_right (by omega) e)
   exact Nat.lt_of_mul_lt_mul_left h1
  .intro hlt
   have e:(xcz place mag-place).toNat+52=mag.log2:=by unfold xcz at *;omega
   have h1:2 ^ (xcz place mag-place).toNat*2 ^ 52<=2 ^ (xcz place mag-place).toNat*q:=by
    rw[<-hq,<-Nat.pow_add,e];exact hl
   exact Nat.le_of_mul_le_mul_left h1 hp
theorem xji(neg:Bool){r:Nat}(hr:r<2047*2 ^ 52):double.read (double.word neg r)=if r<2 ^ 52 then .number neg r (-1074)else .number neg (2 ^ 52+r % 2 ^ 52) (-1074+(r / 2 ^ 52-1:Nat)):=by
 have e1:double.leastPlace=-1074:=rfl
 have e3:double.binade=2 ^ 52:=rfl
 have e4:double.infRung=2047*2 ^ 52:=rfl
 have e5:double.signWeight=2 ^ 63:=rfl
 unfold Format.read Format.word
 simp only[e1,e3,e4,e5]
 have h1:(if neg=true then 2 ^ 63+r else r) % 2 ^ 63=r:=by
  cases neg
  .simp;omega
  .simp;omega
 have h2:((if neg=true then 2 ^ 63+r else r) / 2 ^ 63 % 2 == 1)=neg:=by
  cases neg
  .have:r / 2 ^ 63=0:=by omega
   simp[this]
  .have:(2 ^ 63+r) / 2 ^ 63=1:=by omega
   simp[this]
 rw[h1,h2]
 by_cases c:r<2 ^ 52
 .rw[xta c,xta c]
 .rw[xtb c,xtb c,xta hr]
theorem xlk(neg:Bool){mag:Nat}{place:Int}(h0:0<mag)(hd:place<xcz place mag->2 ^ (xcz place mag-place).toNat ∣ mag)(hb:xcz place mag<=900) :
 double.read (double.nearest neg mag place)=.number neg (xfm place mag) (xcz place mag):=by
 obtain⟨k1,k2⟩:=kept_bd h0 hd
 rw[xqw neg h0 hd]
 have hlo:-1074<=xcz place mag:=by unfold xcz;omega
 generalize xfm place mag=K at *
 generalize xcz place mag=L at *
 have hr:(L+1074).toNat*2 ^ 52+K<2047*2 ^ 52:=by omega
 rw[xx4 (by omega),xji neg hr]
 by_cases c:L=-1074
 .subst c
  simp only[show((-1074:Int)+1074).toNat=0 from rfl,xty,xuf]
  by_cases c2:K<2 ^ 52
  .rw[xta c2]
  .rw[xtb c2]
   congr 1
   .omega
   .omega
 .have hK:=k2 (by omega)
  rw[xtb (by omega)]
  congr 1
  .omega
  .omega
def sv(m:Nat)(e:Int):Nat:=m*2 ^ (e+1074).toNat
def sg(s:Bool)(n:Nat):Int:=if s then -(n:Int)else(n:Int)
theorem xll{mag:Nat}{place:Int}(hp:-1074<=place)(hd:place<xcz place mag->2 ^ (xcz place mag-place).toNat ∣ mag):sv (xfm place mag) (xcz place mag)=sv mag place:=by
 have hlo:-1074<=xcz place mag:=by unfold xcz;omega
 unfold sv xfm
 by_cases c:xcz place mag<=place
 .rw[xta c,Nat.mul_assoc,<-Nat.pow_add]
  congr 2;omega
 .rw[xtb c]
  obtain⟨q,hq⟩:=hd (by omega)
  have e:mag / 2 ^ (xcz place mag-place).toNat=q:=Nat.div_eq_of_eq_mul_right (Nat.two_pow_pos _) hq
  rw[e]
  have e2:mag*2 ^ (place+1074).toNat=2 ^ (xcz place mag-place).toNat*q*2 ^ (place+1074).toNat:=congrArg (·*2 ^ (place+1074).toNat) hq
  rw[e2,Nat.mul_comm (2 ^ _) q,Nat.mul_assoc,<-Nat.pow_add]
  congr 2;omega
def IsI(w:Nat)(n:Int):Prop:=∃s m e,double.read w=.number s m e/\-1074<=e/\e<=900/\sg s (sv m e)=n*2 ^ 1074
theorem near_I{neg:Bool}{mag:Nat}{place:Int}{N:Nat}(hp:-1074<=place)(hp2:place<=900)(hN:N<2 ^ 53)(h:sv mag place=N*2 ^ 1074) :
 ∃m e,double.read (double.nearest neg mag place)=.number neg m e/\-1074<=e/\e<=900/\sv m e=N*2 ^ 1074:=by
 by_cases h0:mag=0
 .subst h0
  refine⟨0,-1074,?_,by omega,by omega,?_⟩
  .unfold Format.nearest
   rw[xta rfl,xji neg (by omega),xta (by omega)]
  .rw[<-h];unfold sv;simp
 .have hpos:0<mag:=by omega
  have hl:=Nat.log2_self_le (n:=mag) (by omega)
  have hu:mag<2 ^ (mag.log2+1):=Nat.lt_log2_self
  have hL:place+(mag.log2:Int)<=52:=by
   rcases Int.lt_or_le 52 (place+(mag.log2:Int))with hc|hc
   .exfalso
    unfold sv at h
    have h1:2 ^ mag.log2*2 ^ (place+1074).toNat<=mag*2 ^ (place+1074).toNat:=xu4 _ hl
    rw[h,<-Nat.pow_add]at h1
    have h2:N*2 ^ 1074<2 ^ 53*2 ^ 1074:=Nat.mul_lt_mul_of_pos_right hN (Nat.two_pow_pos _)
    rw[<-Nat.pow_add]at h2
    have h3:2 ^ (53+1074)<=2 ^ (mag.log2+(place+1074).toNat):=Nat.pow_le_pow_right (by omega) (by omega)
    omega
   .exact hc
  have hd:place<xcz place mag->2 ^ (xcz place mag-place).toNat ∣ mag:=by
   intro hlt
   have hneg:place<0:=by unfold xcz at hlt;omega
   have e:mag=N*2 ^ (-place).toNat:=by
    unfold sv at h
    have:(1074:Nat)=(place+1074).toNat+(-place).toNat:=by omega
    rw[this,Nat.pow_add,Nat.mul_comm (2 ^ (place+1074).toNat),<-Nat.mul_assoc]at h
    exact Nat.eq_of_mul_eq_mul_right (Nat.two_pow_pos _) h
   have hdv:2 ^ (-place).toNat ∣ mag:=⟨N,by rw[Nat.mul_comm];exact e⟩
   refine Nat.dvd_trans (Nat.pow_dvd_pow 2 ?_) hdv
   have:xcz place mag<=0:=by unfold xcz;omega
   omega
  have hb:xcz place mag<=900:=by unfold xcz;omega
  exact⟨_,_,xlk neg hpos hd hb,by unfold xcz;omega,hb,by rw[xll hp hd];exact h⟩
theorem xlm{neg:Bool}{mag:Nat}{place:Int}(hp:-1074<=place)(hp2:place<=800)(hm:mag<2 ^ 53) :
 ∃m e,double.read (double.nearest neg mag place)=.number neg m e/\-1074<=e/\e<=900/\sv m e=sv mag place:=by
 by_cases h0:mag=0
 .subst h0
  refine⟨0,-1074,?_,by omega,by omega,?_⟩
  .unfold Format.nearest
   rw[xta rfl,xji neg (by omega),xta (by omega)]
  .unfold sv;simp
 .have hl:mag.log2<=52:=by
   have:=(Nat.log2_lt (n:=mag) (k:=53) (by omega)).mpr hm
   omega
  have hd:place<xcz place mag->2 ^ (xcz place mag-place).toNat ∣ mag:=λhlt=>by unfold xcz at hlt;omega
  have hb:xcz place mag<=900:=by unfold xcz;omega
  exact⟨_,_,xlk neg (by omega) hd hb,by unfold xcz;omega,hb,xll hp hd⟩
end Go.Ix
namespace Go.Ix
open Ieee
variable{P:Program}
def OkR(P:Program){α:Type}(s:Sem α)(R:α->Prop):Prop:=safe P s/\∀v,may P s v->R v
theorem OkR.pure{α:Type}{a:α}{R:α->Prop}(h:R a):OkR P (.pure a) R:=⟨trivial,λ_ e=>e▸h⟩
theorem OkR.bind{α β:Type}{Q:α->Prop}{R:β->Prop}{f:α->Sem β}(hf:∀v,Q v->OkR P (f v) R):∀{s:Sem α},OkR P s Q->OkR P (s.bind f) R
 | .pure a,h=>hf a (h.2 a rfl)
 | .program k,h=>OkR.bind (s:=k P) hf h
 | .mark _ k,h=>OkR.bind (s:=k) hf h
 | .choose q k,h=>by
  unfold OkR at h
  unfold Sem.bind OkR
  simp only[safe,may]at h ⊢
  by_cases c:q.forced=true
  .simp only[xta c]at h ⊢
   exact OkR.bind (s:=k 0) hf h
  .simp only[xtb c]at h ⊢
   exact⟨λt=>(OkR.bind (s:=k (q.cut t)) hf ⟨h.1 t,λv hv=>h.2 v ⟨t,hv⟩⟩).1,λv ⟨t,hv⟩=>(OkR.bind (s:=k (q.cut t)) hf ⟨h.1 t,λv hv=>h.2 v ⟨t,hv⟩⟩).2 v hv⟩
 | .load ..,h=>h.1.elim
 | .store ..,h=>h.1.elim
 | .new ..,h=>h.1.elim
 | .shape ..,h=>h.1.elim
 | .freeze ..,h=>h.1.elim
 | .frozen ..,h=>h.1.elim
 | .getObj ..,h=>h.1.elim
 | .setObj ..,h=>h.1.elim
 | .sys ..,h=>h.1.elim
 | .halt ..,h=>h.1.elim
theorem OkR.choose{α:Type}{q:Question}{k:Nat->Sem α}{R:α->Prop}(hq:q.forced=false)(h:∀t,OkR P (k (q.cut t)) R):OkR P (.choose q k) R:=by
 unfold OkR
 simp only[safe,may,hq,xu6,xtt]
 exact⟨λt=>(h t).1,λv ⟨t,hv⟩=>(h t).2 v hv⟩
theorem xid{α:Type}:∀{s:Sem α},safe P s->∃v,may P s v
 | .pure a,_=>⟨a,rfl⟩
 | .program k,h=>xid (s:=k P) h
 | .mark _ k,h=>xid (s:=k) h
 | .choose q k,h=>by
  simp only[safe,may]at h ⊢
  by_cases c:q.forced=true
  .simp only[xta c]at h ⊢
   exact xid h
  .simp only[xtb c]at h ⊢
   obtain⟨v,hv⟩:=xid (h 0)
   exact⟨v,0,hv⟩
 | .load ..,h=>h.elim
 | .store ..,h=>h.elim
 | .new ..,h=>h.elim
 | .shape ..,h=>h.elim
 | .freeze ..,h=>h.elim
 | .frozen ..,h=>h.elim
 | .getObj ..,h=>h.elim
 | .setObj ..,h=>h.elim
 | .sys ..,h=>h.elim
 | .halt ..,h=>h.elim
theorem xgd{α:Type}:∀{s:Sem α} {v:α},xd0 P s=some v->may P s v
 | .pure a,v,h=>by cases h;rfl
 | .program k,v,h=>xgd (s:=k P) h
 | .mark _ k,v,h=>xgd (s:=k) h
 | .choose ..,v,h=>by cases h
 | .load ..,v,h=>by cases h
 | .store ..,v,h=>by cases h
 | .new ..,v,h=>by cases h
 | .shape ..,v,h=>by cases h
 | .freeze ..,v,h=>by cases h
 | .frozen ..,v,h=>by cases h
 | .getObj ..,v,h=>by cases h
 | .setObj ..,v,h=>by cases h
 | .sys ..,v,h=>by cases h
 | .halt ..,v,h=>by cases h
theorem xie{α β:Type}{f:α->Sem β}{v:α}{u:β}(hu:may P (f v) u):∀{s:Sem α},may P s v->may P (s.bind f) u
 | .pure a,h=>by cases h;exact hu
 | .program k,h=>xie hu (s:=k P) h
 | .mark _ k,h=>xie hu (s:=k) h
 | .choose q k,h=>by
  unfold Sem.bind
  simp only[may]at h ⊢
  by_cases c:q.forced=true
  .simp only[xta c]at h ⊢
   exact xie hu h
  .simp only[xtb c]at h ⊢
   obtain⟨t,ht⟩:=h
   exact⟨t,xie hu ht⟩
 | .load ..,h=>h.elim
 | .store ..,h=>h.elim
 | .new ..,h=>h.elim
 | .shape ..,h=>h.elim
 | .freeze ..,h=>h.elim
 | .frozen ..,h=>h.elim
 | .getObj ..,h=>h.elim
 | .setObj ..,h=>h.elim
 | .sys ..,h=>h.elim
 | .halt ..,h=>h.elim
def NE(a:AV):Prop:=∃v,conc a v
def Is(R:Value->Prop)(a:AV):Prop:=NE a/\∀v,conc a v->R v
theorem xfy{a:AV}{v:Value}(h:xd7 a=some v):conc a v:=by
 cases a<;>first|exact h|cases h
theorem tv_none{a:AV}(h:xd7 a=none)(hn:NE a):∃p,a=.un p:=by
 obtain⟨u,hu⟩:=hn
 cases a<;>first|exact⟨_,rfl⟩|exact nomatch h.symm.trans hu
theorem one1_of{v:Value}(h:one1 v):xdk v=.sc v:=by
 cases v<;>first|rfl|(exact absurd h.2.1 (by simp[Value.oneCell']))
theorem conc_sc{v u:Value}:conc (.sc v) u↔u=v:=by
 constructor
 .intro h;cases h;rfl
 .intro h;rw[h];rfl
theorem Is.sc{R:Value->Prop}{v:Value}(h:R v):Is R (.sc v):=⟨⟨v,rfl⟩,λu hu=>by rw[conc_sc.mp hu];exact h⟩
theorem Is.mono{R Q:Value->Prop}{a:AV}(h:Is R a)(hi:∀v,R v->Q v):Is Q a:=⟨h.1,λv hv=>hi v (h.2 v hv)⟩
theorem canon_R{q R:Value->Prop}(hn:∃v,q v)(h:∀v,q v->one1 v/\R v):∃r,xgi q=some r/\Is R r:=by
 unfold xgi
 by_cases c:∃v0,∀v,q v->v=v0
 .rw[dif_pos c]
  have hc:=Classical.choose_spec c
  obtain⟨v,hv⟩:=hn
  refine⟨_,rfl,Is.sc ?_⟩
  rw[<-hc v hv]
  exact(h v hv).2
 .rw[dif_neg c,xta (λv hv=>(h v hv).1)]
  exact⟨_,rfl,hn,λv hv=>(h v hv).2⟩
theorem canon_1{q:Value->Prop}{v0:Value}(hn:∃v,q v)(h:∀v,q v->v=v0):xgi q=some (.sc v0):=by
 unfold xgi
 have c:∃v0,∀v,q v->v=v0:=⟨v0,h⟩
 rw[dif_pos c]
 have hc:=Classical.choose_spec c
 obtain⟨v,hv⟩:=hn
 have e1:=hc v hv
 have e2:=h v hv
 rw[<-e1,e2]
section
variable{l:List AV}{s:List Value->Sem Value}{R:Value->Prop}
theorem abs_ne(hn:∃vs,xdm l vs)(h:∀vs,xdm l vs->OkR P (s vs) R):∃v vs,xdm l vs/\may P (s vs) v:=by
 obtain⟨vs,hvs⟩:=hn
 obtain⟨v,hv⟩:=xid (h vs hvs).1
 exact⟨v,vs,hvs,hv⟩
theorem absOp_R(hn:∃vs,xdm l vs)(h:∀vs,xdm l vs->OkR P (s vs) (λz=>one1 z/\R z)):∃r,xed P l s=some r/\Is R r:=by
 unfold xed
 rw[xta ⟨hn,λvs hvs=>(h vs hvs).1⟩]
 exact canon_R (abs_ne hn h) (λv ⟨vs,hvs,hv⟩=>(h vs hvs).2 v hv)
theorem absOp_1{v0:Value}(hn:∃vs,xdm l vs)(h:∀vs,xdm l vs->OkR P (s vs) (·=v0)):xed P l s=some (.sc v0):=by
 unfold xed
 rw[xta ⟨hn,λvs hvs=>(h vs hvs).1⟩]
 exact canon_1 (abs_ne hn h) (λv ⟨vs,hvs,hv⟩=>(h vs hvs).2 v hv)
theorem op_R{o:Option AV}(ho:∀r,o=some r->∃vs z,xdm l vs/\may P (s vs) z/\r=xdk z)(hn:∃vs,xdm l vs)(h:∀vs,xdm l vs->OkR P (s vs) (λz=>one1 z/\R z)):∃r,(match o with|some r=>some r|none=>xed P l s)=some r/\Is R r:=by
 cases o with
 |none=>exact absOp_R hn h
 |some r=>
  obtain⟨vs,z,h1,h2,h3⟩:=ho r rfl
  obtain⟨g1,g2⟩:=(h vs h1).2 z h2
  exact⟨r,rfl,by rw[h3,one1_of g1];exact Is.sc g2⟩
theorem op_1{o:Option AV}{v0:Value}(hv:xdk v0=.sc v0)(ho:∀r,o=some r->∃vs z,xdm l vs/\may P (s vs) z/\r=xdk z)(hn:∃vs,xdm l vs)(h:∀vs,xdm l vs->OkR P (s vs) (·=v0)):(match o with|some r=>some r|none=>xed P l s)=some (.sc v0):=by
 cases o with
 |none=>exact absOp_1 hn h
 |some r=>
  obtain⟨vs,z,h1,h2,h3⟩:=ho r rfl
  have g:=(h vs h1).2 z h2
  rw[h3,g,hv]
end
theorem bin0_s{op:BinOp}{t:TypeId}{x y:Operand}{a b:AV}(ha:NE a)(hb:NE b):∀r,bin0 P op t x y a b=some r->∃vs z,xdm [a,b] vs/\may P (binS op t x y vs) z/\r=xdk z:=by
 intro r h
 unfold bin0 at h
 cases ea:xd7 a with
 |none=>
  obtain⟨p,rfl⟩:=tv_none ea ha
  cases eb:xd7 b with
  |none=>simp[ea,eb]at h
  |some v=>
   simp only[ea,eb]at h
   split at h
   .rename_i h1 h2;cases h1
   .split at h
    .rename_i h1;cases h1
    .rename_i h1;cases h1
    .cases h
   .cases h
 |some u=>
  cases eb:xd7 b with
  |none=>simp[ea,eb]at h
  |some v=>
   simp only[ea,eb,xtf]at h
   obtain⟨z,hz,rfl⟩:=h
   exact⟨[u,v],z,⟨xfy ea,xfy eb,trivial⟩,xgd hz,rfl⟩
theorem cs2{a b:AV}(ha:NE a)(hb:NE b):∃vs,xdm [a,b] vs:=by
 obtain⟨u,hu⟩:=ha
 obtain⟨v,hv⟩:=hb
 exact⟨[u,v],hu,hv,trivial⟩
theorem cs1{a:AV}(ha:NE a):∃vs,xdm [a] vs:=by
 obtain⟨u,hu⟩:=ha
 exact⟨[u],hu,trivial⟩
theorem cs2'{a b:AV}{Q:List Value->Prop}(h:∀u v,conc a u->conc b v->Q [u,v]):∀vs,xdm [a,b] vs->Q vs
 |[],h0=>h0.elim
 |[_],h0=>h0.2.elim
 |[u,v],h0=>h u v h0.1 h0.2.1
 |_::_::_::_,h0=>h0.2.2.elim
theorem cs1'{a:AV}{Q:List Value->Prop}(h:∀u,conc a u->Q [u]):∀vs,xdm [a] vs->Q vs
 |[],h0=>h0.elim
 |[u],h0=>h u h0.1
 |_::_::_,h0=>h0.2.elim
section
variable{op:BinOp}{t:TypeId}{x y:Operand}{a b:AV}{R A B:Value->Prop}{v0:Value}
theorem xjj(ha:Is A a)(hb:Is B b)(h:∀u v,A u->B v->OkR P (binS op t x y [u,v]) (λz=>one1 z/\R z)):∃r,sBin P op t x y a b=some r/\Is R r:=
 op_R (bin0_s ha.1 hb.1) (cs2 ha.1 hb.1) (cs2' λu v hu hv=>h u v (ha.2 u hu) (hb.2 v hv))
theorem sBin_1(ha:Is A a)(hb:Is B b)(hv:xdk v0=.sc v0)(h:∀u v,A u->B v->OkR P (binS op t x y [u,v]) (·=v0)):sBin P op t x y a b=some (.sc v0):=
 op_1 hv (bin0_s ha.1 hb.1) (cs2 ha.1 hb.1) (cs2' λu v hu hv=>h u v (ha.2 u hu) (hb.2 v hv))
end
theorem xln{a:AV}{vs:List Value}(h:xdf [a]=some vs):∃u,vs=[u]/\conc a u:=by
 unfold xdf at h
 cases e:xd7 a with
 |none=>simp[e]at h
 |some u=>simp[e,xdf]at h;exact⟨u,h.symm,xfy e⟩
theorem toVals2{a b:AV}{vs:List Value}(h:xdf [a,b]=some vs):∃u v,vs=[u,v]/\conc a u/\conc b v:=by
 unfold xdf at h
 cases e:xd7 a with
 |none=>simp[e]at h
 |some u=>
  cases e2:xdf [b]with
  |none=>simp[e,e2]at h
  |some l=>
   simp[e,e2]at h
   obtain⟨v,hv,hc⟩:=xln e2
   exact⟨u,v,by rw[<-h,hv],xfy e,hc⟩
section
variable{b:Builtin}{f:FuncId}{ts:Array TypeId}{t s d:TypeId}{a c:AV}{R A C:Value->Prop}{v0:Value}{uo:UnOp}
theorem bi0_s1(l:List AV)(hl:∀vs,xdf l=some vs->xdm l vs):∀r,bi0 P b ts t l=some r->∃vs z,xdm l vs/\may P (biS b ts t vs) z/\r=xdk z:=by
 intro r h
 unfold bi0 at h
 cases e:xdf l with
 |none=>simp[e]at h
 |some vs=>
  simp only[e,xtf]at h
  obtain⟨z,hz,rfl⟩:=h
  exact⟨vs,z,hl vs e,xgd hz,rfl⟩
theorem tvs1:∀vs,xdf [a]=some vs->xdm [a] vs:=λvs h=>by
 obtain⟨u,rfl,hu⟩:=xln h
 exact⟨hu,trivial⟩
theorem tvs2:∀vs,xdf [a,c]=some vs->xdm [a,c] vs:=λvs h=>by
 obtain⟨u,v,rfl,hu,hv⟩:=toVals2 h
 exact⟨hu,hv,trivial⟩
theorem xjk(ha:Is A a)(h:∀u,A u->OkR P (biS b ts t [u]) (λz=>one1 z/\R z)):∃r,xd8 P b ts t [a]=some r/\Is R r:=
 op_R (bi0_s1 [a] tvs1) (cs1 ha.1) (cs1' λu hu=>h u (ha.2 u hu))
theorem sCvt_R(ha:Is A a)(hno:∀u,conc a u->xfr P s d u=none)(h:∀u,A u->OkR P (convert s d u) (λz=>one1 z/\R z)):∃r,sCvt P s d a=some r/\Is R r:=by
 refine op_R (l:=[a]) (s:=cvtS s d) ?_ (cs1 ha.1) (cs1' λu hu=>h u (ha.2 u hu))
 intro r hr
 unfold cvt0 at hr
 cases e:xd7 a with
 |none=>simp[e]at hr
 |some u=>
  simp only[e,hno u (xfy e),xtf]at hr
  obtain⟨z,hz,rfl⟩:=hr
  exact⟨[u],z,⟨xfy e,trivial⟩,xgd hz,rfl⟩
theorem sUn_R(ha:Is A a)(h:∀u,A u->OkR P (Op.unary uo u) (λz=>one1 z/\R z)):∃r,sUn P uo a=some r/\Is R r:=by
 refine op_R (l:=[a]) (s:=unS uo) ?_ (cs1 ha.1) (cs1' λu hu=>h u (ha.2 u hu))
 intro r hr
 unfold un0 at hr
 cases e:xd7 a with
 |none=>simp[e]at hr
 |some u=>
  simp only[e,xtf]at hr
  obtain⟨z,hz,rfl⟩:=hr
  exact⟨[u],z,⟨xfy e,trivial⟩,xgd hz,rfl⟩
theorem sExt_R(ha:Is A a)(h:∀u,A u->OkR P (callFunc f #[u] >>= extK) (λz=>one1 z/\R z)):∃r,xg1 P f [a]=some r/\Is R r:=by
 refine op_R (l:=[a]) (s:=extS f) ?_ (cs1 ha.1) (cs1' λu hu=>h u (ha.2 u hu))
 intro r hr
 unfold ext0 at hr
 cases e:xdf [a]with
 |none=>simp[e]at hr
 |some vs=>
  obtain⟨u,rfl,hu⟩:=xln e
  simp only[e]at hr
  split at hr
  .rename_i z hz
   cases hr
   have hm:=xgd hz
   refine⟨[u],z,⟨hu,trivial⟩,?_,rfl⟩
   exact xie (f:=extK) (v:=.value z) (u:=z) (show may P (extK (.value z)) z from rfl) hm
  .cases hr
end
end Go.Ix
namespace Go.Ix
open Ieee
variable{P:Program}
inductive Fc where
 |num (s:Bool) (V:Nat)
 |inf (s:Bool)
 |nan
def Cl:Fc->Nat->Prop
 | .num s V,w=>∃m e,double.read w=.number s m e/\-1074<=e/\e<=900/\sv m e=V
 | .inf s,w=>double.read w=.infinity s
 | .nan,w=>∃s t,double.read w=.nan s t
def fcs(x:Nat):Fc:=match single.read x with
 | .number s m e=>.num s (sv m e)
 | .infinity s=>.inf s
 | .nan ..=>.nan
theorem xqx{x:Nat}{s:Bool}{m:Nat}{e:Int}(h:single.read x=.number s m e):m<2 ^ 24/\-149<=e/\e<=104:=by
 have e1:single.leastPlace=-149:=rfl
 have e3:single.binade=2 ^ 23:=rfl
 have e4:single.infRung=255*2 ^ 23:=rfl
 have e5:single.signWeight=2 ^ 31:=rfl
 unfold Format.read at h
 simp only[e1,e3,e4,e5]at h
 generalize x % 2 ^ 31=r at h
 split at h
 .cases h;omega
 .split at h
  .cases h;omega
  .split at h<;>cases h
theorem xhf{x:Nat}{s:Bool}{m:Nat}{e:Int}(h:double.read x=.number s m e):m<2 ^ 53/\-1074<=e/\e<=971:=by
 have e1:double.leastPlace=-1074:=rfl
 have e3:double.binade=2 ^ 52:=rfl
 have e4:double.infRung=2047*2 ^ 52:=rfl
 have e5:double.signWeight=2 ^ 63:=rfl
 unfold Format.read at h
 simp only[e1,e3,e4,e5]at h
 generalize x % 2 ^ 63=r at h
 split at h
 .cases h;omega
 .split at h
  .cases h;omega
  .split at h<;>cases h
theorem xoi(a r:Nat)(h:r<2 ^ 52-1):Cl .nan (a % 2*2 ^ 63+0x7ff0000000000000+1+r):=by
 have e1:double.leastPlace=-1074:=rfl
 have e3:double.binade=2 ^ 52:=rfl
 have e4:double.infRung=2047*2 ^ 52:=rfl
 have e5:double.signWeight=2 ^ 63:=rfl
 unfold Cl Format.read
 simp only[e1,e3,e4,e5]
 have h1:(a % 2*2 ^ 63+0x7ff0000000000000+1+r) % 2 ^ 63=0x7ff0000000000000+1+r:=by omega
 rw[h1,xtb (by omega),xtb (by omega),xtb (by omega)]
 exact⟨_,_,rfl⟩
theorem inf_Cl(s:Bool):Cl (.inf s) (double.write (.infinity s)):=by cases s<;>rfl
def Fa(c:Fc)(v:Value):Prop:=∃w,v=.float .f64 w/\Cl c w
def Fu(c:Fc)(v:Value):Prop:=∃w:Nat,v=.int .u64 w/\Cl c w
def Fz(a b:Fc)(v:Value):Prop:=∃x y,v=.complex .f64 x y/\Cl a x/\Cl b y
theorem xhg{c:Fc}{v:Value}(h:Fa c v):one1 v:=by
 obtain⟨w,rfl,-⟩:=h
 exact⟨rfl,rfl,λb hb=>by cases hb⟩
theorem one_U{c:Fc}{v:Value}(h:Fu c v):one1 v:=by
 obtain⟨w,rfl,-⟩:=h
 exact⟨rfl,rfl,λb hb=>by cases hb⟩
theorem one_Z{a b:Fc}{v:Value}(h:Fz a b v):one1 v:=by
 obtain⟨x,y,rfl,-⟩:=h
 exact⟨rfl,rfl,λb hb=>by cases hb⟩
theorem f2f(x:Nat):OkR P (Conv.floatToFloat .f32 x .f64) (Fa (fcs x)):=by
 unfold Conv.floatToFloat
 rw[xtb (by decide)]
 unfold fcs
 simp only[show FloatKind.f32.decode x=single.read x from rfl]
 cases h:single.read x with
 |nan s t=>
  refine OkR.choose rfl λt=>OkR.pure ⟨_,rfl,?_⟩
  exact xoi t _ (xuj _ (by omega))
 |infinity s=>exact OkR.pure ⟨_,rfl,inf_Cl s⟩
 |number s m e=>
  obtain⟨h1,h2,h3⟩:=xqx h
  obtain⟨m',e',g1,g2,g3,g4⟩:=xlm (neg:=s) (mag:=m) (place:=e) (by omega) (by omega) (by omega)
  have hi:(double.read (double.write (.number s m e))).isInfinity=false:=by
   show(double.read (double.nearest s m e)).isInfinity=false
   rw[g1];rfl
  simp only[show ∀d,FloatKind.f64.encode d=double.write d from λ_=>rfl,show ∀d,FloatKind.f64.decode d=double.read d from λ_=>rfl,hi]
  exact OkR.pure ⟨_,rfl,m',e',g1,g2,g3,g4⟩
theorem c2c(x y:Nat):OkR P (Conv.complexToComplex .f32 x y .f64) (Fz (fcs x) (fcs y)):=by
 unfold Conv.complexToComplex
 refine OkR.bind (Q:=Fa (fcs x)) ?_ (f2f x)
 rintro _ ⟨u,rfl,hu⟩
 refine OkR.bind (Q:=Fa (fcs y)) ?_ (f2f y)
 rintro _ ⟨w,rfl,hw⟩
 exact OkR.pure ⟨u,w,rfl,hu,hw⟩
theorem cmp_scale(a b:Int)(k:Nat)(hk:0<k):compare (a*k) (b*k)=compare a b:=by
 have hk':(0:Int)<k:=by omega
 have h1:a*k<b*k↔a<b:=Int.mul_lt_mul_right hk'
 have h2:a*k=b*k↔a=b:=⟨λh=>Int.eq_of_mul_eq_mul_right (by omega) h,λh=>by rw[h]⟩
 simp only[compare,compareOfLessAndEq,h1,h2]
theorem xhh(s:Bool)(m:Nat)(i b:Int)(hb:-1074<=b)(hi:b<=i):signed s m (i-b).toNat*(2 ^ (b+1074).toNat:Nat)=sg s (sv m i):=by
 have e:m <<< (i-b).toNat*2 ^ (b+1074).toNat=sv m i:=by
  unfold sv
  rw[Nat.shiftLeft_eq,Nat.mul_assoc,<-Nat.pow_add]
  congr 2;omega
 unfold signed sg
 cases s
 .simp only[xu6,xtt]
  rw[<-e];simp
 .simp only[xtw]
  rw[<-e,Int.neg_mul];simp
theorem xoj{s t:Bool}{m n:Nat}{i j:Int}(hi:-1074<=i)(hj:-1074<=j):(Datum.number s m i).order (.number t n j)=some (compare (sg s (sv m i)) (sg t (sv n j))):=by
 show some (compare (signed s m (i-min i j).toNat) (signed t n (j-min i j).toNat))=_
 rw[<-cmp_scale _ _ (2 ^ (min i j+1074).toNat) (Nat.two_pow_pos _),xhh s m i _ (by omega) (by omega),xhh t n j _ (by omega) (by omega)]
def Fc.order:Fc->Fc->Option Ordering
 | .nan,_|_,.nan=>none
 | .inf s,.inf t=>some (compare t.toNat s.toNat)
 | .inf s,.num ..=>some (if s then .lt else .gt)
 | .num ..,.inf t=>some (if t then .gt else .lt)
 | .num s V,.num t W=>some (compare (sg s V) (sg t W))
theorem order_Cl{a b:Fc}{x y:Nat}(hx:Cl a x)(hy:Cl b y):double.order x y=a.order b:=by
 unfold Format.order
 cases a with
 |nan=>
  obtain⟨s,t,h⟩:=hx
  rw[h];rfl
 |inf s=>
  have h:double.read x=.infinity s:=hx
  rw[h]
  cases b with
  |nan=>obtain⟨s,t,h⟩:=hy;rw[h];rfl
  |inf t=>have h:double.read y=.infinity t:=hy;rw[h];rfl
  |num t W=>obtain⟨n,j,h,-⟩:=hy;rw[h];rfl
 |num s V=>
  obtain⟨m,i,h,h1,h2,h3⟩:=hx
  rw[h]
  cases b with
  |nan=>obtain⟨s,t,h⟩:=hy;rw[h];rfl
  |inf t=>have h:double.read y=.infinity t:=hy;rw[h];rfl
  |num t W=>
   obtain⟨n,j,h',g1,g2,g3⟩:=hy
   rw[h',xoj h1 g1,h3,g3]
   rfl
def cmpB(op:BinOp)(c:Option Ordering):Bool:=match op with
 | .eql=>c == some .eq
 | .neq=>c != some .eq
 | .lss=>c == some .lt
 | .leq=>c == some .lt||c == some .eq
 | .gtr=>c == some .gt
 |_=>c == some .gt||c == some .eq
def isCmp:BinOp->Bool
 | .eql | .neq | .lss | .leq | .gtr | .geq=>true
 |_=>false
section
variable{op:BinOp}{t:TypeId}{x y:Operand}{a b:AV}{c d:Fc}
theorem xok(ho:isCmp op=true){u v:Nat}:binS op t x y [.float .f64 u,.float .f64 v]=.pure (.bool (cmpB op (double.order u v))):=by
 cases op
 case eql=>rfl
 case neq=>rfl
 case lss=>rfl
 case leq=>rfl
 case gtr=>rfl
 case geq=>rfl
 all_goals cases ho
theorem xew(ho:isCmp op=true)(ha:Is (Fa c) a)(hb:Is (Fa d) b):sBin P op t x y a b=some (B (cmpB op (c.order d))):=by
 refine sBin_1 (v0:=.bool (cmpB op (c.order d))) ha hb rfl ?_
 rintro _ _ ⟨u,rfl,hu⟩ ⟨v,rfl,hv⟩
 rw[<-order_Cl hu hv]
 rw[xok ho];exact OkR.pure rfl
theorem s_real{p q:Fc}{ts:Array TypeId}(ha:Is (Fz p q) a):∃r,xd8 P .real ts t [a]=some r/\Is (Fa p) r:=by
 refine xjk ha ?_
 rintro _ ⟨u,v,rfl,hu,hv⟩
 exact OkR.pure ⟨xhg ⟨u,rfl,hu⟩,u,rfl,hu⟩
theorem s_imag{p q:Fc}{ts:Array TypeId}(ha:Is (Fz p q) a):∃r,xd8 P .imag ts t [a]=some r/\Is (Fa q) r:=by
 refine xjk ha ?_
 rintro _ ⟨u,v,rfl,hu,hv⟩
 exact OkR.pure ⟨xhg ⟨v,rfl,hv⟩,v,rfl,hv⟩
end
def Fc.tr:Fc->Fc
 | .num s V=>.num s (V / 2 ^ 1074*2 ^ 1074)
 |c=>c
def Fc.abs:Fc->Fc
 | .num _ V=>.num false V
 | .inf _=>.inf false
 | .nan=>.nan
def trM(m:Nat)(e:Int):Nat:=if 0<=e then m*2 ^ e.toNat else m / 2 ^ (-e).toNat
theorem trM_sv{m:Nat}{e:Int}(he:-1074<=e):trM m e=sv m e / 2 ^ 1074:=by
 unfold trM sv
 by_cases c:0<=e
 .rw[xta c,show(e+1074).toNat=e.toNat+1074 by omega,Nat.pow_add,<-Nat.mul_assoc,Nat.mul_div_cancel _ (Nat.two_pow_pos _)]
 .rw[xtb c,show(1074:Nat)=(-e).toNat+(e+1074).toNat by omega,Nat.pow_add]
  exact(Nat.mul_div_mul_right _ _ (Nat.two_pow_pos _)).symm
theorem cut_zero(s:Bool)(n d:Nat):Toward.zero.cut s n d=n / 2 ^ d:=by
 unfold Toward.cut
 simp only[Nat.shiftLeft_eq,Nat.one_mul]
 show n / 2 ^ min d (n.log2+2)+0=_
 rcases Nat.le_total d (n.log2+2)with h|h
 .rw[xx4 h];rfl
 .rw[Nat.min_eq_right h]
  have hu:n<2 ^ (n.log2+1):=Nat.lt_log2_self
  have h1:n<2 ^ (n.log2+2):=xtn hu (Nat.pow_le_pow_right (by omega) (by omega))
  have h2:n<2 ^ d:=xtn h1 (Nat.pow_le_pow_right (by omega) h)
  rw[Nat.div_eq_of_lt h1,Nat.div_eq_of_lt h2]
theorem xol(s:Bool)(m:Nat)(e:Int):(Datum.number s m e).integral .zero=.number s (trM m e) 0:=by
 show Datum.number s (Toward.zero.cut s (m <<< e.toNat) (-e).toNat) 0=_
 congr 1
 rw[cut_zero,Nat.shiftLeft_eq]
 unfold trM
 by_cases c:0<=e
 .rw[xta c,show(-e).toNat=0 by omega];simp
 .rw[xtb c,show e.toNat=0 by omega];simp
theorem near_tr(neg:Bool){m:Nat}{e:Int}(hm:m<2 ^ 53)(he:-1074<=e)(he2:e<=900):∃m' e',double.read (double.nearest neg (trM m e) 0)=.number neg m' e'/\-1074<=e'/\e'<=900/\sv m' e'=trM m e*2 ^ 1074:=by
 by_cases c:0<=e
 .have ht:trM m e=m*2 ^ e.toNat:=by unfold trM;rw[xta c]
  by_cases h0:m=0
  .have:trM m e=0:=by rw[ht,h0];simp
   rw[this]
   exact xlm (by omega) (by omega) (by omega)
  .have hpos:0<trM m e:=by rw[ht];exact xuk (by omega) (Nat.two_pow_pos _)
   have hlog:(trM m e).log2<=52+e.toNat:=by
    have h1:trM m e<2 ^ (53+e.toNat):=by rw[ht,Nat.pow_add];exact Nat.mul_lt_mul_of_pos_right hm (Nat.two_pow_pos _)
    have:=(Nat.log2_lt (n:=trM m e) (k:=53+e.toNat) (by omega)).mpr h1
    omega
   have hd:(0:Int)<xcz 0 (trM m e)->2 ^ (xcz 0 (trM m e)-0).toNat ∣ trM m e:=by
    intro hlt
    have hdv:2 ^ e.toNat ∣ trM m e:=⟨m,by rw[ht,Nat.mul_comm]⟩
    refine Nat.dvd_trans (Nat.pow_dvd_pow 2 ?_) hdv
    have:xcz 0 (trM m e)<=e:=by unfold xcz;omega
    omega
   have hb:xcz 0 (trM m e)<=900:=by unfold xcz;omega
   exact⟨_,_,xlk neg hpos hd hb,by unfold xcz;omega,hb,by rw[xll (by omega) hd];rfl⟩
 .have h1:trM m e<2 ^ 53:=by
   unfold trM
   rw[xtb c]
   exact Nat.lt_of_le_of_lt (Nat.div_le_self ..) hm
  exact xlm (by omega) (by omega) h1
theorem tr_Cl{s:Bool}{V:Nat}{w:Nat}(h:Cl (.num s V) w)(neg:Bool):Cl (.num neg (V / 2 ^ 1074*2 ^ 1074)) (double.nearest neg (V / 2 ^ 1074) 0):=by
 obtain⟨m,e,h1,h2,h3,h4⟩:=h
 obtain⟨m',e',g1,g2,g3,g4⟩:=near_tr neg (xhf h1).1 h2 h3
 rw[trM_sv h2,h4]at g1 g4
 exact⟨m',e',g1,g2,g3,g4⟩
theorem quiet_Cl(s:Bool)(t:Nat):Cl .nan (double.write (.nan s (double.quiet t))):=by
 have e3:double.binade=2 ^ 52:=rfl
 have e4:double.infRung=2047*2 ^ 52:=rfl
 have e5:double.signWeight=2 ^ 63:=rfl
 have hq:double.quiet t % 2 ^ 52≠0:=by
  intro h
  have h1:(double.quiet t % 2 ^ 52).testBit 51=true:=by
   rw[Nat.testBit_mod_two_pow]
   unfold Format.quiet
   rw[Nat.testBit_or,show Nat.testBit (2 ^ (double.fractionBits-1)) 51=true from by decide]
   simp
  rw[h]at h1
  simp at h1
 show Cl .nan (double.word s (double.infRung+double.quiet t % double.binade))
 generalize hg:double.quiet t % double.binade=g
 have hg2:g<2 ^ 52:=by rw[<-hg,e3];exact xuj _ (Nat.two_pow_pos _)
 have hg3:g≠0:=by rw[<-hg,e3];exact hq
 unfold Cl Format.word Format.read
 simp only[e3,e4,e5]
 have h1:(if s=true then 2 ^ 63+(2047*2 ^ 52+g)else 2047*2 ^ 52+g) % 2 ^ 63=2047*2 ^ 52+g:=by
  cases s
  .simp;omega
  .simp;omega
 rw[h1,xtb (by omega),xtb (by omega),xtb (by omega)]
 exact⟨_,_,rfl⟩
theorem trunc_Cl{c:Fc}{w:Nat}(h:Cl c w):OkR P (Extern.MathFloor.toIntegral "math.archTrunc" .zero #[.float .f64 w]) (Fa c.tr):=by
 show OkR P (match double.read w with
  | .nan s t=>
    if double.quiet t=t then(Pure.pure (Value.float .f64 w):Sem Value)else do
    let kept <-choose (.extern "math.Floor,Ceil,Trunc,RoundToEven.signallingNaN kept" 2)
    Pure.pure (Value.float .f64 (if kept == 1 then w else double.write (.nan s (double.quiet t))))
  |d=>Pure.pure (Value.float .f64 (double.write (d.integral .zero)))) _
 cases c with
 |nan=>
  have h':=h
  obtain⟨s,t,h⟩:=h
  rw[h]
  simp only
  by_cases q:double.quiet t=t
  .rw[xta q];exact OkR.pure ⟨w,rfl,h'⟩
  .rw[xtb q]
   refine OkR.choose rfl λk=>OkR.pure ?_
   generalize (Question.extern "math.Floor,Ceil,Trunc,RoundToEven.signallingNaN kept" 2).cut k=kk
   by_cases hk:(kk == 1)=true
   .rw[xta hk];exact⟨w,rfl,h'⟩
   .rw[xtb hk];exact⟨_,rfl,quiet_Cl s t⟩
 |inf s=>
  have h:double.read w=.infinity s:=h
  rw[h]
  exact OkR.pure ⟨_,rfl,inf_Cl s⟩
 |num s V=>
  have h':=h
  obtain⟨m,e,h1,h2,h3,h4⟩:=h
  rw[h1]
  simp only
  rw[xol,trM_sv h2,h4]
  exact OkR.pure ⟨_,rfl,tr_Cl h' s⟩
theorem xom{s:Bool}{V:Nat}{w:Nat}(h:Cl (.num s V) w):(FloatKind.f64.decode w).toInt .zero=some (sg s (V / 2 ^ 1074)):=by
 obtain⟨m,e,h1,h2,h3,h4⟩:=h
 show(double.read w).toInt .zero=_
 rw[h1]
 unfold Datum.toInt
 rw[xol,trM_sv h2,h4]
 show some (signed s (V / 2 ^ 1074) 0)=_
 unfold signed sg
 rw[Nat.shiftLeft_zero]
theorem abs_Cl{c:Fc}{w:Nat}(h:Cl c w):Cl c.abs (w % 2 ^ 63):=by
 have e5:double.signWeight=2 ^ 63:=rfl
 have hr:double.read (w % 2 ^ 63)=match double.read w with
  | .number _ m e=>.number false m e
  | .infinity _=>.infinity false
  | .nan _ t=>.nan false t:=by
  unfold Format.read
  simp only[e5,Nat.mod_mod]
  have h1:(w % 2 ^ 63 / 2 ^ 63 % 2 == 1)=false:=by
   have:w % 2 ^ 63 / 2 ^ 63=0:=by omega
   rw[this];rfl
  rw[h1]
  by_cases c1:w % 2 ^ 63<double.binade
  .simp only[xta c1]
  .by_cases c2:w % 2 ^ 63<double.infRung
   .simp only[xtb c1,xta c2]
   .by_cases c3:w % 2 ^ 63=double.infRung
    .simp only[xtb c1,xtb c2,xta c3]
    .simp only[xtb c1,xtb c2,xtb c3]
 cases c with
 |nan=>obtain⟨s,t,h⟩:=h;exact⟨false,t,by rw[hr,h]⟩
 |inf s=>have h:double.read w=.infinity s:=h;show double.read _=_;rw[hr,h]
 |num s V=>obtain⟨m,e,h1,h2,h3,h4⟩:=h;exact⟨m,e,by rw[hr,h1],h2,h3,h4⟩
end Go.Ix
