import Derived.Test.YtgediplphidhpaaGreatWg0
import Derived.Test.YtgediplphidhpaaGreatWg1
set_option linter.unusedSimpArgs false
set_option linter.unusedVariables false
namespace Go.Ix
open Go.Proofs
def eG(a b:Int):Int:=if h:b=0 then a else eG b (a.tmod b)
termination_by b.natAbs
decreasing_by
 have:=Int.natAbs_tmod a b
 rw[this]
 exact x1aa _ (by omega)
theorem eG_0(a:Int):eG a 0=a:=by rw[eG];simp
theorem eG_s{a b:Int}(h:b≠0):eG a b=eG b (a.tmod b):=by rw[eG,dif_neg h]
theorem eG_gcd:∀(n:Nat) (a b:Int),b.natAbs<=n->(eG a b).natAbs=Int.gcd a b:=by
 intro n
 induction n with
 |zero=>
  intro a b h
  have:b=0:=by omega
  subst this
  rw[eG_0];simp
 |succ n ih=>
  intro a b h
  by_cases hb:b=0
  .subst hb;rw[eG_0];simp
  .rw[eG_s hb]
   have h1:(a.tmod b).natAbs<b.natAbs:=by rw[Int.natAbs_tmod];exact x1aa _ (by omega)
   rw[ih b (a.tmod b) (by omega)]
   unfold Int.gcd
   rw[Int.natAbs_tmod,Nat.gcd_comm,<-Nat.gcd_rec,Nat.gcd_comm]
theorem x12s{a b:Nat}(hb:0<b)(h1:0<a % b):2*(b % (a % b))<b:=by
 have h2:a % b<b:=x1aa _ hb
 have h3:b % (a % b)<a % b:=x1aa _ h1
 have h4:=Nat.div_add_mod b (a % b)
 have h5:1<=b / (a % b):=(Nat.one_le_div_iff h1).mpr (by omega)
 have h6:(a % b)*1<=(a % b)*(b / (a % b)):=Nat.mul_le_mul_left _ h5
 omega
theorem xvn(x y:Int):xo5 [I 0,I 0] [(0,1,I x),(1,1,I y)]=some (.agg [I x,I y]):=by simp[xo5,xq9]
theorem tdiv_le{a b:Int}:(a.tdiv b).natAbs<=a.natAbs:=by rw[Int.natAbs_tdiv];exact x1dl _ _
def bd(x b:Int):Prop:=-b<=x/\x<=b
theorem bd.add{x y a b:Int}(h:bd x a)(k:bd y b):bd (x+y) (a+b):=by unfold bd at *;omega
theorem bd.sub{x y a b:Int}(h:bd x a)(k:bd y b):bd (x-y) (a+b):=by unfold bd at *;omega
theorem bd.neg{x a:Int}(h:bd x a):bd (-x) a:=by unfold bd at *;omega
theorem bd.abs{x a:Int}:bd x a↔(x.natAbs:Int)<=a:=by unfold bd;omega
theorem bd.mul{x y a b:Int}(h:bd x a)(k:bd y b):bd (x*y) (a*b):=by
 rw[bd.abs]at *
 rw[x1c9,Int.natCast_mul]
 exact x1bh h k (by omega) (by omega)
theorem bd.mono{x a b:Int}(h:bd x a)(k:a<=b):bd x b:=by unfold bd at *;omega
theorem bd.zero{b:Int}(h:0<=b):bd 0 b:=by unfold bd;omega
def gl(g:Int)(l:List Int):Int:=l.foldl (λg x=>(Int.gcd g x:Int)) g
theorem gl_dvd:∀(l:List Int) (g:Int),gl g l ∣ g/\∀x∈l,gl g l ∣ x
 |[],g=>⟨Int.dvd_refl _,by simp⟩
 |x::l,g=>by
  obtain⟨h1,h2⟩:=gl_dvd l (Int.gcd g x:Int)
  have e:gl g (x::l)=gl (Int.gcd g x:Int) l:=rfl
  rw[e]
  refine⟨Int.dvd_trans h1 (Int.gcd_dvd_left ..),λy hy=>?_⟩
  rcases x19a.mp hy with rfl|hy
  .exact Int.dvd_trans h1 (Int.gcd_dvd_right ..)
  .exact h2 y hy
theorem gl_pos:∀(l:List Int) {g:Int},0<g->0<gl g l
 |[],_,h=>h
 |x::l,g,h=>by
  have:0<Int.gcd g x:=Int.gcd_pos_of_ne_zero_left x (by omega)
  exact gl_pos l (show(0:Int)<(Int.gcd g x:Int) by omega)
def c0(n a b c d e x y z:Int):Int:=x*(c*e-d*d)-y*(a*e-b*d)+z*(a*d-b*c)
def c1(n a b c d e x y z:Int):Int:=n*(y*e-z*d)-x*(a*e-b*d)+b*(a*z-b*y)
def c2(n a b c d e x y z:Int):Int:=n*(c*z-d*y)-a*(a*z-b*y)+x*(a*d-b*c)
def of0(g:Mp->Int)(l:List Mp):Int:=su g l
def of1(g:Mp->Int)(l:List Mp):Int:=su (λx=>x.ln*g x) l
def of2(g:Mp->Int)(l:List Mp):Int:=su (λx=>x.sm*g x) l
def C0(g:Mp->Int)(l:List Mp):Int:=c0 (sN l) (sA l) (sB l) (sC l) (sD l) (sE l) (of0 g l) (of1 g l) (of2 g l)
def C1(g:Mp->Int)(l:List Mp):Int:=c1 (sN l) (sA l) (sB l) (sC l) (sD l) (sE l) (of0 g l) (of1 g l) (of2 g l)
def C2(g:Mp->Int)(l:List Mp):Int:=c2 (sN l) (sA l) (sB l) (sC l) (sD l) (sE l) (of0 g l) (of1 g l) (of2 g l)
def xp8(l:List Mp):List Int:=[C0 Mp.b0 l,C0 Mp.b1 l,C1 Mp.b0 l,C1 Mp.b1 l,C2 Mp.b0 l,C2 Mp.b1 l]
def gF(l:List Mp):Int:=gl (DD l) (xp8 l)
structure Aff where
 den:Int
 l0:Int
 l1:Int
 l2:Int
 s0:Int
 s1:Int
 s2:Int
def Aff.c(f:Aff):List AV:=[I f.den,I f.l0,I f.l1,I f.l2,I f.s0,I f.s1,I f.s2]
def fitM(l:List Mp):Aff:=⟨DD l / gF l,C0 Mp.b0 l / gF l,C1 Mp.b0 l / gF l,C2 Mp.b0 l / gF l,C0 Mp.b1 l / gF l,C1 Mp.b1 l / gF l,C2 Mp.b1 l / gF l⟩
theorem xvo{l:List Mp}(h:0<DD l):0<gF l:=gl_pos _ h
theorem xvp(l:List Mp):gF l ∣ DD l/\∀x∈xp8 l,gF l ∣ x:=gl_dvd _ _
theorem fit_den{l:List Mp}(h:0<DD l):0<(fitM l).den:=by
 have hg:=xvo h
 exact Int.ediv_pos_of_pos_of_dvd h (by omega) (xvp l).1
end Go.Ix
set_option maxRecDepth 100000
namespace Go.Proofs.YtgediplphidhpaaGreat
open Go.ChangeShapes Go.WideShapes Go.ChangeAt Go.RowKit Go.Ix
def xuj(P:Program):Nat->TypeId->Bool
 |0,_=>false
 |k+1,t=>match P.underlying t with
  |some (.int .i64)=>true
  |some (.struct fs)=>fs.toList.all (λf=>xuj P k f.type)&&(match tile P 0 fs.toList with|some n=>Nat.beq n (P.cellsOf t)|none=>false)
  |some (.array n e)=>xuj P k e&&Nat.beq (n*P.cellsOf e) (P.cellsOf t)
  |_=>false
theorem x12t{P:Program}:∀{fs:List Field} {off n:Nat},tile P off fs=some n->∀i,off<=i->i<n->∃f∈fs,f.offset<=i/\i<f.offset+P.cellsOf f.type
 |[],off,n,h,i,h1,h2=>by
  simp only[tile,x193]at h
  omega
 |f::fs,off,n,h,i,h1,h2=>by
  simp only[tile]at h
  cases hb:Nat.beq f.offset off with
  |false=>rw[hb]at h;cases h
  |true=>
   rw[hb,cond_true]at h
   have hoff:=x19c hb
   by_cases c:i<off+P.cellsOf f.type
   .exact⟨f,x199 ..,by omega,by omega⟩
   .obtain⟨g,hg,h3⟩:=x12t h i (by omega) h2
    exact⟨g,x198 _ hg,h3⟩
theorem xzb{P:Program}:∀(k:Nat) {t:TypeId} {q:List AV},xuj P k t=true->Sh P t q->∀a∈q,∃n,a=I n
 |0,_,_,h,_=>by simp[xuj]at h
 |k+1,t,q,h,hs=>by
  simp only[xuj]at h
  split at h
  .rename_i e
   obtain⟨n,rfl,-⟩:=Sh.int_inv e hs
   intro a ha
   simp at ha
   exact⟨n,ha⟩
  .rename_i fs e
   rw[x195,x197]at h
   obtain⟨h1,h2⟩:=h
   obtain⟨hl,hf⟩:=Sh.struct_inv e hs
   split at h2
   .rename_i n hn
    have hn2:=x19c h2
    intro a ha
    obtain⟨i,hi,rfl⟩:=x1bw.mp ha
    obtain⟨f,hfm,f1,f2⟩:=x12t hn i (x1c1 _) (by omega)
    refine xzb k (h1 f hfm) (hf f hfm) _ ?_
    rw[x1bw]
    refine⟨i-f.offset,by simp;omega,?_⟩
    rw[x1dm,List.getElem_drop]
    congr 1;omega
   .cases h2
  .rename_i n e' e
   rw[x195]at h
   have hn:=x19c h.2
   cases hs with
   |array h' _ hl hf=>
    rw[e]at h';cases h'
    intro a ha
    obtain⟨i,hi,rfl⟩:=x1bw.mp ha
    have hz:0<P.cellsOf e':=by
     rcases Nat.eq_zero_or_pos (P.cellsOf e')with h0|h0
     .rw[h0]at hn;omega
     .exact h0
    have hlt:i / P.cellsOf e'<n:=(Nat.div_lt_iff_lt_mul hz).mpr (by omega)
    refine xzb k h.1 (hf (i / P.cellsOf e') hlt) _ ?_
    rw[x1bw]
    have hm:=x1aa i hz
    have hd:=Nat.div_add_mod i (P.cellsOf e')
    rw[Nat.mul_comm]at hd
    have hd2:(i / P.cellsOf e')*P.cellsOf e'+i % P.cellsOf e'<q.length:=by omega
    refine⟨i % P.cellsOf e',by simp;omega,?_⟩
    rw[x1dm,List.getElem_drop]
    congr 1
   |string h'=>rw[e]at h';cases h'
   |int h'=>rw[e]at h';cases h'
   |nilS h'=>rw[e]at h';cases h'
   |slice h'=>rw[e]at h';cases h'
   |bool h'=>rw[e]at h';cases h'
   |float h'=>rw[e]at h';cases h'
   |struct h'=>rw[e]at h';cases h'
  .cases h
end Go.Proofs.YtgediplphidhpaaGreat
set_option exponentiation.threshold 3000
namespace Go.Ix
open Ieee
theorem cut_0(neg:Bool)(n:Nat):Toward.even.cut neg n 0=n:=by
 unfold Toward.cut
 simp[Nat.mod_one]
theorem cut_dvd(neg:Bool){n k:Nat}(h0:0<n)(h:2 ^ k ∣ n):Toward.even.cut neg n k=n / 2 ^ k:=by
 have h1:2 ^ k<=n:=Nat.le_of_dvd h0 h
 have h2:k<=n.log2:=(Nat.le_log2 (by omega)).mpr h1
 unfold Toward.cut
 rw[x1ca (by omega)]
 simp only[Nat.shiftLeft_eq,Nat.one_mul,Nat.mod_eq_zero_of_dvd h,Nat.mul_zero]
 have:0<2 ^ k:=Nat.two_pow_pos k
 simp
def xo7(place:Int)(mag:Nat):Int:=max (place+mag.log2-52) (-1074)
def xrt(place:Int)(mag:Nat):Nat:=if xo7 place mag<=place then mag*2 ^ (place-xo7 place mag).toNat else mag / 2 ^ (xo7 place mag-place).toNat
theorem x15k(neg:Bool){mag:Nat}{place:Int}(h0:0<mag)(hd:place<xo7 place mag->2 ^ (xo7 place mag-place).toNat ∣ mag) :
 double.nearest neg mag place=double.word neg (min ((xo7 place mag+1074).toNat*2 ^ 52+xrt place mag) (2047*2 ^ 52)):=by
 unfold Format.nearest
 rw[if_neg (by omega)]
 have e1:double.leastPlace=-1074:=rfl
 have e2:(double.fractionBits:Int)=52:=rfl
 have e3:double.binade=2 ^ 52:=rfl
 have e4:double.infRung=2047*2 ^ 52:=rfl
 simp only[e1,e2,e3,e4]
 rw[show max (place+(mag.log2:Int)-52) (-1074)=xo7 place mag from rfl]
 have e5:xo7 place mag - -1074=xo7 place mag+1074:=by omega
 rw[e5]
 suffices hk:Toward.even.cut neg (mag <<< (place-xo7 place mag).toNat) (xo7 place mag-place).toNat=xrt place mag by rw[hk]
 .unfold xrt
  by_cases c:xo7 place mag<=place
  .rw[if_pos c,show(xo7 place mag-place).toNat=0 by omega,cut_0,Nat.shiftLeft_eq]
  .rw[if_neg c,show(place-xo7 place mag).toNat=0 by omega,Nat.shiftLeft_zero]
   exact cut_dvd neg h0 (hd (by omega))
theorem kept_bd{mag:Nat}{place:Int}(h0:0<mag)(hd:place<xo7 place mag->2 ^ (xo7 place mag-place).toNat ∣ mag):xrt place mag<2 ^ 53/\(-1074<xo7 place mag->2 ^ 52<=xrt place mag):=by
 have hl:=Nat.log2_self_le (n:=mag) (by omega)
 have hu:mag<2 ^ (mag.log2+1):=Nat.lt_log2_self
 unfold xrt
 by_cases c:xo7 place mag<=place
 .rw[if_pos c]
  constructor
  .have e:(place-xo7 place mag).toNat+(mag.log2+1)<=53:=by unfold xo7 at *;omega
   calc mag*2 ^ (place-xo7 place mag).toNat<2 ^ (mag.log2+1)*2 ^ (place-xo7 place mag).toNat:=Nat.mul_lt_mul_of_pos_right hu (Nat.two_pow_pos _)
    _=2 ^ (mag.log2+1+(place-xo7 place mag).toNat):=(Nat.pow_add ..).symm
    _<=2 ^ 53:=Nat.pow_le_pow_right (by omega) (by omega)
  .intro hlt
   have e:(place-xo7 place mag).toNat+mag.log2=52:=by unfold xo7 at *;omega
   calc 2 ^ 52=2 ^ (mag.log2+(place-xo7 place mag).toNat):=by rw[<-e,Nat.add_comm]
    _=2 ^ mag.log2*2 ^ (place-xo7 place mag).toNat:=Nat.pow_add ..
    _<=mag*2 ^ (place-xo7 place mag).toNat:=x1ac _ hl
 .rw[if_neg c]
  obtain⟨q,hq⟩:=hd (by omega)
  have hp:=Nat.two_pow_pos (xo7 place mag-place).toNat
  have e0:mag / 2 ^ (xo7 place mag-place).toNat=q:=Nat.div_eq_of_eq_mul_right hp hq
  rw[e0]
  constructor
  .have e:(xo7 place mag-place).toNat+53 ≥ mag.log2+1:=by unfold xo7 at *;omega
   have h1:2 ^ (xo7 place mag-place).toNat*q<2 ^ (xo7 place mag-place).toNat*2 ^ 53:=by
    rw[<-hq,<-Nat.pow_add]
    exact x19m hu (Nat.pow_le_pow_right (by omega) e)
   exact Nat.lt_of_mul_lt_mul_left h1
  .intro hlt
   have e:(xo7 place mag-place).toNat+52=mag.log2:=by unfold xo7 at *;omega
   have h1:2 ^ (xo7 place mag-place).toNat*2 ^ 52<=2 ^ (xo7 place mag-place).toNat*q:=by
    rw[<-hq,<-Nat.pow_add,e];exact hl
   exact Nat.le_of_mul_le_mul_left h1 hp
theorem xx8(neg:Bool){r:Nat}(hr:r<2047*2 ^ 52):double.read (double.word neg r)=if r<2 ^ 52 then .number neg r (-1074)else .number neg (2 ^ 52+r % 2 ^ 52) (-1074+(r / 2 ^ 52-1:Nat)):=by
 have e1:double.leastPlace=-1074:=rfl
 have e3:double.binade=2 ^ 52:=rfl
 have e4:double.infRung=2047*2 ^ 52:=rfl
 have e5:double.signWeight=2 ^ 63:=rfl
 unfold Format.read Format.word
 simp only[e1,e3,e4,e5]
 have h1:(if neg=true then 2 ^ 63+r else r) % 2 ^ 63=r:=by
  cases neg
  .simp;omega
  .simp;omega
 have h2:((if neg=true then 2 ^ 63+r else r) / 2 ^ 63 % 2 == 1)=neg:=by
  cases neg
  .have:r / 2 ^ 63=0:=by omega
   simp[this]
  .have:(2 ^ 63+r) / 2 ^ 63=1:=by omega
   simp[this]
 rw[h1,h2]
 by_cases c:r<2 ^ 52
 .rw[if_pos c,if_pos c]
 .rw[if_neg c,if_neg c,if_pos hr]
theorem xzc(neg:Bool){mag:Nat}{place:Int}(h0:0<mag)(hd:place<xo7 place mag->2 ^ (xo7 place mag-place).toNat ∣ mag)(hb:xo7 place mag<=900) :
 double.read (double.nearest neg mag place)=.number neg (xrt place mag) (xo7 place mag):=by
 obtain⟨k1,k2⟩:=kept_bd h0 hd
 rw[x15k neg h0 hd]
 have hlo:-1074<=xo7 place mag:=by unfold xo7;omega
 generalize xrt place mag=K at *
 generalize xo7 place mag=L at *
 have hr:(L+1074).toNat*2 ^ 52+K<2047*2 ^ 52:=by omega
 rw[x1ca (by omega),xx8 neg hr]
 by_cases c:L=-1074
 .subst c
  simp only[show((-1074:Int)+1074).toNat=0 from rfl,x19q,x1aj]
  by_cases c2:K<2 ^ 52
  .rw[if_pos c2]
  .rw[if_neg c2]
   congr 1
   .omega
   .omega
 .have hK:=k2 (by omega)
  rw[if_neg (by omega)]
  congr 1
  .omega
  .omega
def sv(m:Nat)(e:Int):Nat:=m*2 ^ (e+1074).toNat
def sg(s:Bool)(n:Nat):Int:=if s then -(n:Int)else(n:Int)
theorem xzd{mag:Nat}{place:Int}(hp:-1074<=place)(hd:place<xo7 place mag->2 ^ (xo7 place mag-place).toNat ∣ mag):sv (xrt place mag) (xo7 place mag)=sv mag place:=by
 have hlo:-1074<=xo7 place mag:=by unfold xo7;omega
 unfold sv xrt
 by_cases c:xo7 place mag<=place
 .rw[if_pos c,Nat.mul_assoc,<-Nat.pow_add]
  congr 2;omega
 .rw[if_neg c]
  obtain⟨q,hq⟩:=hd (by omega)
  have e:mag / 2 ^ (xo7 place mag-place).toNat=q:=Nat.div_eq_of_eq_mul_right (Nat.two_pow_pos _) hq
  rw[e]
  have e2:mag*2 ^ (place+1074).toNat=2 ^ (xo7 place mag-place).toNat*q*2 ^ (place+1074).toNat:=congrArg (·*2 ^ (place+1074).toNat) hq
  rw[e2,Nat.mul_comm (2 ^ _) q,Nat.mul_assoc,<-Nat.pow_add]
  congr 2;omega
def IsI(w:Nat)(n:Int):Prop:=∃s m e,double.read w=.number s m e/\-1074<=e/\e<=900/\sg s (sv m e)=n*2 ^ 1074
theorem near_I{neg:Bool}{mag:Nat}{place:Int}{N:Nat}(hp:-1074<=place)(hp2:place<=900)(hN:N<2 ^ 53)(h:sv mag place=N*2 ^ 1074) :
 ∃m e,double.read (double.nearest neg mag place)=.number neg m e/\-1074<=e/\e<=900/\sv m e=N*2 ^ 1074:=by
 by_cases h0:mag=0
 .subst h0
  refine⟨0,-1074,?_,by omega,by omega,?_⟩
  .unfold Format.nearest
   rw[if_pos rfl,xx8 neg (by omega),if_pos (by omega)]
  .rw[<-h];unfold sv;simp
 .have hpos:0<mag:=by omega
  have hl:=Nat.log2_self_le (n:=mag) (by omega)
  have hu:mag<2 ^ (mag.log2+1):=Nat.lt_log2_self
  have hL:place+(mag.log2:Int)<=52:=by
   rcases Int.lt_or_le 52 (place+(mag.log2:Int))with hc|hc
   .exfalso
    unfold sv at h
    have h1:2 ^ mag.log2*2 ^ (place+1074).toNat<=mag*2 ^ (place+1074).toNat:=x1ac _ hl
    rw[h,<-Nat.pow_add]at h1
    have h2:N*2 ^ 1074<2 ^ 53*2 ^ 1074:=Nat.mul_lt_mul_of_pos_right hN (Nat.two_pow_pos _)
    rw[<-Nat.pow_add]at h2
    have h3:2 ^ (53+1074)<=2 ^ (mag.log2+(place+1074).toNat):=Nat.pow_le_pow_right (by omega) (by omega)
    omega
   .exact hc
  have hd:place<xo7 place mag->2 ^ (xo7 place mag-place).toNat ∣ mag:=by
   intro hlt
   have hneg:place<0:=by unfold xo7 at hlt;omega
   have e:mag=N*2 ^ (-place).toNat:=by
    unfold sv at h
    have:(1074:Nat)=(place+1074).toNat+(-place).toNat:=by omega
    rw[this,Nat.pow_add,Nat.mul_comm (2 ^ (place+1074).toNat),<-Nat.mul_assoc]at h
    exact Nat.eq_of_mul_eq_mul_right (Nat.two_pow_pos _) h
   have hdv:2 ^ (-place).toNat ∣ mag:=⟨N,by rw[Nat.mul_comm];exact e⟩
   refine Nat.dvd_trans (Nat.pow_dvd_pow 2 ?_) hdv
   have:xo7 place mag<=0:=by unfold xo7;omega
   omega
  have hb:xo7 place mag<=900:=by unfold xo7;omega
  exact⟨_,_,xzc neg hpos hd hb,by unfold xo7;omega,hb,by rw[xzd hp hd];exact h⟩
theorem xze{neg:Bool}{mag:Nat}{place:Int}(hp:-1074<=place)(hp2:place<=800)(hm:mag<2 ^ 53) :
 ∃m e,double.read (double.nearest neg mag place)=.number neg m e/\-1074<=e/\e<=900/\sv m e=sv mag place:=by
 by_cases h0:mag=0
 .subst h0
  refine⟨0,-1074,?_,by omega,by omega,?_⟩
  .unfold Format.nearest
   rw[if_pos rfl,xx8 neg (by omega),if_pos (by omega)]
  .unfold sv;simp
 .have hl:mag.log2<=52:=by
   have:=(Nat.log2_lt (n:=mag) (k:=53) (by omega)).mpr hm
   omega
  have hd:place<xo7 place mag->2 ^ (xo7 place mag-place).toNat ∣ mag:=λhlt=>by unfold xo7 at hlt;omega
  have hb:xo7 place mag<=900:=by unfold xo7;omega
  exact⟨_,_,xzc neg (by omega) hd hb,by unfold xo7;omega,hb,xzd hp hd⟩
end Go.Ix
namespace Go.Ix
open Ieee
variable{P:Program}
def OkR(P:Program){α:Type}(s:Sem α)(R:α->Prop):Prop:=safe P s/\∀v,may P s v->R v
theorem OkR.pure{α:Type}{a:α}{R:α->Prop}(h:R a):OkR P (.pure a) R:=⟨trivial,λ_ e=>e▸h⟩
theorem OkR.bind{α β:Type}{Q:α->Prop}{R:β->Prop}{f:α->Sem β}(hf:∀v,Q v->OkR P (f v) R):∀{s:Sem α},OkR P s Q->OkR P (s.bind f) R
 | .pure a,h=>hf a (h.2 a rfl)
 | .program k,h=>OkR.bind (s:=k P) hf h
 | .mark _ k,h=>OkR.bind (s:=k) hf h
 | .choose q k,h=>by
  unfold OkR at h
  unfold Sem.bind OkR
  simp only[safe,may]at h ⊢
  by_cases c:q.forced=true
  .simp only[if_pos c]at h ⊢
   exact OkR.bind (s:=k 0) hf h
  .simp only[if_neg c]at h ⊢
   exact⟨λt=>(OkR.bind (s:=k (q.cut t)) hf ⟨h.1 t,λv hv=>h.2 v ⟨t,hv⟩⟩).1,λv ⟨t,hv⟩=>(OkR.bind (s:=k (q.cut t)) hf ⟨h.1 t,λv hv=>h.2 v ⟨t,hv⟩⟩).2 v hv⟩
 | .load ..,h=>h.1.elim
 | .store ..,h=>h.1.elim
 | .new ..,h=>h.1.elim
 | .shape ..,h=>h.1.elim
 | .freeze ..,h=>h.1.elim
 | .frozen ..,h=>h.1.elim
 | .getObj ..,h=>h.1.elim
 | .setObj ..,h=>h.1.elim
 | .sys ..,h=>h.1.elim
 | .halt ..,h=>h.1.elim
theorem OkR.choose{α:Type}{q:Question}{k:Nat->Sem α}{R:α->Prop}(hq:q.forced=false)(h:∀t,OkR P (k (q.cut t)) R):OkR P (.choose q k) R:=by
 unfold OkR
 simp only[safe,may,hq,x1a0,x19l]
 exact⟨λt=>(h t).1,λv ⟨t,hv⟩=>(h t).2 v hv⟩
theorem xvq{α:Type}:∀{s:Sem α},safe P s->∃v,may P s v
 | .pure a,_=>⟨a,rfl⟩
 | .program k,h=>xvq (s:=k P) h
 | .mark _ k,h=>xvq (s:=k) h
 | .choose q k,h=>by
  simp only[safe,may]at h ⊢
  by_cases c:q.forced=true
  .simp only[if_pos c]at h ⊢
   exact xvq h
  .simp only[if_neg c]at h ⊢
   obtain⟨v,hv⟩:=xvq (h 0)
   exact⟨v,0,hv⟩
 | .load ..,h=>h.elim
 | .store ..,h=>h.elim
 | .new ..,h=>h.elim
 | .shape ..,h=>h.elim
 | .freeze ..,h=>h.elim
 | .frozen ..,h=>h.elim
 | .getObj ..,h=>h.elim
 | .setObj ..,h=>h.elim
 | .sys ..,h=>h.elim
 | .halt ..,h=>h.elim
theorem xsw{α:Type}:∀{s:Sem α} {v:α},xo1 P s=some v->may P s v
 | .pure a,v,h=>by cases h;rfl
 | .program k,v,h=>xsw (s:=k P) h
 | .mark _ k,v,h=>xsw (s:=k) h
 | .choose ..,v,h=>by cases h
 | .load ..,v,h=>by cases h
 | .store ..,v,h=>by cases h
 | .new ..,v,h=>by cases h
 | .shape ..,v,h=>by cases h
 | .freeze ..,v,h=>by cases h
 | .frozen ..,v,h=>by cases h
 | .getObj ..,v,h=>by cases h
 | .setObj ..,v,h=>by cases h
 | .sys ..,v,h=>by cases h
 | .halt ..,v,h=>by cases h
theorem xvr{α β:Type}{f:α->Sem β}{v:α}{u:β}(hu:may P (f v) u):∀{s:Sem α},may P s v->may P (s.bind f) u
 | .pure a,h=>by cases h;exact hu
 | .program k,h=>xvr hu (s:=k P) h
 | .mark _ k,h=>xvr hu (s:=k) h
 | .choose q k,h=>by
  unfold Sem.bind
  simp only[may]at h ⊢
  by_cases c:q.forced=true
  .simp only[if_pos c]at h ⊢
   exact xvr hu h
  .simp only[if_neg c]at h ⊢
   obtain⟨t,ht⟩:=h
   exact⟨t,xvr hu ht⟩
 | .load ..,h=>h.elim
 | .store ..,h=>h.elim
 | .new ..,h=>h.elim
 | .shape ..,h=>h.elim
 | .freeze ..,h=>h.elim
 | .frozen ..,h=>h.elim
 | .getObj ..,h=>h.elim
 | .setObj ..,h=>h.elim
 | .sys ..,h=>h.elim
 | .halt ..,h=>h.elim
def NE(a:AV):Prop:=∃v,conc a v
def Is(R:Value->Prop)(a:AV):Prop:=NE a/\∀v,conc a v->R v
theorem xsc{a:AV}{v:Value}(h:xo9 a=some v):conc a v:=by
 cases a<;>first|exact h|cases h
theorem tv_none{a:AV}(h:xo9 a=none)(hn:NE a):∃p,a=.un p:=by
 obtain⟨u,hu⟩:=hn
 cases a<;>first|exact⟨_,rfl⟩|exact nomatch h.symm.trans hu
theorem one1_of{v:Value}(h:one1 v):xom v=.sc v:=by
 cases v<;>first|rfl|(exact absurd h.2.1 (by simp[Value.oneCell']))
theorem conc_sc{v u:Value}:conc (.sc v) u↔u=v:=by
 constructor
 .intro h;cases h;rfl
 .intro h;rw[h];rfl
theorem Is.sc{R:Value->Prop}{v:Value}(h:R v):Is R (.sc v):=⟨⟨v,rfl⟩,λu hu=>by rw[conc_sc.mp hu];exact h⟩
theorem Is.mono{R Q:Value->Prop}{a:AV}(h:Is R a)(hi:∀v,R v->Q v):Is Q a:=⟨h.1,λv hv=>hi v (h.2 v hv)⟩
theorem canon_R{q R:Value->Prop}(hn:∃v,q v)(h:∀v,q v->one1 v/\R v):∃r,xt2 q=some r/\Is R r:=by
 unfold xt2
 by_cases c:∃v0,∀v,q v->v=v0
 .rw[dif_pos c]
  have hc:=Classical.choose_spec c
  obtain⟨v,hv⟩:=hn
  refine⟨_,rfl,Is.sc ?_⟩
  rw[<-hc v hv]
  exact(h v hv).2
 .rw[dif_neg c,if_pos (λv hv=>(h v hv).1)]
  exact⟨_,rfl,hn,λv hv=>(h v hv).2⟩
theorem canon_1{q:Value->Prop}{v0:Value}(hn:∃v,q v)(h:∀v,q v->v=v0):xt2 q=some (.sc v0):=by
 unfold xt2
 have c:∃v0,∀v,q v->v=v0:=⟨v0,h⟩
 rw[dif_pos c]
 have hc:=Classical.choose_spec c
 obtain⟨v,hv⟩:=hn
 have e1:=hc v hv
 have e2:=h v hv
 rw[<-e1,e2]
section
variable{l:List AV}{s:List Value->Sem Value}{R:Value->Prop}
theorem abs_ne(hn:∃vs,xp3 l vs)(h:∀vs,xp3 l vs->OkR P (s vs) R):∃v vs,xp3 l vs/\may P (s vs) v:=by
 obtain⟨vs,hvs⟩:=hn
 obtain⟨v,hv⟩:=xvq (h vs hvs).1
 exact⟨v,vs,hvs,hv⟩
theorem absOp_R(hn:∃vs,xp3 l vs)(h:∀vs,xp3 l vs->OkR P (s vs) (λz=>one1 z/\R z)):∃r,xq7 P l s=some r/\Is R r:=by
 unfold xq7
 rw[if_pos ⟨hn,λvs hvs=>(h vs hvs).1⟩]
 exact canon_R (abs_ne hn h) (λv ⟨vs,hvs,hv⟩=>(h vs hvs).2 v hv)
theorem absOp_1{v0:Value}(hn:∃vs,xp3 l vs)(h:∀vs,xp3 l vs->OkR P (s vs) (·=v0)):xq7 P l s=some (.sc v0):=by
 unfold xq7
 rw[if_pos ⟨hn,λvs hvs=>(h vs hvs).1⟩]
 exact canon_1 (abs_ne hn h) (λv ⟨vs,hvs,hv⟩=>(h vs hvs).2 v hv)
theorem op_R{o:Option AV}(ho:∀r,o=some r->∃vs z,xp3 l vs/\may P (s vs) z/\r=xom z)(hn:∃vs,xp3 l vs)(h:∀vs,xp3 l vs->OkR P (s vs) (λz=>one1 z/\R z)):∃r,(match o with|some r=>some r|none=>xq7 P l s)=some r/\Is R r:=by
 cases o with
 |none=>exact absOp_R hn h
 |some r=>
  obtain⟨vs,z,h1,h2,h3⟩:=ho r rfl
  obtain⟨g1,g2⟩:=(h vs h1).2 z h2
  exact⟨r,rfl,by rw[h3,one1_of g1];exact Is.sc g2⟩
theorem op_1{o:Option AV}{v0:Value}(hv:xom v0=.sc v0)(ho:∀r,o=some r->∃vs z,xp3 l vs/\may P (s vs) z/\r=xom z)(hn:∃vs,xp3 l vs)(h:∀vs,xp3 l vs->OkR P (s vs) (·=v0)):(match o with|some r=>some r|none=>xq7 P l s)=some (.sc v0):=by
 cases o with
 |none=>exact absOp_1 hn h
 |some r=>
  obtain⟨vs,z,h1,h2,h3⟩:=ho r rfl
  have g:=(h vs h1).2 z h2
  rw[h3,g,hv]
end
theorem bin0_s{op:BinOp}{t:TypeId}{x y:Operand}{a b:AV}(ha:NE a)(hb:NE b):∀r,bin0 P op t x y a b=some r->∃vs z,xp3 [a,b] vs/\may P (binS op t x y vs) z/\r=xom z:=by
 intro r h
 unfold bin0 at h
 cases ea:xo9 a with
 |none=>
  obtain⟨p,rfl⟩:=tv_none ea ha
  cases eb:xo9 b with
  |none=>simp[ea,eb]at h
  |some v=>
   simp only[ea,eb]at h
   split at h
   .rename_i h1 h2;cases h1
   .split at h
    .rename_i h1;cases h1
    .rename_i h1;cases h1
    .cases h
   .cases h
 |some u=>
  cases eb:xo9 b with
  |none=>simp[ea,eb]at h
  |some v=>
   simp only[ea,eb,x194]at h
   obtain⟨z,hz,rfl⟩:=h
   exact⟨[u,v],z,⟨xsc ea,xsc eb,trivial⟩,xsw hz,rfl⟩
theorem cs2{a b:AV}(ha:NE a)(hb:NE b):∃vs,xp3 [a,b] vs:=by
 obtain⟨u,hu⟩:=ha
 obtain⟨v,hv⟩:=hb
 exact⟨[u,v],hu,hv,trivial⟩
theorem cs1{a:AV}(ha:NE a):∃vs,xp3 [a] vs:=by
 obtain⟨u,hu⟩:=ha
 exact⟨[u],hu,trivial⟩
theorem cs2'{a b:AV}{Q:List Value->Prop}(h:∀u v,conc a u->conc b v->Q [u,v]):∀vs,xp3 [a,b] vs->Q vs
 |[],h0=>h0.elim
 |[_],h0=>h0.2.elim
 |[u,v],h0=>h u v h0.1 h0.2.1
 |_::_::_::_,h0=>h0.2.2.elim
theorem cs1'{a:AV}{Q:List Value->Prop}(h:∀u,conc a u->Q [u]):∀vs,xp3 [a] vs->Q vs
 |[],h0=>h0.elim
 |[u],h0=>h u h0.1
 |_::_::_,h0=>h0.2.elim
section
variable{op:BinOp}{t:TypeId}{x y:Operand}{a b:AV}{R A B:Value->Prop}{v0:Value}
theorem xx9(ha:Is A a)(hb:Is B b)(h:∀u v,A u->B v->OkR P (binS op t x y [u,v]) (λz=>one1 z/\R z)):∃r,sBin P op t x y a b=some r/\Is R r:=
 op_R (bin0_s ha.1 hb.1) (cs2 ha.1 hb.1) (cs2' λu v hu hv=>h u v (ha.2 u hu) (hb.2 v hv))
theorem sBin_1(ha:Is A a)(hb:Is B b)(hv:xom v0=.sc v0)(h:∀u v,A u->B v->OkR P (binS op t x y [u,v]) (·=v0)):sBin P op t x y a b=some (.sc v0):=
 op_1 hv (bin0_s ha.1 hb.1) (cs2 ha.1 hb.1) (cs2' λu v hu hv=>h u v (ha.2 u hu) (hb.2 v hv))
end
theorem xzf{a:AV}{vs:List Value}(h:xop [a]=some vs):∃u,vs=[u]/\conc a u:=by
 unfold xop at h
 cases e:xo9 a with
 |none=>simp[e]at h
 |some u=>simp[e,xop]at h;exact⟨u,h.symm,xsc e⟩
theorem toVals2{a b:AV}{vs:List Value}(h:xop [a,b]=some vs):∃u v,vs=[u,v]/\conc a u/\conc b v:=by
 unfold xop at h
 cases e:xo9 a with
 |none=>simp[e]at h
 |some u=>
  cases e2:xop [b]with
  |none=>simp[e,e2]at h
  |some l=>
   simp[e,e2]at h
   obtain⟨v,hv,hc⟩:=xzf e2
   exact⟨u,v,by rw[<-h,hv],xsc e,hc⟩
section
variable{b:Builtin}{f:FuncId}{ts:Array TypeId}{t s d:TypeId}{a c:AV}{R A C:Value->Prop}{v0:Value}{uo:UnOp}
theorem bi0_s1(l:List AV)(hl:∀vs,xop l=some vs->xp3 l vs):∀r,bi0 P b ts t l=some r->∃vs z,xp3 l vs/\may P (biS b ts t vs) z/\r=xom z:=by
 intro r h
 unfold bi0 at h
 cases e:xop l with
 |none=>simp[e]at h
 |some vs=>
  simp only[e,x194]at h
  obtain⟨z,hz,rfl⟩:=h
  exact⟨vs,z,hl vs e,xsw hz,rfl⟩
theorem tvs1:∀vs,xop [a]=some vs->xp3 [a] vs:=λvs h=>by
 obtain⟨u,rfl,hu⟩:=xzf h
 exact⟨hu,trivial⟩
theorem tvs2:∀vs,xop [a,c]=some vs->xp3 [a,c] vs:=λvs h=>by
 obtain⟨u,v,rfl,hu,hv⟩:=toVals2 h
 exact⟨hu,hv,trivial⟩
theorem xxa(ha:Is A a)(h:∀u,A u->OkR P (biS b ts t [u]) (λz=>one1 z/\R z)):∃r,xoi P b ts t [a]=some r/\Is R r:=
 op_R (bi0_s1 [a] tvs1) (cs1 ha.1) (cs1' λu hu=>h u (ha.2 u hu))
theorem sCvt_R(ha:Is A a)(hno:∀u,conc a u->xr2 P s d u=none)(h:∀u,A u->OkR P (convert s d u) (λz=>one1 z/\R z)):∃r,sCvt P s d a=some r/\Is R r:=by
 refine op_R (l:=[a]) (s:=cvtS s d) ?_ (cs1 ha.1) (cs1' λu hu=>h u (ha.2 u hu))
 intro r hr
 unfold cvt0 at hr
 cases e:xo9 a with
 |none=>simp[e]at hr
 |some u=>
  simp only[e,hno u (xsc e),x194]at hr
  obtain⟨z,hz,rfl⟩:=hr
  exact⟨[u],z,⟨xsc e,trivial⟩,xsw hz,rfl⟩
theorem sUn_R(ha:Is A a)(h:∀u,A u->OkR P (Op.unary uo u) (λz=>one1 z/\R z)):∃r,sUn P uo a=some r/\Is R r:=by
 refine op_R (l:=[a]) (s:=unS uo) ?_ (cs1 ha.1) (cs1' λu hu=>h u (ha.2 u hu))
 intro r hr
 unfold un0 at hr
 cases e:xo9 a with
 |none=>simp[e]at hr
 |some u=>
  simp only[e,x194]at hr
  obtain⟨z,hz,rfl⟩:=hr
  exact⟨[u],z,⟨xsc e,trivial⟩,xsw hz,rfl⟩
theorem sExt_R(ha:Is A a)(h:∀u,A u->OkR P (callFunc f #[u] >>= extK) (λz=>one1 z/\R z)):∃r,xsk P f [a]=some r/\Is R r:=by
 refine op_R (l:=[a]) (s:=extS f) ?_ (cs1 ha.1) (cs1' λu hu=>h u (ha.2 u hu))
 intro r hr
 unfold ext0 at hr
 cases e:xop [a]with
 |none=>simp[e]at hr
 |some vs=>
  obtain⟨u,rfl,hu⟩:=xzf e
  simp only[e]at hr
  split at hr
  .rename_i z hz
   cases hr
   have hm:=xsw hz
   refine⟨[u],z,⟨hu,trivial⟩,?_,rfl⟩
   exact xvr (f:=extK) (v:=.value z) (u:=z) (show may P (extK (.value z)) z from rfl) hm
  .cases hr
end
end Go.Ix
