import Derived.Test.YtjngclcijnpooaaGreatDoorFxShelf
import Derived.Lib.SmallJoins
import Derived.Laws.Strings
import Derived.Test.YtjngclcijnpooaaGreatDoorRows
import Derived.Test.YtjngclcijnpooaaGreatDoorFxLaw
import Derived.Test.YtjngclcijnpooaaGreatDoorCards
import Derived.Test.YtjngclcijnpooaaGreatDoorTie
import Derived.Stop.LaidErr
import Derived.LaidMore
import Derived.Lay
import Derived.SevenTiedAt
import Derived.Stop.Joined
import Derived.Lib.AtoiAll
import Derived.Lib.Bytealg
import Derived.Laws.StructEq
import Derived.ProofKit
set_option maxRecDepth 10000
set_option linter.all false
open Go.Proofs.Tryz
namespace Go.Ix
open Go Go.Proofs
def fb{w d:World}(h:Go.RowKit.Below w.heap.size w d):Ext (λ_=>True) w d:=
 ⟨h.size,λb a=>by simp only[World.shape?];rw[h.block b a],λb _ a=>h.block b a,h.os,h.output⟩
def MC{P:Program}{E:Env}{w:World}{st:St}{f:FuncId}{d:Array Value}{r:AV}(g:kR P f)(i:Sim E w st)(j:Calls P f d w λe a=>∃u,e=.returned u/\Ext (λ_=>True) w a/\V E.F a E.η E.ζ.1 r u):kR P f/\pC P E w st f d r st:=by refine⟨g,λl=>?_⟩;obtain⟨e,a,fr,⟨u,rfl,m,n⟩,o,p,t⟩:=j l;obtain⟨x,y⟩:=i.outside (F':=E.F) m (λ_ h=>h) (λ_ h=>.inl h);exact⟨E,a,u,.inl ⟨g,fr,o,p,t⟩,n,x,y,bT _,λid b h=>.inl ⟨b,h⟩⟩
def xj2{E:Env}{w:World}{a:AV}{d:Array Value}(h:ArgsV E w [a] d):∃v,d=#[v]/\E.V w a v:=by
 obtain⟨e,f⟩:=h;have h1':d.size=1:=e;refine⟨d[0],?_,f 0 a d[0] rfl (jD (by omega))⟩;refine Array.ext (by simp[h1']) λi a b=>?_
 have:i=0:=(by omega);subst this;rfl
def x42(w:World)(k:Nat)(d:Array Obj):Ext (λ_=>True) w (Go.Sort.grow (w.drewN k) d):=by
 have a:∀b,b<w.heap.size->(Go.Sort.grow (w.drewN k) d).heap[b]?=w.heap[b]?:=λb a=>by simp only[Go.Sort.grow,World.drewN];rw[XX a]
 exact⟨by simp[Go.Sort.grow,World.drewN],λb h=>by simp only[World.shape?];rw[a b h],λb _ h=>a b h,rfl,rfl⟩
def fi:∀(k n:Nat),1<=k->n<10 ^ k->iL k n=Lib.decDigits n
 |0,n,h,_=>by omega
 |k+1,n,_,h=>by
  rw[Lib.decDigits];unfold iL;by_cases a:n<10
  .rw[aH a,dif_pos a]
  .rw[aD a,dif_neg a]
   rw[fi k (n / 10) (by
    rcases k with _|k
    .simp at h;omega
    .omega) (by rw[Nat.pow_succ]at h;omega)]
def x6a(n:Int)(a:-9223372036854775808<=n)(b:n<=9223372036854775807):mX n=Lib.itoa n:=by
 unfold mX Lib.itoa;split
 .rw[fi 20 _ (by omega) (by omega)]
 .rw[fi 20 _ (by omega) (by omega)]
def x3e{E:Env}{w:World}{st:St}{a:List AV}{g:Array Value}{r:AV}(i:xM prog w)(j:Sim E w st)(l:ArgsV E w a g)(b:sE 1 a=some r):kR prog DH/\pC prog E w st DH g r st:=by
 obtain⟨f,p⟩:=i;unfold sE at b;split at b
 .rename_i n _;split at b
  .rename_i d;cases b;obtain⟨v,rfl,t⟩:=xj2 l;have:=lH t;subst this;refine MC (GA (by kernel_rfl)) j (Calls.mono (Tryz.strconv_Itoa n d.1 d.2 w (f (by kernel_rfl))) λe u ⟨m,k,x,o⟩=>⟨_,m,?_,?_⟩)
   .rw[o];exact x42 _ _ _
   .rw[x6a n d.1 d.2];exact .sc _
  .cases b
 .rename_i h;cases h
 .cases b
set_option maxHeartbeats 1000000 in
theorem yb8{E:Env}{w:World}{st:St}{args:List AV}{vs:Array Value}{r:AV}(hk:xM prog w)(hS:Sim E w st)(hA:ArgsV E w args vs)(hr:sE 2 args=some r):kR prog O1/\pC prog E w st O1 vs r st:=by
 obtain⟨hk1,hk2⟩:=hk;unfold sE at hr;split at hr
 .rename_i h;cases h
 .rename_i s _;split at hr
  .rename_i Z;obtain⟨v,rfl,hv⟩:=xj2 hA;have:=lH hv;subst this;have hk3:=hk2 (by kernel_rfl);have two:∀(w':World) (a b:AV) (u v:Value),V E.F w' E.η E.ζ.1 a u->V E.F w' E.η E.ζ.1 b v->V E.F w' E.η E.ζ.1 (.tup [a,b]) (.tuple #[u,v]):=λw' a b u v h1 h2=>.tup _ _ rfl λi x y hx hy=>by
    match i,hx,hy with
    |0,hx,hy=>cases hx;cases hy;exact h1
    |1,hx,hy=>cases hx;cases hy;exact h2
    |i+2,hx,hy=>simp at hx
   cases hv:Lib.atoiAll s.data.toList with
   |ok v=>
    rw[hv]at hr;cases hr;refine MC (GA (by kernel_rfl)) hS (Calls.mono (Tryz.strconv_Atoi_ok s (by omega) v hv w) λe w' ⟨he,hw⟩=>⟨_,he,?_,two _ _ _ _ _ (.sc _) (.sc _)⟩);rcases hw with rfl|⟨t,rfl⟩
    .exact Ext.refl _ _
    .exact fb (Go.Joins.below_bytesWorld _ _ _ _ (bT _))
   |range=>rw[hv]at hr;cases hr;obtain⟨_,x,hx,tp,p,rfl⟩:=hk3;refine MC (GA (by kernel_rfl)) hS (Calls.mono (Tryz.strconv_Atoi_range_var s (by omega) hv tp p w hx) λe w' ⟨N,he,_,_,hw⟩=>⟨_,he,fb hw,two _ _ _ _ _ (.sc _) (.un _ _ ⟨_,_,rfl⟩ ?_)⟩);exact⟨rfl,rfl,λb h=>by cases h⟩
   |_=>rw[hv]at hr;cases hr;obtain⟨⟨x,hx,tp,p,rfl⟩,_⟩:=hk3;refine MC (GA (by kernel_rfl)) hS (Calls.mono (Tryz.strconv_Atoi_bad_var s (by omega) (hv.trans (by kernel_rfl)) tp p w hx) λe w' ⟨N,he,_,_,hw⟩=>⟨_,he,fb hw,two _ _ _ _ _ (.sc _) (.un _ _ ⟨_,_,rfl⟩ ?_)⟩);exact⟨rfl,rfl,λb h=>by cases h⟩
  .cases hr
 .cases hr
def told_ok:G1 prog pol:=by
 intro E w st f b vs r i j d g h a;rcases xxx f j with ⟨rfl,e⟩|⟨rfl,e⟩
 .rw[e]at a;unfold BV at a;simp only[show Nat.beq 1 3=false from by rfl,show Nat.ble 16 1=false from by rfl,show Nat.ble 4 1=false from by rfl,cond_false,cH,bH]at a;obtain⟨r0,a,rfl,rfl⟩:=a;exact x3e d g h a
 .rw[e]at a;unfold BV at a;simp only[show Nat.beq 2 3=false from by rfl,show Nat.ble 16 2=false from by rfl,show Nat.ble 4 2=false from by rfl,cond_false,cH,bH]at a;obtain⟨r0,a,rfl,rfl⟩:=a;exact yb8 d g h a
end Go.Ix
namespace Go.Ix
open Go.Proofs
variable{R:Type}{P:Program}{m:Mem}
@[simp] theorem dJ(x y:Int):bI (I x) (I y)=some (I (bM (x+y))):=_root_.id rfl
@[simp] theorem mQ(x y:Int):eM (I x) (I y)=some (I (bM (x-y))):=_root_.id rfl
@[simp] theorem CL(x y:Int):jP (I x) (I y)=some (I (bM (x*y))):=_root_.id rfl
@[simp] theorem bQ(x y:Int):bU (I x) (I y)=some (B (decide (x<y))):=_root_.id rfl
@[simp] theorem KP(x y:Int):iT (I x) (I y)=some (B (decide (x<=y))):=_root_.id rfl
@[simp] theorem gZ(x y:Int):eQ (I x) (I y)=some (B (decide (y<x))):=_root_.id rfl
@[simp] theorem vW(x y:Int):kL (I x) (I y)=some (B (decide (y<=x))):=_root_.id rfl
@[simp] theorem fV(x y:Int):dY (I x) (I y)=some (B (decide (x=y))):=_root_.id rfl
@[simp] theorem fQ(x y:Int):eC (I x) (I y)=some (B (!decide (x=y))):=_root_.id rfl
@[simp] theorem xdi(x:Int):pO (I x)=some (I (bM (0-x))):=_root_.id rfl
@[simp] theorem fA(b:Bool):dL (B b)=some (B (!b)):=_root_.id rfl
@[simp] theorem ydp(x y:Int):vV (I x) (I y)=some (I (if y<x then y else x)):=_root_.id rfl
@[simp] theorem ydq(x y:Int):yB (I x) (I y)=some (I (if y > x then y else x)):=_root_.id rfl
def KM{x y:Int}(h:y≠0):oG (I x) (I y)=some (I (x.tmod y)):=by simp[oG,h]
@[simp] theorem cN(c:Bool)(a b:AV):bN (B c) a b=some (bif c then a else b):=_root_.id rfl
@[simp] theorem aR(a b:Option R):aL (B true) a b=a:=_root_.id rfl
@[simp] theorem aS(a b:Option R):aL (B false) a b=b:=_root_.id rfl
@[simp] theorem gD(b:Bool):sW (B b) true=b:=by cases b<;>rfl
@[simp] theorem dR(b:Bool):sW (B b) false=!b:=by cases b<;>rfl
@[simp] theorem sW_U(w:Bool):sW U w=false:=_root_.id rfl
@[simp] theorem mB(l:List AV)(i:Nat):dB (.tup l) i=l[i]?:=_root_.id rfl
@[simp] theorem gf(x:Int):(I x).cells=[I x]:=_root_.id rfl
@[simp] theorem yea(x:Bool):(B x).cells=[B x]:=_root_.id rfl
@[simp] theorem jT(l:List AV):(AV.agg l).cells=l:=_root_.id rfl
@[simp] theorem yd7(l:List AV)(n:Nat)(x:Bool):(AV.aQ l n x).cells=[.aQ l n x]:=_root_.id rfl
@[simp] theorem yd6(id:Id)(a b n z:Nat)(f:Bool):(AV.sref id a b n z f).cells=[.sref id a b n z f]:=_root_.id rfl
@[simp] theorem yd8:(nilS).cells=[nilS]:=_root_.id rfl
@[simp] theorem oM(x:Int):(I x).one=true:=_root_.id rfl
@[simp] theorem ydw(x:Bool):(B x).one=true:=_root_.id rfl
@[simp] theorem yds(l:List AV)(n:Nat)(x:Bool):(AV.aQ l n x).one=true:=_root_.id rfl
@[simp] theorem ydr(id:Id)(a b n z:Nat)(f:Bool):(AV.sref id a b n z f).one=true:=_root_.id rfl
@[simp] theorem ydt:(nilS).one=true:=_root_.id rfl
@[simp] theorem ydu(f:FuncId)(l:List AV):(AV.clo f l).one=true:=_root_.id rfl
def aP:AV->Bool
 | .sc _ | .aQ .. | .aF _ | .un _=>true
 |_=>false
def bG:AV->Bool
 | .sc _ | .aQ .. | .aF _ | .un _=>true
 | .agg l=>l.all aP
 | .clo _ l=>l.all aP
 |_=>false
@[simp] theorem ydn(v:Value):aP (.sc v)=true:=_root_.id rfl
@[simp] theorem ydm(l:List AV)(n:Nat)(x:Bool):aP (.aQ l n x)=true:=_root_.id rfl
@[simp] theorem ydk(v:Value):bG (.sc v)=true:=_root_.id rfl
@[simp] theorem ydj(l:List AV)(n:Nat)(x:Bool):bG (.aQ l n x)=true:=_root_.id rfl
@[simp] theorem vT(l:List AV):bG (.agg l)=l.all aP:=_root_.id rfl
@[simp] theorem ydl(f:FuncId)(l:List AV):bG (.clo f l)=l.all aP:=_root_.id rfl
def tF{a:AV}(b:Id->Option Ob)(k:Nat)(h:aP a=true):frz b (k+1) a=some a:=by cases a<;>simp_all [frz,aP]
def pX{f:AV->Option AV}:∀{l:List AV},(∀a∈l,f a=some a)->l.mapM f=some l
 |[],_=>rfl
 |a::l,h=>by rw[eG,h a (eO ..),pX λb d=>h b (eA _ d)];rfl
def kD{a:AV}(d:Id->Option Ob)(k:Nat)(h:bG a=true):frz d (k+2) a=some a:=by
 cases a with
 |agg l=>
  simp only[bG,dG]at h;have:l.mapM (frz d (k+1))=some l:=pX λb e=>tF d k (h b e)
  show(l.mapM (frz d (k+1))).map AV.agg=_;rw[this];rfl
 |clo f l=>
  simp only[bG,dG]at h;have:l.mapM (frz d (k+1))=some l:=pX λb e=>tF d k (h b e)
  show(l.mapM (frz d (k+1))).map (AV.clo f)=_;rw[this];rfl
 |_=>first|(exact tF d (k+1) rfl)|(simp[bG]at h)
def N2{a:AV}(b:Id->Option Ob)(k:Nat)(h:aP a=true):reach b (k+1) a=[]:=by cases a<;>simp_all [reach,aP]
def xsk{a:AV}(d:Id->Option Ob)(k:Nat)(h:bG a=true):reach d (k+2) a=[]:=by
 cases a with
 |agg l=>simp only[bG,dG]at h;show l.flatMap (reach d (k+1))=[];rw[zW];exact λb e=>N2 d k (h b e)
 |clo f l=>simp only[bG,dG]at h;show l.flatMap (reach d (k+1))=[];rw[zW];exact λb e=>N2 d k (h b e)
 |_=>first|(exact N2 d (k+1) rfl)|(simp[bG]at h)
def zE{l:List AV}(b:Id->Option Ob)(h:l.all bG=true):l.mapM (frz b bL)=some l:=
 pX λa d=>kD b 4 (dG.mp h a d)
def CT{l:List AV}(b:Id->Option Ob)(h:l.all bG=true):l.flatMap (reach b bL)=[]:=by rw[zW];exact λa d=>xsk b 4 (dG.mp h a d)
def gG{call:aK}{f:FuncId}{l:List AV}{m m':Mem}{r:AV}(a:l.all bG=true)(h:call [] f l mem0=some (r,m'))(b:bG r=true):aI call f l m=some (r,m):=by unfold aI;rw[zE _ a];simp only[h];rw[show frz m'.get bL r=some r from kD _ 4 b,CT _ a];rfl
def W5{call:aK}{f:FuncId}{l:List AV}{m m':Mem}{r:AV}(a:l.all bG=true)(h:call [] f l mem0=some (r,m'))(b:rI r=true):dZ call f l m=some (r,m):=by unfold dZ;rw[zE _ a];simp only[h,aH b]
def tO{b:aK}{f:FuncId}{l:List AV}{m d:Mem}{r:List AV}(e:l.all bG=true)(h:b [] f l mem0=some (.tup r,d))(g:r.all bG=true):aI b f l m=some (.tup r,m):=by
 unfold aI;rw[zE _ e];simp only[h];have:frz d.get bL (.tup r)=some (.tup r):=by
  have j:r.mapM (frz d.get 5)=some r:=pX λa i=>kD _ 3 (dG.mp g a i)
  show(r.mapM (frz d.get 5)).map AV.tup=_;rw[j];rfl
 rw[this,CT _ e];rfl
def Ans(a:aK)(f:FuncId)(l:List AV)(r:AV):Prop:=∃b,a [] f l mem0=some (r,b)
def Ans.gG{call:aK}{f:FuncId}{l:List AV}{m:Mem}{r:AV}(h:Ans call f l r)(a:l.all bG=true)(b:bG r=true):aI call f l m=some (r,m):=
 let⟨_,h⟩:=h;Go.Ix.gG a h b
def Ans.tO{a:aK}{f:FuncId}{l:List AV}{m:Mem}{r:List AV}(h:Ans a f l (.tup r))(b:l.all bG=true)(d:r.all bG=true):aI a f l m=some (.tup r,m):=
 let⟨_,h⟩:=h;Go.Ix.tO b h d
def Sl{α:Type}(b:α->List AV)(a:AV)(l:List α):Prop:=(a=nilS/\l=[])\/∃x,a=.aQ (l.flatMap b) l.length x
variable{α:Type}{enc:α->List AV}{z:Nat}{a:AV}{l:List α}
def iE(a:∀x,(enc x).length=z):∀l:List α,(l.flatMap enc).length=l.length*z
 |[]=>by simp
 |x::l=>by simp only[dN,jL,a,iE a l,eI,lR];omega
def zG(a:∀x,(enc x).length=z):∀(l:List α) (k:Nat),(l.flatMap enc).drop (k*z)=(l.drop k).flatMap enc
 |l,0=>by simp
 |[],k+1=>by simp
 |x::l,k+1=>by rw[dN,lR,H1,lU (by rw[a];omega),iX,a,xkn,zG a l k,cZ]
def fT{l:List α}{k:Nat}(h:k<l.length):l.drop k=l[k]::l.drop (k+1):=HI h
def gK{l r:List α}{x:α}{k:Nat}(h:l.drop k=x::r):∃a:k<l.length,l[k]=x/\l.drop (k+1)=r:=by
 have a:k<l.length:=by
  rcases jU k l.length with h'|h'
  .exact h'
  .rw[lU h']at h;cases h
 rw[fT a]at h;injection h with he hd;exact⟨a,he,hd⟩
def Sl.aP(h:Sl enc a l):aP a=true:=by rcases h with ⟨rfl,_⟩|⟨x,rfl⟩<;>rfl
def Sl.bG(h:Sl enc a l):bG a=true:=by rcases h with ⟨rfl,_⟩|⟨x,rfl⟩<;>rfl
def Sl.clean(h:Sl enc a l):clean a=true:=by rcases h with ⟨rfl,_⟩|⟨x,rfl⟩<;>rfl
def Sl.eF(h:Sl enc a l):eF a=true:=by rcases h with ⟨rfl,_⟩|⟨x,rfl⟩<;>rfl
def Sl.cells(h:Sl enc a l):a.cells=[a]:=by rcases h with ⟨rfl,_⟩|⟨x,rfl⟩<;>rfl
def Sl.one(h:Sl enc a l):a.one=true:=by rcases h with ⟨rfl,_⟩|⟨x,rfl⟩<;>rfl
def Sl.tX(h:Sl enc a l):tX a=some []:=by rcases h with ⟨rfl,_⟩|⟨x,rfl⟩<;>rfl
def Sl.lit(l:List α)(x:Bool):Sl enc (.aQ (l.flatMap enc) l.length x) l:=Or.inr ⟨x,rfl⟩
def Sl.elems(d:∀x,(enc x).length=z)(h:Sl enc a l)(b:Id->Option Ob):elems b z a=some (l.flatMap enc,l.length):=by
 rcases h with ⟨rfl,rfl⟩|⟨x,rfl⟩
 .rfl
 .have e:=iE d l;simp[Ix.elems,e,dU]
def FT{t e:TypeId}(a:P.underlying t=some (.slice e)):aN P t nilS=some (I 0):=by have:bY P (Builtin.len_ #[t] 0 #[Value.slice none 0 0])=some (.int .i64 0):=(by simp[Builtin.len_,underlying,program,Bind.bind,Sem.bind,bY,Pure.pure,a,goInt]);show(bY P (Builtin.len_ #[t] 0 #[Value.slice none 0 0])).map fO=_;rw[this];rfl
def Sl.len{t e:TypeId}(b:P.underlying t=some (.slice e))(h:Sl enc a l):aN P t a=some (I l.length):=by
 rcases h with ⟨rfl,rfl⟩|⟨x,rfl⟩
 .exact FT b
 .rfl
def Sl.ix(d:∀x,(enc x).length=z)(h:Sl enc a l){k:Nat}(b:k<l.length):aT z a (I k)=some (.aF ((l.drop k).flatMap enc)):=by
 rcases h with ⟨rfl,rfl⟩|⟨x,rfl⟩
 .simp at b
 .have:(0:Int)<=(k:Int)/\(k:Int)<(l.length:Int):=(by omega);simp[aT,dI,zG d,b]
def iP{m:Mem}(d:∀x,(enc x).length=z)(g:0<z){k:Nat}(e:k<l.length):aA true z (.aF ((l.drop k).flatMap enc)) m=some (.agg (enc l[k])):=by
 have b:=d l[k];rw[fT e,dN];simp only[aA];have a:(enc l[k]++(l.drop (k+1)).flatMap enc).isEmpty=false:=by
  cases f:enc l[k]with
  |nil=>rw[f]at b;simp at b;omega
  |cons=>rfl
 rw[a];simp only[fE,cJ,rd];rw[aH trivial,aH (by rw[jL];omega),xko (by omega),dU (by omega)]
@[simp] theorem cM(a:Nat)(id:Id)(b o:Nat):aB a (.ptr id b o)=some (.ptr id b (o+a)):=_root_.id rfl
@[simp] theorem xdm(a:Nat)(b:List AV):aB a (.aF b)=some (.aF (b.drop a)):=_root_.id rfl
@[simp] theorem ydz{m:Mem}(x:AV)(a:List AV):aA false 1 (.aF (x::a)) m=some x:=_root_.id rfl
def aM{m:Mem}{id:Id}{g:Bool}{z a b:Nat}{d:List AV}{e:Bool}(h:m.get id=some (.row d b e)):aA g z (.ptr id b a) m=rd g z (d.drop a):=by simp[aA,h]
@[simp] theorem w8(g:Bool)(z:Nat)(x:AV)(a:List AV)(m:Mem):aA g z (.aF (x::a)) m=rd g z (x::a):=_root_.id rfl
def mA{m:Mem}{id:Id}{z off a:Nat}{b:List AV}{x:AV}{k:Mem->Option R}(h:m.get id=some (.row b a false))(d:x.cells.length=z)(e:off+z<=b.length)(f:x.cells.all AV.one=true) :
    aZ z (.ptr id a off) x m k=k (m.set id (.row (cR b off x.cells) a false)):=by
 simp only[aZ,h];rw[aH ⟨trivial,d,e,f⟩]
def Mem.tB(m:Mem)(i:Id)(o:Ob):(m.set i o).get i=some o:=by rw[Mem.cP,aH rfl]
def Mem.iB(m:Mem)(i:Id)(o:Ob):(m.new i o).get i=some o:=by rw[Mem.dP,aH rfl]
def Mem.mG{m:Mem}{i j:Id}{o:Ob}(h:j≠i):(m.set i o).get j=m.get j:=by rw[Mem.cP,aD h]
def Mem.qB{m:Mem}{i j:Id}{o:Ob}(h:j≠i):(m.new i o).get j=m.get j:=by rw[Mem.dP,aD h]
@[simp] theorem Mem.next_set(m:Mem)(i:Id)(o:Ob):(m.set i o).next=m.next:=_root_.id rfl
@[simp] theorem Mem.next_new(m:Mem)(i:Id)(o:Ob):(m.new i o).next=m.next:=_root_.id rfl
def ybz{α β:Type}{x y:Option α}{f:α->Option β}(h:x=y):x.bind f=y.bind f:=by rw[h]
def x6j{α:Type}{x y:Bool}{a b:α}(h:x=y):cond x a b=cond y a b:=by rw[h]
def xru{x y:AV}{a b:Option R}(h:x=y):aL x a b=aL y a b:=by rw[h]
attribute [congr] ybz x6j xru
theorem aE{α β:Type}(a:α)(f:α->Option β):(some a).bind f=f a:=_root_.id rfl
theorem bB{α:Type}(a b:α):cond true a b=a:=_root_.id rfl
theorem cS{α:Type}(a b:α):cond false a b=b:=_root_.id rfl
attribute [simp high] aE bB cS
attribute [simp ↓ high] aR aS aE bB cS
@[simp ↓] theorem kA(a:List AV)(id:Id)(m:Mem)(k:AV->Mem->Option R):dH a id m k=k (.ptr id 0 0) (m.new id (.row a 0 false)):=_root_.id rfl
def pM(z b a:Nat)(x:AV):Option Ob->Option Ob
 |some (.row d v false)=>bif decide (v=b/\x.cells.length=z/\a+z<=d.length/\(x.cells.all AV.one)=true)then some (.row (cR d a x.cells) v false)else none
 |_=>none
def rC(z:Nat)(id:Id)(a b:Nat)(x:AV)(m:Mem)(k:Mem->Option R):aZ z (.ptr id a b) x m k=(pM z a b x (m.get id)).bind λo=>k (m.set id o):=by
 cases h:m.get id with
 |none=>simp only[aZ,h];rfl
 |some o=>
  cases o with
  |map j=>simp only[aZ,h];rfl
  |lp d=>simp only[aZ,h];rfl
  |bld t e l=>simp only[aZ,h];rfl
  |row i v f=>
   cases f with
   |true=>simp only[aZ,h];rfl
   |false=>
    simp only[aZ,h,pM];by_cases g:v=a/\x.cells.length=z/\b+z<=i.length/\(x.cells.all AV.one)=true
    .rw[aH g,fC g];rfl
    .rw[aD g,eT g];rfl
@[simp ↓] theorem gI(c:AV)(w:Bool)(x:AV)(m:Mem)(k:AV×Mem->Option R):bD c w x m k=(bif sW c w then some (x,m)else some (U,m)).bind k:=_root_.id rfl
@[simp ↓] theorem dO(c:AV)(w:Bool)(x:Option AV)(m:Mem)(k:AV×Mem->Option R):aJ c w x m k=(bif sW c w then x.bind λv=>some (v,m)else some (U,m)).bind k:=_root_.id rfl
@[simp ↓] theorem hJ(c:AV)(w:Bool)(x:Option (AV×Mem))(m:Mem)(k:AV×Mem->Option R):eR c w x m k=(bif sW c w then x.bind λp=>some (p.1,p.2)else some (U,m)).bind k:=_root_.id rfl
theorem CA(z b a:Nat)(x:AV)(d:List AV)(v:Nat):pM z b a x (some (.row d v false))=bif decide (v=b/\x.cells.length=z/\a+z<=d.length/\(x.cells.all AV.one)=true)then some (.row (cR d a x.cells) v false)else none:=_root_.id rfl
def fN(x:AV)(id:Id)(m:Mem)(k:AV->Mem->Option R):cD x id m k=bif x.cells.all AV.one then k (.ptr id 0 0) (m.new id (.row x.cells 0 false))else none:=by
 unfold cD;split
 .rename_i e;rw[e];rfl
 .rename_i e;rw[xlg]at e;rw[e];rfl
def sS(g:Bool)(z a b:Nat):Option Ob->Option AV
 |some (.row d v _)=>bif Nat.beq v a then rd g z (d.drop b)else none
 |_=>none
def jF(g:Bool)(z:Nat)(id:Id)(a b:Nat)(m:Mem):aA g z (.ptr id a b) m=sS g z a b (m.get id):=by
 cases h:m.get id with
 |none=>simp only[aA,h];rfl
 |some o=>
  cases o with
  |map j=>simp only[aA,h];rfl
  |lp d=>simp only[aA,h];rfl
  |bld t e l=>simp only[aA,h];rfl
  |row n v f=>
   simp only[aA,h,sS];by_cases i:v=a
   .subst i;simp
   .rw[aD i,show Nat.beq v a=false from by rw[kU];intro x;exact i (fJ x)];rfl
theorem U2(g:Bool)(z a b:Nat)(d:List AV)(v:Nat)(f:Bool):sS g z a b (some (.row d v f))=bif Nat.beq v a then rd g z (d.drop b)else none:=_root_.id rfl
def N3(z:Nat)(a:List AV):rd true z a=bif decide (z<=a.length)then some (.agg (a.take z))else none:=by unfold rd;by_cases h:z<=a.length<;>simp[h]
theorem cE(z:Nat)(a:AV)(b:List AV):rd false z (a::b)=some a:=_root_.id rfl
def xsp(a:AV)(b:List AV):rd true 1 (a::b)=some (.agg [a]):=by rw[N3,eI,fC (by omega)];rfl
def xso(a b:AV)(d:List AV):rd true 2 (a::b::d)=some (.agg [a,b]):=by rw[N3];simp only[eI];rw[fC (by omega)];rfl
def xsn(a b c:AV)(d:List AV):rd true 3 (a::b::c::d)=some (.agg [a,b,c]):=by rw[N3];simp only[eI];rw[fC (by omega)];rfl
def xsm(a b c d:AV)(e:List AV):rd true 4 (a::b::c::d::e)=some (.agg [a,b,c,d]):=by rw[N3];simp only[eI];rw[fC (by omega)];rfl
def xqd(e:Nat)(a b c d f g h i:AV):pM 4 e 0 (.agg [f,g,h,i]) (some (.row [a,b,c,d] e false))=bif[f,g,h,i].all AV.one then some (.row [f,g,h,i] e false)else none:=by rw[CA];simp[cR]
theorem xqf(b:List AV)(a:Nat)(d:List AV):cR b a d=b.take a++(d++b.drop (a+d.length)):=_root_.id rfl
attribute [simp high] xsp xso xsn xsm xqd
attribute [simp] jF U2 CA N3 cE xqf Mem.cP Mem.dP bJ
attribute [simp ↓] rC fN
def intE(x:Int):List AV:=[I x]
theorem gE(x:Int):(intE x).length=1:=_root_.id rfl
def Sl.ixI(b:∀x,(enc x).length=z)(h:Sl enc a l){k:Int}(d:0<=k)(e:k<l.length):aT z a (I k)=some (.aF ((l.drop k.toNat).flatMap enc)):=by have:=h.ix b (k:=k.toNat) (by omega);rwa[J3 d]at this
def at0(l:List Int)(k:Nat):Int:=l.getD k 0
def fD{l:List Int}{k:Nat}(h:k<l.length):at0 l k=l[k]:=by unfold at0;rw[eU,eY h];rfl
def nS{m:Mem}{l:List Int}{k:Nat}(a:k<l.length):aA false 1 (.aF ((l.drop k).flatMap intE)) m=some (I (at0 l k)):=by rw[fT a,dN,fD a];rfl
def wO(l:List AV):cB 0 l=bif l.all clean then 2 else 0:=by unfold cB;cases h:l.all clean<;>simp
def x0i(l:List AV):cB 1 l=bif l.all clean then 2 else 0:=by unfold cB;cases h:l.all clean<;>simp
@[simp] theorem ydy(l:List AV):cB 3 l=1:=_root_.id rfl
@[simp] theorem ydx(l:List AV):cB 4 l=1:=_root_.id rfl
@[simp] theorem yd2(v:Value):clean (.sc v)=true:=_root_.id rfl
@[simp] theorem yd3(l:List AV):clean (.agg l)=l.all eF:=_root_.id rfl
@[simp] theorem yd1(l:List AV)(n:Nat)(x:Bool):clean (.aQ l n x)=true:=_root_.id rfl
@[simp] theorem yd5(v:Value):eF (.sc v)=true:=_root_.id rfl
@[simp] theorem yd4(l:List AV)(n:Nat)(x:Bool):eF (.aQ l n x)=true:=_root_.id rfl
@[simp] theorem yec:Nat.ble 1 2=true:=_root_.id rfl
@[simp] theorem yed:Nat.ble 1 1=true:=_root_.id rfl
@[simp] theorem ybn(a:AV):cV none (tR a) 2=true:=by unfold tR;split<;>rfl
@[simp] theorem yeb(a:AV):cV none (tR a) 1=true:=by unfold tR;split<;>rfl
attribute [simp] wO x0i
def W6{a:aK}{f:FuncId}{l:List AV}{m b:Mem}{r d:AV}(e:l.all bG=true)(h:a [] f l mem0=some (r,b))(g:frz b.get bL r=some d):aI a f l m=some (d,m):=by unfold aI;rw[zE _ e];simp only[h,g];rw[CT _ e];rfl
def vB{aC:Id->Option Ob}{id:Id}{cs:List AV}{ver off n z k:Nat}{f x:Bool}(h:aC id=some (.row cs ver f))(b:off+n*z<=cs.length)(Z:((cs.drop off).take (n*z)).all aP=true) :
    frz aC (k+2) (.sref id ver off n z x)=some (.aQ ((cs.drop off).take (n*z)) n false):=by
 have e:((cs.drop off).take (n*z)).mapM (frz aC (k+1))=some ((cs.drop off).take (n*z)):=pX λa d=>tF aC k (dG.mp Z a d)
 simp only[frz,h];rw[aH ⟨trivial,b⟩];show((((cs.drop off).take (n*z)).mapM (frz aC (k+1))).map λl=>AV.aQ l n false)=_;rw[e];rfl
def NG{size a:Nat}{id:Id}{b:List AV}{q:Nat}{m:Mem}{k:AV->Mem->Option R}(h:cQ q a) :
    cX size a id (some (b,q)) (.aQ [] 0 true) m k=bif decide (q=0)then k (.aQ [] 0 true) m else k (.sref id 0 0 q size true) (m.new id (.row b 0 false)):=by
 simp only[cX,xF,bO,List.take_nil,iX];rw[aH (zP _)];by_cases d:q=0
 .rw[aH d,fC d];rfl
 .rw[aD d,aH h,eT d];rfl
def xfm{z:List AV}{size:Nat}{id:Id}{m:Mem}{k:AV->Mem->Option R}:dC z [] 0 size id m k=k (.aQ [] 0 true) m:=by simp[dC,jG,eV]
def rW(a:∀x,(enc x).all aP=true):∀l:List α,(l.flatMap enc).all aP=true
 |[]=>rfl
 |x::l=>by rw[dN,jp,a,rW a l];rfl
theorem wS(x:Int):(intE x).all aP=true:=rfl
attribute [simp ↓] xfm
def xfl{z:AV}{x:AV}{id:Id}{m:Mem}{k:AV->Mem->Option R}(a:x.cells=[x])(b:x.one=true)(d:eF x=true):dC [z] [(0,1,x)] 1 1 id m k=k (.aQ [x] 1 true) m:=by simp[dC,jG,eV,a,b,d,qK]
@[simp ↓] theorem ci{z:AV}{x:Int}{id:Id}{m:Mem}{k:AV->Mem->Option R}:dC [z] [(0,1,I x)] 1 1 id m k=k (.aQ [I x] 1 true) m:=xfl rfl rfl rfl
def Gr{α:Type}(z:Nat)(d:α->List AV)(u t:Nat)(m:Mem)(a:AV)(l:List α):Prop:=
 (a=nilS/\l=[])\/∃s b,a=.sref (u,s,t) b 0 l.length z true/\m.get (u,s,t)=some (.row (l.flatMap d) b false)
def Gr.nil{u t:Nat}{m:Mem}:Gr z enc u t m nilS []:=Or.inl ⟨rfl,rfl⟩
def Gr.frame{u t:Nat}{m m':Mem}(h:Gr z enc u t m a l)(b:∀s,m'.get (u,s,t)=m.get (u,s,t)):Gr z enc u t m' a l:=by
 rcases h with h|⟨s,ver,h1,h2⟩
 .exact Or.inl h
 .exact Or.inr ⟨s,ver,h1,by rw[b];exact h2⟩
def Gr.app(i:∀x,(enc x).length=z)(p:0<z){u t s0 bytes:Nat}{m:Mem}(f:cQ (l.length+1) bytes)(h:Gr z enc u t m a l)(x:α) :
    ∃g d,(∀{R:Type} (k:AV->Mem->Option R),cX z bytes (u,s0,t) (some (enc x,1)) a m k=k g d)/\Gr z enc u t d g (l++[x])/\d.next=m.next/\∀j:Id,j.2.2≠t->d.get j=m.get j:=by
 rcases h with ⟨rfl,rfl⟩|⟨s,b,rfl,o⟩
 .refine⟨.sref (u,s0,t) 0 0 1 z true,m.new (u,s0,t) (.row (enc x) 0 false),λk=>?_,Or.inr ⟨s0,0,rfl,by simp⟩,rfl,λj e=>?_⟩
  .simp only[cX];rw[aD (by omega),aH (by simpa using f)]
  .rw[Mem.dP,aD (by rintro rfl;exact e rfl)]
 .have n:=iE i l;refine⟨.sref (u,s,t) (b+1) 0 (l.length+1) z true,m.set (u,s,t) (.row (l.flatMap enc++enc x) (b+1) false),λk=>?_,Or.inr ⟨s,b+1,by simp,by simp⟩,rfl,λj e=>?_⟩
  .simp only[cX,o];rw[aH ⟨trivial,trivial,by omega,f⟩,aD (by omega),aD (by rw[n,lR];omega),bA,dU (by omega)]
  .rw[Mem.cP,aD (by rintro rfl;exact e rfl)]
def Gr.frz(e:∀x,(enc x).length=z)(Z:∀x,(enc x).all aP=true){u t:Nat}{m:Mem}(h:Gr z enc u t m a l):∃d,Sl enc d l/\frz m.get bL a=some d:=by
 rcases h with ⟨rfl,rfl⟩|⟨s,b,rfl,g⟩
 .exact⟨nilS,Or.inl ⟨rfl,rfl⟩,rfl⟩
 .have i:=iE e l;refine⟨.aQ (l.flatMap enc) l.length false,Sl.lit l false,?_⟩
  have:=vB (aC:=m.get) (id:=(u,s,t)) (cs:=l.flatMap enc) (ver:=b) (off:=0) (n:=l.length) (z:=z) (k:=4) (f:=false) (x:=true) g (by omega) (by
   rw[bA,dU (by omega)];exact rW Z l)
  rw[bA,dU (by omega)]at this;exact this
def x4d{b:Id->Option Ob}{l:List AV}(h:l.all bG=true):Go.Ix.frz b bL (.tup l)=some (.tup l):=by
 have e:l.mapM (Go.Ix.frz b 5)=some l:=pX λa d=>kD _ 3 (dG.mp h a d)
 show(l.mapM (Go.Ix.frz b 5)).map AV.tup=_;rw[e];rfl
theorem cU:NN=18446744073709551616:=rfl
def xrt{s d:TypeId}{a r:AV}(h:MQ P s d a=some r):oJ P s d a=some r:=by unfold oJ;rw[h]
structure Edge where
 fr:Int
 to:Int
 jump:Int
 wt:Int
def Edge.c(e:Edge):List AV:=[I e.fr,I e.to,I e.jump,I e.wt]
theorem Edge.len(e:Edge):e.c.length=4:=rfl
def wi(a b c:Int):Bool:=decide (b<=a/\a<=c)
def o8{a b c:Int}(h:wi a b c=true):b<=a/\a<=c:=sN h
def wi_iff{a b c:Int}:wi a b c=true↔b<=a/\a<=c:=fj
def BN(d:Nat)(a b c:Int)(m:Mem):aI (aG (d+1)) rR [I a,I b,I c] m=some (B (wi a b c),m):=by refine gG rfl (m':=⟨[],1⟩) ?_ rfl;rw[xjd];unfold OV IS wi;by_cases h:b<=a<;>by_cases e:a<=c<;>simp[h,e,mem0]
def jZ:prog.underlying fG=some (.slice eE):=by kernel_rfl
def nB:iN=[I 0]:=by kernel_rfl
def xoj(d:Nat)(a:Int)(m:Mem)(b:-9223372036854775808<a)(e:a<=9223372036854775807):aI (aG (d+1)) FK [I a] m=some (I (a.natAbs:Int),m):=by refine gG rfl (m':=⟨[],1⟩) ?_ rfl;rw[ya3];unfold su XQ;simp(disch:=omega) [mem0,bJ];split<;>omega
def K5(d:Nat)(a b c:Int)(m:Mem):aI (aG (d+1)) uT [I a,I b,I c] m=some (B (wi a b c),m):=by refine gG rfl (m':=⟨[],1⟩) ?_ rfl;rw[x7b];unfold ks PN wi;by_cases h:b<=a<;>by_cases e:a<=c<;>simp[h,e,mem0]
def xbb(d:Nat)(a b:Int)(m:Mem)(h:-9223372036854775807<=b/\b<=9223372036854775807):aI (aG (d+2)) O5 [I a,I b] m=some (B (wi a (-b) b),m):=by refine gG rfl (m':=⟨[],1⟩) ?_ rfl;rw[x7d];unfold kw PR;simp(disch:=omega) [mem0,K5,bJ]
def xnh(d:Nat)(a:Int)(m:Mem)(b:-9223372036854775808<a)(e:a<=9223372036854775807):aI (aG (d+1)) O7 [I a] m=some (I (a.natAbs:Int),m):=by refine gG rfl (m':=⟨[],1⟩) ?_ rfl;rw[x7e];unfold kx PS;simp(disch:=omega) [mem0,bJ];split<;>omega
abbrev T(s:ByteArray):AV:=.sc (.string s)
abbrev U8(c:Int):AV:=.sc (.int .u8 c)
def qU(b:UInt8):List AV:=[U8 b.toNat]
theorem ZH(b:UInt8):(qU b).length=1:=rfl
def u5(x y:Operand)(a b:Int):cO prog .geq gQ x y (U8 a) (U8 b)=some (B (decide (b<=a))):=by kernel_rfl
def KA(x y:Operand)(a b:Int):cO prog .leq gQ x y (U8 a) (U8 b)=some (B (decide (a<=b))):=by kernel_rfl
def xb7(x y:Operand)(a b:Int):cO prog .gtr gQ x y (U8 a) (U8 b)=some (B (decide (b<a))):=by kernel_rfl
def xb6(x y:Operand)(a b:Int):cO prog .lss gQ x y (U8 a) (U8 b)=some (B (decide (a<b))):=by kernel_rfl
def xpi(x y:Operand)(a b:Int):cO prog .eql gQ x y (U8 a) (U8 b)=some (B (decide (a=b))):=by kernel_rfl
def xb5(x y:Operand)(a b:Int):cO prog .neq gQ x y (U8 a) (U8 b)=some (B (!decide (a=b))):=by kernel_rfl
def eS(a b:ByteArray):Bool:=a.toList == b.toList
def sF(x y:Operand)(a b:ByteArray):cO prog .eql cF x y (T a) (T b)=some (B (eS a b)):=by kernel_rfl
@[simp] theorem KO(s:ByteArray):fL (T s)=some (I s.size):=rfl
def ZF:prog.underlying xS=some (.slice gQ):=by kernel_rfl
def xpf:prog.underlying gQ=some (.int .u8):=by kernel_rfl
def ZD:prog.underlying cF=some .string:=by kernel_rfl
def xik(s:ByteArray):oJ prog cF xS (T s)=some (.aQ (s.data.toList.flatMap qU) s.data.toList.length false):=by
 have e:(s.data.toList.map λb=>U8 b.toNat)=s.data.toList.flatMap qU:=by
  induction s.data.toList with
  |nil=>rfl
  |cons b l a=>rw[fY,dN,a];rfl
 refine xrt ?_;simp only[MQ,dM,MX,ZF,xpf,ZD];rw[e,iE (z:=1) ZH s.data.toList,oB]
def xg8{s:ByteArray}{k:Nat}(h:k<s.data.toList.length):kK prog cF (T s) (I k)=some (U8 (s.data.toList[k]).toNat):=by have:bY prog (Instr.index cF (.string s) (.int .i64 k))=some (.int .u8 (s.data.toList[k]).toNat):=(by have a:s[k]?=some s.data.toList[k]:=(by have b:k<s.size:=(by simpa using h);rw[getElem?_pos s k b];rfl);simp only[Instr.index,asIntOf,underlying,program,Bind.bind,Sem.bind,bY,Pure.pure,ZD];rw[aH (by omega),gA,a];rfl);have e:kK prog cF (T s) (I k)=(bY prog (Instr.index cF (.string s) (.int .i64 k))).map fO:=(by simp only[kK,dM]);rw[e,this];rfl
def MU(p:Bool)(c:Int):Bool:=(decide (97<=c)&&decide (c<=122))||(decide (65<=c)&&decide (c<=90))||(p&&(decide (c=45)||(decide (48<=c)&&decide (c<=57))))
def nJ:Nat->List UInt8->Bool
 |_,[]=>true
 |k,c::r=>MU (decide (0<k)) c.toNat&&nJ (k+1) r
def nmOK(s:ByteArray):Bool:=decide (0<s.size)&&decide (s.size<=12)&&nJ 0 s.data.toList
def xga{m:Mem}{l:List UInt8}{k:Nat}(a:k<l.length):aA false 1 (.aF ((l.drop k).flatMap qU)) m=some (U8 l[k].toNat):=by rw[fT a,dN];rfl
def x19(d:aK)(Z:FHs)(u:Nat){a:AV}{l:List UInt8}(h:Sl qU a l)(E:l.length<=12):∀(b:List UInt8) (k j:Nat) (m:Mem) (Y:Nat),l.drop k=b->b.length<j ->
    H4 d Z u j a (I l.length) (I k) m Y=some (B (nJ k b),m):=by
 intro b;induction b with
 |nil=>intro k j m Y f g;obtain⟨j,rfl⟩:=dF g;have i:¬((k:Int)<(l.length:Int)):=(by have:=gX.mp f;omega);simp only[H4];unfold PX ui;simp[i,nJ]
 |cons e r D=>
  intro k j m Y f g;obtain⟨j,rfl⟩:=dF g;obtain⟨i,o,f⟩:=gK f;have hk':(k:Int)<(l.length:Int):=(by omega);have ix:=h.ix ZH i;have ld:=xga (m:=m) i;have next:∀Y,H4 d Z u j a (I l.length) (I (bM ((k:Int)+1))) m Y=some (B (nJ (k+1) r),m):=λY=>by rw[bJ];exact D (k+1) j m Y f (by simp at g;omega)
  rw[o]at ld;simp only[H4];unfold PX ug uh PY PZ;simp only[bQ,hk',bC,aR,aE,ix,ld,u5];simp only[nJ,MU];generalize (e.toNat:Int)=c;by_cases p:97<=c<;>by_cases t:c<=122<;>by_cases w:65<=c<;>by_cases x:c<=90<;>by_cases y:48<=c<;>by_cases A:c<=57<;>by_cases C:c=45 <;>
   first
   |(exfalso;omega)
   |(by_cases n:0<k<;>simp[p,t,w,x,y,A,C,n,u5,KA,xpi,next])
def xn2(d:Nat)(s:ByteArray)(m:Mem):aI (aG (d+1)) DJ [T s] m=some (B (nmOK s),m):=by
 refine gG rfl (m':=⟨[],1⟩) ?_ rfl;rw[x7h];have f:eS s ⟨#[]⟩=decide (s.size=0):=by
  unfold eS;rw[ByteArray.toList_eq,ByteArray.toList_eq];cases Z:s.data.toList with
  |nil=>have:s.size=0:=(by show s.data.size=0;rw[<-sC,Z];rfl);simp[this]
  |cons x r=>have:s.size=r.length+1:=(by show s.data.size=_;rw[<-sC,Z];rfl);simp[this]
 have g:s.data.toList.length=s.size:=rfl;unfold lc PW nmOK;simp only[sF,f,aE];by_cases b:s.size=0
 .simp[b,mem0]
 .by_cases a:s.size<=12
  .have h:=x19 (aG d) [] 0 (Sl.lit (enc:=qU) s.data.toList false) (by omega) s.data.toList 0 NN ⟨[],1⟩ (Y:=12) rfl (by rw[cU];omega);have e:aN prog xS (.aQ (s.data.toList.flatMap qU) s.data.toList.length false)=some (I s.data.toList.length):=(Sl.lit (enc:=qU) s.data.toList false).len ZF;unfold uf;simp only[xik];simp[b,a,show ¬((12:Int)<s.size) by omega,show 0<s.size by omega,mem0];exact h
  .simp[b,a,show(12:Int)<s.size by omega,mem0]
def x2t(b:aK)(Z:FHs)(u:Nat){s:ByteArray}(D:s.size<=12):∀(a:List UInt8) (k j:Nat) (m:Mem) (Y:Nat),s.data.toList.drop k=a->a.length<j ->
    J1 b Z u j (T s) (I k) m Y=some (B (nJ k a),m):=by
 have l:s.data.toList.length=s.size:=rfl;intro a;induction a with
 |nil=>intro k j m Y d f;obtain⟨j,rfl⟩:=dF f;have h:¬((k:Int)<(s.size:Int)):=(by have:=gX.mp d;omega);simp only[J1];unfold XT xab;simp[h,nJ]
 |cons e r C=>
  intro k j m Y d f;obtain⟨j,rfl⟩:=dF f;obtain⟨h,p,d⟩:=gK d;have hk':(k:Int)<(s.size:Int):=(by omega);have ix:=xg8 h;have next:∀Y,J1 b Z u j (T s) (I (bM ((k:Int)+1))) m Y=some (B (nJ (k+1) r),m):=λY=>by rw[bJ];exact C (k+1) j m Y d (by simp at f;omega)
  rw[p]at ix;simp only[J1];unfold XT;simp only[KO,aE,bQ,hk',bC,aR,ix,u5];simp only[nJ,MU];generalize (e.toNat:Int)=c;by_cases t:97<=c<;>by_cases w:c<=122<;>by_cases x:65<=c<;>by_cases y:c<=90<;>by_cases n:c<48<;>by_cases o:57<c<;>by_cases A:c=45 <;>
   first
   |(exfalso;omega)
   |(have g:(48<=c)=¬(c<48):=by rw[Int.not_lt]
     have d2':(c<=57)=¬(57<c):=by rw[Int.not_lt]
     by_cases i:k=0<;>simp[t,w,x,y,n,o,g,d2',A,i,Nat.pos_iff_ne_zero,u5,KA,xb5,xb6,xb7,next]<;>(subst i;have:=next (Y+44);simpa using this))
def YX(d:Nat)(s:ByteArray)(m:Mem):aI (aG (d+1)) C8 [T s] m=some (B (nmOK s),m):=by
 refine gG rfl (m':=⟨[],1⟩) ?_ rfl;rw[ya5];have b:s.data.toList.length=s.size:=rfl;unfold sx XS nmOK;by_cases f:s.size=0
 .simp[f,mem0]
 .by_cases a:s.size<=12
  .have e:=x2t (aG d) [] 0 (s:=s) a s.data.toList 0 NN ⟨[],1⟩ (Y:=10) rfl (by rw[cU];omega);unfold xaa;simp[a,show ¬((12:Int)<s.size) by omega,show ¬((s.size:Int)<1) by omega,show 0<s.size by omega,mem0];exact e
  .simp[a,show(12:Int)<s.size by omega,show ¬((s.size:Int)<1) by omega,mem0]
abbrev Ints(a:AV)(l:List Int):Prop:=Sl intE a l
def exI(t:List Int)(e:Edge):Int:=at0 t e.to.toNat-at0 t e.fr.toNat+e.jump
def TurnsIn(t:List Int):Prop:=∀x∈t,-1000000<=x/\x<=1000000
def TurnsIn.get{t:List Int}(h:TurnsIn t)(k:Nat):-1000000<=at0 t k/\at0 t k<=1000000:=by
 unfold at0;rw[eU];cases a:t[k]? with
 |none=>simp
 |some x=>simpa using h x (mM a)
structure EdgeIn (n:Nat) (e:Edge):Prop where
 f0:0<=e.fr
 f1:e.fr<n
 t0:0<=e.to
 t1:e.to<n
 j0:-1000<=e.jump
 j1:e.jump<=1000
 w0:0<=e.wt
 w1:e.wt<=1000
def X4(a:aK)(f:AV)(p:Int->Bool):Prop:=∀(Z:FHs) (x:Int) (m:Mem),∃n,fI a Z 2 f [I x] m=some (B (p x),⟨m.hp,n⟩)
def E7(p:Int->Bool):Int->List Int->Int
 |_,[]=>-1
 |k,x::r=>bif p x then k else E7 p (k+1) r
def xh8{p:Int->Bool}:∀{l:List Int} {k:Int},0<=k->(decide (0<=E7 p k l))=l.any p
 |[],k,_=>rfl
 |x::r,k,h=>by
  unfold E7;cases c:p x
  .simp only[cond_false,H3,c,J4];exact xh8 (by omega)
  .simp[c,h]
def x2v(d:Nat)(Z:FHs){a f:AV}{l:List Int}{p:Int->Bool}(h:Ints a l)(F:l.length<1000000)(t:X4 (aG d) f p)(u:Nat):∀(b:List Int) (k j:Nat) (m:Mem) (Y:Nat),l.drop k=b->b.length<j ->
    ∃n,vN (aG d) Z u j a f (I l.length) (I k) m Y=some (I (E7 p k b),⟨m.hp,n⟩):=by
 intro b;induction b with
 |nil=>intro k j m Y e g;obtain⟨j,rfl⟩:=dF g;have i:¬((k:Int)<(l.length:Int)):=(by have:=gX.mp e;omega);simp only[vN];unfold AR;simp[i,RS,E7];exact⟨m.next,rfl⟩
 |cons x r E=>
  intro k j m Y e g;obtain⟨j,rfl⟩:=dF g;obtain⟨i,o,e⟩:=gK e;have hk':(k:Int)<(l.length:Int):=(by omega);have ix:=h.ix gE i;have w:at0 l k=x:=(by rw[fD i,o]);obtain⟨y,A⟩:=t Z x m;obtain⟨C,D⟩:=E (k+1) j ⟨m.hp,y⟩ (Y+11) e (by simp at g;omega);simp only[vN];unfold AR;simp(disch:=omega) [hk',ix,nS,w,A,E7];cases c:p x
  .simp(disch:=omega);exact⟨C,D⟩
  .simp
def xoq(d:Nat)(Z:FHs){a f:AV}{l:List Int}{p:Int->Bool}(h:Ints a l)(b:l.length<1000000)(e:X4 (aG d) f p)(m:Mem):∃n,aG (d+1) Z B3 [a,f] m=some (I (E7 p 0 l),⟨m.hp,n⟩):=by obtain⟨n,g⟩:=x2v d Z h b e m.next l 0 NN ⟨m.hp,m.next+1⟩ 4 rfl (by rw[cU];omega);refine⟨n,?_⟩;rw[xi1];unfold OJ HW RR;simp[h.len jZ];exact g
def xo1(d:Nat)(Z:FHs){a f:AV}{l:List Int}{p:Int->Bool}(h:Ints a l)(b:l.length<1000000)(e:X4 (aG d) f p)(m:Mem):∃n,aG (d+2) Z B6 [a,f] m=some (B (l.any p),⟨m.hp,n⟩):=by obtain⟨n,g⟩:=xoq d Z h b e ⟨m.hp,m.next+1⟩;refine⟨n,?_⟩;rw[x8e];unfold nu SH;simp only[g,X5,vW,xh8 (OE 0)]
def xbp(d:Nat){a f:AV}{l:List Int}{p:Int->Bool}(h:Ints a l)(b:l.length<1000000)(e:X4 (aG d) f p)(Z:bG f=true)(m:Mem):aI (aG (d+2)) B6 [a,f] m=some (B (l.any p),m):=by obtain⟨n,g⟩:=xo1 d [] h b e mem0;exact gG (by simp[h.bG,Z]) g rfl
end Go.Ix
namespace Go.Proofs.YtjngclcijnpooaaGreatDoor
open Go.ChangeShapes Go.WideShapes Go.ChangeAt Go.RowKit Go.Ix
def Tryz.own:ownKnob prog.godebug=none:=by kernel_rfl
def Tryz.laidOut:laidOutB prog=true:=by kernel_rfl
def vU{q:List AV}(h:Sh prog eE q):∃n,q=[I n]:=by obtain⟨n,h,-⟩:=Sh.int_inv (t:=eE) (k:=.i64) (by kernel_rfl) h;exact⟨n,h⟩
def CJ{q:List AV}(h:Sh prog cF q):∃s,q=[T s]:=by
 have b:prog.underlying cF=some .string:=(by kernel_rfl);cases h with
 |string a s Z=>exact⟨s,rfl⟩
 |int a=>rw[b]at a;cases a
 |nilS a=>rw[b]at a;cases a
 |slice a=>rw[b]at a;cases a
 |bool a=>rw[b]at a;cases a
 |float a=>rw[b]at a;cases a
 |struct a=>rw[b]at a;cases a
 |array a=>rw[b]at a;cases a
def V4{t:TypeId}{l:List (TypeId×Nat)}(h:((prog.underlying t).bind λd=>match d with | .struct a=>some (a.toList.map λf=>(f.type,f.offset))|_=>none)=some l):∃a,prog.underlying t=some (.struct a)/\(a.toList.map λf=>(f.type,f.offset))=l:=by
 cases b:prog.underlying t with
 |none=>rw[b]at h;cases h
 |some d=>rw[b]at h;cases d<;>first|exact⟨_,rfl,by simpa using h⟩|cases h
end Go.Proofs.YtjngclcijnpooaaGreatDoor
namespace Go.Proofs.YtjngclcijnpooaaGreatDoor
open Go.ChangeShapes Go.WideShapes Go.ChangeAt Go.RowKit Go.Ix
def laid10:List (String×DataW Unit):=[("math/bits.deBruijn32tab",Rows.laid_math_bits_deBruijn32tab),("math/bits.deBruijn64tab",Rows.laid_math_bits_deBruijn64tab),("internal/strconv.uint64pow10",Rows.laid_internal_strconv_uint64pow10),("unicode/utf8.acceptRanges",Rows.laid_unicode_utf8_acceptRanges),("strconv.ErrRange",Rows.laid_strconv_ErrRange),("strconv.ErrSyntax",Rows.laid_strconv_ErrSyntax),("unicode/utf8.first",Rows.laid_unicode_utf8_first)]
def xdx(u:TypeId)(h:prog.typeName? 3 u=some "*errors.errorString"):u=311:=
 typeName_ptr_named (nm:="errors.errorString") (by rw[show "*"++"errors.errorString" = "*errors.errorString" by decide];kernel_rfl) (by kernel_rfl) (by decide) u (by rw[show "*"++"errors.errorString" = "*errors.errorString" by decide];exact h)
def YZ{P:Program}{W d:World}{n:String}{e:Array Value}(i:Ext (λb=>b<W.heap.size) W d)(h:W.var? P n=some e):d.var? P n=some e:=by
 unfold World.var? at h ⊢;cases f:P.globalNamed n with
 |none=>simp[f]at h
 |some g=>
  simp only[f,X5]at h ⊢;have a:g<W.heap.size:=by
   rcases jU g W.heap.size with h'|h'
   .exact h'
   .simp[J8 h']at h
  rw[i.same g a a];exact h
def known_laid{W:World}(h:laidMetH prog laid10 W):∀a,Ext (λb=>b<W.heap.size) W a->xM prog a:=by
 rw[MakeChecks.laidMetH_plain _ _ _ (by kernel_rfl)]at h;intro a d;have j:Lib.TabIs prog W "internal/strconv.uint64pow10" .u64 Lib.pow10Tab:=
  Lib.tabIs_of_head (g:=1) (t:=263) (e:=242) (n:=20) (by kernel_rfl) (by kernel_rfl) (by kernel_rfl) (by kernel_rfl) (by kernel_rfl) (by kernel_rfl) (rest:=[("unicode/utf8.acceptRanges",Rows.laid_unicode_utf8_acceptRanges),("strconv.ErrRange",Rows.laid_strconv_ErrRange),("strconv.ErrSyntax",Rows.laid_strconv_ErrSyntax),("unicode/utf8.first",Rows.laid_unicode_utf8_first)]) h.tail.tail
 obtain⟨l,m,f,-⟩:=laid_sentinel (g:=5) (ti:=127) (tp:=311) (te:=313) (ts:=9) h.tail.tail.tail.tail (by kernel_rfl) (by kernel_rfl) Tryz.underlying127 xdx Tryz.underlying311 Tryz.underlying313 rfl rfl Tryz.underlying9 (by kernel_rfl) (by kernel_rfl);obtain⟨o,p,i,-⟩:=laid_sentinel (g:=4) (ti:=127) (tp:=311) (te:=313) (ts:=9) h.tail.tail.tail.tail.tail (by kernel_rfl) (by kernel_rfl) Tryz.underlying127 xdx Tryz.underlying311 Tryz.underlying313 rfl rfl Tryz.underlying9 (by kernel_rfl) (by kernel_rfl);exact⟨λ_=>YZ d j,λ_=>⟨⟨_,YZ d i,_,_,rfl⟩,_,YZ d f,_,_,rfl⟩⟩
def x1q(a:Os):(World.holding prog a ⟨#[],#[],[]⟩).layFits prog laid10 []=true:=by kernel_rfl
def x1p(a:Os):(World.holding prog a ⟨#[],#[],[]⟩).layIfaces prog laid10 (World.laidAll prog a laid10)=true:=by kernel_rfl
def laid_met(b:Os)(a:Array Value):laidMetH prog laid10 ((World.laidAll prog b laid10).forCall (λ_ _=>0) ⟨#[],a,[]⟩).memory:=by rw[MakeChecks.laidMetH_plain _ _ _ (by kernel_rfl)];exact laidMet_laidAll _ (x1q b) (x1p b)
def mapsRowed10:mapsRowed prog=true:=by kernel_rfl
def looks10:true=prog.looks []:=by kernel_rfl
end Go.Proofs.YtjngclcijnpooaaGreatDoor
namespace Go.Ix
def isDig(c:UInt8):Bool:=decide (48<=c.toNat)&&decide (c.toNat<=57)
def valD(b:Nat)(l:List UInt8):Nat:=l.foldl (λa c=>10*a+(c.toNat-48)) b
def mS(l:List UInt8)(d:Nat):Option Int:=
 let r:=if l.head?=some 45 then l.tail else l
 if r=[]\/d<r.length\/(r.head?=some 48/\1<l.length)\/r.all isDig=false then none else some (if l.head?=some 45 then -(valD 0 r:Int)else valD 0 r)
def ZG{a b:UInt8}(h:a.toNat=b.toNat):a=b:=UInt8.toNat_inj.1 h
def BS{u:Nat}(h:u<10):(UInt8.ofNat (48+u)).toNat=48+u:=by rw[UInt8.toNat_ofNat'];omega
def xgz{u:Nat}(h:u<10):isDig (UInt8.ofNat (48+u))=true:=by unfold isDig;rw[BS h];simp;omega
def FX{c:UInt8}(h:isDig c=true):48<=c.toNat/\c.toNat<=57:=by unfold isDig at h;simpa using h
def xbu(a:Nat)(l k:List UInt8):valD a (l++k)=valD (valD a l) k:=by unfold valD;rw[HF]
theorem JY(a:Nat)(c:UInt8):valD a [c]=10*a+(c.toNat-48):=rfl
def ZA:∀(l:List UInt8) (a:Nat),a<=valD a l
 |[],a=>bT _
 |c::r,a=>by have:=ZA r (10*a+(c.toNat-48));show a<=valD (10*a+(c.toNat-48)) r;omega
def xbt:∀(l:List UInt8) (a:Nat),l.all isDig=true->valD a l<(a+1)*10 ^ l.length
 |[],a,_=>by simp[valD]
 |c::r,a,h=>by rw[dQ,cK]at h;have d:=FX h.1;have e:=xbt r (10*a+(c.toNat-48)) h.2;show valD (10*a+(c.toNat-48)) r<_;rw[eI,Nat.pow_succ];have b:(10*a+(c.toNat-48)+1)*10 ^ r.length<=(a+1)*10*10 ^ r.length:=oC _ (by omega);rw[Nat.mul_assoc,Nat.mul_comm 10 (10 ^ r.length)]at b;omega
structure Digs (l:List UInt8) (u:Nat):Prop where
 all:l.all isDig=true
 val:valD 0 l=u
 ne:l≠[]
 hd:l.head?=some 48->l=[48]
def GI:∀(k u:Nat),1<=k->u<10 ^ k->Digs (iL k u) u
 |0,u,h,_=>absurd h (by decide)
 |k+1,u,_,h=>by
  unfold iL;by_cases c:u<10
  .rw[aH c];refine⟨by rw[dQ,xgz c];rfl,?_,by simp,?_⟩
   .rw[JY,BS c];omega
   .intro e;simp only[List.head?_cons,bS]at e;rw[e]
  .rw[aD c];have f:1<=k:=by
    rcases k with _|k
    .simp at h;omega
    .omega
   have a:=GI k (u / 10) f (by rw[Nat.pow_succ]at h;omega);have b:u % 10<10:=tQ _ (by omega);refine⟨by rw[jp,a.all,dQ,xgz b];rfl,?_,by simp,?_⟩
   .rw[xbu,a.val,JY,BS b];omega
   .intro e;rw[List.head?_append]at e;obtain⟨x,r,d⟩:∃x r,iL k (u / 10)=x::r:=by
     cases l:iL k (u / 10)with
     |nil=>exact absurd l a.ne
     |cons x r=>exact⟨x,r,rfl⟩
    rw[d]at e;have g:x=48:=(by simpa using e);have i:=a.hd (by rw[d,g];rfl);have j:=a.val;rw[i]at j;have:valD 0 [48]=0:=rfl;omega
def x59:∀(l:List UInt8) (k:Nat),Digs l (valD 0 l)->l.length<=k->iL k (valD 0 l)=l:=by
 intro l;induction hn:l.length generalizing l with
 |zero=>intro k h _;exact absurd (sA.1 hn) h.ne
 |succ n u=>
  intro k h w;obtain⟨k,rfl⟩:∃j,k=j+1:=⟨k-1,by omega⟩;obtain⟨r,c,rfl⟩:∃r c,l=r++[c]:=⟨l.dropLast,l.getLast h.ne,(jn h.ne).symm⟩;have d:=h.all;rw[jp,cK]at d;have y:=FX (by simpa using d.2);have f:r.length=n:=(by simpa using hn);by_cases i:r=[]
  .subst i;rw[iX,JY];unfold iL;rw[aH (by omega)];congr 1;exact ZG (by rw[BS (by omega)];omega)
  .obtain⟨x,a,rfl⟩:∃x a,r=x::a:=by
    cases r with
    |nil=>exact absurd rfl i
    |cons x a=>exact⟨x,a,rfl⟩
   have b:x≠48:=λe=>by have:=h.hd (by rw[e];rfl);simp at this
   have m:=FX (c:=x) (by
    have:=d.1
    rw[dQ,cK]at this
    exact this.1)
   have o:49<=x.toNat:=by
    rcases jU x.toNat 49 with h1|h1
    .exact absurd (ZG (by show x.toNat=48;omega)) b
    .exact h1
   have p:1<=valD 0 (x::a):=by have:=ZA a (10*0+(x.toNat-48));show 1<=valD (10*0+(x.toNat-48)) a;omega
   have t:Digs (x::a) (valD 0 (x::a)):=⟨d.1,rfl,by simp,λe=>by
    simp only[List.head?_cons,bS]at e
    exact absurd e b⟩
   have g:=u (x::a) f k t (by omega);rw[xbu,JY];generalize valD 0 (x::a)=v at p g;unfold iL;rw[aD (by omega),show(10*v+(c.toNat-48)) / 10=v from by omega,show(10*v+(c.toNat-48)) % 10=c.toNat-48 from by omega,g];congr 2;exact ZG (by rw[BS (by omega)];omega)
def xzs{l:List UInt8}{d:Nat}{n:Int}(A:d<=18)(h:mS l d=some n):mX n=l/\-1000000000000000000<n/\n<1000000000000000000:=by
 unfold mS at h;dsimp only at h;generalize a:(if l.head?=some 45 then l.tail else l)=r at h;by_cases f:r=[]\/d<r.length\/(r.head?=some 48/\1<l.length)\/r.all isDig=false
 .rw[aH f]at h;cases h
 .rw[aD f]at h;simp only[not_or,Bool.not_eq_false]at f;obtain⟨g,D,y,o⟩:=f;have u:=xbt r 0 o;have C:10 ^ r.length<=10 ^ 18:=Nat.pow_le_pow_right (by omega) (by omega);have i:∀b:r.head?=some 48,r=[48]/\l.head?≠some 45:=by
   intro b;have j:¬1<l.length:=λp=>y ⟨b,p⟩
   by_cases c:l.head?=some 45
   .rw[aH c]at a;cases l with
    |nil=>cases c
    |cons x t=>simp only[List.tail_cons]at a;simp only[eI]at j;have:t=[]:=sA.1 (by omega);rw[<-a,this]at g;exact absurd rfl g
   .rw[aD c]at a;subst a;refine⟨?_,c⟩;cases l with
    |nil=>cases b
    |cons x t=>simp only[eI]at j;have:t=[]:=sA.1 (by omega);subst this;simp only[List.head?_cons,bS]at b;rw[b]
  have w:Digs r (valD 0 r):=⟨o,rfl,g,λb=>(i b).1⟩;have e:=x59 r 20 w (by omega);by_cases c:l.head?=some 45
  .rw[aH c]at h a;cases h;have m:0<valD 0 r:=by
    rcases Nat.eq_zero_or_pos (valD 0 r)with h0|h0
    .exfalso;rw[h0]at e;have:r=[48]:=(by rw[<-e];rfl);exact(i (by rw[this];rfl)).2 c
    .exact h0
   refine⟨?_,by omega,by omega⟩;unfold mX;rw[aH (by omega),show(-(valD 0 r:Int)).natAbs=valD 0 r from by omega,e];cases l with
   |nil=>cases c
   |cons x t=>simp only[List.head?_cons,bS]at c;rw[c,<-a];rfl
  .rw[aD c]at h a;cases h;refine⟨?_,by omega,by omega⟩;unfold mX;rw[aD (by omega),show((valD 0 r:Int)).toNat=valD 0 r from by omega,e,a]
def xzf{c:UInt8}(h:isDig c=true):c≠45:=by rintro rfl;exact absurd h (by decide)
def oE(l:List UInt8):List UInt8:=if l.head?=some 45 then l.tail else l
def xe8{n:Int}(l:-9223372036854775808<=n)(m:n<=9223372036854775807)(d:Nat):mS (mX n) d=if(oE (mX n)).length<=d then some n else none:=by
 unfold mX;by_cases c:n<0
 .rw[aH c];have a:=GI 20 n.natAbs (by omega) (by omega);have g:oE (45::iL 20 n.natAbs)=iL 20 n.natAbs:=(by unfold oE;rw[aH (show(45::iL 20 n.natAbs).head?=some 45 from rfl)];rfl);rw[g];unfold mS;dsimp only
  rw[aH (show(45::iL 20 n.natAbs).head?=some 45 from rfl),List.tail_cons];have i:¬((iL 20 n.natAbs).head?=some 48/\1<(45::iL 20 n.natAbs).length):=(by rintro⟨e,-⟩;have b:=a.val;rw[a.hd e]at b;have:valD 0 [48]=0:=rfl;omega);by_cases f:(iL 20 n.natAbs).length<=d
  .rw[aH f,aD (by
    rintro(h|h|h|h)
    .exact a.ne h
    .omega
    .exact i h
    .rw[a.all]at h;cases h),aH (show(45::iL 20 n.natAbs).head?=some 45 from rfl),a.val]
   congr 1;omega
  .rw[aD f,aH (.inr (.inl (by omega)))]
 .rw[aD c];have a:=GI 20 n.toNat (by omega) (by omega);have j:¬(iL 20 n.toNat).head?=some 45:=by
   cases e:iL 20 n.toNat with
   |nil=>simp
   |cons x r=>have b:=a.all;rw[e,dQ,cK]at b;simp only[List.head?_cons,bS];exact xzf b.1
  have g:oE (iL 20 n.toNat)=iL 20 n.toNat:=(by unfold oE;rw[aD j]);rw[g];unfold mS;dsimp only
  rw[aD j];have i:¬((iL 20 n.toNat).head?=some 48/\1<(iL 20 n.toNat).length):=(by rintro⟨e,b⟩;rw[a.hd e]at b;simp at b);by_cases f:(iL 20 n.toNat).length<=d
  .rw[aH f,aD (by
    rintro(h|h|h|h)
    .exact a.ne h
    .omega
    .exact i h
    .rw[a.all]at h;cases h),aD j,a.val]
   congr 1;omega
  .rw[aD f,aH (.inr (.inl (by omega)))]
def bf:∀(l:List UInt8) (a:Nat),l.all isDig=true->valD a l<18446744073709551616->Lib.parseUint10 a l=.ok (valD a l)
 |[],a,_,_=>rfl
 |c::r,a,h,d=>by rw[dQ,cK]at h;have b:=FX h.1;have hv':valD (10*a+(c.toNat-48)) r<18446744073709551616:=d;have f:=ZA r (10*a+(c.toNat-48));have e:=bf r (a*10+(c.toNat-48)) h.2 (by rw[Nat.mul_comm a 10];exact hv');unfold Lib.parseUint10;rw[aH b,aD (by omega),aD (by omega),e,Nat.mul_comm a 10];rfl
def yb9{n:Int}(g:-9223372036854775808<=n)(h:n<=9223372036854775807):Lib.atoiAll (mX n)=.ok n:=by
 unfold mX;by_cases c:n<0
 .rw[aH c];have a:=GI 20 n.natAbs (by omega) (by omega);have d:Lib.parseMag (iL 20 n.natAbs)=.ok n.natAbs:=(by unfold Lib.parseMag;rw[aD a.ne,bf _ 0 a.all (by rw[a.val];omega),a.val]);unfold Lib.atoiAll;dsimp only
  rw[aH (Or.inr (show(45:UInt8).toNat=45 from rfl)),d];dsimp only
  rw[aD (by
   rintro⟨b,-⟩
   exact b rfl),aD (by
   rintro⟨-,b⟩
   omega),aH (show(45:UInt8).toNat=45 from rfl)]
  congr 1;omega
 .rw[aD c];have a:=GI 20 n.toNat (by omega) (by omega);have d:Lib.parseMag (iL 20 n.toNat)=.ok n.toNat:=(by unfold Lib.parseMag;rw[aD a.ne,bf _ 0 a.all (by rw[a.val];omega),a.val]);cases b:iL 20 n.toNat with
  |nil=>exact absurd b a.ne
  |cons x r=>
   have e:=a.all;rw[b,dQ,cK]at e;have i:=FX e.1;rw[b]at d;unfold Lib.atoiAll;dsimp only
   rw[aD (by omega),d];dsimp only
   rw[aD (by
    rintro⟨-,f⟩
    omega),aD (by
    rintro⟨f,-⟩
    omega),aD (by omega)]
   congr 1;omega
def L1(w:List UInt8)(d:Nat):Option Int:=
 match Lib.atoiAll w with
 | .ok n=>if mX n=w/\(oE w).length<=d then some n else none
 |_=>none
def xjz{w:List UInt8}{n:Int}(h:Lib.atoiAll w=.ok n):-9223372036854775808<=n/\n<=9223372036854775807:=by
 unfold Lib.atoiAll at h;split at h
 .cases h
 .dsimp only at h;split at h
  .cases h
  .cases h
  .rename_i u _;split at h
   .cases h
   .split at h
    .cases h
    .injection h with h;rename_i a b;split at h<;>omega
def xpn(w:List UInt8){d:Nat}(j:d<=18):L1 w d=mS w d:=by
 unfold L1;cases h:mS w d with
 |some n=>
  obtain⟨e,f,i⟩:=xzs j h;have b:=yb9 (n:=n) (by omega) (by omega);rw[e]at b;rw[b];have a:=xe8 (n:=n) (by omega) (by omega) d;rw[e,h]at a;dsimp only
  by_cases c:(oE w).length<=d
  .rw[aH ⟨e,c⟩]
  .rw[aD c]at a;cases a
 |none=>
  split
  .rename_i n f;obtain⟨i,b⟩:=xjz f;rw[aD];rintro⟨a,m⟩;have g:=xe8 i b d;rw[a,h,aH m]at g;cases g
  .rfl
def cT(c:UInt8):List UInt8->List (List UInt8)
 |[]=>[[]]
 |x::r=>if x=c then[]::cT c r else match cT c r with
  |[]=>[[x]]
  |h::t=>(x::h)::t
def MR(c:UInt8):∀l,cT c l≠[]
 |[]=>by simp[cT]
 |x::r=>by
  unfold cT;split
  .simp
  .split<;>simp
def fp{c:UInt8}:∀{l:List UInt8},c∉l->cT c l=[l]
 |[],_=>rfl
 |x::r,h=>by unfold cT;rw[aD (λe=>h (by rw[e];exact eO)),fp λe=>h (eA _ e)]
def ft{c:UInt8}:∀{l:List UInt8} (k:List UInt8),c∉l->cT c (l++c::k)=l::cT c k
 |[],k,_=>by show cT c (c::k)=_;rw[cT,aH rfl]
 |x::r,k,h=>by rw[jM];rw[cT];rw[aD (λe=>h (by rw[e];exact eO)),ft k λe=>h (eA _ e)]
open Go.Proofs
def nQ{σ R:Type}{N:Nat}(X:Nat->Nat->σ->Mem->Nat->R)(a:Nat->σ->Mem->Prop)(Q:R->Prop)(b:∀n k s m Y,k<N->a k s m->(∀f g d,a (k+1) f g->Q (X n (k+1) f g d))->Q (X (n+1) k s m Y))(e:∀n s m Y,a N s m->Q (X (n+1) N s m Y)):∀n k s m Y,k<=N->N<n+k->a k s m->Q (X n k s m Y):=by
 intro n;induction n with
 |zero=>intro k s m Y l o;omega
 |succ n p=>
  intro k s m Y l o j;rcases jU k N with h|h
  .exact b n k s m Y h j λf g d i=>p (k+1) f g d h (by omega) i
  .have:k=N:=(by omega);subst this;exact e n s m Y j
def RetF(T:AV->Prop)(r:O2):Prop:=∃a b d,r=some (a,b)/\frz b.get bL a=some d/\T d
def RetF.st{T:AV->Prop}{a:AV}{m:Mem}(h:bG a=true)(b:T a):RetF T (some (a,m)):=⟨a,m,a,rfl,kD _ 4 h,b⟩
def RetF.tup{T:AV->Prop}{l:List AV}{m:Mem}(h:l.all bG=true)(a:T (.tup l)):RetF T (some (.tup l,m)):=⟨_,m,_,rfl,x4d h,a⟩
def RetF.mk{T:AV->Prop}{a a':AV}{m:Mem}(h:frz m.get bL a=some a')(b:T a'):RetF T (some (a,m)):=⟨a,m,a',rfl,h,b⟩
def qF{T:AV->Prop}{b:aK}{f:FuncId}{l:List AV}(d:l.all bG=true)(h:RetF T (b [] f l mem0))(m:Mem):∃a,T a/\aI b f l m=some (a,m):=by obtain⟨a,n,e,g,i,j⟩:=h;exact⟨e,j,W6 d g i⟩
def dT{v:AV}{b:aK}{f:FuncId}{l:List AV}(d:l.all bG=true)(h:RetF (λa=>a=v) (b [] f l mem0))(m:Mem):aI b f l m=some (v,m):=by obtain⟨a,e,g⟩:=qF d h m;rw[g,e]
def xht{d:Id->Option Ob}{a b e f:AV}(g:frz d 5 a=some e)(h:frz d 5 b=some f):frz d bL (.tup [a,b])=some (.tup [e,f]):=by show([a,b].mapM (frz d 5)).map AV.tup=_;simp only[eG,fZ,g,h];rfl
def xhs{d:Id->Option Ob}{a b c e f g:AV}(h:frz d 5 a=some e)(i:frz d 5 b=some f)(j:frz d 5 c=some g):frz d bL (.tup [a,b,c])=some (.tup [e,f,g]):=by show([a,b,c].mapM (frz d 5)).map AV.tup=_;simp only[eG,fZ,h,i,j];rfl
theorem el{a:Id->Option Ob}{k:Nat}{x:Int}:frz a (k+1) (I x)=some (I x):=rfl
def Gr.frzk{α:Type}{z:Nat}{b:α->List AV}{l:List α}{a:AV}(g:∀x,(b x).length=z)(Z:∀x,(b x).all aP=true){u t k:Nat}{m:Mem}(h:Gr z b u t m a l):∃e,Sl b e l/\Go.Ix.frz m.get (k+2) a=some e:=by
 rcases h with ⟨rfl,rfl⟩|⟨s,d,rfl,i⟩
 .exact⟨nilS,Or.inl ⟨rfl,rfl⟩,rfl⟩
 .have j:=iE g l;refine⟨.aQ (l.flatMap b) l.length false,Sl.lit l false,?_⟩
  have:=vB (aC:=m.get) (id:=(u,s,t)) (cs:=l.flatMap b) (ver:=d) (off:=0) (n:=l.length) (z:=z) (k:=k) (f:=false) (x:=true) i (by omega) (by
   rw[bA,dU (by omega)];exact rW Z l)
  rw[bA,dU (by omega)]at this;exact this
def Gr.len{α:Type}{z:Nat}{b:α->List AV}{l:List α}{a:AV}{u t:Nat}{m:Mem}{y e:TypeId}(d:prog.underlying y=some (.slice e))(h:Gr z b u t m a l):aN prog y a=some (I l.length):=by
 rcases h with ⟨rfl,rfl⟩|⟨s,f,rfl,g⟩
 .exact FT d
 .rfl
def xgb{α:Type}{enc:α->List AV}{m:Mem}{l:List α}{k:Nat}(d:k<l.length)(j:Nat){v:AV}(a:((enc l[k]).drop j).head?=some v):aA false 1 (.aF (((l.drop k).flatMap enc).drop j)) m=some v:=by
 rw[fT d,dN];have e:j<(enc l[k]).length:=by
  rcases jU j (enc l[k]).length with h|h
  .exact h
  .rw[lU h]at a;cases a
 rw[yc9 (by omega)];cases b:(enc l[k]).drop j with
 |nil=>rw[b]at a;cases a
 |cons x r=>rw[b]at a;simp at a;subst a;rfl
abbrev Tx(l:List UInt8):AV:=T ⟨l.toArray⟩
def xpy(x y:Operand)(a b:ByteArray):cO prog .neq cF x y (T a) (T b)=some (B (!(eS a b))):=by kernel_rfl
def xc2{x:Int}{n:Nat}{a:BoundsCode}(b:0<=x)(d:x<=n):Instr.sliceBound (.int .i64 x) n a=Pure.pure x.toNat:=by show(if 0<=x/\x<=n then _ else _)=_;rw[aH ⟨b,d⟩]
def xc1{s:ByteArray}{lo hi:Option Value}{l h:Nat}(b:(match hi with|some v=>Instr.sliceBound v s.size .sliceAlen|none=>Pure.pure s.size)=(Pure.pure h:Sem Nat))(a:(match lo with|some v=>Instr.sliceBound v h .sliceB|none=>Pure.pure 0)=(Pure.pure l:Sem Nat)) :
    bY prog (Instr.sliceAt cF (.string s) lo hi none)=some (.string (s.extract l h)):=by
 have e:Instr.sliceBounds false s.size s.size lo hi none=(Pure.pure (l,h,s.size):Sem (Nat×Nat×Nat)):=by
  unfold Instr.sliceBounds;cases hi with
  |none=>
   cases lo with
   |none=>simp only[Bind.bind,Sem.bind,Pure.pure,Sem.pure.injEq]at b a ⊢;subst b a;rfl
   |some v=>simp only[Bind.bind,Sem.bind,Pure.pure,Sem.pure.injEq]at b a ⊢;subst b;simp only[xE,fE,cJ,a];rfl
  |some u=>
   cases lo with
   |none=>simp only[Bind.bind,Sem.bind,Pure.pure]at b a ⊢;simp only[fE,cJ,b];injection a with a;subst a;rfl
   |some v=>simp only[Bind.bind,Sem.bind,Pure.pure]at b a ⊢;simp only[fE,cJ,b,xE];show(Instr.sliceBound v h BoundsCode.sliceB).bind (λl=>Sem.pure (l,h,s.size))=_;rw[a];rfl
 simp only[Instr.sliceAt,Instr.slice,underlying,program,Bind.bind,Sem.bind,bY,Pure.pure,ZD,e,xE,fE,cJ]
def xqo{s:ByteArray}{a:Nat}(b:a<=s.size):eP prog cF (T s) (some (I a)) none=some (T (s.extract a s.size)):=by have e:=xc1 (s:=s) (lo:=some (.int .i64 a)) (hi:=none) (l:=a) (h:=s.size) rfl (xc2 (by omega) (by omega));show(bY prog (Instr.sliceAt cF (.string s) (some (.int .i64 a)) none none)).map fO=_;rw[e];rfl
def xqn{s:ByteArray}{a:Nat}(b:a<=s.size):eP prog cF (T s) none (some (I a))=some (T (s.extract 0 a)):=by have e:=xc1 (s:=s) (lo:=none) (hi:=some (.int .i64 a)) (l:=0) (h:=a) (xc2 (by omega) (by omega)) rfl;show(bY prog (Instr.sliceAt cF (.string s) none (some (.int .i64 a)) none)).map fO=_;rw[e];rfl
theorem x1m(s:ByteArray):fL (T s)=some (I s.size):=rfl
def BY(l:List UInt8):(⟨l.toArray⟩:ByteArray).size=l.length:=by show l.toArray.size=_;simp
def xkc(s:ByteArray):T s=Tx s.data.toList:=by cases s;rfl
def xkd(l:List UInt8)(a b:Nat):(⟨l.toArray⟩:ByteArray).extract a b=⟨((l.drop a).take (b-a)).toArray⟩:=by apply ByteArray.ext;rw[ByteArray.data_extract];apply xae.1;simp[List.take_drop]
def nD(l:List UInt8):fL (Tx l)=some (I l.length):=by rw[x1m,BY]
def YP{l:List UInt8}{lo:Nat}(a:lo<=l.length):eP prog cF (Tx l) (some (I lo)) none=some (Tx (l.drop lo)):=by rw[xqo (by rw[BY];exact a),xkd,BY,dU (by simp)]
def JN{l:List UInt8}{hi:Nat}(a:hi<=l.length):eP prog cF (Tx l) none (some (I hi))=some (Tx (l.take hi)):=by rw[xqn (by rw[BY];exact a),xkd,bA,Nat.sub_zero]
def YQ{l:List UInt8}{k:Nat}(h:k<l.length):kK prog cF (Tx l) (I k)=some (U8 (l[k]).toNat):=by rw[xg8 (s:=⟨l.toArray⟩) (by simpa using h)]
def xcj(l k:List UInt8):eS ⟨l.toArray⟩ ⟨k.toArray⟩=decide (l=k):=by unfold eS;rw[ByteArray.toList_eq,ByteArray.toList_eq,xO];simp
def pI(x y:Operand)(l k:List UInt8):cO prog .eql cF x y (Tx l) (Tx k)=some (B (decide (l=k))):=by rw[sF,xcj]
def xa8(x y:Operand)(l k:List UInt8):cO prog .neq cF x y (Tx l) (Tx k)=some (B (!(decide (l=k)))):=by rw[xpy,xcj]
end Go.Ix
namespace Go.Ix
variable{R:Type}{m:Mem}
def U9:∀l:List Int,l.flatMap intE=l.map I
 |[]=>rfl
 |x::l=>by rw[dN,U9 l];rfl
def D5(l:List Int):(l.flatMap intE).length=l.length:=by rw[U9];simp
abbrev srI(id:Id)(n:Nat):AV:=.sref id 0 0 n 1 true
@[simp high] theorem yd0{l:List Int}{k:Nat}{b:Bool}(a:k<l.length):sS false 1 0 k (some (.row (l.flatMap intE) 0 b))=some (I (at0 l k)):=by simp only[sS,zQ,cond_true,rd,fE,cJ];rw[U9,<-List.map_drop,fT a,fD a];rfl
@[simp high] theorem ydo{l:List Int}{k:Nat}{v:Int}(a:k<l.length):pM 1 0 k (I v) (some (.row (l.flatMap intE) 0 false))=some (.row ((l.set k v).flatMap intE) 0 false):=by have h:(0:Nat)=0/\(I v).cells.length=1/\k+1<=(l.flatMap intE).length/\((I v).cells.all AV.one)=true:=⟨rfl,rfl,by rw[D5];omega,rfl⟩;rw[CA,fC h,cond_true];simp only[U9,cR,gf];congr 2;rw[List.map_set,jf,aH (by simpa using a)];simp
def GO{l:List Int}{k j:Nat}{v:Int}(a:k<l.length):at0 (l.set k v) j=if j=k then v else at0 l j:=by
 unfold at0;rw[eU,eU,HE];by_cases h:k=j
 .subst h;simp[a]
 .rw[aD h,aD (λe=>h e.symm)]
end Go.Ix
namespace Go.Ix
open Go.Proofs
variable{α:Type}{z:Nat}{enc:α->List AV}{l:List α}{a:AV}
def Gq{α:Type}(z:Nat)(d:α->List AV)(u:Nat)(T:List Nat)(m:Mem)(a:AV)(l:List α):Prop:=
 (a=nilS/\l=[])\/∃s t b,t∈T/\a=.sref (u,s,t) b 0 l.length z true/\m.get (u,s,t)=some (.row (l.flatMap d) b false)
def Gq.nil{u:Nat}{T:List Nat}{m:Mem}:Gq z enc u T m nilS []:=Or.inl ⟨rfl,rfl⟩
def Gq.frame{u:Nat}{T:List Nat}{m m':Mem}(h:Gq z enc u T m a l)(b:∀s t,t∈T->m'.get (u,s,t)=m.get (u,s,t)):Gq z enc u T m' a l:=by
 rcases h with h|⟨s,t,ver,h0,h1,h2⟩
 .exact Or.inl h
 .exact Or.inr ⟨s,t,ver,h0,h1,by rw[b _ _ h0];exact h2⟩
def Gq.app(p:∀x,(enc x).length=z)(y:0<z){u d s0 bytes:Nat}{T:List Nat}{m:Mem}(g:d∈T)(i:cQ (l.length+1) bytes)(h:Gq z enc u T m a l)(x:α) :
    ∃n e,(∀{R:Type} (k:AV->Mem->Option R),cX z bytes (u,s0,d) (some (enc x,1)) a m k=k n e)/\Gq z enc u T e n (l++[x])/\e.next=m.next/\∀j:Id,j.2.2∉T->e.get j=m.get j:=by
 rcases h with ⟨rfl,rfl⟩|⟨s,t,b,o,rfl,w⟩
 .refine⟨.sref (u,s0,d) 0 0 1 z true,m.new (u,s0,d) (.row (enc x) 0 false),λk=>?_,Or.inr ⟨s0,d,0,g,rfl,by simp⟩,rfl,λj f=>?_⟩
  .simp only[cX];rw[aD (by omega),aH (by simpa using i)]
  .rw[Mem.dP,aD (by rintro rfl;exact f g)]
 .have r:=iE p l;refine⟨.sref (u,s,t) (b+1) 0 (l.length+1) z true,m.set (u,s,t) (.row (l.flatMap enc++enc x) (b+1) false),λk=>?_,Or.inr ⟨s,t,b+1,o,by simp,by simp⟩,rfl,λj f=>?_⟩
  .simp only[cX,w];rw[aH ⟨trivial,trivial,by omega,i⟩,aD (by omega),aD (by rw[r,lR];omega),bA,dU (by omega)]
  .rw[Mem.cP,aD (by rintro rfl;exact f o)]
def Gq.frz(e:∀x,(enc x).length=z)(Z:∀x,(enc x).all aP=true){u:Nat}{T:List Nat}{m:Mem}(h:Gq z enc u T m a l):∃d,Sl enc d l/\Go.Ix.frz m.get bL a=some d:=by
 rcases h with ⟨rfl,rfl⟩|⟨s,t,b,_,rfl,g⟩
 .exact⟨nilS,Or.inl ⟨rfl,rfl⟩,rfl⟩
 .have i:=iE e l;refine⟨.aQ (l.flatMap enc) l.length false,Sl.lit l false,?_⟩
  have:=vB (aC:=m.get) (id:=(u,s,t)) (cs:=l.flatMap enc) (ver:=b) (off:=0) (n:=l.length) (z:=z) (k:=4) (f:=false) (x:=true) g (by omega) (by
   rw[bA,dU (by omega)];exact rW Z l)
  rw[bA,dU (by omega)]at this;exact this
def Gq.len{u:Nat}{T:List Nat}{m:Mem}{t e:TypeId}(b:prog.underlying t=some (.slice e))(h:Gq z enc u T m a l):aN prog t a=some (I l.length):=by
 rcases h with ⟨rfl,rfl⟩|⟨s,t,d,_,rfl,f⟩
 .exact FT b
 .rfl
end Go.Ix
namespace Go.Ix
open Go.Proofs
def dA(l:List UInt8):List AV:=[Tx l]
theorem nG(l:List UInt8):(dA l).length=1:=rfl
theorem xp8(l:List UInt8):(dA l).all aP=true:=rfl
def xb1:prog.underlying gR=some (.slice cF):=by kernel_rfl
def xxr(s:ByteArray)(c:Int):bY prog (callFunc yS #[.string s,.int .u8 c])=some (.value (.int .i64 (firstIdx s c.toNat.toUInt8))):=by
 have a:bY prog (callFunc yS #[.string s,.int .u8 c])=bY prog (do let v <-Extern.BytealgIndexByte.indexByte #[.string s,.int .u8 c];pure (Next.value v)):=(by kernel_rfl);rw[a]
 show bY prog (((match (List.range s.size).find? λi=>s[i]! == c.toNat.toUInt8 with
  |some i=>(pure (goInt i):Sem Value)
  |none=>pure (goInt (-1)))) >>= λv=>(pure (Next.value v):Sem Next))=_
 unfold firstIdx;cases(List.range s.size).find? λi=>s[i]! == c.toNat.toUInt8<;>rfl
def xor(d:Nat)(l:List UInt8)(c:UInt8)(m:Mem):aI (aG (d+1)) yS [Tx l,U8 c.toNat] m=some (I (Lib.indexByte l c),m):=by
 refine Ans.gG (m:=m) ?_ rfl rfl;unfold Ans;have a:aG (d+1) [] yS [Tx l,U8 c.toNat] mem0=(w9 prog yS [Tx l,U8 c.toNat]).map λv=>(v,mem0):=by kernel_rfl
 have b:V7 prog yS [Tx l,U8 c.toNat]=some (I (firstIdx ⟨l.toArray⟩ c)):=by
  unfold V7
  show(match bY prog (callFunc yS #[.string ⟨l.toArray⟩,.int .u8 c.toNat])with
   |some (.value u)=>some (fO u)
   |_=>none)=_
  rw[xxr];have:((c.toNat:Int)).toNat.toUInt8=c:=(by rw[gA];exact UInt8.ofNat_toNat);rw[this];rfl
 rw[a];unfold w9;rw[b,Lib.firstIdx_eq];exact⟨mem0,rfl⟩
def xbo(d:Nat)(l:List UInt8)(c:UInt8)(m:Mem):aI (aG (d+2)) T2 [Tx l,U8 c.toNat] m=some (I (Lib.indexByte l c),m):=by refine Ans.gG (m:=m) ?_ rfl rfl;unfold Ans;rw[yao];unfold ry WU;simp only[xor,aE];exact⟨_,rfl⟩
def FY(c:UInt8):∀l:List UInt8,(Lib.indexByte l c=-1/\c∉l)\/∃i:Nat,Lib.indexByte l c=i/\i<l.length/\c∉l.take i/\l.drop i=c::l.drop (i+1)
 |[]=>.inl ⟨rfl,by simp⟩
 |b::l=>by
  unfold Lib.indexByte;by_cases h:b=c
  .subst h;exact .inr ⟨0,by simp,by simp,by simp,rfl⟩
  .have f:(b == c)=false:=(by simpa using h);rw[f];rcases FY c l with ⟨d,e⟩|⟨i,d,e,g,j⟩
   .refine .inl ⟨by rw[d];simp,?_⟩;rw[eD];rintro(a|a)
    .exact h a.symm
    .exact e a
   .refine .inr ⟨i+1,?_,by simp;omega,?_,by simpa using j⟩
    .rw[d];have:((i:Int) == -1)=false:=(by rw[beq_eq_false_iff_ne];omega);simp[this]
    .rw[jW,eD];rintro(a|a)
     .exact h a.symm
     .exact g a
def xbn(d:Nat)(l:List UInt8)(c:UInt8)(m:Mem):aI (aG (d+4)) A9 [Tx l,Tx [c]] m=some (I (Lib.indexByte l c),m):=by
 have f:∀m,aI (aG (d+3)) C5 [Tx l,Tx [c]] m=some (I (Lib.indexByte l c),m):=by
  intro m;refine Ans.gG (m:=m) ?_ rfl rfl;unfold Ans;rw[xjb];unfold OT IN;have a:kK prog cF (Tx [c]) (I 0)=some (U8 c.toNat):=YQ (k:=0) (l:=[c]) (by simp);have b:fL (Tx [c])=some (I 1):=nD [c];simp only[mem0,b,aE,fV,gI,dO,show decide ((1:Int)=0)=false from rfl,dR,bW,bB,pI,cN,cS];by_cases e:[c]=l
  .subst e;have:Lib.indexByte [c] c=0:=(by simp[Lib.indexByte]);rw[this];simp only[bC,aR];exact⟨_,rfl⟩
  .simp only[e,bK,aS,a,aE,xbo];exact⟨_,rfl⟩
 refine Ans.gG (m:=m) ?_ rfl rfl;unfold Ans;rw[x66];unfold kj PH;simp only[f,aE];exact⟨_,rfl⟩
def xpx(l:List UInt8):decide (l.take 1=[45])=decide (l.head?=some 45):=by
 cases l with
 |nil=>rfl
 |cons x t=>simp
def xot(d:Nat)(l:List UInt8)(m:Mem):aI (aG (d+1)) C6 [Tx l,Tx [45]] m=some (B (decide (l.head?=some 45)),m):=by
 refine Ans.gG (m:=m) ?_ rfl rfl;unfold Ans;rw[xjc];unfold OU IP;have a:fL (Tx [45])=some (I 1):=nD [45];simp only[mem0,a,nD,aE,vW,gI,dO,gD];by_cases c:(1:Int)<=l.length
 .have Z:eP prog cF (Tx l) none (some (I 1))=some (Tx (l.take 1)):=JN (hi:=1) (by omega);simp only[c,bC,bB,aE,a,Z,pI,cN,xpx];exact⟨_,rfl⟩
 .have:l=[]:=sA.1 (by omega);subst this;simp only[c,bK,cS,aE,cN];exact⟨_,rfl⟩
def xog(d:Nat)(l:List UInt8)(m:Mem):aI (aG (d+3)) DF [Tx l,Tx [45]] m=some (Tx (oE l),m):=by
 have e:∀m,aI (aG (d+2)) FA [Tx l,Tx [45]] m=some (Tx (oE l),m):=by
  intro m;refine Ans.gG (m:=m) ?_ rfl rfl;unfold Ans;rw[yan];unfold rx WT;have a:fL (Tx [45])=some (I 1):=nD [45];simp only[xot,aE,a];unfold oE;by_cases c:l.head?=some 45
  .have b:1<=l.length:=by
    cases l with
    |nil=>simp at c
    |cons x t=>simp
   have Z:eP prog cF (Tx l) (some (I 1)) none=some (Tx (l.drop 1)):=YP (lo:=1) b;rw[List.drop_one]at Z;simp only[c,bC,aR,Z,aE,bV];exact⟨_,rfl⟩
  .simp only[c,bK,aS,cJ];exact⟨_,rfl⟩
 refine Ans.gG (m:=m) ?_ rfl rfl;unfold Ans;rw[x64];unfold kh PF;simp only[e,aE];exact⟨_,rfl⟩
end Go.Ix
set_option exponentiation.threshold 3000
namespace Go.Ix
open Ieee
def sv(m:Nat)(e:Int):Nat:=m*2 ^ (e+1074).toNat
def sg(s:Bool)(n:Nat):Int:=if s then -(n:Int)else(n:Int)
end Go.Ix
namespace Go.Ix
open Ieee
variable{P:Program}
def OkR(P:Program){α:Type}(s:Sem α)(R:α->Prop):Prop:=pN P s/\∀v,lC P s v->R v
def OkR.pure{α:Type}{a:α}{R:α->Prop}(h:R a):OkR P (.pure a) R:=⟨trivial,λ_ e=>e▸h⟩
def OkR.bind{α β:Type}{Q:α->Prop}{R:β->Prop}{f:α->Sem β}(b:∀v,Q v->OkR P (f v) R):∀{s:Sem α},OkR P s Q->OkR P (s.bind f) R
 | .pure a,h=>b a (h.2 a rfl)
 | .program k,h=>OkR.bind (s:=k P) b h
 | .mark _ k,h=>OkR.bind (s:=k) b h
 | .choose q k,h=>by
  unfold OkR at h;unfold Sem.bind OkR;simp only[pN,lC]at h ⊢;by_cases c:q.forced=true
  .simp only[aH c]at h ⊢;exact OkR.bind (s:=k 0) b h
  .simp only[aD c]at h ⊢;exact⟨λt=>(OkR.bind (s:=k (q.cut t)) b ⟨h.1 t,λv d=>h.2 v ⟨t,d⟩⟩).1,λv ⟨t,d⟩=>(OkR.bind (s:=k (q.cut t)) b ⟨h.1 t,λv d=>h.2 v ⟨t,d⟩⟩).2 v d⟩
 | .load ..,h=>h.1.elim
 | .store ..,h=>h.1.elim
 | .new ..,h=>h.1.elim
 | .shape ..,h=>h.1.elim
 | .freeze ..,h=>h.1.elim
 | .frozen ..,h=>h.1.elim
 | .getObj ..,h=>h.1.elim
 | .setObj ..,h=>h.1.elim
 | .sys ..,h=>h.1.elim
 | .halt ..,h=>h.1.elim
def OkR.choose{α:Type}{q:Question}{k:Nat->Sem α}{R:α->Prop}(a:q.forced=false)(h:∀t,OkR P (k (q.cut t)) R):OkR P (.choose q k) R:=by unfold OkR;simp only[pN,lC,a,fE,cJ];exact⟨λt=>(h t).1,λv ⟨t,b⟩=>(h t).2 v b⟩
def FP{α:Type}:∀{s:Sem α},pN P s->∃v,lC P s v
 | .pure a,_=>⟨a,rfl⟩
 | .program k,h=>FP (s:=k P) h
 | .mark _ k,h=>FP (s:=k) h
 | .choose q k,h=>by
  simp only[pN,lC]at h ⊢;by_cases c:q.forced=true
  .simp only[aH c]at h ⊢;exact FP h
  .simp only[aD c]at h ⊢;obtain⟨v,b⟩:=FP (h 0);exact⟨v,0,b⟩
 | .load ..,h=>h.elim
 | .store ..,h=>h.elim
 | .new ..,h=>h.elim
 | .shape ..,h=>h.elim
 | .freeze ..,h=>h.elim
 | .frozen ..,h=>h.elim
 | .getObj ..,h=>h.elim
 | .setObj ..,h=>h.elim
 | .sys ..,h=>h.elim
 | .halt ..,h=>h.elim
def ay{α:Type}:∀{s:Sem α} {v:α},bY P s=some v->lC P s v
 | .pure a,v,h=>by cases h;rfl
 | .program k,v,h=>ay (s:=k P) h
 | .mark _ k,v,h=>ay (s:=k) h
 | .choose ..,v,h=>by cases h
 | .load ..,v,h=>by cases h
 | .store ..,v,h=>by cases h
 | .new ..,v,h=>by cases h
 | .shape ..,v,h=>by cases h
 | .freeze ..,v,h=>by cases h
 | .frozen ..,v,h=>by cases h
 | .getObj ..,v,h=>by cases h
 | .setObj ..,v,h=>by cases h
 | .sys ..,v,h=>by cases h
 | .halt ..,v,h=>by cases h
def NE(a:AV):Prop:=∃v,F5 a v
def Is(R:Value->Prop)(a:AV):Prop:=NE a/\∀v,F5 a v->R v
def xiq{a:AV}{v:Value}(h:dM a=some v):F5 a v:=by cases a<;>first|exact h|cases h
def xpm{a:AV}(h:dM a=none)(b:NE a):∃p,a=.un p:=by obtain⟨u,d⟩:=b;cases a<;>first|exact⟨_,rfl⟩|exact nomatch h.symm.trans d
def conc_sc{v u:Value}:F5 (.sc v) u↔u=v:=by
 constructor
 .intro h;cases h;rfl
 .intro h;rw[h];rfl
def Is.sc{R:Value->Prop}{v:Value}(h:R v):Is R (.sc v):=⟨⟨v,rfl⟩,λu b=>by rw[conc_sc.mp b];exact h⟩
def Is.mono{R Q:Value->Prop}{a:AV}(h:Is R a)(b:∀v,R v->Q v):Is Q a:=⟨h.1,λv d=>b v (h.2 v d)⟩
def x6z{q:Value->Prop}{a:Value}(d:∃v,q v)(h:∀v,q v->v=a):GN q=some (.sc a):=by unfold GN;have c:∃a,∀v,q v->v=a:=⟨a,h⟩;rw[dif_pos c];have e:=Classical.choose_spec c;obtain⟨v,b⟩:=d;have f:=e v b;have g:=h v b;rw[<-f,g]
section
variable{l:List AV}{s:List Value->Sem Value}{R:Value->Prop}
def yco(d:∃a,lG l a)(h:∀a,lG l a->OkR P (s a) R):∃v a,lG l a/\lC P (s a) v:=by obtain⟨a,b⟩:=d;obtain⟨v,e⟩:=FP (h a b).1;exact⟨v,a,b,e⟩
def ycp{d:Value}(e:∃a,lG l a)(h:∀a,lG l a->OkR P (s a) (·=d)):tP P l s=some (.sc d):=by unfold tP;rw[aH ⟨e,λa b=>(h a b).1⟩];exact x6z (yco e h) (λv ⟨a,b,f⟩=>(h a b).2 v f)
def xya{o:Option AV}{b:Value}(d:fO b=.sc b)(e:∀r,o=some r->∃a z,lG l a/\lC P (s a) z/\r=fO z)(f:∃a,lG l a)(h:∀a,lG l a->OkR P (s a) (·=b)):(match o with|some r=>some r|none=>tP P l s)=some (.sc b):=by
 cases o with
 |none=>exact ycp f h
 |some r=>obtain⟨a,z,i,j,m⟩:=e r rfl;have g:=(h a i).2 z j;rw[m,g,d]
end
def yb0{g:BinOp}{t:TypeId}{x y:Operand}{a b:AV}(j:NE a)(m:NE b):∀r,W9 P g t x y a b=some r->∃i z,lG [a,b] i/\lC P (NA g t x y i) z/\r=fO z:=by
 intro r h;unfold W9 at h;cases d:dM a with
 |none=>
  obtain⟨p,rfl⟩:=xpm d j;cases e:dM b with
  |none=>simp[d,e]at h
  |some v=>
   simp only[d,e]at h;split at h
   .rename_i f n;cases f
   .split at h
    .rename_i f;cases f
    .rename_i f;cases f
    .cases h
   .cases h
 |some u=>
  cases e:dM b with
  |none=>simp[d,e]at h
  |some v=>simp only[d,e,cH]at h;obtain⟨z,l,rfl⟩:=h;exact⟨[u,v],z,⟨xiq d,xiq e,trivial⟩,ay l,rfl⟩
def cs2{a b:AV}(d:NE a)(e:NE b):∃f,lG [a,b] f:=by obtain⟨u,g⟩:=d;obtain⟨v,h⟩:=e;exact⟨[u,v],g,h,trivial⟩
def x6d{a b:AV}{Q:List Value->Prop}(h:∀u v,F5 a u->F5 b v->Q [u,v]):∀e,lG [a,b] e->Q e
 |[],d=>d.elim
 |[_],d=>d.2.elim
 |[u,v],d=>h u v d.1 d.2.1
 |_::_::_::_,d=>d.2.2.elim
section
variable{op:BinOp}{t:TypeId}{x y:Operand}{a b:AV}{R A B:Value->Prop}{v0:Value}
def xrw(d:Is A a)(e:Is B b)(f:fO v0=.sc v0)(h:∀u v,A u->B v->OkR P (NA op t x y [u,v]) (·=v0)):cO P op t x y a b=some (.sc v0):=
 xya f (yb0 d.1 e.1) (cs2 d.1 e.1) (x6d λu v g f=>h u v (d.2 u g) (e.2 v f))
end
section
variable{b:Builtin}{f:FuncId}{ts:Array TypeId}{t s d:TypeId}{a c:AV}{R A C:Value->Prop}{v0:Value}{uo:UnOp}
end
end Go.Ix
namespace Go.Ix
open Go.Proofs
variable{α:Type}{z:Nat}{enc:α->List AV}{l:List α}{a:AV}
def Gk{α:Type}(z:Nat)(d:α->List AV)(ok:Id->Prop)(m:Mem)(a:AV)(l:List α):Prop:=
 (a=nilS/\l=[])\/∃id b,ok id/\a=.sref id b 0 l.length z true/\m.get id=some (.row (l.flatMap d) b false)
def Gk.nil{ok:Id->Prop}{m:Mem}:Gk z enc ok m nilS []:=Or.inl ⟨rfl,rfl⟩
def Gk.frame{ok:Id->Prop}{m m':Mem}(h:Gk z enc ok m a l)(b:∀id,ok id->m'.get id=m.get id):Gk z enc ok m' a l:=by
 rcases h with h|⟨id,ver,h0,h1,h2⟩
 .exact Or.inl h
 .exact Or.inr ⟨id,ver,h0,h1,by rw[b _ h0];exact h2⟩
def Gk.app(o:∀x,(enc x).length=z)(t:0<z){bytes:Nat}{ok:Id->Prop}{id0:Id}{m:Mem}(g:ok id0)(i:cQ (l.length+1) bytes)(h:Gk z enc ok m a l)(x:α) :
    ∃d e,(∀{R:Type} (k:AV->Mem->Option R),cX z bytes id0 (some (enc x,1)) a m k=k d e)/\Gk z enc ok e d (l++[x])/\d.cells=[d]/\d.one=true/\e.next=m.next/\∀j:Id,¬ok j->e.get j=m.get j:=by
 rcases h with ⟨rfl,rfl⟩|⟨id,b,n,rfl,r⟩
 .refine⟨.sref id0 0 0 1 z true,m.new id0 (.row (enc x) 0 false),λk=>?_,Or.inr ⟨id0,0,g,rfl,by simp⟩,rfl,rfl,rfl,λj f=>?_⟩
  .simp only[cX];rw[aD (by omega),aH (by simpa using i)]
  .rw[Mem.dP,aD (by rintro rfl;exact f g)]
 .have p:=iE o l;refine⟨.sref id (b+1) 0 (l.length+1) z true,m.set id (.row (l.flatMap enc++enc x) (b+1) false),λk=>?_,Or.inr ⟨id,b+1,n,by simp,by simp⟩,rfl,rfl,rfl,λj f=>?_⟩
  .simp only[cX,r];rw[aH ⟨trivial,trivial,by omega,i⟩,aD (by omega),aD (by rw[p,lR];omega),bA,dU (by omega)]
  .rw[Mem.cP,aD (by rintro rfl;exact f n)]
def Gk.one{ok:Id->Prop}{m:Mem}(h:Gk z enc ok m a l):a.cells=[a]/\a.one=true:=by rcases h with ⟨rfl,rfl⟩|⟨id,b,d,rfl,e⟩<;>exact⟨rfl,rfl⟩
def Gk.frz(e:∀x,(enc x).length=z)(Z:∀x,(enc x).all aP=true){ok:Id->Prop}{k:Nat}{m:Mem}(h:Gk z enc ok m a l):∃d,Sl enc d l/\Go.Ix.frz m.get (k+2) a=some d:=by
 rcases h with ⟨rfl,rfl⟩|⟨id,b,_,rfl,g⟩
 .exact⟨nilS,Or.inl ⟨rfl,rfl⟩,rfl⟩
 .have i:=iE e l;refine⟨.aQ (l.flatMap enc) l.length false,Sl.lit l false,?_⟩
  have:=vB (aC:=m.get) (id:=id) (cs:=l.flatMap enc) (ver:=b) (off:=0) (n:=l.length) (z:=z) (k:=k) (f:=false) (x:=true) g (by omega) (by
   rw[bA,dU (by omega)];exact rW Z l)
  rw[bA,dU (by omega)]at this;exact this
def ya6{a:aK}{f:FuncId}{l:List AV}{m b:Mem}{r:AV}(d:l.all clean=true)(h:a [] f l ⟨[],m.next⟩=some (r,b)) :
    ∃M:Mem,y5 a f l m=some (r,M)/\M.next=b.next/\∀i:Id,M.get i=if m.next<=i.1 then b.get i else m.get i:=by
 refine⟨⟨(b.hp.filter λe=>Nat.ble m.next e.1)++(m.hp.filter λe=>Nat.blt e.1 m.next),b.next⟩,?_,rfl,λi=>congrFun (xgr b.hp m.hp m.next) i⟩;unfold y5;rw[aH d,h]
def dp:∃i,prog.info? eE=some i/\i.size=1:=by have h:(prog.info? eE).map (λi=>i.size)=some 1:=(by kernel_rfl);obtain⟨i,a,b⟩:=cH.mp h;exact⟨i,a,b⟩
def xqm{id:Id}{b d n:Nat}{a:Bool}{e:Int}(f:0<=e)(g:e<=n)(h:a=true:=by rfl):eP prog fG (.sref id b d n 1 a) none (some (I e))=some (.sref id b d e.toNat 1 a):=by obtain⟨i,j,l⟩:=dp;simp only[eP,dM,jZ,j,dI,Option.getD_some,Option.getD_none];rw[aH ⟨by omega,f,g,l.symm,.inl h⟩];simp
def xc0{id:Id}{d e n:Nat}{a:Bool}{b:Int}(f:0<=b)(j:b<=n):eP prog fG (.sref id d e n 1 a) (some (I b)) none=some (.sref id d (e+b.toNat) (n-b.toNat) 1 a):=by obtain⟨i,g,h⟩:=dp;simp only[eP,dM,jZ,g,dI,Option.getD_some,Option.getD_none];rw[aH ⟨f,by omega,by omega,h.symm,.inr trivial⟩,oB,show((n:Int)-b).toNat=n-b.toNat by omega]
structure Ar where
 edge:Int
 to:Int
 sign:Int
 room:Int
 cost:Int
def Ar.c(a:Ar):List AV:=[I a.edge,I a.to,I a.sign,I a.room,I a.cost]
theorem Ar.len(a:Ar):a.c.length=5:=rfl
def e00:Edge:=⟨0,0,0,0⟩
def edgeAt(l:List Edge)(i:Nat):Edge:=l.getD i e00
def MO{l:List Edge}{i:Nat}(h:i<l.length):edgeAt l i=l[i]:=by unfold edgeAt;rw[eU,eY h];rfl
def adjI(l:List Edge)(v:Int):List Int:=((List.range l.length).filter λi=>decide ((edgeAt l i).fr=v)||decide ((edgeAt l i).to=v)).map Int.ofNat
structure FrzS (S:AV) (n:Nat) (l:List Edge) (fl tu ex:List Int):Prop where
 sh:∃ev F TU X cells b,S=.aF [I n,ev,F,TU,X,.aQ cells n b]/\Sl Edge.c ev l/\Ints F fl/\Ints TU tu/\Ints X ex/\cells.length=n/\∀(v:Nat) (hv:v<cells.length),Ints cells[v] (adjI l v)
 fll:fl.length=l.length
 tul:tu.length=n
 exl:ex.length=n
 n0:n<=200
 ll:l.length<=600
 ed:∀e∈l,EdgeIn n e/\e.fr≠e.to
 flb:∀k,-1000<=at0 fl k/\at0 fl k<=1000
 tub:∀k,-1000000<=at0 tu k/\at0 tu k<=1000000
def MW{b:aK}{f:FuncId}{l o:List AV}{m a:Mem}{r:AV}{ids:List Id}(p:l.mapM (frz m.get bL)=some o)(h:b [] f o ⟨[],m.next⟩=some (r,a))(t:N1 r=true)(d:reach a.get bL r=ids)(e:∀i∈ids,m.next<=i.1/\∃g v,a.get i=some (.row g v false)/\g.all qA=true):∃M:Mem,uL b f l m=some (r,M)/\M.next=a.next/\∀i,M.get i=if i∈ids then a.get i else m.get i:=by
 refine⟨⟨U4 a.hp (reach a.get bL r) m.hp,a.next⟩,?_,rfl,?_⟩
 .unfold uL;rw[p];simp only[h];rw[aH];rw[t,gO,d,dG];intro i j;obtain⟨u,g,v,n,w⟩:=e i j;rw[n];simp[u,w]
 .intro i;rw[d];exact db a.hp ids m.hp (λi j=>by obtain⟨_,g,v,n,_⟩:=e i j;exact⟨_,n⟩) i
def xd5{b:Id->Option Ob}{k:Nat}:∀{l:List AV},l.all qA=true->l.flatMap (reach b k)=[]
 |[],_=>rfl
 |a::l,h=>by
  rw[dQ,cK]at h;rw[dN,xd5 h.2,jX];cases a with
  |sc v=>cases k<;>rfl
  |_=>simp[qA]at h
def ar{a:Id->Option Ob}{k:Nat}{id:Id}{b d n z:Nat}{f:Bool}{e:List AV}{v:Nat}(h:a id=some (.row e v false))(Z:e.all qA=true):reach a (k+1) (.sref id b d n z f)=[id]:=by simp only[reach,h];rw[xd5];rw[dG]at Z ⊢;exact λx g=>Z x (HA (GZ g))
structure Tour where
 len:List Int
 last:List Ar
 bef:List Int
theorem Ar.one(a:Ar):a.c.all AV.one=true:=rfl
theorem Ar.sc(a:Ar):a.c.all qA=true:=rfl
structure WInv (u sL:Nat) (S:AV) (n:Nat) (t:Tour) (m:Mem):Prop where
 s:m.get (u,0,2)=some (.row [S] 0 false)
 t4:m.get (u,1,4)=some (.row [nilS,nilS,nilS] 0 false)
 t5:m.get (u,25,5)=some (.row [.sref (u+1,sL,30) 0 0 n 1 true,.sref (u,16,26) 0 0 n 5 true,.sref (u,23,33) 0 0 n 1 true] 0 false)
 len:m.get (u+1,sL,30)=some (.row (t.len.flatMap intE) 0 false)
 last:m.get (u,16,26)=some (.row (t.last.flatMap Ar.c) 0 false)
 bef:m.get (u,23,33)=some (.row (t.bef.flatMap intE) 0 false)
 ll:t.len.length=n
 al:t.last.length=n
 bl:t.bef.length=n
 nx:u+1<m.next
def WInv.frame{u l:Nat}{S:AV}{n:Nat}{t:Tour}{m m':Mem}(h:WInv u l S n t m)(o:∀id:Id,id.1<=u+1->id.2.2≠7->id.2.2≠41->m'.get id=m.get id)(p:m.next<=m'.next):WInv u l S n t m':=by obtain⟨a,b,c,d,e,f,g,i,j,k⟩:=h;refine⟨?_,?_,?_,?_,?_,?_,g,i,j,by omega⟩<;>rw[o _ (by simp) (by simp) (by simp)]<;>assumption
def dn(a:List Bool)(k:Nat):Bool:=a.getD k true
def x57{a:List Bool}{k:Nat}(h:k<a.length):dn a k=a[k]:=by unfold dn;rw[eU,eY h];rfl
def x56{a:List Bool}{k j:Nat}(h:k<a.length):dn (a.set k true) j=if j=k then true else dn a j:=by
 unfold dn;rw[eU,eU,HE];by_cases e:k=j
 .subst e;simp[h]
 .rw[aD e,aD (λx=>e x.symm)]
def zJ:List Bool->Nat
 |[]=>0
 |d::r=>(if d=false then 1 else 0)+zJ r
def xiu:∀{ds:List Bool} {k:Nat},k<ds.length->dn ds k=false->zJ (ds.set k true)+1=zJ ds
 |[],k,h,_=>by simp at h
 |d::r,0,h,a=>by have:d=false:=a;subst this;simp[zJ];omega
 |d::r,k+1,h,a=>by have:=xiu (ds:=r) (k:=k) (by simpa using h) a;simp only[NQ,zJ];omega
def x6k(n:Nat):zJ (List.replicate n false)=n:=by
 induction n with
 |zero=>rfl
 |succ n a=>rw[xkr];simp only[zJ,a,bV];omega
abbrev srL(u a n:Nat):AV:=.sref (u+1,a,30) 0 0 n 1 true
def okA(a:Nat)(id:Id):Prop:=id.1=a/\(id.2.2=116\/id.2.2=127)
structure SolMem (us n:Nat) (ev:AV) (l:List Edge) (fl tu ex:List Int) (m:Mem):Prop where
 s:m.get (us,21,25)=some (.row [I n,ev,srI (us,7,11) l.length,srI (us,11,15) n,srI (us,15,19) n,srI (us,19,23) n] 0 false)
 f:m.get (us,7,11)=some (.row (fl.flatMap intE) 0 false)
 t:m.get (us,11,15)=some (.row (tu.flatMap intE) 0 false)
 x:m.get (us,15,19)=some (.row (ex.flatMap intE) 0 false)
 a:∃cells,m.get (us,19,23)=some (.row cells 0 false)/\cells.length=n/\∀(v:Nat) (hv:v<cells.length),Gk 1 intE (okA us) m cells[v] (adjI l v)
 fll:fl.length=l.length
 tul:tu.length=n
 exl:ex.length=n
def SolMem.frame{e n:Nat}{ev:AV}{l:List Edge}{o p r:List Int}{m m':Mem}(h:SolMem e n ev l o p r m)(t:∀id:Id,id.1=e->m'.get id=m.get id):SolMem e n ev l o p r m':=by obtain⟨a,b,c,d,⟨cells,y,w,x⟩,f,g,i⟩:=h;refine⟨?_,?_,?_,?_,⟨cells,?_,w,λv u=>(x v u).frame λid j=>t id j.1⟩,f,g,i⟩<;>rw[t _ rfl]<;>assumption
structure SolIn (n:Nat) (l:List Edge) (fl tu ex:List Int):Prop where
 n0:n<=200
 ll:l.length<=600
 ed:∀e∈l,EdgeIn n e/\e.fr≠e.to
 flb:∀k,-1000<=at0 fl k/\at0 fl k<=1000
 tub:∀k,-1000000<=at0 tu k/\at0 tu k<=1000000
 exb:∀k,-1000000<=at0 ex k/\at0 ex k<=1000000
def x4e{a:Id->Option Ob}{id:Id}{d:List AV}{v b n z k:Nat}{f x:Bool}(h:a id=some (.row d v f))(e:b+n*z<=d.length):frz a (k+1) (.sref id v b n z x)=(((d.drop b).take (n*z)).mapM (frz a k)).map λl=>AV.aQ l n false:=by simp only[frz,h];rw[aH ⟨trivial,e⟩]
def x4g{a:Id->Option Ob}{id:Id}{d:List AV}{v b k:Nat}{f:Bool}(h:a id=some (.row d v f)):frz a (k+1) (.ptr id v b)=((d.drop b).mapM (frz a k)).map AV.aF:=by simp only[frz,h,bV]
def eh{b:Id->Option Ob}{id:Id}{l:List Int}{k:Nat}(h:b id=some (.row (l.flatMap intE) 0 false)):∃a,Ints a l/\frz b (k+2) (srI id l.length)=some a:=by
 have d:=D5 l;refine⟨.aQ (l.flatMap intE) l.length false,Sl.lit l false,?_⟩
 have:=vB (aC:=b) (id:=id) (cs:=l.flatMap intE) (ver:=0) (off:=0) (n:=l.length) (z:=1) (k:=k) (f:=false) (x:=true) h (by omega) (by
  rw[bA,dU (by omega)];exact rW wS l)
 rw[bA,dU (by omega)]at this;exact this
def xfw{f:AV->Option AV}{P:Nat->AV->Prop}:∀(l:List AV) (k:Nat),(∀(v:Nat) (d:v<l.length),∃b,f l[v]=some b/\P (k+v) b)->∃e,l.mapM f=some e/\e.length=l.length/\∀(v:Nat) (d:v<e.length),P (k+v) e[v]
 |[],k,_=>⟨[],rfl,rfl,λv d=>by simp at d⟩
 |a::l,k,h=>by
  obtain⟨b,g,i⟩:=h 0 (by simp);obtain⟨e,j,m,n⟩:=xfw (f:=f) (P:=P) l (k+1) λv d=>by obtain⟨b,o,p⟩:=h (v+1) (by simpa using d);exact⟨b,o,by rw[show k+1+v=k+(v+1) by omega];exact p⟩
  refine⟨b::e,?_,by simp[m],λv d=>?_⟩
  .rw[eG];simp only[List.getElem_cons_zero]at g;rw[g,j];rfl
  .cases v with
   |zero=>exact i
   |succ v=>have:=n v (by simpa using d);rw[show k+1+v=k+(v+1) by omega]at this;exact this
def SolMem.frz{e n:Nat}{ev:AV}{l:List Edge}{g i j:List Int}{m:Mem}(h:SolMem e n ev l g i j m)(a:SolIn n l g i j)(d:Sl Edge.c ev l):∃S,FrzS S n l g i j/\Go.Ix.frz m.get bL (.ptr (e,21,25) 0 0)=some S:=by
 obtain⟨Z,E,H,J,⟨cells,K,L,p⟩,t,u,w⟩:=h;obtain⟨F,M,x⟩:=eh (k:=3) E;obtain⟨T,N,y⟩:=eh (k:=3) H;obtain⟨X,O,A⟩:=eh (k:=3) J;obtain⟨r,Q,c2,R⟩:=xfw (f:=Go.Ix.frz m.get 4) (P:=λv b=>Ints b (adjI l v)) cells 0 λv o=>by obtain⟨W,g1,g2⟩:=(p v o).frz (k:=2) gE wS;exact⟨W,g2,by simpa using g1⟩
 have C:Go.Ix.frz m.get 5 (srI (e,19,23) n)=some (.aQ r n false):=(by rw[x4e K (by omega),bA,dU (by omega),Q];rfl);refine⟨.aF [I n,ev,F,T,X,.aQ r n false],⟨⟨ev,F,T,X,r,false,rfl,d,M,N,O,by omega,λv o=>by have:=R v o;rwa[bO]at this⟩,t,u,w,a.n0,a.ll,a.ed,a.flb,a.tub⟩,?_⟩;rw[t]at x;rw[u]at y;rw[w]at A;have D:Go.Ix.frz m.get 5 ev=some ev:=tF _ 4 d.aP;rw[show bL=5+1 from rfl,x4g Z];have fn:Go.Ix.frz m.get 5 (I n)=some (I n):=rfl;simp only[bA,eG,fZ,fn,D,x,y,A,C];rfl
structure TourMem (u sL n:Nat) (t:Tour) (m:Mem):Prop where
 t4:m.get (u,3,4)=some (.row [srL (u+1) sL n,.sref (u+1,16,26) 0 0 n 5 true,.sref (u+1,23,33) 0 0 n 1 true] 0 false)
 len:m.get (u+1+1,sL,30)=some (.row (t.len.flatMap intE) 0 false)
 last:m.get (u+1,16,26)=some (.row (t.last.flatMap Ar.c) 0 false)
 bef:m.get (u+1,23,33)=some (.row (t.bef.flatMap intE) 0 false)
 ll:t.len.length=n
 al:t.last.length=n
 bl:t.bef.length=n
def TourMem.frame{u i n:Nat}{t:Tour}{m m':Mem}(h:TourMem u i n t m)(j:∀id:Id,u<=id.1->m'.get id=m.get id):TourMem u i n t m':=by obtain⟨a,b,c,d,e,f,g⟩:=h;refine⟨?_,?_,?_,?_,e,f,g⟩<;>rw[j _ (by simp only;omega)]<;>assumption
def okid(u Y:Nat)(id:Id):Prop:=id.1=u/\(id.2.2=116\/id.2.2=127)/\id.2.1<Y
structure AtI (u fc:Nat) (cells:List AV) (adj:Nat->List Int) (m:Mem):Prop where
 sh:∃ids:Nat->Id,(∀(v:Nat) (hv:v<cells.length),(cells[v]=nilS/\adj v=[])\/(∃ver,cells[v]=.sref (ids v) ver 0 (adj v).length 1 true/\m.get (ids v)=some (.row ((adj v).flatMap intE) ver false)/\okid u fc (ids v)/\adj v≠[])) /\
  ∀v w,v<cells.length->w<cells.length->adj v≠[]->adj w≠[]->v≠w->ids v≠ids w
def AtI.frame{u Y e:Nat}{cells:List AV}{f:Nat->List Int}{m m':Mem}(h:AtI u Y cells f m)(i:∀id,okid u Y id->m'.get id=m.get id)(j:Y<=e):AtI u e cells f m':=by
 obtain⟨g,n,o⟩:=h.sh;refine⟨g,λv l=>?_,o⟩;rcases n v l with h|⟨ver,a,b,c,d⟩
 .exact Or.inl h
 .exact Or.inr ⟨ver,a,by rw[i _ c];exact b,⟨c.1,c.2.1,by have:=c.2.2;omega⟩,d⟩
def AtI.app{u Y y:Nat}{cells:List AV}{i:Nat->List Int}{m:Mem}(h:AtI u Y cells i m){v:Nat}(W:v<cells.length)(x:Int){id0:Id}(M:id0.1=u)(N:id0.2.2=116\/id0.2.2=127)(h3:Y<=id0.2.1)(X:id0.2.1<y)(hr:(i v).length<=100000) :
    ∃F K idA,(∀{R:Type} (k:AV->Mem->Option R),cX 1 8 id0 (some (intE x,1)) cells[v] m k=k F K)/\AtI u y (cells.set v F) (λw=>if w=v then i v++[x]else i w) K/\F.cells=[F]/\F.one=true/\K.next=m.next/\(∀j:Id,¬okid u y j->K.get j=m.get j) /\
     tA id0 cells[v]=some [idA]/\(idA.2.2=116\/idA.2.2=127)/\idA.1=u:=by
 obtain⟨n,Z,P⟩:=h.sh;have H:∀k,k<=100001->cQ k 8:=λk hk=>by unfold cQ;omega
 have g:∀(w:Nat) (p:w<cells.length),((cells[w]=nilS/\i w=[])\/(∃l,cells[w]=.sref (n w) l 0 (i w).length 1 true/\m.get (n w)=some (.row ((i w).flatMap intE) l false)/\okid u Y (n w)/\i w≠[])):=Z;rcases Z v W with ⟨J,L⟩|⟨l,J,L,t,Q⟩
 ·
  refine⟨.sref id0 0 0 1 1 true,m.new id0 (.row (intE x) 0 false),id0,λk=>?_,⟨λw=>if w=v then id0 else n w,λw p=>?_,λw A p r D E C=>?_⟩,rfl,rfl,rfl,λj O=>?_,by rw[J];rfl,N,M⟩
  .rw[J];simp only[cX];rw[aD (by omega),aH (H 1 (by omega))]
  .simp only[mN]at p;by_cases f:w=v
   .subst f;right;refine⟨0,?_,?_,?_,by simp⟩
    .simp[L]
    .simp[L]
    .simp only[bV];exact⟨M,N,X⟩
   .rw[NT (λe=>f e.symm)];simp only[aD f];rcases g w p with h|⟨l,a,b,c,d⟩
    .exact Or.inl h
    .refine Or.inr ⟨l,a,?_,⟨c.1,c.2.1,by have:=c.2.2;omega⟩,d⟩;rw[Mem.dP,aD (by rintro e;rw[e]at c;have:=c.2.2;omega)];exact b
  .simp only[mN]at p r;by_cases f:w=v
   .have o:A≠v:=(by omega);simp only[aH f,aD o];simp only[aD o]at E;rcases g A r with ⟨_,h⟩|⟨_,_,_,c,_⟩
    .exact absurd h E
    .intro e;rw[<-e]at c;have:=c.2.2;omega
   .by_cases o:A=v
    .simp only[aD f,aH o];simp only[aD f]at D;rcases g w p with ⟨_,h⟩|⟨_,_,_,c,_⟩
     .exact absurd h D
     .intro e;rw[e]at c;have:=c.2.2;omega
    .simp only[aD f,aD o]at D E ⊢;exact P w A p r D E C
  .rw[Mem.dP,aD (by rintro rfl;exact O ⟨M,N,X⟩)]
 .have hl:=D5 (i v);refine⟨.sref (n v) (l+1) 0 ((i v).length+1) 1 true,m.set (n v) (.row ((i v).flatMap intE++intE x) (l+1) false),n v,λk=>?_,⟨n,λw p=>?_,λw A p r D E C=>?_⟩,rfl,rfl,rfl,λj O=>?_,by rw[J];rfl,t.2.1,t.1⟩
  .rw[J];simp only[cX,L];rw[aH ⟨trivial,trivial,by omega,H _ (by omega)⟩,aD (by omega),aD (by omega),bA,dU (by omega)]
  .simp only[mN]at p;by_cases f:w=v
   .subst f;right;refine⟨l+1,by simp,by simp,⟨t.1,t.2.1,by have:=t.2.2;omega⟩,by simp⟩
   .rw[NT (λe=>f e.symm)];simp only[aD f];rcases g w p with h|⟨ver',a,b,c,d⟩
    .exact Or.inl h
    .refine Or.inr ⟨ver',a,?_,⟨c.1,c.2.1,by have:=c.2.2;omega⟩,d⟩;rw[Mem.cP,aD (P w v p W d Q f)];exact b
  .simp only[mN]at p r;refine P w A p r ?_ ?_ C
   .by_cases f:w=v
    .subst f;exact Q
    .simpa[f]using D
   .by_cases f:A=v
    .subst f;exact Q
    .simpa[f]using E
  .rw[Mem.cP,aD (by rintro rfl;exact O ⟨t.1,t.2.1,by have:=t.2.2;omega⟩)]
theorem Edge.bG(e:Edge):e.c.all aP=true:=rfl
def xh6(p:List Int)(e:Edge)(f:Int):List Int:=(p.set e.to.toNat (at0 p e.to.toNat+f)).set e.fr.toNat (at0 p e.fr.toNat-f)
def NodeIn(p:List Int)(b:Int):Prop:=∀k,-b<=at0 p k/\at0 p k<=b
def NodeIn.up{p:List Int}{b:Int}(h:NodeIn p b){e:Edge}(d:EdgeIn p.length e){f:Int}(g:-1000<=f)(i:f<=1000):NodeIn (xh6 p e f) (b+1000):=by
 obtain⟨m,n,o,r,-⟩:=d;intro k;have a:=h k;have j:=h e.to.toNat;have l:=h e.fr.toNat;unfold xh6;rw[GO (by simp;omega),GO (by omega)];split
 .omega
 .split<;>omega
def lZ:Nat->(Nat->Int)->Int
 |0,_=>0
 |n+1,g=>lZ n g+g n
def xp7{n:Nat}{g h:Nat->Int}(H:∀k,k<n->g k=h k):lZ n g=lZ n h:=by
 induction n with
 |zero=>rfl
 |succ n a=>simp only[lZ];rw[a λk b=>H k (by omega),H n (by omega)]
def ZQ{n:Nat}{g:Nat->Int}(H:∀k,k<n->g k=0):lZ n g=0:=by
 induction n with
 |zero=>rfl
 |succ n a=>simp only[lZ];rw[a λk b=>H k (by omega),H n (by omega)];rfl
def xcq{n:Nat}{g h:Nat->Int}:lZ n (λk=>g k+h k)=lZ n g+lZ n h:=by
 induction n with
 |zero=>rfl
 |succ n a=>simp only[lZ];rw[a];omega
def xp6{n:Nat}{g:Nat->Int}(H:∀k,k<n->0<=g k):0<=lZ n g:=by
 induction n with
 |zero=>simp[lZ]
 |succ n a=>simp only[lZ];have:=a λk b=>H k (by omega);have:=H n (by omega);omega
def xcp{n v:Nat}(h:v<n)(c:Int)(p:Nat->Int):lZ n (λk=>if v=k then p k*c else 0)=p v*c:=by
 induction n with
 |zero=>omega
 |succ n a=>
  simp only[lZ];by_cases e:v=n
  .subst e;rw[ZQ (λk b=>aD (by omega)),aH rfl];omega
  .rw[a (by omega),aD e];omega
def tI(p:Nat->Int)(e:Edge):Int:=p e.to.toNat-p e.fr.toNat+e.jump
def GK(p:Nat->Int):List Edge->Int
 |[]=>0
 |e::r=>e.wt*((tI p e).natAbs:Int)+GK p r
def o9:List (Edge×Int)->Int
 |[]=>0
 |x::r=>x.2*x.1.jump+o9 r
def netF(v:Nat):List (Edge×Int)->Int
 |[]=>0
 |x::r=>(if x.1.to.toNat=v then x.2 else 0)-(if x.1.fr.toNat=v then x.2 else 0)+netF v r
def D9(p:Nat->Int):List (Edge×Int)->Int
 |[]=>0
 |x::r=>x.1.wt*((tI p x.1).natAbs:Int)-x.2*tI p x.1+D9 p r
def Cap(z:List (Edge×Int)):Prop:=∀x∈z,-x.1.wt<=x.2/\x.2<=x.1.wt
def Ends(n:Nat)(z:List (Edge×Int)):Prop:=∀x∈z,x.1.fr.toNat<n/\x.1.to.toNat<n
def CS(p:Nat->Int)(z:List (Edge×Int)):Prop:=∀x∈z,(x.2<x.1.wt->tI p x.1<=0)/\(-x.1.wt<x.2->0<=tI p x.1)
structure Feas (n:Nat) (z:List (Edge×Int)):Prop where
 cap:Cap z
 cons:∀v,v<n->netF v z=0
 ends:Ends n z
def xcn(n:Nat)(p:Nat->Int):∀z:List (Edge×Int),Ends n z->lZ n (λv=>p v*netF v z)=o9 z*0+(z.foldr (λx s=>x.2*(p x.1.to.toNat-p x.1.fr.toNat)+s) 0)
 |[],_=>by simp only[netF,Int.mul_zero,List.foldr_nil,o9];rw[ZQ (λ_ _=>rfl)];rfl
 |x::r,h=>by have b:=xcn n p r (λy a=>h y (eA _ a));obtain⟨d,f⟩:=h x (eO ..);have e:∀v,p v*netF v (x::r)=(if x.1.to.toNat=v then p v*x.2 else 0)+((if x.1.fr.toNat=v then p v*(-x.2)else 0)+p v*netF v r):=(by intro v;simp only[netF];split<;>split<;>grind);rw[xp7 (λk _=>e k),xcq,xcq,xcp d,xcp f,b];simp only[xk4];grind
def xin(p:Nat->Int):∀z:List (Edge×Int),GK p (z.map Prod.fst)=D9 p z+o9 z+z.foldr (λx s=>x.2*(p x.1.to.toNat-p x.1.fr.toNat)+s) 0
 |[]=>rfl
 |x::r=>by have a:=xin p r;simp only[fY,GK,D9,o9,xk4,a,tI];grind
def x6f{n:Nat}{z:List (Edge×Int)}(h:Feas n z)(p:Nat->Int):GK p (z.map Prod.fst)=D9 p z+o9 z:=by have d:=xin p z;have b:=xcn n p z h.ends;rw[ZQ (λk a=>by rw[h.cons k a];simp)]at b;omega
def x36{w f e:Int}(b:-w<=f)(a:f<=w):0<=w*(e.natAbs:Int)-f*e:=by
 rcases Int.le_total 0 e with h|h
 .rw[Int.natAbs_of_nonneg h];have:=jy a h;omega
 .rw[show(e.natAbs:Int)=-e by omega];have:=jy (show -f<=w by omega) (show 0<=-e by omega);grind
def xhq(p:Nat->Int):∀{z:List (Edge×Int)},Cap z->0<=D9 p z
 |[],_=>by simp[D9]
 |x::r,h=>by
  have d:=xhq p (z:=r) λy b=>h y (eA _ b)
  have a:=h x (eO ..);have f:=x36 (e:=tI p x.1) a.1 a.2;simp only[D9];omega
def weak{n:Nat}{z:List (Edge×Int)}(h:Feas n z)(p:Nat->Int):o9 z<=GK p (z.map Prod.fst):=by have:=x6f h p;have:=xhq p h.cap;omega
def Arc(z:List (Edge×Int))(u v:Nat)(c:Int):Prop:=∃x∈z,(x.2<x.1.wt/\u=x.1.fr.toNat/\v=x.1.to.toNat/\c=-x.1.jump)\/(-x.1.wt<x.2/\u=x.1.to.toNat/\v=x.1.fr.toNat/\c=x.1.jump)
inductive Way (z:List (Edge×Int)) (u:Nat):Nat->Int->Prop
 |nil:Way z u u 0
 |cons {v w:Nat} {c d:Int}:Way z u v c->Arc z v w d->Way z u w (c+d)
def cs_iff{p:Nat->Int}{z:List (Edge×Int)}:CS p z↔∀u v c,Arc z u v c->p v-p u<=c:=by
 constructor
 .rintro h u v c ⟨x,b,⟨a,rfl,rfl,rfl⟩|⟨a,rfl,rfl,rfl⟩⟩
  .have:=(h x b).1 a;unfold tI at this;omega
  .have:=(h x b).2 a;unfold tI at this;omega
 .intro h x b;refine⟨λa=>?_,λa=>?_⟩
  .have:=h _ _ _ ⟨x,b,Or.inl ⟨a,rfl,rfl,rfl⟩⟩;unfold tI;omega
  .have:=h _ _ _ ⟨x,b,Or.inr ⟨a,rfl,rfl,rfl⟩⟩;unfold tI;omega
def Way.le{p:Nat->Int}{z:List (Edge×Int)}(h:CS p z){u v:Nat}{c:Int}(a:Way z u v c):p v-p u<=c:=by
 induction a with
 |nil=>omega
 |cons _ b d=>have:=cs_iff.mp h _ _ _ b;omega
def Arc.lt{n:Nat}{z:List (Edge×Int)}(h:Ends n z){u v:Nat}{c:Int}(b:Arc z u v c):u<n/\v<n:=by
 obtain⟨x,a,⟨d,rfl,rfl,rfl⟩|⟨d,rfl,rfl,rfl⟩⟩:=b
 .exact h x a
 .exact⟨(h x a).2,(h x a).1⟩
def Way.lt{n:Nat}{z:List (Edge×Int)}(h:Ends n z){u v:Nat}{c:Int}(a:u<n)(b:Way z u v c):v<n:=by
 cases b with
 |nil=>exact a
 |cons _ d=>exact(d.lt h).2
def xe2:∀(a:List Nat) (b:List Bool),a.Nodup->(∀w∈a,w<b.length/\dn b w=false)->a.length<=zJ b
 |[],_,_,_=>zP _
 |w::a,b,h,f=>by
  obtain⟨g,i⟩:=zR.mp h;obtain⟨e,j⟩:=f w (eO ..)
  have:=xe2 a (b.set w true) i (λx d=>by
   obtain⟨l,m⟩:=f x (eA _ d)
   exact⟨by simpa using l,by rw[x56 e,aD (by rintro rfl;exact g d)];exact m⟩)
  have:=xiu e j;simp only[eI];omega
def xzj{n:Nat}{a:List Nat}(h:a.Nodup)(b:∀w∈a,w<n):a.length<=n:=by have:=xe2 a (List.replicate n false) h (λw d=>⟨by simpa using b w d,by rw[x57 (by simpa using b w d)];simp⟩);rwa[x6k]at this
structure FlowOK (n:Nat) (l:List Edge) (fl tu ex:List Int):Prop where
 nn:n<=200
 ll:l.length<=600
 ed:∀e∈l,EdgeIn n e/\e.fr≠e.to
 fll:fl.length=l.length
 tul:tu.length=n
 exl:ex.length=n
 cap:∀k,k<l.length->-(edgeAt l k).wt<=at0 fl k/\at0 fl k<=(edgeAt l k).wt
 cs:∀k,k<l.length->(at0 fl k<(edgeAt l k).wt->exI tu (edgeAt l k)<=0)/\(-(edgeAt l k).wt<at0 fl k->0<=exI tu (edgeAt l k))
 net:∀v,v<n->at0 ex v=netF v (l.zip fl)
def x5q{n:Nat}{l:List Edge}(a:∀e∈l,EdgeIn n e/\e.fr≠e.to){k:Nat}(b:k<l.length):EdgeIn n (edgeAt l k)/\(edgeAt l k).fr≠(edgeAt l k).to:=by rw[MO b];exact a _ (eX b)
def ind(p:Prop)[Decidable p]:Int:=if p then 1 else 0
def x0y{l:List Edge}{a:List Int}(e:a.length=l.length){x:Edge×Int}:x∈l.zip a↔∃k,k<l.length/\x=(edgeAt l k,at0 a k):=by
 constructor
 .intro h;obtain⟨k,b,rfl⟩:=zT.mp h;have d:k<l.length:=(by simp at b;omega);refine⟨k,d,?_⟩;rw[List.getElem_zip,MO d,fD (by omega)]
 .rintro⟨k,b,rfl⟩;rw[MO b,fD (by omega)];have:k<(l.zip a).length:=(by simp;omega);rw[<-List.getElem_zip (h:=this)];exact eX this
structure Slim (J:Int) (n:Nat) (l:List Edge):Prop where
 j0:0<=J
 j1:J<=20
 nn:n<=12
 ll:l.length<=17
 ed:∀e∈l,EdgeIn n e/\e.fr≠e.to
 jw:∀e∈l,-J<=e.jump/\e.jump<=J/\e.wt<=20
structure TurnB (n:Nat) (tu ex:List Int) (P:Int):Prop where
 b:∀v,v<n->0<=at0 tu v/\at0 tu v<=P
 m:∀v,v<n->at0 ex v<0->at0 tu v=P
def z6(n:Nat)(a:List Int):Int:=lZ n (λv=>if 0<at0 a v then at0 a v else 0)
def xxw(n:Nat)(a:List Int):0<=z6 n a:=xp6 λk _=>by split<;>omega
def xe3(v:Nat):∀z:List (Edge×Int),(∀x∈z,-20<=x.2/\x.2<=20)->-(40*(z.length:Int))<=netF v z/\netF v z<=40*(z.length:Int)
 |[],_=>by simp[netF]
 |x::r,h=>by have b:=xe3 v r (λy a=>h y (eA _ a));have d:=h x (eO ..);simp only[netF,eI];split<;>split<;>omega
def FlowOK.exb{J:Int}{n:Nat}{l:List Edge}{b f a:List Int}(h:FlowOK n l b f a)(e:Slim J n l)(v:Nat):-680<=at0 a v/\at0 a v<=680:=by
 by_cases i:v<n
 .rw[h.net v i]
  have:=xe3 v (l.zip b) (λx g=>by
   obtain⟨k,d,rfl⟩:=(x0y h.fll).mp g
   have j:=h.cap k d
   have m:=e.jw (edgeAt l k) (by rw[MO d];exact eX d)
   simp only
   omega)
  have o:=e.ll;have:(l.zip b).length<=17:=(by rw[List.length_zip];omega);omega
 .have:at0 a v=0:=(by unfold at0;rw[eU,H0 (by rw[h.exl];omega)];rfl);omega
def FlowOK.flb{n:Nat}{l:List Edge}{a d e:List Int}(h:FlowOK n l a d e)(k:Nat):-1000<=at0 a k/\at0 a k<=1000:=by
 by_cases b:k<l.length
 .have:=h.cap k b;obtain⟨⟨_,_,_,_,_,_,f,g⟩,_⟩:=x5q h.ed b;omega
 .have:at0 a k=0:=(by unfold at0;rw[eU,H0 (by rw[h.fll];omega)];rfl);omega
def FlowOK.inn{J P:Int}{n:Nat}{l:List Edge}{e a d:List Int}(h:FlowOK n l e a d)(f:Slim J n l)(g:TurnB n a d P)(j:P<=1000000):SolIn n l e a d:=by
 refine⟨h.nn,h.ll,h.ed,h.flb,λv=>?_,λv=>by have:=h.exb f v;omega⟩;by_cases i:v<n
 .have:=g.b v i;omega
 .have:at0 a v=0:=(by unfold at0;rw[eU,H0 (by rw[h.tul];omega)];rfl);omega
def PBound(J P:Int)(n:Nat)(a:List Int):Prop:=0<=P/\P<=(J*12)*(1000-z6 n a)
def PBound.le{J P:Int}{n:Nat}{a:List Int}(h:PBound J P n a)(b:0<=J):P<=J*12000:=by have d:=xxw n a;have f:(J*12)*(1000-z6 n a)<=(J*12)*1000:=ydc (by omega) (by omega);have:=h.2;have e:J*12*1000=J*12000:=(by rw[Int.mul_assoc];rfl);omega
def PBound.push{J P d b:Int}{n:Nat}{e a:List Int}(h:PBound J P n e)(g:0<=J)(i:P<=d)(j:d<=P+J*12)(l:z6 n a+b=z6 n e)(m:0<b):PBound J d n a:=by refine⟨by have:=h.1;omega,?_⟩;have f:(J*12)*(1000-z6 n e+1)<=(J*12)*(1000-z6 n a):=ydc (by omega) (by omega);rw[Int.mul_add,Int.mul_one]at f;have:=h.2;omega
def xql{b:List AV}{n:Nat}{x:Bool}{a:Int}(d:0<=a)(e:a<=n)(h:b.length=n):eP prog fG (.aQ b n x) (some (I a)) none=some (.aQ (b.drop a.toNat) (n-a.toNat) x):=by obtain⟨i,f,g⟩:=dp;simp only[eP,dM,jZ,f,dI,Option.getD_some,Option.getD_none,g];rw[aH ⟨d,e,OE _,by omega⟩,oB,oB,show((n:Int)-a).toNat=n-a.toNat by omega,dU (by simp;omega)];simp
def QRep(w:Nat)(m:Mem)(a:AV)(q:List Int):Prop:=
 a=.aQ (q.flatMap intE) q.length true\/∃id d b e,w<=id.1/\a=.sref id d b q.length 1 true/\m.get id=some (.row e d false)/\e.drop b=q.flatMap intE/\b+q.length=e.length
def QRep.frame{w:Nat}{m m':Mem}{a:AV}{q:List Int}(h:QRep w m a q)(b:∀id:Id,w<=id.1->m'.get id=m.get id):QRep w m' a q:=by
 rcases h with h|⟨id,ver,off,cs,h1,h2,h3,h4⟩
 .exact Or.inl h
 .exact Or.inr ⟨id,ver,off,cs,h1,h2,by rw[b id h1];exact h3,h4⟩
def QRep.one{w:Nat}{m:Mem}{a:AV}{q:List Int}(h:QRep w m a q):a.cells=[a]/\a.one=true:=by rcases h with rfl|⟨id,ver,off,cs,h1,rfl,h3,h4⟩<;>exact⟨rfl,rfl⟩
def QRep.len{w:Nat}{m:Mem}{a:AV}{q:List Int}(h:QRep w m a q):aN prog fG a=some (I q.length):=by rcases h with rfl|⟨id,ver,off,cs,h1,rfl,h3,h4⟩<;>rfl
def QRep.head{w:Nat}{m:Mem}{a:AV}{x:Int}{q:List Int}(h:QRep w m a (x::q)):∃p,aT 1 a (I 0)=some p/\aA false 1 p m=some (I x):=by
 rcases h with rfl|⟨id,ver,off,cs,h1,rfl,h3,h4,h5⟩
 .refine⟨.aF ((x::q).flatMap intE),?_,rfl⟩;have:=(Sl.lit (x::q) true (enc:=intE)).ixI gE (k:=0) (by omega) (by simp);simpa using this
 .refine⟨.ptr id ver off,by simp[aT,dI],?_⟩;rw[jF,h3];simp only[sS,zQ,cond_true];rw[h4];rfl
def QRep.tail{w:Nat}{m:Mem}{a:AV}{x:Int}{q:List Int}(h:QRep w m a (x::q)):∃b,eP prog fG a (some (I 1)) none=some b/\QRep w m b q:=by
 rcases h with rfl|⟨id,ver,off,cs,h1,rfl,h3,h4,h5⟩
 .refine⟨.aQ (q.flatMap intE) q.length true,?_,Or.inl rfl⟩;rw[xql (by omega) (by rw[eI];omega) (D5 _)];rfl
 .refine⟨.sref id ver (off+1) q.length 1 true,?_,Or.inr ⟨id,ver,off+1,cs,h1,rfl,h3,?_,by simp at h5;omega⟩⟩
  .rw[xc0 (by omega) (by rw[eI];omega)];rfl
  .rw[<-xk6,h4];rfl
def QRep.app{w:Nat}{m:Mem}{a:AV}{q:List Int}(h:QRep w m a q)(l:q.length<=100000){id0:Id}(g:w<=id0.1)(x:Int) :
    ∃e d,(∀{R:Type} (k:AV->Mem->Option R),cX 1 8 id0 (some (intE x,1)) a m k=k e d)/\QRep w d e (q++[x])/\d.next=m.next/\∀id:Id,id.1<w->d.get id=m.get id:=by
 have b:∀k,k<=100001->cQ k 8:=λk n=>by unfold cQ;omega
 have f:=D5 q;rcases h with rfl|⟨id,ver,off,cs,h1,rfl,h3,h4,h5⟩
 .refine⟨.sref id0 0 0 (q.length+1) 1 true,m.new id0 (.row (q.flatMap intE++intE x) 0 false),λk=>?_,Or.inr ⟨id0,0,0,q.flatMap intE++intE x,g,by simp,by simp,by simp,by simp[f,intE]⟩,rfl,λj i=>?_⟩
  .simp only[cX];rw[aH (by omega),aD (by omega),aH (b _ (by omega)),oB,dU (by omega)]
  .rw[Mem.dP,aD (by rintro rfl;omega)]
 .refine⟨.sref id (ver+1) 0 (q.length+1) 1 true,m.set id (.row (q.flatMap intE++intE x) (ver+1) false),λk=>?_,Or.inr ⟨id,ver+1,0,q.flatMap intE++intE x,h1,by simp,by simp,by simp,by simp[f,intE]⟩,rfl,λj i=>?_⟩
  .simp only[cX,h3];rw[aH ⟨trivial,trivial,by omega,b _ (by omega)⟩,aD (by omega),aD (by omega),h4,dU (by omega)]
  .rw[Mem.cP,aD (by rintro rfl;omega)]
def QRep.tA{w:Nat}{m:Mem}{a:AV}{q:List Int}(h:QRep w m a q){b:Id}(d:w<=b.1):∃id,Go.Ix.tA b a=some [id]/\w<=id.1:=by
 rcases h with rfl|⟨id,ver,off,cs,h1,rfl,h3,h4,h5⟩
 .exact⟨b,rfl,d⟩
 .exact⟨id,rfl,h1⟩
def oX(g:Int)(s:List Int×List Int)(b:Int):List Int×List Int:=if at0 s.1 b.toNat<0 then(s.1.set b.toNat g,s.2++[b])else s
def kW(g:Int)(a:List Int)(s:List Int×List Int):List Int×List Int:=a.foldl (oX g) s
def F7(nb:Nat->List Int)(g:Int):Nat->List Int×List Int->List Int
 |0,s=>s.1
 |f+1,s=>match s.2 with
  |[]=>s.1
  |a::q=>F7 nb g f (kW g (nb a.toNat) (s.1,q))
def N0(nb:Nat->List Int)(s:List Int×Int)(r:Nat):List Int×Int:=if 0<=at0 s.1 r then s else(F7 nb s.2 NN (s.1.set r s.2,[(r:Int)]),s.2+1)
def bj(n:Nat)(nb:Nat->List Int):List Int×Int:=(List.range n).foldl (N0 nb) (List.replicate n (-1),0)
def rL:List Int->Nat
 |[]=>0
 |x::r=>(if x<0 then 1 else 0)+rL r
def xe5:∀{l:List Int} {k:Nat} {g:Int},k<l.length->at0 l k<0->0<=g->rL (l.set k g)+1=rL l
 |[],k,g,h,_,_=>by simp at h
 |x::r,0,g,h,a,b=>by have a:x<0:=a;have:¬g<0:=(by omega);simp[rL,a,this];omega
 |x::r,k+1,g,h,a,b=>by have:=xe5 (l:=r) (k:=k) (g:=g) (by simpa using h) a b;simp only[NQ,rL];omega
def xe6:∀l:List Int,rL l<=l.length
 |[]=>bT _
 |x::r=>by have:=xe6 r;simp only[rL,eI];split<;>omega
structure StOK (n:Nat) (s:List Int×List Int):Prop where
 l:s.1.length=n
 q:∀a∈s.2,0<=a/\a<n
def ycn{n:Nat}{g b:Int}{s:List Int×List Int}(h:StOK n s)(e:0<=g)(f:0<=b)(i:b<n):StOK n (oX g s b)/\rL (oX g s b).1+(oX g s b).2.length=rL s.1+s.2.length:=by
 unfold oX;by_cases c:at0 s.1 b.toNat<0
 .rw[aH c];refine⟨⟨by simp[h.l],λa d=>?_⟩,?_⟩
  .rcases jC.mp d with d|d
   .exact h.q a d
   .rw[kQ]at d;subst d;exact⟨f,i⟩
  .have:=xe5 (l:=s.1) (k:=b.toNat) (g:=g) (by rw[h.l];omega) c e;simp only[jL,HC];omega
 .rw[aD c];exact⟨h,rfl⟩
def ez{n:Nat}{g:Int}(d:0<=g):∀(a:List Int) (s:List Int×List Int),StOK n s->(∀b∈a,0<=b/\b<n)->StOK n (kW g a s)/\rL (kW g a s).1+(kW g a s).2.length=rL s.1+s.2.length
 |[],s,h,_=>⟨h,rfl⟩
 |b::a,s,h,e=>by obtain⟨i,j⟩:=e b (eO ..);obtain⟨l,m⟩:=ycn h d i j;obtain⟨o,p⟩:=ez d a (oX g s b) l (λx f=>e x (eA _ f));exact⟨o,p.trans m⟩
def A8(l:List Edge)(a:Int):List Int:=l.flatMap λe=>if 0<e.wt then(if e.fr=a then[e.to]else if e.to=a then[e.fr]else[])else[]
def xzr{n:Nat}{l:List Edge}(f:∀e∈l,EdgeIn n e/\e.fr≠e.to){a b:Int}(h:b∈A8 l a):0<=b/\b<n:=by
 unfold A8 at h;obtain⟨e,g,d⟩:=lS.mp h;obtain⟨⟨i,j,m,o,-⟩,-⟩:=f e g;split at d
 .split at d
  .rw[kQ]at d;omega
  .split at d
   .rw[kQ]at d;omega
   .simp at d
 .simp at d
def okjd(u Y:Nat)(id:Id):Prop:=id.1=u/\(id.2.2=35\/id.2.2=44)/\id.2.1<Y
structure AtJ (u fc:Nat) (cells:List AV) (adj:Nat->List Int) (m:Mem):Prop where
 sh:∃ids:Nat->Id,(∀(v:Nat) (hv:v<cells.length),(cells[v]=nilS/\adj v=[])\/(∃ver,cells[v]=.sref (ids v) ver 0 (adj v).length 1 true/\m.get (ids v)=some (.row ((adj v).flatMap intE) ver false)/\okjd u fc (ids v)/\adj v≠[])) /\
  ∀v w,v<cells.length->w<cells.length->adj v≠[]->adj w≠[]->v≠w->ids v≠ids w
def AtJ.frame{u Y e:Nat}{cells:List AV}{f:Nat->List Int}{m m':Mem}(h:AtJ u Y cells f m)(i:∀id,okjd u Y id->m'.get id=m.get id)(j:Y<=e):AtJ u e cells f m':=by
 obtain⟨g,n,o⟩:=h.sh;refine⟨g,λv l=>?_,o⟩;rcases n v l with h|⟨ver,a,b,c,d⟩
 .exact Or.inl h
 .exact Or.inr ⟨ver,a,by rw[i _ c];exact b,⟨c.1,c.2.1,by have:=c.2.2;omega⟩,d⟩
def AtJ.app{u Y y:Nat}{cells:List AV}{i:Nat->List Int}{m:Mem}(h:AtJ u Y cells i m){v:Nat}(W:v<cells.length)(x:Int){id0:Id}(M:id0.1=u)(N:id0.2.2=35\/id0.2.2=44)(h3:Y<=id0.2.1)(X:id0.2.1<y)(hr:(i v).length<=100000) :
    ∃F K idA,(∀{R:Type} (k:AV->Mem->Option R),cX 1 8 id0 (some (intE x,1)) cells[v] m k=k F K)/\AtJ u y (cells.set v F) (λw=>if w=v then i v++[x]else i w) K/\F.cells=[F]/\F.one=true/\K.next=m.next/\(∀j:Id,¬okjd u y j->K.get j=m.get j) /\
     tA id0 cells[v]=some [idA]/\(idA.2.2=35\/idA.2.2=44)/\idA.1=u:=by
 obtain⟨n,Z,P⟩:=h.sh;have H:∀k,k<=100001->cQ k 8:=λk hk=>by unfold cQ;omega
 have g:∀(w:Nat) (p:w<cells.length),((cells[w]=nilS/\i w=[])\/(∃l,cells[w]=.sref (n w) l 0 (i w).length 1 true/\m.get (n w)=some (.row ((i w).flatMap intE) l false)/\okjd u Y (n w)/\i w≠[])):=Z;rcases Z v W with ⟨J,L⟩|⟨l,J,L,t,Q⟩
 ·
  refine⟨.sref id0 0 0 1 1 true,m.new id0 (.row (intE x) 0 false),id0,λk=>?_,⟨λw=>if w=v then id0 else n w,λw p=>?_,λw A p r D E C=>?_⟩,rfl,rfl,rfl,λj O=>?_,by rw[J];rfl,N,M⟩
  .rw[J];simp only[cX];rw[aD (by omega),aH (H 1 (by omega))]
  .simp only[mN]at p;by_cases f:w=v
   .subst f;right;refine⟨0,?_,?_,?_,by simp⟩
    .simp[L]
    .simp[L]
    .simp only[bV];exact⟨M,N,X⟩
   .rw[NT (λe=>f e.symm)];simp only[aD f];rcases g w p with h|⟨l,a,b,c,d⟩
    .exact Or.inl h
    .refine Or.inr ⟨l,a,?_,⟨c.1,c.2.1,by have:=c.2.2;omega⟩,d⟩;rw[Mem.dP,aD (by rintro e;rw[e]at c;have:=c.2.2;omega)];exact b
  .simp only[mN]at p r;by_cases f:w=v
   .have o:A≠v:=(by omega);simp only[aH f,aD o];simp only[aD o]at E;rcases g A r with ⟨_,h⟩|⟨_,_,_,c,_⟩
    .exact absurd h E
    .intro e;rw[<-e]at c;have:=c.2.2;omega
   .by_cases o:A=v
    .simp only[aD f,aH o];simp only[aD f]at D;rcases g w p with ⟨_,h⟩|⟨_,_,_,c,_⟩
     .exact absurd h D
     .intro e;rw[e]at c;have:=c.2.2;omega
    .simp only[aD f,aD o]at D E ⊢;exact P w A p r D E C
  .rw[Mem.dP,aD (by rintro rfl;exact O ⟨M,N,X⟩)]
 .have hl:=D5 (i v);refine⟨.sref (n v) (l+1) 0 ((i v).length+1) 1 true,m.set (n v) (.row ((i v).flatMap intE++intE x) (l+1) false),n v,λk=>?_,⟨n,λw p=>?_,λw A p r D E C=>?_⟩,rfl,rfl,rfl,λj O=>?_,by rw[J];rfl,t.2.1,t.1⟩
  .rw[J];simp only[cX,L];rw[aH ⟨trivial,trivial,by omega,H _ (by omega)⟩,aD (by omega),aD (by omega),bA,dU (by omega)]
  .simp only[mN]at p;by_cases f:w=v
   .subst f;right;refine⟨l+1,by simp,by simp,⟨t.1,t.2.1,by have:=t.2.2;omega⟩,by simp⟩
   .rw[NT (λe=>f e.symm)];simp only[aD f];rcases g w p with h|⟨ver',a,b,c,d⟩
    .exact Or.inl h
    .refine Or.inr ⟨ver',a,?_,⟨c.1,c.2.1,by have:=c.2.2;omega⟩,d⟩;rw[Mem.cP,aD (P w v p W d Q f)];exact b
  .simp only[mN]at p r;refine P w A p r ?_ ?_ C
   .by_cases f:w=v
    .subst f;exact Q
    .simpa[f]using D
   .by_cases f:A=v
    .subst f;exact Q
    .simpa[f]using E
  .rw[Mem.cP,aD (by rintro rfl;exact O ⟨t.1,t.2.1,by have:=t.2.2;omega⟩)]
def Gk.lenP{ok:Id->Prop}{m:Mem}{a:AV}{l:List Int}(h:Gk 1 intE ok m a l):aN prog fG a=some (I l.length):=by
 rcases h with ⟨rfl,rfl⟩|⟨id,b,d,rfl,e⟩
 .exact FT jZ
 .rfl
def PartC(n:Nat)(l:List Edge)(m:Mem):Prop:=m.get (0,6,3)=some (.row [srI (0,5,9) n] 0 false)/\∃cells,m.get (0,5,9)=some (.row cells 0 false)/\cells.length=n/\∀(v:Nat) (a:v<cells.length),Gk 1 intE (λid=>id.1=0) m cells[v] (A8 l v)
def PartC.frame{n:Nat}{l:List Edge}{m m':Mem}(h:PartC n l m)(a:∀id:Id,id.1<1->m'.get id=m.get id):PartC n l m':=by obtain⟨e,cells,f,g,i⟩:=h;exact⟨by rw[a _ (by simp)];exact e,cells,by rw[a _ (by simp)];exact f,g,λv b=>(i v b).frame λid d=>a id (by omega)⟩
def z8(n:Nat)(l:List Edge):List Int:=(bj n (λa=>A8 l a)).1
def xoo(d:Nat){n:Int}(a:-9223372036854775808<=n)(b:n<=9223372036854775807)(m:Mem):aI (aG (d+1)) DH [I n] m=some (Tx (mX n),m):=by
 refine Ans.gG (m:=m) ?_ rfl rfl;have h:aG (d+1) [] DH [I n] mem0=(sE 1 [I n]).map λv=>(v,mem0):=by kernel_rfl
 unfold Ans;have e:sE 1 [I n]=if -9223372036854775808<=n/\n<=9223372036854775807 then some (.sc (.string ⟨(mX n).toArray⟩))else none:=rfl
 rw[h,e,aH ⟨a,b⟩];exact⟨_,rfl⟩
def xo7(d:Nat){l:List UInt8}(e:l.length<=1000000)(m:Mem) :
    (∃v,Lib.atoiAll l=.ok v/\aI (aG (d+1)) O1 [Tx l] m=some (.tup [I v,.sc .nilIface],m))\/((∀v,Lib.atoiAll l≠.ok v)/\∃x:Int,aI (aG (d+1)) O1 [Tx l] m=some (.tup [I x,.un xB],m)):=by
 have h:aG (d+1) [] O1 [Tx l] mem0=(sE 2 [Tx l]).map λv=>(v,mem0):=by kernel_rfl
 have a:sE 2 [Tx l]=match Lib.atoiAll l with
  | .ok v=>some (.tup [.sc (.int .i64 v),.sc .nilIface])
  | .range=>some (.tup [.sc (.int .i64 (Lib.atoiSat l)),.un xB])
  |_=>some (.tup [.sc (.int .i64 0),.un xB]):=by
  have f:sE 2 [Tx l]=if(⟨l.toArray⟩:ByteArray).size<=1000000 then(match Lib.atoiAll l with
   | .ok v=>some (.tup [.sc (.int .i64 v),.sc .nilIface])
   | .range=>some (.tup [.sc (.int .i64 (Lib.atoiSat l)),.un xB])
   |_=>some (.tup [.sc (.int .i64 0),.un xB]))else none:=rfl
  rw[f,aH (by rw[BY];exact e)]
 cases b:Lib.atoiAll l with
 |ok v=>rw[b]at a;rw[a]at h;exact .inl ⟨v,rfl,tO rfl h rfl⟩
 |range=>rw[b]at a;rw[a]at h;exact .inr ⟨(λv h=>by cases h),_,tO rfl h rfl⟩
 |_=>rw[b]at a;rw[a]at h;exact .inr ⟨(λv h=>by cases h),_,tO rfl h rfl⟩
def OkR.run{P:Program}{α:Type}{R:α->Prop}{a:α}(d:R a):∀{s:Sem α},bY P s=some a->OkR P s R
 | .pure b,h=>by simp only[bY,bS]at h;exact OkR.pure (by rw[h];exact d)
 | .program k,h=>OkR.run d (s:=k P) h
 | .mark _ k,h=>OkR.run d (s:=k) h
 | .choose ..,h=>by simp[bY]at h
 | .load ..,h=>by simp[bY]at h
 | .store ..,h=>by simp[bY]at h
 | .new ..,h=>by simp[bY]at h
 | .shape ..,h=>by simp[bY]at h
 | .freeze ..,h=>by simp[bY]at h
 | .halt ..,h=>by simp[bY]at h
def iO(d:Nat):List (List UInt8)->Option (List Int)
 |[]=>some []
 |w::r=>match mS w d,iO d r with
  |some n,some l=>some (n::l)
  |_,_=>none
def MS(c:UInt8):∀l:List UInt8,(cT c l).length<=l.length+1
 |[]=>by simp[cT]
 |x::l=>by
  have a:=MS c l;unfold cT;split
  .simp;omega
  .split<;>simp_all<;>omega
def xim(c:UInt8):∀(l:List UInt8) (w:List UInt8),w∈cT c l->w.length<=l.length
 |[],w,h=>by simp[cT]at h;rw[h];exact bT _
 |x::l,w,h=>by
  have a:=xim c l;unfold cT at h;split at h
  .rcases eD.1 h with rfl|h
   .simp
   .have:=a w h;simp;omega
  .split at h
   .rename_i b;exact absurd b (MR c l)
   .rename_i y r b;rw[b]at a;rcases eD.1 h with rfl|h
    .have:=a y (eO ..);simp;omega
    .have:=a w (eA _ h);simp;omega
def fq(c:UInt8):∀l:List UInt8,(cT c l).length=l.count c+1
 |[]=>rfl
 |x::l=>by
  have b:=fq c l;by_cases h:x=c
  .subst h;rw[show x::l=[]++x::l from rfl,ft l (by simp),eI,b];simp
  .rw[List.count_cons_of_ne (by simpa using h),<-b];have d:cT c (x::l)=(match cT c l with|[]=>[[x]]|h::t=>(x::h)::t):=(by rw[cT,aD h];first|done|rfl);rw[d];cases e:cT c l with
   |nil=>exact absurd e (MR c l)
   |cons a r=>rfl
def xxt(s:ByteArray)(c:Int):bY prog (callFunc yT #[.string s,.int .u8 c])=some (.value (.int .i64 (Lib.countByte s.data.toList c.toNat.toUInt8))):=by have b:bY prog (callFunc yT #[.string s,.int .u8 c])=bY prog (do let v <-Extern.BytealgCount.count #[.string s,.int .u8 c];pure (Next.value v)):=(by kernel_rfl);rw[b];have a:=Lib.count_foldl c.toNat.toUInt8 s.data.toList 0;rw[<-Lib.foldl_data]at a;show some (Next.value (Value.int .i64 (s.foldl (λ(n:Int) x=>if x == c.toNat.toUInt8 then n+1 else n) 0)))=_;rw[a,HK]
def xox(d:Nat)(l:List UInt8)(c:UInt8)(m:Mem):aI (aG (d+1)) yT [Tx l,U8 c.toNat] m=some (I (l.count c),m):=by
 refine Ans.gG (m:=m) ?_ rfl rfl;unfold Ans;have a:aG (d+1) [] yT [Tx l,U8 c.toNat] mem0=(w9 prog yT [Tx l,U8 c.toNat]).map λv=>(v,mem0):=by kernel_rfl
 have b:V7 prog yT [Tx l,U8 c.toNat]=some (I (Lib.countByte l c)):=by
  unfold V7
  show(match bY prog (callFunc yT #[.string ⟨l.toArray⟩,.int .u8 c.toNat])with
   |some (.value u)=>some (fO u)
   |_=>none)=_
  rw[xxt];have:((c.toNat:Int)).toNat.toUInt8=c:=(by rw[gA];exact UInt8.ofNat_toNat);rw[this];rfl
 rw[a];unfold w9;rw[b];exact⟨mem0,rfl⟩
def xoy(d:Nat)(l:List UInt8)(c:UInt8)(m:Mem):aI (aG (d+2)) DG [Tx l,Tx [c]] m=some (I (l.count c),m):=by refine Ans.gG (m:=m) ?_ rfl rfl;unfold Ans;rw[x69];unfold kp PL;have a:fL (Tx [c])=some (I 1):=nD [c];have b:kK prog cF (Tx [c]) (I 0)=some (U8 c.toNat):=YQ (l:=[c]) (k:=0) (by simp);simp only[mem0,a,aE,fV,show decide ((1:Int)=0)=false from rfl,aS,b,xox];exact⟨_,rfl⟩
def xmh(x:AV)(n:Nat):eV [x] n=List.replicate n x:=by
 refine HH (by simp[eV]) λi a b=>?_
 simp[eV,Nat.mod_one]
def xmr:lW=[Tx []]:=by kernel_rfl
def xq3{α:Type}{a:List α}{x y:α}{b:List α}:(a++x::b).take a.length++([y]++(a++x::b).drop (a.length+1))=(a++[y])++b:=by rw[<-sB,List.take_left,show a.length+1=(a++[x]).length by simp,show a++x::b=(a++[x])++b by simp,List.drop_left]
def KD(l:List (List UInt8)):(l.flatMap dA).length=l.length:=by have:=iE nG l;omega
def xsc(n:Nat):(List.replicate n (Tx [])).length=n:=List.length_replicate
def x2d(d:Nat){c:UInt8}{s:List UInt8}(Z:s.length<=100000){id:Id}(u:Nat):∀(n j:Nat) (r:List UInt8) (dn:List (List UInt8)) (m:Mem) (Y:Nat),r.length<n->n<=j->r.length<=s.length->cT c s=dn++cT c r ->
    m.get id=some (.row (dn.flatMap dA++List.replicate (cT c r).length (Tx [])) 0 false) ->
    ∃f,Y0 (aG (d+4)) [] u j (Tx r) (Tx [c]) (I 0) (I ((cT c s).length-1:Nat)) (.sref id 0 0 (cT c s).length 1 true) (I dn.length) m Y=some (.sref id 0 0 (cT c s).length 1 true,f)/\f.get id=some (.row ((cT c s).flatMap dA) 0 false):=by
 intro n;have W:=MS c s;induction n with
 |zero=>intro j r dn m Y t;omega
 |succ n ih=>
  intro j r dn m Y t hj hr A Q;obtain⟨j,rfl⟩:∃k,j=k+1:=⟨j-1,by omega⟩;have M:(cT c s).length=dn.length+(cT c r).length:=(by rw[A,jL]);have X:0<(cT c r).length:=xk0.mpr (MR c r);have h:aT 1 (.sref id 0 0 (cT c s).length 1 true) (I dn.length)=some (.ptr id 0 dn.length):=(by simp only[aT,dI];rw[aH ⟨by omega,by omega,trivial⟩];simp);have g:(cT c r).length=1->c∉r:=λe=>by rw[fq]at e;exact List.count_eq_zero.mp (by omega)
  have l:∀(x:List UInt8) {R:Type} (K:Mem->Option R),aZ 1 (.ptr id 0 dn.length) (Tx x) m K=K (m.set id (.row ((dn++[x]).flatMap dA++List.replicate ((cT c r).length-1) (Tx [])) 0 false)):=λx R K=>by rw[mA (z:=1) (x:=Tx x) Q rfl (by rw[jL,KD,xsc];omega) rfl];congr 2;obtain⟨q,hq⟩:∃q,(cT c r).length=q+1:=⟨(cT c r).length-1,by omega⟩;rw[hq,xkr,xkn];have:=xq3 (a:=dn.flatMap dA) (x:=Tx []) (y:=Tx x) (b:=List.replicate q (Tx []));rw[KD]at this;unfold cR;rw[show(Tx x).cells=[Tx x]from rfl,HC,this];congr 2;simp[dA]
  have fin:(cT c r).length=1->∃f,J5 (aG (d+4)) [] u (Tx r) (.sref id 0 0 (cT c s).length 1 true) (I dn.length) m Y=some (.sref id 0 0 (cT c s).length 1 true,f)/\f.get id=some (.row ((cT c s).flatMap dA) 0 false):=λe=>by unfold J5;have C:bM ((dn.length:Int)+1)=((cT c s).length:Int):=(by rw[bJ];omega);have D:eP prog gR (.sref id 0 0 (cT c s).length 1 true) none (some (I (cT c s).length))=some (.sref id 0 0 (cT c s).length 1 true):=(by have N:∃i,prog.info? cF=some i/\i.size=1:=(by have e:(prog.info? cF).map (λi=>i.size)=some 1:=(by kernel_rfl);rw[cH]at e;exact e);obtain⟨ii,J,L⟩:=N;simp[eP,dM,xb1,J,L,dI]);simp only[h,aE,l,dJ,C,D];refine⟨_,rfl,?_⟩;rw[Mem.cP,aH rfl,e,A,fp (g e)];simp
  simp only[Y0];unfold tw;simp only[bQ,aE];by_cases e:(cT c r).length=1
  .have:¬((dn.length:Int)<((cT c s).length-1:Nat)):=(by omega);simp only[this,bK,aS];obtain⟨f,e1,e2⟩:=fin e;have E:∀w,J5 (aG (d+4)) [] u (Tx r) (.sref id 0 0 (cT c s).length 1 true) (I dn.length) m w=J5 (aG (d+4)) [] u (Tx r) (.sref id 0 0 (cT c s).length 1 true) (I dn.length) m Y:=λ_=>rfl
   exact⟨f,by rw[E,e1],e2⟩
  .have F:(dn.length:Int)<((cT c s).length-1:Nat):=(by omega);have o:c∈r:=by
    refine Classical.byContradiction λt=>e ?_
    rw[fp t];rfl
   simp only[F,bC,aR,xbn,aE];rcases FY c r with ⟨O,P⟩|⟨i,O,P,q3,q4⟩
   .exact absurd o P
   .rw[O];have N:¬((i:Int)<0):=(by omega);have p:cT c r=r.take i::cT c (r.drop (i+1)):=by
     conv=>lhs;rw[<-G7 i r,q4]
     exact ft _ q3
    have C:bM ((i:Int)+0)=(i:Int):=(by rw[bJ];omega);have w2:=gH i (by omega);have w3:bM ((dn.length:Int)+1)=((dn.length+1:Nat):Int):=(by rw[bJ];omega);have H:fL (Tx [c])=some (I 1):=nD [c];simp only[aE,dJ,C,JN (show i<=r.length by omega),h,l,H,w2,YP (show i+1<=r.length by omega),w3]
    have:=ih j (r.drop (i+1)) (dn++[r.take i]) (m.set id (.row ((dn++[r.take i]).flatMap dA++List.replicate ((cT c r).length-1) (Tx [])) 0 false)) (Y+28) (by simp;omega) (by omega) (by simp;omega) (by rw[A,p];simp) (by
     rw[Mem.cP,aH rfl,p];simp)
    rw[jL,HC]at this;exact this
def ycw(d:Nat){c:UInt8}{s:List UInt8}(Z:s.length<=100000):RetF (λv=>v=.aQ ((cT c s).flatMap dA) (cT c s).length false) (aG (d+5) [] DE [Tx s,Tx [c],I 0,I (-1)] mem0):=by
 rw[x63];unfold kf PD;have e:=MS c s;have g:=fq c s;have h:=xk0.mpr (MR c s);have i:s.count c<=s.length:=List.count_le_length;have j:bM (((s.count c:Nat):Int)+1)=((cT c s).length:Int):=(by rw[bJ];omega);have l:bM ((s.length:Int)+1)=((s.length+1:Nat):Int):=(by rw[bJ];omega);have o:bM (((cT c s).length:Int)-1)=(((cT c s).length-1:Nat):Int):=(by rw[bJ];omega);have a:vV (I (cT c s).length) (I (s.length+1:Nat))=some (I (cT c s).length):=(by show some (I (if((s.length+1:Nat):Int)<((cT c s).length:Int)then _ else _))=_;rw[aD (by omega)]);simp only[mem0,fV,show decide ((-1:Int)=0)=false from rfl,aE,aS];rw[show(AV.sc (.string ⟨#[]⟩))=Tx []from rfl,pI];simp only[show decide ([c]=([]:List UInt8))=false from by simp,aE,aS];unfold tn;simp only[bQ,show decide ((-1:Int)<0)=true from rfl,aE,aR,xoy,dJ,j];unfold PE;simp only[nD,aE,dJ,l,a,mQ,o];have b:∀(id:Id) {R:Type} (m:Mem) (K:AV->Mem->Option R),sJ lW 1 16 (I (cT c s).length) (I (cT c s).length) id m K=K (.sref id 0 0 (cT c s).length 1 true) (m.new id (.row (List.replicate (cT c s).length (Tx [])) 0 false)):=λid R m K=>by simp only[sJ,dI];rw[aH ⟨by omega,by omega,by omega,by omega⟩,xmr,gA,oB];congr 2;rw[xmh]
 rw[b];obtain⟨t,p,u⟩:=x2d d Z (id:=(0,0+5+7+7,31)) 0 (s.length+1) NN s [] ((⟨[],0+1⟩:Mem).new (0,0+5+7+7,31) (.row (List.replicate (cT c s).length (Tx [])) 0 false)) (0+5+7+13) (by omega) (by rw[cU];omega) (bT _) rfl (by rw[Mem.dP,aH rfl];rfl);have e1':Y0 (aG (d+4)) [] 0 NN (Tx s) (Tx [c]) (I 0) (I ((cT c s).length-1:Nat)) (.sref (0,0+5+7+7,31) 0 0 (cT c s).length 1 true) (I 0) ((⟨[],0+1⟩:Mem).new (0,0+5+7+7,31) (.row (List.replicate (cT c s).length (Tx [])) 0 false)) (0+5+7+13)=_:=p;rw[e1'];refine RetF.mk ?_ rfl;have r:=KD (cT c s)
 have:=vB (aC:=t.get) (id:=(0,0+5+7+7,31)) (cs:=(cT c s).flatMap dA) (ver:=0) (off:=0) (n:=(cT c s).length) (z:=1) (k:=4) (f:=false) (x:=true) u (by omega) (by
  rw[bA,dU (by omega)];exact rW xp8 _)
 rw[bA,dU (by omega)]at this;exact this
def xoh(d:Nat)(c:UInt8){s:List UInt8}(Z:s.length<=100000)(m:Mem):aI (aG (d+6)) N8 [Tx s,Tx [c]] m=some (.aQ ((cT c s).flatMap dA) (cT c s).length false,m):=by
 refine dT rfl ?_ m;rw[x65];unfold ki PG;have h:=λm=>dT rfl (ycw d (c:=c) Z) m
 simp only[mem0,h,aE];refine RetF.st ?_ rfl;simp[bG]
def uA(d:Nat)(a b c:Int)(m:Mem):aI (aG (d+1)) rM [I a,I b,I c] m=some (B (wi a b c),m):=by refine gG rfl (m':=⟨[],1⟩) ?_ rfl;rw[x89];unfold pk UB wi;by_cases h:b<=a<;>by_cases e:a<=c<;>simp[h,e,mem0]
def JS(d:Nat)(b:Bool)(m:Mem):aI (aG (d+1)) pS [B b] m=some (I (bif b then 0 else 2),m):=by refine gG rfl (m':=⟨[],1⟩) ?_ rfl;rw[x9d];cases b<;>rfl
def x18(f:aK)(Z:FHs)(u:Nat){s:ByteArray}{a:AV}(h:Sl qU a s.data.toList)(P:s.size<=1000):∀(d:List UInt8) (k j:Nat) (m:Mem) (Y:Nat),s.data.toList.drop k=d->d.length<j ->
    I5 f Z u j (T s) a (I s.data.toList.length) (I k) m Y=some (B (nJ k d&&(decide (0<s.size)&&decide (s.size<=12))),m):=by
 intro d;have H:s.data.toList.length=s.size:=rfl;have J:eS s ⟨#[]⟩=decide (s.size=0):=by
  unfold eS;rw[ByteArray.toList_eq,ByteArray.toList_eq];cases Z:s.data.toList with
  |nil=>have:s.size=0:=(by show s.data.size=0;rw[<-sC,Z];rfl);simp[this]
  |cons x r=>have:s.size=r.length+1:=(by show s.data.size=_;rw[<-sC,Z];rfl);simp[this]
 have o (x y:Operand) (a b:ByteArray):cO prog .neq cF x y (T a) (T b)=some (B (!eS a b)):=(by kernel_rfl);induction d with
 |nil=>
  intro k j m Y g i;obtain⟨j,rfl⟩:=dF i;have l:¬((k:Int)<(s.data.toList.length:Int)):=(by have:=gX.mp g;omega);simp only[I5];unfold UR ya;simp only[bQ,l,bK,aS,aE,o,J];by_cases p:s.size=0
  .simp[p,nJ]
  .simp[p,nJ,show 0<s.size by omega];try omega
 |cons e r O=>
  intro k j m Y g i;obtain⟨j,rfl⟩:=dF i;obtain⟨l,N,g⟩:=gK g;have hk':(k:Int)<(s.data.toList.length:Int):=(by omega);have ix:=h.ix ZH l;have ld:=xga (m:=m) l;have next:∀Y,I5 f Z u j (T s) a (I s.size) (I (bM ((k:Int)+1))) m Y=some (B (nJ (k+1) r&&(decide (0<s.size)&&decide (s.size<=12))),m):=λY=>by rw[bJ];exact O (k+1) j m Y g (by simp at i;omega)
  rw[N]at ld;have K:decide ((k:Int)=0)=!decide (0<k):=(by by_cases h:0<k<;>simp[h]<;>omega);simp only[I5];unfold UR;simp only[bQ,hk',bC,aR,aE,ix,ld,u5];simp only[nJ,MU];generalize (e.toNat:Int)=c;have L:decide (c<48)=!decide (48<=c):=(by by_cases h:48<=c<;>simp[h]<;>omega);have M:decide (57<c)=!decide (c<=57):=(by by_cases h:c<=57<;>simp[h]<;>omega);by_cases t:97<=c<;>by_cases w:c<=122<;>by_cases A:65<=c<;>by_cases C:c<=90<;>by_cases D:48<=c<;>by_cases E:c<=57<;>by_cases F:c=45 <;>
   first
   |(exfalso;omega)
   |(by_cases n:k=0
     .simp[t,w,A,C,D,E,F,n,u5,KA]
      try (rw[n]at next;exact next _)
     .simp[t,w,A,C,D,E,F,n,show 0<k by omega,u5,KA,xb5,xb6,xb7,L,M,next])
def xn1(d:Nat)(s:ByteArray)(m:Mem)(g:s.size<=1000):aI (aG (d+1)) EQ [T s] m=some (B (nmOK s),m):=by
 refine gG rfl (m':=⟨[],1⟩) ?_ rfl;rw[x9m];have f:aN prog xS (.aQ (s.data.toList.flatMap qU) s.data.toList.length false)=some (I s.data.toList.length):=(Sl.lit (enc:=qU) s.data.toList false).len ZF;have h:s.data.toList.length=s.size:=rfl;have i:=λY=>x18 (aG d) [] 0 (Sl.lit (enc:=qU) s.data.toList false) g s.data.toList 0 NN ⟨[],1⟩ Y rfl (by rw[cU];omega)
 unfold qd UQ xz nmOK;simp only[xik,f,aE,mem0];have e:∀a b c:Bool,(c&&(a&&b))=(a&&b&&c):=(by decide);rw[<-e];exact i _
def iI(s:ByteArray)(l:List ByteArray):Int:=bif !nmOK s then 4 else bif l.any (λy=>eS y s)then 5 else 0
def x15(b:aK)(u:Nat){s:ByteArray}{n:AV}{l:List ByteArray}(D:l.length<=1000)(t:∀(k:Nat) (h:k<l.length) (m:Mem),∃d,fI b [] 2 n [I k] m=some (T l[k],d)):∀(a:List ByteArray) (k j:Nat) (m:Mem) (Y:Nat),l.drop k=a->a.length<j ->
    ∃d,AB b [] u j (T s) n (I l.length) (I k) m Y=some (I (bif a.any (λy=>eS y s)then 5 else 0),d):=by
 intro a;induction a with
 |nil=>intro k j m Y f g;obtain⟨j,rfl⟩:=dF g;have i:¬((k:Int)<(l.length:Int)):=(by have:=gX.mp f;omega);simp only[AB];unfold UM xy;simp[i]
 |cons e r C=>
  intro k j m Y f g;obtain⟨j,rfl⟩:=dF g;obtain⟨i,w,f⟩:=gK f;have hk':(k:Int)<(l.length:Int):=(by omega);obtain⟨x,o⟩:=t k i m;rw[w]at o;simp only[AB];unfold UM;simp only[bQ,hk',bC,aR,aE,o,sF];cases p:eS e s with
  |true=>simp[p]
  |false=>obtain⟨d,A⟩:=C (k+1) j x (Y+10) f (by simp at g;omega);refine⟨d,?_⟩;simp only[aS,dJ,aE];rw[bJ];simp only[H3,p,J4];exact A
def xj8(d:Nat){s:ByteArray}{fv:AV}{l:List ByteArray}(Z:s.size<=1000)(b:l.length<=1000)(e:∀(k:Nat) (h:k<l.length) (m:Mem),∃a,fI (aG (d+1)) [] 2 fv [I k] m=some (T l[k],a)):∃a,aG (d+2) [] rO [T s,fv,I l.length] mem0=some (I (iI s l),a):=by
 rw[x9i];unfold pz UL iI;simp only[xn1 d s _ Z,aE];cases g:nmOK s with
 |false=>simp
 |true=>obtain⟨a,f⟩:=x15 (aG (d+1)) 0 (s:=s) b e l 0 NN ⟨[],1⟩ 6 rfl (by rw[cU];omega);refine⟨a,?_⟩;simp only[fA,aE,cC,aS,cS];unfold xx;exact f
end Go.Ix
namespace Go.Ix
open Go.Proofs
variable{P:Program}
def uN{α β:Type}(f:α->Sem β):∀s:Sem α,bY P (s >>= f)=(bY P s).bind λa=>bY P (f a):=by
 intro s;show bY P (Sem.bind s f)=_;induction s with
 |pure a=>rfl
 |program k b=>exact b P
 |mark x k b=>exact b
 |_=>rfl
theorem CX{α:Type}(a:α):bY P (pure a:Sem α)=some a:=rfl
theorem xef:bY P program=some P:=rfl
def bc{t:TypeId}{d:TypeDesc}(h:P.underlying t=some d):bY P (underlying t)=some d:=by simp only[underlying,uN,xef,aE,h];rfl
def xxs(d:Nat)(t:TypeId)(e g:Array Value)(h:P.underlying t=some (.struct (P.fieldsOf t)))(l:P.stoodInHeld t=false) :
    bY P (Op.equalIn (d+1) t (.agg e) (.agg g))=bY P (Op.eqFields d e g (P.fieldsOf t).toList):=by
 simp only[Op.equalIn,uN,bc h,aE,xef,l,fE,cJ];rw[<-Array.forIn_toList];generalize (P.fieldsOf t).toList=i;clear h;induction i with
 |nil=>simp[Op.eqFields,CX]
 |cons f i j=>
  simp only[List.forIn_cons,Op.eqFields,uN];split
  .simp only[uN];generalize bY P (part f.type e f.offset)=r1;cases r1 with
   |none=>rfl
   |some a=>
    generalize m:bY P (part f.type g f.offset)=r2;cases r2 with
    |none=>simp
    |some b=>
     simp only[aE];generalize bY P (Op.equalIn d f.type a b)=r3;cases r3 with
     |none=>rfl
     |some r=>
      cases r
      .rfl
      .exact j
  .exact j
def LD(d:Nat)(t:TypeId)(k e:IntKind)(a b:Int)(h:P.underlying t=some (.int e)):bY P (Op.equalIn (d+1) t (.int k a) (.int k b))=some (a == b):=by simp[Op.equalIn,uN,bc h,CX]
def JZ:prog.underlying eE=some (.int .i64):=by kernel_rfl
def xif(d:Nat)(i j:Array Value)(b e:Nat->Int):∀a:List Field,(∀f∈a,f.name≠"_"/\f.type=eE/\bY prog (part eE i f.offset)=some (.int .i64 (b f.offset))/\bY prog (part eE j f.offset)=some (.int .i64 (e f.offset))) ->
    bY prog (Op.eqFields (d+1) i j a)=some (a.all λf=>b f.offset == e f.offset)
 |[],_=>rfl
 |f::a,h=>by
  obtain⟨n,o,p,r⟩:=h f (eO ..);have m:=xif d i j b e a λg l=>h g (eA _ l)
  simp only[Op.eqFields,n,ne_eq,not_false_eq_true,bV,o,uN,p,r,aE,LD _ _ _ _ _ _ JZ,dQ];cases b f.offset == e f.offset
  .rfl
  .exact m
def x5h{t:TypeId}{offs:List Nat}{a b:Array Value}{ga gb:Nat->Int}(h:prog.underlying t=some (.struct (prog.fieldsOf t)))(Z:prog.stoodInHeld t=false)(d:((prog.fieldsOf t).toList.map λf=>(f.type,f.offset,decide (f.name = "_")))=offs.map λo=>(eE,o,false))(i:∀o∈offs,bY prog (part eE a o)=some (.int .i64 (ga o))/\bY prog (part eE b o)=some (.int .i64 (gb o))) :
    bY prog (Op.equalIn 10000 t (.agg a) (.agg b))=some (offs.all λo=>ga o == gb o):=by
 rw[show(10000:Nat)=9998+1+1 from rfl,xxs _ _ _ _ h Z];generalize (prog.fieldsOf t).toList=g at d;rw[xif 9998 a b ga gb g]
 .have:(g.map λf=>f.offset)=offs:=(by have:=congrArg (List.map λx:TypeId×Nat×Bool=>x.2.1) d;simpa[List.map_map,Function.comp_def]using this);rw[<-this,List.all_map];rfl
 .intro f j;have l:(f.type,f.offset,decide (f.name = "_"))∈offs.map λo=>(eE,o,false):=by rw[<-d];exact jh j
  obtain⟨o,m,e⟩:=fK.mp l;simp only[bH]at e;obtain⟨n,p,r⟩:=e;subst p;exact⟨of_decide_eq_false r.symm,n.symm,i _ m⟩
structure Ent where
 by_:List UInt8
 tx:List UInt8
def Ent.c(x:Ent):List AV:=[Tx x.by_,Tx x.tx]
theorem Ent.len(x:Ent):x.c.length=2:=rfl
theorem Ent.stl(x:Ent):x.c.all aP=true:=rfl
def BQ:prog.underlying vP=some (.slice xT):=by kernel_rfl
def xm1:JE=[Tx [],Tx []]:=by kernel_rfl
def yc1(x:Ent):Prop:=x.by_.length<=60005/\x.tx.length<=60005
end Go.Ix
namespace Go.Proofs.YtjngclcijnpooaaGreatDoor
open Go.ChangeShapes Go.WideShapes Go.ChangeAt Go.RowKit Go.Ix
def CE{α:Type}{a:α->List AV}{P:Program}{t e:TypeId}{z:AV}(d:P.underlying t=some (.slice e))(g:∀r,r.length=P.cellsOf e->Sh P e r->∃x,r=a x)(f:Sh P t [z]):∃l,Sl a z l/\l.length<=maxLen:=by
 rcases Sh.slice_inv d f with h1|⟨rows,x,h1,h2,h3,h4⟩
 .simp at h1;exact⟨[],Or.inl ⟨h1,rfl⟩,zP _⟩
 .obtain⟨l,rfl⟩:=xdw (enc:=a) λr b=>g r (h2 r b) (h3 r b)
  simp at h1;exact⟨l,Or.inr ⟨x,by simpa[List.flatMap]using h1⟩,by simpa using h4⟩
def x5l{r:List AV}(d:r.length=prog.cellsOf xT)(i:Sh prog xT r):∃x:Ent,r=x.c:=by
 obtain⟨n,o,u⟩:=V4 (t:=xT) (l:=[(cF,0),(cF,1)]) (by kernel_rfl);obtain⟨-,b⟩:=Sh.L3 o i;have m:prog.cellsOf xT=2:=(by kernel_rfl);have a:prog.cellsOf cF=1:=(by kernel_rfl);rw[m]at d;match r,d with
 |[x,y],_=>
  have:∀p∈n.toList.map (λf=>(f.type,f.offset)),Sh prog p.1 (([x,y].drop p.2).take (prog.cellsOf p.1)):=λp j=>by obtain⟨f,w,rfl⟩:=fK.mp j;exact b f w
  rw[u]at this;have e:=this _ (eO ..);have g:=this (cF,1) (by simp);simp only[a,bA,jW,jB,cZ]at e g;obtain⟨s,Z⟩:=CJ e;obtain⟨t,h⟩:=CJ g;simp at Z h;exact⟨⟨s.data.toList,t.data.toList⟩,by rw[Z,h,xkc s,xkc t];rfl⟩
def log_in{a:AV}(h:ArgSh prog vP a):∃l,Sl Ent.c a l/\l.length<=9223372036854775807:=
 CE (e:=xT) (by kernel_rfl) (λr b d=>x5l b d) (h.slice (t:=vP) (e:=xT) (by kernel_rfl))
end Go.Proofs.YtjngclcijnpooaaGreatDoor
namespace Go.Ix
structure Pl where
 x:Int
 y:Int
 z:Int
deriving DecidableEq
def gV(a b c:Pl):Int:=(b.x-a.x)*(c.y-a.y)-(b.y-a.y)*(c.x-a.x)
def nF(n:Int):Int:=if n > 0 then 1 else if n<0 then -1 else 0
def dS(a b p:Pl):Int:=nF (gV a b p)
def zI(a b p:Pl):Int:=(a.x-p.x)*(b.x-p.x)+(a.y-p.y)*(b.y-p.y)
def jJ(a b p:Pl):Bool:=decide (dS a b p=0)&&decide (zI a b p<=0)
def jN(a b p:Pl):Bool:=decide (gV a b p=0)&&(decide (min a.x b.x<=p.x)&&decide (p.x<=max a.x b.x))&&(decide (min a.y b.y<=p.y)&&decide (p.y<=max a.y b.y))
def FN(a b c d:Pl):Bool:=jJ a b c||jJ a b d||jJ c d a||jJ c d b||(decide (dS a b c≠dS a b d)&&decide (dS c d a≠dS c d b))
def uY(a b c d:Pl):Bool:=jN a b c||jN a b d||jN c d a||jN c d b||(decide (dS a b c*dS a b d<0)&&decide (dS c d a*dS c d b<0))
def V6(t a b:Pl):Bool:=decide (gV t a b=0)&&decide (zI a b t > 0)
def xfh{u v:Int}:u*v<=0↔(u<=0/\0<=v)\/(0<=u/\v<=0):=by
 constructor
 .intro h;rcases ka u 0 with hu|hu|hu<;>rcases ka v 0 with hv|hv|hv
  .have:=Int.mul_pos_of_neg_of_neg hu hv;omega
  .omega
  .omega
  .omega
  .omega
  .omega
  .omega
  .omega
  .have:=OC hu hv;omega
 .rintro(⟨a,b⟩|⟨a,b⟩)
  .exact Int.mul_nonpos_of_nonpos_of_nonneg a b
  .exact Int.mul_nonpos_of_nonneg_of_nonpos a b
def V0(a b:Int):a<b\/b<=a:=by omega
def CC(u:Int):0<=u*u:=by
 rcases Int.le_total 0 u with h|h
 .exact Int.mul_nonneg h h
 .exact Int.mul_nonneg_of_nonpos_of_nonpos h h
def x5s{a b c d:Int}(h:a*d=b*c):a*c+b*d<=0↔a*c<=0/\b*d<=0:=by
 have e:(a*c)*(b*d)=(a*d)*(a*d):=(by rw[show(a*c)*(b*d)=(a*d)*(b*c) by grind,<-h]);have g:=CC (a*d);rw[<-e]at g;constructor
 .intro j;rcases V0 0 (a*c)with h2|h2
  .have f:b*d<0:=(by omega);have:=Int.mul_neg_of_pos_of_neg h2 f;omega
  .rcases V0 0 (b*d)with f|f
   .have i:a*c<0:=(by omega);have:=Int.mul_neg_of_neg_of_pos i f;omega
   .exact⟨h2,f⟩
 .omega
def gd(a b p:Pl):gV a b p=(a.x-p.x)*(b.y-p.y)-(a.y-p.y)*(b.x-p.x):=by unfold gV;grind
def BT(a b p:Pl):dS a b p=0↔gV a b p=0:=by
 unfold dS nF;split
 .omega
 .split<;>omega
def FZ(a b p:Pl):jJ a b p=jN a b p:=by
 unfold jJ jN;by_cases c:gV a b p=0
 .have e:=(BT a b p).mpr c;rw[gd]at c;have i:=x5s (a:=a.x-p.x) (b:=a.y-p.y) (c:=b.x-p.x) (d:=b.y-p.y) (by omega);rw[gd];have j:=xfh (u:=a.x-p.x) (v:=b.x-p.x);have l:=xfh (u:=a.y-p.y) (v:=b.y-p.y);rw[xO];simp only[cK,lF];unfold zI;rw[i,j,l];constructor
  .rintro⟨-,f,g⟩;refine⟨⟨by omega,by omega,by omega⟩,by omega,by omega⟩
  .rintro⟨⟨-,f,g⟩,m,n⟩;exact⟨e,by omega,by omega⟩
 .have e:¬dS a b p=0:=λh=>c ((BT a b p).mp h)
  simp[c,e]
def xdc{q1 q2 u1 u2 v1 v2:Int}(d:u1*v2=u2*v1)(a:u1*v1+u2*v2 > 0):nF (q1*u2-q2*u1)=nF (q1*v2-q2*v1):=by
 have e:(q1*v2-q2*v1)*(u1*u1+u2*u2)=(q1*u2-q2*u1)*(u1*v1+u2*v2):=(by have h:=d;grind);have b:0<u1*u1+u2*u2:=by
  have n:=CC u1;have o:=CC u2;rcases V0 0 (u1*u1+u2*u2)with h|h
  .exact h
  .exfalso;have f:u1*u1=0:=(by omega);have g:u2*u2=0:=(by omega);have i:u1=0:=(jz.mp f).elim id id;have j:u2=0:=(jz.mp g).elim id id;subst i j;simp at a
 generalize q1*v2-q2*v1=A at *
 generalize q1*u2-q2*u1=C at *
 generalize u1*u1+u2*u2=D at *
 generalize u1*v1+u2*v2=F at *
 unfold nF;rcases ka A 0 with hA|hA|hA<;>rcases ka C 0 with hC|hC|hC
 .simp[show ¬A > 0 by omega,show ¬C > 0 by omega,hA,hC]
 .subst hC;have:=Int.mul_neg_of_neg_of_pos hA b;omega
 .have l:=Int.mul_neg_of_neg_of_pos hA b;have m:=OC hC a;omega
 .subst hA;have:=Int.mul_neg_of_neg_of_pos hC a;omega
 .subst hA hC;rfl
 .subst hA;have:=OC hC a;omega
 .have l:=OC hA b;have m:=Int.mul_neg_of_neg_of_pos hC a;omega
 .subst hC;have:=OC hA b;omega
 .simp[hA,hC]
def L2(n:Int):nF n=1\/nF n=0\/nF n=-1:=by
 unfold nF;split
 .exact .inl rfl
 .split
  .exact .inr (.inr rfl)
  .exact .inr (.inl rfl)
def LK{a b p q:Pl}(f:dS a b p=0)(g:jJ a b p=false):dS p q a=dS p q b/\dS q p a=dS q p b:=by
 have c:=(BT a b p).mp f;rw[gd]at c;have d:zI a b p > 0:=(by unfold jJ at g;simp only[f,bC,gO,decide_eq_false_iff_not]at g;omega);unfold zI at d;have k:=xdc (q1:=q.x-p.x) (q2:=q.y-p.y) (u1:=a.x-p.x) (u2:=a.y-p.y) (v1:=b.x-p.x) (v2:=b.y-p.y) (by omega) d;have h:=xdc (q1:=p.x-q.x) (q2:=p.y-q.y) (u1:=a.x-p.x) (u2:=a.y-p.y) (v1:=b.x-p.x) (v2:=b.y-p.y) (by omega) d;refine⟨k,?_⟩;unfold dS gV;have e:∀c:Pl,(p.x-q.x)*(c.y-q.y)-(p.y-q.y)*(c.x-q.x)=(p.x-q.x)*(c.y-p.y)-(p.y-q.y)*(c.x-p.x):=λc=>by grind
 rw[e,e];exact h
def x01(a b c d:Pl):FN a b c d=uY a b c d:=by
 unfold FN uY;rw[FZ,FZ,FZ,FZ];by_cases h:(jN a b c||jN a b d||jN c d a||jN c d b)=true
 .rw[h];rfl
 .have h':(jN a b c||jN a b d||jN c d a||jN c d b)=false:=(by simpa using h);rw[h',J4,J4];simp only[Bool.or_eq_false_iff]at h';obtain⟨⟨⟨f,g⟩,i⟩,j⟩:=h';rw[<-FZ]at f g i j;rw[xO];simp only[cK,lF];have l:=L2 (gV a b c);have m:=L2 (gV a b d);have n:=L2 (gV c d a);have o:=L2 (gV c d b);have p:dS a b c=0->dS c d a=dS c d b:=λe=>(LK (q:=d) e f).1
  have r:dS a b d=0->dS c d a=dS c d b:=λe=>(LK (q:=c) e g).2
  have t:dS c d a=0->dS a b c=dS a b d:=λe=>(LK (q:=b) e i).1
  have u:dS c d b=0->dS a b c=dS a b d:=λe=>(LK (q:=a) e j).2
  unfold dS at *
  generalize nF (gV a b c)=w at *
  generalize nF (gV a b d)=x at *
  generalize nF (gV c d a)=y at *
  generalize nF (gV c d b)=z at *
  rcases l with rfl|rfl|rfl<;>rcases m with rfl|rfl|rfl<;>rcases n with rfl|rfl|rfl<;>rcases o with rfl|rfl|rfl<;>omega
def x02(a b c d:Pl):uY a b c d=uY c d a b:=by unfold uY;rw[Int.mul_comm (dS a b c),Int.mul_comm (dS c d a),Int.mul_comm (dS a b d),Int.mul_comm (dS c d b)];cases jN a b c<;>cases jN a b d<;>cases jN c d a<;>cases jN c d b<;>simp[Bool.and_comm]
def xh4{a b c:Pl}(i:¬(a.x=b.x/\a.y=b.y))(j:¬(c.x=b.x/\c.y=b.y)):(jJ b c a||jJ a b c)=V6 b c a:=by
 unfold jJ V6;have l:gV b c a=(c.x-b.x)*(a.y-b.y)-(c.y-b.y)*(a.x-b.x):=rfl;have m:gV a b c=gV b c a:=(by unfold gV;grind);have e:dS b c a=0↔gV b c a=0:=BT _ _ _;have f:dS a b c=0↔gV b c a=0:=(by rw[BT,m]);by_cases d:gV b c a=0
 .rw[xO];simp only[kT,cK,lF,e,f,d,true_and];rw[l]at d;have pos:∀{s t:Int},¬(s=0/\t=0)->0<s*s+t*t:=λ{s t} h=>by
   have E:=CC s;have F:=CC t;rcases V0 0 (s*s+t*t)with k|k
   .exact k
   .exfalso;have n:s*s=0:=(by omega);have o:t*t=0:=(by omega);exact h ⟨(jz.mp n).elim id id,(jz.mp o).elim id id⟩
  have p:=pos (s:=a.x-b.x) (t:=a.y-b.y) (by omega);have H:=pos (s:=c.x-b.x) (t:=c.y-b.y) (by omega);unfold zI;have r:(b.x-a.x)*(c.x-a.x)+(b.y-a.y)*(c.y-a.y)=((a.x-b.x)*(a.x-b.x)+(a.y-b.y)*(a.y-b.y))-((c.x-b.x)*(a.x-b.x)+(c.y-b.y)*(a.y-b.y)):=(by grind);have u:(a.x-c.x)*(b.x-c.x)+(a.y-c.y)*(b.y-c.y)=((c.x-b.x)*(c.x-b.x)+(c.y-b.y)*(c.y-b.y))-((c.x-b.x)*(a.x-b.x)+(c.y-b.y)*(a.y-b.y)):=(by grind);have g:((a.x-b.x)*(a.x-b.x)+(a.y-b.y)*(a.y-b.y))*((c.x-b.x)*(c.x-b.x)+(c.y-b.y)*(c.y-b.y))=((c.x-b.x)*(a.x-b.x)+(c.y-b.y)*(a.y-b.y))*((c.x-b.x)*(a.x-b.x)+(c.y-b.y)*(a.y-b.y))+((c.x-b.x)*(a.y-b.y)-(c.y-b.y)*(a.x-b.x))*((c.x-b.x)*(a.y-b.y)-(c.y-b.y)*(a.x-b.x)):=(by grind);rw[d]at g;rw[r,u];generalize (a.x-b.x)*(a.x-b.x)+(a.y-b.y)*(a.y-b.y)=V at *
  generalize (c.x-b.x)*(c.x-b.x)+(c.y-b.y)*(c.y-b.y)=U at *
  generalize (c.x-b.x)*(a.x-b.x)+(c.y-b.y)*(a.y-b.y)=D at *
  simp only[Int.mul_zero,Int.add_zero]at g;constructor
  .omega
  .intro C;rcases V0 D V with h1|h1
   .rcases V0 D U with h2|h2
    .exfalso;have J:D*D<V*U:=(by have K:D*D<V*D:=Int.mul_lt_mul_of_pos_right h1 (by omega);have L:V*D<V*U:=Int.mul_lt_mul_of_pos_left h2 p;omega);omega
    .right;omega
   .left;omega
 .have w:¬dS b c a=0:=λh=>d (e.mp h)
  have A:¬dS a b c=0:=λh=>d (f.mp h)
  simp[d,w,A]
def xd8(a b p:Pl):Bool:=decide (decide (a.y > p.y)≠decide (b.y > p.y))&&decide (dS a b p=if b.y<a.y then -1 else 1)
open Go.Proofs
def CR{v:AV}{b:aK}{f:FuncId}{l:List AV}(h:((b [] f l mem0).bind λp=>Go.Ix.frz p.2.get bL p.1)=some v):RetF (λa=>a=v) (b [] f l mem0):=by rw[oZ]at h;obtain⟨⟨a,d⟩,e,g⟩:=h;exact⟨a,d,v,e,g,rfl⟩
def Pl.c(p:Pl):List AV:=[I p.x,I p.y,I p.z]
theorem Pl.len(p:Pl):p.c.length=3:=rfl
theorem Pl.bG(p:Pl):p.c.all aP=true:=rfl
def Pl.k(p:Pl):AV:=.agg [I p.x,I p.y]
def fH(s:Pl×Pl):List AV:=[I s.1.x,I s.1.y,I s.2.x,I s.2.y]
theorem sH(s:Pl×Pl):(fH s).length=4:=rfl
theorem xq7(s:Pl×Pl):(fH s).all aP=true:=rfl
def eZ(p:Pl):Prop:=(-100000000<=p.x/\p.x<=100000000)/\(-100000000<=p.y/\p.y<=100000000)
def yU{u v:Int}(d:-200000000<=u/\u<=200000000)(e:-200000000<=v/\v<=200000000):-40000000000000000<=u*v/\u*v<=40000000000000000:=by have a:u.natAbs<=200000000:=(by omega);have b:v.natAbs<=200000000:=(by omega);have f:(u*v).natAbs<=200000000*200000000:=(by rw[jx];exact G6 a b);omega
def xbf(d:Nat)(a b c e:Int)(m:Mem):aI (aG (d+1)) FH [.agg [I a,I b],.agg [I c,I e]] m=some (.agg [I (bM (a-c)),I (bM (b-e))],m):=dT rfl (CR (by kernel_rfl)) m
def xn7(d:Nat)(a b c e:Int)(m:Mem):aI (aG (d+1)) xfg [.agg [I a,I b],.agg [I c,I e]] m=some (I (bM (bM (a*e)-bM (b*c))),m):=dT rfl (CR (by kernel_rfl)) m
def xn6(d:Nat)(a b c e:Int)(m:Mem):aI (aG (d+1)) xff [.agg [I a,I b],.agg [I c,I e]] m=some (I (bM (bM (a*c)+bM (b*e))),m):=dT rfl (CR (by kernel_rfl)) m
def xbj(d:Nat)(p:Pl)(m:Mem):aI (aG (d+1)) LO [.agg p.c] m=some (p.k,m):=dT rfl (CR (by kernel_rfl)) m
def K7(d:Nat){a b p:Pl}(i:eZ a)(j:eZ b)(l:eZ p)(m:Mem):aI (aG (d+2)) uW [.agg (fH (a,b)),p.k] m=some (I (dS a b p),m):=by
 obtain⟨J,K⟩:=i;obtain⟨L,N⟩:=j;obtain⟨O,P⟩:=l;have n:bM (b.x-a.x)=b.x-a.x:=bJ;have o:bM (b.y-a.y)=b.y-a.y:=bJ;have r:bM (p.x-a.x)=p.x-a.x:=bJ;have t:bM (p.y-a.y)=p.y-a.y:=bJ;have F:=yU (u:=b.x-a.x) (v:=p.y-a.y) (by omega) (by omega);have H:=yU (u:=b.y-a.y) (v:=p.x-a.x) (by omega) (by omega);have w:bM ((b.x-a.x)*(p.y-a.y))=(b.x-a.x)*(p.y-a.y):=bJ;have A:bM ((b.y-a.y)*(p.x-a.x))=(b.y-a.y)*(p.x-a.x):=bJ;have C:bM ((b.x-a.x)*(p.y-a.y)-(b.y-a.y)*(p.x-a.x))=gV a b p:=(by rw[bJ];rfl);refine dT rfl ?_ m;rw[yas];unfold sd WZ;obtain⟨M,e⟩:∃M:Mem,M=((⟨[],1⟩:Mem).new (0,0,2) (.row (fH (a,b)) 0 false)).new (0,0+1,3) (.row [I p.x,I p.y] 0 false):=⟨_,rfl⟩;have g:M.get (0,0,2)=some (.row [I a.x,I a.y,I b.x,I b.y] 0 false):=(by rw[e];simp[fH]);have D:M.get (0,1,3)=some (.row [I p.x,I p.y] 0 false):=(by rw[e];simp);have E:M.next=1:=(by rw[e];rfl);simp only[mem0,fN,jT,Pl.k,fH,dQ,lJ,oM,gC,bB];rw[show(((⟨[],1⟩:Mem).new (0,0,2) (.row [I a.x,I a.y,I b.x,I b.y] 0 false)).new (0,0+1,3) (.row [I p.x,I p.y] 0 false))=M from e.symm];simp only[cM,aE,aM g,bO,bA,cZ,rd,bV,eI,kF,jW,jB,bT];simp[g,D,xbf,n,o,r,t,xn7,w,A,C,cV,tR,cB,E,dS,nF,show Nat.blt 0 1=true from rfl];by_cases f:0<gV a b p
 .simp[f];exact RetF.st rfl rfl
 .by_cases h:gV a b p<0
  .simp[f,h];exact RetF.st rfl rfl
  .simp[f,h];exact RetF.st rfl rfl
def vR(d:Nat){a b p:Pl}(f:eZ a)(g:eZ b)(h:eZ p)(m:Mem):aI (aG (d+3)) pV [.agg (fH (a,b)),p.k] m=some (B (jJ a b p),m):=by
 have i:=K7 d f g h;obtain⟨H,J⟩:=f;obtain⟨K,L⟩:=g;obtain⟨N,O⟩:=h;have o:bM (a.x-p.x)=a.x-p.x:=bJ;have r:bM (a.y-p.y)=a.y-p.y:=bJ;have t:bM (b.x-p.x)=b.x-p.x:=bJ;have w:bM (b.y-p.y)=b.y-p.y:=bJ;have E:=yU (u:=a.x-p.x) (v:=b.x-p.x) (by omega) (by omega);have F:=yU (u:=a.y-p.y) (v:=b.y-p.y) (by omega) (by omega);have A:bM ((a.x-p.x)*(b.x-p.x))=(a.x-p.x)*(b.x-p.x):=bJ;have C:bM ((a.y-p.y)*(b.y-p.y))=(a.y-p.y)*(b.y-p.y):=bJ;have D:bM ((a.x-p.x)*(b.x-p.x)+(a.y-p.y)*(b.y-p.y))=zI a b p:=(by rw[bJ];rfl);refine dT rfl ?_ m;rw[yau];unfold si XB;obtain⟨M,e⟩:∃M:Mem,M=((⟨[],1⟩:Mem).new (0,0,2) (.row (fH (a,b)) 0 false)).new (0,0+1,3) (.row [I p.x,I p.y] 0 false):=⟨_,rfl⟩;have j:M.get (0,0,2)=some (.row [I a.x,I a.y,I b.x,I b.y] 0 false):=(by rw[e];simp[fH]);have l:M.get (0,1,3)=some (.row [I p.x,I p.y] 0 false):=(by rw[e];simp);have n:M.next=1:=(by rw[e];rfl);simp only[Pl.k,fH]at i;simp only[mem0,fN,jT,Pl.k,fH,dQ,lJ,oM,gC,bB];rw[show(((⟨[],1⟩:Mem).new (0,0,2) (.row [I a.x,I a.y,I b.x,I b.y] 0 false)).new (0,0+1,3) (.row [I p.x,I p.y] 0 false))=M from e.symm];simp only[cM,aE,aM j,aM l,bO,bA,rd,bV,eI,kF,jW,jB,bT,i,fV];unfold jJ;by_cases c:dS a b p=0
 .simp[c,aM j,aM l,rd,xbf,o,r,t,w,xn6,A,C,D,cV,tR,cB,n,show Nat.blt 0 1=true from rfl];exact RetF.st rfl rfl
 .simp[c,cV,tR,cB,n,show Nat.blt 0 1=true from rfl];exact RetF.st rfl rfl
def xnw(d:Nat){a b p q:Pl}(f:eZ a)(g:eZ b)(h:eZ p)(i:eZ q)(m:Mem):aI (aG (d+4)) FE [.agg (fH (a,b)),.agg (fH (p,q))] m=some (B (FN a b p q),m):=by
 have C:=K7 (d+1) f g h;have D:=K7 (d+1) f g i;have F:=K7 (d+1) h i f;have H:=K7 (d+1) h i g;have e:=vR d f g h;have j:=vR d f g i;have r:=vR d h i f;have u:=vR d h i g;refine dT rfl ?_ m;rw[yat];unfold se XA;obtain⟨M,w⟩:∃M:Mem,M=((⟨[],1⟩:Mem).new (0,0,2) (.row [I a.x,I a.y,I b.x,I b.y] 0 false)).new (0,0+1,3) (.row [I p.x,I p.y,I q.x,I q.y] 0 false):=⟨_,rfl⟩;have l:M.get (0,0,2)=some (.row [I a.x,I a.y,I b.x,I b.y] 0 false):=(by rw[w];simp);have n:M.get (0,1,3)=some (.row [I p.x,I p.y,I q.x,I q.y] 0 false):=(by rw[w];simp);have J:M.next=1:=(by rw[w];rfl);simp only[Pl.k,fH]at C D F H e j r u;simp only[mem0,fN,jT,fH,dQ,lJ,oM,gC,bB];rw[show(((⟨[],1⟩:Mem).new (0,0,2) (.row [I a.x,I a.y,I b.x,I b.y] 0 false)).new (0,0+1,3) (.row [I p.x,I p.y,I q.x,I q.y] 0 false))=M from w.symm];simp only[cM,aE,aM l,aM n,bO,bA,rd,bV,eI,kF,jW,jB,bT];unfold FN;cases o:jJ a b p
 .cases t:jJ a b q
  .cases A:jJ p q a
   .cases E:jJ p q b
    .by_cases c:dS a b p=dS a b q
     .simp[o,t,A,E,e,aM l,aM n,rd,j,r,u,C,D,c,cV,tR,cB,J,show Nat.blt 0 1=true from rfl];exact RetF.st rfl rfl
     .simp[o,t,A,E,e,aM l,aM n,rd,j,r,u,C,D,F,H,c,cV,tR,cB,J,show Nat.blt 0 1=true from rfl];exact RetF.st rfl rfl
    .simp[o,t,A,E,e,aM l,aM n,rd,j,r,u];exact RetF.st rfl rfl
   .simp[o,t,A,e,aM l,aM n,rd,j,r];exact RetF.st rfl rfl
  .simp[o,t,e,aM l,aM n,rd,j];exact RetF.st rfl rfl
 .simp[o,e];exact RetF.st rfl rfl
def YT(d:Nat){a b p:Pl}(e:eZ a)(f:eZ b)(g:eZ p)(m:Mem):aI (aG (d+1)) EK [.agg a.c,.agg b.c,.agg p.c] m=some (I (gV a b p),m):=by obtain⟨A,C⟩:=e;obtain⟨D,E⟩:=f;obtain⟨F,H⟩:=g;have h:bM (b.x-a.x)=b.x-a.x:=bJ;have i:bM (b.y-a.y)=b.y-a.y:=bJ;have j:bM (p.x-a.x)=p.x-a.x:=bJ;have l:bM (p.y-a.y)=p.y-a.y:=bJ;have t:=yU (u:=b.x-a.x) (v:=p.y-a.y) (by omega) (by omega);have w:=yU (u:=b.y-a.y) (v:=p.x-a.x) (by omega) (by omega);have n:bM ((b.x-a.x)*(p.y-a.y))=(b.x-a.x)*(p.y-a.y):=bJ;have o:bM ((b.y-a.y)*(p.x-a.x))=(b.y-a.y)*(p.x-a.x):=bJ;have r:bM ((b.x-a.x)*(p.y-a.y)-(b.y-a.y)*(p.x-a.x))=gV a b p:=(by rw[bJ];rfl);have k:aI (aG (d+1)) EK [.agg a.c,.agg b.c,.agg p.c] m=some (I (bM (bM (bM (b.x-a.x)*bM (p.y-a.y))-bM (bM (b.y-a.y)*bM (p.x-a.x)))),m):=dT rfl (CR (by kernel_rfl)) m;rw[k,h,i,j,l,n,o,r]
def xni(d:Nat)(n:Int)(m:Mem):aI (aG (d+1)) EH [I n] m=some (I (if n<0 then -1 else 1),m):=by
 refine dT rfl ?_ m;rw[x82];unfold pc TO;by_cases c:n<0
 .simp[mem0,c];exact RetF.st rfl rfl
 .simp[mem0,c];exact RetF.st rfl rfl
def M3(a b p:Pl)(d e f:Nat):Mem:=(((⟨[],1⟩:Mem).new (0,0,d) (.row a.c 0 false)).new (0,0+1,e) (.row b.c 0 false)).new (0,0+2,f) (.row p.c 0 false)
def ja{a b p:Pl}:(M3 a b p 3 4 5).get (0,0,3)=some (.row [I a.x,I a.y,I a.z] 0 false)/\(M3 a b p 3 4 5).get (0,1,4)=some (.row [I b.x,I b.y,I b.z] 0 false)/\(M3 a b p 3 4 5).get (0,2,5)=some (.row [I p.x,I p.y,I p.z] 0 false):=by unfold M3;refine⟨by simp[Pl.c],by simp[Pl.c],by simp[Pl.c]⟩
def JR(d:Nat){a b p:Pl}(f:eZ a)(g:eZ b)(h:eZ p)(m:Mem):aI (aG (d+2)) yN [.agg a.c,.agg b.c,.agg p.c] m=some (I (dS a b p),m):=by
 have e:=YT d f g h;refine dT rfl ?_ m;rw[x81];unfold pb TN;obtain⟨i,j,l⟩:=ja (a:=a) (b:=b) (p:=p);simp only[mem0,fN,jT,Pl.c,dQ,lJ,oM,gC,bB];rw[show((((⟨[],1⟩:Mem).new (0,0,3) (.row [I a.x,I a.y,I a.z] 0 false)).new (0,0+1,4) (.row [I b.x,I b.y,I b.z] 0 false)).new (0,0+2,5) (.row [I p.x,I p.y,I p.z] 0 false))=M3 a b p 3 4 5 from rfl];simp only[Pl.c]at e;simp only[aM i,aM j,aM l,bA,rd,bV,eI,kF,jW,jB,bO,bT,aE,e,fV];unfold dS nF;by_cases c:gV a b p=0
 .simp[c];exact RetF.st rfl rfl
 .simp[c,xni];refine RetF.st rfl ?_;split<;>split<;>first|rfl|omega|(split<;>first|rfl|omega)
def YW(d:Nat)(a b c:Int)(m:Mem):aI (aG (d+1)) rR [I a,I b,I c] m=some (B (decide (b<=a)&&decide (a<=c)),m):=by
 refine dT rfl ?_ m;rw[xjd];unfold OV IS;by_cases h:b<=a
 .simp[mem0,h];exact RetF.st rfl rfl
 .simp[mem0,h];exact RetF.st rfl rfl
def xfp(a b:Int):(if b<a then b else a)=min a b:=by omega
def xfs(a b:Int):(if b > a then b else a)=max a b:=by omega
def JT(d:Nat){a b p:Pl}(j:eZ a)(l:eZ b)(n:eZ p)(m:Mem):aI (aG (d+2)) yO [.agg a.c,.agg b.c,.agg p.c] m=some (B (jN a b p),m):=by
 have h:=YT d j l n;refine dT rfl ?_ m;rw[x83];unfold pd TP;obtain⟨e,f,g⟩:=ja (a:=a) (b:=b) (p:=p);simp only[mem0,fN,jT,Pl.c,dQ,lJ,oM,gC,bB];rw[show((((⟨[],1⟩:Mem).new (0,0,3) (.row [I a.x,I a.y,I a.z] 0 false)).new (0,0+1,4) (.row [I b.x,I b.y,I b.z] 0 false)).new (0,0+2,5) (.row [I p.x,I p.y,I p.z] 0 false))=M3 a b p 3 4 5 from rfl];simp only[Pl.c]at h;simp only[aM e,aM f,aM g,bA,rd,bV,eI,kF,jW,jB,bO,bT,aE,h,fV];unfold jN;by_cases c:gV a b p=0
 .cases i:(decide (min a.x b.x<=p.x)&&decide (p.x<=max a.x b.x))
  .simp[c,aM e,aM f,aM g,rd,xfp,xfs,YW,i,-gt_iff_lt];exact RetF.st rfl rfl
  .simp[c,aM e,aM f,aM g,rd,xfp,xfs,YW,i,-gt_iff_lt];exact RetF.st rfl rfl
 .simp[c];exact RetF.st rfl rfl
def xn9(d:Nat){t a b:Pl}(e:eZ t)(f:eZ a)(g:eZ b)(m:Mem):aI (aG (d+2)) EJ [.agg t.c,.agg a.c,.agg b.c] m=some (B (V6 t a b),m):=by
 have h:=YT d e f g;obtain⟨H,J⟩:=f;obtain⟨K,L⟩:=g;obtain⟨M,N⟩:=e;have n:bM (a.x-t.x)=a.x-t.x:=bJ;have o:bM (a.y-t.y)=a.y-t.y:=bJ;have r:bM (b.x-t.x)=b.x-t.x:=bJ;have w:bM (b.y-t.y)=b.y-t.y:=bJ;have E:=yU (u:=a.x-t.x) (v:=b.x-t.x) (by omega) (by omega);have F:=yU (u:=a.y-t.y) (v:=b.y-t.y) (by omega) (by omega);have A:bM ((a.x-t.x)*(b.x-t.x))=(a.x-t.x)*(b.x-t.x):=bJ;have C:bM ((a.y-t.y)*(b.y-t.y))=(a.y-t.y)*(b.y-t.y):=bJ;have D:bM ((a.x-t.x)*(b.x-t.x)+(a.y-t.y)*(b.y-t.y))=zI a b t:=(by rw[bJ];rfl);refine dT rfl ?_ m;rw[x86];unfold pg TS;obtain⟨i,j,l⟩:=ja (a:=t) (b:=a) (p:=b);simp only[mem0,fN,jT,Pl.c,dQ,lJ,oM,gC,bB];rw[show((((⟨[],1⟩:Mem).new (0,0,3) (.row [I t.x,I t.y,I t.z] 0 false)).new (0,0+1,4) (.row [I a.x,I a.y,I a.z] 0 false)).new (0,0+2,5) (.row [I b.x,I b.y,I b.z] 0 false))=M3 t a b 3 4 5 from rfl];simp only[Pl.c]at h;simp only[aM i,aM j,aM l,bA,rd,bV,eI,kF,jW,jB,bO,bT,aE,h,fV];unfold V6;by_cases c:gV t a b=0
 .simp[c,aM i,aM j,aM l,rd,n,o,r,w,A,C,D];exact RetF.st rfl rfl
 .simp[c];exact RetF.st rfl rfl
def xnx(d:Nat){a b p q:Pl}(f:eZ a)(g:eZ b)(h:eZ p)(i:eZ q)(m:Mem):aI (aG (d+3)) EI [.agg a.c,.agg b.c,.agg p.c,.agg q.c] m=some (B (uY a b p q),m):=by
 have D:=JR d f g h;have E:=JR d f g i;have H:=JR d h i f;have J:=JR d h i g;have K:=JT d f g h;have j:=JT d f g i;have o:=JT d h i f;have A:=JT d h i g;have L:∀a b p q:Pl,bM (dS a b p*dS a b q)=dS a b p*dS a b q:=λa b p q=>by unfold dS;rcases L2 (gV a b p)with e|e|e<;>rcases L2 (gV a b q)with e2|e2|e2<;>rw[e,e2]<;>rfl
 refine dT rfl ?_ m;rw[x84];unfold pe TQ;obtain⟨M,n⟩:∃M:Mem,M=((((⟨[],1⟩:Mem).new (0,0,4) (.row [I a.x,I a.y,I a.z] 0 false)).new (0,0+1,5) (.row [I b.x,I b.y,I b.z] 0 false)).new (0,0+2,6) (.row [I p.x,I p.y,I p.z] 0 false)).new (0,0+3,7) (.row [I q.x,I q.y,I q.z] 0 false):=⟨_,rfl⟩;have r:M.get (0,0,4)=some (.row [I a.x,I a.y,I a.z] 0 false):=(by rw[n];simp);have l:M.get (0,1,5)=some (.row [I b.x,I b.y,I b.z] 0 false):=(by rw[n];simp);have t:M.get (0,2,6)=some (.row [I p.x,I p.y,I p.z] 0 false):=(by rw[n];simp);have u:M.get (0,3,7)=some (.row [I q.x,I q.y,I q.z] 0 false):=(by rw[n];simp);have N:M.next=1:=(by rw[n];rfl);simp only[Pl.c]at D E H J K j o A;simp only[mem0,fN,jT,Pl.c,dQ,lJ,oM,gC,bB];rw[<-n];simp only[aM r,aM l,aM t,bA,rd,bV,eI,kF,jW,jB,bO,bT,aE,K];unfold uY;cases O:jN a b p
 .cases w:jN a b q
  .cases C:jN p q a
   .cases F:jN p q b
    .by_cases c:dS a b p*dS a b q<0
     .simp[w,C,F,aM r,aM l,aM t,aM u,rd,j,o,A,D,E,H,J,L,c,cV,tR,cB,N,show Nat.blt 0 1=true from rfl];exact RetF.st rfl rfl
     .simp[w,C,F,aM r,aM l,aM t,aM u,rd,j,o,A,D,E,L,c,cV,tR,cB,N,show Nat.blt 0 1=true from rfl];exact RetF.st rfl rfl
    .simp[w,C,F,aM r,aM l,aM t,aM u,rd,j,o,A];exact RetF.st rfl rfl
   .simp[w,C,aM r,aM l,aM t,aM u,rd,j,o];exact RetF.st rfl rfl
  .simp[w,aM l,aM u,rd,j];exact RetF.st rfl rfl
 .simp;exact RetF.st rfl rfl
def isPl(p:Pl):Bool:=(decide (-100000000<=p.x)&&decide (p.x<=100000000))&&(decide (-100000000<=p.y)&&decide (p.y<=100000000))&&(decide (-100000000<=p.z)&&decide (p.z<=100000000))
def U6{p:Pl}(h:isPl p=true):eZ p:=by unfold isPl at h;simp only[cK,lF]at h;exact⟨h.1.1,h.1.2⟩
def YU(d:Nat)(n:Int)(m:Mem):aI (aG (d+2)) B7 [I n] m=some (B (decide (-100000000<=n)&&decide (n<=100000000)),m):=by refine dT rfl ?_ m;rw[x85];unfold pf TR;simp[mem0,YW];exact RetF.st rfl rfl
def xbm(d:Nat)(p:Pl)(m:Mem):aI (aG (d+3)) R4 [.agg p.c] m=some (B (isPl p),m):=by
 refine dT rfl ?_ m;rw[x87];unfold pi TT;obtain⟨M,b⟩:∃M:Mem,M=((⟨[],1⟩:Mem).new (0,0,1) (.row [I p.x,I p.y,I p.z] 0 false)):=⟨_,rfl⟩;have g:M.get (0,0,1)=some (.row [I p.x,I p.y,I p.z] 0 false):=(by rw[b];simp);simp only[mem0,fN,jT,Pl.c,dQ,lJ,oM,gC,bB];rw[<-b];simp only[cM,aM g,rd,aE];unfold isPl;cases a:(decide (-100000000<=p.x)&&decide (p.x<=100000000))
 .simp[YU,a];exact RetF.st rfl rfl
 .cases e:(decide (-100000000<=p.y)&&decide (p.y<=100000000))
  .simp[g,rd,YU,a,e];exact RetF.st rfl rfl
  .simp[g,rd,YU,a,e];exact RetF.st rfl rfl
def xn4(d:Nat)(a b c:Int)(m:Mem):aI (aG (d+1)) FD [I a,I b,I c] m=some (B (decide (b<=a)&&decide (a<=c)),m):=by
 refine dT rfl ?_ m;rw[yaq];unfold sa WW;by_cases h:b<=a
 .simp[mem0,h];exact RetF.st rfl rfl
 .simp[mem0,h];exact RetF.st rfl rfl
def x2e(d:Nat)(Z:FHs)(u:Nat)(i n:Int){a:AV}{l:List Int}(h:Sl intE a l)(A:l.length<=1000):∀(b:List Int) (k j:Nat) (m:Mem) (Y:Nat),l.drop k=b->b.length<j ->
    AN (aG (d+1)) Z u j (I i) (I n) a (I l.length) (I k) m Y=some (B (b.all λx=>decide (i<=x)&&decide (x<=n)),m):=by
 intro b;induction b with
 |nil=>intro k j m Y o f;obtain⟨j,rfl⟩:=dF f;have g:¬((k:Int)<(l.length:Int)):=(by have:=gX.mp o;omega);simp only[AN];unfold XG O';simp[g]
 |cons e r y=>
  intro k j m Y o f;obtain⟨j,rfl⟩:=dF f;obtain⟨g,w,p⟩:=gK o;have hk':(k:Int)<(l.length:Int):=(by omega);have ix:=h.ix gE g;have ld:∀m,aA false 1 (.aF ((l.drop k).flatMap intE)) m=some (I e):=λm=>by rw[fT g,dN,w];rfl
  have t:=gH k (by omega);simp only[AN];unfold XG;simp only[bQ,hk',bC,aE,aR,ix,ld,xn4,fA];rw[dQ];cases C:(decide (i<=e)&&decide (e<=n))
  .simp
  .simp only[cC,aS,dJ,t,aE,gO];exact y (k+1) j m _ p (by simp at f;omega)
def xbl(d:Nat)(p:Pl)(m:Mem):aI (aG (d+3)) T3 [.agg p.c] m=some (I (if isPl p=true then 0 else 2),m):=by
 refine dT rfl ?_ m;rw[yax];unfold sm XE;obtain⟨M,h⟩:∃M:Mem,M=((⟨[],1⟩:Mem).new (0,0,1) (.row [I p.x,I p.y,I p.z] 0 false)):=⟨_,rfl⟩;have g:M.get (0,0,1)=some (.row [I p.x,I p.y,I p.z] 0 false):=(by rw[h];simp);simp only[mem0,fN,jT,Pl.c,dQ,lJ,oM,gC,bB];rw[<-h];have i:iN=[I 0]:=(by kernel_rfl);have a:∀{R:Type} (x y z:Int) (id:Id) (m:Mem) (q:AV->Mem->Option R),dC iN [(0,1,I x),(1,1,I y),(2,1,I z)] 3 1 id m q=q (.aQ [I x,I y,I z] 3 true) m:=λx y z id m q=>by rw[i];simp[dC,jG,eV,qK,cR]
 have b:∀m:Mem,aI (aG (d+2)) FI [I (-100000000),I 100000000,.aQ [I p.x,I p.y,I p.z] 3 true] m=some (B ([p.x,p.y,p.z].all λx=>decide (-100000000<=x)&&decide (x<=100000000)),m):=λm=>by refine dT rfl ?_ m;rw[yay];unfold sn XF N';have f:Sl intE (.aQ [I p.x,I p.y,I p.z] 3 true) [p.x,p.y,p.z]:=Or.inr ⟨true,rfl⟩;have:=x2e d [] 0 (-100000000) 100000000 f (by simp) [p.x,p.y,p.z] 0 NN ⟨[],1⟩ (0+1+3) rfl (by rw[cU];simp);simp only[mem0,f.len jZ,aE];rw[show I ((0:Nat):Int)=I 0 from rfl]at this;rw[this];exact RetF.st rfl rfl
 simp only[cM,aM g,bA,cZ,bO,rd,aE,List.head?_cons,a,b,fA,fE,cJ];have e:([p.x,p.y,p.z].all λx=>decide (-100000000<=x)&&decide (x<=100000000))=isPl p:=(by unfold isPl;simp[Bool.and_assoc]);rw[e];cases isPl p
 .simp;exact RetF.st rfl rfl
 .simp;exact RetF.st rfl rfl
end Go.Ix
