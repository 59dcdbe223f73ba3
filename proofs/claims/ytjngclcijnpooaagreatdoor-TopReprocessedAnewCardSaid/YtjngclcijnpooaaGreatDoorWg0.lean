import Derived.Test.YtjngclcijnpooaaGreatDoorFxShelf
import Derived.Lib.SmallJoins
import Derived.Laws.Strings
import Derived.Test.YtjngclcijnpooaaGreatDoorRows
import Derived.Test.YtjngclcijnpooaaGreatDoorFxLaw
import Derived.Test.YtjngclcijnpooaaGreatDoorCards
import Derived.Test.YtjngclcijnpooaaGreatDoorTie
import Derived.Stop.LaidErr
import Derived.LaidMore
import Derived.Lay
import Derived.SevenTiedAt
import Derived.Stop.Joined
import Derived.Lib.AtoiAll
import Derived.Lib.Bytealg
import Derived.Laws.StructEq
import Derived.ProofKit
set_option maxRecDepth 10000
set_option linter.all false
open Go.Proofs.Tryz
namespace Go.Ix
open Go Go.Proofs
def bz{w d:World}(h:Go.RowKit.Below w.heap.size w d):Ext (λ_=>True) w d:=
 ⟨h.size,λb a=>by simp only[World.shape?];rw[h.block b a],λb _ a=>h.block b a,h.os,h.output⟩
def KL{P:Program}{E:Env}{w:World}{st:St}{f:FuncId}{d:Array Value}{r:AV}(g:kG P f)(i:Sim E w st)(j:Calls P f d w λe a=>∃u,e=.returned u/\Ext (λ_=>True) w a/\V E.F a E.η E.ζ.1 r u):kG P f/\oJ P E w st f d r st:=by refine⟨g,λl=>?_⟩;obtain⟨e,a,fr,⟨u,rfl,m,n⟩,o,p,t⟩:=j l;obtain⟨x,y⟩:=i.outside (F':=E.F) m (λ_ h=>h) (λ_ h=>.inl h);exact⟨E,a,u,.inl ⟨g,fr,o,p,t⟩,n,x,y,bO _,λid b h=>.inl ⟨b,h⟩⟩
def xhh{E:Env}{w:World}{a:AV}{d:Array Value}(h:ArgsV E w [a] d):∃v,d=#[v]/\E.V w a v:=by
 obtain⟨e,f⟩:=h;have h1':d.size=1:=e;refine⟨d[0],?_,f 0 a d[0] rfl (iZ (by omega))⟩;refine Array.ext (by simp[h1']) λi a b=>?_
 have:i=0:=(by omega);subst this;rfl
def x1o(w:World)(k:Nat)(d:Array Obj):Ext (λ_=>True) w (Go.Sort.grow (w.drewN k) d):=by
 have a:∀b,b<w.heap.size->(Go.Sort.grow (w.drewN k) d).heap[b]?=w.heap[b]?:=λb a=>by simp only[Go.Sort.grow,World.drewN];rw[VT a]
 exact⟨by simp[Go.Sort.grow,World.drewN],λb h=>by simp only[World.shape?];rw[a b h],λb _ h=>a b h,rfl,rfl⟩
def cn:∀(k n:Nat),1<=k->n<10 ^ k->eW k n=Lib.decDigits n
 |0,n,h,_=>by omega
 |k+1,n,_,h=>by
  rw[Lib.decDigits];unfold eW;by_cases a:n<10
  .rw[aF a,dif_pos a]
  .rw[aB a,dif_neg a]
   rw[cn k (n / 10) (by
    rcases k with _|k
    .simp at h;omega
    .omega) (by rw[Nat.pow_succ]at h;omega)]
def x2u(n:Int)(a:-9223372036854775808<=n)(b:n<=9223372036854775807):dI n=Lib.itoa n:=by
 unfold dI Lib.itoa;split
 .rw[cn 20 _ (by omega) (by omega)]
 .rw[cn 20 _ (by omega) (by omega)]
def xzw{E:Env}{w:World}{st:St}{a:List AV}{g:Array Value}{r:AV}(i:xD prog w)(j:Sim E w st)(l:ArgsV E w a g)(b:rQ 1 a=some r):kG prog CE/\oJ prog E w st CE g r st:=by
 obtain⟨f,p⟩:=i;unfold rQ at b;split at b
 .rename_i n _;split at b
  .rename_i d;cases b;obtain⟨v,rfl,t⟩:=xhh l;have:=kZ t;subst this;refine KL (EP (by kernel_rfl)) j (Calls.mono (Tryz.strconv_Itoa n d.1 d.2 w (f (by kernel_rfl))) λe u ⟨m,k,x,o⟩=>⟨_,m,?_,?_⟩)
   .rw[o];exact x1o _ _ _
   .rw[x2u n d.1 d.2];exact .sc _
  .cases b
 .rename_i h;cases h
 .cases b
set_option maxHeartbeats 1000000 in
theorem x8l{E:Env}{w:World}{st:St}{args:List AV}{vs:Array Value}{r:AV}(hk:xD prog w)(hS:Sim E w st)(hA:ArgsV E w args vs)(hr:rQ 2 args=some r):kG prog N4/\oJ prog E w st N4 vs r st:=by
 obtain⟨hk1,hk2⟩:=hk;unfold rQ at hr;split at hr
 .rename_i h;cases h
 .rename_i s _;split at hr
  .rename_i Z;obtain⟨v,rfl,hv⟩:=xhh hA;have:=kZ hv;subst this;have hk3:=hk2 (by kernel_rfl);have two:∀(w':World) (a b:AV) (u v:Value),V E.F w' E.η E.ζ.1 a u->V E.F w' E.η E.ζ.1 b v->V E.F w' E.η E.ζ.1 (.tup [a,b]) (.tuple #[u,v]):=λw' a b u v h1 h2=>.tup _ _ rfl λi x y hx hy=>by
    match i,hx,hy with
    |0,hx,hy=>cases hx;cases hy;exact h1
    |1,hx,hy=>cases hx;cases hy;exact h2
    |i+2,hx,hy=>simp at hx
   cases hv:Lib.atoiAll s.data.toList with
   |ok v=>
    rw[hv]at hr;cases hr;refine KL (EP (by kernel_rfl)) hS (Calls.mono (Tryz.strconv_Atoi_ok s (by omega) v hv w) λe w' ⟨he,hw⟩=>⟨_,he,?_,two _ _ _ _ _ (.sc _) (.sc _)⟩);rcases hw with rfl|⟨t,rfl⟩
    .exact Ext.refl _ _
    .exact bz (Go.Joins.below_bytesWorld _ _ _ _ (bO _))
   |range=>rw[hv]at hr;cases hr;obtain⟨_,x,hx,tp,p,rfl⟩:=hk3;refine KL (EP (by kernel_rfl)) hS (Calls.mono (Tryz.strconv_Atoi_range_var s (by omega) hv tp p w hx) λe w' ⟨N,he,_,_,hw⟩=>⟨_,he,bz hw,two _ _ _ _ _ (.sc _) (.un _ _ ⟨_,_,rfl⟩ ?_)⟩);exact⟨rfl,rfl,λb h=>by cases h⟩
   |_=>rw[hv]at hr;cases hr;obtain⟨⟨x,hx,tp,p,rfl⟩,_⟩:=hk3;refine KL (EP (by kernel_rfl)) hS (Calls.mono (Tryz.strconv_Atoi_bad_var s (by omega) (hv.trans (by kernel_rfl)) tp p w hx) λe w' ⟨N,he,_,_,hw⟩=>⟨_,he,bz hw,two _ _ _ _ _ (.sc _) (.un _ _ ⟨_,_,rfl⟩ ?_)⟩);exact⟨rfl,rfl,λb h=>by cases h⟩
  .cases hr
 .cases hr
def told_ok:G1 prog pol:=by
 intro E w st f b vs r i j d g h a;rcases xun f j with ⟨rfl,e⟩|⟨rfl,e⟩
 .rw[e]at a;unfold AX at a;simp only[show Nat.beq 1 3=false from by rfl,show Nat.ble 16 1=false from by rfl,show Nat.ble 4 1=false from by rfl,cond_false,cE,bF]at a;obtain⟨r0,a,rfl,rfl⟩:=a;exact xzw d g h a
 .rw[e]at a;unfold AX at a;simp only[show Nat.beq 2 3=false from by rfl,show Nat.ble 16 2=false from by rfl,show Nat.ble 4 2=false from by rfl,cond_false,cE,bF]at a;obtain⟨r0,a,rfl,rfl⟩:=a;exact x8l d g h a
end Go.Ix
namespace Go.Ix
open Go.Proofs
variable{R:Type}{P:Program}{m:Mem}
@[simp] theorem dY(x y:Int):bJ (I x) (I y)=some (I (cG (x+y))):=_root_.id rfl
@[simp] theorem nX(x y:Int):eQ (I x) (I y)=some (I (cG (x-y))):=_root_.id rfl
@[simp] theorem YC(x y:Int):nD (I x) (I y)=some (I (cG (x*y))):=_root_.id rfl
@[simp] theorem bV(x y:Int):cC (I x) (I y)=some (B (decide (x<y))):=_root_.id rfl
@[simp] theorem IU(x y:Int):iM (I x) (I y)=some (B (decide (x<=y))):=_root_.id rfl
@[simp] theorem iC(x y:Int):eS (I x) (I y)=some (B (decide (y<x))):=_root_.id rfl
@[simp] theorem vL(x y:Int):kD (I x) (I y)=some (B (decide (y<=x))):=_root_.id rfl
@[simp] theorem iD(x y:Int):eL (I x) (I y)=some (B (decide (x=y))):=_root_.id rfl
@[simp] theorem gC(x y:Int):eF (I x) (I y)=some (B (!decide (x=y))):=_root_.id rfl
@[simp] theorem xa3(x:Int):oV (I x)=some (I (cG (0-x))):=_root_.id rfl
@[simp] theorem gE(b:Bool):dU (B b)=some (B (!b)):=_root_.id rfl
@[simp] theorem x95(x y:Int):w5 (I x) (I y)=some (I (if y<x then y else x)):=_root_.id rfl
@[simp] theorem x96(x y:Int):L6 (I x) (I y)=some (I (if y > x then y else x)):=_root_.id rfl
def xof{x y:Int}(h:y≠0):v8 (I x) (I y)=some (I (cG (x.tdiv y))):=by simp[v8,h]
def xa2{x y:Int}(h:y≠0):xQ (I x) (I y)=some (I (x.tmod y)):=by simp[xQ,h]
@[simp] theorem cW(c:Bool)(a b:AV):bX (B c) a b=some (bif c then a else b):=_root_.id rfl
@[simp] theorem aT(a b:Option R):aK (B true) a b=a:=_root_.id rfl
@[simp] theorem aV(a b:Option R):aK (B false) a b=b:=_root_.id rfl
@[simp] theorem iS(b:Bool):sW (B b) true=b:=by cases b<;>rfl
@[simp] theorem dX(b:Bool):sW (B b) false=!b:=by cases b<;>rfl
@[simp] theorem sW_U(w:Bool):sW U w=false:=_root_.id rfl
@[simp] theorem kU(l:List AV)(i:Nat):cO (.tup l) i=l[i]?:=_root_.id rfl
@[simp] theorem cz(x:Int):(I x).cells=[I x]:=_root_.id rfl
@[simp] theorem yaq(x:Bool):(B x).cells=[B x]:=_root_.id rfl
@[simp] theorem pM(l:List AV):(AV.agg l).cells=l:=_root_.id rfl
@[simp] theorem yan(l:List AV)(n:Nat)(x:Bool):(AV.aN l n x).cells=[.aN l n x]:=_root_.id rfl
@[simp] theorem yam(id:Id)(a b n z:Nat)(f:Bool):(AV.sref id a b n z f).cells=[.sref id a b n z f]:=_root_.id rfl
@[simp] theorem yao:(nilS).cells=[nilS]:=_root_.id rfl
@[simp] theorem vU(x:Int):(I x).one=true:=_root_.id rfl
@[simp] theorem yac(x:Bool):(B x).one=true:=_root_.id rfl
@[simp] theorem x98(l:List AV)(n:Nat)(x:Bool):(AV.aN l n x).one=true:=_root_.id rfl
@[simp] theorem x97(id:Id)(a b n z:Nat)(f:Bool):(AV.sref id a b n z f).one=true:=_root_.id rfl
@[simp] theorem x99:(nilS).one=true:=_root_.id rfl
@[simp] theorem yaa(f:FuncId)(l:List AV):(AV.clo f l).one=true:=_root_.id rfl
def aP:AV->Bool
 | .sc _ | .aN .. | .aE _ | .un _=>true
 |_=>false
def bB:AV->Bool
 | .sc _ | .aN .. | .aE _ | .un _=>true
 | .agg l=>l.all aP
 | .clo _ l=>l.all aP
 |_=>false
@[simp] theorem x93(v:Value):aP (.sc v)=true:=_root_.id rfl
@[simp] theorem x92(l:List AV)(n:Nat)(x:Bool):aP (.aN l n x)=true:=_root_.id rfl
@[simp] theorem x90(v:Value):bB (.sc v)=true:=_root_.id rfl
@[simp] theorem x9z(l:List AV)(n:Nat)(x:Bool):bB (.aN l n x)=true:=_root_.id rfl
@[simp] theorem rS(l:List AV):bB (.agg l)=l.all aP:=_root_.id rfl
@[simp] theorem x91(f:FuncId)(l:List AV):bB (.clo f l)=l.all aP:=_root_.id rfl
def uR{a:AV}(b:Id->Option Ob)(k:Nat)(h:aP a=true):frz b (k+1) a=some a:=by cases a<;>simp_all [frz,aP]
def sF{f:AV->Option AV}:∀{l:List AV},(∀a∈l,f a=some a)->l.mapM f=some l
 |[],_=>rfl
 |a::l,h=>by rw[eI,h a (eP ..),sF λb d=>h b (eE _ d)];rfl
def kN{a:AV}(d:Id->Option Ob)(k:Nat)(h:bB a=true):frz d (k+2) a=some a:=by
 cases a with
 |agg l=>
  simp only[bB,dJ]at h;have:l.mapM (frz d (k+1))=some l:=sF λb e=>uR d k (h b e)
  show(l.mapM (frz d (k+1))).map AV.agg=_;rw[this];rfl
 |clo f l=>
  simp only[bB,dJ]at h;have:l.mapM (frz d (k+1))=some l:=sF λb e=>uR d k (h b e)
  show(l.mapM (frz d (k+1))).map (AV.clo f)=_;rw[this];rfl
 |_=>first|(exact uR d (k+1) rfl)|(simp[bB]at h)
def vO{a:AV}(b:Id->Option Ob)(k:Nat)(h:aP a=true):reach b (k+1) a=[]:=by cases a<;>simp_all [reach,aP]
def xpj{a:AV}(d:Id->Option Ob)(k:Nat)(h:bB a=true):reach d (k+2) a=[]:=by
 cases a with
 |agg l=>simp only[bB,dJ]at h;show l.flatMap (reach d (k+1))=[];rw[W0];exact λb e=>vO d k (h b e)
 |clo f l=>simp only[bB,dJ]at h;show l.flatMap (reach d (k+1))=[];rw[W0];exact λb e=>vO d k (h b e)
 |_=>first|(exact vO d (k+1) rfl)|(simp[bB]at h)
def yW{l:List AV}(b:Id->Option Ob)(h:l.all bB=true):l.mapM (frz b bI)=some l:=
 sF λa d=>kN b 4 (dJ.mp h a d)
def BQ{l:List AV}(b:Id->Option Ob)(h:l.all bB=true):l.flatMap (reach b bI)=[]:=by rw[W0];exact λa d=>xpj b 4 (dJ.mp h a d)
def gA{call:aJ}{f:FuncId}{l:List AV}{m m':Mem}{r:AV}(a:l.all bB=true)(h:call [] f l mem0=some (r,m'))(b:bB r=true):aI call f l m=some (r,m):=by unfold aI;rw[yW _ a];simp only[h];rw[show frz m'.get bI r=some r from kN _ 4 b,BQ _ a];rfl
def LF{call:aJ}{f:FuncId}{l:List AV}{m a:Mem}{r:AV}(b:l.all bB=true)(h:call [] f l mem0=some (r,a))(d:qS r=true):eO call f l m=some (r,m):=by unfold eO;rw[yW _ b];simp only[h,aF d]
def sZ{b:aJ}{f:FuncId}{l:List AV}{m d:Mem}{r:List AV}(e:l.all bB=true)(h:b [] f l mem0=some (.tup r,d))(g:r.all bB=true):aI b f l m=some (.tup r,m):=by
 unfold aI;rw[yW _ e];simp only[h];have:frz d.get bI (.tup r)=some (.tup r):=by
  have j:r.mapM (frz d.get 5)=some r:=sF λa i=>kN _ 3 (dJ.mp g a i)
  show(r.mapM (frz d.get 5)).map AV.tup=_;rw[j];rfl
 rw[this,BQ _ e];rfl
def Ans(a:aJ)(f:FuncId)(l:List AV)(r:AV):Prop:=∃b,a [] f l mem0=some (r,b)
def Ans.gA{call:aJ}{f:FuncId}{l:List AV}{m:Mem}{r:AV}(h:Ans call f l r)(a:l.all bB=true)(b:bB r=true):aI call f l m=some (r,m):=
 let⟨_,h⟩:=h;Go.Ix.gA a h b
def Ans.sZ{a:aJ}{f:FuncId}{l:List AV}{m:Mem}{r:List AV}(h:Ans a f l (.tup r))(b:l.all bB=true)(d:r.all bB=true):aI a f l m=some (.tup r,m):=
 let⟨_,h⟩:=h;Go.Ix.sZ b h d
def Sl{α:Type}(b:α->List AV)(a:AV)(l:List α):Prop:=(a=nilS/\l=[])\/∃x,a=.aN (l.flatMap b) l.length x
variable{α:Type}{enc:α->List AV}{z:Nat}{a:AV}{l:List α}
def gG(a:∀x,(enc x).length=z):∀l:List α,(l.flatMap enc).length=l.length*z
 |[]=>by simp
 |x::l=>by simp only[dT,eA,a,gG a l,dN,lT];omega
def yY(a:∀x,(enc x).length=z):∀(l:List α) (k:Nat),(l.flatMap enc).drop (k*z)=(l.drop k).flatMap enc
 |l,0=>by simp
 |[],k+1=>by simp
 |x::l,k+1=>by rw[dT,lT,H1,lV (by rw[a];omega),iW,a,xh0,yY a l k,dR]
def fX{l:List α}{k:Nat}(h:k<l.length):l.drop k=l[k]::l.drop (k+1):=FZ h
def gW{l r:List α}{x:α}{k:Nat}(h:l.drop k=x::r):∃a:k<l.length,l[k]=x/\l.drop (k+1)=r:=by
 have a:k<l.length:=by
  rcases kS k l.length with h'|h'
  .exact h'
  .rw[lV h']at h;cases h
 rw[fX a]at h;injection h with he hd;exact⟨a,he,hd⟩
def Sl.aP(h:Sl enc a l):aP a=true:=by rcases h with ⟨rfl,_⟩|⟨x,rfl⟩<;>rfl
def Sl.bB(h:Sl enc a l):bB a=true:=by rcases h with ⟨rfl,_⟩|⟨x,rfl⟩<;>rfl
def Sl.clean(h:Sl enc a l):clean a=true:=by rcases h with ⟨rfl,_⟩|⟨x,rfl⟩<;>rfl
def Sl.eM(h:Sl enc a l):eM a=true:=by rcases h with ⟨rfl,_⟩|⟨x,rfl⟩<;>rfl
def Sl.cells(h:Sl enc a l):a.cells=[a]:=by rcases h with ⟨rfl,_⟩|⟨x,rfl⟩<;>rfl
def Sl.one(h:Sl enc a l):a.one=true:=by rcases h with ⟨rfl,_⟩|⟨x,rfl⟩<;>rfl
def Sl.tX(h:Sl enc a l):tX a=some []:=by rcases h with ⟨rfl,_⟩|⟨x,rfl⟩<;>rfl
def Sl.lit(l:List α)(x:Bool):Sl enc (.aN (l.flatMap enc) l.length x) l:=Or.inr ⟨x,rfl⟩
def Sl.elems(d:∀x,(enc x).length=z)(h:Sl enc a l)(b:Id->Option Ob):elems b z a=some (l.flatMap enc,l.length):=by
 rcases h with ⟨rfl,rfl⟩|⟨x,rfl⟩
 .rfl
 .have e:=gG d l;simp[Ix.elems,e,dM]
def EI{t e:TypeId}(a:P.underlying t=some (.slice e)):aM P t nilS=some (I 0):=by have:bT P (Builtin.len_ #[t] 0 #[Value.slice none 0 0])=some (.int .i64 0):=(by simp[Builtin.len_,underlying,program,Bind.bind,Sem.bind,bT,Pure.pure,a,goInt]);show(bT P (Builtin.len_ #[t] 0 #[Value.slice none 0 0])).map fJ=_;rw[this];rfl
def Sl.len{t e:TypeId}(b:P.underlying t=some (.slice e))(h:Sl enc a l):aM P t a=some (I l.length):=by
 rcases h with ⟨rfl,rfl⟩|⟨x,rfl⟩
 .exact EI b
 .rfl
def Sl.ix(d:∀x,(enc x).length=z)(h:Sl enc a l){k:Nat}(b:k<l.length):aR z a (I k)=some (.aE ((l.drop k).flatMap enc)):=by
 rcases h with ⟨rfl,rfl⟩|⟨x,rfl⟩
 .simp at b
 .have:(0:Int)<=(k:Int)/\(k:Int)<(l.length:Int):=(by omega);simp[aR,dL,yY d,b]
def jF{m:Mem}(d:∀x,(enc x).length=z)(g:0<z){k:Nat}(e:k<l.length):aA true z (.aE ((l.drop k).flatMap enc)) m=some (.agg (enc l[k])):=by
 have b:=d l[k];rw[fX e,dT];simp only[aA];have a:(enc l[k]++(l.drop (k+1)).flatMap enc).isEmpty=false:=by
  cases f:enc l[k]with
  |nil=>rw[f]at b;simp at b;omega
  |cons=>rfl
 rw[a];simp only[fH,cT,rd];rw[aF trivial,aF (by rw[eA];omega),LY (by omega),dM (by omega)]
@[simp] theorem cX(a:Nat)(id:Id)(b o:Nat):aD a (.ptr id b o)=some (.ptr id b (o+a)):=_root_.id rfl
@[simp] theorem xa7(a:Nat)(b:List AV):aD a (.aE b)=some (.aE (b.drop a)):=_root_.id rfl
@[simp] theorem yaf{m:Mem}(x:AV)(a:List AV):aA false 1 (.aE (x::a)) m=some x:=_root_.id rfl
def aQ{m:Mem}{id:Id}{g:Bool}{z a b:Nat}{d:List AV}{e:Bool}(h:m.get id=some (.row d b e)):aA g z (.ptr id b a) m=rd g z (d.drop a):=by simp[aA,h]
@[simp] theorem w6(g:Bool)(z:Nat)(x:AV)(a:List AV)(m:Mem):aA g z (.aE (x::a)) m=rd g z (x::a):=_root_.id rfl
def lY{m:Mem}{id:Id}{z off a:Nat}{b:List AV}{x:AV}{k:Mem->Option R}(h:m.get id=some (.row b a false))(d:x.cells.length=z)(e:off+z<=b.length)(f:x.cells.all AV.one=true) :
    aU z (.ptr id a off) x m k=k (m.set id (.row (cS b off x.cells) a false)):=by
 simp only[aU,h];rw[aF ⟨trivial,d,e,f⟩]
def Mem.uQ(m:Mem)(i:Id)(o:Ob):(m.set i o).get i=some o:=by rw[Mem.cP,aF rfl]
def Mem.kM(m:Mem)(i:Id)(o:Ob):(m.new i o).get i=some o:=by rw[Mem.dH,aF rfl]
def Mem.nK{m:Mem}{i j:Id}{o:Ob}(h:j≠i):(m.set i o).get j=m.get j:=by rw[Mem.cP,aB h]
def Mem.yT{m:Mem}{i j:Id}{o:Ob}(h:j≠i):(m.new i o).get j=m.get j:=by rw[Mem.dH,aB h]
@[simp] theorem Mem.next_set(m:Mem)(i:Id)(o:Ob):(m.set i o).next=m.next:=_root_.id rfl
@[simp] theorem Mem.next_new(m:Mem)(i:Id)(o:Ob):(m.new i o).next=m.next:=_root_.id rfl
def x8c{α β:Type}{x y:Option α}{f:α->Option β}(h:x=y):x.bind f=y.bind f:=by rw[h]
def x24{α:Type}{x y:Bool}{a b:α}(h:x=y):cond x a b=cond y a b:=by rw[h]
def xou{x y:AV}{a b:Option R}(h:x=y):aK x a b=aK y a b:=by rw[h]
attribute [congr] x8c x24 xou
theorem aG{α β:Type}(a:α)(f:α->Option β):(some a).bind f=f a:=_root_.id rfl
theorem bD{α:Type}(a b:α):cond true a b=a:=_root_.id rfl
theorem cZ{α:Type}(a b:α):cond false a b=b:=_root_.id rfl
attribute [simp high] aG bD cZ
attribute [simp ↓ high] aT aV aG bD cZ
@[simp ↓] theorem kK(a:List AV)(id:Id)(m:Mem)(k:AV->Mem->Option R):dG a id m k=k (.ptr id 0 0) (m.new id (.row a 0 false)):=_root_.id rfl
def oR(z b a:Nat)(x:AV):Option Ob->Option Ob
 |some (.row d v false)=>bif decide (v=b/\x.cells.length=z/\a+z<=d.length/\(x.cells.all AV.one)=true)then some (.row (cS d a x.cells) v false)else none
 |_=>none
def qM(z:Nat)(id:Id)(a b:Nat)(x:AV)(m:Mem)(k:Mem->Option R):aU z (.ptr id a b) x m k=(oR z a b x (m.get id)).bind λo=>k (m.set id o):=by
 cases h:m.get id with
 |none=>simp only[aU,h];rfl
 |some o=>
  cases o with
  |map j=>simp only[aU,h];rfl
  |lp d=>simp only[aU,h];rfl
  |bld t e l=>simp only[aU,h];rfl
  |row i v f=>
   cases f with
   |true=>simp only[aU,h];rfl
   |false=>
    simp only[aU,h,oR];by_cases g:v=a/\x.cells.length=z/\b+z<=i.length/\(x.cells.all AV.one)=true
    .rw[aF g,eX g];rfl
    .rw[aB g,eY g];rfl
@[simp ↓] theorem gR(c:AV)(w:Bool)(x:AV)(m:Mem)(k:AV×Mem->Option R):bL c w x m k=(bif sW c w then some (x,m)else some (U,m)).bind k:=_root_.id rfl
@[simp ↓] theorem dZ(c:AV)(w:Bool)(x:Option AV)(m:Mem)(k:AV×Mem->Option R):aL c w x m k=(bif sW c w then x.bind λv=>some (v,m)else some (U,m)).bind k:=_root_.id rfl
@[simp ↓] theorem gS(c:AV)(w:Bool)(x:Option (AV×Mem))(m:Mem)(k:AV×Mem->Option R):fI c w x m k=(bif sW c w then x.bind λp=>some (p.1,p.2)else some (U,m)).bind k:=_root_.id rfl
theorem AZ(z b a:Nat)(x:AV)(d:List AV)(v:Nat):oR z b a x (some (.row d v false))=bif decide (v=b/\x.cells.length=z/\a+z<=d.length/\(x.cells.all AV.one)=true)then some (.row (cS d a x.cells) v false)else none:=_root_.id rfl
def jD(x:AV)(id:Id)(m:Mem)(k:AV->Mem->Option R):dB x id m k=bif x.cells.all AV.one then k (.ptr id 0 0) (m.new id (.row x.cells 0 false))else none:=by
 unfold dB;split
 .rename_i e;rw[e];rfl
 .rename_i e;rw[xip]at e;rw[e];rfl
def sH(g:Bool)(z a b:Nat):Option Ob->Option AV
 |some (.row d v _)=>bif Nat.beq v a then rd g z (d.drop b)else none
 |_=>none
def jB(g:Bool)(z:Nat)(id:Id)(a b:Nat)(m:Mem):aA g z (.ptr id a b) m=sH g z a b (m.get id):=by
 cases h:m.get id with
 |none=>simp only[aA,h];rfl
 |some o=>
  cases o with
  |map j=>simp only[aA,h];rfl
  |lp d=>simp only[aA,h];rfl
  |bld t e l=>simp only[aA,h];rfl
  |row n v f=>
   simp only[aA,h,sH];by_cases i:v=a
   .subst i;simp
   .rw[aB i,show Nat.beq v a=false from by rw[kI];intro x;exact i (fE x)];rfl
theorem T3(g:Bool)(z a b:Nat)(d:List AV)(v:Nat)(f:Bool):sH g z a b (some (.row d v f))=bif Nat.beq v a then rd g z (d.drop b)else none:=_root_.id rfl
def vP(z:Nat)(a:List AV):rd true z a=bif decide (z<=a.length)then some (.agg (a.take z))else none:=by unfold rd;by_cases h:z<=a.length<;>simp[h]
theorem dE(z:Nat)(a:AV)(b:List AV):rd false z (a::b)=some a:=_root_.id rfl
def xpn(a:AV)(b:List AV):rd true 1 (a::b)=some (.agg [a]):=by rw[vP,dN,eX (by omega)];rfl
def xpm(a b:AV)(d:List AV):rd true 2 (a::b::d)=some (.agg [a,b]):=by rw[vP];simp only[dN];rw[eX (by omega)];rfl
def xpl(a b c:AV)(d:List AV):rd true 3 (a::b::c::d)=some (.agg [a,b,c]):=by rw[vP];simp only[dN];rw[eX (by omega)];rfl
def xpk(a b c d:AV)(e:List AV):rd true 4 (a::b::c::d::e)=some (.agg [a,b,c,d]):=by rw[vP];simp only[dN];rw[eX (by omega)];rfl
def xng(e:Nat)(a b c d f g h i:AV):oR 4 e 0 (.agg [f,g,h,i]) (some (.row [a,b,c,d] e false))=bif[f,g,h,i].all AV.one then some (.row [f,g,h,i] e false)else none:=by rw[AZ];simp[cS]
theorem xni(b:List AV)(a:Nat)(d:List AV):cS b a d=b.take a++(d++b.drop (a+d.length)):=_root_.id rfl
attribute [simp high] xpn xpm xpl xpk xng
attribute [simp] jB T3 AZ vP dE xni Mem.cP Mem.dH bQ
attribute [simp ↓] qM jD
def intE(x:Int):List AV:=[I x]
theorem fR(x:Int):(intE x).length=1:=_root_.id rfl
def Sl.ixI(b:∀x,(enc x).length=z)(h:Sl enc a l){k:Int}(d:0<=k)(e:k<l.length):aR z a (I k)=some (.aE ((l.drop k.toNat).flatMap enc)):=by have:=h.ix b (k:=k.toNat) (by omega);rwa[I8 d]at this
def at0(l:List Int)(k:Nat):Int:=l.getD k 0
def fD{l:List Int}{k:Nat}(h:k<l.length):at0 l k=l[k]:=by unfold at0;rw[fU,eJ h];rfl
def nI{m:Mem}{l:List Int}{k:Nat}(a:k<l.length):aA false 1 (.aE ((l.drop k).flatMap intE)) m=some (I (at0 l k)):=by rw[fX a,dT,fD a];rfl
def C5(l:List AV):bU 0 l=bif l.all clean then 2 else 0:=by unfold bU;cases h:l.all clean<;>simp
def xw3(l:List AV):bU 1 l=bif l.all clean then 2 else 0:=by unfold bU;cases h:l.all clean<;>simp
@[simp] theorem yae(l:List AV):bU 3 l=1:=_root_.id rfl
@[simp] theorem yad(l:List AV):bU 4 l=1:=_root_.id rfl
@[simp] theorem yai(v:Value):clean (.sc v)=true:=_root_.id rfl
@[simp] theorem yaj(l:List AV):clean (.agg l)=l.all eM:=_root_.id rfl
@[simp] theorem yah(l:List AV)(n:Nat)(x:Bool):clean (.aN l n x)=true:=_root_.id rfl
@[simp] theorem yal(v:Value):eM (.sc v)=true:=_root_.id rfl
@[simp] theorem yak(l:List AV)(n:Nat)(x:Bool):eM (.aN l n x)=true:=_root_.id rfl
@[simp] theorem yas:Nat.ble 1 2=true:=_root_.id rfl
@[simp] theorem yat:Nat.ble 1 1=true:=_root_.id rfl
@[simp] theorem xgy(a:AV):cU none (tR a) 2=true:=by unfold tR;split<;>rfl
@[simp] theorem yar(a:AV):cU none (tR a) 1=true:=by unfold tR;split<;>rfl
attribute [simp] C5 xw3
def U7{a:aJ}{f:FuncId}{l:List AV}{m b:Mem}{r d:AV}(e:l.all bB=true)(h:a [] f l mem0=some (r,b))(g:frz b.get bI r=some d):aI a f l m=some (d,m):=by unfold aI;rw[yW _ e];simp only[h,g];rw[BQ _ e];rfl
def pI{aC:Id->Option Ob}{id:Id}{cs:List AV}{ver off n z k:Nat}{f x:Bool}(h:aC id=some (.row cs ver f))(b:off+n*z<=cs.length)(Z:((cs.drop off).take (n*z)).all aP=true) :
    frz aC (k+2) (.sref id ver off n z x)=some (.aN ((cs.drop off).take (n*z)) n false):=by
 have e:((cs.drop off).take (n*z)).mapM (frz aC (k+1))=some ((cs.drop off).take (n*z)):=sF λa d=>uR aC k (dJ.mp Z a d)
 simp only[frz,h];rw[aF ⟨trivial,b⟩];show((((cs.drop off).take (n*z)).mapM (frz aC (k+1))).map λl=>AV.aN l n false)=_;rw[e];rfl
def LO{size a:Nat}{id:Id}{b:List AV}{q:Nat}{m:Mem}{k:AV->Mem->Option R}(h:cH q a) :
    cJ size a id (some (b,q)) (.aN [] 0 true) m k=bif decide (q=0)then k (.aN [] 0 true) m else k (.sref id 0 0 q size true) (m.new id (.row b 0 false)):=by
 simp only[cJ,wW,bR,List.take_nil,iW];rw[aF (FP _)];by_cases d:q=0
 .rw[aF d,eX d];rfl
 .rw[aB d,aF h,eY d];rfl
def xc6{z:List AV}{size:Nat}{id:Id}{m:Mem}{k:AV->Mem->Option R}:cQ z [] 0 size id m k=k (.aN [] 0 true) m:=by simp[cQ,jC,eN]
def oD(a:∀x,(enc x).all aP=true):∀l:List α,(l.flatMap enc).all aP=true
 |[]=>rfl
 |x::l=>by rw[dT,MH,a,oD a l];rfl
theorem wI(x:Int):(intE x).all aP=true:=rfl
attribute [simp ↓] xc6
def ZK{z:AV}{x:AV}{id:Id}{m:Mem}{k:AV->Mem->Option R}(a:x.cells=[x])(b:x.one=true)(d:eM x=true):cQ [z] [(0,1,x)] 1 1 id m k=k (.aN [x] 1 true) m:=by simp[cQ,jC,eN,a,b,d,rL]
@[simp ↓] theorem ZM{z:AV}{x:Int}{id:Id}{m:Mem}{k:AV->Mem->Option R}:cQ [z] [(0,1,I x)] 1 1 id m k=k (.aN [I x] 1 true) m:=ZK rfl rfl rfl
def Gr{α:Type}(z:Nat)(d:α->List AV)(u t:Nat)(m:Mem)(a:AV)(l:List α):Prop:=
 (a=nilS/\l=[])\/∃s b,a=.sref (u,s,t) b 0 l.length z true/\m.get (u,s,t)=some (.row (l.flatMap d) b false)
def Gr.nil{u t:Nat}{m:Mem}:Gr z enc u t m nilS []:=Or.inl ⟨rfl,rfl⟩
def Gr.frame{u t:Nat}{m m':Mem}(h:Gr z enc u t m a l)(b:∀s,m'.get (u,s,t)=m.get (u,s,t)):Gr z enc u t m' a l:=by
 rcases h with h|⟨s,ver,h1,h2⟩
 .exact Or.inl h
 .exact Or.inr ⟨s,ver,h1,by rw[b];exact h2⟩
def Gr.app(i:∀x,(enc x).length=z)(p:0<z){u t s0 bytes:Nat}{m:Mem}(f:cH (l.length+1) bytes)(h:Gr z enc u t m a l)(x:α) :
    ∃g d,(∀{R:Type} (k:AV->Mem->Option R),cJ z bytes (u,s0,t) (some (enc x,1)) a m k=k g d)/\Gr z enc u t d g (l++[x])/\d.next=m.next/\∀j:Id,j.2.2≠t->d.get j=m.get j:=by
 rcases h with ⟨rfl,rfl⟩|⟨s,b,rfl,o⟩
 .refine⟨.sref (u,s0,t) 0 0 1 z true,m.new (u,s0,t) (.row (enc x) 0 false),λk=>?_,Or.inr ⟨s0,0,rfl,by simp⟩,rfl,λj e=>?_⟩
  .simp only[cJ];rw[aB (by omega),aF (by simpa using f)]
  .rw[Mem.dH,aB (by rintro rfl;exact e rfl)]
 .have n:=gG i l;refine⟨.sref (u,s,t) (b+1) 0 (l.length+1) z true,m.set (u,s,t) (.row (l.flatMap enc++enc x) (b+1) false),λk=>?_,Or.inr ⟨s,b+1,by simp,by simp⟩,rfl,λj e=>?_⟩
  .simp only[cJ,o];rw[aF ⟨trivial,trivial,by omega,f⟩,aB (by omega),aB (by rw[n,lT];omega),bC,dM (by omega)]
  .rw[Mem.cP,aB (by rintro rfl;exact e rfl)]
def Gr.frz(e:∀x,(enc x).length=z)(Z:∀x,(enc x).all aP=true){u t:Nat}{m:Mem}(h:Gr z enc u t m a l):∃d,Sl enc d l/\frz m.get bI a=some d:=by
 rcases h with ⟨rfl,rfl⟩|⟨s,b,rfl,g⟩
 .exact⟨nilS,Or.inl ⟨rfl,rfl⟩,rfl⟩
 .have i:=gG e l;refine⟨.aN (l.flatMap enc) l.length false,Sl.lit l false,?_⟩
  have:=pI (aC:=m.get) (id:=(u,s,t)) (cs:=l.flatMap enc) (ver:=b) (off:=0) (n:=l.length) (z:=z) (k:=4) (f:=false) (x:=true) g (by omega) (by
   rw[bC,dM (by omega)];exact oD Z l)
  rw[bC,dM (by omega)]at this;exact this
def x0u{b:Id->Option Ob}{l:List AV}(h:l.all bB=true):Go.Ix.frz b bI (.tup l)=some (.tup l):=by
 have e:l.mapM (Go.Ix.frz b 5)=some l:=sF λa d=>kN _ 3 (dJ.mp h a d)
 show(l.mapM (Go.Ix.frz b 5)).map AV.tup=_;rw[e];rfl
theorem dF:NN=18446744073709551616:=rfl
def xox{d:BinOp}{t:TypeId}{x y:Operand}{a b r:AV}(h:zL P d t x y a b=some r):bY P d t x y a b=some r:=by unfold bY;rw[h]
def xot{s d:TypeId}{a r:AV}(h:KU P s d a=some r):mM P s d a=some r:=by unfold mM;rw[h]
structure Edge where
 fr:Int
 to:Int
 jump:Int
 wt:Int
def Edge.c(e:Edge):List AV:=[I e.fr,I e.to,I e.jump,I e.wt]
theorem Edge.len(e:Edge):e.c.length=4:=rfl
def wi(a b c:Int):Bool:=decide (b<=a/\a<=c)
def xJ{a b c:Int}(h:wi a b c=true):b<=a/\a<=c:=sA h
def wi_iff{a b c:Int}:wi a b c=true↔b<=a/\a<=c:=cq
def xlh(d:Nat)(a b c:Int)(m:Mem):aI (aH (d+1)) yJ [I a,I b,I c] m=some (B (wi a b c),m):=by refine gA rfl (m':=⟨[],1⟩) ?_ rfl;rw[x7i];unfold pd fC VL wi;by_cases h:b<=a<;>by_cases e:a<=c<;>simp[h,e,mem0]
def jA:prog.underlying fA=some (.slice eB):=by kernel_rfl
def mU:hY=[I 0]:=by kernel_rfl
def xlm(d:Nat)(a:Int)(m:Mem)(b:-9223372036854775808<a)(e:a<=9223372036854775807):aI (aH (d+1)) EA [I a] m=some (I (a.natAbs:Int),m):=by refine gA rfl (m':=⟨[],1⟩) ?_ rfl;rw[x7j];unfold pe bW VM;simp(disch:=omega) [mem0,bQ];split<;>omega
def J5(d:Nat)(a b c:Int)(m:Mem):aI (aH (d+1)) uI [I a,I b,I c] m=some (B (wi a b c),m):=by refine gA rfl (m':=⟨[],1⟩) ?_ rfl;rw[x3v];unfold gh fC OB wi;by_cases h:b<=a<;>by_cases e:a<=c<;>simp[h,e,mem0]
def yr(d:Nat)(a b:Int)(m:Mem)(h:-9223372036854775807<=b/\b<=9223372036854775807):aI (aH (d+2)) N6 [I a,I b] m=some (B (wi a (-b) b),m):=by refine gA rfl (m':=⟨[],1⟩) ?_ rfl;rw[x3x];unfold gm bA OF;simp(disch:=omega) [mem0,J5,bQ]
def xko(d:Nat)(a:Int)(m:Mem)(b:-9223372036854775808<a)(e:a<=9223372036854775807):aI (aH (d+1)) N7 [I a] m=some (I (a.natAbs:Int),m):=by refine gA rfl (m':=⟨[],1⟩) ?_ rfl;rw[x3y];unfold gn bW OG;simp(disch:=omega) [mem0,bQ];split<;>omega
abbrev T(s:ByteArray):AV:=.sc (.string s)
abbrev U8(c:Int):AV:=.sc (.int .u8 c)
def qF(b:UInt8):List AV:=[U8 b.toNat]
theorem XF(b:UInt8):(qF b).length=1:=rfl
def AT(x y:Operand)(a b:Int):bY prog .geq hZ x y (U8 a) (U8 b)=some (B (decide (b<=a))):=by kernel_rfl
def XD(x y:Operand)(a b:Int):bY prog .leq hZ x y (U8 a) (U8 b)=some (B (decide (a<=b))):=by kernel_rfl
def xmj(x y:Operand)(a b:Int):bY prog .gtr hZ x y (U8 a) (U8 b)=some (B (decide (b<a))):=by kernel_rfl
def xmi(x y:Operand)(a b:Int):bY prog .lss hZ x y (U8 a) (U8 b)=some (B (decide (a<b))):=by kernel_rfl
def xmk(x y:Operand)(a b:Int):bY prog .eql hZ x y (U8 a) (U8 b)=some (B (decide (a=b))):=by kernel_rfl
def xmh(x y:Operand)(a b:Int):bY prog .neq hZ x y (U8 a) (U8 b)=some (B (!decide (a=b))):=by kernel_rfl
def iB(a b:ByteArray):Bool:=a.toList == b.toList
def xL(x y:Operand)(a b:ByteArray):bY prog .eql bK x y (T a) (T b)=some (B (iB a b)):=by kernel_rfl
@[simp] theorem YF(s:ByteArray):fZ (T s)=some (I s.size):=rfl
def XC:prog.underlying tH=some (.slice hZ):=by kernel_rfl
def xme:prog.underlying hZ=some (.int .u8):=by kernel_rfl
def XA:prog.underlying bK=some .string:=by kernel_rfl
def xf0(s:ByteArray):mM prog bK tH (T s)=some (.aN (s.data.toList.flatMap qF) s.data.toList.length false):=by
 have e:(s.data.toList.map λb=>U8 b.toNat)=s.data.toList.flatMap qF:=by
  induction s.data.toList with
  |nil=>rfl
  |cons b l a=>rw[fY,dT,a];rfl
 refine xot ?_;simp only[KU,dO,LG,XC,xme,XA];rw[e,gG (z:=1) XF s.data.toList,nS]
def x0g{s:ByteArray}{k:Nat}(h:k<s.data.toList.length):kJ prog bK (T s) (I k)=some (U8 (s.data.toList[k]).toNat):=by have:bT prog (Instr.index bK (.string s) (.int .i64 k))=some (.int .u8 (s.data.toList[k]).toNat):=(by have a:s[k]?=some s.data.toList[k]:=(by have b:k<s.size:=(by simpa using h);rw[getElem?_pos s k b];rfl);simp only[Instr.index,asIntOf,underlying,program,Bind.bind,Sem.bind,bT,Pure.pure,XA];rw[aF (by omega),hJ,a];rfl);have e:kJ prog bK (T s) (I k)=(bT prog (Instr.index bK (.string s) (.int .i64 k))).map fJ:=(by simp only[kJ,dO]);rw[e,this];rfl
def LB(p:Bool)(c:Int):Bool:=(decide (97<=c)&&decide (c<=122))||(decide (65<=c)&&decide (c<=90))||(p&&(decide (c=45)||(decide (48<=c)&&decide (c<=57))))
def pA:Nat->List UInt8->Bool
 |_,[]=>true
 |k,c::r=>LB (decide (0<k)) c.toNat&&pA (k+1) r
def nmOK(s:ByteArray):Bool:=decide (0<s.size)&&decide (s.size<=12)&&pA 0 s.data.toList
def xdr{m:Mem}{l:List UInt8}{k:Nat}(a:k<l.length):aA false 1 (.aE ((l.drop k).flatMap qF)) m=some (U8 l[k].toNat):=by rw[fX a,dT];rfl
def xyo(d:aJ)(Z:FHs)(u:Nat){a:AV}{l:List UInt8}(h:Sl qF a l)(E:l.length<=12):∀(b:List UInt8) (k j:Nat) (m:Mem) (Y:Nat),l.drop k=b->b.length<j ->
    H4 d Z u j a (I l.length) (I k) m Y=some (B (pA k b),m):=by
 intro b;induction b with
 |nil=>intro k j m Y f g;obtain⟨j,rfl⟩:=dQ g;have i:¬((k:Int)<(l.length:Int)):=(by have:=gZ.mp f;omega);simp only[H4];unfold OL qi;simp[i,pA]
 |cons e r D=>
  intro k j m Y f g;obtain⟨j,rfl⟩:=dQ g;obtain⟨i,o,f⟩:=gW f;have hk':(k:Int)<(l.length:Int):=(by omega);have ix:=h.ix XF i;have ld:=xdr (m:=m) i;have next:∀Y,H4 d Z u j a (I l.length) (I (cG ((k:Int)+1))) m Y=some (B (pA (k+1) r),m):=λY=>by rw[bQ];exact D (k+1) j m Y f (by simp at g;omega)
  rw[o]at ld;simp only[H4];unfold OL qg qh OM ON;simp only[bV,hk',bG,aT,aG,ix,ld,AT];simp only[pA,LB];generalize (e.toNat:Int)=c;by_cases p:97<=c<;>by_cases t:c<=122<;>by_cases w:65<=c<;>by_cases x:c<=90<;>by_cases y:48<=c<;>by_cases A:c<=57<;>by_cases C:c=45 <;>
   first
   |(exfalso;omega)
   |(by_cases n:0<k<;>simp[p,t,w,x,y,A,C,n,AT,XD,xmk,next])
def xk1(d:Nat)(s:ByteArray)(m:Mem):aI (aH (d+1)) CG [T s] m=some (B (nmOK s),m):=by
 refine gA rfl (m':=⟨[],1⟩) ?_ rfl;rw[x31];have f:iB s ⟨#[]⟩=decide (s.size=0):=by
  unfold iB;rw[ByteArray.toList_eq,ByteArray.toList_eq];cases Z:s.data.toList with
  |nil=>have:s.size=0:=(by show s.data.size=0;rw[<-pV,Z];rfl);simp[this]
  |cons x r=>have:s.size=r.length+1:=(by show s.data.size=_;rw[<-pV,Z];rfl);simp[this]
 have g:s.data.toList.length=s.size:=rfl;unfold gt bW OK nmOK;simp only[xL,f,aG];by_cases b:s.size=0
 .simp[b,mem0]
 .by_cases a:s.size<=12
  .have h:=xyo (aH d) [] 0 (Sl.lit (enc:=qF) s.data.toList false) (by omega) s.data.toList 0 NN ⟨[],1⟩ (Y:=12) rfl (by rw[dF];omega);have e:aM prog tH (.aN (s.data.toList.flatMap qF) s.data.toList.length false)=some (I s.data.toList.length):=(Sl.lit (enc:=qF) s.data.toList false).len XC;unfold qf;simp only[xf0];simp[b,a,show ¬((12:Int)<s.size) by omega,show 0<s.size by omega,mem0];exact h
  .simp[b,a,show(12:Int)<s.size by omega,mem0]
abbrev Ints(a:AV)(l:List Int):Prop:=Sl intE a l
def exI(t:List Int)(e:Edge):Int:=at0 t e.to.toNat-at0 t e.fr.toNat+e.jump
def TurnsIn(t:List Int):Prop:=∀x∈t,-1000000<=x/\x<=1000000
def TurnsIn.get{t:List Int}(h:TurnsIn t)(k:Nat):-1000000<=at0 t k/\at0 t k<=1000000:=by
 unfold at0;rw[fU];cases a:t[k]? with
 |none=>simp
 |some x=>simpa using h x (mJ a)
structure EdgeIn (n:Nat) (e:Edge):Prop where
 f0:0<=e.fr
 f1:e.fr<n
 t0:0<=e.to
 t1:e.to<n
 j0:-1000<=e.jump
 j1:e.jump<=1000
 w0:0<=e.wt
 w1:e.wt<=1000
def V4(a:aJ)(f:AV)(p:Int->Bool):Prop:=∀(Z:FHs) (x:Int) (m:Mem),∃n,fL a Z 2 f [I x] m=some (B (p x),⟨m.hp,n⟩)
def E5(p:Int->Bool):Int->List Int->Int
 |_,[]=>-1
 |k,x::r=>bif p x then k else E5 p (k+1) r
def xfh{p:Int->Bool}:∀{l:List Int} {k:Int},0<=k->(decide (0<=E5 p k l))=l.any p
 |[],k,_=>rfl
 |x::r,k,h=>by
  unfold E5;cases c:p x
  .simp only[cond_false,W1,c,GE];exact xfh (by omega)
  .simp[c,h]
def xza(d:Nat)(Z:FHs){a f:AV}{l:List Int}{p:Int->Bool}(h:Ints a l)(F:l.length<1000000)(t:V4 (aH d) f p)(u:Nat):∀(b:List Int) (k j:Nat) (m:Mem) (Y:Nat),l.drop k=b->b.length<j ->
    ∃n,vD (aH d) Z u j a f (I l.length) (I k) m Y=some (I (E5 p k b),⟨m.hp,n⟩):=by
 intro b;induction b with
 |nil=>intro k j m Y e g;obtain⟨j,rfl⟩:=dQ g;have i:¬((k:Int)<(l.length:Int)):=(by have:=gZ.mp e;omega);simp only[vD];unfold Z8;simp[i,QH,E5];exact⟨m.next,rfl⟩
 |cons x r E=>
  intro k j m Y e g;obtain⟨j,rfl⟩:=dQ g;obtain⟨i,o,e⟩:=gW e;have hk':(k:Int)<(l.length:Int):=(by omega);have ix:=h.ix fR i;have w:at0 l k=x:=(by rw[fD i,o]);obtain⟨y,A⟩:=t Z x m;obtain⟨C,D⟩:=E (k+1) j ⟨m.hp,y⟩ (Y+11) e (by simp at g;omega);simp only[vD];unfold Z8;simp(disch:=omega) [hk',ix,nI,w,A,E5];cases c:p x
  .simp(disch:=omega);exact⟨C,D⟩
  .simp
def xlq(d:Nat)(Z:FHs){a f:AV}{l:List Int}{p:Int->Bool}(h:Ints a l)(b:l.length<1000000)(e:V4 (aH d) f p)(m:Mem):∃n,aH (d+1) Z A7 [a,f] m=some (I (E5 p 0 l),⟨m.hp,n⟩):=by obtain⟨n,g⟩:=xza d Z h b e m.next l 0 NN ⟨m.hp,m.next+1⟩ 4 rfl (by rw[dF];omega);refine⟨n,?_⟩;rw[xgi];unfold MW bA GN QG;simp[h.len jA];exact g
def xl0(d:Nat)(Z:FHs){a f:AV}{l:List Int}{p:Int->Bool}(h:Ints a l)(b:l.length<1000000)(e:V4 (aH d) f p)(m:Mem):∃n,aH (d+2) Z A9 [a,f] m=some (B (l.any p),⟨m.hp,n⟩):=by obtain⟨n,g⟩:=xlq d Z h b e ⟨m.hp,m.next+1⟩;refine⟨n,?_⟩;rw[x4z];unfold jm bA QU;simp only[g,V5,vL,xfh (MR 0)]
def zm(d:Nat){a f:AV}{l:List Int}{p:Int->Bool}(h:Ints a l)(b:l.length<1000000)(e:V4 (aH d) f p)(Z:bB f=true)(m:Mem):aI (aH (d+2)) A9 [a,f] m=some (B (l.any p),m):=by obtain⟨n,g⟩:=xl0 d [] h b e mem0;exact gA (by simp[h.bB,Z]) g rfl
end Go.Ix
namespace Go.Proofs.YtjngclcijnpooaaGreatDoor
open Go.ChangeShapes Go.WideShapes Go.ChangeAt Go.RowKit Go.Ix
def Tryz.own:ownKnob prog.godebug=none:=by kernel_rfl
def Tryz.laidOut:laidOutB prog=true:=by kernel_rfl
def u9{q:List AV}(h:Sh prog eB q):∃n,q=[I n]:=by obtain⟨n,h,-⟩:=Sh.int_inv (t:=eB) (k:=.i64) (by kernel_rfl) h;exact⟨n,h⟩
def BJ{q:List AV}(h:Sh prog bK q):∃s,q=[T s]:=by
 have b:prog.underlying bK=some .string:=(by kernel_rfl);cases h with
 |string a s Z=>exact⟨s,rfl⟩
 |int a=>rw[b]at a;cases a
 |nilS a=>rw[b]at a;cases a
 |slice a=>rw[b]at a;cases a
 |bool a=>rw[b]at a;cases a
 |float a=>rw[b]at a;cases a
 |struct a=>rw[b]at a;cases a
 |array a=>rw[b]at a;cases a
def D8{t:TypeId}{l:List (TypeId×Nat)}(h:((prog.underlying t).bind λd=>match d with | .struct a=>some (a.toList.map λf=>(f.type,f.offset))|_=>none)=some l):∃a,prog.underlying t=some (.struct a)/\(a.toList.map λf=>(f.type,f.offset))=l:=by
 cases b:prog.underlying t with
 |none=>rw[b]at h;cases h
 |some d=>rw[b]at h;cases d<;>first|exact⟨_,rfl,by simpa using h⟩|cases h
end Go.Proofs.YtjngclcijnpooaaGreatDoor
namespace Go.Proofs.YtjngclcijnpooaaGreatDoor
open Go.ChangeShapes Go.WideShapes Go.ChangeAt Go.RowKit Go.Ix
def laid10:List (String×DataW Unit):=[("math/bits.deBruijn32tab",Rows.laid_math_bits_deBruijn32tab),("math/bits.deBruijn64tab",Rows.laid_math_bits_deBruijn64tab),("internal/strconv.uint64pow10",Rows.laid_internal_strconv_uint64pow10),("unicode/utf8.acceptRanges",Rows.laid_unicode_utf8_acceptRanges),("strconv.ErrRange",Rows.laid_strconv_ErrRange),("strconv.ErrSyntax",Rows.laid_strconv_ErrSyntax),("unicode/utf8.first",Rows.laid_unicode_utf8_first)]
def xbi(u:TypeId)(h:prog.typeName? 3 u=some "*errors.errorString"):u=311:=
 typeName_ptr_named (nm:="errors.errorString") (by rw[show "*"++"errors.errorString" = "*errors.errorString" by decide];kernel_rfl) (by kernel_rfl) (by decide) u (by rw[show "*"++"errors.errorString" = "*errors.errorString" by decide];exact h)
def WW{P:Program}{W d:World}{n:String}{e:Array Value}(i:Ext (λb=>b<W.heap.size) W d)(h:W.var? P n=some e):d.var? P n=some e:=by
 unfold World.var? at h ⊢;cases f:P.globalNamed n with
 |none=>simp[f]at h
 |some g=>
  simp only[f,V5]at h ⊢;have a:g<W.heap.size:=by
   rcases kS g W.heap.size with h'|h'
   .exact h'
   .simp[J2 h']at h
  rw[i.same g a a];exact h
def known_laid{W:World}(h:laidMetH prog laid10 W):∀a,Ext (λb=>b<W.heap.size) W a->xD prog a:=by
 rw[MakeChecks.laidMetH_plain _ _ _ (by kernel_rfl)]at h;intro a d;have j:Lib.TabIs prog W "internal/strconv.uint64pow10" .u64 Lib.pow10Tab:=
  Lib.tabIs_of_head (g:=1) (t:=263) (e:=242) (n:=20) (by kernel_rfl) (by kernel_rfl) (by kernel_rfl) (by kernel_rfl) (by kernel_rfl) (by kernel_rfl) (rest:=[("unicode/utf8.acceptRanges",Rows.laid_unicode_utf8_acceptRanges),("strconv.ErrRange",Rows.laid_strconv_ErrRange),("strconv.ErrSyntax",Rows.laid_strconv_ErrSyntax),("unicode/utf8.first",Rows.laid_unicode_utf8_first)]) h.tail.tail
 obtain⟨l,m,f,-⟩:=laid_sentinel (g:=5) (ti:=127) (tp:=311) (te:=313) (ts:=9) h.tail.tail.tail.tail (by kernel_rfl) (by kernel_rfl) Tryz.underlying127 xbi Tryz.underlying311 Tryz.underlying313 rfl rfl Tryz.underlying9 (by kernel_rfl) (by kernel_rfl);obtain⟨o,p,i,-⟩:=laid_sentinel (g:=4) (ti:=127) (tp:=311) (te:=313) (ts:=9) h.tail.tail.tail.tail.tail (by kernel_rfl) (by kernel_rfl) Tryz.underlying127 xbi Tryz.underlying311 Tryz.underlying313 rfl rfl Tryz.underlying9 (by kernel_rfl) (by kernel_rfl);exact⟨λ_=>WW d j,λ_=>⟨⟨_,WW d i,_,_,rfl⟩,_,WW d f,_,_,rfl⟩⟩
def xx9(a:Os):(World.holding prog a ⟨#[],#[],[]⟩).layFits prog laid10 []=true:=by kernel_rfl
def xx8(a:Os):(World.holding prog a ⟨#[],#[],[]⟩).layIfaces prog laid10 (World.laidAll prog a laid10)=true:=by kernel_rfl
def laid_met(b:Os)(a:Array Value):laidMetH prog laid10 ((World.laidAll prog b laid10).forCall (λ_ _=>0) ⟨#[],a,[]⟩).memory:=by rw[MakeChecks.laidMetH_plain _ _ _ (by kernel_rfl)];exact laidMet_laidAll _ (xx9 b) (xx8 b)
def mapsRowed10:mapsRowed prog=true:=by kernel_rfl
def looks10:true=prog.looks []:=by kernel_rfl
end Go.Proofs.YtjngclcijnpooaaGreatDoor
namespace Go.Ix
def isDig(c:UInt8):Bool:=decide (48<=c.toNat)&&decide (c.toNat<=57)
def valD(b:Nat)(l:List UInt8):Nat:=l.foldl (λa c=>10*a+(c.toNat-48)) b
def kF(l:List UInt8)(d:Nat):Option Int:=
 let r:=if l.head?=some 45 then l.tail else l
 if r=[]\/d<r.length\/(r.head?=some 48/\1<l.length)\/r.all isDig=false then none else some (if l.head?=some 45 then -(valD 0 r:Int)else valD 0 r)
def XE{a b:UInt8}(h:a.toNat=b.toNat):a=b:=UInt8.toNat_inj.1 h
def AU{u:Nat}(h:u<10):(UInt8.ofNat (48+u)).toNat=48+u:=by rw[UInt8.toNat_ofNat'];omega
def xee{u:Nat}(h:u<10):isDig (UInt8.ofNat (48+u))=true:=by unfold isDig;rw[AU h];simp;omega
def EN{c:UInt8}(h:isDig c=true):48<=c.toNat/\c.toNat<=57:=by unfold isDig at h;simpa using h
def zr(a:Nat)(l k:List UInt8):valD a (l++k)=valD (valD a l) k:=by unfold valD;rw[fa]
theorem IF(a:Nat)(c:UInt8):valD a [c]=10*a+(c.toNat-48):=rfl
def WX:∀(l:List UInt8) (a:Nat),a<=valD a l
 |[],a=>bO _
 |c::r,a=>by have:=WX r (10*a+(c.toNat-48));show a<=valD (10*a+(c.toNat-48)) r;omega
def zq:∀(l:List UInt8) (a:Nat),l.all isDig=true->valD a l<(a+1)*10 ^ l.length
 |[],a,_=>by simp[valD]
 |c::r,a,h=>by rw[dP,cI]at h;have d:=EN h.1;have e:=zq r (10*a+(c.toNat-48)) h.2;show valD (10*a+(c.toNat-48)) r<_;rw[dN,Nat.pow_succ];have b:(10*a+(c.toNat-48)+1)*10 ^ r.length<=(a+1)*10*10 ^ r.length:=nT _ (by omega);rw[Nat.mul_assoc,Nat.mul_comm 10 (10 ^ r.length)]at b;omega
structure Digs (l:List UInt8) (u:Nat):Prop where
 all:l.all isDig=true
 val:valD 0 l=u
 ne:l≠[]
 hd:l.head?=some 48->l=[48]
def F2:∀(k u:Nat),1<=k->u<10 ^ k->Digs (eW k u) u
 |0,u,h,_=>absurd h (by decide)
 |k+1,u,_,h=>by
  unfold eW;by_cases c:u<10
  .rw[aF c];refine⟨by rw[dP,xee c];rfl,?_,by simp,?_⟩
   .rw[IF,AU c];omega
   .intro e;simp only[List.head?_cons,bN]at e;rw[e]
  .rw[aB c];have f:1<=k:=by
    rcases k with _|k
    .simp at h;omega
    .omega
   have a:=F2 k (u / 10) f (by rw[Nat.pow_succ]at h;omega);have b:u % 10<10:=G7 _ (by omega);refine⟨by rw[MH,a.all,dP,xee b];rfl,?_,by simp,?_⟩
   .rw[zr,a.val,IF,AU b];omega
   .intro e;rw[List.head?_append]at e;obtain⟨x,r,d⟩:∃x r,eW k (u / 10)=x::r:=by
     cases l:eW k (u / 10)with
     |nil=>exact absurd l a.ne
     |cons x r=>exact⟨x,r,rfl⟩
    rw[d]at e;have g:x=48:=(by simpa using e);have i:=a.hd (by rw[d,g];rfl);have j:=a.val;rw[i]at j;have:valD 0 [48]=0:=rfl;omega
def x2s:∀(l:List UInt8) (k:Nat),Digs l (valD 0 l)->l.length<=k->eW k (valD 0 l)=l:=by
 intro l;induction hn:l.length generalizing l with
 |zero=>intro k h _;exact absurd (rM.1 hn) h.ne
 |succ n u=>
  intro k h w;obtain⟨k,rfl⟩:∃j,k=j+1:=⟨k-1,by omega⟩;obtain⟨r,c,rfl⟩:∃r c,l=r++[c]:=⟨l.dropLast,l.getLast h.ne,(fe h.ne).symm⟩;have d:=h.all;rw[MH,cI]at d;have y:=EN (by simpa using d.2);have f:r.length=n:=(by simpa using hn);by_cases i:r=[]
  .subst i;rw[iW,IF];unfold eW;rw[aF (by omega)];congr 1;exact XE (by rw[AU (by omega)];omega)
  .obtain⟨x,a,rfl⟩:∃x a,r=x::a:=by
    cases r with
    |nil=>exact absurd rfl i
    |cons x a=>exact⟨x,a,rfl⟩
   have b:x≠48:=λe=>by have:=h.hd (by rw[e];rfl);simp at this
   have m:=EN (c:=x) (by
    have:=d.1
    rw[dP,cI]at this
    exact this.1)
   have o:49<=x.toNat:=by
    rcases kS x.toNat 49 with h1|h1
    .exact absurd (XE (by show x.toNat=48;omega)) b
    .exact h1
   have p:1<=valD 0 (x::a):=by have:=WX a (10*0+(x.toNat-48));show 1<=valD (10*0+(x.toNat-48)) a;omega
   have t:Digs (x::a) (valD 0 (x::a)):=⟨d.1,rfl,by simp,λe=>by
    simp only[List.head?_cons,bN]at e
    exact absurd e b⟩
   have g:=u (x::a) f k t (by omega);rw[zr,IF];generalize valD 0 (x::a)=v at p g;unfold eW;rw[aB (by omega),show(10*v+(c.toNat-48)) / 10=v from by omega,show(10*v+(c.toNat-48)) % 10=c.toNat-48 from by omega,g];congr 2;exact XE (by rw[AU (by omega)];omega)
def xwh{l:List UInt8}{d:Nat}{n:Int}(A:d<=18)(h:kF l d=some n):dI n=l/\-1000000000000000000<n/\n<1000000000000000000:=by
 unfold kF at h;dsimp only at h;generalize a:(if l.head?=some 45 then l.tail else l)=r at h;by_cases f:r=[]\/d<r.length\/(r.head?=some 48/\1<l.length)\/r.all isDig=false
 .rw[aF f]at h;cases h
 .rw[aB f]at h;simp only[not_or,Bool.not_eq_false]at f;obtain⟨g,D,y,o⟩:=f;have u:=zq r 0 o;have C:10 ^ r.length<=10 ^ 18:=Nat.pow_le_pow_right (by omega) (by omega);have i:∀b:r.head?=some 48,r=[48]/\l.head?≠some 45:=by
   intro b;have j:¬1<l.length:=λp=>y ⟨b,p⟩
   by_cases c:l.head?=some 45
   .rw[aF c]at a;cases l with
    |nil=>cases c
    |cons x t=>simp only[List.tail_cons]at a;simp only[dN]at j;have:t=[]:=rM.1 (by omega);rw[<-a,this]at g;exact absurd rfl g
   .rw[aB c]at a;subst a;refine⟨?_,c⟩;cases l with
    |nil=>cases b
    |cons x t=>simp only[dN]at j;have:t=[]:=rM.1 (by omega);subst this;simp only[List.head?_cons,bN]at b;rw[b]
  have w:Digs r (valD 0 r):=⟨o,rfl,g,λb=>(i b).1⟩;have e:=x2s r 20 w (by omega);by_cases c:l.head?=some 45
  .rw[aF c]at h a;cases h;have m:0<valD 0 r:=by
    rcases Nat.eq_zero_or_pos (valD 0 r)with h0|h0
    .exfalso;rw[h0]at e;have:r=[48]:=(by rw[<-e];rfl);exact(i (by rw[this];rfl)).2 c
    .exact h0
   refine⟨?_,by omega,by omega⟩;unfold dI;rw[aF (by omega),show(-(valD 0 r:Int)).natAbs=valD 0 r from by omega,e];cases l with
   |nil=>cases c
   |cons x t=>simp only[List.head?_cons,bN]at c;rw[c,<-a];rfl
  .rw[aB c]at h a;cases h;refine⟨?_,by omega,by omega⟩;unfold dI;rw[aB (by omega),show((valD 0 r:Int)).toNat=valD 0 r from by omega,e,a]
def xv3{c:UInt8}(h:isDig c=true):c≠45:=by rintro rfl;exact absurd h (by decide)
def lW(l:List UInt8):List UInt8:=if l.head?=some 45 then l.tail else l
def JR{n:Int}(l:-9223372036854775808<=n)(m:n<=9223372036854775807)(d:Nat):kF (dI n) d=if(lW (dI n)).length<=d then some n else none:=by
 unfold dI;by_cases c:n<0
 .rw[aF c];have a:=F2 20 n.natAbs (by omega) (by omega);have g:lW (45::eW 20 n.natAbs)=eW 20 n.natAbs:=(by unfold lW;rw[aF (show(45::eW 20 n.natAbs).head?=some 45 from rfl)];rfl);rw[g];unfold kF;dsimp only
  rw[aF (show(45::eW 20 n.natAbs).head?=some 45 from rfl),List.tail_cons];have i:¬((eW 20 n.natAbs).head?=some 48/\1<(45::eW 20 n.natAbs).length):=(by rintro⟨e,-⟩;have b:=a.val;rw[a.hd e]at b;have:valD 0 [48]=0:=rfl;omega);by_cases f:(eW 20 n.natAbs).length<=d
  .rw[aF f,aB (by
    rintro(h|h|h|h)
    .exact a.ne h
    .omega
    .exact i h
    .rw[a.all]at h;cases h),aF (show(45::eW 20 n.natAbs).head?=some 45 from rfl),a.val]
   congr 1;omega
  .rw[aB f,aF (.inr (.inl (by omega)))]
 .rw[aB c];have a:=F2 20 n.toNat (by omega) (by omega);have j:¬(eW 20 n.toNat).head?=some 45:=by
   cases e:eW 20 n.toNat with
   |nil=>simp
   |cons x r=>have b:=a.all;rw[e,dP,cI]at b;simp only[List.head?_cons,bN];exact xv3 b.1
  have g:lW (eW 20 n.toNat)=eW 20 n.toNat:=(by unfold lW;rw[aB j]);rw[g];unfold kF;dsimp only
  rw[aB j];have i:¬((eW 20 n.toNat).head?=some 48/\1<(eW 20 n.toNat).length):=(by rintro⟨e,b⟩;rw[a.hd e]at b;simp at b);by_cases f:(eW 20 n.toNat).length<=d
  .rw[aF f,aB (by
    rintro(h|h|h|h)
    .exact a.ne h
    .omega
    .exact i h
    .rw[a.all]at h;cases h),aB j,a.val]
   congr 1;omega
  .rw[aB f,aF (.inr (.inl (by omega)))]
def YZ:∀(l:List UInt8) (a:Nat),l.all isDig=true->valD a l<18446744073709551616->Lib.parseUint10 a l=.ok (valD a l)
 |[],a,_,_=>rfl
 |c::r,a,h,d=>by rw[dP,cI]at h;have b:=EN h.1;have hv':valD (10*a+(c.toNat-48)) r<18446744073709551616:=d;have f:=WX r (10*a+(c.toNat-48));have e:=YZ r (a*10+(c.toNat-48)) h.2 (by rw[Nat.mul_comm a 10];exact hv');unfold Lib.parseUint10;rw[aF b,aB (by omega),aB (by omega),e,Nat.mul_comm a 10];rfl
def x8m{n:Int}(g:-9223372036854775808<=n)(h:n<=9223372036854775807):Lib.atoiAll (dI n)=.ok n:=by
 unfold dI;by_cases c:n<0
 .rw[aF c];have a:=F2 20 n.natAbs (by omega) (by omega);have d:Lib.parseMag (eW 20 n.natAbs)=.ok n.natAbs:=(by unfold Lib.parseMag;rw[aB a.ne,YZ _ 0 a.all (by rw[a.val];omega),a.val]);unfold Lib.atoiAll;dsimp only
  rw[aF (Or.inr (show(45:UInt8).toNat=45 from rfl)),d];dsimp only
  rw[aB (by
   rintro⟨b,-⟩
   exact b rfl),aB (by
   rintro⟨-,b⟩
   omega),aF (show(45:UInt8).toNat=45 from rfl)]
  congr 1;omega
 .rw[aB c];have a:=F2 20 n.toNat (by omega) (by omega);have d:Lib.parseMag (eW 20 n.toNat)=.ok n.toNat:=(by unfold Lib.parseMag;rw[aB a.ne,YZ _ 0 a.all (by rw[a.val];omega),a.val]);cases b:eW 20 n.toNat with
  |nil=>exact absurd b a.ne
  |cons x r=>
   have e:=a.all;rw[b,dP,cI]at e;have i:=EN e.1;rw[b]at d;unfold Lib.atoiAll;dsimp only
   rw[aB (by omega),d];dsimp only
   rw[aB (by
    rintro⟨-,f⟩
    omega),aB (by
    rintro⟨f,-⟩
    omega),aB (by omega)]
   congr 1;omega
def K7(w:List UInt8)(d:Nat):Option Int:=
 match Lib.atoiAll w with
 | .ok n=>if dI n=w/\(lW w).length<=d then some n else none
 |_=>none
def xhd{w:List UInt8}{n:Int}(h:Lib.atoiAll w=.ok n):-9223372036854775808<=n/\n<=9223372036854775807:=by
 unfold Lib.atoiAll at h;split at h
 .cases h
 .dsimp only at h;split at h
  .cases h
  .cases h
  .rename_i u _;split at h
   .cases h
   .split at h
    .cases h
    .injection h with h;rename_i a b;split at h<;>omega
def xmq(w:List UInt8){d:Nat}(j:d<=18):K7 w d=kF w d:=by
 unfold K7;cases h:kF w d with
 |some n=>
  obtain⟨e,f,i⟩:=xwh j h;have b:=x8m (n:=n) (by omega) (by omega);rw[e]at b;rw[b];have a:=JR (n:=n) (by omega) (by omega) d;rw[e,h]at a;dsimp only
  by_cases c:(lW w).length<=d
  .rw[aF ⟨e,c⟩]
  .rw[aB c]at a;cases a
 |none=>
  split
  .rename_i n f;obtain⟨i,b⟩:=xhd f;rw[aB];rintro⟨a,m⟩;have g:=JR i b d;rw[a,h,aF m]at g;cases g
  .rfl
def cR(c:UInt8):List UInt8->List (List UInt8)
 |[]=>[[]]
 |x::r=>if x=c then[]::cR c r else match cR c r with
  |[]=>[[x]]
  |h::t=>(x::h)::t
def KV(c:UInt8):∀l,cR c l≠[]
 |[]=>by simp[cR]
 |x::r=>by
  unfold cR;split
  .simp
  .split<;>simp
def EY{c:UInt8}:∀{l:List UInt8},c∉l->cR c l=[l]
 |[],_=>rfl
 |x::r,h=>by unfold cR;rw[aB (λe=>h (by rw[e];exact eP)),EY λe=>h (eE _ e)]
def zF{c:UInt8}:∀{l:List UInt8} (k:List UInt8),c∉l->cR c (l++c::k)=l::cR c k
 |[],k,_=>by show cR c (c::k)=_;rw[cR,aF rfl]
 |x::r,k,h=>by rw[iY];rw[cR];rw[aB (λe=>h (by rw[e];exact eP)),zF k λe=>h (eE _ e)]
def x2t(n:Int)(e:-9223372036854775808<=n)(f:n<=9223372036854775807):(32:UInt8)∉dI n:=by
 have a:∀u,u<10 ^ 20->(32:UInt8)∉eW 20 u:=λu b h=>by have d:=F2 20 u (by omega) b;have:=dJ.mp d.all _ h;exact absurd this (by decide)
 unfold dI;split
 .intro h;rcases dW.1 h with h|h
  .exact absurd h (by decide)
  .exact a _ (by omega) h
 .exact a _ (by omega)
open Go.Proofs
def nH{σ R:Type}{N:Nat}(X:Nat->Nat->σ->Mem->Nat->R)(a:Nat->σ->Mem->Prop)(Q:R->Prop)(b:∀n k s m Y,k<N->a k s m->(∀f g d,a (k+1) f g->Q (X n (k+1) f g d))->Q (X (n+1) k s m Y))(e:∀n s m Y,a N s m->Q (X (n+1) N s m Y)):∀n k s m Y,k<=N->N<n+k->a k s m->Q (X n k s m Y):=by
 intro n;induction n with
 |zero=>intro k s m Y l o;omega
 |succ n p=>
  intro k s m Y l o j;rcases kS k N with h|h
  .exact b n k s m Y h j λf g d i=>p (k+1) f g d h (by omega) i
  .have:k=N:=(by omega);subst this;exact e n s m Y j
def RetF(T:AV->Prop)(r:O2):Prop:=∃a b d,r=some (a,b)/\frz b.get bI a=some d/\T d
def RetF.st{T:AV->Prop}{a:AV}{m:Mem}(h:bB a=true)(b:T a):RetF T (some (a,m)):=⟨a,m,a,rfl,kN _ 4 h,b⟩
def RetF.tup{T:AV->Prop}{l:List AV}{m:Mem}(h:l.all bB=true)(a:T (.tup l)):RetF T (some (.tup l,m)):=⟨_,m,_,rfl,x0u h,a⟩
def RetF.mk{T:AV->Prop}{a a':AV}{m:Mem}(h:frz m.get bI a=some a')(b:T a'):RetF T (some (a,m)):=⟨a,m,a',rfl,h,b⟩
def rI{T:AV->Prop}{b:aJ}{f:FuncId}{l:List AV}(d:l.all bB=true)(h:RetF T (b [] f l mem0))(m:Mem):∃a,T a/\aI b f l m=some (a,m):=by obtain⟨a,n,e,g,i,j⟩:=h;exact⟨e,j,U7 d g i⟩
def eZ{v:AV}{b:aJ}{f:FuncId}{l:List AV}(d:l.all bB=true)(h:RetF (λa=>a=v) (b [] f l mem0))(m:Mem):aI b f l m=some (v,m):=by obtain⟨a,e,g⟩:=rI d h m;rw[g,e]
def x0t{d:Id->Option Ob}{a b e f:AV}(g:frz d 5 a=some e)(h:frz d 5 b=some f):frz d bI (.tup [a,b])=some (.tup [e,f]):=by show([a,b].mapM (frz d 5)).map AV.tup=_;simp only[eI,gX,g,h];rfl
def xe3{d:Id->Option Ob}{a b c e f g:AV}(h:frz d 5 a=some e)(i:frz d 5 b=some f)(j:frz d 5 c=some g):frz d bI (.tup [a,b,c])=some (.tup [e,f,g]):=by show([a,b,c].mapM (frz d 5)).map AV.tup=_;simp only[eI,gX,h,i,j];rfl
theorem xe8{a:Id->Option Ob}{k:Nat}{x:Int}:frz a (k+1) (I x)=some (I x):=rfl
def Gr.frzk{α:Type}{z:Nat}{b:α->List AV}{l:List α}{a:AV}(g:∀x,(b x).length=z)(Z:∀x,(b x).all aP=true){u t k:Nat}{m:Mem}(h:Gr z b u t m a l):∃e,Sl b e l/\Go.Ix.frz m.get (k+2) a=some e:=by
 rcases h with ⟨rfl,rfl⟩|⟨s,d,rfl,i⟩
 .exact⟨nilS,Or.inl ⟨rfl,rfl⟩,rfl⟩
 .have j:=gG g l;refine⟨.aN (l.flatMap b) l.length false,Sl.lit l false,?_⟩
  have:=pI (aC:=m.get) (id:=(u,s,t)) (cs:=l.flatMap b) (ver:=d) (off:=0) (n:=l.length) (z:=z) (k:=k) (f:=false) (x:=true) i (by omega) (by
   rw[bC,dM (by omega)];exact oD Z l)
  rw[bC,dM (by omega)]at this;exact this
def Gr.len{α:Type}{z:Nat}{b:α->List AV}{l:List α}{a:AV}{u t:Nat}{m:Mem}{y e:TypeId}(d:prog.underlying y=some (.slice e))(h:Gr z b u t m a l):aM prog y a=some (I l.length):=by
 rcases h with ⟨rfl,rfl⟩|⟨s,f,rfl,g⟩
 .exact EI d
 .rfl
def xds{α:Type}{enc:α->List AV}{m:Mem}{l:List α}{k:Nat}(d:k<l.length)(j:Nat){v:AV}(a:((enc l[k]).drop j).head?=some v):aA false 1 (.aE (((l.drop k).flatMap enc).drop j)) m=some v:=by
 rw[fX d,dT];have e:j<(enc l[k]).length:=by
  rcases kS j (enc l[k]).length with h|h
  .exact h
  .rw[lV h]at a;cases a
 rw[x9o (by omega)];cases b:(enc l[k]).drop j with
 |nil=>rw[b]at a;cases a
 |cons x r=>rw[b]at a;simp at a;subst a;rfl
abbrev Tx(l:List UInt8):AV:=T ⟨l.toArray⟩
def xm1(x y:Operand){a b:ByteArray}(h:a.size+b.size<=9223372036854775807):bY prog .add bK x y (T a) (T b)=some (T (a++b)):=by have e:bT prog (do eqGuard .add bK x y (.string a) (.string b);binOp .add bK (.string a) (.string b))=some (.string (a++b)):=(by show bT prog (Op.stringOp .add a b)=_;unfold Op.stringOp;have d:IntKind.i64.max=9223372036854775807:=(by kernel_rfl);simp only[];rw[aB (by rw[d];omega)];rfl);refine xox ?_;unfold zL;simp only[dO];rw[e];rfl
def xm0(x y:Operand)(a b:ByteArray):bY prog .neq bK x y (T a) (T b)=some (B (!(iB a b))):=by kernel_rfl
def xap{x:Int}{n:Nat}{a:BoundsCode}(b:0<=x)(d:x<=n):Instr.sliceBound (.int .i64 x) n a=Pure.pure x.toNat:=by show(if 0<=x/\x<=n then _ else _)=_;rw[aF ⟨b,d⟩]
def xao{s:ByteArray}{lo hi:Option Value}{l h:Nat}(b:(match hi with|some v=>Instr.sliceBound v s.size .sliceAlen|none=>Pure.pure s.size)=(Pure.pure h:Sem Nat))(a:(match lo with|some v=>Instr.sliceBound v h .sliceB|none=>Pure.pure 0)=(Pure.pure l:Sem Nat)) :
    bT prog (Instr.sliceAt bK (.string s) lo hi none)=some (.string (s.extract l h)):=by
 have e:Instr.sliceBounds false s.size s.size lo hi none=(Pure.pure (l,h,s.size):Sem (Nat×Nat×Nat)):=by
  unfold Instr.sliceBounds;cases hi with
  |none=>
   cases lo with
   |none=>simp only[Bind.bind,Sem.bind,Pure.pure,Sem.pure.injEq]at b a ⊢;subst b a;rfl
   |some v=>simp only[Bind.bind,Sem.bind,Pure.pure,Sem.pure.injEq]at b a ⊢;subst b;simp only[wV,fH,cT,a];rfl
  |some u=>
   cases lo with
   |none=>simp only[Bind.bind,Sem.bind,Pure.pure]at b a ⊢;simp only[fH,cT,b];injection a with a;subst a;rfl
   |some v=>simp only[Bind.bind,Sem.bind,Pure.pure]at b a ⊢;simp only[fH,cT,b,wV];show(Instr.sliceBound v h BoundsCode.sliceB).bind (λl=>Sem.pure (l,h,s.size))=_;rw[a];rfl
 simp only[Instr.sliceAt,Instr.slice,underlying,program,Bind.bind,Sem.bind,bT,Pure.pure,XA,e,wV,fH,cT]
def xnr{s:ByteArray}{a:Nat}(b:a<=s.size):eK prog bK (T s) (some (I a)) none=some (T (s.extract a s.size)):=by have e:=xao (s:=s) (lo:=some (.int .i64 a)) (hi:=none) (l:=a) (h:=s.size) rfl (xap (by omega) (by omega));show(bT prog (Instr.sliceAt bK (.string s) (some (.int .i64 a)) none none)).map fJ=_;rw[e];rfl
def xnq{s:ByteArray}{a:Nat}(b:a<=s.size):eK prog bK (T s) none (some (I a))=some (T (s.extract 0 a)):=by have e:=xao (s:=s) (lo:=none) (hi:=some (.int .i64 a)) (l:=0) (h:=a) (xap (by omega) (by omega)) rfl;show(bT prog (Instr.sliceAt bK (.string s) none (some (.int .i64 a)) none)).map fJ=_;rw[e];rfl
def x7n(n:Int):mM prog eB hZ (I n)=some (U8 (IntKind.u8.wrap n)):=by kernel_rfl
def xmm(c:Int)(m:Mem):IT prog tH bK (.aN [U8 c] 1 true) m=some (T ⟨#[UInt8.ofNat c.toNat]⟩):=by kernel_rfl
theorem xx6(s:ByteArray):fZ (T s)=some (I s.size):=rfl
def o9(l:List UInt8):(⟨l.toArray⟩:ByteArray).size=l.length:=by show l.toArray.size=_;simp
def FK(s:ByteArray):T s=Tx s.data.toList:=by cases s;rfl
def xhq(l:List UInt8)(a b:Nat):(⟨l.toArray⟩:ByteArray).extract a b=⟨((l.drop a).take (b-a)).toArray⟩:=by apply ByteArray.ext;rw[ByteArray.data_extract];apply xja.1;simp[List.take_drop]
def x9e(l k:List UInt8):(⟨l.toArray⟩:ByteArray)++⟨k.toArray⟩=⟨(l++k).toArray⟩:=by apply ByteArray.ext;rw[ByteArray.data_append];simp
def mY(x y:Operand){l k:List UInt8}(h:l.length+k.length<=9223372036854775807):bY prog .add bK x y (Tx l) (Tx k)=some (Tx (l++k)):=by rw[xm1 x y (by rw[o9,o9];exact h),x9e]
def mX(l:List UInt8):fZ (Tx l)=some (I l.length):=by rw[xx6,o9]
def WQ{l:List UInt8}{lo:Nat}(a:lo<=l.length):eK prog bK (Tx l) (some (I lo)) none=some (Tx (l.drop lo)):=by rw[xnr (by rw[o9];exact a),xhq,o9,dM (by simp)]
def HW{l:List UInt8}{hi:Nat}(a:hi<=l.length):eK prog bK (Tx l) none (some (I hi))=some (Tx (l.take hi)):=by rw[xnq (by rw[o9];exact a),xhq,bC,Nat.sub_zero]
def WR{l:List UInt8}{k:Nat}(h:k<l.length):kJ prog bK (Tx l) (I k)=some (U8 (l[k]).toNat):=by rw[x0g (s:=⟨l.toArray⟩) (by simpa using h)]
def T'(l k:List UInt8):iB ⟨l.toArray⟩ ⟨k.toArray⟩=decide (l=k):=by unfold iB;rw[ByteArray.toList_eq,ByteArray.toList_eq,NH];simp
def oP(x y:Operand)(l k:List UInt8):bY prog .eql bK x y (Tx l) (Tx k)=some (B (decide (l=k))):=by rw[xL,T']
def yn(x y:Operand)(l k:List UInt8):bY prog .neq bK x y (Tx l) (Tx k)=some (B (!(decide (l=k)))):=by rw[xm0,T']
end Go.Ix
namespace Go.Ix
variable{R:Type}{m:Mem}
def T7:∀l:List Int,l.flatMap intE=l.map I
 |[]=>rfl
 |x::l=>by rw[dT,T7 l];rfl
def D0(l:List Int):(l.flatMap intE).length=l.length:=by rw[T7];simp
abbrev srI(id:Id)(n:Nat):AV:=.sref id 0 0 n 1 true
@[simp high] theorem yag{l:List Int}{k:Nat}{b:Bool}(a:k<l.length):sH false 1 0 k (some (.row (l.flatMap intE) 0 b))=some (I (at0 l k)):=by simp only[sH,zQ,cond_true,rd,fH,cT];rw[T7,<-List.map_drop,fX a,fD a];rfl
@[simp high] theorem x94{l:List Int}{k:Nat}{v:Int}(a:k<l.length):oR 1 0 k (I v) (some (.row (l.flatMap intE) 0 false))=some (.row ((l.set k v).flatMap intE) 0 false):=by have h:(0:Nat)=0/\(I v).cells.length=1/\k+1<=(l.flatMap intE).length/\((I v).cells.all AV.one)=true:=⟨rfl,rfl,by rw[D0];omega,rfl⟩;rw[AZ,eX h,cond_true];simp only[T7,cS,cz];congr 2;rw[List.map_set,em,aF (by simpa using a)];simp
def xhf{l:List Int}{k j:Nat}{v:Int}(a:k<l.length):at0 (l.set k v) j=if j=k then v else at0 l j:=by
 unfold at0;rw[fU,fU,FU];by_cases h:k=j
 .subst h;simp[a]
 .rw[aB h,aB (λe=>h e.symm)]
end Go.Ix
namespace Go.Ix
open Go.Proofs
variable{α:Type}{z:Nat}{enc:α->List AV}{l:List α}{a:AV}
def Gq{α:Type}(z:Nat)(d:α->List AV)(u:Nat)(T:List Nat)(m:Mem)(a:AV)(l:List α):Prop:=
 (a=nilS/\l=[])\/∃s t b,t∈T/\a=.sref (u,s,t) b 0 l.length z true/\m.get (u,s,t)=some (.row (l.flatMap d) b false)
def Gq.nil{u:Nat}{T:List Nat}{m:Mem}:Gq z enc u T m nilS []:=Or.inl ⟨rfl,rfl⟩
def Gq.frame{u:Nat}{T:List Nat}{m m':Mem}(h:Gq z enc u T m a l)(b:∀s t,t∈T->m'.get (u,s,t)=m.get (u,s,t)):Gq z enc u T m' a l:=by
 rcases h with h|⟨s,t,ver,h0,h1,h2⟩
 .exact Or.inl h
 .exact Or.inr ⟨s,t,ver,h0,h1,by rw[b _ _ h0];exact h2⟩
def Gq.app(p:∀x,(enc x).length=z)(y:0<z){u d s0 bytes:Nat}{T:List Nat}{m:Mem}(g:d∈T)(i:cH (l.length+1) bytes)(h:Gq z enc u T m a l)(x:α) :
    ∃n e,(∀{R:Type} (k:AV->Mem->Option R),cJ z bytes (u,s0,d) (some (enc x,1)) a m k=k n e)/\Gq z enc u T e n (l++[x])/\e.next=m.next/\∀j:Id,j.2.2∉T->e.get j=m.get j:=by
 rcases h with ⟨rfl,rfl⟩|⟨s,t,b,o,rfl,w⟩
 .refine⟨.sref (u,s0,d) 0 0 1 z true,m.new (u,s0,d) (.row (enc x) 0 false),λk=>?_,Or.inr ⟨s0,d,0,g,rfl,by simp⟩,rfl,λj f=>?_⟩
  .simp only[cJ];rw[aB (by omega),aF (by simpa using i)]
  .rw[Mem.dH,aB (by rintro rfl;exact f g)]
 .have r:=gG p l;refine⟨.sref (u,s,t) (b+1) 0 (l.length+1) z true,m.set (u,s,t) (.row (l.flatMap enc++enc x) (b+1) false),λk=>?_,Or.inr ⟨s,t,b+1,o,by simp,by simp⟩,rfl,λj f=>?_⟩
  .simp only[cJ,w];rw[aF ⟨trivial,trivial,by omega,i⟩,aB (by omega),aB (by rw[r,lT];omega),bC,dM (by omega)]
  .rw[Mem.cP,aB (by rintro rfl;exact f o)]
def Gq.frz(e:∀x,(enc x).length=z)(Z:∀x,(enc x).all aP=true){u:Nat}{T:List Nat}{m:Mem}(h:Gq z enc u T m a l):∃d,Sl enc d l/\Go.Ix.frz m.get bI a=some d:=by
 rcases h with ⟨rfl,rfl⟩|⟨s,t,b,_,rfl,g⟩
 .exact⟨nilS,Or.inl ⟨rfl,rfl⟩,rfl⟩
 .have i:=gG e l;refine⟨.aN (l.flatMap enc) l.length false,Sl.lit l false,?_⟩
  have:=pI (aC:=m.get) (id:=(u,s,t)) (cs:=l.flatMap enc) (ver:=b) (off:=0) (n:=l.length) (z:=z) (k:=4) (f:=false) (x:=true) g (by omega) (by
   rw[bC,dM (by omega)];exact oD Z l)
  rw[bC,dM (by omega)]at this;exact this
def Gq.len{u:Nat}{T:List Nat}{m:Mem}{t e:TypeId}(b:prog.underlying t=some (.slice e))(h:Gq z enc u T m a l):aM prog t a=some (I l.length):=by
 rcases h with ⟨rfl,rfl⟩|⟨s,t,d,_,rfl,f⟩
 .exact EI b
 .rfl
end Go.Ix
namespace Go.Ix
open Go.Proofs
def dC(l:List UInt8):List AV:=[Tx l]
theorem nA(l:List UInt8):(dC l).length=1:=rfl
theorem xnb(l:List UInt8):(dC l).all aP=true:=rfl
def i':prog.underlying iI=some (.slice bK):=by kernel_rfl
def xkk{n:Int}(a:0<=n)(b:n<256):IntKind.u8.wrap n=n:=by have:IntKind.u8.wrap n=n % 256:=(by kernel_rfl);rw[this];omega
def U4(k u:Nat):List UInt8:=if u=0 then[]else eW k u
def x2a{k u:Nat}(h:u≠0):U4 (k+1) u=U4 k (u / 10)++[UInt8.ofNat (48+u % 10)]:=by
 unfold U4;rw[aB h];by_cases c:u<10
 .rw[aF (by omega),eW,aF c,Nat.mod_eq_of_lt c];rfl
 .rw[aB (by omega),eW,aB c]
def xj0:VY=[U8 0]:=by kernel_rfl
def xw4{x:Int}{id:Id}{m:Mem}{R:Type}{k:AV->Mem->Option R}:cQ VY [(0,1,U8 x)] 1 1 id m k=k (.aN [U8 x] 1 true) m:=by rw[xj0];exact ZK rfl rfl rfl
def xdu(d:Nat){sg:List UInt8}(l:sg.length<=1):∀(k:Nat) (n:Int) (t:List UInt8) (j:Nat) (m:Mem) (Y:Nat),n.natAbs<10 ^ k->k+t.length<=30->k<j->-9223372036854775808<=n->n<=9223372036854775807 ->
    ∃b,zZ (aH (d+1)) [] 0 j (I n) (Tx t) (Tx sg) m Y=some (Tx (sg++(U4 k n.natAbs++t)),b):=by
 intro k;induction k with
 |zero=>intro n t j m Y e o p r u;obtain⟨j,rfl⟩:∃k,j=k+1:=⟨j-1,by omega⟩;have:n=0:=(by simp at e;omega);subst this;simp only[zZ];unfold HD VQ;rw[gC];simp only[aG];rw[mY _ _ (by omega)];exact⟨m,rfl⟩
 |succ k D=>
  intro n t j m Y e o p r u;obtain⟨j,rfl⟩:∃k,j=k+1:=⟨j-1,by omega⟩;by_cases c:n=0
  .subst c;simp only[zZ];unfold HD VQ;rw[gC];simp only[aG];rw[mY _ _ (by omega)];exact⟨m,rfl⟩
  .have w:-10<n.tmod 10:=(by have:=Int.lt_tmod_of_pos n (show(0:Int)<10 by omega);omega);have f:(n.tmod 10).natAbs=n.natAbs % 10:=(by rw[Int.natAbs_tmod];rfl);have a:(n.tdiv 10).natAbs=n.natAbs / 10:=(by rw[Int.natAbs_tdiv];rfl);have g:=λm=>xlm d (n.tmod 10) m (by omega) (by omega)
   have x:cG (48+((n.tmod 10).natAbs:Int))=48+((n.tmod 10).natAbs:Int):=bQ;have y:IntKind.u8.wrap (48+((n.tmod 10).natAbs:Int))=48+((n.tmod 10).natAbs:Int):=xkk (by omega) (by omega);have A:UInt8.ofNat (48+((n.tmod 10).natAbs:Int)).toNat=UInt8.ofNat (48+n.natAbs % 10):=(by rw[f];congr 1);have C:cG (n.tdiv 10)=n.tdiv 10:=(by have:(n.tdiv 10).natAbs<=n.natAbs:=(by rw[a];omega);exact bQ);have i:n.natAbs≠0:=(by omega);simp only[zZ];unfold HD;rw[gC];simp only[aG,c];rw[xa2 (by decide)];simp only[aG,g,dY,x,x7n,y,xw4,xmm,A];rw[show(T ⟨#[UInt8.ofNat (48+n.natAbs % 10)]⟩)=Tx [UInt8.ofNat (48+n.natAbs % 10)]from rfl,mY _ _ (by simp;omega)];rw[xof (by decide)];simp only[aG,C];have Z:=x2a (k:=k) i;obtain⟨b,h⟩:=D (n.tdiv 10) ([UInt8.ofNat (48+n.natAbs % 10)]++t) j m (Y+17) (by rw[a];rw[Nat.pow_succ]at e;omega) (by simp;omega) (by omega) (by omega) (by omega);refine⟨b,h.trans ?_⟩;rw[Z,a];simp
def WV(d:Nat){n:Int}(e:-9223372036854775808<=n)(f:n<=9223372036854775807)(m:Mem):aI (aH (d+2)) C4 [I n] m=some (Tx (dI n),m):=by
 refine Ans.gA (m:=m) ?_ rfl rfl;unfold Ans;rw[x7l];unfold pg bW VP xg;simp only[mem0,iD,aG,bV];by_cases c:n=0
 .subst c;simp only[bG,aT];exact⟨_,rfl⟩
 .simp only[c,bP,aV];have g:n.natAbs<10 ^ 20:=(by omega);by_cases a:n<0
  .simp only[a,bG,aT];obtain⟨b,h⟩:=xdu d (sg:=[45]) (by simp) 20 n [] NN ⟨[],0+1⟩ (0+5+3) g (by simp) (by rw[dF];omega) e f;refine⟨b,h.trans ?_⟩;unfold dI U4;rw[aF a,aB (by omega),iH];rfl
  .simp only[a,bP,aV];obtain⟨b,h⟩:=xdu d (sg:=[]) (by simp) 20 n [] NN ⟨[],0+1⟩ (0+5+2) g (by simp) (by rw[dF];omega) e f;refine⟨b,h.trans ?_⟩;unfold dI U4;rw[aB a,aB (by omega),iH,show n.natAbs=n.toNat by omega];rfl
def xuh(s:ByteArray)(c:Int):bT prog (callFunc yH #[.string s,.int .u8 c])=some (.value (.int .i64 (firstIdx s c.toNat.toUInt8))):=by
 have a:bT prog (callFunc yH #[.string s,.int .u8 c])=bT prog (do let v <-Extern.BytealgIndexByte.indexByte #[.string s,.int .u8 c];pure (Next.value v)):=(by kernel_rfl);rw[a]
 show bT prog (((match (List.range s.size).find? λi=>s[i]! == c.toNat.toUInt8 with
  |some i=>(pure (goInt i):Sem Value)
  |none=>pure (goInt (-1)))) >>= λv=>(pure (Next.value v):Sem Next))=_
 unfold firstIdx;cases(List.range s.size).find? λi=>s[i]! == c.toNat.toUInt8<;>rfl
def xlr(d:Nat)(l:List UInt8)(c:UInt8)(m:Mem):aI (aH (d+1)) yH [Tx l,U8 c.toNat] m=some (I (Lib.indexByte l c),m):=by
 refine Ans.gA (m:=m) ?_ rfl rfl;unfold Ans;have a:aH (d+1) [] yH [Tx l,U8 c.toNat] mem0=(w7 prog yH [Tx l,U8 c.toNat]).map λv=>(v,mem0):=by kernel_rfl
 have b:U3 prog yH [Tx l,U8 c.toNat]=some (I (firstIdx ⟨l.toArray⟩ c)):=by
  unfold U3
  show(match bT prog (callFunc yH #[.string ⟨l.toArray⟩,.int .u8 c.toNat])with
   |some (.value u)=>some (fJ u)
   |_=>none)=_
  rw[xuh];have:((c.toNat:Int)).toNat.toUInt8=c:=(by rw[hJ];exact UInt8.ofNat_toNat);rw[this];rfl
 rw[a];unfold w7;rw[b,Lib.firstIdx_eq];exact⟨mem0,rfl⟩
def zl(d:Nat)(l:List UInt8)(c:UInt8)(m:Mem):aI (aH (d+2)) S0 [Tx l,U8 c.toNat] m=some (I (Lib.indexByte l c),m):=by refine Ans.gA (m:=m) ?_ rfl rfl;unfold Ans;rw[x63];unfold oh bA UQ;simp only[xlr,aG];exact⟨_,rfl⟩
def EO(c:UInt8):∀l:List UInt8,(Lib.indexByte l c=-1/\c∉l)\/∃i:Nat,Lib.indexByte l c=i/\i<l.length/\c∉l.take i/\l.drop i=c::l.drop (i+1)
 |[]=>.inl ⟨rfl,by simp⟩
 |b::l=>by
  unfold Lib.indexByte;by_cases h:b=c
  .subst h;exact .inr ⟨0,by simp,by simp,by simp,rfl⟩
  .have f:(b == c)=false:=(by simpa using h);rw[f];rcases EO c l with ⟨d,e⟩|⟨i,d,e,g,j⟩
   .refine .inl ⟨by rw[d];simp,?_⟩;rw[dW];rintro(a|a)
    .exact h a.symm
    .exact e a
   .refine .inr ⟨i+1,?_,by simp;omega,?_,by simpa using j⟩
    .rw[d];have:((i:Int) == -1)=false:=(by rw[beq_eq_false_iff_ne];omega);simp[this]
    .rw[lA,dW];rintro(a|a)
     .exact h a.symm
     .exact g a
def zk(d:Nat)(l:List UInt8)(c:UInt8)(m:Mem):aI (aH (d+4)) z6 [Tx l,Tx [c]] m=some (I (Lib.indexByte l c),m):=by
 have f:∀m,aI (aH (d+3)) C1 [Tx l,Tx [c]] m=some (I (Lib.indexByte l c),m):=by
  intro m;refine Ans.gA (m:=m) ?_ rfl rfl;unfold Ans;rw[xgo];unfold NC bA GZ;have a:kJ prog bK (Tx [c]) (I 0)=some (U8 c.toNat):=WR (k:=0) (l:=[c]) (by simp);have b:fZ (Tx [c])=some (I 1):=mX [c];simp only[mem0,b,aG,iD,gR,dZ,show decide ((1:Int)=0)=false from rfl,dX,cF,bD,oP,cW,cZ];by_cases e:[c]=l
  .subst e;have:Lib.indexByte [c] c=0:=(by simp[Lib.indexByte]);rw[this];simp only[bG,aT];exact⟨_,rfl⟩
  .simp only[e,bP,aV,a,aG,zl];exact⟨_,rfl⟩
 refine Ans.gA (m:=m) ?_ rfl rfl;unfold Ans;rw[x3q];unfold fy bA NW;simp only[f,aG];exact⟨_,rfl⟩
def xmz(l:List UInt8):decide (l.take 1=[45])=decide (l.head?=some 45):=by
 cases l with
 |nil=>rfl
 |cons x t=>simp
def xls(d:Nat)(l:List UInt8)(m:Mem):aI (aH (d+1)) C2 [Tx l,Tx [45]] m=some (B (decide (l.head?=some 45)),m):=by
 refine Ans.gA (m:=m) ?_ rfl rfl;unfold Ans;rw[xgp];unfold ND bA HA;have a:fZ (Tx [45])=some (I 1):=mX [45];simp only[mem0,a,mX,aG,vL,gR,dZ,iS];by_cases c:(1:Int)<=l.length
 .have Z:eK prog bK (Tx l) none (some (I 1))=some (Tx (l.take 1)):=HW (hi:=1) (by omega);simp only[c,bG,bD,aG,a,Z,oP,cW,xmz];exact⟨_,rfl⟩
 .have:l=[]:=rM.1 (by omega);subst this;simp only[c,bP,cZ,aG,cW];exact⟨_,rfl⟩
def xli(d:Nat)(l:List UInt8)(m:Mem):aI (aH (d+3)) CC [Tx l,Tx [45]] m=some (Tx (lW l),m):=by
 have e:∀m,aI (aH (d+2)) DQ [Tx l,Tx [45]] m=some (Tx (lW l),m):=by
  intro m;refine Ans.gA (m:=m) ?_ rfl rfl;unfold Ans;rw[x62];unfold og bA UP;have a:fZ (Tx [45])=some (I 1):=mX [45];simp only[xls,aG,a];unfold lW;by_cases c:l.head?=some 45
  .have b:1<=l.length:=by
    cases l with
    |nil=>simp at c
    |cons x t=>simp
   have Z:eK prog bK (Tx l) (some (I 1)) none=some (Tx (l.drop 1)):=WQ (lo:=1) b;rw[List.drop_one]at Z;simp only[c,bG,aT,Z,aG,cM];exact⟨_,rfl⟩
  .simp only[c,bP,aV,cT];exact⟨_,rfl⟩
 refine Ans.gA (m:=m) ?_ rfl rfl;unfold Ans;rw[x3o];unfold fw bA NU;simp only[e,aG];exact⟨_,rfl⟩
end Go.Ix
set_option exponentiation.threshold 3000
namespace Go.Ix
open Ieee
def sv(m:Nat)(e:Int):Nat:=m*2 ^ (e+1074).toNat
def sg(s:Bool)(n:Nat):Int:=if s then -(n:Int)else(n:Int)
end Go.Ix
namespace Go.Ix
open Ieee
variable{P:Program}
def OkR(P:Program){α:Type}(s:Sem α)(R:α->Prop):Prop:=oU P s/\∀v,kV P s v->R v
def OkR.pure{α:Type}{a:α}{R:α->Prop}(h:R a):OkR P (.pure a) R:=⟨trivial,λ_ e=>e▸h⟩
def OkR.bind{α β:Type}{Q:α->Prop}{R:β->Prop}{f:α->Sem β}(b:∀v,Q v->OkR P (f v) R):∀{s:Sem α},OkR P s Q->OkR P (s.bind f) R
 | .pure a,h=>b a (h.2 a rfl)
 | .program k,h=>OkR.bind (s:=k P) b h
 | .mark _ k,h=>OkR.bind (s:=k) b h
 | .choose q k,h=>by
  unfold OkR at h;unfold Sem.bind OkR;simp only[oU,kV]at h ⊢;by_cases c:q.forced=true
  .simp only[aF c]at h ⊢;exact OkR.bind (s:=k 0) b h
  .simp only[aB c]at h ⊢;exact⟨λt=>(OkR.bind (s:=k (q.cut t)) b ⟨h.1 t,λv d=>h.2 v ⟨t,d⟩⟩).1,λv ⟨t,d⟩=>(OkR.bind (s:=k (q.cut t)) b ⟨h.1 t,λv d=>h.2 v ⟨t,d⟩⟩).2 v d⟩
 | .load ..,h=>h.1.elim
 | .store ..,h=>h.1.elim
 | .new ..,h=>h.1.elim
 | .shape ..,h=>h.1.elim
 | .freeze ..,h=>h.1.elim
 | .frozen ..,h=>h.1.elim
 | .getObj ..,h=>h.1.elim
 | .setObj ..,h=>h.1.elim
 | .sys ..,h=>h.1.elim
 | .halt ..,h=>h.1.elim
def OkR.choose{α:Type}{q:Question}{k:Nat->Sem α}{R:α->Prop}(a:q.forced=false)(h:∀t,OkR P (k (q.cut t)) R):OkR P (.choose q k) R:=by unfold OkR;simp only[oU,kV,a,fH,cT];exact⟨λt=>(h t).1,λv ⟨t,b⟩=>(h t).2 v b⟩
def EF{α:Type}:∀{s:Sem α},oU P s->∃v,kV P s v
 | .pure a,_=>⟨a,rfl⟩
 | .program k,h=>EF (s:=k P) h
 | .mark _ k,h=>EF (s:=k) h
 | .choose q k,h=>by
  simp only[oU,kV]at h ⊢;by_cases c:q.forced=true
  .simp only[aF c]at h ⊢;exact EF h
  .simp only[aB c]at h ⊢;obtain⟨v,b⟩:=EF (h 0);exact⟨v,0,b⟩
 | .load ..,h=>h.elim
 | .store ..,h=>h.elim
 | .new ..,h=>h.elim
 | .shape ..,h=>h.elim
 | .freeze ..,h=>h.elim
 | .frozen ..,h=>h.elim
 | .getObj ..,h=>h.elim
 | .setObj ..,h=>h.elim
 | .sys ..,h=>h.elim
 | .halt ..,h=>h.elim
def YW{α:Type}:∀{s:Sem α} {v:α},bT P s=some v->kV P s v
 | .pure a,v,h=>by cases h;rfl
 | .program k,v,h=>YW (s:=k P) h
 | .mark _ k,v,h=>YW (s:=k) h
 | .choose ..,v,h=>by cases h
 | .load ..,v,h=>by cases h
 | .store ..,v,h=>by cases h
 | .new ..,v,h=>by cases h
 | .shape ..,v,h=>by cases h
 | .freeze ..,v,h=>by cases h
 | .frozen ..,v,h=>by cases h
 | .getObj ..,v,h=>by cases h
 | .setObj ..,v,h=>by cases h
 | .sys ..,v,h=>by cases h
 | .halt ..,v,h=>by cases h
def NE(a:AV):Prop:=∃v,F5 a v
def Is(R:Value->Prop)(a:AV):Prop:=NE a/\∀v,F5 a v->R v
def xf6{a:AV}{v:Value}(h:dO a=some v):F5 a v:=by cases a<;>first|exact h|cases h
def xmp{a:AV}(h:dO a=none)(b:NE a):∃p,a=.un p:=by obtain⟨u,d⟩:=b;cases a<;>first|exact⟨_,rfl⟩|exact nomatch h.symm.trans d
def conc_sc{v u:Value}:F5 (.sc v) u↔u=v:=by
 constructor
 .intro h;cases h;rfl
 .intro h;rw[h];rfl
def Is.sc{R:Value->Prop}{v:Value}(h:R v):Is R (.sc v):=⟨⟨v,rfl⟩,λu b=>by rw[conc_sc.mp b];exact h⟩
def Is.mono{R Q:Value->Prop}{a:AV}(h:Is R a)(b:∀v,R v->Q v):Is Q a:=⟨h.1,λv d=>b v (h.2 v d)⟩
def x3j{q:Value->Prop}{a:Value}(d:∃v,q v)(h:∀v,q v->v=a):FC q=some (.sc a):=by unfold FC;have c:∃a,∀v,q v->v=a:=⟨a,h⟩;rw[dif_pos c];have e:=Classical.choose_spec c;obtain⟨v,b⟩:=d;have f:=e v b;have g:=h v b;rw[<-f,g]
section
variable{l:List AV}{s:List Value->Sem Value}{R:Value->Prop}
def x8z(d:∃a,kQ l a)(h:∀a,kQ l a->OkR P (s a) R):∃v a,kQ l a/\kV P (s a) v:=by obtain⟨a,b⟩:=d;obtain⟨v,e⟩:=EF (h a b).1;exact⟨v,a,b,e⟩
def x80{d:Value}(e:∃a,kQ l a)(h:∀a,kQ l a->OkR P (s a) (·=d)):tB P l s=some (.sc d):=by unfold tB;rw[aF ⟨e,λa b=>(h a b).1⟩];exact x3j (x8z e h) (λv ⟨a,b,f⟩=>(h a b).2 v f)
def xu1{o:Option AV}{b:Value}(d:fJ b=.sc b)(e:∀r,o=some r->∃a z,kQ l a/\kV P (s a) z/\r=fJ z)(f:∃a,kQ l a)(h:∀a,kQ l a->OkR P (s a) (·=b)):(match o with|some r=>some r|none=>tB P l s)=some (.sc b):=by
 cases o with
 |none=>exact x80 f h
 |some r=>obtain⟨a,z,i,j,m⟩:=e r rfl;have g:=(h a i).2 z j;rw[m,g,d]
end
def x8d{f:BinOp}{t:TypeId}{x y:Operand}{a b:AV}(i:NE a)(l:NE b):∀r,zL P f t x y a b=some r->∃g z,kQ [a,b] g/\kV P (LJ f t x y g) z/\r=fJ z:=by
 intro r h;unfold zL at h;cases A:dO a with
 |none=>
  obtain⟨p,rfl⟩:=xmp A i;cases e:dO b with
  |none=>simp[A,e]at h
  |some v=>
   simp only[A,e]at h;split at h
   .rename_i d m;cases d
   .split at h
    .rename_i d;cases d
    .rename_i d;cases d
    .cases h
   .split at h
    .rename_i d;cases d
    .cases h
   .cases h
 |some u=>
  cases e:dO b with
  |none=>simp[A,e]at h
  |some v=>simp only[A,e,cE]at h;obtain⟨z,j,rfl⟩:=h;exact⟨[u,v],z,⟨xf6 A,xf6 e,trivial⟩,YW j,rfl⟩
def cx{a b:AV}(d:NE a)(e:NE b):∃f,kQ [a,b] f:=by obtain⟨u,g⟩:=d;obtain⟨v,h⟩:=e;exact⟨[u,v],g,h,trivial⟩
def cs1{a:AV}(b:NE a):∃d,kQ [a] d:=by obtain⟨u,e⟩:=b;exact⟨[u],e,trivial⟩
def x2x{a b:AV}{Q:List Value->Prop}(h:∀u v,F5 a u->F5 b v->Q [u,v]):∀e,kQ [a,b] e->Q e
 |[],d=>d.elim
 |[_],d=>d.2.elim
 |[u,v],d=>h u v d.1 d.2.1
 |_::_::_::_,d=>d.2.2.elim
section
variable{op:BinOp}{t:TypeId}{x y:Operand}{a b:AV}{R A B:Value->Prop}{v0:Value}
def xow(d:Is A a)(e:Is B b)(f:fJ v0=.sc v0)(h:∀u v,A u->B v->OkR P (LJ op t x y [u,v]) (·=v0)):bY P op t x y a b=some (.sc v0):=
 xu1 f (x8d d.1 e.1) (cx d.1 e.1) (x2x λu v g f=>h u v (d.2 u g) (e.2 v f))
end
section
variable{b:Builtin}{f:FuncId}{ts:Array TypeId}{t s d:TypeId}{a c:AV}{R A C:Value->Prop}{v0:Value}{uo:UnOp}
end
end Go.Ix
namespace Go.Ix
open Go.Proofs
variable{α:Type}{z:Nat}{enc:α->List AV}{l:List α}{a:AV}
def Gk{α:Type}(z:Nat)(d:α->List AV)(ok:Id->Prop)(m:Mem)(a:AV)(l:List α):Prop:=
 (a=nilS/\l=[])\/∃id b,ok id/\a=.sref id b 0 l.length z true/\m.get id=some (.row (l.flatMap d) b false)
def Gk.nil{ok:Id->Prop}{m:Mem}:Gk z enc ok m nilS []:=Or.inl ⟨rfl,rfl⟩
def Gk.frame{ok:Id->Prop}{m m':Mem}(h:Gk z enc ok m a l)(b:∀id,ok id->m'.get id=m.get id):Gk z enc ok m' a l:=by
 rcases h with h|⟨id,ver,h0,h1,h2⟩
 .exact Or.inl h
 .exact Or.inr ⟨id,ver,h0,h1,by rw[b _ h0];exact h2⟩
def Gk.app(o:∀x,(enc x).length=z)(t:0<z){bytes:Nat}{ok:Id->Prop}{id0:Id}{m:Mem}(g:ok id0)(i:cH (l.length+1) bytes)(h:Gk z enc ok m a l)(x:α) :
    ∃d e,(∀{R:Type} (k:AV->Mem->Option R),cJ z bytes id0 (some (enc x,1)) a m k=k d e)/\Gk z enc ok e d (l++[x])/\d.cells=[d]/\d.one=true/\e.next=m.next/\∀j:Id,¬ok j->e.get j=m.get j:=by
 rcases h with ⟨rfl,rfl⟩|⟨id,b,n,rfl,r⟩
 .refine⟨.sref id0 0 0 1 z true,m.new id0 (.row (enc x) 0 false),λk=>?_,Or.inr ⟨id0,0,g,rfl,by simp⟩,rfl,rfl,rfl,λj f=>?_⟩
  .simp only[cJ];rw[aB (by omega),aF (by simpa using i)]
  .rw[Mem.dH,aB (by rintro rfl;exact f g)]
 .have p:=gG o l;refine⟨.sref id (b+1) 0 (l.length+1) z true,m.set id (.row (l.flatMap enc++enc x) (b+1) false),λk=>?_,Or.inr ⟨id,b+1,n,by simp,by simp⟩,rfl,rfl,rfl,λj f=>?_⟩
  .simp only[cJ,r];rw[aF ⟨trivial,trivial,by omega,i⟩,aB (by omega),aB (by rw[p,lT];omega),bC,dM (by omega)]
  .rw[Mem.cP,aB (by rintro rfl;exact f n)]
def Gk.one{ok:Id->Prop}{m:Mem}(h:Gk z enc ok m a l):a.cells=[a]/\a.one=true:=by rcases h with ⟨rfl,rfl⟩|⟨id,b,d,rfl,e⟩<;>exact⟨rfl,rfl⟩
def Gk.frz(e:∀x,(enc x).length=z)(Z:∀x,(enc x).all aP=true){ok:Id->Prop}{k:Nat}{m:Mem}(h:Gk z enc ok m a l):∃d,Sl enc d l/\Go.Ix.frz m.get (k+2) a=some d:=by
 rcases h with ⟨rfl,rfl⟩|⟨id,b,_,rfl,g⟩
 .exact⟨nilS,Or.inl ⟨rfl,rfl⟩,rfl⟩
 .have i:=gG e l;refine⟨.aN (l.flatMap enc) l.length false,Sl.lit l false,?_⟩
  have:=pI (aC:=m.get) (id:=id) (cs:=l.flatMap enc) (ver:=b) (off:=0) (n:=l.length) (z:=z) (k:=k) (f:=false) (x:=true) g (by omega) (by
   rw[bC,dM (by omega)];exact oD Z l)
  rw[bC,dM (by omega)]at this;exact this
def xgq{a:aJ}{f:FuncId}{l:List AV}{m b:Mem}{r:AV}(d:l.all clean=true)(h:a [] f l ⟨[],m.next⟩=some (r,b)) :
    ∃M:Mem,vM a f l m=some (r,M)/\M.next=b.next/\∀i:Id,M.get i=if m.next<=i.1 then b.get i else m.get i:=by
 refine⟨⟨(b.hp.filter λe=>Nat.ble m.next e.1)++(m.hp.filter λe=>Nat.blt e.1 m.next),b.next⟩,?_,rfl,λi=>congrFun (xd6 b.hp m.hp m.next) i⟩;unfold vM;rw[aF d,h]
def ao:∃i,prog.info? eB=some i/\i.size=1:=by have h:(prog.info? eB).map (λi=>i.size)=some 1:=(by kernel_rfl);obtain⟨i,a,b⟩:=cE.mp h;exact⟨i,a,b⟩
def xnp{id:Id}{b d n:Nat}{a:Bool}{e:Int}(f:0<=e)(g:e<=n)(h:a=true:=by rfl):eK prog fA (.sref id b d n 1 a) none (some (I e))=some (.sref id b d e.toNat 1 a):=by obtain⟨i,j,l⟩:=ao;simp only[eK,dO,jA,j,dL,Option.getD_some,Option.getD_none];rw[aF ⟨by omega,f,g,l.symm,.inl h⟩];simp
def xan{id:Id}{d e n:Nat}{a:Bool}{b:Int}(f:0<=b)(j:b<=n):eK prog fA (.sref id d e n 1 a) (some (I b)) none=some (.sref id d (e+b.toNat) (n-b.toNat) 1 a):=by obtain⟨i,g,h⟩:=ao;simp only[eK,dO,jA,g,dL,Option.getD_some,Option.getD_none];rw[aF ⟨f,by omega,by omega,h.symm,.inr trivial⟩,nS,show((n:Int)-b).toNat=n-b.toNat by omega]
structure Ar where
 edge:Int
 to:Int
 sign:Int
 room:Int
 cost:Int
def Ar.c(a:Ar):List AV:=[I a.edge,I a.to,I a.sign,I a.room,I a.cost]
theorem Ar.len(a:Ar):a.c.length=5:=rfl
def e00:Edge:=⟨0,0,0,0⟩
def edgeAt(l:List Edge)(i:Nat):Edge:=l.getD i e00
def KT{l:List Edge}{i:Nat}(h:i<l.length):edgeAt l i=l[i]:=by unfold edgeAt;rw[fU,eJ h];rfl
def adjI(l:List Edge)(v:Int):List Int:=((List.range l.length).filter λi=>decide ((edgeAt l i).fr=v)||decide ((edgeAt l i).to=v)).map Int.ofNat
structure FrzS (S:AV) (n:Nat) (l:List Edge) (fl tu ex:List Int):Prop where
 sh:∃ev F TU X cells b,S=.aE [I n,ev,F,TU,X,.aN cells n b]/\Sl Edge.c ev l/\Ints F fl/\Ints TU tu/\Ints X ex/\cells.length=n/\∀(v:Nat) (hv:v<cells.length),Ints cells[v] (adjI l v)
 fll:fl.length=l.length
 tul:tu.length=n
 exl:ex.length=n
 n0:n<=200
 ll:l.length<=600
 ed:∀e∈l,EdgeIn n e/\e.fr≠e.to
 flb:∀k,-1000<=at0 fl k/\at0 fl k<=1000
 tub:∀k,-1000000<=at0 tu k/\at0 tu k<=1000000
def LE{b:aJ}{f:FuncId}{l o:List AV}{m a:Mem}{r:AV}{ids:List Id}(p:l.mapM (frz m.get bI)=some o)(h:b [] f o ⟨[],m.next⟩=some (r,a))(t:L9 r=true)(d:reach a.get bI r=ids)(e:∀i∈ids,m.next<=i.1/\∃g v,a.get i=some (.row g v false)/\g.all pH=true):∃M:Mem,tZ b f l m=some (r,M)/\M.next=a.next/\∀i,M.get i=if i∈ids then a.get i else m.get i:=by
 refine⟨⟨T5 a.hp (reach a.get bI r) m.hp,a.next⟩,?_,rfl,?_⟩
 .unfold tZ;rw[p];simp only[h];rw[aF];rw[t,iG,d,dJ];intro i j;obtain⟨u,g,v,n,w⟩:=e i j;rw[n];simp[u,w]
 .intro i;rw[d];exact ZY a.hp ids m.hp (λi j=>by obtain⟨_,g,v,n,_⟩:=e i j;exact⟨_,n⟩) i
def xbp{b:Id->Option Ob}{k:Nat}:∀{l:List AV},l.all pH=true->l.flatMap (reach b k)=[]
 |[],_=>rfl
 |a::l,h=>by
  rw[dP,cI]at h;rw[dT,xbp h.2,iH];cases a with
  |sc v=>cases k<;>rfl
  |_=>simp[pH]at h
def YQ{a:Id->Option Ob}{k:Nat}{id:Id}{b d n z:Nat}{f:Bool}{e:List AV}{v:Nat}(h:a id=some (.row e v false))(Z:e.all pH=true):reach a (k+1) (.sref id b d n z f)=[id]:=by simp only[reach,h];rw[xbp];rw[dJ]at Z ⊢;exact λx g=>Z x (LZ (FQ g))
structure Tour where
 len:List Int
 last:List Ar
 bef:List Int
theorem Ar.one(a:Ar):a.c.all AV.one=true:=rfl
theorem Ar.sc(a:Ar):a.c.all pH=true:=rfl
structure WInv (u sL:Nat) (S:AV) (n:Nat) (t:Tour) (m:Mem):Prop where
 s:m.get (u,0,2)=some (.row [S] 0 false)
 t4:m.get (u,1,4)=some (.row [nilS,nilS,nilS] 0 false)
 t5:m.get (u,25,5)=some (.row [.sref (u+1,sL,30) 0 0 n 1 true,.sref (u,16,26) 0 0 n 5 true,.sref (u,23,33) 0 0 n 1 true] 0 false)
 len:m.get (u+1,sL,30)=some (.row (t.len.flatMap intE) 0 false)
 last:m.get (u,16,26)=some (.row (t.last.flatMap Ar.c) 0 false)
 bef:m.get (u,23,33)=some (.row (t.bef.flatMap intE) 0 false)
 ll:t.len.length=n
 al:t.last.length=n
 bl:t.bef.length=n
 nx:u+1<m.next
def WInv.frame{u l:Nat}{S:AV}{n:Nat}{t:Tour}{m m':Mem}(h:WInv u l S n t m)(o:∀id:Id,id.1<=u+1->id.2.2≠7->id.2.2≠41->m'.get id=m.get id)(p:m.next<=m'.next):WInv u l S n t m':=by obtain⟨a,b,c,d,e,f,g,i,j,k⟩:=h;refine⟨?_,?_,?_,?_,?_,?_,g,i,j,by omega⟩<;>rw[o _ (by simp) (by simp) (by simp)]<;>assumption
def dn(a:List Bool)(k:Nat):Bool:=a.getD k true
def x2q{a:List Bool}{k:Nat}(h:k<a.length):dn a k=a[k]:=by unfold dn;rw[fU,eJ h];rfl
def x2p{a:List Bool}{k j:Nat}(h:k<a.length):dn (a.set k true) j=if j=k then true else dn a j:=by
 unfold dn;rw[fU,fU,FU];by_cases e:k=j
 .subst e;simp[h]
 .rw[aB e,aB (λx=>e x.symm)]
def zH:List Bool->Nat
 |[]=>0
 |d::r=>(if d=false then 1 else 0)+zH r
def xga:∀{ds:List Bool} {k:Nat},k<ds.length->dn ds k=false->zH (ds.set k true)+1=zH ds
 |[],k,h,_=>by simp at h
 |d::r,0,h,a=>by have:d=false:=a;subst this;simp[zH];omega
 |d::r,k+1,h,a=>by have:=xga (ds:=r) (k:=k) (by simpa using h) a;simp only[eo,zH];omega
def x25(n:Nat):zH (List.replicate n false)=n:=by
 induction n with
 |zero=>rfl
 |succ n a=>rw[xh3];simp only[zH,a,cM];omega
abbrev srL(u a n:Nat):AV:=.sref (u+1,a,30) 0 0 n 1 true
def okA(a:Nat)(id:Id):Prop:=id.1=a/\(id.2.2=116\/id.2.2=127)
structure SolMem (us n:Nat) (ev:AV) (l:List Edge) (fl tu ex:List Int) (m:Mem):Prop where
 s:m.get (us,21,25)=some (.row [I n,ev,srI (us,7,11) l.length,srI (us,11,15) n,srI (us,15,19) n,srI (us,19,23) n] 0 false)
 f:m.get (us,7,11)=some (.row (fl.flatMap intE) 0 false)
 t:m.get (us,11,15)=some (.row (tu.flatMap intE) 0 false)
 x:m.get (us,15,19)=some (.row (ex.flatMap intE) 0 false)
 a:∃cells,m.get (us,19,23)=some (.row cells 0 false)/\cells.length=n/\∀(v:Nat) (hv:v<cells.length),Gk 1 intE (okA us) m cells[v] (adjI l v)
 fll:fl.length=l.length
 tul:tu.length=n
 exl:ex.length=n
def SolMem.frame{e n:Nat}{ev:AV}{l:List Edge}{o p r:List Int}{m m':Mem}(h:SolMem e n ev l o p r m)(t:∀id:Id,id.1=e->m'.get id=m.get id):SolMem e n ev l o p r m':=by obtain⟨a,b,c,d,⟨cells,y,w,x⟩,f,g,i⟩:=h;refine⟨?_,?_,?_,?_,⟨cells,?_,w,λv u=>(x v u).frame λid j=>t id j.1⟩,f,g,i⟩<;>rw[t _ rfl]<;>assumption
structure SolIn (n:Nat) (l:List Edge) (fl tu ex:List Int):Prop where
 n0:n<=200
 ll:l.length<=600
 ed:∀e∈l,EdgeIn n e/\e.fr≠e.to
 flb:∀k,-1000<=at0 fl k/\at0 fl k<=1000
 tub:∀k,-1000000<=at0 tu k/\at0 tu k<=1000000
 exb:∀k,-1000000<=at0 ex k/\at0 ex k<=1000000
def x0v{a:Id->Option Ob}{id:Id}{d:List AV}{v b n z k:Nat}{f x:Bool}(h:a id=some (.row d v f))(e:b+n*z<=d.length):frz a (k+1) (.sref id v b n z x)=(((d.drop b).take (n*z)).mapM (frz a k)).map λl=>AV.aN l n false:=by simp only[frz,h];rw[aF ⟨trivial,e⟩]
def x0x{a:Id->Option Ob}{id:Id}{d:List AV}{v b k:Nat}{f:Bool}(h:a id=some (.row d v f)):frz a (k+1) (.ptr id v b)=((d.drop b).mapM (frz a k)).map AV.aE:=by simp only[frz,h,cM]
def bj{b:Id->Option Ob}{id:Id}{l:List Int}{k:Nat}(h:b id=some (.row (l.flatMap intE) 0 false)):∃a,Ints a l/\frz b (k+2) (srI id l.length)=some a:=by
 have d:=D0 l;refine⟨.aN (l.flatMap intE) l.length false,Sl.lit l false,?_⟩
 have:=pI (aC:=b) (id:=id) (cs:=l.flatMap intE) (ver:=0) (off:=0) (n:=l.length) (z:=1) (k:=k) (f:=false) (x:=true) h (by omega) (by
  rw[bC,dM (by omega)];exact oD wI l)
 rw[bC,dM (by omega)]at this;exact this
def xde{f:AV->Option AV}{P:Nat->AV->Prop}:∀(l:List AV) (k:Nat),(∀(v:Nat) (d:v<l.length),∃b,f l[v]=some b/\P (k+v) b)->∃e,l.mapM f=some e/\e.length=l.length/\∀(v:Nat) (d:v<e.length),P (k+v) e[v]
 |[],k,_=>⟨[],rfl,rfl,λv d=>by simp at d⟩
 |a::l,k,h=>by
  obtain⟨b,g,i⟩:=h 0 (by simp);obtain⟨e,j,m,n⟩:=xde (f:=f) (P:=P) l (k+1) λv d=>by obtain⟨b,o,p⟩:=h (v+1) (by simpa using d);exact⟨b,o,by rw[show k+1+v=k+(v+1) by omega];exact p⟩
  refine⟨b::e,?_,by simp[m],λv d=>?_⟩
  .rw[eI];simp only[xic]at g;rw[g,j];rfl
  .cases v with
   |zero=>exact i
   |succ v=>have:=n v (by simpa using d);rw[show k+1+v=k+(v+1) by omega]at this;exact this
def SolMem.frz{e n:Nat}{ev:AV}{l:List Edge}{g i j:List Int}{m:Mem}(h:SolMem e n ev l g i j m)(a:SolIn n l g i j)(d:Sl Edge.c ev l):∃S,FrzS S n l g i j/\Go.Ix.frz m.get bI (.ptr (e,21,25) 0 0)=some S:=by
 obtain⟨Z,E,H,J,⟨cells,K,L,p⟩,t,u,w⟩:=h;obtain⟨F,M,x⟩:=bj (k:=3) E;obtain⟨T,N,y⟩:=bj (k:=3) H;obtain⟨X,O,A⟩:=bj (k:=3) J;obtain⟨r,Q,c2,R⟩:=xde (f:=Go.Ix.frz m.get 4) (P:=λv b=>Ints b (adjI l v)) cells 0 λv o=>by obtain⟨W,g1,g2⟩:=(p v o).frz (k:=2) fR wI;exact⟨W,g2,by simpa using g1⟩
 have C:Go.Ix.frz m.get 5 (srI (e,19,23) n)=some (.aN r n false):=(by rw[x0v K (by omega),bC,dM (by omega),Q];rfl);refine⟨.aE [I n,ev,F,T,X,.aN r n false],⟨⟨ev,F,T,X,r,false,rfl,d,M,N,O,by omega,λv o=>by have:=R v o;rwa[bR]at this⟩,t,u,w,a.n0,a.ll,a.ed,a.flb,a.tub⟩,?_⟩;rw[t]at x;rw[u]at y;rw[w]at A;have D:Go.Ix.frz m.get 5 ev=some ev:=uR _ 4 d.aP;rw[show bI=5+1 from rfl,x0x Z];have fn:Go.Ix.frz m.get 5 (I n)=some (I n):=rfl;simp only[bC,eI,gX,fn,D,x,y,A,C];rfl
structure TourMem (u sL n:Nat) (t:Tour) (m:Mem):Prop where
 t4:m.get (u,3,4)=some (.row [srL (u+1) sL n,.sref (u+1,16,26) 0 0 n 5 true,.sref (u+1,23,33) 0 0 n 1 true] 0 false)
 len:m.get (u+1+1,sL,30)=some (.row (t.len.flatMap intE) 0 false)
 last:m.get (u+1,16,26)=some (.row (t.last.flatMap Ar.c) 0 false)
 bef:m.get (u+1,23,33)=some (.row (t.bef.flatMap intE) 0 false)
 ll:t.len.length=n
 al:t.last.length=n
 bl:t.bef.length=n
def TourMem.frame{u i n:Nat}{t:Tour}{m m':Mem}(h:TourMem u i n t m)(j:∀id:Id,u<=id.1->m'.get id=m.get id):TourMem u i n t m':=by obtain⟨a,b,c,d,e,f,g⟩:=h;refine⟨?_,?_,?_,?_,e,f,g⟩<;>rw[j _ (by simp only;omega)]<;>assumption
def okid(u Y:Nat)(id:Id):Prop:=id.1=u/\(id.2.2=116\/id.2.2=127)/\id.2.1<Y
structure AtI (u fc:Nat) (cells:List AV) (adj:Nat->List Int) (m:Mem):Prop where
 sh:∃ids:Nat->Id,(∀(v:Nat) (hv:v<cells.length),(cells[v]=nilS/\adj v=[])\/(∃ver,cells[v]=.sref (ids v) ver 0 (adj v).length 1 true/\m.get (ids v)=some (.row ((adj v).flatMap intE) ver false)/\okid u fc (ids v)/\adj v≠[])) /\
  ∀v w,v<cells.length->w<cells.length->adj v≠[]->adj w≠[]->v≠w->ids v≠ids w
def AtI.frame{u Y e:Nat}{cells:List AV}{f:Nat->List Int}{m m':Mem}(h:AtI u Y cells f m)(i:∀id,okid u Y id->m'.get id=m.get id)(j:Y<=e):AtI u e cells f m':=by
 obtain⟨g,n,o⟩:=h.sh;refine⟨g,λv l=>?_,o⟩;rcases n v l with h|⟨ver,a,b,c,d⟩
 .exact Or.inl h
 .exact Or.inr ⟨ver,a,by rw[i _ c];exact b,⟨c.1,c.2.1,by have:=c.2.2;omega⟩,d⟩
def AtI.app{u Y A:Nat}{cells:List AV}{i:Nat->List Int}{m:Mem}(h:AtI u Y cells i m){v:Nat}(X:v<cells.length)(x:Int){id0:Id}(N:id0.1=u)(O:id0.2.2=116\/id0.2.2=127)(h3:Y<=id0.2.1)(Z:id0.2.1<A)(hr:(i v).length<=100000) :
    ∃H L idA,(∀{R:Type} (k:AV->Mem->Option R),cJ 1 8 id0 (some (intE x,1)) cells[v] m k=k H L)/\AtI u A (cells.set v H) (λw=>if w=v then i v++[x]else i w) L/\H.cells=[H]/\H.one=true/\L.next=m.next/\(∀j:Id,¬okid u A j->L.get j=m.get j) /\
     tA id0 cells[v]=some [idA]/\(idA.2.2=116\/idA.2.2=127)/\idA.1=u:=by
 obtain⟨o,e1,Q⟩:=h.sh;have J:∀k,k<=100001->cH k 8:=λk hk=>by unfold cH;omega
 have g:∀(w:Nat) (r:w<cells.length),((cells[w]=nilS/\i w=[])\/(∃n,cells[w]=.sref (o w) n 0 (i w).length 1 true/\m.get (o w)=some (.row ((i w).flatMap intE) n false)/\okid u Y (o w)/\i w≠[])):=e1;rcases e1 v X with ⟨K,M⟩|⟨n,K,M,y,W⟩
 ·
  refine⟨.sref id0 0 0 1 1 true,m.new id0 (.row (intE x) 0 false),id0,λk=>?_,⟨λw=>if w=v then id0 else o w,λw r=>?_,λw C r t E F D=>?_⟩,rfl,rfl,rfl,λj P=>?_,by rw[K];rfl,O,N⟩
  .rw[K];simp only[cJ];rw[aB (by omega),aF (J 1 (by omega))]
  .simp only[mS]at r;by_cases f:w=v
   .subst f;right;refine⟨0,?_,?_,?_,by simp⟩
    .simp[M]
    .simp[M]
    .simp only[cM];exact⟨N,O,Z⟩
   .rw[ME (λe=>f e.symm)];simp only[aB f];rcases g w r with h|⟨n,a,b,c,d⟩
    .exact Or.inl h
    .refine Or.inr ⟨n,a,?_,⟨c.1,c.2.1,by have:=c.2.2;omega⟩,d⟩;rw[Mem.dH,aB (by rintro e;rw[e]at c;have:=c.2.2;omega)];exact b
  .simp only[mS]at r t;by_cases f:w=v
   .have p:C≠v:=(by omega);simp only[aF f,aB p];simp only[aB p]at F;rcases g C t with ⟨_,h⟩|⟨_,_,_,c,_⟩
    .exact absurd h F
    .intro e;rw[<-e]at c;have:=c.2.2;omega
   .by_cases p:C=v
    .simp only[aB f,aF p];simp only[aB f]at E;rcases g w r with ⟨_,h⟩|⟨_,_,_,c,_⟩
     .exact absurd h E
     .intro e;rw[e]at c;have:=c.2.2;omega
    .simp only[aB f,aB p]at E F ⊢;exact Q w C r t E F D
  .rw[Mem.dH,aB (by rintro rfl;exact P ⟨N,O,Z⟩)]
 .have hl:=D0 (i v);refine⟨.sref (o v) (n+1) 0 ((i v).length+1) 1 true,m.set (o v) (.row ((i v).flatMap intE++intE x) (n+1) false),o v,λk=>?_,⟨o,λw r=>?_,λw C r t E F D=>?_⟩,rfl,rfl,rfl,λj P=>?_,by rw[K];rfl,y.2.1,y.1⟩
  .rw[K];simp only[cJ,M];rw[aF ⟨trivial,trivial,by omega,J _ (by omega)⟩,aB (by omega),aB (by omega),bC,dM (by omega)]
  .simp only[mS]at r;by_cases f:w=v
   .subst f;right;refine⟨n+1,by simp,by simp,⟨y.1,y.2.1,by have:=y.2.2;omega⟩,by simp⟩
   .rw[ME (λe=>f e.symm)];simp only[aB f];rcases g w r with h|⟨ver',a,b,c,d⟩
    .exact Or.inl h
    .refine Or.inr ⟨ver',a,?_,⟨c.1,c.2.1,by have:=c.2.2;omega⟩,d⟩;rw[Mem.cP,aB (Q w v r X d W f)];exact b
  .simp only[mS]at r t;refine Q w C r t ?_ ?_ D
   .by_cases f:w=v
    .subst f;exact W
    .simpa[f]using E
   .by_cases f:C=v
    .subst f;exact W
    .simpa[f]using F
  .rw[Mem.cP,aB (by rintro rfl;exact P ⟨y.1,y.2.1,by have:=y.2.2;omega⟩)]
theorem Edge.bB(e:Edge):e.c.all aP=true:=rfl
def xff(p:List Int)(e:Edge)(f:Int):List Int:=(p.set e.to.toNat (at0 p e.to.toNat+f)).set e.fr.toNat (at0 p e.fr.toNat-f)
def NodeIn(p:List Int)(b:Int):Prop:=∀k,-b<=at0 p k/\at0 p k<=b
def NodeIn.up{p:List Int}{b:Int}(h:NodeIn p b){e:Edge}(d:EdgeIn p.length e){f:Int}(g:-1000<=f)(i:f<=1000):NodeIn (xff p e f) (b+1000):=by
 obtain⟨m,n,o,r,-⟩:=d;intro k;have a:=h k;have j:=h e.to.toNat;have l:=h e.fr.toNat;unfold xff;rw[xhf (by simp;omega),xhf (by omega)];split
 .omega
 .split<;>omega
def lX:Nat->(Nat->Int)->Int
 |0,_=>0
 |n+1,g=>lX n g+g n
def xna{n:Nat}{g h:Nat->Int}(H:∀k,k<n->g k=h k):lX n g=lX n h:=by
 induction n with
 |zero=>rfl
 |succ n a=>simp only[lX];rw[a λk b=>H k (by omega),H n (by omega)]
def XQ{n:Nat}{g:Nat->Int}(H:∀k,k<n->g k=0):lX n g=0:=by
 induction n with
 |zero=>rfl
 |succ n a=>simp only[lX];rw[a λk b=>H k (by omega),H n (by omega)];rfl
def xad{n:Nat}{g h:Nat->Int}:lX n (λk=>g k+h k)=lX n g+lX n h:=by
 induction n with
 |zero=>rfl
 |succ n a=>simp only[lX];rw[a];omega
def xm9{n:Nat}{g:Nat->Int}(H:∀k,k<n->0<=g k):0<=lX n g:=by
 induction n with
 |zero=>simp[lX]
 |succ n a=>simp only[lX];have:=a λk b=>H k (by omega);have:=H n (by omega);omega
def xac{n v:Nat}(h:v<n)(c:Int)(p:Nat->Int):lX n (λk=>if v=k then p k*c else 0)=p v*c:=by
 induction n with
 |zero=>omega
 |succ n a=>
  simp only[lX];by_cases e:v=n
  .subst e;rw[XQ (λk b=>aB (by omega)),aF rfl];omega
  .rw[a (by omega),aB e];omega
def sS(p:Nat->Int)(e:Edge):Int:=p e.to.toNat-p e.fr.toNat+e.jump
def EZ(p:Nat->Int):List Edge->Int
 |[]=>0
 |e::r=>e.wt*((sS p e).natAbs:Int)+EZ p r
def o6:List (Edge×Int)->Int
 |[]=>0
 |x::r=>x.2*x.1.jump+o6 r
def netF(v:Nat):List (Edge×Int)->Int
 |[]=>0
 |x::r=>(if x.1.to.toNat=v then x.2 else 0)-(if x.1.fr.toNat=v then x.2 else 0)+netF v r
def D7(p:Nat->Int):List (Edge×Int)->Int
 |[]=>0
 |x::r=>x.1.wt*((sS p x.1).natAbs:Int)-x.2*sS p x.1+D7 p r
def Cap(z:List (Edge×Int)):Prop:=∀x∈z,-x.1.wt<=x.2/\x.2<=x.1.wt
def Ends(n:Nat)(z:List (Edge×Int)):Prop:=∀x∈z,x.1.fr.toNat<n/\x.1.to.toNat<n
def CS(p:Nat->Int)(z:List (Edge×Int)):Prop:=∀x∈z,(x.2<x.1.wt->sS p x.1<=0)/\(-x.1.wt<x.2->0<=sS p x.1)
structure Feas (n:Nat) (z:List (Edge×Int)):Prop where
 cap:Cap z
 cons:∀v,v<n->netF v z=0
 ends:Ends n z
def xaa(n:Nat)(p:Nat->Int):∀z:List (Edge×Int),Ends n z->lX n (λv=>p v*netF v z)=o6 z*0+(z.foldr (λx s=>x.2*(p x.1.to.toNat-p x.1.fr.toNat)+s) 0)
 |[],_=>by simp only[netF,Int.mul_zero,List.foldr_nil,o6];rw[XQ (λ_ _=>rfl)];rfl
 |x::r,h=>by have b:=xaa n p r (λy a=>h y (eE _ a));obtain⟨d,f⟩:=h x (eP ..);have e:∀v,p v*netF v (x::r)=(if x.1.to.toNat=v then p v*x.2 else 0)+((if x.1.fr.toNat=v then p v*(-x.2)else 0)+p v*netF v r):=(by intro v;simp only[netF];split<;>split<;>grind);rw[xna (λk _=>e k),xad,xad,xac d,xac f,b];simp only[xie];grind
def xf3(p:Nat->Int):∀z:List (Edge×Int),EZ p (z.map Prod.fst)=D7 p z+o6 z+z.foldr (λx s=>x.2*(p x.1.to.toNat-p x.1.fr.toNat)+s) 0
 |[]=>rfl
 |x::r=>by have a:=xf3 p r;simp only[fY,EZ,D7,o6,xie,a,sS];grind
def x20{n:Nat}{z:List (Edge×Int)}(h:Feas n z)(p:Nat->Int):EZ p (z.map Prod.fst)=D7 p z+o6 z:=by have d:=xf3 p z;have b:=xaa n p z h.ends;rw[XQ (λk a=>by rw[h.cons k a];simp)]at b;omega
def x0n{w f e:Int}(b:-w<=f)(a:f<=w):0<=w*(e.natAbs:Int)-f*e:=by
 rcases Int.le_total 0 e with h|h
 .rw[Int.natAbs_of_nonneg h];have:=x9r a h;omega
 .rw[show(e.natAbs:Int)=-e by omega];have:=x9r (show -f<=w by omega) (show 0<=-e by omega);grind
def xe1(p:Nat->Int):∀{z:List (Edge×Int)},Cap z->0<=D7 p z
 |[],_=>by simp[D7]
 |x::r,h=>by
  have d:=xe1 p (z:=r) λy b=>h y (eE _ b)
  have a:=h x (eP ..);have f:=x0n (e:=sS p x.1) a.1 a.2;simp only[D7];omega
def weak{n:Nat}{z:List (Edge×Int)}(h:Feas n z)(p:Nat->Int):o6 z<=EZ p (z.map Prod.fst):=by have:=x20 h p;have:=xe1 p h.cap;omega
def Arc(z:List (Edge×Int))(u v:Nat)(c:Int):Prop:=∃x∈z,(x.2<x.1.wt/\u=x.1.fr.toNat/\v=x.1.to.toNat/\c=-x.1.jump)\/(-x.1.wt<x.2/\u=x.1.to.toNat/\v=x.1.fr.toNat/\c=x.1.jump)
inductive Way (z:List (Edge×Int)) (u:Nat):Nat->Int->Prop
 |nil:Way z u u 0
 |cons {v w:Nat} {c d:Int}:Way z u v c->Arc z v w d->Way z u w (c+d)
def cs_iff{p:Nat->Int}{z:List (Edge×Int)}:CS p z↔∀u v c,Arc z u v c->p v-p u<=c:=by
 constructor
 .rintro h u v c ⟨x,b,⟨a,rfl,rfl,rfl⟩|⟨a,rfl,rfl,rfl⟩⟩
  .have:=(h x b).1 a;unfold sS at this;omega
  .have:=(h x b).2 a;unfold sS at this;omega
 .intro h x b;refine⟨λa=>?_,λa=>?_⟩
  .have:=h _ _ _ ⟨x,b,Or.inl ⟨a,rfl,rfl,rfl⟩⟩;unfold sS;omega
  .have:=h _ _ _ ⟨x,b,Or.inr ⟨a,rfl,rfl,rfl⟩⟩;unfold sS;omega
def Way.le{p:Nat->Int}{z:List (Edge×Int)}(h:CS p z){u v:Nat}{c:Int}(a:Way z u v c):p v-p u<=c:=by
 induction a with
 |nil=>omega
 |cons _ b d=>have:=cs_iff.mp h _ _ _ b;omega
def Arc.lt{n:Nat}{z:List (Edge×Int)}(h:Ends n z){u v:Nat}{c:Int}(b:Arc z u v c):u<n/\v<n:=by
 obtain⟨x,a,⟨d,rfl,rfl,rfl⟩|⟨d,rfl,rfl,rfl⟩⟩:=b
 .exact h x a
 .exact⟨(h x a).2,(h x a).1⟩
def Way.lt{n:Nat}{z:List (Edge×Int)}(h:Ends n z){u v:Nat}{c:Int}(a:u<n)(b:Way z u v c):v<n:=by
 cases b with
 |nil=>exact a
 |cons _ d=>exact(d.lt h).2
def xcs:∀(a:List Nat) (b:List Bool),a.Nodup->(∀w∈a,w<b.length/\dn b w=false)->a.length<=zH b
 |[],_,_,_=>FP _
 |w::a,b,h,f=>by
  obtain⟨g,i⟩:=zR.mp h;obtain⟨e,j⟩:=f w (eP ..)
  have:=xcs a (b.set w true) i (λx d=>by
   obtain⟨l,m⟩:=f x (eE _ d)
   exact⟨by simpa using l,by rw[x2p e,aB (by rintro rfl;exact g d)];exact m⟩)
  have:=xga e j;simp only[dN];omega
def xv6{n:Nat}{a:List Nat}(h:a.Nodup)(b:∀w∈a,w<n):a.length<=n:=by have:=xcs a (List.replicate n false) h (λw d=>⟨by simpa using b w d,by rw[x2q (by simpa using b w d)];simp⟩);rwa[x25]at this
structure FlowOK (n:Nat) (l:List Edge) (fl tu ex:List Int):Prop where
 nn:n<=200
 ll:l.length<=600
 ed:∀e∈l,EdgeIn n e/\e.fr≠e.to
 fll:fl.length=l.length
 tul:tu.length=n
 exl:ex.length=n
 cap:∀k,k<l.length->-(edgeAt l k).wt<=at0 fl k/\at0 fl k<=(edgeAt l k).wt
 cs:∀k,k<l.length->(at0 fl k<(edgeAt l k).wt->exI tu (edgeAt l k)<=0)/\(-(edgeAt l k).wt<at0 fl k->0<=exI tu (edgeAt l k))
 net:∀v,v<n->at0 ex v=netF v (l.zip fl)
def x18{n:Nat}{l:List Edge}(a:∀e∈l,EdgeIn n e/\e.fr≠e.to){k:Nat}(b:k<l.length):EdgeIn n (edgeAt l k)/\(edgeAt l k).fr≠(edgeAt l k).to:=by rw[KT b];exact a _ (fG b)
def ind(p:Prop)[Decidable p]:Int:=if p then 1 else 0
def xxk{l:List Edge}{a:List Int}(e:a.length=l.length){x:Edge×Int}:x∈l.zip a↔∃k,k<l.length/\x=(edgeAt l k,at0 a k):=by
 constructor
 .intro h;obtain⟨k,b,rfl⟩:=vB.mp h;have d:k<l.length:=(by simp at b;omega);refine⟨k,d,?_⟩;rw[List.getElem_zip,KT d,fD (by omega)]
 .rintro⟨k,b,rfl⟩;rw[KT b,fD (by omega)];have:k<(l.zip a).length:=(by simp;omega);rw[<-List.getElem_zip (h:=this)];exact fG this
structure Slim (J:Int) (n:Nat) (l:List Edge):Prop where
 j0:0<=J
 j1:J<=20
 nn:n<=12
 ll:l.length<=17
 ed:∀e∈l,EdgeIn n e/\e.fr≠e.to
 jw:∀e∈l,-J<=e.jump/\e.jump<=J/\e.wt<=20
def y6(n:Nat)(a:List Int):Int:=lX n (λv=>if 0<at0 a v then at0 a v else 0)
def xum(n:Nat)(a:List Int):0<=y6 n a:=xm9 λk _=>by split<;>omega
def xct(v:Nat):∀z:List (Edge×Int),(∀x∈z,-20<=x.2/\x.2<=20)->-(40*(z.length:Int))<=netF v z/\netF v z<=40*(z.length:Int)
 |[],_=>by simp[netF]
 |x::r,h=>by have b:=xct v r (λy a=>h y (eE _ a));have d:=h x (eP ..);simp only[netF,dN];split<;>split<;>omega
def FlowOK.exb{J:Int}{n:Nat}{l:List Edge}{b f a:List Int}(h:FlowOK n l b f a)(e:Slim J n l)(v:Nat):-680<=at0 a v/\at0 a v<=680:=by
 by_cases i:v<n
 .rw[h.net v i]
  have:=xct v (l.zip b) (λx g=>by
   obtain⟨k,d,rfl⟩:=(xxk h.fll).mp g
   have j:=h.cap k d
   have m:=e.jw (edgeAt l k) (by rw[KT d];exact fG d)
   simp only
   omega)
  have o:=e.ll;have:(l.zip b).length<=17:=(by rw[List.length_zip];omega);omega
 .have:at0 a v=0:=(by unfold at0;rw[fU,FW (by rw[h.exl];omega)];rfl);omega
def FlowOK.flb{n:Nat}{l:List Edge}{a d e:List Int}(h:FlowOK n l a d e)(k:Nat):-1000<=at0 a k/\at0 a k<=1000:=by
 by_cases b:k<l.length
 .have:=h.cap k b;obtain⟨⟨_,_,_,_,_,_,f,g⟩,_⟩:=x18 h.ed b;omega
 .have:at0 a k=0:=(by unfold at0;rw[fU,FW (by rw[h.fll];omega)];rfl);omega
def PBound(J P:Int)(n:Nat)(a:List Int):Prop:=0<=P/\P<=(J*12)*(1000-y6 n a)
def PBound.le{J P:Int}{n:Nat}{a:List Int}(h:PBound J P n a)(b:0<=J):P<=J*12000:=by have d:=xum n a;have f:(J*12)*(1000-y6 n a)<=(J*12)*1000:=x9s (by omega) (by omega);have:=h.2;have e:J*12*1000=J*12000:=(by rw[Int.mul_assoc];rfl);omega
def PBound.push{J P d b:Int}{n:Nat}{e a:List Int}(h:PBound J P n e)(g:0<=J)(i:P<=d)(j:d<=P+J*12)(l:y6 n a+b=y6 n e)(m:0<b):PBound J d n a:=by refine⟨by have:=h.1;omega,?_⟩;have f:(J*12)*(1000-y6 n e+1)<=(J*12)*(1000-y6 n a):=x9s (by omega) (by omega);rw[Int.mul_add,Int.mul_one]at f;have:=h.2;omega
def xno{b:List AV}{n:Nat}{x:Bool}{a:Int}(d:0<=a)(e:a<=n)(h:b.length=n):eK prog fA (.aN b n x) (some (I a)) none=some (.aN (b.drop a.toNat) (n-a.toNat) x):=by obtain⟨i,f,g⟩:=ao;simp only[eK,dO,jA,f,dL,Option.getD_some,Option.getD_none,g];rw[aF ⟨d,e,MR _,by omega⟩,nS,nS,show((n:Int)-a).toNat=n-a.toNat by omega,dM (by simp;omega)];simp
def QRep(w:Nat)(m:Mem)(a:AV)(q:List Int):Prop:=
 a=.aN (q.flatMap intE) q.length true\/∃id d b e,w<=id.1/\a=.sref id d b q.length 1 true/\m.get id=some (.row e d false)/\e.drop b=q.flatMap intE/\b+q.length=e.length
def QRep.frame{w:Nat}{m m':Mem}{a:AV}{q:List Int}(h:QRep w m a q)(b:∀id:Id,w<=id.1->m'.get id=m.get id):QRep w m' a q:=by
 rcases h with h|⟨id,ver,off,cs,h1,h2,h3,h4⟩
 .exact Or.inl h
 .exact Or.inr ⟨id,ver,off,cs,h1,h2,by rw[b id h1];exact h3,h4⟩
def QRep.one{w:Nat}{m:Mem}{a:AV}{q:List Int}(h:QRep w m a q):a.cells=[a]/\a.one=true:=by rcases h with rfl|⟨id,ver,off,cs,h1,rfl,h3,h4⟩<;>exact⟨rfl,rfl⟩
def QRep.len{w:Nat}{m:Mem}{a:AV}{q:List Int}(h:QRep w m a q):aM prog fA a=some (I q.length):=by rcases h with rfl|⟨id,ver,off,cs,h1,rfl,h3,h4⟩<;>rfl
def QRep.head{w:Nat}{m:Mem}{a:AV}{x:Int}{q:List Int}(h:QRep w m a (x::q)):∃p,aR 1 a (I 0)=some p/\aA false 1 p m=some (I x):=by
 rcases h with rfl|⟨id,ver,off,cs,h1,rfl,h3,h4,h5⟩
 .refine⟨.aE ((x::q).flatMap intE),?_,rfl⟩;have:=(Sl.lit (x::q) true (enc:=intE)).ixI fR (k:=0) (by omega) (by simp);simpa using this
 .refine⟨.ptr id ver off,by simp[aR,dL],?_⟩;rw[jB,h3];simp only[sH,zQ,cond_true];rw[h4];rfl
def QRep.tail{w:Nat}{m:Mem}{a:AV}{x:Int}{q:List Int}(h:QRep w m a (x::q)):∃b,eK prog fA a (some (I 1)) none=some b/\QRep w m b q:=by
 rcases h with rfl|⟨id,ver,off,cs,h1,rfl,h3,h4,h5⟩
 .refine⟨.aN (q.flatMap intE) q.length true,?_,Or.inl rfl⟩;rw[xno (by omega) (by rw[dN];omega) (D0 _)];rfl
 .refine⟨.sref id ver (off+1) q.length 1 true,?_,Or.inr ⟨id,ver,off+1,cs,h1,rfl,h3,?_,by simp at h5;omega⟩⟩
  .rw[xan (by omega) (by rw[dN];omega)];rfl
  .rw[<-xig,h4];rfl
def QRep.app{w:Nat}{m:Mem}{a:AV}{q:List Int}(h:QRep w m a q)(n:q.length<=100000){id0:Id}(g:w<=id0.1)(x:Int) :
    ∃e d,(∀{R:Type} (k:AV->Mem->Option R),cJ 1 8 id0 (some (intE x,1)) a m k=k e d)/\QRep w d e (q++[x])/\d.next=m.next/\∀id:Id,id.1<w->d.get id=m.get id:=by
 have b:∀k,k<=100001->cH k 8:=λk o=>by unfold cH;omega
 have f:=D0 q;rcases h with rfl|⟨id,ver,off,cs,h1,rfl,h3,h4,h5⟩
 .refine⟨.sref id0 0 0 (q.length+1) 1 true,m.new id0 (.row (q.flatMap intE++intE x) 0 false),λk=>?_,Or.inr ⟨id0,0,0,q.flatMap intE++intE x,g,by simp,by simp,by simp,by simp[f,intE]⟩,rfl,λj i=>?_⟩
  .simp only[cJ];rw[aF (by omega),aB (by omega),aF (b _ (by omega)),nS,dM (by omega)]
  .rw[Mem.dH,aB (by rintro rfl;omega)]
 .refine⟨.sref id (ver+1) 0 (q.length+1) 1 true,m.set id (.row (q.flatMap intE++intE x) (ver+1) false),λk=>?_,Or.inr ⟨id,ver+1,0,q.flatMap intE++intE x,h1,by simp,by simp,by simp,by simp[f,intE]⟩,rfl,λj i=>?_⟩
  .simp only[cJ,h3];rw[aF ⟨trivial,trivial,by omega,b _ (by omega)⟩,aB (by omega),aB (by omega),h4,dM (by omega)]
  .rw[Mem.cP,aB (by rintro rfl;omega)]
def QRep.tA{w:Nat}{m:Mem}{a:AV}{q:List Int}(h:QRep w m a q){b:Id}(d:w<=b.1):∃id,Go.Ix.tA b a=some [id]/\w<=id.1:=by
 rcases h with rfl|⟨id,ver,off,cs,h1,rfl,h3,h4,h5⟩
 .exact⟨b,rfl,d⟩
 .exact⟨id,rfl,h1⟩
def xwf(l:List Edge)(a:Int):List Int:=l.flatMap λe=>if 0<e.wt then(if e.fr=a then[e.to]else if e.to=a then[e.fr]else[])else[]
def okjd(u Y:Nat)(id:Id):Prop:=id.1=u/\(id.2.2=35\/id.2.2=44)/\id.2.1<Y
structure AtJ (u fc:Nat) (cells:List AV) (adj:Nat->List Int) (m:Mem):Prop where
 sh:∃ids:Nat->Id,(∀(v:Nat) (hv:v<cells.length),(cells[v]=nilS/\adj v=[])\/(∃ver,cells[v]=.sref (ids v) ver 0 (adj v).length 1 true/\m.get (ids v)=some (.row ((adj v).flatMap intE) ver false)/\okjd u fc (ids v)/\adj v≠[])) /\
  ∀v w,v<cells.length->w<cells.length->adj v≠[]->adj w≠[]->v≠w->ids v≠ids w
def AtJ.frame{u Y e:Nat}{cells:List AV}{f:Nat->List Int}{m m':Mem}(h:AtJ u Y cells f m)(i:∀id,okjd u Y id->m'.get id=m.get id)(j:Y<=e):AtJ u e cells f m':=by
 obtain⟨g,n,o⟩:=h.sh;refine⟨g,λv l=>?_,o⟩;rcases n v l with h|⟨ver,a,b,c,d⟩
 .exact Or.inl h
 .exact Or.inr ⟨ver,a,by rw[i _ c];exact b,⟨c.1,c.2.1,by have:=c.2.2;omega⟩,d⟩
def AtJ.app{u Y A:Nat}{cells:List AV}{i:Nat->List Int}{m:Mem}(h:AtJ u Y cells i m){v:Nat}(X:v<cells.length)(x:Int){id0:Id}(N:id0.1=u)(O:id0.2.2=35\/id0.2.2=44)(h3:Y<=id0.2.1)(Z:id0.2.1<A)(hr:(i v).length<=100000) :
    ∃H L idA,(∀{R:Type} (k:AV->Mem->Option R),cJ 1 8 id0 (some (intE x,1)) cells[v] m k=k H L)/\AtJ u A (cells.set v H) (λw=>if w=v then i v++[x]else i w) L/\H.cells=[H]/\H.one=true/\L.next=m.next/\(∀j:Id,¬okjd u A j->L.get j=m.get j) /\
     tA id0 cells[v]=some [idA]/\(idA.2.2=35\/idA.2.2=44)/\idA.1=u:=by
 obtain⟨o,e1,Q⟩:=h.sh;have J:∀k,k<=100001->cH k 8:=λk hk=>by unfold cH;omega
 have g:∀(w:Nat) (r:w<cells.length),((cells[w]=nilS/\i w=[])\/(∃n,cells[w]=.sref (o w) n 0 (i w).length 1 true/\m.get (o w)=some (.row ((i w).flatMap intE) n false)/\okjd u Y (o w)/\i w≠[])):=e1;rcases e1 v X with ⟨K,M⟩|⟨n,K,M,y,W⟩
 ·
  refine⟨.sref id0 0 0 1 1 true,m.new id0 (.row (intE x) 0 false),id0,λk=>?_,⟨λw=>if w=v then id0 else o w,λw r=>?_,λw C r t E F D=>?_⟩,rfl,rfl,rfl,λj P=>?_,by rw[K];rfl,O,N⟩
  .rw[K];simp only[cJ];rw[aB (by omega),aF (J 1 (by omega))]
  .simp only[mS]at r;by_cases f:w=v
   .subst f;right;refine⟨0,?_,?_,?_,by simp⟩
    .simp[M]
    .simp[M]
    .simp only[cM];exact⟨N,O,Z⟩
   .rw[ME (λe=>f e.symm)];simp only[aB f];rcases g w r with h|⟨n,a,b,c,d⟩
    .exact Or.inl h
    .refine Or.inr ⟨n,a,?_,⟨c.1,c.2.1,by have:=c.2.2;omega⟩,d⟩;rw[Mem.dH,aB (by rintro e;rw[e]at c;have:=c.2.2;omega)];exact b
  .simp only[mS]at r t;by_cases f:w=v
   .have p:C≠v:=(by omega);simp only[aF f,aB p];simp only[aB p]at F;rcases g C t with ⟨_,h⟩|⟨_,_,_,c,_⟩
    .exact absurd h F
    .intro e;rw[<-e]at c;have:=c.2.2;omega
   .by_cases p:C=v
    .simp only[aB f,aF p];simp only[aB f]at E;rcases g w r with ⟨_,h⟩|⟨_,_,_,c,_⟩
     .exact absurd h E
     .intro e;rw[e]at c;have:=c.2.2;omega
    .simp only[aB f,aB p]at E F ⊢;exact Q w C r t E F D
  .rw[Mem.dH,aB (by rintro rfl;exact P ⟨N,O,Z⟩)]
 .have hl:=D0 (i v);refine⟨.sref (o v) (n+1) 0 ((i v).length+1) 1 true,m.set (o v) (.row ((i v).flatMap intE++intE x) (n+1) false),o v,λk=>?_,⟨o,λw r=>?_,λw C r t E F D=>?_⟩,rfl,rfl,rfl,λj P=>?_,by rw[K];rfl,y.2.1,y.1⟩
  .rw[K];simp only[cJ,M];rw[aF ⟨trivial,trivial,by omega,J _ (by omega)⟩,aB (by omega),aB (by omega),bC,dM (by omega)]
  .simp only[mS]at r;by_cases f:w=v
   .subst f;right;refine⟨n+1,by simp,by simp,⟨y.1,y.2.1,by have:=y.2.2;omega⟩,by simp⟩
   .rw[ME (λe=>f e.symm)];simp only[aB f];rcases g w r with h|⟨ver',a,b,c,d⟩
    .exact Or.inl h
    .refine Or.inr ⟨ver',a,?_,⟨c.1,c.2.1,by have:=c.2.2;omega⟩,d⟩;rw[Mem.cP,aB (Q w v r X d W f)];exact b
  .simp only[mS]at r t;refine Q w C r t ?_ ?_ D
   .by_cases f:w=v
    .subst f;exact W
    .simpa[f]using E
   .by_cases f:C=v
    .subst f;exact W
    .simpa[f]using F
  .rw[Mem.cP,aB (by rintro rfl;exact P ⟨y.1,y.2.1,by have:=y.2.2;omega⟩)]
def Gk.lenP{ok:Id->Prop}{m:Mem}{a:AV}{l:List Int}(h:Gk 1 intE ok m a l):aM prog fA a=some (I l.length):=by
 rcases h with ⟨rfl,rfl⟩|⟨id,b,d,rfl,e⟩
 .exact EI jA
 .rfl
def PartC(n:Nat)(l:List Edge)(m:Mem):Prop:=m.get (0,6,3)=some (.row [srI (0,5,9) n] 0 false)/\∃cells,m.get (0,5,9)=some (.row cells 0 false)/\cells.length=n/\∀(v:Nat) (a:v<cells.length),Gk 1 intE (λid=>id.1=0) m cells[v] (xwf l v)
def PartC.frame{n:Nat}{l:List Edge}{m m':Mem}(h:PartC n l m)(a:∀id:Id,id.1<1->m'.get id=m.get id):PartC n l m':=by obtain⟨e,cells,f,g,i⟩:=h;exact⟨by rw[a _ (by simp)];exact e,cells,by rw[a _ (by simp)];exact f,g,λv b=>(i v b).frame λid d=>a id (by omega)⟩
def xlo(d:Nat){n:Int}(a:-9223372036854775808<=n)(b:n<=9223372036854775807)(m:Mem):aI (aH (d+1)) CE [I n] m=some (Tx (dI n),m):=by
 refine Ans.gA (m:=m) ?_ rfl rfl;have h:aH (d+1) [] CE [I n] mem0=(rQ 1 [I n]).map λv=>(v,mem0):=by kernel_rfl
 unfold Ans;have e:rQ 1 [I n]=if -9223372036854775808<=n/\n<=9223372036854775807 then some (.sc (.string ⟨(dI n).toArray⟩))else none:=rfl
 rw[h,e,aF ⟨a,b⟩];exact⟨_,rfl⟩
def xl6(d:Nat){l:List UInt8}(e:l.length<=1000000)(m:Mem) :
    (∃v,Lib.atoiAll l=.ok v/\aI (aH (d+1)) N4 [Tx l] m=some (.tup [I v,.sc .nilIface],m))\/((∀v,Lib.atoiAll l≠.ok v)/\∃x:Int,aI (aH (d+1)) N4 [Tx l] m=some (.tup [I x,.un wP],m)):=by
 have h:aH (d+1) [] N4 [Tx l] mem0=(rQ 2 [Tx l]).map λv=>(v,mem0):=by kernel_rfl
 have a:rQ 2 [Tx l]=match Lib.atoiAll l with
  | .ok v=>some (.tup [.sc (.int .i64 v),.sc .nilIface])
  | .range=>some (.tup [.sc (.int .i64 (Lib.atoiSat l)),.un wP])
  |_=>some (.tup [.sc (.int .i64 0),.un wP]):=by
  have f:rQ 2 [Tx l]=if(⟨l.toArray⟩:ByteArray).size<=1000000 then(match Lib.atoiAll l with
   | .ok v=>some (.tup [.sc (.int .i64 v),.sc .nilIface])
   | .range=>some (.tup [.sc (.int .i64 (Lib.atoiSat l)),.un wP])
   |_=>some (.tup [.sc (.int .i64 0),.un wP]))else none:=rfl
  rw[f,aF (by rw[o9];exact e)]
 cases b:Lib.atoiAll l with
 |ok v=>rw[b]at a;rw[a]at h;exact .inl ⟨v,rfl,sZ rfl h rfl⟩
 |range=>rw[b]at a;rw[a]at h;exact .inr ⟨(λv h=>by cases h),_,sZ rfl h rfl⟩
 |_=>rw[b]at a;rw[a]at h;exact .inr ⟨(λv h=>by cases h),_,sZ rfl h rfl⟩
def OkR.run{P:Program}{α:Type}{R:α->Prop}{a:α}(d:R a):∀{s:Sem α},bT P s=some a->OkR P s R
 | .pure b,h=>by simp only[bT,bN]at h;exact OkR.pure (by rw[h];exact d)
 | .program k,h=>OkR.run d (s:=k P) h
 | .mark _ k,h=>OkR.run d (s:=k) h
 | .choose ..,h=>by simp[bT]at h
 | .load ..,h=>by simp[bT]at h
 | .store ..,h=>by simp[bT]at h
 | .new ..,h=>by simp[bT]at h
 | .shape ..,h=>by simp[bT]at h
 | .freeze ..,h=>by simp[bT]at h
 | .halt ..,h=>by simp[bT]at h
def eU(d:Nat):List (List UInt8)->Option (List Int)
 |[]=>some []
 |w::r=>match kF w d,eU d r with
  |some n,some l=>some (n::l)
  |_,_=>none
def JQ{d:Nat}{w:List UInt8}{n:Int}(e:kF w d=some n):∀{pre:List (List UInt8)} {l:List Int},eU d pre=some l->eU d (pre++[w])=some (l++[n])
 |[],l,h=>by cases h;show eU d [w]=_;simp[eU,e]
 |p::pre,l,h=>by
  unfold eU at h;cases a:kF p d with
  |none=>rw[a]at h;cases h
  |some k=>
   rw[a]at h;cases b:eU d pre with
   |none=>rw[b]at h;cases h
   |some q=>rw[b]at h;cases h;have:=JQ e b;show eU d (p::(pre++[w]))=_;unfold eU;rw[a,this];rfl
def KW(c:UInt8):∀l:List UInt8,(cR c l).length<=l.length+1
 |[]=>by simp[cR]
 |x::l=>by
  have a:=KW c l;unfold cR;split
  .simp;omega
  .split<;>simp_all<;>omega
def xf2(c:UInt8):∀(l:List UInt8) (w:List UInt8),w∈cR c l->w.length<=l.length
 |[],w,h=>by simp[cR]at h;rw[h];exact bO _
 |x::l,w,h=>by
  have a:=xf2 c l;unfold cR at h;split at h
  .rcases dW.1 h with rfl|h
   .simp
   .have:=a w h;simp;omega
  .split at h
   .rename_i b;exact absurd b (KV c l)
   .rename_i y r b;rw[b]at a;rcases dW.1 h with rfl|h
    .have:=a y (eP ..);simp;omega
    .have:=a w (eE _ h);simp;omega
def cu(c:UInt8):∀l:List UInt8,(cR c l).length=l.count c+1
 |[]=>rfl
 |x::l=>by
  have b:=cu c l;by_cases h:x=c
  .subst h;rw[show x::l=[]++x::l from rfl,zF l (by simp),dN,b];simp
  .rw[List.count_cons_of_ne (by simpa using h),<-b];have d:cR c (x::l)=(match cR c l with|[]=>[[x]]|h::t=>(x::h)::t):=(by rw[cR,aB h];first|done|rfl);rw[d];cases e:cR c l with
   |nil=>exact absurd e (KV c l)
   |cons a r=>rfl
def xuj(s:ByteArray)(c:Int):bT prog (callFunc yI #[.string s,.int .u8 c])=some (.value (.int .i64 (Lib.countByte s.data.toList c.toNat.toUInt8))):=by have b:bT prog (callFunc yI #[.string s,.int .u8 c])=bT prog (do let v <-Extern.BytealgCount.count #[.string s,.int .u8 c];pure (Next.value v)):=(by kernel_rfl);rw[b];have a:=Lib.count_foldl c.toNat.toUInt8 s.data.toList 0;rw[<-Lib.foldl_data]at a;show some (Next.value (Value.int .i64 (s.foldl (λ(n:Int) x=>if x == c.toNat.toUInt8 then n+1 else n) 0)))=_;rw[a,MQ]
def xlw(d:Nat)(l:List UInt8)(c:UInt8)(m:Mem):aI (aH (d+1)) yI [Tx l,U8 c.toNat] m=some (I (l.count c),m):=by
 refine Ans.gA (m:=m) ?_ rfl rfl;unfold Ans;have a:aH (d+1) [] yI [Tx l,U8 c.toNat] mem0=(w7 prog yI [Tx l,U8 c.toNat]).map λv=>(v,mem0):=by kernel_rfl
 have b:U3 prog yI [Tx l,U8 c.toNat]=some (I (Lib.countByte l c)):=by
  unfold U3
  show(match bT prog (callFunc yI #[.string ⟨l.toArray⟩,.int .u8 c.toNat])with
   |some (.value u)=>some (fJ u)
   |_=>none)=_
  rw[xuj];have:((c.toNat:Int)).toNat.toUInt8=c:=(by rw[hJ];exact UInt8.ofNat_toNat);rw[this];rfl
 rw[a];unfold w7;rw[b];exact⟨mem0,rfl⟩
def xlx(d:Nat)(l:List UInt8)(c:UInt8)(m:Mem):aI (aH (d+2)) CD [Tx l,Tx [c]] m=some (I (l.count c),m):=by refine Ans.gA (m:=m) ?_ rfl rfl;unfold Ans;rw[x3t];unfold gf bA NZ;have a:fZ (Tx [c])=some (I 1):=mX [c];have b:kJ prog bK (Tx [c]) (I 0)=some (U8 c.toNat):=WR (l:=[c]) (k:=0) (by simp);simp only[mem0,a,aG,iD,show decide ((1:Int)=0)=false from rfl,aV,b,xlw];exact⟨_,rfl⟩
def xjq(x:AV)(n:Nat):eN [x] n=List.replicate n x:=by
 refine FY (by simp[eN]) λi a b=>?_
 simp[eN,Nat.mod_one]
def xj1:oM=[Tx []]:=by kernel_rfl
def xn3{α:Type}{a:List α}{x y:α}{b:List α}:(a++x::b).take a.length++([y]++(a++x::b).drop (a.length+1))=(a++[y])++b:=by rw[<-oI,List.take_left,show a.length+1=(a++[x]).length by simp,show a++x::b=(a++[x])++b by simp,List.drop_left]
def IK(l:List (List UInt8)):(l.flatMap dC).length=l.length:=by have:=gG nA l;omega
def xpb(n:Nat):(List.replicate n (Tx [])).length=n:=List.length_replicate
def xyt(d:Nat){c:UInt8}{s:List UInt8}(Z:s.length<=100000){id:Id}(u:Nat):∀(n j:Nat) (r:List UInt8) (dn:List (List UInt8)) (m:Mem) (Y:Nat),r.length<n->n<=j->r.length<=s.length->cR c s=dn++cR c r ->
    m.get id=some (.row (dn.flatMap dC++List.replicate (cR c r).length (Tx [])) 0 false) ->
    ∃f,W5 (aH (d+4)) [] u j (Tx r) (Tx [c]) (I 0) (I ((cR c s).length-1:Nat)) (.sref id 0 0 (cR c s).length 1 true) (I dn.length) m Y=some (.sref id 0 0 (cR c s).length 1 true,f)/\f.get id=some (.row ((cR c s).flatMap dC) 0 false):=by
 intro n;have W:=KW c s;induction n with
 |zero=>intro j r dn m Y t;omega
 |succ n ih=>
  intro j r dn m Y t hj hr A Q;obtain⟨j,rfl⟩:∃k,j=k+1:=⟨j-1,by omega⟩;have M:(cR c s).length=dn.length+(cR c r).length:=(by rw[A,eA]);have X:0<(cR c r).length:=xia.mpr (KV c r);have h:aR 1 (.sref id 0 0 (cR c s).length 1 true) (I dn.length)=some (.ptr id 0 dn.length):=(by simp only[aR,dL];rw[aF ⟨by omega,by omega,trivial⟩];simp);have g:(cR c r).length=1->c∉r:=λe=>by rw[cu]at e;exact List.count_eq_zero.mp (by omega)
  have l:∀(x:List UInt8) {R:Type} (K:Mem->Option R),aU 1 (.ptr id 0 dn.length) (Tx x) m K=K (m.set id (.row ((dn++[x]).flatMap dC++List.replicate ((cR c r).length-1) (Tx [])) 0 false)):=λx R K=>by rw[lY (z:=1) (x:=Tx x) Q rfl (by rw[eA,IK,xpb];omega) rfl];congr 2;obtain⟨q,hq⟩:∃q,(cR c r).length=q+1:=⟨(cR c r).length-1,by omega⟩;rw[hq,xh3,xh0];have:=xn3 (a:=dn.flatMap dC) (x:=Tx []) (y:=Tx x) (b:=List.replicate q (Tx []));rw[IK]at this;unfold cS;rw[show(Tx x).cells=[Tx x]from rfl,MC,this];congr 2;simp[dC]
  have fin:(cR c r).length=1->∃f,I9 (aH (d+4)) [] u (Tx r) (.sref id 0 0 (cR c s).length 1 true) (I dn.length) m Y=some (.sref id 0 0 (cR c s).length 1 true,f)/\f.get id=some (.row ((cR c s).flatMap dC) 0 false):=λe=>by unfold I9;have C:cG ((dn.length:Int)+1)=((cR c s).length:Int):=(by rw[bQ];omega);have D:eK prog iI (.sref id 0 0 (cR c s).length 1 true) none (some (I (cR c s).length))=some (.sref id 0 0 (cR c s).length 1 true):=(by have N:∃i,prog.info? bK=some i/\i.size=1:=(by have e:(prog.info? bK).map (λi=>i.size)=some 1:=(by kernel_rfl);rw[cE]at e;exact e);obtain⟨ii,J,L⟩:=N;simp[eK,dO,i',J,L,dL]);simp only[h,aG,l,dY,C,D];refine⟨_,rfl,?_⟩;rw[Mem.cP,aF rfl,e,A,EY (g e)];simp
  simp only[W5];unfold pz;simp only[bV,aG];by_cases e:(cR c r).length=1
  .have:¬((dn.length:Int)<((cR c s).length-1:Nat)):=(by omega);simp only[this,bP,aV];obtain⟨f,e1,e2⟩:=fin e;have E:∀w,I9 (aH (d+4)) [] u (Tx r) (.sref id 0 0 (cR c s).length 1 true) (I dn.length) m w=I9 (aH (d+4)) [] u (Tx r) (.sref id 0 0 (cR c s).length 1 true) (I dn.length) m Y:=λ_=>rfl
   exact⟨f,by rw[E,e1],e2⟩
  .have F:(dn.length:Int)<((cR c s).length-1:Nat):=(by omega);have o:c∈r:=by
    refine Classical.byContradiction λt=>e ?_
    rw[EY t];rfl
   simp only[F,bG,aT,zk,aG];rcases EO c r with ⟨O,P⟩|⟨i,O,P,q3,q4⟩
   .exact absurd o P
   .rw[O];have N:¬((i:Int)<0):=(by omega);have p:cR c r=r.take i::cR c (r.drop (i+1)):=by
     conv=>lhs;rw[<-G8 i r,q4]
     exact zF _ q3
    have C:cG ((i:Int)+0)=(i:Int):=(by rw[bQ];omega);have w2:=iJ i (by omega);have w3:cG ((dn.length:Int)+1)=((dn.length+1:Nat):Int):=(by rw[bQ];omega);have H:fZ (Tx [c])=some (I 1):=mX [c];simp only[aG,dY,C,HW (show i<=r.length by omega),h,l,H,w2,WQ (show i+1<=r.length by omega),w3]
    have:=ih j (r.drop (i+1)) (dn++[r.take i]) (m.set id (.row ((dn++[r.take i]).flatMap dC++List.replicate ((cR c r).length-1) (Tx [])) 0 false)) (Y+28) (by simp;omega) (by omega) (by simp;omega) (by rw[A,p];simp) (by
     rw[Mem.cP,aF rfl,p];simp)
    rw[eA,MC]at this;exact this
def x89(d:Nat){c:UInt8}{s:List UInt8}(Z:s.length<=100000):RetF (λv=>v=.aN ((cR c s).flatMap dC) (cR c s).length false) (aH (d+5) [] CB [Tx s,Tx [c],I 0,I (-1)] mem0):=by
 rw[x3n];unfold fu zA NS;have e:=KW c s;have g:=cu c s;have h:=xia.mpr (KV c s);have i:s.count c<=s.length:=List.count_le_length;have j:cG (((s.count c:Nat):Int)+1)=((cR c s).length:Int):=(by rw[bQ];omega);have l:cG ((s.length:Int)+1)=((s.length+1:Nat):Int):=(by rw[bQ];omega);have o:cG (((cR c s).length:Int)-1)=(((cR c s).length-1:Nat):Int):=(by rw[bQ];omega);have a:w5 (I (cR c s).length) (I (s.length+1:Nat))=some (I (cR c s).length):=(by show some (I (if((s.length+1:Nat):Int)<((cR c s).length:Int)then _ else _))=_;rw[aB (by omega)]);simp only[mem0,iD,show decide ((-1:Int)=0)=false from rfl,aG,aV];rw[show(AV.sc (.string ⟨#[]⟩))=Tx []from rfl,oP];simp only[show decide ([c]=([]:List UInt8))=false from by simp,aG,aV];unfold py;simp only[bV,show decide ((-1:Int)<0)=true from rfl,aG,aT,xlx,dY,j];unfold NT;simp only[mX,aG,dY,l,a,nX,o];have b:∀(id:Id) {R:Type} (m:Mem) (K:AV->Mem->Option R),rW oM 1 16 (I (cR c s).length) (I (cR c s).length) id m K=K (.sref id 0 0 (cR c s).length 1 true) (m.new id (.row (List.replicate (cR c s).length (Tx [])) 0 false)):=λid R m K=>by simp only[rW,dL];rw[aF ⟨by omega,by omega,by omega,by omega⟩,xj1,hJ,nS];congr 2;rw[xjq]
 rw[b];obtain⟨t,p,u⟩:=xyt d Z (id:=(0,0+5+7+7,31)) 0 (s.length+1) NN s [] ((⟨[],0+1⟩:Mem).new (0,0+5+7+7,31) (.row (List.replicate (cR c s).length (Tx [])) 0 false)) (0+5+7+13) (by omega) (by rw[dF];omega) (bO _) rfl (by rw[Mem.dH,aF rfl];rfl);have e1':W5 (aH (d+4)) [] 0 NN (Tx s) (Tx [c]) (I 0) (I ((cR c s).length-1:Nat)) (.sref (0,0+5+7+7,31) 0 0 (cR c s).length 1 true) (I 0) ((⟨[],0+1⟩:Mem).new (0,0+5+7+7,31) (.row (List.replicate (cR c s).length (Tx [])) 0 false)) (0+5+7+13)=_:=p;rw[e1'];refine RetF.mk ?_ rfl;have r:=IK (cR c s)
 have:=pI (aC:=t.get) (id:=(0,0+5+7+7,31)) (cs:=(cR c s).flatMap dC) (ver:=0) (off:=0) (n:=(cR c s).length) (z:=1) (k:=4) (f:=false) (x:=true) u (by omega) (by
  rw[bC,dM (by omega)];exact oD xnb _)
 rw[bC,dM (by omega)]at this;exact this
def xlk(d:Nat)(c:UInt8){s:List UInt8}(Z:s.length<=100000)(m:Mem):aI (aH (d+6)) N1 [Tx s,Tx [c]] m=some (.aN ((cR c s).flatMap dC) (cR c s).length false,m):=by
 refine eZ rfl ?_ m;rw[x3p];unfold fx bA NV;have h:=λm=>eZ rfl (x89 d (c:=c) Z) m
 simp only[mem0,h,aG];refine RetF.st ?_ rfl;simp[bB]
def tK(d:Nat)(a b c:Int)(m:Mem):aI (aH (d+1)) qV [I a,I b,I c] m=some (B (wi a b c),m):=by refine gA rfl (m':=⟨[],1⟩) ?_ rfl;rw[x5i];unfold kh fC RP wi;by_cases h:b<=a<;>by_cases e:a<=c<;>simp[h,e,mem0]
def IA(d:Nat)(b:Bool)(m:Mem):aI (aH (d+1)) pB [B b] m=some (I (bif b then 0 else 2),m):=by refine gA rfl (m':=⟨[],1⟩) ?_ rfl;rw[x5m];cases b<;>rfl
def xyn(f:aJ)(Z:FHs)(u:Nat){s:ByteArray}{a:AV}(h:Sl qF a s.data.toList)(P:s.size<=1000):∀(d:List UInt8) (k j:Nat) (m:Mem) (Y:Nat),s.data.toList.drop k=d->d.length<j ->
    I1 f Z u j (T s) a (I s.data.toList.length) (I k) m Y=some (B (pA k d&&(decide (0<s.size)&&decide (s.size<=12))),m):=by
 intro d;have H:s.data.toList.length=s.size:=rfl;have J:iB s ⟨#[]⟩=decide (s.size=0):=by
  unfold iB;rw[ByteArray.toList_eq,ByteArray.toList_eq];cases Z:s.data.toList with
  |nil=>have:s.size=0:=(by show s.data.size=0;rw[<-pV,Z];rfl);simp[this]
  |cons x r=>have:s.size=r.length+1:=(by show s.data.size=_;rw[<-pV,Z];rfl);simp[this]
 have o (x y:Operand) (a b:ByteArray):bY prog .neq bK x y (T a) (T b)=some (B (!iB a b)):=(by kernel_rfl);induction d with
 |nil=>
  intro k j m Y g i;obtain⟨j,rfl⟩:=dQ i;have l:¬((k:Int)<(s.data.toList.length:Int)):=(by have:=gZ.mp g;omega);simp only[I1];unfold SH tz;simp only[bV,l,bP,aV,aG,o,J];by_cases p:s.size=0
  .simp[p,pA]
  .simp[p,pA,show 0<s.size by omega];try omega
 |cons e r O=>
  intro k j m Y g i;obtain⟨j,rfl⟩:=dQ i;obtain⟨l,N,g⟩:=gW g;have hk':(k:Int)<(s.data.toList.length:Int):=(by omega);have ix:=h.ix XF l;have ld:=xdr (m:=m) l;have next:∀Y,I1 f Z u j (T s) a (I s.size) (I (cG ((k:Int)+1))) m Y=some (B (pA (k+1) r&&(decide (0<s.size)&&decide (s.size<=12))),m):=λY=>by rw[bQ];exact O (k+1) j m Y g (by simp at i;omega)
  rw[N]at ld;have K:decide ((k:Int)=0)=!decide (0<k):=(by by_cases h:0<k<;>simp[h]<;>omega);simp only[I1];unfold SH;simp only[bV,hk',bG,aT,aG,ix,ld,AT];simp only[pA,LB];generalize (e.toNat:Int)=c;have L:decide (c<48)=!decide (48<=c):=(by by_cases h:48<=c<;>simp[h]<;>omega);have M:decide (57<c)=!decide (c<=57):=(by by_cases h:c<=57<;>simp[h]<;>omega);by_cases t:97<=c<;>by_cases w:c<=122<;>by_cases A:65<=c<;>by_cases C:c<=90<;>by_cases D:48<=c<;>by_cases E:c<=57<;>by_cases F:c=45 <;>
   first
   |(exfalso;omega)
   |(by_cases n:k=0
     .simp[t,w,A,C,D,E,F,n,AT,XD]
      try (rw[n]at next;exact next _)
     .simp[t,w,A,C,D,E,F,n,show 0<k by omega,AT,XD,xmh,xmi,xmj,L,M,next])
def xk0(d:Nat)(s:ByteArray)(m:Mem)(g:s.size<=1000):aI (aH (d+1)) DI [T s] m=some (B (nmOK s),m):=by
 refine gA rfl (m':=⟨[],1⟩) ?_ rfl;rw[x5w];have f:aM prog tH (.aN (s.data.toList.flatMap qF) s.data.toList.length false)=some (I s.data.toList.length):=(Sl.lit (enc:=qF) s.data.toList false).len XC;have h:s.data.toList.length=s.size:=rfl;have i:=λY=>xyn (aH d) [] 0 (Sl.lit (enc:=qF) s.data.toList false) g s.data.toList 0 NN ⟨[],1⟩ Y rfl (by rw[dF];omega)
 unfold lc bW SG tw nmOK;simp only[xf0,f,aG,mem0];have e:∀a b c:Bool,(c&&(a&&b))=(a&&b&&c):=(by decide);rw[<-e];exact i _
def namedM(s:ByteArray)(l:List ByteArray):Int:=bif !nmOK s then 4 else bif l.any (λy=>iB y s)then 5 else 0
def xyk(b:aJ)(u:Nat){s:ByteArray}{n:AV}{l:List ByteArray}(D:l.length<=1000)(t:∀(k:Nat) (h:k<l.length) (m:Mem),∃d,fL b [] 2 n [I k] m=some (T l[k],d)):∀(a:List ByteArray) (k j:Nat) (m:Mem) (Y:Nat),l.drop k=a->a.length<j ->
    ∃d,Y2 b [] u j (T s) n (I l.length) (I k) m Y=some (I (bif a.any (λy=>iB y s)then 5 else 0),d):=by
 intro a;induction a with
 |nil=>intro k j m Y f g;obtain⟨j,rfl⟩:=dQ g;have i:¬((k:Int)<(l.length:Int)):=(by have:=gZ.mp f;omega);simp only[Y2];unfold SB tn;simp[i]
 |cons e r C=>
  intro k j m Y f g;obtain⟨j,rfl⟩:=dQ g;obtain⟨i,w,f⟩:=gW f;have hk':(k:Int)<(l.length:Int):=(by omega);obtain⟨x,o⟩:=t k i m;rw[w]at o;simp only[Y2];unfold SB;simp only[bV,hk',bG,aT,aG,o,xL];cases p:iB e s with
  |true=>simp[p]
  |false=>obtain⟨d,A⟩:=C (k+1) j x (Y+10) f (by simp at g;omega);refine⟨d,?_⟩;simp only[aV,dY,aG];rw[bQ];simp only[W1,p,GE];exact A
def xhn(d:Nat){s:ByteArray}{fv:AV}{l:List ByteArray}(Z:s.size<=1000)(b:l.length<=1000)(e:∀(k:Nat) (h:k<l.length) (m:Mem),∃a,fL (aH (d+1)) [] 2 fv [I k] m=some (T l[k],a)):∃a,aH (d+2) [] qY [T s,fv,I l.length] mem0=some (I (namedM s l),a):=by
 rw[x5s];unfold kw fC SA namedM;simp only[xk0 d s _ Z,aG];cases g:nmOK s with
 |false=>simp
 |true=>obtain⟨a,f⟩:=xyk (aH (d+1)) 0 (s:=s) b e l 0 NN ⟨[],1⟩ 6 rfl (by rw[dF];omega);refine⟨a,?_⟩;simp only[gE,aG,cN,aV,cZ];unfold tl;exact f
end Go.Ix
namespace Go.Ix
open Go.Proofs
variable{P:Program}
def uB{α β:Type}(f:α->Sem β):∀s:Sem α,bT P (s >>= f)=(bT P s).bind λa=>bT P (f a):=by
 intro s;show bT P (Sem.bind s f)=_;induction s with
 |pure a=>rfl
 |program k b=>exact b P
 |mark x k b=>exact b
 |_=>rfl
theorem BU{α:Type}(a:α):bT P (pure a:Sem α)=some a:=rfl
theorem xbz:bT P program=some P:=rfl
def YY{t:TypeId}{d:TypeDesc}(h:P.underlying t=some d):bT P (underlying t)=some d:=by simp only[underlying,uB,xbz,aG,h];rfl
def xui(d:Nat)(t:TypeId)(e g:Array Value)(h:P.underlying t=some (.struct (P.fieldsOf t)))(l:P.stoodInHeld t=false) :
    bT P (Op.equalIn (d+1) t (.agg e) (.agg g))=bT P (Op.eqFields d e g (P.fieldsOf t).toList):=by
 simp only[Op.equalIn,uB,YY h,aG,xbz,l,fH,cT];rw[<-Array.forIn_toList];generalize (P.fieldsOf t).toList=i;clear h;induction i with
 |nil=>simp[Op.eqFields,BU]
 |cons f i j=>
  simp only[List.forIn_cons,Op.eqFields,uB];split
  .simp only[uB];generalize bT P (part f.type e f.offset)=r1;cases r1 with
   |none=>rfl
   |some a=>
    generalize m:bT P (part f.type g f.offset)=r2;cases r2 with
    |none=>simp
    |some b=>
     simp only[aG];generalize bT P (Op.equalIn d f.type a b)=r3;cases r3 with
     |none=>rfl
     |some r=>
      cases r
      .rfl
      .exact j
  .exact j
def JJ(d:Nat)(t:TypeId)(k e:IntKind)(a b:Int)(h:P.underlying t=some (.int e)):bT P (Op.equalIn (d+1) t (.int k a) (.int k b))=some (a == b):=by simp[Op.equalIn,uB,YY h,BU]
def IG:prog.underlying eB=some (.int .i64):=by kernel_rfl
def xfo(d:Nat)(i j:Array Value)(b e:Nat->Int):∀a:List Field,(∀f∈a,f.name≠"_"/\f.type=eB/\bT prog (part eB i f.offset)=some (.int .i64 (b f.offset))/\bT prog (part eB j f.offset)=some (.int .i64 (e f.offset))) ->
    bT prog (Op.eqFields (d+1) i j a)=some (a.all λf=>b f.offset == e f.offset)
 |[],_=>rfl
 |f::a,h=>by
  obtain⟨n,o,p,r⟩:=h f (eP ..);have m:=xfo d i j b e a λg l=>h g (eE _ l)
  simp only[Op.eqFields,n,ne_eq,not_false_eq_true,cM,o,uB,p,r,aG,JJ _ _ _ _ _ _ IG,dP];cases b f.offset == e f.offset
  .rfl
  .exact m
def x10{t:TypeId}{offs:List Nat}{a b:Array Value}{ga gb:Nat->Int}(h:prog.underlying t=some (.struct (prog.fieldsOf t)))(Z:prog.stoodInHeld t=false)(d:((prog.fieldsOf t).toList.map λf=>(f.type,f.offset,decide (f.name = "_")))=offs.map λo=>(eB,o,false))(i:∀o∈offs,bT prog (part eB a o)=some (.int .i64 (ga o))/\bT prog (part eB b o)=some (.int .i64 (gb o))) :
    bT prog (Op.equalIn 10000 t (.agg a) (.agg b))=some (offs.all λo=>ga o == gb o):=by
 rw[show(10000:Nat)=9998+1+1 from rfl,xui _ _ _ _ h Z];generalize (prog.fieldsOf t).toList=g at d;rw[xfo 9998 a b ga gb g]
 .have:(g.map λf=>f.offset)=offs:=(by have:=congrArg (List.map λx:TypeId×Nat×Bool=>x.2.1) d;simpa[List.map_map,Function.comp_def]using this);rw[<-this,List.all_map];rfl
 .intro f j;have l:(f.type,f.offset,decide (f.name = "_"))∈offs.map λo=>(eB,o,false):=by rw[<-d];exact ew j
  obtain⟨o,m,e⟩:=fF.mp l;simp only[bF]at e;obtain⟨n,p,r⟩:=e;subst p;exact⟨of_decide_eq_false r.symm,n.symm,i _ m⟩
structure Ent where
 by_:List UInt8
 tx:List UInt8
def Ent.c(x:Ent):List AV:=[Tx x.by_,Tx x.tx]
theorem Ent.len(x:Ent):x.c.length=2:=rfl
theorem Ent.stl(x:Ent):x.c.all aP=true:=rfl
def K4:prog.underlying oN=some (.slice tJ):=by kernel_rfl
def WE:nW=[Tx [],Tx []]:=by kernel_rfl
def x9f(x:Ent):Prop:=x.by_.length<=60005/\x.tx.length<=60005
end Go.Ix
namespace Go.Proofs.YtjngclcijnpooaaGreatDoor
open Go.ChangeShapes Go.WideShapes Go.ChangeAt Go.RowKit Go.Ix
def BE{α:Type}{a:α->List AV}{P:Program}{t e:TypeId}{z:AV}(d:P.underlying t=some (.slice e))(g:∀r,r.length=P.cellsOf e->Sh P e r->∃x,r=a x)(f:Sh P t [z]):∃l,Sl a z l/\l.length<=maxLen:=by
 rcases Sh.slice_inv d f with h1|⟨rows,x,h1,h2,h3,h4⟩
 .simp at h1;exact⟨[],Or.inl ⟨h1,rfl⟩,FP _⟩
 .obtain⟨l,rfl⟩:=xbh (enc:=a) λr b=>g r (h2 r b) (h3 r b)
  simp at h1;exact⟨l,Or.inr ⟨x,by simpa[List.flatMap]using h1⟩,by simpa using h4⟩
def xfs{r:List AV}(d:r.length=prog.cellsOf tJ)(i:Sh prog tJ r):∃x:Ent,r=x.c:=by
 obtain⟨n,o,u⟩:=D8 (t:=tJ) (l:=[(bK,0),(bK,1)]) (by kernel_rfl);obtain⟨-,b⟩:=Sh.s9 o i;have m:prog.cellsOf tJ=2:=(by kernel_rfl);have a:prog.cellsOf bK=1:=(by kernel_rfl);rw[m]at d;match r,d with
 |[x,y],_=>
  have:∀p∈n.toList.map (λf=>(f.type,f.offset)),Sh prog p.1 (([x,y].drop p.2).take (prog.cellsOf p.1)):=λp j=>by obtain⟨f,w,rfl⟩:=fF.mp j;exact b f w
  rw[u]at this;have e:=this _ (eP ..);have g:=this (bK,1) (by simp);simp only[a,bC,lA,jM,dR]at e g;obtain⟨s,Z⟩:=BJ e;obtain⟨t,h⟩:=BJ g;simp at Z h;exact⟨⟨s.data.toList,t.data.toList⟩,by rw[Z,h,FK s,FK t];rfl⟩
def log_in{a:AV}(h:ArgSh prog oN a):∃l,Sl Ent.c a l/\l.length<=9223372036854775807:=
 BE (e:=tJ) (by kernel_rfl) (λr b d=>xfs b d) (h.slice (t:=oN) (e:=tJ) (by kernel_rfl))
end Go.Proofs.YtjngclcijnpooaaGreatDoor
namespace Go.Ix
structure Pl where
 x:Int
 y:Int
 z:Int
deriving DecidableEq
def KZ(a b c:Pl):Int:=(b.x-a.x)*(c.y-a.y)-(b.y-a.y)*(c.x-a.x)
def I'(n:Int):Int:=if n > 0 then 1 else if n<0 then -1 else 0
def oQ(a b p:Pl):Int:=I' (KZ a b p)
def xfy(a b p:Pl):Int:=(a.x-p.x)*(b.x-p.x)+(a.y-p.y)*(b.y-p.y)
def lQ(a b p:Pl):Bool:=decide (oQ a b p=0)&&decide (xfy a b p<=0)
def ZN(a b c d:Pl):Bool:=lQ a b c||lQ a b d||lQ c d a||lQ c d b||(decide (oQ a b c≠oQ a b d)&&decide (oQ c d a≠oQ c d b))
def xbt(a b p:Pl):Bool:=decide (decide (a.y > p.y)≠decide (b.y > p.y))&&decide (oQ a b p=if b.y<a.y then -1 else 1)
open Go.Proofs
def JB{v:AV}{b:aJ}{f:FuncId}{l:List AV}(h:((b [] f l mem0).bind λp=>Go.Ix.frz p.2.get bI p.1)=some v):RetF (λa=>a=v) (b [] f l mem0):=by rw[oF]at h;obtain⟨⟨a,d⟩,e,g⟩:=h;exact⟨a,d,v,e,g,rfl⟩
def Pl.c(p:Pl):List AV:=[I p.x,I p.y,I p.z]
theorem Pl.len(p:Pl):p.c.length=3:=rfl
theorem Pl.bB(p:Pl):p.c.all aP=true:=rfl
def Pl.k(p:Pl):AV:=.agg [I p.x,I p.y]
def fB(s:Pl×Pl):List AV:=[I s.1.x,I s.1.y,I s.2.x,I s.2.y]
theorem rU(s:Pl×Pl):(fB s).length=4:=rfl
theorem xn6(s:Pl×Pl):(fB s).all aP=true:=rfl
def jW(p:Pl):Prop:=(-100000000<=p.x/\p.x<=100000000)/\(-100000000<=p.y/\p.y<=100000000)
def JX{u v:Int}(d:-200000000<=u/\u<=200000000)(e:-200000000<=v/\v<=200000000):-40000000000000000<=u*v/\u*v<=40000000000000000:=by have a:u.natAbs<=200000000:=(by omega);have b:v.natAbs<=200000000:=(by omega);have f:(u*v).natAbs<=200000000*200000000:=(by rw[xii];exact V6 a b);omega
def yy(d:Nat)(a b c e:Int)(m:Mem):aI (aH (d+1)) DX [.agg [I a,I b],.agg [I c,I e]] m=some (.agg [I (cG (a-c)),I (cG (b-e))],m):=eZ rfl (JB (by kernel_rfl)) m
def xk6(d:Nat)(a b c e:Int)(m:Mem):aI (aH (d+1)) xc1 [.agg [I a,I b],.agg [I c,I e]] m=some (I (cG (cG (a*e)-cG (b*c))),m):=eZ rfl (JB (by kernel_rfl)) m
def xk5(d:Nat)(a b c e:Int)(m:Mem):aI (aH (d+1)) xc0 [.agg [I a,I b],.agg [I c,I e]] m=some (I (cG (cG (a*c)+cG (b*e))),m):=eZ rfl (JB (by kernel_rfl)) m
def zf(d:Nat)(p:Pl)(m:Mem):aI (aH (d+1)) JV [.agg p.c] m=some (p.k,m):=eZ rfl (JB (by kernel_rfl)) m
def J6(d:Nat){a b p:Pl}(i:jW a)(j:jW b)(l:jW p)(m:Mem):aI (aH (d+2)) uL [.agg (fB (a,b)),p.k] m=some (I (oQ a b p),m):=by
 obtain⟨J,K⟩:=i;obtain⟨L,N⟩:=j;obtain⟨O,P⟩:=l;have n:cG (b.x-a.x)=b.x-a.x:=bQ;have o:cG (b.y-a.y)=b.y-a.y:=bQ;have r:cG (p.x-a.x)=p.x-a.x:=bQ;have t:cG (p.y-a.y)=p.y-a.y:=bQ;have F:=JX (u:=b.x-a.x) (v:=p.y-a.y) (by omega) (by omega);have H:=JX (u:=b.y-a.y) (v:=p.x-a.x) (by omega) (by omega);have w:cG ((b.x-a.x)*(p.y-a.y))=(b.x-a.x)*(p.y-a.y):=bQ;have A:cG ((b.y-a.y)*(p.x-a.x))=(b.y-a.y)*(p.x-a.x):=bQ;have C:cG ((b.x-a.x)*(p.y-a.y)-(b.y-a.y)*(p.x-a.x))=KZ a b p:=(by rw[bQ];rfl);refine eZ rfl ?_ m;rw[x67];unfold om bA UV;obtain⟨M,e⟩:∃M:Mem,M=((⟨[],1⟩:Mem).new (0,0,2) (.row (fB (a,b)) 0 false)).new (0,0+1,3) (.row [I p.x,I p.y] 0 false):=⟨_,rfl⟩;have g:M.get (0,0,2)=some (.row [I a.x,I a.y,I b.x,I b.y] 0 false):=(by rw[e];simp[fB]);have D:M.get (0,1,3)=some (.row [I p.x,I p.y] 0 false):=(by rw[e];simp);have E:M.next=1:=(by rw[e];rfl);simp only[mem0,jD,pM,Pl.k,fB,dP,mT,vU,gD,bD];rw[show(((⟨[],1⟩:Mem).new (0,0,2) (.row [I a.x,I a.y,I b.x,I b.y] 0 false)).new (0,0+1,3) (.row [I p.x,I p.y] 0 false))=M from e.symm];simp only[cX,aG,aQ g,bR,bC,dR,rd,cM,dN,gY,lA,jM,bO];simp[g,D,yy,n,o,r,t,xk6,w,A,C,cU,tR,bU,E,oQ,I',show Nat.blt 0 1=true from rfl];by_cases f:0<KZ a b p
 .simp[f];exact RetF.st rfl rfl
 .by_cases h:KZ a b p<0
  .simp[f,h];exact RetF.st rfl rfl
  .simp[f,h];exact RetF.st rfl rfl
def vG(d:Nat){a b p:Pl}(f:jW a)(g:jW b)(h:jW p)(m:Mem):aI (aH (d+3)) pE [.agg (fB (a,b)),p.k] m=some (B (lQ a b p),m):=by
 have i:=J6 d f g h;obtain⟨H,J⟩:=f;obtain⟨K,L⟩:=g;obtain⟨N,O⟩:=h;have o:cG (a.x-p.x)=a.x-p.x:=bQ;have r:cG (a.y-p.y)=a.y-p.y:=bQ;have t:cG (b.x-p.x)=b.x-p.x:=bQ;have w:cG (b.y-p.y)=b.y-p.y:=bQ;have E:=JX (u:=a.x-p.x) (v:=b.x-p.x) (by omega) (by omega);have F:=JX (u:=a.y-p.y) (v:=b.y-p.y) (by omega) (by omega);have A:cG ((a.x-p.x)*(b.x-p.x))=(a.x-p.x)*(b.x-p.x):=bQ;have C:cG ((a.y-p.y)*(b.y-p.y))=(a.y-p.y)*(b.y-p.y):=bQ;have D:cG ((a.x-p.x)*(b.x-p.x)+(a.y-p.y)*(b.y-p.y))=xfy a b p:=(by rw[bQ];rfl);refine eZ rfl ?_ m;rw[x69];unfold oq bA UX;obtain⟨M,e⟩:∃M:Mem,M=((⟨[],1⟩:Mem).new (0,0,2) (.row (fB (a,b)) 0 false)).new (0,0+1,3) (.row [I p.x,I p.y] 0 false):=⟨_,rfl⟩;have j:M.get (0,0,2)=some (.row [I a.x,I a.y,I b.x,I b.y] 0 false):=(by rw[e];simp[fB]);have l:M.get (0,1,3)=some (.row [I p.x,I p.y] 0 false):=(by rw[e];simp);have n:M.next=1:=(by rw[e];rfl);simp only[Pl.k,fB]at i;simp only[mem0,jD,pM,Pl.k,fB,dP,mT,vU,gD,bD];rw[show(((⟨[],1⟩:Mem).new (0,0,2) (.row [I a.x,I a.y,I b.x,I b.y] 0 false)).new (0,0+1,3) (.row [I p.x,I p.y] 0 false))=M from e.symm];simp only[cX,aG,aQ j,aQ l,bR,bC,rd,cM,dN,gY,lA,jM,bO,i,iD];unfold lQ;by_cases c:oQ a b p=0
 .simp[c,aQ j,aQ l,rd,yy,o,r,t,w,xk5,A,C,D,cU,tR,bU,n,show Nat.blt 0 1=true from rfl];exact RetF.st rfl rfl
 .simp[c,cU,tR,bU,n,show Nat.blt 0 1=true from rfl];exact RetF.st rfl rfl
def xkw(d:Nat){a b p q:Pl}(f:jW a)(g:jW b)(h:jW p)(i:jW q)(m:Mem):aI (aH (d+4)) DU [.agg (fB (a,b)),.agg (fB (p,q))] m=some (B (ZN a b p q),m):=by
 have C:=J6 (d+1) f g h;have D:=J6 (d+1) f g i;have F:=J6 (d+1) h i f;have H:=J6 (d+1) h i g;have e:=vG d f g h;have j:=vG d f g i;have r:=vG d h i f;have u:=vG d h i g;refine eZ rfl ?_ m;rw[x68];unfold oo bA UW;obtain⟨M,w⟩:∃M:Mem,M=((⟨[],1⟩:Mem).new (0,0,2) (.row [I a.x,I a.y,I b.x,I b.y] 0 false)).new (0,0+1,3) (.row [I p.x,I p.y,I q.x,I q.y] 0 false):=⟨_,rfl⟩;have l:M.get (0,0,2)=some (.row [I a.x,I a.y,I b.x,I b.y] 0 false):=(by rw[w];simp);have n:M.get (0,1,3)=some (.row [I p.x,I p.y,I q.x,I q.y] 0 false):=(by rw[w];simp);have J:M.next=1:=(by rw[w];rfl);simp only[Pl.k,fB]at C D F H e j r u;simp only[mem0,jD,pM,fB,dP,mT,vU,gD,bD];rw[show(((⟨[],1⟩:Mem).new (0,0,2) (.row [I a.x,I a.y,I b.x,I b.y] 0 false)).new (0,0+1,3) (.row [I p.x,I p.y,I q.x,I q.y] 0 false))=M from w.symm];simp only[cX,aG,aQ l,aQ n,bR,bC,rd,cM,dN,gY,lA,jM,bO];unfold ZN;cases o:lQ a b p
 .cases t:lQ a b q
  .cases A:lQ p q a
   .cases E:lQ p q b
    .by_cases c:oQ a b p=oQ a b q
     .simp[o,t,A,E,e,aQ l,aQ n,rd,j,r,u,C,D,c,cU,tR,bU,J,show Nat.blt 0 1=true from rfl];exact RetF.st rfl rfl
     .simp[o,t,A,E,e,aQ l,aQ n,rd,j,r,u,C,D,F,H,c,cU,tR,bU,J,show Nat.blt 0 1=true from rfl];exact RetF.st rfl rfl
    .simp[o,t,A,E,e,aQ l,aQ n,rd,j,r,u];exact RetF.st rfl rfl
   .simp[o,t,A,e,aQ l,aQ n,rd,j,r];exact RetF.st rfl rfl
  .simp[o,t,e,aQ l,aQ n,rd,j];exact RetF.st rfl rfl
 .simp[o,e];exact RetF.st rfl rfl
def M3(a b p:Pl)(d e f:Nat):Mem:=(((⟨[],1⟩:Mem).new (0,0,d) (.row a.c 0 false)).new (0,0+1,e) (.row b.c 0 false)).new (0,0+2,f) (.row p.c 0 false)
def isPl(p:Pl):Bool:=(decide (-100000000<=p.x)&&decide (p.x<=100000000))&&(decide (-100000000<=p.y)&&decide (p.y<=100000000))&&(decide (-100000000<=p.z)&&decide (p.z<=100000000))
def EM{p:Pl}(h:isPl p=true):jW p:=by unfold isPl at h;simp only[cI,mR]at h;exact⟨h.1.1,h.1.2⟩
def xk3(d:Nat)(a b c:Int)(m:Mem):aI (aH (d+1)) DT [I a,I b,I c] m=some (B (decide (b<=a)&&decide (a<=c)),m):=by
 refine eZ rfl ?_ m;rw[x65];unfold oj fC US;by_cases h:b<=a
 .simp[mem0,h];exact RetF.st rfl rfl
 .simp[mem0,h];exact RetF.st rfl rfl
def xyu(d:Nat)(Z:FHs)(u:Nat)(i n:Int){a:AV}{l:List Int}(h:Sl intE a l)(A:l.length<=1000):∀(b:List Int) (k j:Nat) (m:Mem) (Y:Nat),l.drop k=b->b.length<j ->
    Z3 (aH (d+1)) Z u j (I i) (I n) a (I l.length) (I k) m Y=some (B (b.all λx=>decide (i<=x)&&decide (x<=n)),m):=by
 intro b;induction b with
 |nil=>intro k j m Y o f;obtain⟨j,rfl⟩:=dQ f;have g:¬((k:Int)<(l.length:Int)):=(by have:=gZ.mp o;omega);simp only[Z3];unfold VC wu;simp[g]
 |cons e r y=>
  intro k j m Y o f;obtain⟨j,rfl⟩:=dQ f;obtain⟨g,w,p⟩:=gW o;have hk':(k:Int)<(l.length:Int):=(by omega);have ix:=h.ix fR g;have ld:∀m,aA false 1 (.aE ((l.drop k).flatMap intE)) m=some (I e):=λm=>by rw[fX g,dT,w];rfl
  have t:=iJ k (by omega);simp only[Z3];unfold VC;simp only[bV,hk',bG,aG,aT,ix,ld,xk3,gE];rw[dP];cases C:(decide (i<=e)&&decide (e<=n))
  .simp
  .simp only[cN,aV,dY,t,aG,iG];exact y (k+1) j m _ p (by simp at f;omega)
def zh(d:Nat)(p:Pl)(m:Mem):aI (aH (d+3)) S6 [.agg p.c] m=some (I (if isPl p=true then 0 else 2),m):=by
 refine eZ rfl ?_ m;rw[x7c];unfold ov bW VA;obtain⟨M,h⟩:∃M:Mem,M=((⟨[],1⟩:Mem).new (0,0,1) (.row [I p.x,I p.y,I p.z] 0 false)):=⟨_,rfl⟩;have g:M.get (0,0,1)=some (.row [I p.x,I p.y,I p.z] 0 false):=(by rw[h];simp);simp only[mem0,jD,pM,Pl.c,dP,mT,vU,gD,bD];rw[<-h];have i:hY=[I 0]:=(by kernel_rfl);have a:∀{R:Type} (x y z:Int) (id:Id) (m:Mem) (q:AV->Mem->Option R),cQ hY [(0,1,I x),(1,1,I y),(2,1,I z)] 3 1 id m q=q (.aN [I x,I y,I z] 3 true) m:=λx y z id m q=>by rw[i];simp[cQ,jC,eN,rL,cS]
 have b:∀m:Mem,aI (aH (d+2)) DY [I (-100000000),I 100000000,.aN [I p.x,I p.y,I p.z] 3 true] m=some (B ([p.x,p.y,p.z].all λx=>decide (-100000000<=x)&&decide (x<=100000000)),m):=λm=>by refine eZ rfl ?_ m;rw[x7d];unfold ow fC VB wr;have f:Sl intE (.aN [I p.x,I p.y,I p.z] 3 true) [p.x,p.y,p.z]:=Or.inr ⟨true,rfl⟩;have:=xyu d [] 0 (-100000000) 100000000 f (by simp) [p.x,p.y,p.z] 0 NN ⟨[],1⟩ (0+1+3) rfl (by rw[dF];simp);simp only[mem0,f.len jA,aG];rw[show I ((0:Nat):Int)=I 0 from rfl]at this;rw[this];exact RetF.st rfl rfl
 simp only[cX,aQ g,bC,dR,bR,rd,aG,List.head?_cons,a,b,gE,fH,cT];have e:([p.x,p.y,p.z].all λx=>decide (-100000000<=x)&&decide (x<=100000000))=isPl p:=(by unfold isPl;simp[Bool.and_assoc]);rw[e];cases isPl p
 .simp;exact RetF.st rfl rfl
 .simp;exact RetF.st rfl rfl
def x8o{l:List Int}{x:Int}{k:Nat}:at0 (l++[x]) k=if k<l.length then at0 l k else if k=l.length then x else 0:=by
 unfold at0;simp only[fU];by_cases h:k<l.length
 .rw[aF h,zU h]
 .rw[aB h,V9 (by omega)];by_cases a:k=l.length
  .rw[aF a,a];simp
  .rw[aB a,FW (by simp;omega)];rfl
def OutIn(k:Int)(a:List Int):Prop:=∀i,-(2048*k)<=at0 a i/\at0 a i<=2048*k
def OutIn.app{k:Nat}{a:List Int}(h:OutIn k a){x:Int}(b:-(2048*((k+1:Nat):Int))<=x)(d:x<=2048*((k+1:Nat):Int)):OutIn ((k+1:Nat):Int) (a++[x]):=by
 intro i;rw[x8o];have:=h i;split
 .omega
 .split<;>omega
def xy8(d:Nat)(Z:FHs){a b:AV}{l k:List Int}(p:Ints a l)(D:Ints b k)(K:l.length=k.length)(L:l.length<=1000000):∀(f e:List Int) (i j:Nat) (m:Mem) (Y:Nat),l.drop i=f->k.drop i=e->f.length<j ->
    ∃t,Z5 (aH d) Z 0 j a b (I i) m Y=some (B (decide (f=e)),t):=by
 intro f;induction f with
 |nil=>intro e i j m Y h u n;obtain⟨j,rfl⟩:=dQ n;have E:=gZ.mp h;have w:e=[]:=(by rw[<-u];exact gZ.mpr (by omega));have o:¬((i:Int)<(l.length:Int)):=(by omega);simp only[Z5];unfold VO;simp[p.len jA,o,xf,w]
 |cons x r J=>
  intro e i j m Y h u n;obtain⟨j,rfl⟩:=dQ n;obtain⟨o,C,h⟩:=gW h;have g:i<k.length:=(by omega);have y:e=at0 k i::k.drop (i+1):=(by rw[<-u,fX g,fD g]);have hi':(i:Int)<(l.length:Int):=(by omega);have ix:=p.ix fR o;have A:=D.ix fR g;have F:at0 l i=x:=(by rw[fD o,C]);simp only[Z5];unfold VO;simp(disch:=omega) [p.len jA,hi',ix,A,nI,F,y];by_cases c:x=at0 k i
  .obtain⟨t,H⟩:=J _ (i+1) j m (Y+16) h rfl (by simp at n;omega);simp(disch:=omega) [c];exact⟨t,H⟩
  .simp[c]
def zj(d:Nat){a b:AV}{l k:List Int}(f:Ints a l)(g:Ints b k)(j:l.length<=1000000)(m:Mem):aI (aH (d+1)) yK [a,b] m=some (B (decide (l=k)),m):=by
 refine Ans.gA ?_ (by simp[f.bB,g.bB]) rfl;unfold Ans;rw[x7k];unfold pf bA VN xe;by_cases i:l.length=k.length
 .obtain⟨n,o⟩:=xy8 d [] f g i j l k 0 NN ⟨[],1⟩ 7 rfl rfl (by rw[dF];omega);simp[mem0,f.len jA,g.len jA,i];exact⟨n,o⟩
 .have:¬(l=k):=λe=>i (by rw[e])
  have h:¬((l.length:Int)=(k.length:Int)):=(by omega);simp[mem0,f.len jA,g.len jA,h,this]
def Edge.same(a b:Edge):Bool:=decide (a.fr=b.fr)&&(decide (a.to=b.to)&&(decide (a.jump=b.jump)&&decide (a.wt=b.wt)))
def Edge.same_iff{a b:Edge}:a.same b=true↔a=b:=by cases a;cases b;simp[Edge.same]
end Go.Ix
