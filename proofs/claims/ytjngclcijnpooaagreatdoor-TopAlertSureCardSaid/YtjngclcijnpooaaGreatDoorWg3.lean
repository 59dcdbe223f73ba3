import Derived.Test.YtjngclcijnpooaaGreatDoorWg2
import Derived.ProofKit
set_option maxRecDepth 10000
set_option linter.all false
open Go.Proofs.Tryz
noncomputable section
namespace Go.Ix
open Go.Proofs
def SimO(o a:Option Ob):Prop:=a=o\/∃b v f,o=some (.row b v f)/\a=some (.row b v true)
def SimO.refl(o:Option Ob):SimO o o:=.inl rfl
def SimO.trans{a b c:Option Ob}(h:SimO a b)(k:SimO b c):SimO a c:=by
 rcases k with rfl|⟨cs,v,f,k1,k2⟩
 .exact h
 .rcases h with rfl|⟨cs',v',f',h1,h2⟩
  .exact .inr ⟨cs,v,f,k1,k2⟩
  .rw[h2]at k1;cases k1;exact .inr ⟨cs,v,f',h1,k2⟩
def oR(K:Id->Prop)(j:Id):Prop:=j.2.2=8\/j.2.2=11\/j.2.2=13\/K j
def uR(K:Id->Prop)(j:Id):Prop:=¬oR K j/\j.2.2≠2
variable{K:Id->Prop}
def GrP(K P:Id->Prop)(m a:Mem):Prop:=m.next<=a.next/\∀j:Id,j.1<m.next->¬P j->SimO (m.get j) (a.get j)/\(oR K j->a.get j=m.get j)
abbrev Gr0(K:Id->Prop):=GrP K λ_=>False
def GrP.refl(P:Id->Prop)(m:Mem):GrP K P m m:=⟨bT _,λ_ _ _=>⟨.refl _,λ_=>rfl⟩⟩
def GrP.trans{P:Id->Prop}{a b c:Mem}(h:GrP K P a b)(k:GrP K P b c):GrP K P a c:=⟨iW h.1 k.1,λj d e=>
 ⟨(h.2 j d e).1.trans (k.2 j (fU d h.1) e).1,λf=>by rw[(k.2 j (fU d h.1) e).2 f,(h.2 j d e).2 f]⟩⟩
def GrP.weak{P Q:Id->Prop}{a b:Mem}(h:GrP K P a b)(d:∀j,P j->Q j):GrP K Q a b:=⟨h.1,λj e f=>h.2 j e λq=>f (d j q)⟩
def GrP.pJ{P L:Id->Prop}{a b:Mem}(h:GrP K P a b)(g:∀j,L j->K j):GrP L P a b:=⟨h.1,λj e f=>⟨(h.2 j e f).1,λd=>(h.2 j e f).2 (by
 rcases d with d|d|d|d
 .exact .inl d
 .exact .inr (.inl d)
 .exact .inr (.inr (.inl d))
 .exact .inr (.inr (.inr (g j d))))⟩⟩
def uQ{m:Mem}(b:∀j,K j->j.1<m.next){id:Id}(h:m.next<=id.1)(Z:id.2.2≠8/\id.2.2≠11/\id.2.2≠13/\id.2.2≠2):uR K id:=
 ⟨by rintro(a|a|a|a)<;>first|(have:=b _ a;omega)|omega,Z.2.2.2⟩
def Gr0.to{P:Id->Prop}{a b:Mem}(h:Gr0 K a b):GrP K P a b:=h.weak λ_ h=>h.elim
def Ext10.gr{a b:Mem}(h:Ext10 a b):Gr0 K a b:=⟨h.1,λj d _=>⟨.inl (h.2 j d),λ_=>h.2 j d⟩⟩
def wW(m:Mem):Gr0 K m ⟨m.hp,m.next+1⟩:=⟨vK _,λ_ _ _=>⟨.refl _,λ_=>rfl⟩⟩
def xhn{a m:Mem}{P:Id->Prop}(h:GrP K P a m){id:Id}(b:a.next<=id.1)(o:Ob):GrP K P a (m.new id o):=⟨h.1,λj d e=>by
 rw[Mem.dP,aD (by rintro rfl;omega)];exact h.2 j d e⟩
def x35{a m:Mem}{P:Id->Prop}(h:GrP K P a m){id:Id}(b:a.next<=id.1\/P id)(o:Ob):GrP K P a (m.set id o):=⟨h.1,λj e d=>by
 rw[Mem.cP,aD (by rintro rfl;rcases b with h|h;omega;exact d h)];exact h.2 j e d⟩
def lE{a m b:Mem}{P:Id->Prop}(h:GrP K P a m){id:Id}(d:a.next<=id.1\/P id)(f:b.next=m.next)(g:∀j,j≠id->b.get j=m.get j):GrP K P a b:=⟨by rw[f];exact h.1,λj i e=>by
 rw[g j (by rintro rfl;rcases d with h|h;omega;exact e h)];exact h.2 j i e⟩
def xhm{m:Mem}{a:List Id}(h:∀i∈a,¬oR K i):Gr0 K m ⟨lL a m.hp,m.next⟩:=⟨bT _,λj _ _=>by
 by_cases b:j∈a
 .refine⟨?_,λd=>(h j b d).elim⟩
  show SimO (fF m.hp j) (fF (lL a m.hp) j)
  rw[congrFun (w5 a m.hp) j]
  unfold shut
  rw[aH b]
  cases e:fF m.hp j with
  |none=>exact .inl rfl
  |some o=>cases o<;>first|exact .inl rfl|exact .inr ⟨_,_,_,rfl,rfl⟩
 .rw[xqu b];exact⟨.refl _,λ_=>rfl⟩⟩
variable{α:Type}{z:Nat}{enc:α->List AV}
def Rk(K:Id->Prop)(z:Nat)(e:α->List AV)(m:Mem)(a:AV)(l:List α):Prop:=
 (a=nilS/\l=[])\/(∃x,a=.aQ (l.flatMap e) l.length x)\/∃id f x b d,uR K id/\id.1<m.next/\a=.sref id f 0 l.length z x/\m.get id=some (.row (l.flatMap e++d) f b)/\d.all aP=true
def Rk.gr{P:Id->Prop}{m e:Mem}{a:AV}{l:List α}(h:Rk K z enc m a l)(d:GrP K P m e)(g:∀j,uR K j->¬P j):Rk K z enc e a l:=by
 rcases h with h|h|⟨id,ver,x,b,rest,h1,h2,h3,h4,h5⟩
 .exact .inl h
 .exact .inr (.inl h)
 .refine .inr (.inr ?_);rcases(d.2 id h2 (g id h1)).1 with he|⟨cs,v,f,e1,e2⟩
  .exact⟨id,ver,x,b,rest,h1,fU h2 d.1,h3,by rw[he];exact h4,h5⟩
  .rw[h4]at e1;cases e1;exact⟨id,ver,x,true,rest,h1,fU h2 d.1,h3,e2,h5⟩
def Rk.frz(j:∀x,(enc x).length=z)(Z:∀x,(enc x).all aP=true){m:Mem}{a:AV}{l:List α}(h:Rk K z enc m a l)(k:Nat):∃g,Go.Ix.frz m.get (k+2) a=some g/\Sl enc g l:=by
 rcases h with ⟨rfl,rfl⟩|⟨x,rfl⟩|⟨id,e,x,b,d,r,t,rfl,p,u⟩
 .exact⟨nilS,rfl,.inl ⟨rfl,rfl⟩⟩
 .exact⟨_,rfl,.inr ⟨x,rfl⟩⟩
 .have o:=iE j l;refine⟨.aQ (l.flatMap enc) l.length false,?_,.inr ⟨false,rfl⟩⟩;have i:(l.flatMap enc++d).take (l.length*z)=l.flatMap enc:=by rw[<-o,List.take_left]
  have:=vB (aC:=m.get) (id:=id) (cs:=l.flatMap enc++d) (ver:=e) (off:=0) (n:=l.length) (z:=z) (k:=k) (f:=b) (x:=x) p (by rw[jL];omega) (by
   rw[bA,i];exact rW Z l)
  rw[bA,i]at this;exact this
def Rk.reach(Z:∀x,(enc x).all aP=true){m:Mem}{a:AV}{l:List α}(h:Rk K z enc m a l)(k:Nat):∀i∈Go.Ix.reach m.get (k+2) a,uR K i:=by
 rcases h with ⟨rfl,rfl⟩|⟨x,rfl⟩|⟨id,f,x,b,e,g,o,rfl,j,n⟩
 .intro i d;cases d
 .intro i d;cases d
 .intro i d;rw[xsl j (by rw[jp,rW Z l,n];rfl),kQ]at d;rw[d];exact g
def Rk.one{m:Mem}{a:AV}{l:List α}(h:Rk K z enc m a l):a.one=true/\a.cells=[a]:=by rcases h with ⟨rfl,rfl⟩|⟨x,rfl⟩|⟨id,e,x,b,d,f,g,rfl,i,j⟩<;>exact⟨rfl,rfl⟩
structure Lv10 where
 e:Int
 pt:Int
 sc:Int
 mv:Int
 er:Int
def Lv10.c(x:Lv10):List AV:=[I x.e,I x.pt,I x.sc,I x.mv,I x.er]
theorem Lv10.len(x:Lv10):x.c.length=5:=rfl
theorem Lv10.bG(x:Lv10):x.c.all aP=true:=rfl
structure St10 where
 L:List Scene
 S:List OPr
 V:List Lv10
 C:List Int
structure Bc (K:Id->Prop) (m:Mem) (P:List AV) (X:St10) (cs:List AV):Prop where
 ex:∃sid s p v c f,cs=[.ptr sid 0 0,s,p,v,c]/\sid.1<m.next/\(sid.2.2=2/\¬K sid)/\m.get sid=some (.row P 0 f)/\Rk K 3 Scene.c m s X.L/\(Rk K 4 OPr.c m p X.S/\(X.S=[]->p=nilS))/\Rk K 5 Lv10.c m v X.V/\Rk K 1 intE m c X.C
def Bc.gr{Q:Id->Prop}{m r:Mem}{P:List AV}{X:St10}{t:List AV}(h:Bc K m P X t)(a:GrP K Q m r)(u:∀j,Q j->oR K j):Bc K r P X t:=by
 obtain⟨b,s,p,v,c,f,w,o,e,x,y,g,A,C⟩:=h.ex;have d:∀j,uR K j->¬Q j:=λj D i=>D.1 (u j i)
 have n:¬Q b:=λi=>by have:=u b i;unfold oR at this;rcases this with h|h|h|h<;>first|exact e.2 h|(have:=e.1;omega)
 rcases(a.2 b o n).1 with he|⟨cs',v',f',e1,e2⟩
 .exact⟨b,s,p,v,c,f,w,fU o a.1,e,by rw[he];exact x,y.gr a d,⟨g.1.gr a d,g.2⟩,A.gr a d,C.gr a d⟩
 .rw[x]at e1;cases e1;exact⟨b,s,p,v,c,true,w,fU o a.1,e,e2,y.gr a d,⟨g.1.gr a d,g.2⟩,A.gr a d,C.gr a d⟩
def Bk(K:Id->Prop)(m:Mem)(b:Id)(P:List AV)(X:St10):Prop:=oR K b/\b.1<m.next/\∃a,m.get b=some (.row a 0 false)/\Bc K m P X a
def Bk.gr{Q:Id->Prop}{m d:Mem}{P:List AV}{X:St10}{b:Id}(h:Bk K m b P X)(a:GrP K Q m d)(i:∀j,Q j->oR K j)(n:¬Q b):Bk K d b P X:=by obtain⟨e,g,o,p,r⟩:=h;exact⟨e,fU g a.1,o,by rw[(a.2 b g n).2 e];exact p,r.gr a i⟩
theorem wT(x:Int):(intE x).length=1:=rfl
theorem U7(x:Int):(intE x).all aP=true:=rfl
theorem Scene.still10(x:Scene):x.c.all aP=true:=rfl
def Bc.frz{m:Mem}{E O:Int}{b d e:AV}(g:[b,d,e].all aP=true){X:St10}{j:List AV}(h:Bc K m (SC E O b d e) X j)(k:Nat):∃s p v c,j.mapM (Go.Ix.frz m.get (k+3))=some [.aF (SC E O b d e),s,p,v,c]/\Sl Scene.c s X.L/\Sl OPr.c p X.S/\Sl Lv10.c v X.V/\Ints c X.C:=by
 obtain⟨i,s,p,v,c,f,rfl,Z,h3,o,r,t,u,w⟩:=h.ex;obtain⟨x,y,A⟩:=r.frz Scene.len Scene.still10 (k+1);obtain⟨D,F,H⟩:=t.1.frz OPr.len OPr.bG (k+1);obtain⟨J,M,N⟩:=u.frz Lv10.len Lv10.bG (k+1);obtain⟨Q,R,W⟩:=w.frz wT U7 (k+1);refine⟨x,D,J,Q,?_,A,H,N,W⟩
 have n:Go.Ix.frz m.get (k+3) (.ptr i 0 0)=some (.aF (SC E O b d e)):=mV o (pX λa l=>tF m.get (k+1) (by
  have:(SC E O b d e).all aP=true:=by show(true&&(true&&[b,d,e].all aP))=true;rw[g];rfl
  exact dG.mp this a l))
 simp only[eG,fZ,n,y,F,M,R];rfl
def Bc.reach{m:Mem}{P:List AV}(g:P.all aP=true){X:St10}{e:List AV}(h:Bc K m P X e)(k:Nat):∀i∈e.flatMap (Go.Ix.reach m.get (k+2)),¬oR K i:=by
 obtain⟨b,s,p,v,c,f,rfl,x,j,o,r,t,u,w⟩:=h.ex;intro i d;have n:Go.Ix.reach m.get (k+2) (.ptr b 0 0)=[b]:=by
  show(match m.get b with
   |some (.row e _ _)=>b::(e.drop 0).flatMap (Go.Ix.reach m.get (k+1))
   |_=>[b])=[b]
  rw[o];show b::(P.drop 0).flatMap (Go.Ix.reach m.get (k+1))=[b];congr 1;rw[zW];exact λa l=>N2 m.get k (dG.mp g a (HA l))
 simp only[dN,List.flatMap_nil,jX,jC,n,kQ]at d;rcases d with rfl|d|d|d|d
 .unfold oR;rintro(h|h|h|h)<;>first|exact j.2 h|(have:=j.1;omega)
 .exact(r.reach Scene.still10 k i d).1
 .exact(t.1.reach OPr.bG k i d).1
 .exact(u.reach Lv10.bG k i d).1
 .exact(w.reach U7 k i d).1
def Bk.ld{m:Mem}{b:Id}{P:List AV}{X:St10}(h:Bk K m b P X):∃a,m.get b=some (.row a 0 false)/\Bc K m P X a/\a.length=5/\a.all AV.one=true/\aA true 5 (.ptr b 0 0) m=some (.agg a):=by obtain⟨r,t,a,e,d⟩:=h;have h4':=d;obtain⟨i,s,p,v,c,f,rfl,-,-,-,j,l,n,o⟩:=d.ex;exact⟨_,e,h4',rfl,by simp[j.one,l.1.one,n.one,o.one];rfl,by rw[aM e];rfl⟩
end Go.Ix
namespace Go.Ix
open Go.Proofs
variable{K:Id->Prop}{ba pa ea:AV}{W:List Bd}{J:List Pn}{C:List Pe}{E O:Int}{m:Mem}{X:St10}{cs:List AV}
def Bc.frzA{P a:List AV}{s p v c:AV}(h:cs.mapM (Go.Ix.frz m.get 5)=some [.aF a,s,p,v,c])(x:ByteArray):[AV.agg cs,T x].mapM (Go.Ix.frz m.get bL)=some [.agg [.aF a,s,p,v,c],T x]:=by have b:Go.Ix.frz m.get bL (.agg cs)=some (.agg [.aF a,s,p,v,c]):=(by show(cs.mapM (Go.Ix.frz m.get 5)).map AV.agg=_;rw[h];rfl);have d:Go.Ix.frz m.get bL (T x)=some (T x):=kD _ 4 rfl;simp only[eG,fZ,b,d];rfl
def gq(d:Nat)(a:[ba,pa,ea].all aP=true)(h:Bc K m (SC E O ba pa ea) X cs)(f:X.L.length<=1000)(x:ByteArray):dZ (aG (d+3)) wJ [.agg cs,T x] m=some (I (idxQ (nmQ Scene.nm x) 0 X.L),m):=by obtain⟨s,p,v,c,e,b,g,i,j⟩:=h.frz a 2;obtain⟨n,l⟩:=x20 d (x:=x) (p:=.aF (SC E O ba pa ea)) (pr:=p) (lv:=v) (cf:=c) b f rfl (by simp[b.one,g.one,i.one,Sl.one j]);exact rY (Bc.frzA (P:=SC E O ba pa ea) e x) l rfl
def xjg(d:Nat)(a:[ba,pa,ea].all aP=true)(h:Bc K m (SC E O ba pa ea) X cs)(b:Sl Pn.c pa J)(f:J.length<=1000)(x:ByteArray):dZ (aG (d+3)) wK [.agg cs,T x] m=some (I (idxQ (nmQ Pn.nm x) 0 J),m):=by obtain⟨s,p,v,c,e,g,i,j,l⟩:=h.frz a 2;obtain⟨o,n⟩:=xgk d (x:=x) (E:=E) (O:=O) (ba:=ba) (ea:=ea) (sc:=s) (pr:=p) (lv:=v) (cf:=c) b f (by simp[g.one,i.one,j.one,Sl.one l]);exact rY (Bc.frzA (P:=SC E O ba pa ea) e x) n rfl
def xji(d:Nat)(a:[ba,pa,ea].all aP=true)(h:Bc K m (SC E O ba pa ea) X cs)(b:Sl Bd.c ba W)(f:W.length<=1000)(x:ByteArray):dZ (aG (d+3)) oO [.agg cs,T x] m=some (I (idxQ (nmQ Bd.nm x) 0 W),m):=by obtain⟨s,p,v,c,e,g,i,j,l⟩:=h.frz a 2;obtain⟨o,n⟩:=xgl d (x:=x) (E:=E) (O:=O) (pa:=pa) (ea:=ea) (sc:=s) (pr:=p) (lv:=v) (cf:=c) b f (by simp[g.one,i.one,j.one,Sl.one l]);exact rY (Bc.frzA (P:=SC E O ba pa ea) e x) n rfl
def JQ(d:Nat)(n:Int){K:Int}(a:0<=K/\K<=4611686018427387904)(m:Mem):aI (aG (d+2)) rN [I n,I K] m=some (B (wi n (-K) K),m):=by refine dT rfl ?_ m;rw[xi5];unfold OM IA;have e:bM (-K)=-K:=bJ;simp[mem0,e,uA];exact RetF.st rfl rfl
variable{α:Type}{z:Nat}{enc:α->List AV}{t e:TypeId}
def Clp(b:α->List AV)(a:AV)(l:List α):Prop:=(a=nilS/\l=[])\/a=.aQ (l.flatMap b) l.length true
def CG(d:∀x,(enc x).length=z)(f:prog.underlying t=some (.slice e))(g:∃i,prog.info? e=some i/\i.size=z)(j:nH prog t nilS none (I 0) (I 0)=some nilS){a:AV}{l:List α}(h:Sl enc a l) :
    ∃b,Clp enc b l/\nH prog t a none (I l.length) (I l.length)=some b:=by
 rcases h with ⟨rfl,rfl⟩|⟨x,rfl⟩
 .exact⟨nilS,.inl ⟨rfl,rfl⟩,j⟩
 .obtain⟨i,m,n⟩:=g;have o:=iE d l;refine⟨_,.inr rfl,?_⟩;simp only[nH,dM,f,m,n,dI,Option.getD_none];rw[aH ⟨by omega,by omega,by omega,trivial,by omega⟩];simp;rw[dU (by omega)]
def Clp.st{a:AV}{l:List α}(h:Clp enc a l):bG a=true:=by rcases h with ⟨rfl,rfl⟩|rfl<;>rfl
def Clp.app{R:Type}(d:∀x,(enc x).length=z){a:AV}{l:List α}(h:Clp enc a l){bytes:Nat}(e:bytes<=100)(g:l.length<=1000)(x:α)(id:Id)(m:Mem)(K:AV->Mem->Option R) :
    cX z bytes id (some (enc x,1)) a m K=K (.sref id 0 0 (l.length+1) z true) (m.new id (.row ((l++[x]).flatMap enc) 0 false)):=by
 have b:∀n,n<=1001->cQ n bytes:=λn i=>by unfold cQ;have:(2*n+1000)*bytes<=(2*1001+1000)*100:=G6 (by omega) e;omega
 rcases h with ⟨rfl,rfl⟩|rfl
 .simp[cX,b 1 (by omega)]
 .have f:=iE d l;simp only[cX];rw[aH (by omega),aD (by omega),aH (b _ (by omega)),dU (by omega)];simp
def Bc.setL{P:List AV}{b:List AV}(h:Bc K m P X b){v:AV}{l:List Scene}(d:Rk K 3 Scene.c m v l):Bc K m P {X with L:=l} (cR b 1 [v]):=by obtain⟨a,s,p,w,c,f,rfl,e,g,i,r,j,n,o⟩:=h.ex;exact⟨a,v,p,w,c,f,rfl,e,g,i,d,j,n,o⟩
def Bc.setS{P:List AV}{b:List AV}(h:Bc K m P X b){v:AV}{l:List OPr}(d:Rk K 4 OPr.c m v l)(e:l=[]->v=nilS):Bc K m P {X with S:=l} (cR b 2 [v]):=by obtain⟨a,s,p,w,c,f,rfl,g,i,j,n,t,o,r⟩:=h.ex;exact⟨a,s,v,w,c,f,rfl,g,i,j,n,⟨d,e⟩,o,r⟩
def Bc.setV{P:List AV}{b:List AV}(h:Bc K m P X b){v:AV}{l:List Lv10}(d:Rk K 5 Lv10.c m v l):Bc K m P {X with V:=l} (cR b 3 [v]):=by obtain⟨a,s,p,w,c,f,rfl,e,g,i,j,n,r,o⟩:=h.ex;exact⟨a,s,p,v,c,f,rfl,e,g,i,j,n,d,o⟩
def Bc.setC{P:List AV}{b:List AV}(h:Bc K m P X b){v:AV}{l:List Int}(d:Rk K 1 intE m v l):Bc K m P {X with C:=l} (cR b 4 [v]):=by obtain⟨a,s,p,w,c,f,rfl,e,g,i,j,n,o,r⟩:=h.ex;exact⟨a,s,p,w,v,f,rfl,e,g,i,j,n,o,d⟩
def Bk.put{b:Id}{P:List AV}{l:St10}{M:Mem}{a:List AV}{k:Nat}{v:AV}(m:oR K b)(o:b.1<M.next)(p:M.get b=some (.row a 0 false))(r:k+1<=a.length)(e:v.cells=[v])(t:v.one=true)(h:Bc K M P l (cR a k [v])) :
    ∃d,(∀{R:Type} (K:Mem->Option R),aZ 1 (.ptr b 0 k) v M K=K d)/\Bk K d b P l/\d.next=M.next/\(∀j,j≠b->d.get j=M.get j)/\d.get b=some (.row (cR a k [v]) 0 false):=by
 have u:GrP K (λj=>j=b) M (M.set b (.row (cR a k [v]) 0 false)):=x35 (P:=λj=>j=b) (.refl _ _) (.inr rfl) _;refine⟨M.set b (.row (cR a k [v]) 0 false),λK=>?_,⟨m,o,_,Mem.tB _ _ _,h.gr u λj f=>by rw[f];exact m⟩,rfl,λj f=>by rw[Mem.cP,aD f],Mem.tB _ _ _⟩;have g:v.cells.length=1:=(by rw[e];rfl);have i:v.cells.all AV.one=true:=(by rw[e];simp[t]);have n:=mA (z:=1) (x:=v) (k:=K) p g r i;rw[e]at n;exact n
def Bk.cells{b:Id}{P:List AV}{X:St10}(h:Bk K m b P X):∃a s p v c f,m.get b=some (.row [.ptr a 0 0,s,p,v,c] 0 false)/\Bc K m P X [.ptr a 0 0,s,p,v,c]/\a.1<m.next/\(a.2.2=2/\¬K a)/\m.get a=some (.row P 0 f)/\Rk K 3 Scene.c m s X.L/\(Rk K 4 OPr.c m p X.S/\(X.S=[]->p=nilS))/\Rk K 5 Lv10.c m v X.V/\Rk K 1 intE m c X.C:=by obtain⟨g,i,cs,e,d⟩:=h;have h4':=d;obtain⟨a,s,p,v,c,f,rfl,h⟩:=d.ex;exact⟨a,s,p,v,c,f,e,h4',h⟩
def Rk.gG{call:aK}{f:FuncId}{l:List α}{a:AV}{Q:AV->Prop}(n:∀x,(enc x).length=z)(Z:∀x,(enc x).all aP=true)(h:Rk K z enc m a l)(ex:List AV)(b:ex.all bG=true)(e:∀d,Sl enc d l->∃r,Q r/\∀m,aI call f (d::ex) m=some (r,m)):∃r M,Q r/\aI call f (a::ex) m=some (r,M)/\M.next=m.next/\Gr0 K m M:=by obtain⟨d,p,j⟩:=h.frz n Z 4;have o:(a::ex).mapM (Go.Ix.frz m.get bL)=some (d::ex):=(by have e1':Go.Ix.frz m.get bL a=some d:=p;rw[eG,e1',zE _ b];rfl);obtain⟨r,t,e⟩:=e d j;have:=xjf o (by rw[dQ,j.bG,b];rfl) e;refine⟨r,_,t,this,rfl,xhm λi g=>?_⟩;rw[dN,CT _ b,jX]at g;exact(h.reach Z 4 i g).1
def GL{b:aK}{f:FuncId}{l:List α}{a:AV}(j:∀x,(enc x).length=z)(Z:∀x,(enc x).all aP=true)(h:Rk K z enc m a l)(n:∀d,Sl enc d l->∃r g,Clp enc r l/\b [] f [d] mem0=some (r,g)):∃r M,Clp enc r l/\aI b f [a] m=some (r,M)/\M.next=m.next/\Gr0 K m M:=
 h.gG (ex:=[]) j Z rfl λd e=>by obtain⟨r,g,i,o⟩:=n d e;exact⟨r,i,λm=>Go.Ix.gG (by rw[dQ,e.bG];rfl) o i.st⟩
def x6o(d:Nat){a:AV}{l:List Scene}(h:Rk K 3 Scene.c m a l):∃r M,Clp Scene.c r l/\aI (aG (d+1)) Q9 [a] m=some (r,M)/\M.next=m.next/\Gr0 K m M:=
 GL Scene.len Scene.still10 h λi b=>by have e:nH prog lX nilS none (I 0) (I 0)=some nilS:=(by kernel_rfl);obtain⟨r,f,g⟩:=CG Scene.len pK xg6 e b;rw[x8n];unfold og SS;simp only[b.len pK,aE,g];exact⟨r,_,f,rfl⟩
def x3v:∃i,prog.info? JL=some i/\i.size=4:=by have:(prog.info? JL).map (·.size)=some 4:=(by kernel_rfl);rw[cH]at this;exact this
def x6p(d:Nat){a:AV}{l:List OPr}(h:Rk K 4 OPr.c m a l):∃r M,Clp OPr.c r l/\aI (aG (d+1)) DY [a] m=some (r,M)/\M.next=m.next/\Gr0 K m M:=
 GL OPr.len OPr.bG h λi b=>by have e:nH prog qQ nilS none (I 0) (I 0)=some nilS:=(by kernel_rfl);obtain⟨r,f,g⟩:=CG OPr.len BP x3v e b;rw[x8o];unfold oh ST;simp only[b.len BP,aE,g];exact⟨r,_,f,rfl⟩
def ZE:prog.underlying K4=some (.slice JM):=by kernel_rfl
def x3w:∃i,prog.info? JM=some i/\i.size=5:=by have:(prog.info? JM).map (·.size)=some 5:=(by kernel_rfl);rw[cH]at this;exact this
def x6m(d:Nat){a:AV}{l:List Lv10}(h:Rk K 5 Lv10.c m a l):∃r M,Clp Lv10.c r l/\aI (aG (d+1)) DZ [a] m=some (r,M)/\M.next=m.next/\Gr0 K m M:=
 GL Lv10.len Lv10.bG h λi b=>by have e:nH prog K4 nilS none (I 0) (I 0)=some nilS:=(by kernel_rfl);obtain⟨r,f,g⟩:=CG Lv10.len ZE x3w e b;rw[x8p];unfold oi SU;simp only[b.len ZE,aE,g];exact⟨r,_,f,rfl⟩
def x3x:∃i,prog.info? eE=some i/\i.size=1:=by have:(prog.info? eE).map (·.size)=some 1:=(by kernel_rfl);rw[cH]at this;exact this
def x6q(d:Nat){a:AV}{l:List Int}(h:Rk K 1 intE m a l):∃r M,Clp intE r l/\aI (aG (d+1)) DX [a] m=some (r,M)/\M.next=m.next/\Gr0 K m M:=
 GL wT U7 h λi b=>by have e:nH prog fG nilS none (I 0) (I 0)=some nilS:=(by kernel_rfl);obtain⟨r,f,g⟩:=CG wT jZ x3x e b;rw[x8m];unfold oe SQ;simp only[b.len jZ,aE,g];exact⟨r,_,f,rfl⟩
end Go.Ix
namespace Go.Ix
open Go.Proofs
variable{K:Id->Prop}{ba pa ea:AV}{W:List Bd}{J:List Pn}{C:List Pe}{E O:Int}{m:Mem}{X:St10}{cs:List AV}
def mY{x:AV}(h:x.cells.all AV.one=true)(id:Id)(m:Mem):∃M:Mem,M.next=m.next/\M.get id=some (.row x.cells 0 false)/\(∀j,j≠id->M.get j=m.get j)/\∀{R:Type} (K:AV->Mem->Option R),cD x id m K=K (.ptr id 0 0) M:=by refine⟨m.new id (.row x.cells 0 false),rfl,by rw[Mem.dP,aH rfl],λj a=>by rw[Mem.dP,aD a],λK=>?_⟩;unfold cD;rw[aH h]
def qI{j i:Id}{v o:Nat}(h:j≠i):aY (tR (.ptr j v o)) (some [],some [i])=true:=by simp[aY,tR,kX,h]
def ie{j i:Id}{v o a b:Nat}(h:j≠i):aY (tR (.ptr j v o)) (tS (.ptr i a b))=true:=by simp[aY,tR,tS,kX,h]
def SimO.row{m a:Mem}{j:Id}{b:List AV}{v:Nat}{f:Bool}(h:SimO (m.get j) (a.get j))(d:m.get j=some (.row b v f)):∃g,a.get j=some (.row b v g):=by
 rcases h with e|⟨cs',v',g,e1,e2⟩
 .exact⟨f,by rw[e];exact d⟩
 .rw[d]at e1;cases e1;exact⟨true,e2⟩
def LC{α:Type}{z bytes k:Nat}{a:α->List AV}(F:∀x,(a x).length=z)(H:bytes<=100){g M:Mem}{b:Id}{P:List AV}{X w:St10}{l:List α}{r:AV}(i:Bk K g b P X)(J:Gr0 K g M)(L:Clp a r l)(N:l.length<=1000)(hk:k<5){id:Id}(y:uR K id)(O:id.1<M.next)(Q:g.next<=id.1)(x:α)(iR:∀(t:Mem) (v:AV) (d:List AV),Bc K t P X d->Rk K z a t v (l++[x])->Bc K t P w (cR d k [v])) :
    ∃f,(∀{R:Type} (K:AV->Mem->Option R),(cX z bytes id (some (a x,1)) r M λv m=>aZ 1 (.ptr b 0 k) v m (K v))=K (.sref id 0 0 (l.length+1) z true) f)/\Bk K f b P w/\GrP K (λj=>j=b) g f/\f.get id=some (.row ((l++[x]).flatMap a) 0 false)/\f.next=M.next/\∀d,g.get b=some (.row d 0 false)->f.get b=some (.row (cR d k [.sref id 0 0 (l.length+1) z true]) 0 false):=by
 have n:b≠id:=λh=>y.1 (by rw[<-h];exact i.1)
 obtain⟨d,C,c2,c3,c4,c5⟩:=i.ld;generalize p:M.new id (.row ((l++[x]).flatMap a) 0 false)=M1;have A:M1.next=M.next:=(by rw[<-p];rfl);have o:M1.get id=some (.row ((l++[x]).flatMap a) 0 false):=(by rw[<-p,Mem.dP,aH rfl]);have e:Gr0 K g M1:=(by rw[<-p];exact xhn J Q _);have Y:M1.get b=some (.row d 0 false):=(by rw[(e.2 b i.2.1 (λh=>h)).2 i.1];exact C);have Z:Rk K z a M1 (.sref id 0 0 (l.length+1) z true) (l++[x]):=.inr (.inr ⟨id,0,true,false,[],y,by rw[A];exact O,by rw[jL];rfl,by rw[jX];exact o,rfl⟩);have u:Bc K M1 P X d:=c2.gr e (λ_ h=>h.elim);obtain⟨f,e1,e2,D,E,e5⟩:=Bk.put i.1 (fU i.2.1 e.1) Y (k:=k) (by omega) rfl rfl (iR M1 _ d u Z);refine⟨f,λK=>?_,e2,lE e.to (.inr rfl) D E,by rw[E id (Ne.symm n)];exact o,by rw[D,A],λW h=>by rw[C]at h;cases h;exact e5⟩;rw[L.app F H N x id M,p,e1]
def xY(x y:OPr):Bool:=decide (y.pt=x.pt)&&decide (y.a=x.a)&&decide (y.b=x.b)
def xX(x y:Lv10):Bool:=decide (y.pt=x.pt)&&decide (y.sc=x.sc)
def dq{α:Type}(q:α->Bool)(l:List α):decide (0<=idxQ q 0 l)=l.any q:=by
 rcases zB q l 0 with ⟨h,b⟩|⟨i,h,d,e⟩
 .rw[h];have:l.any q=false:=(by rw[H2];intro x a;rw[b x a];simp);rw[this];rfl
 .rw[h];have:l.any q=true:=pB.mpr ⟨_,eX d,e⟩;rw[this];simp
def x26(d:Nat){a:AV}{S:List OPr}(h:Sl OPr.c a S)(y:S.length<=1000)(x:OPr):∃i,aG (d+3) [] Q4 [a,.clo pT [.aF x.c]] mem0=some (B (S.any (xY x)),i):=by
 have j:∃i,aG (d+2) [] P9 [a,.clo pT [.aF x.c]] mem0=some (I (idxQ (xY x) 0 S),i):=by
  obtain⟨i,r⟩:=U3 OPr.len (by omega) (q:=xY x) h (by omega) (call:=aG (d+1)) (Z:=[]) (fv:=.clo pT [.aF x.c]) (λe _ m=>by
   show ∃i,aG (d+1) [] pT ([.agg e.c]++[.aF x.c]) m=_
   rw[jM,iX,x9e]
   unfold pv UG
   obtain⟨M,-,g,-,w⟩:=mY (x:=.agg e.c) (X3 (show e.c.all AV.one=true from rfl)) (m.next,0,2) ⟨m.hp,m.next+1⟩
   have g':M.get (m.next,0,2)=some (.row [I e.pt,I e.a,I e.b,I e.f] 0 false):=g
   have p:aB 0 (.aF x.c)=some (.aF [I x.pt,I x.a,I x.b,I x.f]):=rfl
   have t:aB 1 (.aF x.c)=some (.aF [I x.a,I x.b,I x.f]):=rfl
   have u:aB 2 (.aF x.c)=some (.aF [I x.b,I x.f]):=rfl
   simp only[w,cM,aE,bO,aM g',bA,cE,p,t,u,w8,fV,dO]
   unfold xY
   by_cases n:e.pt=x.pt
   .by_cases o:e.a=x.a
    .simp[n,o,g']
    .simp[n,o,g']
   .simp[n]) (OA (aG (d+1)) [] 0) (λ_ _ _ _ _ _ _=>rfl) S 0 NN ⟨[],1⟩ 4 rfl (by rw[cU];omega)
  refine⟨i,?_⟩;rw[x79];unfold nk RX wr;simp only[h.len BP,aE,mem0];exact r
 obtain⟨i,j⟩:=j;have l:∀m,dZ (aG (d+2)) P9 [a,.clo pT [.aF x.c]] m=some (I (idxQ (xY x) 0 S),m):=λm=>W5 (by rw[dQ,h.bG];rfl) j rfl
 rw[x8g];unfold nw SJ;simp only[l,aE,vW,mem0];rw[<-dq];exact⟨_,rfl⟩
def xmm(i a b f:Int):cW tW [(0,1,I i),(1,1,I a),(2,1,I b),(3,1,I f)]=some (.agg [I i,I a,I b,I f]):=by kernel_rfl
def xmc:tW.length=4:=by kernel_rfl
def x1j{R:Type}(x:OPr)(id:Id)(m:Mem)(K:AV->Mem->Option R):dC tW [(0,4,.agg x.c)] 1 4 id m K=K (.aQ x.c 1 true) m:=by rw[xaw];rfl
def W0(J:List Pn)(X:St10)(p a b:List UInt8)(f:Int):Int×St10:=
 let x:OPr:=⟨idxQ (nmQ Pn.nm ⟨p.toArray⟩) 0 J,idxQ (nmQ Scene.nm ⟨a.toArray⟩) 0 X.L,idxQ (nmQ Scene.nm ⟨b.toArray⟩) 0 X.L,f⟩
 if x.pt<0\/x.a<0\/x.b<0 then(6,X)else if x.b<=x.a then(9,X)else if X.S.any (xY x)=true then(28,X)else if wi f (-100000) 100000=false then(2,X)else(0,{X with S:=X.S++[x]})
def x5u(d:Nat)(Z:FHs)(hK:∀j,K j->j.1<m.next)(y:[ba,pa,ea].all aP=true)(hp:Sl Pn.c pa J)(W:J.length<=1000){b:Id}(g:Bk K m b (SC E O ba pa ea) X)(hL:X.L.length<=1000)(hS:X.S.length<=1000)(p a c:List UInt8)(f n:Int) :
    ∃H,aG (d+4) Z EO [.agg [Tx p,Tx a,Tx c,I f],.ptr b 0 0,I n] m=some (I (W0 J X p a c f).1,H)/\GrP K (λj=>j=b) m H/\Bk K H b (SC E O ba pa ea) (W0 J X p a c f).2:=by
 rw[x9f];unfold pw UH;obtain⟨P,n1,g1,k1,hM1⟩:=mY (x:=.agg [Tx p,Tx a,Tx c,I f]) rfl (m.next,0,3) ⟨m.hp,m.next+1⟩;have t:Gr0 K m P:=lE (wW m) (.inl (bT _)) n1 k1;have g1':P.get (m.next,0,3)=some (.row [Tx p,Tx a,Tx c,I f] 0 false):=g1;obtain⟨D,s,q,v,w,fl,r1,r2,r3,r4,r5,r6,r7,r8,r9⟩:=g.cells;have rb:∀{M:Mem},Gr0 K m M->M.get b=some (.row [.ptr D 0 0,s,q,v,w] 0 false):=λh=>by rw[(h.2 b g.2.1 (λh=>h)).2 g.1];exact r1
 have r2':=r2.gr t (λ_ h=>h.elim);have l5:aA true 5 (.ptr b 0 0) P=some (.agg [.ptr D 0 0,s,q,v,w]):=(by rw[aM (rb t)];rfl);have nb:cA (.ptr b 0 0)=some (.ptr b 0 0):=rfl;have cp:=λx=>xjg d y r2' hp W x
 have cc:=λx=>gq d y r2' hL x
 unfold W0;generalize Q:(⟨idxQ (nmQ Pn.nm ⟨p.toArray⟩) 0 J,idxQ (nmQ Scene.nm ⟨a.toArray⟩) 0 X.L,idxQ (nmQ Scene.nm ⟨c.toArray⟩) 0 X.L,f⟩:OPr)=x;have x1:idxQ (nmQ Pn.nm ⟨p.toArray⟩) 0 J=x.pt:=(by rw[<-Q]);have x2:idxQ (nmQ Scene.nm ⟨a.toArray⟩) 0 X.L=x.a:=(by rw[<-Q]);have x3:idxQ (nmQ Scene.nm ⟨c.toArray⟩) 0 X.L=x.b:=(by rw[<-Q]);have x4:x.f=f:=(by rw[<-Q]);obtain⟨l,n2,g2,k2,hM2⟩:=mZ (z:=4) (cs:=tW) (x:=.agg [I x.pt,I x.a,I x.b,I f]) rfl rfl xmc (m.next,23,7) P;have e:Gr0 K m l:=lE t (.inl (bT _)) n2 k2;have g2':l.get (m.next,23,7)=some (.row [I x.pt,I x.a,I x.b,I f] 0 false):=g2;have A:b.1<m.next:=g.2.1;have C:∀{i j:Nat},b≠(m.next,i,j):=λh=>by rw[h]at A;simp at A
 have a1:aY (tR (.ptr b 0 0)) (some [],some [(m.next,23,7)])=true:=qI C;have a2:∀o,aY (tR (.ptr (m.next,0,3) 0 o)) (some [],some [(m.next,23,7)])=true:=λo=>qI (λh=>by simp[Prod.ext_iff]at h)
 simp only[hM1,nb,aE,l5,cM,bO,aM g1',bA,cZ,cE,cp,cc,x1,x2,x3,xmm,hM2,a1,a2,gC,d8,bB];have r7':=r7.1.gr e (λj _ h=>h.elim);have lq:aA false 1 (.ptr b 0 (1+1)) l=some q:=(by rw[aM (rb e)];rfl);simp only[aM g2',bA,cE,aE,bQ,dO];by_cases R:x.pt<0
 .simp only[R,bC,dR,cC,cS,aE,cN,bB,aR,true_or,bV];exact⟨_,rfl,e.to,g.gr e (λ_ h=>h.elim) (λh=>h)⟩
 by_cases c2:x.a<0
 .simp only[R,c2,bC,bK,dR,cC,bW,cS,aM g2',bA,cZ,cE,bQ,aE,cN,bB,aR,true_or,or_true,bV];exact⟨_,rfl,e.to,g.gr e (λ_ h=>h.elim) (λh=>h)⟩
 by_cases c3:x.b<0
 .simp only[R,c2,c3,bC,bK,dR,bW,cS,aM g2',bA,cZ,cE,bQ,aE,cN,bB,aR,or_true,bV];exact⟨_,rfl,e.to,g.gr e (λ_ h=>h.elim) (λh=>h)⟩
 simp only[R,c2,c3,bK,dR,bW,bB,cS,aM g2',bA,cZ,cE,bQ,aE,cN,aS,or_self,cJ,vW];by_cases N:x.b<=x.a
 .have c4':x.a ≥ x.b:=N;simp only[N,bC,aR,bV];exact⟨_,rfl,e.to,g.gr e (λ_ h=>h.elim) (λh=>h)⟩
 have c4':¬(x.a ≥ x.b):=N;obtain⟨q',q1,q2⟩:=r7'.frz OPr.len OPr.bG 4;obtain⟨mq,hcf⟩:=x26 (d+0) q2 hS x;have Y:Go.Ix.frz l.get bL (.clo pT [.ptr (m.next,23,7) 0 0])=some (.clo pT [.aF x.c]):=(by have f2:Go.Ix.frz l.get 5 (.ptr (m.next,23,7) 0 0)=some (.aF x.c):=mV (cs':=x.c) g2' (by rw[<-x4];rfl);show([AV.ptr (m.next,23,7) 0 0].mapM (Go.Ix.frz l.get 5)).map (AV.clo pT)=_;simp only[eG,fZ,f2];rfl);have q1':Go.Ix.frz l.get bL q=some q':=q1;have hcf':dZ (aG (d+3)) Q4 [q,.clo pT [.ptr (m.next,23,7) 0 0]] l=some (B (X.S.any (xY x)),l):=
  rY (by simp only[eG,fZ,q1',Y];rfl) hcf rfl
 simp only[N,bK,aS,cJ,lq,aE,hcf'];cases c5:X.S.any (xY x)with
 |true=>simp only[aR,bV];exact⟨_,rfl,e.to,g.gr e (λ_ h=>h.elim) (λh=>h)⟩
 |false=>
 have hsm:=λm=>JQ (d+1) f (K:=100000) (by omega) m
 simp only[aS,fE,cJ,aM g2',bA,cZ,cE,aE,hsm,fA];cases c6:wi f (-100000) 100000 with
 |false=>simp only[bW,aR,bV];exact⟨_,rfl,e.to,g.gr e (λ_ h=>h.elim) (λh=>h)⟩
 |true=>
 obtain⟨r,M3,hr,u,n3,g3⟩:=x6p (d+2) r7';have gr4:Gr0 K m M3:=e.trans g3;obtain⟨fl2,F⟩:=SimO.row (g3.2 (m.next,23,7) (by rw[n2,n1];exact mL _) (λh=>h)).1 g2';have ldx:aA true 4 (.ptr (m.next,23,7) 0 0) M3=some (.agg x.c):=(by rw[aM F,<-x4];rfl);have hN:(m.next,67,71).1<M3.next:=(by rw[n3,n2,n1];exact mL _);obtain⟨M4,hM4,hB4,hG4,-,-⟩:=LC OPr.len (bytes:=32) (by omega) g gr4 hr hS (k:=2) (by omega) (id:=(m.next,67,71)) (uQ hK (bT _) (by simp)) hN (bT _) x (λH v cs h1 h2=>h1.setS h2 (by simp));have hel:elems M3.get 4 (.aQ x.c 1 true)=some (x.c,1):=rfl;have a3:aY (tR (.ptr b 0 (1+1))) (some [],some [(m.next,66,70)])=true:=qI C;simp only[cC,aS,Bool.true_eq_false,cJ,lq,aE,u,ldx,x1j,hel,hM4,a3,bB];exact⟨M4,rfl,hG4,hB4⟩
open Go.Proofs
def x25(d:Nat){a:AV}{S:List Lv10}(h:Sl Lv10.c a S)(t:S.length<=1000)(x:Lv10):∃b,aG (d+3) [] Q5 [a,.clo pU [.aF x.c]] mem0=some (B (S.any (xX x)),b):=by
 have f:∃b,aG (d+2) [] Q0 [a,.clo pU [.aF x.c]] mem0=some (I (idxQ (xX x) 0 S),b):=by
  obtain⟨b,r⟩:=U3 Lv10.len (by omega) (q:=xX x) h (by omega) (call:=aG (d+1)) (Z:=[]) (fv:=.clo pU [.aF x.c]) (λe _ m=>by
   show ∃b,aG (d+1) [] pU ([.agg e.c]++[.aF x.c]) m=_
   rw[jM,iX,x9k]
   unfold qb UO
   obtain⟨M,-,g,-,p⟩:=mY (x:=.agg e.c) (X3 (show e.c.all AV.one=true from rfl)) (m.next,0,2) ⟨m.hp,m.next+1⟩
   have g':M.get (m.next,0,2)=some (.row [I e.e,I e.pt,I e.sc,I e.mv,I e.er] 0 false):=g
   have n:aB 1 (.aF x.c)=some (.aF [I x.pt,I x.sc,I x.mv,I x.er]):=rfl
   have o:aB 2 (.aF x.c)=some (.aF [I x.sc,I x.mv,I x.er]):=rfl
   simp only[p,cM,aE,bO,aM g',bA,cZ,cE,n,o,w8,fV,dO]
   unfold xX
   by_cases j:e.pt=x.pt
   .by_cases l:e.sc=x.sc
    .simp[j,l,g']
    .simp[j,l,g']
   .simp[j]) (OB (aG (d+1)) [] 0) (λ_ _ _ _ _ _ _=>rfl) S 0 NN ⟨[],1⟩ 4 rfl (by rw[cU];omega)
  refine⟨b,?_⟩;rw[x8a];unfold nl RY wu;simp only[h.len ZE,aE,mem0];exact r
 obtain⟨b,f⟩:=f;have i:∀m,dZ (aG (d+2)) Q0 [a,.clo pU [.aF x.c]] m=some (I (idxQ (xX x) 0 S),m):=λm=>W5 (by rw[dQ,h.bG];rfl) f rfl
 rw[x8h];unfold ny SK;simp only[i,aE,vW,mem0];rw[<-dq];exact⟨_,rfl⟩
def xmo(n i a b f:Int):cW xR [(0,1,I n),(1,1,I i),(2,1,I a),(3,1,I b),(4,1,I f)]=some (.agg [I n,I i,I a,I b,I f]):=by kernel_rfl
def xax:xR=[I 0,I 0,I 0,I 0,I 0]:=by kernel_rfl
def xme:xR.length=5:=by rw[xax];rfl
def x1k{R:Type}(x:Lv10)(id:Id)(m:Mem)(K:AV->Mem->Option R):dC xR [(0,5,.agg x.c)] 1 5 id m K=K (.aQ x.c 1 true) m:=by rw[xax];rfl
def W1(J:List Pn)(X:St10)(n:Int)(p s:List UInt8)(a b:Int):Int×St10:=
 let x:Lv10:=⟨n,idxQ (nmQ Pn.nm ⟨p.toArray⟩) 0 J,idxQ (nmQ Scene.nm ⟨s.toArray⟩) 0 X.L,a,b⟩
 if x.pt<0\/x.sc<0 then(6,X)else if(wi a (-1000000) 1000000&&wi b 0 1000000)=false then(2,X)else if X.V.any (xX x)=true then(28,X)else(0,{X with V:=X.V++[x]})
def x5v(d:Nat)(Z:FHs)(hK:∀j,K j->j.1<m.next)(C:[ba,pa,ea].all aP=true)(hp:Sl Pn.c pa J)(R:J.length<=1000){b:Id}(A:Bk K m b (SC E O ba pa ea) X)(hL:X.L.length<=1000)(hS:X.V.length<=1000)(p a:List UInt8)(g l n:Int) :
    ∃P,aG (d+4) Z EP [.agg [Tx p,Tx a,I g,I l],.ptr b 0 0,I n] m=some (I (W1 J X n p a g l).1,P)/\GrP K (λj=>j=b) m P/\Bk K P b (SC E O ba pa ea) (W1 J X n p a g l).2:=by
 rw[x9l];unfold qc UP;obtain⟨Q,n1,g1,k1,hM1⟩:=mY (x:=.agg [Tx p,Tx a,I g,I l]) rfl (m.next,0,3) ⟨m.hp,m.next+1⟩;have u:Gr0 K m Q:=lE (wW m) (.inl (bT _)) n1 k1;have g1':Q.get (m.next,0,3)=some (.row [Tx p,Tx a,I g,I l] 0 false):=g1;obtain⟨H,s,q,v,w,fl,r1,r2,r3,r4,r5,r6,r7,r8,r9⟩:=A.cells;have rb:∀{M:Mem},Gr0 K m M->M.get b=some (.row [.ptr H 0 0,s,q,v,w] 0 false):=λh=>by rw[(h.2 b A.2.1 (λh=>h)).2 A.1];exact r1
 have r2':=r2.gr u (λ_ h=>h.elim);have l5:aA true 5 (.ptr b 0 0) Q=some (.agg [.ptr H 0 0,s,q,v,w]):=(by rw[aM (rb u)];rfl);have nb:cA (.ptr b 0 0)=some (.ptr b 0 0):=rfl;have cp:=λx=>xjg d C r2' hp R x
 have cc:=λx=>gq d C r2' hL x
 unfold W1;generalize hx:(⟨n,idxQ (nmQ Pn.nm ⟨p.toArray⟩) 0 J,idxQ (nmQ Scene.nm ⟨a.toArray⟩) 0 X.L,g,l⟩:Lv10)=x;have x1:idxQ (nmQ Pn.nm ⟨p.toArray⟩) 0 J=x.pt:=(by rw[<-hx]);have x2:idxQ (nmQ Scene.nm ⟨a.toArray⟩) 0 X.L=x.sc:=(by rw[<-hx]);have x4:x.c=[I n,I x.pt,I x.sc,I g,I l]:=(by rw[<-hx];rfl);obtain⟨t,n2,g2,k2,hM2⟩:=mZ (z:=5) (cs:=xR) (x:=.agg [I n,I x.pt,I x.sc,I g,I l]) rfl rfl xme (m.next,20,7) Q;have e:Gr0 K m t:=lE u (.inl (bT _)) n2 k2;have g2':t.get (m.next,20,7)=some (.row [I n,I x.pt,I x.sc,I g,I l] 0 false):=g2;have D:b.1<m.next:=A.2.1;have F:∀{i j:Nat},b≠(m.next,i,j):=λh=>by rw[h]at D;simp at D
 have a1:aY (tR (.ptr b 0 0)) (some [],some [(m.next,20,7)])=true:=qI F;have a2:∀o,aY (tR (.ptr (m.next,0,3) 0 o)) (some [],some [(m.next,20,7)])=true:=λo=>qI (λh=>by simp[Prod.ext_iff]at h)
 simp only[hM1,nb,aE,l5,cM,bO,aM g1',bA,cZ,cE,cp,cc,x1,x2,xmo,hM2,a1,a2,gC,d8,bB];have r8':=r8.gr e (λj _ h=>h.elim);have lq:aA false 1 (.ptr b 0 (1+2)) t=some v:=(by rw[aM (rb e)];rfl);have f:=A.gr e (λ_ h=>h.elim) (λh=>h);simp only[aM g2',bA,cZ,cE,aE,bQ,dO,hJ];by_cases c1:x.pt<0
 .simp only[c1,bC,dR,cC,cS,aE,cN,bB,aR,true_or,bV];exact⟨_,rfl,e.to,f⟩
 by_cases c2:x.sc<0
 .simp only[c1,c2,bC,bK,dR,bW,cS,aM g2',bA,cZ,cE,bQ,aE,cN,bB,aR,or_true,bV];exact⟨_,rfl,e.to,f⟩
 have W:=λn m=>JQ (d+1) n (K:=1000000) (by omega) m
 have Y:=λa b c m=>uA (d+2) a b c m
 simp only[c1,c2,bK,dR,bW,bB,cS,aM g2',bA,cZ,cE,bQ,aE,cN,aS,or_self,cJ,W,fA];cases c3:wi g (-1000000) 1000000 with
 |false=>simp only[bW,cC,cS,aE,bB,aR,pE,bV];exact⟨_,rfl,e.to,f⟩
 |true=>
 simp only[cC,bW,bB,cS,aM g2',bA,cZ,cE,aE,Y,fA,gO];cases c4:wi l 0 1000000 with
 |false=>simp only[bW,aR,bV];exact⟨_,rfl,e.to,f⟩
 |true=>
 obtain⟨q',q1,q2⟩:=r8'.frz Lv10.len Lv10.bG 4;obtain⟨mq,hcf⟩:=x25 (d+0) q2 hS x;have hcl:Go.Ix.frz t.get bL (.clo pU [.ptr (m.next,20,7) 0 0])=some (.clo pU [.aF x.c]):=(by have f2:Go.Ix.frz t.get 5 (.ptr (m.next,20,7) 0 0)=some (.aF x.c):=mV (cs':=x.c) g2' (by rw[x4];rfl);show([AV.ptr (m.next,20,7) 0 0].mapM (Go.Ix.frz t.get 5)).map (AV.clo pU)=_;simp only[eG,fZ,f2];rfl);have q1':Go.Ix.frz t.get bL v=some q':=q1;have hcf':dZ (aG (d+3)) Q5 [v,.clo pU [.ptr (m.next,20,7) 0 0]] t=some (B (X.V.any (xX x)),t):=
  rY (by simp only[eG,fZ,q1',hcl];rfl) hcf rfl
 simp only[cC,aS,Bool.true_eq_false,cJ,lq,aE,hcf'];cases c5:X.V.any (xX x)with
 |true=>simp only[aR,bV];exact⟨_,rfl,e.to,f⟩
 |false=>
 obtain⟨r,M3,hr,y,n3,g3⟩:=x6m (d+2) r8';have gr4:Gr0 K m M3:=e.trans g3;obtain⟨fl2,N⟩:=SimO.row (g3.2 (m.next,20,7) (by rw[n2,n1];exact mL _) (λh=>h)).1 g2';have ldx:aA true 5 (.ptr (m.next,20,7) 0 0) M3=some (.agg x.c):=(by rw[aM N,x4];rfl);have hN:(m.next,59,63).1<M3.next:=(by rw[n3,n2,n1];exact mL _);obtain⟨M4,hM4,hB4,hG4,-,-⟩:=LC Lv10.len (bytes:=40) (by omega) A gr4 hr hS (k:=3) (by omega) (id:=(m.next,59,63)) (uQ hK (bT _) (by simp)) hN (bT _) x (λP v cs h1 h2=>h1.setV h2);have hel:elems M3.get 5 (.aQ x.c 1 true)=some (x.c,1):=rfl;have a3:aY (tR (.ptr b 0 (1+2))) (some [],some [(m.next,58,62)])=true:=qI F;simp only[aS,fE,cJ,aE,y,ldx,x1k,hel,hM4,a3,bB];exact⟨M4,rfl,hG4,hB4⟩
end Go.Ix
namespace Go.Ix
open Go.Proofs
variable{K:Id->Prop}{ba pa ea:AV}{W:List Bd}{J:List Pn}{C:List Pe}{E O:Int}{m:Mem}{X:St10}{cs:List AV}
variable{α:Type}{z:Nat}{enc:α->List AV}
def xd7(l:List AV):rd false 1 l=l.head?:=by cases l<;>rfl
def Rk.len{a:AV}{l:List α}(h:Rk K z enc m a l){t e:TypeId}(d:prog.underlying t=some (.slice e)):aN prog t a=some (I l.length):=by
 rcases h with ⟨rfl,rfl⟩|⟨x,rfl⟩|⟨id,g,x,b,f,i,j,rfl,n,o⟩
 .exact(show Sl enc nilS []from .inl ⟨rfl,rfl⟩).len d
 .exact(show Sl enc (.aQ (l.flatMap enc) l.length x) l from .inr ⟨x,rfl⟩).len d
 .rfl
def Rk.cell(d:∀x,(enc x).length=z){a:AV}{l:List α}(h:Rk K z enc m a l){k:Nat}(g:k<l.length):∃p,aT z a (I k)=some p/\∀o,o<z->∃i,aB o p=some i/\aA false 1 i m=(enc l[k])[o]?:=by
 have r:(l.flatMap enc).drop (k*z)=enc l[k]++(l.drop (k+1)).flatMap enc:=(by rw[zG d,HI g,dN]);have j:∀o,o<z->(((l.flatMap enc).drop (k*z)).drop o).head?=(enc l[k])[o]?:=λo e=>by rw[r,jk,zV (by rw[d];exact e)]
 have u:=iE d l;rcases h with ⟨rfl,rfl⟩|⟨x,rfl⟩|⟨id,f,x,b,n,y,A,rfl,t,C⟩
 .simp at g
 .refine⟨_,Sl.ix d (.inr ⟨x,rfl⟩) g,λo e=>⟨_,rfl,?_⟩⟩;rw[<-j o e,zG d];generalize List.drop o _=q;cases q<;>rfl
 .refine⟨.ptr id f (k*z),?_,λo e=>⟨.ptr id f (k*z+o),rfl,?_⟩⟩
  .simp only[aT,dI];rw[aH ⟨by omega,by omega,trivial⟩];simp
  .rw[aM t,xd7,<-j o e,xk6,jk,jk,zV];have:(k+1)*z<=l.length*z:=oC z g;rw[lR]at this;omega
def N6(L:List Scene)(d:Int):Bool:=match L[L.length-1]? with
 |some s=>decide (d<=s.day)
 |none=>false
def V9(X:St10)(n:List UInt8)(d b:Int):Int×St10:=
 let e:=jS [iI ⟨n.toArray⟩ (X.L.map Scene.nm),hW (wi d 0 100000&&wi b (-100000) 100000)]
 if X.L.length=12 then(16,X)else if e≠0 then(e,X)else if N6 X.L d=true then(9,X)else(0,{X with L:=X.L++[⟨⟨n.toArray⟩,d,b⟩]})
def x1i{R:Type}(x:Scene)(id:Id)(m:Mem)(K:AV->Mem->Option R):dC qN [(0,3,.agg x.c)] 1 3 id m K=K (.aQ x.c 1 true) m:=by rw[IZ];rfl
def xma:qN.length=3:=by rw[IZ];rfl
def xfn{R:Type}{x y:Int}{id:Id}{m:Mem}{k:AV->Mem->Option R}:dC qO [(0,1,I x),(1,1,I y)] 2 1 id m k=k (.aQ [I x,I y] 2 true) m:=by rw[show qO=[I 0] by kernel_rfl];simp[dC,jG,eV,qK,cR]
def ya9(d:Nat)(f:[ba,pa,ea].all aP=true){b a:Id}{M:Mem}(i:M.get b=some (.row cs 0 false))(h:Bc K M (SC E O ba pa ea) X cs)(j:M.get a=some (.row [.ptr b 0 0] 0 false))(o:X.L.length<=1000){n:List UInt8}(r:n.length<=1000) :
    dZ (aG (d+3)) rO [Tx n,.clo uU [.ptr a 0 0],I X.L.length] M=some (I (iI ⟨n.toArray⟩ (X.L.map Scene.nm)),M):=by
 obtain⟨s,p,v,c,e,R,W,Y,Z⟩:=h.frz f 0;obtain⟨u,g⟩:=xj8 (d+1) (s:=⟨n.toArray⟩) (fv:=.clo uU [.aF [.aF [.aF (SC E O ba pa ea),s,p,v,c]]]) (l:=X.L.map Scene.nm) (by show n.toArray.size<=1000;simpa using r) (by simpa using o) λk t m=>by
  have hk':k<X.L.length:=(by simpa using t);show ∃u,aG (d+2) [] uU ([I k]++[.aF [.aF [.aF (SC E O ba pa ea),s,p,v,c]]]) m=_;rw[jM,iX,x9b];unfold pq UE;have w:∀m,aA false 1 (.aF [.aF [.aF (SC E O ba pa ea),s,p,v,c]]) m=some (.aF [.aF (SC E O ba pa ea),s,p,v,c]):=λ_=>rfl
  have x:cA (.aF [.aF (SC E O ba pa ea),s,p,v,c])=some (.aF [.aF (SC E O ba pa ea),s,p,v,c]):=rfl;have y:aB 1 (.aF [.aF (SC E O ba pa ea),s,p,v,c])=some (.aF [s,p,v,c]):=rfl;have A:aB 0 (.aF [s,p,v,c])=some (.aF [s,p,v,c]):=rfl;have C:∀m,aA false 1 (.aF [s,p,v,c]) m=some s:=λ_=>rfl
  have ix:=R.ix Scene.len hk';have D:aB 0 (.aF ((X.L.drop k).flatMap Scene.c))=some (.aF ((X.L.drop k).flatMap Scene.c)):=rfl;have F:∀m,aA false 1 (.aF ((X.L.drop k).flatMap Scene.c)) m=some (T X.L[k].nm):=λm=>by rw[fT hk',dN];rfl
  simp only[w,x,y,A,C,D,F,ix,aE,X8];exact⟨_,rfl⟩
 rw[qL]at g;refine rY ?_ g rfl;have H:Go.Ix.frz M.get 4 (.ptr b 0 0)=some (.aF [.aF (SC E O ba pa ea),s,p,v,c]):=mV i e;have J:Go.Ix.frz M.get 5 (.ptr a 0 0)=some (.aF [.aF [.aF (SC E O ba pa ea),s,p,v,c]]):=mV j (by simp only[eG,fZ,H];rfl);have N:Go.Ix.frz M.get bL (.clo uU [.ptr a 0 0])=some (.clo uU [.aF [.aF [.aF (SC E O ba pa ea),s,p,v,c]]]):=(by show([AV.ptr a 0 0].mapM (Go.Ix.frz M.get 5)).map (AV.clo uU)=_;simp only[eG,fZ,J];rfl);have P:Go.Ix.frz M.get bL (Tx n)=some (Tx n):=kD _ 4 rfl;have Q:Go.Ix.frz M.get bL (I X.L.length)=some (I X.L.length):=kD _ 4 rfl;simp only[eG,fZ,N,P,Q];rfl
def x5t(d:Nat)(Z:FHs)(hK:∀j,K j->j.1<m.next)(hst:[ba,pa,ea].all aP=true){b:Id}(J:Bk K m b (SC E O ba pa ea) X)(hL:X.L.length<=1000){n:List UInt8}(hn:n.length<=1000)(dy W k:Int) :
    ∃u,aG (d+4) Z EN [.agg [Tx n,I dy,I W],.ptr b 0 0,I k] m=some (I (V9 X n dy W).1,u)/\GrP K (λj=>j=b) m u/\Bk K u b (SC E O ba pa ea) (V9 X n dy W).2:=by
 rw[x9c];unfold pu UF;obtain⟨M1,n1,g1,k1,hM1⟩:=mY (x:=.agg [Tx n,I dy,I W]) rfl (m.next,0,3) ⟨m.hp,m.next+1⟩;have gr1:Gr0 K m M1:=lE (wW m) (.inl (bT _)) n1 k1;obtain⟨M2,n2,g2,k2,hM2⟩:=mY (x:=.ptr b 0 0) rfl (m.next,1,4) M1;have Q:Gr0 K m M2:=lE gr1 (.inl (bT _)) n2 k2;have g1':M2.get (m.next,0,3)=some (.row [Tx n,I dy,I W] 0 false):=(by rw[k2 _ (by simp[Prod.ext_iff])];exact g1);have g2':M2.get (m.next,1,4)=some (.row [.ptr b 0 0] 0 false):=g2;obtain⟨sid,s,q,v,w,fl,r1,r2,r3,r4,r5,r6,r7,r8,r9⟩:=J.cells;have rb:∀{M:Mem},Gr0 K m M->M.get b=some (.row [.ptr sid 0 0,s,q,v,w] 0 false):=λh=>by rw[(h.2 b J.2.1 (λh=>h)).2 J.1];exact r1
 have nb:cA (.ptr b 0 0)=some (.ptr b 0 0):=rfl;have R:=r6.len pK;obtain⟨M3,n3,g3,k3,hM3⟩:=mZ (z:=3) (cs:=qN) (x:=.agg [Tx n,I dy,I W]) rfl rfl xma (m.next,11,7) M2;have e:Gr0 K m M3:=lE Q (.inl (bT _)) n3 k3;have g3':M3.get (m.next,11,7)=some (.row [Tx n,I dy,I W] 0 false):=g3;have D:M3.get (m.next,1,4)=some (.row [.ptr b 0 0] 0 false):=(by rw[k3 _ (by simp[Prod.ext_iff])];exact g2');have Y:b.1<m.next:=J.2.1;have F:∀{i j:Nat},b≠(m.next,i,j):=λh=>by rw[h]at Y;simp at Y
 have a1:∀o,aY (tR (.ptr b 0 o)) (some [],some [(m.next,11,7)])=true:=λo=>qI F
 have a2:aY (tR (.ptr (m.next,0,3) 0 0)) (some [],some [(m.next,11,7)])=true:=qI (λh=>by simp[Prod.ext_iff]at h);have a3:aY (tR (.ptr (m.next,1,4) 0 0)) (some [],some [(m.next,11,7)])=true:=qI (λh=>by simp[Prod.ext_iff]at h);have a4:aY (tR (.ptr (m.next,1,4) 0 0)) (tS (.ptr (m.next,11,7) 0 0))=true:=ie (λh=>by simp[Prod.ext_iff]at h);have a5:∀o,aY (tR (.ptr b 0 o)) (tS (.ptr (m.next,11,7) 0 0))=true:=λo=>ie F
 have lx:aA true 3 (.ptr (m.next,0,3) 0 0) M2=some (.agg [Tx n,I dy,I W]):=(by rw[aM g1'];rfl);have ls:∀{M:Mem},Gr0 K m M->aA false 1 (.ptr b 0 1) M=some s:=λh=>by rw[aM (rb h)];rfl
 have t:=J.gr e (λ_ h=>h.elim) (λh=>h);have hnm:=ya9 d hst (rb e) (r2.gr e (λ_ h=>h.elim)) D hL hn;have hwi:=λa b c m=>uA (d+2) a b c m
 have hsm:=λn m=>JQ (d+1) n (K:=100000) (by omega) m
 have hrg:∀b m,aI (aG (d+3)) pS [B b] m=some (I (hW b),m):=λb m=>JS (d+2) b m
 have hfs:∀x y m,aI (aG (d+3)) uV [.aQ [I x,I y] 2 true] m=some (I (jS [x,y]),m):=λx y m=>JU (d+2) (l:=[x,y]) (.inr ⟨true,rfl⟩) (by simp) m
 simp only[hM1,hM2,nb,aE,lx,cM,bO,vL,aM g2',bA,cE,ls Q,R,hM3,a1,a2,a3,a4,a5,gC,d8,bB,fV];unfold V9;by_cases c1:X.L.length=12
 .have c1':(X.L.length:Int)=12:=(by omega);simp only[c1,aR,bV,show decide (((12:Nat):Int)=12)=true from rfl];exact⟨_,rfl,e.to,t⟩
 have c1':¬((X.L.length:Int)=12):=(by omega);simp only[c1,c1',bK,aS,cJ,aM g3',bA,cZ,cE,aE,hnm,hwi,dO,hJ];generalize iI ⟨n.toArray⟩ (X.L.map Scene.nm)=nm;have he2:jS [nm,hW false]≠0:=(by simp only[jS,eK,hW,cond_false];split<;>simp_all);cases hw1:wi dy 0 100000 with
 |false=>simp only[gD,cS,aE,cN,hrg,xfn,hfs,fQ,pE];simp only[he2,ne_eq,not_false_eq_true,bV];exact⟨_,rfl,e.to,t⟩
 |true=>
 simp only[gD,bB,aE,cN,aM g3',bA,cZ,cE,hsm,hrg,xfn,hfs,fQ,gO,gZ];by_cases c2:jS [nm,hW (wi W (-100000) 100000)]=0;case neg=>simp only[c2,ne_eq,not_false_eq_true,bV];exact⟨_,rfl,e.to,t⟩
 have A:=ls e
 have C:N6 X.L dy=false->∃u,((aI (aG (d+3)) Q9 [s] M3).bind λg=>
  (aA true 3 (.ptr (m.next,11,7) 0 0) g.2).bind λt63=>
  dC qN [(0,3,t63)] 1 3 (m.next,60,64) g.2 λN P=>
  cX 3 32 (m.next,61,65) (elems P.get 3 N) g.1 P λt65 m_7=>
  aZ 1 (.ptr b 0 1) t65 m_7 λm_8=>
  bif(aY (tR (.ptr (m.next,1,4) 0 0)) (some [],some [(m.next,60,64)])&&(aY (tR (.ptr (m.next,1,4) 0 0)) (some [],some [(m.next,60,64)])&&(aY (tR (.ptr b 0 1)) (some [],some [(m.next,60,64)])&&aY (tR (.ptr (m.next,1,4) 0 0)) (tX N,tA (m.next,61,65) g.1))))then
  some ((I 0),m_8)else none)=some (I 0,u)/\GrP K (λj=>j=b) m u/\Bk K u b (SC E O ba pa ea) {X with L:=X.L++[⟨⟨n.toArray⟩,dy,W⟩]}:=by
  intro f
  obtain⟨r,M4,hr,H,n4,g4⟩:=x6o (d+2) (r6.gr e (λj _ h=>h.elim))
  have gr4:Gr0 K m M4:=e.trans g4
  obtain⟨fl2,g3''⟩:=SimO.row (g4.2 (m.next,11,7) (by rw[n3,n2,n1];exact mL _) (λh=>h)).1 g3'
  have ldx:aA true 3 (.ptr (m.next,11,7) 0 0) M4=some (.agg (Scene.c ⟨⟨n.toArray⟩,dy,W⟩)):=by rw[aM g3''];rfl
  have hN:(m.next,61,65).1<M4.next:=by rw[n4,n3,n2,n1];exact mL _
  obtain⟨M5,hM5,hB5,hG5,-,-⟩:=LC Scene.len (bytes:=32) (by omega) J gr4 hr hL (k:=1) (by omega) (id:=(m.next,61,65)) (uQ hK (bT _) (by simp)) hN (bT _) ⟨⟨n.toArray⟩,dy,W⟩ (λu v cs h1 h2=>h1.setL h2)
  have hel:∀x:Scene,elems M4.get 3 (.aQ x.c 1 true)=some (x.c,1):=λ_=>rfl
  have b1:aY (tR (.ptr (m.next,1,4) 0 0)) (some [],some [(m.next,60,64)])=true:=qI (λh=>by simp[Prod.ext_iff]at h)
  have b2:aY (tR (.ptr b 0 1)) (some [],some [(m.next,60,64)])=true:=qI F
  have b3:∀x:List AV,aY (tR (.ptr (m.next,1,4) 0 0)) (tX (.aQ x 1 true),tA (m.next,61,65) r)=true:=λx=>by
   have:tA (m.next,61,65) r=some [(m.next,61,65)]:=by rcases hr with ⟨rfl,-⟩|rfl<;>rfl
   rw[this]
   show aY (some [(m.next,1,4)],some []) (some [],some [(m.next,61,65)])=true
   simp[aY,kX]
  simp only[aE,H,ldx,x1i,hel,hM5,b1,b2,b3,gC,bB]
  exact⟨M5,rfl,hG5,hB5⟩
 simp only[c2,ne_eq,not_true_eq_false,bC,cC,aS,cJ,gI];by_cases c3:0<X.L.length
 .have c3':((X.L.length:Int) > 0):=(by omega);have hk:X.L.length-1<X.L.length:=(by omega);obtain⟨p,p1,p2⟩:=(r6.gr e (λj _ h=>h.elim)).cell Scene.len hk;obtain⟨p',p3,p4⟩:=p2 1 (by omega);have w1:bM ((X.L.length:Int)-1)=((X.L.length-1:Nat):Int):=(by rw[bJ];omega);have f:N6 X.L dy=decide (dy<=X.L[X.L.length-1].day):=(by unfold N6;rw[eY hk]);have p4':aA false 1 p' M3=some (I X.L[X.L.length-1].day):=p4;simp only[c3',bC,gD,bB,aE,aM g3',aM D,bA,cZ,cE,nb,cM,bO,vL,A,mQ,w1,p1,p3,p4',KP];by_cases c4:dy<=X.L[X.L.length-1].day
  .simp only[f,c4,bC,aR,bV];exact⟨_,rfl,e.to,t⟩
  .simp only[f,c4,bK,aS,fE,cJ];exact C (by rw[f,eT c4])
 .have c3':¬((X.L.length:Int) > 0):=(by omega);have f:N6 X.L dy=false:=(by unfold N6;rw[H0 (by omega)]);simp only[c3',f,bK,gD,cS,aE,aS,fE,cJ,aM D,bA,cE,nb,cM,bO,vL,A];exact C f
end Go.Ix
namespace Go.Ix
open Go.Proofs
variable{K:Id->Prop}{ba pa ea:AV}{W:List Bd}{J:List Pn}{C:List Pe}{E O:Int}{m:Mem}{X:St10}{cs:List AV}
def D6(x:Int):List Int->Int->Int
 |[],_=>-1
 |y::r,k=>if x=y then k else D6 x r (k+1)
def xhc{x:Int}:∀(F:List Int) (k:Int),0<=k->(decide (0<=D6 x F k)=F.any λy=>decide (y=x))
 |[],_,_=>rfl
 |y::r,k,h=>by
  rw[D6,H3];by_cases c:x=y
  .rw[aH c];simp[h,c]
  .rw[aD c,xhc r (k+1) (by omega)];have:¬y=x:=λe=>c e.symm
   simp[this]
def xbq(d:Nat){f:AV}{F:List Int}{x:Int}(e:Ints f F)(h:F.length<=1000000)(m:Mem):aI (aG (d+2)) yM [f,I x] m=some (B (F.any λy=>decide (y=x)),m):=by
 have b:∀m,aI (aG (d+1)) DT [f,I x] m=some (I (D6 x F 0),m):=λm=>by
  refine dT (by simp[e.bG]) ?_ m;rw[x76];unfold nh RP wk;simp only[e.len jZ,aE];refine nQ (N:=F.length) (σ:=Unit) (λn k _ m Y=>Z2 (aG d) [] 0 n f (I x) (I F.length) (I k) m Y) (λk _ m=>D6 x (F.drop k) k=D6 x F 0) _ ?_ ?_ NN 0 () _ _ (by omega) (by rw[cU];omega) (by simp)
  .rintro n k-m Y g a next;have hk':(k:Int)<(F.length:Int):=(by omega);have ix:=e.ix gE g;rw[fT g,D6,<-fD g]at a;simp only[Z2];unfold RQ;simp(disch:=omega) [hk',ix,nS];by_cases c:x=at0 F k
   .rw[aH c]at a;simp[c];exact RetF.st rfl (by rw[<-c,<-a])
   .rw[aD c]at a;simp[c];exact next () _ _ (by rw[<-a];norm_cast)
  .rintro n-m Y a;simp only[Z2];unfold RQ wn;simp;rw[List.drop_length]at a;exact RetF.st rfl (by rw[<-a];rfl)
 refine dT (by simp[e.bG]) ?_ m;rw[x8d];unfold nr SG;simp[b];exact RetF.st rfl (by rw[xhc F 0 (by omega)])
structure SuOK (wv mg:Int) (ba pa ea:AV) (bl:List Bd) (pl:List Pn) (C:List Pe):Prop where
 b:Sl Bd.c ba bl
 p:Sl Pn.c pa pl
 e:Sl Pe.c ea C
 bn:bl.length<=1000
 pn:pl.length<=1000
 en:C.length<=1000
 mg:0<=mg/\mg<=2048
 wv:1<=wv/\wv<=10000
 th:∀(i:Nat) (h:i<bl.length),0<=bl[i].th/\bl[i].th<=1000000
 po:∀(i:Nat) (h:i<bl.length),polyE bl[i].cs=0
 pt:∀p∈pl,isPl p.at_=true
def SuOK.st(h:SuOK E O ba pa ea W J C):[ba,pa,ea].all aP=true:=by simp[h.b.aP,h.p.aP,h.e.aP]
structure XOK (D:Nat) (X:St10):Prop where
 L:X.L.length<=12
 D:X.L.length<=D
 S:X.S.length<=1000
 V:X.V.length<=1000
 C:X.C.length<=11
 Q:∀j:Nat,(ofPt j X.S).length<=19
 f:∀p∈X.S,p.f.natAbs<=400000
def gn{T:AV->Prop}{b:aK}{f:FuncId}{l:List AV}(d:l.all bG=true)(h:RetF T (b [] f l mem0)):∃a,T a/\∀m,aI b f l m=some (a,m):=by obtain⟨a,n,e,g,i,j⟩:=h;exact⟨e,j,λm=>W6 d g i⟩
def xjj(d:Nat)(g:SuOK E O ba pa ea W J C)(o:XOK (d+8) X)(h:Bc K m (SC E O ba pa ea) X cs){i:Nat}(y:i<W.length) :
    ∃v M,AX X.L X.S O E W[i] J v/\aI (aG (d+16)) wN [.agg cs,I (i:Int)] m=some (v,M)/\M.next=m.next/\Gr0 K m M:=by
 obtain⟨s,p,v,c,e,F,H,u,w⟩:=h.frz g.st 2;have t:∀{α:Type} {A:α->List AV} {a:AV} {l:List α},Sl A a l->eF a=true:=λh=>by rcases h with ⟨rfl,-⟩|⟨x,rfl⟩<;>rfl
 have n:[FB E O ba pa ea s p v c,I (i:Int)].all bG=true:=(by show(([AV.aF (SC E O ba pa ea),s,p,v,c].all aP)&&true)=true;simp[F.aP,H.aP,u.aP,Sl.aP w];rfl);obtain⟨r,hr,hc⟩:=gn n (xka d (ea:=ea) g.b g.p F H ⟨u.aP,Sl.aP w⟩ ⟨u.one,Sl.one w⟩ ⟨t u,t w⟩ g.pn o.S g.mg g.wv ⟨o.L,o.D⟩ o.Q o.f y (g.th i y) (g.po i y) g.pt);have P:[AV.agg cs,I (i:Int)].mapM (Go.Ix.frz m.get bL)=some [FB E O ba pa ea s p v c,I (i:Int)]:=(by have R:Go.Ix.frz m.get bL (.agg cs)=some (FB E O ba pa ea s p v c):=(by show(cs.mapM (Go.Ix.frz m.get 5)).map AV.agg=_;rw[e];rfl);have Y:Go.Ix.frz m.get bL (I (i:Int))=some (I (i:Int)):=kD _ 4 rfl;simp only[eG,fZ,R,Y];rfl);refine⟨r,_,hr,xjf P n hc,rfl,xhm λj N=>?_⟩;have Z:(SC E O ba pa ea).all aP=true:=(by show(true&&(true&&[ba,pa,ea].all aP))=true;rw[g.st];rfl);have hj':j∈cs.flatMap (Go.Ix.reach m.get 5)++[]:=N;rw[jX]at hj';exact h.reach Z 3 j hj'
def X1(O E:Int)(W:List Bd)(J:List Pn)(X:St10)(i:Nat):Int:=match W[i]? with
 |some b=>iF X.L X.S O E b J
 |none=>0
def W3(O E:Int)(W:List Bd)(J:List Pn)(X:St10)(n:List UInt8):Int×St10:=
 let i:=idxQ (nmQ Bd.nm ⟨n.toArray⟩) 0 W
 if i<0 then(6,X)else if(X.C.any λy=>decide (y=i))=true\/X1 O E W J X i.toNat≠2 then(24,X)else(0,{X with C:=iQ (λx y=>decide (x<y)) X.C.length (X.C++[i])})
def x1l{R:Type}(x:Int)(id:Id)(m:Mem)(K:AV->Mem->Option R):dC iN [(0,1,I x)] 1 1 id m K=K (.aQ [I x] 1 true) m:=by rw[nB];rfl
def x5x(d:Nat)(Z:FHs)(hK:∀j,K j->j.1<m.next)(hO:SuOK E O ba pa ea W J C)(hX:XOK (d+8) X){b:Id}(o:Bk K m b (SC E O ba pa ea) X)(n:List UInt8)(k:Int) :
    ∃m',aG (d+17) Z ET [Tx n,.ptr b 0 0,I k] m=some (I (W3 O E W J X n).1,m')/\GrP K (λj=>j=b) m m'/\Bk K m' b (SC E O ba pa ea) (W3 O E W J X n).2:=by
 rw[x9z];unfold qr VJ;obtain⟨H,A⟩:∃H:Mem,H=⟨m.hp,m.next+1⟩:=⟨_,rfl⟩;have a:Gr0 K m H:=(by rw[A];exact wW m);have n1:H.next=m.next+1:=(by rw[A]);obtain⟨p,s,q,v,w,fl,r1,r2,r3,r4,r5,r6,r7,r8,r9⟩:=o.cells;have rb:∀{M:Mem},Gr0 K m M->M.get b=some (.row [.ptr p 0 0,s,q,v,w] 0 false):=λh=>by rw[(h.2 b o.2.1 (λh=>h)).2 o.1];exact r1
 have l5:∀{M:Mem},Gr0 K m M->aA true 5 (.ptr b 0 0) M=some (.agg [.ptr p 0 0,s,q,v,w]):=λh=>by rw[aM (rb h)];rfl
 have lw:∀{M:Mem},Gr0 K m M->aA false 1 (.ptr b 0 (1+3)) M=some w:=λh=>by rw[aM (rb h)];rfl
 have nb:cA (.ptr b 0 0)=some (.ptr b 0 0):=rfl;have u:∀{M:Mem},Gr0 K m M->Bk K M b (SC E O ba pa ea) X:=λh=>o.gr h (λ_ h=>h.elim) (λh=>h)
 have cb:dZ (aG (d+16)) oO [.agg [.ptr p 0 0,s,q,v,w],Tx n] H=some (I (idxQ (nmQ Bd.nm ⟨n.toArray⟩) 0 W),H):=xji (d+13) hO.st (r2.gr a (λ_ h=>h.elim)) hO.b hO.bn _;rw[<-A];unfold W3;simp only[nb,aE,l5 a,cb,bQ,cM,bO];rcases zB (nmQ Bd.nm ⟨n.toArray⟩) W 0 with ⟨h0,-⟩|⟨i,h0,hi,-⟩
 .rw[h0];simp only[show((-1:Int)<0)from by decide,bV];exact⟨_,rfl,a.to,u a⟩
 rw[h0,HK];have hi0:¬((i:Int)<0):=(by omega);obtain⟨rc,M2,hq,Y,n2,g2⟩:=(r9.gr a (λ_ _ h=>h.elim)).gG (Q:=λr=>r=B (X.C.any λy=>decide (y=(i:Int)))) (call:=aG (d+16)) (f:=yM) wT U7 [I (i:Int)] rfl
  λa' ha=>⟨_,rfl,λm=>xbq (d+14) ha (by have:=hX.C;omega) m⟩
 subst hq;have e:Gr0 K m M2:=a.trans g2;simp only[hi0,bK,aS,cJ,lw a,aE,Y,gI,dO,hJ,gA];cases c1:X.C.any λy=>decide (y=(i:Int))with
 |true=>simp only[dR,cC,cS,aE,cN,bB,aR,true_or,bV];exact⟨_,rfl,e.to,u e⟩
 |false=>
 obtain⟨va,M3,⟨ys,yo,yl,rfl,-⟩,hans,n3,g3⟩:=xjj d hO hX (r2.gr e (λ_ h=>h.elim)) hi;have hai:X1 O E W J X i=iF X.L X.S O E W[i] J:=(by unfold X1;rw[eY hi]);have g:Gr0 K m M3:=e.trans g3;have fld:M8 false 1 0 (.agg [I (iF X.L X.S O E W[i] J),ys,yo,yl])=some (I (iF X.L X.S O E W[i] J)):=rfl;simp only[dR,bW,bB,aE,nb,l5 e,hans,fld,fQ,cN,cS,fE,false_or,hai];by_cases c2:iF X.L X.S O E W[i] J=2;case neg=>simp only[c2,bK,bW,aR,ne_eq,not_false_eq_true,bV];exact⟨_,rfl,g.to,u g⟩
 simp only[c2,bC,cC,aS,ne_eq,not_true_eq_false,cJ];obtain⟨r,M4,hr,D,n4,g4⟩:=x6q (d+15) (r9.gr g (λ_ _ h=>h.elim));have gr4:Gr0 K m M4:=g.trans g4;have hid:(m.next,36,42).1<M4.next:=(by rw[n4,n3,n2,n1];exact mL _);obtain⟨M5,hM5,hB5,F,hr5,n5,hb5⟩:=LC wT (bytes:=8) (by omega) o gr4 hr (by have:=hX.C;omega) (k:=4) (by omega) (id:=(m.next,36,42)) (uQ hK (bT _) (by simp)) hid (bT _) (i:Int) (λm' v cs h1 h2=>h1.setC h2);have hb5':=hb5 _ r1;have hel:elems M4.get 1 (.aQ [I (i:Int)] 1 true)=some (intE i,1):=rfl;have l6:aA false 1 (.ptr b 0 (1+3)) M5=some (.sref (m.next,36,42) 0 0 (X.C.length+1) 1 true):=(by rw[aM hb5'];rfl);have hGk:Gk 1 intE (λj=>j=(m.next,36,42)) M5 (.sref (m.next,36,42) 0 0 (X.C.length+1) 1 true) (X.C++[(i:Int)]):=.inr ⟨_,0,rfl,by rw[jL];rfl,hr5⟩;obtain⟨M6,x,t,hn6,l⟩:=xjk (d+11) Z (by rw[jL];have:=hX.C;simp;omega) hGk;have N:b≠(m.next,36,42):=λh=>by have:=o.2.1;rw[h]at this;simp at this
 have P:GrP K (λj=>j=b) m M6:=⟨by have:=F.1;omega,λj hj hp=>by
  rw[l j (by rintro rfl;simp at hj)];exact F.2 j hj hp⟩
 have hb6:M6.get b=some (.row (cR [.ptr p 0 0,s,q,v,w] 4 [.sref (m.next,36,42) 0 0 (X.C.length+1) 1 true]) 0 false):=(by rw[l b N];exact hb5');have hsort':aG (d+16) Z B2 [.sref (m.next,36,42) 0 0 (X.C.length+1) 1 true] M5=some (.tup [],M6):=x;simp only[lw g,aE,D,x1l,hel,hM5,l6,hsort'];refine⟨M6,rfl,P,o.1,by have:=o.2.1;have:=F.1;omega,_,hb6,(r2.gr P (λj hj=>by rw[hj];exact o.1)).setC ?_⟩;have R:(X.C++[(i:Int)]).length-1=X.C.length:=(by simp);rw[R]at t;rcases t with ⟨h,-⟩|⟨id,ver,rfl,he,hg⟩
 .cases h
 .rw[he];exact .inr (.inr ⟨(m.next,36,42),ver,true,false,[],(uQ hK (bT _) (by simp)),by rw[n5]at hn6;omega,rfl,by rw[jX];exact hg,rfl⟩)
open Go.Proofs
def vD(i sh:Int)(p:OPr):OPr:=if i=p.b then{p with f:=p.f+sh}else if i=p.a then{p with f:=p.f-sh}else p
def ZT(A C v:List AV)(k:Nat):cR (A++C) (A.length+k) v=A++cR C k v:=by unfold cR;rw[List.take_append,dU (by omega),show A.length+k-A.length=k by omega,H1,lU (by omega),show A.length+k+v.length-A.length=k+v.length by omega];simp
def x5f(a:List AV)(n:Nat)(x:Bool):cO prog .eql qQ (.tmp 3) (.const (.slice none 0 0)) (.aQ a n x) nilS=some (B false):=by kernel_rfl
def x5e:cO prog .eql qQ (.tmp 3) (.const (.slice none 0 0)) nilS nilS=some (B true):=by kernel_rfl
def ClP(u:Nat)(m:Mem)(r:AV)(S:List OPr):Prop:=(S=[]/\r=nilS)\/(S≠[]/\r=.sref (u,5,7) 0 0 S.length 4 true/\m.get (u,5,7)=some (.row (S.flatMap OPr.c) 0 false))
def x24(d:Nat){a:AV}{S:List OPr}(h:Sl OPr.c a S)(m:S.length<=1000)(j:S=[]->a=nilS)(u:Nat):∃r e,aG (d+1) [] Q8 [a] ⟨[],u⟩=some (r,e)/\ClP u e r S/\e.next=u+1:=by
 rw[x8k];unfold oc SO;have l:cQ S.length 32:=(by unfold cQ;omega);have f:=gz OPr.len h l (u,5,7) (⟨[],u+1⟩:Mem);rcases h with ⟨rfl,rfl⟩|⟨b,rfl⟩
 .refine⟨nilS,⟨[],u+1⟩,?_,.inl ⟨rfl,rfl⟩,rfl⟩;simp[x5e]
 .rcases f with ⟨rfl,i⟩|⟨g,i⟩
  .cases j rfl
  .refine⟨.sref (u,5,7) 0 0 S.length 4 true,(⟨[],u+1⟩:Mem).new (u,5,7) (.row (S.flatMap OPr.c) 0 false),?_,.inr ⟨g,rfl,by simp⟩,rfl⟩;simp[x5f];exact i _
def ybj(d:Nat){q:AV}{S:List OPr}(h:Rk K 4 OPr.c m q S)(C:S=[]->q=nilS)(D:S.length<=1000):∃r M,uL (aG (d+1)) Q8 [q] m=some (r,M)/\ClP m.next M r S/\M.next=m.next+1/\∀j,j≠(m.next,5,7)->M.get j=m.get j:=by
 obtain⟨u,f,H⟩:=h.frz OPr.len OPr.bG 4;obtain⟨r,L,w,J,y⟩:=x24 d H D (λh=>by rw[C h]at f;cases f;rfl) m.next;have t:[q].mapM (Go.Ix.frz m.get bL)=some [u]:=(by have q1':Go.Ix.frz m.get bL q=some u:=f;simp only[eG,fZ,q1'];rfl);rcases J with ⟨rfl,rfl⟩|⟨n,rfl,o⟩
 .obtain⟨M,g,l,e⟩:=MW (ids:=[]) t w rfl rfl (λi b=>by cases b);exact⟨_,M,g,.inl ⟨rfl,rfl⟩,by rw[l,y],λj _=>by rw[e j,aD (by simp)]⟩
 .have a:(S.flatMap OPr.c).all qA=true:=by rw[dG];intro x F;obtain⟨p,-,A⟩:=lS.mp F;simp only[OPr.c,eD,X7,or_false]at A;rcases A with rfl|rfl|rfl|rfl<;>rfl
  obtain⟨M,g,l,e⟩:=MW (ids:=[(m.next,5,7)]) t w rfl (ar o a) (λi b=>by
   rw[kQ]at b;subst b
   exact⟨bT _,_,_,o,a⟩)
  exact⟨_,M,g,.inr ⟨n,rfl,by rw[e,aH (by simp)];exact o⟩,by rw[l,y],λj E=>by rw[e j,aD (by simpa using E)]⟩
def x2l(g:aK)(Z:FHs)(u:Nat){b id l M:Id}{s v w nm:AV}{i sh:Int}{n:Nat}(hn:n<=1000)(h1:b≠id)(h2:l≠id)(hsh:-10000<=sh/\sh<=10000) :
    ∀(Q A:List OPr) (j:Nat) (m:Mem) (Y:Nat),A.length+Q.length=n->(∀p∈Q,p.f.natAbs<=1000000)->Q.length<j->m.get b=some (.row [.ptr M 0 0,s,.sref id 0 0 n 4 true,v,w] 0 false)->m.get id=some (.row ((A++Q).flatMap OPr.c) 0 false)->m.get l=some (.row [nm,I sh] 0 false) ->
    ∃e,xK g Z u j (.ptr b 0 0) (.ptr l 0 0) (I i) (I n) (I A.length) m Y=some (I 0,e)/\e.next=m.next/\e.get id=some (.row ((A++Q.map (vD i sh)).flatMap OPr.c) 0 false)/\∀j,j≠id->e.get j=m.get j:=by
 intro Q;induction Q with
 |nil=>intro A j m Y N O d P t W;obtain⟨j,rfl⟩:=dF d;have hk:¬((A.length:Int)<(n:Int)):=(by simp at N;omega);simp only[xK];unfold IE VI;simp only[bQ,hk,bK,aE,aS];exact⟨m,rfl,rfl,t,λ_ _=>rfl⟩
 |cons p Q ih=>
  intro A j m Y N O d P t W;obtain⟨j,rfl⟩:=dF d;have hln:A.length+(Q.length+1)=n:=(by simpa using N);have hk:((A.length:Int)<(n:Int)):=(by omega);have C:=iE OPr.len A;have D:(A++p::Q).flatMap OPr.c=A.flatMap OPr.c++([I p.pt,I p.a,I p.b,I p.f]++Q.flatMap OPr.c):=(by rw[xJ,dN];rfl);have y:∀o,((A++p::Q).flatMap OPr.c).drop (A.length*4+o)=([I p.pt,I p.a,I p.b,I p.f]++Q.flatMap OPr.c).drop o:=λo=>by rw[D,<-C,H1];simp
  have ix:aT 4 (.sref id 0 0 n 4 true) (I A.length)=some (.ptr id 0 (A.length*4)):=(by simp only[aT,dI];rw[aH ⟨by omega,by omega,trivial⟩];simp);have lq:aA false 1 (.ptr b 0 (1+1)) m=some (.sref id 0 0 n 4 true):=(by rw[aM P];rfl);have l2:aA false 1 (.ptr id 0 (A.length*4+2)) m=some (I p.b):=(by rw[aM t,y];rfl);have l1:aA false 1 (.ptr id 0 (A.length*4+1)) m=some (I p.a):=(by rw[aM t,y];rfl);have l3:aA false 1 (.ptr id 0 (A.length*4+3)) m=some (I p.f):=(by rw[aM t,y];rfl);have E:aA false 1 (.ptr l 0 1) m=some (I sh):=(by rw[aM W];rfl);have nb:∀j o,cA (.ptr j 0 o)=some (.ptr j 0 o):=λ_ _=>rfl
  have hpf:=O p (by simp);have w1:bM ((A.length:Int)+1)=((A.length+1:Nat):Int):=(by rw[bJ];omega);have wa:bM (p.f+sh)=p.f+sh:=bJ;have ws:bM (p.f-sh)=p.f-sh:=bJ;have F:∀(x:Int) {R:Type} (K:Mem->Option R),aZ 1 (.ptr id 0 (A.length*4+3)) (I x) m K=K (m.set id (.row (((A++[{p with f:=x}])++Q).flatMap OPr.c) 0 false)):=λx R K=>by have hc3:((A++p::Q).flatMap OPr.c).length=(A.length+(Q.length+1))*4:=(by rw[iE OPr.len,jL];rfl);rw[mA (z:=1) (x:=I x) (k:=K) t rfl (by omega) rfl,D,<-C,ZT];congr 4;rw[sB,xJ];rfl
  have next:∀(J:OPr) (h:Mem) (r:Nat),J=vD i sh p->h.get b=m.get b->h.get l=m.get l->h.next=m.next->h.get id=some (.row (((A++[J])++Q).flatMap OPr.c) 0 false)->(∀j,j≠id->h.get j=m.get j) ->
   ∃e,xK g Z u j (.ptr b 0 0) (.ptr l 0 0) (I i) (I n) (I ((A.length+1:Nat):Int)) h r=some (I 0,e)/\e.next=m.next/\e.get id=some (.row ((A++(p::Q).map (vD i sh)).flatMap OPr.c) 0 false)/\∀j,j≠id->e.get j=m.get j:=by
   intro J h r X e1 e2 e3 e4 e5;obtain⟨e,k1,k2,k3,k4⟩:=ih (A++[J]) j h r (by simp;omega) (λx hx=>O x (by simp[hx])) (by simp at d;omega) (by rw[e1];exact P) e4 (by rw[e2];exact W);rw[jL]at k1;refine⟨e,k1,by rw[k2,e3],?_,λj d=>by rw[k4 j d,e5 j d]⟩;rw[k3,sB,X];rfl
  simp only[xK];unfold IE yj IF;simp only[bQ,hk,bC,aE,aR,nb,cM,bO,lq,ix,l2,fV];by_cases H:i=p.b
  .simp only[fC H,aR,l3,E,aE,dJ,wa,F,w1];exact next {p with f:=p.f+sh} _ _ (by unfold vD;rw[aH H]) (by rw[Mem.cP,aD h1]) (by rw[Mem.cP,aD h2]) rfl (by rw[Mem.cP,aH rfl]) (λj d=>by rw[Mem.cP,aD d])
  simp only[H,bK,aS,l1,aE,fV];by_cases L:i=p.a
  .simp only[fC L,aR,l3,E,aE,mQ,ws,F,dJ,w1];exact next {p with f:=p.f-sh} _ _ (by unfold vD;rw[aD H,aH L]) (by rw[Mem.cP,aD h1]) (by rw[Mem.cP,aD h2]) rfl (by rw[Mem.cP,aH rfl]) (λj d=>by rw[Mem.cP,aD d])
  simp only[L,bK,aS,dJ,aE,w1];exact next p m _ (by unfold vD;rw[aD H,aD L]) rfl rfl rfl (by rw[sB];exact t) (λ_ _=>rfl)
def W2(X:St10)(s:List UInt8)(sh:Int):Int×St10:=
 let i:=idxQ (nmQ Scene.nm ⟨s.toArray⟩) 0 X.L
 if i<0 then(6,X)else if wi sh (-10000) 10000=false then(2,X)else(0,{X with S:=X.S.map (vD i sh)})
def x5w(d:Nat)(Z:FHs)(hK:∀j,K j->j.1<m.next)(hst:[ba,pa,ea].all aP=true){b:Id}(l:Bk K m b (SC E O ba pa ea) X)(hL:X.L.length<=1000)(hS:X.S.length<=1000)(hf:∀p∈X.S,p.f.natAbs<=1000000)(nm:List UInt8)(sh k:Int) :
    ∃u,aG (d+4) Z ES [.agg [Tx nm,I sh],.ptr b 0 0,I k] m=some (I (W2 X nm sh).1,u)/\GrP K (λj=>j=b) m u/\Bk K u b (SC E O ba pa ea) (W2 X nm sh).2:=by
 rw[x9y];unfold qq VH;obtain⟨g,n1,g1,k1,hM1⟩:=mY (x:=.agg [Tx nm,I sh]) rfl (m.next,0,3) ⟨m.hp,m.next+1⟩;have a:Gr0 K m g:=lE (wW m) (.inl (bT _)) n1 k1;have g1':g.get (m.next,0,3)=some (.row [Tx nm,I sh] 0 false):=g1;obtain⟨t,s,q,v,w,fl,r1,r2,r3,r4,r5,r6,r7,r8,r9⟩:=l.cells;have rb:∀{M:Mem},Gr0 K m M->M.get b=some (.row [.ptr t 0 0,s,q,v,w] 0 false):=λh=>by rw[(h.2 b l.2.1 (λh=>h)).2 l.1];exact r1
 have r2':=r2.gr a (λ_ h=>h.elim);have l5:aA true 5 (.ptr b 0 0) g=some (.agg [.ptr t 0 0,s,q,v,w]):=(by rw[aM (rb a)];rfl);have lq:aA false 1 (.ptr b 0 (1+1)) g=some q:=(by rw[aM (rb a)];rfl);have nb:cA (.ptr b 0 0)=some (.ptr b 0 0):=rfl;have cc:=λx=>gq d hst r2' hL x
 have H:=l.gr a (λ_ h=>h.elim) (λh=>h);have hsm:=λn m=>JQ (d+1) n (K:=10000) (by omega) m
 unfold W2;have J:=cc ⟨nm.toArray⟩;generalize idxQ (nmQ Scene.nm ⟨nm.toArray⟩) 0 X.L=i at J ⊢;simp only[hM1,nb,aE,l5,cM,bO,aM g1',bA,cZ,cE,J,bQ];by_cases c1:i<0
 .simp only[c1,bC,aR,bV];exact⟨_,rfl,a.to,H⟩
 simp only[c1,bK,aS,cJ,aE,hsm,fA];cases c2:wi sh (-10000) 10000 with
 |false=>simp only[bW,aR,bV];exact⟨_,rfl,a.to,H⟩
 |true=>
 have hsh:-10000<=sh/\sh<=10000:=(by unfold wi at c2;simpa using c2);obtain⟨r,M2,hcl,Y,n2,k2⟩:=ybj (d+2) (r7.1.gr a (λ_ _ h=>h.elim)) r7.2 hS;have y:m.next<=g.next:=a.1
 have D:Gr0 K m M2:=⟨by omega,λj C hp=>by
  have:M2.get j=g.get j:=k2 j (by rintro rfl;simp at C;omega)
  rw[this];exact a.2 j C hp⟩
 have hb2:=rb D;have N:r.cells=[r]/\r.one=true:=(by rcases Y with ⟨-,rfl⟩|⟨-,rfl,-⟩<;>exact⟨rfl,rfl⟩);have P:Rk K 4 OPr.c M2 r X.S:=by
  rcases Y with ⟨h,rfl⟩|⟨-,rfl,hg⟩
  .exact .inl ⟨rfl,h⟩
  .exact .inr (.inr ⟨(g.next,5,7),0,true,false,[],(uQ hK y (by simp)),by rw[n2];exact mL _,rfl,by rw[jX];exact hg,rfl⟩)
 have hRn:X.S=[]->r=nilS:=λh=>by
  rcases Y with ⟨-,e⟩|⟨e,-⟩
  .exact e
  .exact absurd h e
 obtain⟨M3,hM3,hB3,n3,k3,Q⟩:=Bk.put (k:=2) (v:=r) l.1 (by have:=l.2.1;omega) hb2 (by simp) N.1 N.2 ((r2.gr D (λ_ h=>h.elim)).setS P hRn);have F:GrP K (λj=>j=b) m M3:=lE D.to (.inr rfl) n3 k3;have hb3':M3.get b=some (.row [.ptr t 0 0,s,r,v,w] 0 false):=Q;have lr:aA false 1 (.ptr b 0 (1+1)) M3=some r:=(by rw[aM hb3'];rfl);have hrl:aN prog qQ r=some (I X.S.length):=P.len BP;unfold yi;simp only[cC,aS,Bool.true_eq_false,cJ,lq,aE,hcl,nb,cM,bO,hM3,lr,hrl];rcases Y with ⟨W,rfl⟩|⟨W,rfl,hg⟩
 .have hX:({X with S:=X.S.map (vD i sh)}:St10)=X:=(by cases X;simp only at W;subst W;rfl);rw[hX,W];obtain⟨NM,hNM⟩:∃NM,NN=NM+1:=⟨NN-1,by have:=cU;omega⟩;rw[hNM];simp only[xK];unfold IE VI;simp only[bQ,kF,show decide ((0:Int)<((0:Nat):Int))=false from rfl,aE,aS];exact⟨M3,rfl,F,hB3⟩
 .have o:b≠(g.next,5,7):=λh=>by have:=l.2.1;rw[h]at this;simp at this;omega
  have A:((m.next,0,3):Id)≠(g.next,5,7):=λh=>by simp[Prod.ext_iff]at h
  have R:M3.get (g.next,5,7)=some (.row (([]++X.S).flatMap OPr.c) 0 false):=(by rw[k3 _ (Ne.symm o)];exact hg);have h33:M3.get (m.next,0,3)=some (.row [Tx nm,I sh] 0 false):=(by rw[k3 _ (λh=>by have:=l.2.1;rw[<-h]at this;simp at this),k2 _ A];exact g1');obtain⟨u,e1,e2,e3,e4⟩:=x2l (aG (d+3)) Z m.next (i:=i) hS o A hsh X.S [] NN M3 (0+28+7) (by simp) hf (by rw[cU];omega) hb3' R h33;have e1':xK (aG (d+3)) Z m.next NN (.ptr b 0 0) (.ptr (m.next,0,3) 0 0) (I i) (I X.S.length) (I 0) M3 (28+7)=some (I 0,u):=e1;have hg':GrP K (λj=>j=b) m u:=⟨by rw[e2];exact F.1,λj C hp=>by rw[e4 j (by rintro rfl;simp at C;omega)];exact F.2 j C hp⟩;have hbm:u.get b=some (.row (cR [.ptr t 0 0,s,q,v,w] 2 [.sref (g.next,5,7) 0 0 X.S.length 4 true]) 0 false):=(by rw[e4 b o];exact Q);refine⟨u,e1',hg',l.1,by have:=l.2.1;have:=hg'.1;omega,_,hbm,(r2.gr hg' (λj C=>by rw[C];exact l.1)).setS ?_ (λh=>absurd (List.map_eq_nil_iff.mp h) W)⟩;exact .inr (.inr ⟨(g.next,5,7),0,true,false,[],(uQ hK y (by simp)),by rw[e2,n3,n2];exact mL _,by rw[qL],by rw[jX];exact e3,rfl⟩)
open Go.Proofs
def CU(l:List Int):(l.flatMap intE).length=l.length:=by rw[iE wT,oB]
def xeb(A B:List Int)(y:Int):((A++y::B).flatMap intE).drop A.length=I y::B.flatMap intE:=by have h:=CU A;rw[xJ,dN,<-h,List.drop_left];rfl
def CV(id:Id){n k:Nat}(a:k<n):aT 1 (.sref id 0 0 n 1 true) (I k)=some (.ptr id 0 k):=by simp only[aT,dI];rw[aH ⟨by omega,by omega,trivial⟩];simp
def xbh(d:Nat)(Z:FHs){a:Id}{x:Int}{b:Bool}(y:Int)(m:Mem)(e:m.get a=some (.row [I x] 0 b)):fI (aG (d+1)) Z 2 (.clo rQ [.ptr a 0 0]) [I y] m=some (B (decide (y=x)),⟨m.hp,m.next+1⟩):=by show aG (d+1) Z rQ ([I y]++[.ptr a 0 0]) m=_;rw[jM,iX,x90];unfold qs VK;have hg':(⟨m.hp,m.next+1⟩:Mem).get a=some (.row [I x] 0 b):=e;simp only[aM hg',bA,cE,aE,fV]
def x17(d:Nat)(Z:FHs)(u:Nat){id i7:Id}{x:Int}{i:Bool}{n:Nat}(w:n<=1000):∀(B A:List Int) (j:Nat) (m:Mem) (Y:Nat),A.length+B.length=n->B.length<j->m.get id=some (.row ((A++B).flatMap intE) 0 false)->m.get i7=some (.row [I x] 0 i) ->
    ∃q,m.next<=q/\vN (aG (d+1)) Z u j (.sref id 0 0 n 1 true) (.clo rQ [.ptr i7 0 0]) (I n) (I A.length) m Y=some (I (idxQ (λy=>decide (y=x)) A.length B),⟨m.hp,q⟩):=by
 intro B;induction B with
 |nil=>intro A j m Y b a f g;obtain⟨j,rfl⟩:=dF a;have h:¬((A.length:Int)<(n:Int)):=(by simp at b;omega);simp only[vN];unfold AR RS;simp only[bQ,h,bK,aE,aS];exact⟨m.next,bT _,rfl⟩
 |cons y B t=>
  intro A j m Y b a f g;obtain⟨j,rfl⟩:=dF a;have l:A.length+(B.length+1)=n:=(by simpa using b);have h:((A.length:Int)<(n:Int)):=(by omega);have ld:aA false 1 (.ptr id 0 A.length) m=some (I y):=(by rw[aM f,xeb];rfl);have o:bM ((A.length:Int)+1)=((A.length+1:Nat):Int):=(by rw[bJ];omega);simp only[vN];unfold AR;simp only[bQ,h,bC,aE,aR,CV id (show A.length<n by omega),ld,xbh d Z y m g,idxQ];by_cases c:y=x
  .simp only[c,bC,aR,cond_true];exact⟨m.next+1,vK _,rfl⟩
  .obtain⟨q,r,e⟩:=t (A++[y]) j ⟨m.hp,m.next+1⟩ (Y+11) (by simp;omega) (by simp at a;omega) (by rw[sB];exact f) g;have p:(((A++[y]).length:Nat):Int)=((A.length+1:Nat):Int):=(by simp);rw[p]at e;simp only[c,bK,aS,dJ,aE,o,cond_false];refine⟨q,by have:m.next+1<=q:=r;omega,?_⟩;rw[e];congr
def xmg(k:Nat):(eV iN k).all aP=true:=by rw[nB];unfold eV;rw[dG];intro a b;obtain⟨i,-,rfl⟩:=fK.mp b;show aP ([I 0].getD (i % 1) _)=true;rw[Nat.mod_one];rfl
def x2f(d:Nat)(Z:FHs)(u:Nat){id i7:Id}{x:Int}{f7:Bool}{n:Nat}(hn:n<=1000)(h7:i7≠id):∀(B F G:List Int) (j:Nat) (m:Mem) (Y:Nat),F.length+G.length+B.length=n->1<=G.length->B.length<j->m.get id=some (.row ((F++G++B).flatMap intE) 0 false)->m.get i7=some (.row [I x] 0 f7) ->
    ∃i b,Z3 (aG (d+1)) Z u j (.sref id 0 0 n 1 true) (.clo rQ [.ptr i7 0 0]) (I F.length) (I (F.length+G.length:Nat)) m Y=some (.sref id 0 0 (F++B.filter λy=>!decide (y=x)).length 1 true,i)/\b.all aP=true/\i.get id=some (.row ((F++B.filter λy=>!decide (y=x)).flatMap intE++b) 0 false)/\m.next<=i.next/\∀j,j≠id->i.get j=m.get j:=by
 intro B;induction B with
 |nil=>
  intro F G j m Y H hG f o E;obtain⟨j,rfl⟩:=dF f;have hl':F.length+G.length=n:=(by simpa using H);have J:¬(((F.length+G.length:Nat):Int)<(n:Int)):=(by omega);have g:aN prog fG (.sref id 0 0 n 1 true)=some (I n):=rfl;have s1:eP prog fG (.sref id 0 0 n 1 true) (some (I F.length)) none=some (.sref id 0 (0+(F.length:Int).toNat) (n-(F.length:Int).toNat) 1 true):=xc0 (by omega) (by omega);have s2:eP prog fG (.sref id 0 0 n 1 true) none (some (I F.length))=some (.sref id 0 0 (F.length:Int).toNat 1 true):=xqm (by omega) (by omega);have p:((F++G++[]).flatMap intE).length=n:=(by rw[CU];simp;omega);simp only[Z3];unfold SD wz;simp only[g,bQ,J,bK,aE,aS,s1,s2];have t:∀{R:Type} (K:AV->Mem->Option R),CO iN 1 (.sref id 0 (0+(F.length:Int).toNat) (n-(F.length:Int).toNat) 1 true) m K=K (.tup []) (m.set id (.row (cR ((F++G++[]).flatMap intE) (0+(F.length:Int).toNat) (eV iN ((n-(F.length:Int).toNat)*1))) 0 false)):=λK=>by simp only[CO,o];rw[aH ⟨trivial,trivial,by rw[p];simp;omega⟩]
  rw[t];generalize l:m.set id _=M;refine⟨M,eV iN ((n-(F.length:Int).toNat)*1),by simp,xmg _,?_,by rw[<-l];exact bT _,λj f=>by rw[<-l,Mem.cP,aD f]⟩;rw[<-l,Mem.cP,aH rfl];have hz:(eV iN ((n-(F.length:Int).toNat)*1)).length=n-F.length:=(by unfold eV;simp);congr 2;have L:=CU F;unfold cR;rw[lU (by rw[p,hz];simp;omega)];simp only[gA,bO,List.filter_nil,jX,xJ];rw[<-L,List.take_left]
 |cons y B ih=>
  intro F G j m Y H hG f o E;obtain⟨j,rfl⟩:=dF f;have N:F.length+G.length+(B.length+1)=n:=(by simpa using H);have J:(((F.length+G.length:Nat):Int)<(n:Int)):=(by omega);have g:aN prog fG (.sref id 0 0 n 1 true)=some (I n):=rfl;have O:(F++G).length=F.length+G.length:=(by simp);have ld:aA false 1 (.ptr id 0 (F.length+G.length)) m=some (I y):=(by rw[aM o,<-O,xeb];rfl);have w1:bM (((F.length+G.length:Nat):Int)+1)=((F.length+G.length+1:Nat):Int):=(by rw[bJ];omega);have w2:bM ((F.length:Int)+1)=((F.length+1:Nat):Int):=(by rw[bJ];omega);simp only[Z3];unfold SD wy SE;simp only[g,bQ,J,bC,aE,aR,CV id (show F.length+G.length<n by omega),ld,xbh d Z y m E,fA];by_cases c:y=x
  .obtain⟨i,b,D,A,C,e4,X⟩:=ih F (G++[y]) j ⟨m.hp,m.next+1⟩ (Y+4+9+3) (by simp;omega) (by simp) (by simp at f;omega) (by
    have:F++(G++[y])++B=F++G++y::B:=by simp
    rw[this];exact o) E
   have P:((F.length+(G++[y]).length:Nat):Int)=((F.length+G.length+1:Nat):Int):=(by simp;omega);rw[P]at D;have Q:(y::B).filter (λy=>!decide (y=x))=B.filter λy=>!decide (y=x):=by simp[c]
   rw[Q];simp only[c,bC,cC,aS,dJ,aE,w1];exact⟨i,b,D,A,C,Nat.le_of_succ_le e4,λj f=>X j f⟩
  .obtain⟨h,e,rfl⟩:∃h e,G=h::e:=by
    cases G with
    |nil=>simp at hG
    |cons a r=>exact⟨a,r,rfl⟩
   have W:(F++h::e++y::B).flatMap intE=F.flatMap intE++(I h::(e++y::B).flatMap intE):=(by rw[sB,xJ,jM,dN];rfl);have L:=CU F;have w:∀{R:Type} (K:Mem->Option R),aZ 1 (.ptr id 0 F.length) (I y) ⟨m.hp,m.next+1⟩ K=K ((⟨m.hp,m.next+1⟩:Mem).set id (.row ((F++[y]++(e++[y])++B).flatMap intE) 0 false)):=λK=>by have g1':(⟨m.hp,m.next+1⟩:Mem).get id=some (.row ((F++h::e++y::B).flatMap intE) 0 false):=o;rw[mA (z:=1) (x:=I y) (k:=K) g1' rfl (by rw[CU];simp) rfl,W];have A:(F++[y]++(e++[y])++B).flatMap intE=F.flatMap intE++(I y::(e++y::B).flatMap intE):=(by rw[show F++[y]++(e++[y])++B=F++(y::(e++y::B)) by simp,xJ];rfl);have C:cR (F.flatMap intE++(I h::(e++y::B).flatMap intE)) F.length (I y).cells=F.flatMap intE++(I y::(e++y::B).flatMap intE):=(by have:=ZT (F.flatMap intE) (I h::(e++y::B).flatMap intE) [I y] 0;rw[vL,L]at this;exact this);rw[A,C]
   generalize l:(⟨m.hp,m.next+1⟩:Mem).set id (.row ((F++[y]++(e++[y])++B).flatMap intE) 0 false)=M at w;have gM:M.get id=some (.row ((F++[y]++(e++[y])++B).flatMap intE) 0 false):=(by rw[<-l,Mem.cP,aH rfl]);have fM:∀j,j≠id->M.get j=m.get j:=λj f=>by rw[<-l,Mem.cP,aD f];rfl
   have nM:M.next=m.next+1:=(by rw[<-l];rfl);obtain⟨i,b,D,A,C,e4,X⟩:=ih (F++[y]) (e++[y]) j M (Y+4+17+3) (by simp;simp at N;omega) (by simp) (by simp at f;omega) gM (by rw[fM _ h7];exact E);have P:(((F++[y]).length+(e++[y]).length:Nat):Int)=((F.length+(h::e).length+1:Nat):Int):=(by simp;omega);have hB:(((F++[y]).length:Nat):Int)=((F.length+1:Nat):Int):=(by simp);rw[P,hB]at D;have Q:F++(y::B).filter (λy=>!decide (y=x))=F++[y]++B.filter λy=>!decide (y=x):=by simp[c]
   rw[Q];simp only[c,bK,bW,aR,CV id (show F.length<n by omega),w,dJ,aE,w1,w2];exact⟨i,b,D,A,C,by omega,λj f=>by rw[X j f,fM j f]⟩
def xg9{α:Type}(q:α->Bool):∀(l:List α),l.any q=true->∃A y B,l=A++y::B/\q y=true/\(∀a∈A,q a=false)/\∀k:Int,idxQ q k l=k+A.length
 |[],h=>by simp at h
 |x::r,h=>by
  cases d:q x with
  |true=>exact⟨[],x,r,rfl,d,λa b=>by(cases b),λk=>by rw[idxQ,d];simp⟩
  |false=>
   rw[H3,d,J4]at h;obtain⟨A,y,B,e,f,g,i⟩:=xg9 q r h;refine⟨x::A,y,B,by rw[e];rfl,f,λa b=>?_,λk=>?_⟩
   .rcases eD.mp b with rfl|b
    .exact d
    .exact g a b
   .rw[idxQ,d,cond_false,i,eI];push_cast;omega
def xow(d:Nat)(Z:FHs){id f:Id}{x:Int}{w:Bool}{L:List Int}(i:L.length<=1000)(C:f≠id)(D:(L.any λy=>decide (y=x))=true){m:Mem}(t:m.get id=some (.row (L.flatMap intE) 0 false))(u:m.get f=some (.row [I x] 0 w)) :
    ∃g b,aG (d+3) Z Q1 [.sref id 0 0 L.length 1 true,.clo rQ [.ptr f 0 0]] m=some (.sref id 0 0 (L.filter λy=>!decide (y=x)).length 1 true,g)/\b.all aP=true/\g.get id=some (.row ((L.filter λy=>!decide (y=x)).flatMap intE++b) 0 false)/\m.next<=g.next/\∀j,j≠id->g.get j=m.get j:=by
 obtain⟨A,y,B,rfl,M,N,O⟩:=xg9 _ L D;have l:y=x:=(by simpa using M);rw[x8b];unfold np SB;obtain⟨q,P,e⟩:=x17 d Z (m.next+1) (id:=id) (i7:=f) (x:=x) i (A++y::B) [] NN ⟨m.hp,m.next+1+1⟩ (0+1+3) (by simp) (by rw[cU];omega) (by rw[iX];exact t) u;have n:aG (d+2) Z B3 [.sref id 0 0 (A++y::B).length 1 true,.clo rQ [.ptr f 0 0]] ⟨m.hp,m.next+1⟩=some (I A.length,⟨m.hp,q⟩):=(by rw[xi1];unfold OJ HW RR;have h:aN prog fG (.sref id 0 0 (A++y::B).length 1 true)=some (I (A++y::B).length):=rfl;simp only[h,aE];have e':vN (aG (d+1)) Z (m.next+1) NN (.sref id 0 0 (A++y::B).length 1 true) (.clo rQ [.ptr f 0 0]) (I (A++y::B).length) (I 0) ⟨m.hp,m.next+1+1⟩ (0+1+3)=_:=e;rw[e',O];simp);have o:decide ((A.length:Int)=-1)=false:=eT (by omega);have H:A.length+(B.length+1)<=1000:=(by simpa using i);have J:bM ((A.length:Int)+1)=((A.length+[y].length:Nat):Int):=(by rw[bJ];simp);unfold wx;simp only[n,aE,fV,o,aS,dJ,J];have p:A++[y]++B=A++y::B:=(by simp);obtain⟨g,b,Q,R,W,X,Y⟩:=x2f (d+1) Z m.next (id:=id) (i7:=f) (x:=x) i C B A [y] NN ⟨m.hp,q⟩ (0+7+3) (by simp;omega) (by simp) (by rw[cU];omega) (by rw[p];exact t) u;have r:A.filter (λy=>!decide (y=x))=A:=HG.mpr λa E=>by rw[N a E];rfl
 have K:(A++y::B).filter (λy=>!decide (y=x))=A++B.filter λy=>!decide (y=x):=by rw[tT,r];simp[l]
 rw[K];exact⟨g,b,Q,R,W,by have:q<=g.next:=X;have:m.next+1+1<=q:=P;omega,λj F=>Y j F⟩
def x5g(a:List AV)(n:Nat)(x:Bool):cO prog .eql fG (.tmp 3) (.const (.slice none 0 0)) (.aQ a n x) nilS=some (B false):=by kernel_rfl
def ybk(d:Nat){q:AV}{S:List Int}(h:Rk K 1 intE m q S)(o:S≠[])(P:S.length<=1000):∃M,uL (aG (d+1)) Q7 [q] m=some (.sref (m.next,5,7) 0 0 S.length 1 true,M)/\M.get (m.next,5,7)=some (.row (S.flatMap intE) 0 false)/\M.next=m.next+1/\∀j,j≠(m.next,5,7)->M.get j=m.get j:=by
 obtain⟨l,E,t⟩:=h.frz wT U7 4;have D:[q].mapM (Go.Ix.frz m.get bL)=some [l]:=(by have q1':Go.Ix.frz m.get bL q=some l:=E;simp only[eG,fZ,q1'];rfl);have f:∃e,aG (d+1) [] Q7 [l] ⟨[],m.next⟩=some (.sref (m.next,5,7) 0 0 S.length 1 true,e)/\e.get (m.next,5,7)=some (.row (S.flatMap intE) 0 false)/\e.next=m.next+1:=by
  rw[x8j];unfold oa SN;have F:cQ S.length 8:=(by unfold cQ;omega);have g:=gz wT t F (m.next,5,7) (⟨[],m.next+1⟩:Mem);rcases t with ⟨rfl,rfl⟩|⟨b,rfl⟩
  .exact absurd rfl o
  .rcases g with ⟨rfl,y⟩|⟨O,y⟩
   .exact absurd rfl o
   .refine⟨(⟨[],m.next+1⟩:Mem).new (m.next,5,7) (.row (S.flatMap intE) 0 false),?_,by simp,rfl⟩;simp[x5g];exact y _
 obtain⟨e,H,n,J⟩:=f;have a:(S.flatMap intE).all qA=true:=by rw[dG];intro x C;obtain⟨p,-,u⟩:=lS.mp C;simp only[intE,eD,X7,or_false]at u;rw[u];rfl
 obtain⟨M,L,N,w⟩:=MW (ids:=[(m.next,5,7)]) D H rfl (ar n a) (λi r=>by
  rw[kQ]at r;subst r
  exact⟨bT _,_,_,n,a⟩)
 exact⟨M,L,by rw[w,aH (by simp)];exact n,by rw[N,J],λj A=>by rw[w j,aD (by simpa using A)]⟩
def W4(O E:Int)(W:List Bd)(J:List Pn)(X:St10)(n:List UInt8):Int×St10:=
 let i:=idxQ (nmQ Bd.nm ⟨n.toArray⟩) 0 W
 if i<0 then(6,X)else if(X.C.any λy=>decide (y=i))=false\/X1 O E W J X i.toNat=2 then(24,X)else(0,{X with C:=X.C.filter λy=>!decide (y=i)})
def xal:iN.length=1:=by rw[nB];rfl
def x5y(d:Nat)(Z:FHs)(hK:∀j,K j->j.1<m.next)(hO:SuOK E O ba pa ea W J C)(hX:XOK (d+8) X){b:Id}(P:Bk K m b (SC E O ba pa ea) X)(n:List UInt8)(k:Int) :
    ∃m',aG (d+17) Z EU [Tx n,.ptr b 0 0,I k] m=some (I (W4 O E W J X n).1,m')/\GrP K (λj=>j=b) m m'/\Bk K m' b (SC E O ba pa ea) (W4 O E W J X n).2:=by
 rw[x91];unfold qt VL;obtain⟨Y,F⟩:∃p:Mem,p=⟨m.hp,m.next+1⟩:=⟨_,rfl⟩;have e:Gr0 K m Y:=(by rw[F];exact wW m);have n0:Y.next=m.next+1:=(by rw[F]);obtain⟨H,s,q,v,w,fl,r1,r2,r3,r4,r5,r6,r7,r8,r9⟩:=P.cells;have rb:∀{M:Mem},Gr0 K m M->M.get b=some (.row [.ptr H 0 0,s,q,v,w] 0 false):=λh=>by rw[(h.2 b P.2.1 (λh=>h)).2 P.1];exact r1
 have l5:∀{M:Mem},Gr0 K m M->aA true 5 (.ptr b 0 0) M=some (.agg [.ptr H 0 0,s,q,v,w]):=λh=>by rw[aM (rb h)];rfl
 have lw:∀{M:Mem},Gr0 K m M->aA false 1 (.ptr b 0 (1+3)) M=some w:=λh=>by rw[aM (rb h)];rfl
 have nb:cA (.ptr b 0 0)=some (.ptr b 0 0):=rfl;have D:∀{M:Mem},Gr0 K m M->Bk K M b (SC E O ba pa ea) X:=λh=>P.gr h (λ_ h=>h.elim) (λh=>h)
 have cb:dZ (aG (d+16)) oO [.agg [.ptr H 0 0,s,q,v,w],Tx n] Y=some (I (idxQ (nmQ Bd.nm ⟨n.toArray⟩) 0 W),Y):=xji (d+13) hO.st (r2.gr e (λ_ h=>h.elim)) hO.b hO.bn _;rw[<-F];unfold W4;rcases zB (nmQ Bd.nm ⟨n.toArray⟩) W 0 with ⟨h0,-⟩|⟨i,h0,hi,-⟩
 .rw[h0]at cb ⊢;obtain⟨p,n1,g1,k1,N⟩:=mZ (z:=1) (cs:=iN) (x:=I (-1)) rfl rfl xal (m.next,6,7) Y;have a:Gr0 K m p:=lE e (.inl (bT _)) n1 k1;have l7:aA false 1 (.ptr (m.next,6,7) 0 0) p=some (I (-1)):=(by rw[aM g1];rfl);simp only[nb,aE,l5 e,cb,bO,N,l7,bQ,show((-1:Int)<0)from by decide,bV];exact⟨p,rfl,a.to,D a⟩
 rw[h0,HK]at cb ⊢;have hi0:¬((i:Int)<0):=(by omega);obtain⟨p,n1,g1,k1,N⟩:=mZ (z:=1) (cs:=iN) (x:=I (i:Int)) rfl rfl xal (m.next,6,7) Y;have a:Gr0 K m p:=lE e (.inl (bT _)) n1 k1;have g1':p.get (m.next,6,7)=some (.row [I (i:Int)] 0 false):=g1;have l7:aA false 1 (.ptr (m.next,6,7) 0 0) p=some (I (i:Int)):=(by rw[aM g1'];rfl);obtain⟨rc,M2,hq,hcon,n2,g2⟩:=(r9.gr a (λ_ _ h=>h.elim)).gG (Q:=λr=>r=B (X.C.any λy=>decide (y=(i:Int)))) (call:=aG (d+16)) (f:=yM) wT U7 [I (i:Int)] rfl
  λa' ha=>⟨_,rfl,λm=>xbq (d+14) ha (by have:=hX.C;omega) m⟩
 subst hq;have g:Gr0 K m M2:=a.trans g2;simp only[nb,aE,l5 e,cb,bO,N,l7,bQ,hi0,bK,aS,cJ,cM,lw a,hcon,fA,gI,dO,hJ,gA];cases c1:X.C.any λy=>decide (y=(i:Int))with
 |false=>simp only[bW,dR,cC,cS,aE,cN,bB,aR,true_or,bV];exact⟨_,rfl,g.to,D g⟩
 |true=>
 have hi7:((m.next,6,7):Id).1<p.next:=(by rw[n1,n0];exact mL _);obtain⟨f2,g2'⟩:=SimO.row (g2.2 (m.next,6,7) hi7 (λh=>h)).1 g1';have l72:aA false 1 (.ptr (m.next,6,7) 0 0) M2=some (I (i:Int)):=(by rw[aM g2'];rfl);obtain⟨va,M3,⟨ys,yo,yl,rfl,-⟩,hans,n3,g3⟩:=xjj d hO hX (r2.gr g (λ_ h=>h.elim)) hi;have hai:X1 O E W J X i=iF X.L X.S O E W[i] J:=(by unfold X1;rw[eY hi]);have o:Gr0 K m M3:=g.trans g3;have fld:M8 false 1 0 (.agg [I (iF X.L X.S O E W[i] J),ys,yo,yl])=some (I (iF X.L X.S O E W[i] J)):=rfl;simp only[cC,dR,bW,bB,aE,nb,l5 g,l72,hans,fld,fV,cN,cS,Bool.true_eq_false,false_or,hai];by_cases c2:iF X.L X.S O E W[i] J=2
 .simp only[c2,bC,aR,bV];exact⟨_,rfl,o.to,D o⟩
 have hC0:X.C≠[]:=λh=>by rw[h]at c1;cases c1
 obtain⟨M4,hcl,hr4,n4,k4⟩:=ybk (d+15) (r9.gr o (λ_ _ h=>h.elim)) hC0 (by have:=hX.C;omega);have u:((m.next,6,7):Id)≠(M3.next,5,7):=λh=>by simp[Prod.ext_iff]at h
 obtain⟨f3,g3'⟩:=SimO.row ((g2.trans g3).2 (m.next,6,7) hi7 (λh=>h)).1 g1';obtain⟨M5,rest,hdel,hrs,hr5,n5,k5⟩:=xow (d+13) Z (by have:=hX.C;omega) u c1 hr4 (by rw[k4 _ u];exact g3');have hdel':aG (d+16) Z Q1 [.sref (M3.next,5,7) 0 0 X.C.length 1 true,.clo rQ [.ptr (m.next,6,7) 0 0]] M4=_:=hdel;have A:∀j:Id,j.1<m.next->j≠(M3.next,5,7):=λj R h=>by rw[h]at R;simp at R;omega
 have t:Gr0 K m M5:=⟨by omega,λj R hp=>by rw[k5 j (A j R),k4 j (A j R)];exact o.2 j R hp⟩
 obtain⟨M6,hM6,hB6,n6,k6,-⟩:=Bk.put (k:=4) (v:=.sref (M3.next,5,7) 0 0 (X.C.filter λy=>!decide (y=(i:Int))).length 1 true) P.1 (by have:=P.2.1;have:=t.1;omega) (rb t) (by simp) rfl rfl ((r2.gr t (λ_ h=>h.elim)).setC (l:=X.C.filter λy=>!decide (y=(i:Int)))
  (.inr (.inr ⟨(M3.next,5,7),0,true,false,rest,(uQ hK (by show m.next<=M3.next;omega) (by simp)),by show M3.next<M5.next;omega,rfl,hr5,hrs⟩)))
 simp only[c2,bK,aS,cJ,lw o,aE,hcl,hdel',hM6];exact⟨M6,rfl,lE t.to (.inr rfl) n6 k6,hB6⟩
open Go.Proofs
def x16(d:aK)(Z:FHs)(u:Nat){a:AV}{l:List (List UInt8)}(h:Sl dA a l)(t:l.length<=100000)(x:List UInt8):∀(b:List (List UInt8)) (k j:Nat) (m:Mem) (Y:Nat),l.drop k=b->b.length<j ->
    H8 d Z u j a (Tx x) (I l.length) (I k) m Y=some (I (idxQ (λw=>decide (x=w)) k b),m):=by
 intro b;induction b with
 |nil=>intro k j m Y f g;obtain⟨j,rfl⟩:=dF g;have i:¬((k:Int)<(l.length:Int)):=(by have:=gX.mp f;omega);simp only[H8];unfold RO wj;simp only[bQ,i,bK,aE,aS,idxQ]
 |cons e r p=>
  intro k j m Y f g;obtain⟨j,rfl⟩:=dF g;obtain⟨i,y,n⟩:=gK f;have hk':(k:Int)<(l.length:Int):=(by omega);have ix:=h.ix nG i;have ld:aA false 1 (.aF ((l.drop k).flatMap dA)) m=some (Tx e):=(by rw[f,dN];rfl);have o:=gH k (by omega);simp only[H8];unfold RO;simp only[bQ,hk',bC,aE,aR,ix,ld,pI,idxQ];by_cases c:x=e
  .simp only[c,bC,aR,cond_true]
  .simp only[c,bK,aS,dJ,aE,o,cond_false];exact p (k+1) j m (Y+11) n (by simp at g;omega)
def xo3(d:Nat){a:AV}{l:List (List UInt8)}(h:Sl dA a l)(f:l.length<=100000)(x:List UInt8)(m:Mem):aI (aG (d+2)) Q3 [a,Tx x] m=some (B (decide (x∈l)),m):=by
 have b:∀m,aI (aG (d+1)) DR [a,Tx x] m=some (I (idxQ (λw=>decide (x=w)) 0 l),m):=λm=>by refine dT (by rw[dQ,h.bG];rfl) ?_ m;rw[x75];unfold ng RN wh;have e:=x16 (aG d) [] 0 h f x l 0 NN ⟨[],1⟩ 4 rfl (by rw[cU];omega);have e':H8 (aG d) [] 0 NN a (Tx x) (I l.length) (I 0) ⟨[],1⟩ 4=_:=e;simp only[h.len vS,aE,mem0];rw[e'];exact RetF.st rfl rfl
 refine dT (by rw[dQ,h.bG];rfl) ?_ m;rw[x8c];unfold nq SF;simp only[b,aE,vW,mem0];refine RetF.st rfl ?_;have g:=dq (λw=>decide (x=w)) l;have:(l.any λw=>decide (x=w))=decide (x∈l):=(by rw[xO,pB,lF];simp);rw[<-this,<-g]
def y6(k:List UInt8)(w:List (List UInt8)):Option Act10:=
 if k=cv then KW w else if k=cw then KX w else if k=cz then KZ w else if k=cx then KY w else if k=cy then aw w else if k=cu then av w else none
def x2y(d:Nat){k:List UInt8}{w:List (List UInt8)}{r:Int}{n:Nat}{f:FuncId}(h:kP k=some (r,n,f))(g:w.length=n)(i:∀x∈w,x.length<=100000):G5 (d+6) f w (y6 k w):=by
 unfold kP at h;unfold y6;split at h
 .rename_i c;cases h;rw[aH c];match w,g with
  |[a,b,c],_=>exact xsv d (i b (by simp)) (i c (by simp))
 rename_i j;rw[aD j];split at h
 .rename_i c;cases h;rw[aH c];match w,g with
  |[a,b,c,e],_=>exact xsu d (i e (by simp))
 rename_i l;rw[aD l];split at h
 .rename_i c;cases h;rw[aH c];match w,g with
  |[a,b],_=>exact xst d (i b (by simp))
 rename_i m;rw[aD m];split at h
 .rename_i c;cases h;rw[aH c];match w,g with
  |[a,b,c,e],_=>exact xss d (i c (by simp)) (i e (by simp))
 rename_i o;rw[aD o];split at h
 .rename_i c;cases h;rw[aH c];match w,g with
  |[a],_=>exact xsr d a
 rename_i p;rw[aD p];split at h
 .rename_i c;cases h;rw[aH c];match w,g with
  |[a],_=>exact xsq d a
 .cases h
def MP(O E:Int)(W:List Bd)(J:List Pn)(X:St10)(g:Int):Act10->Int×St10
 | .scene n d b=>V9 X n d b
 | .pair p a b f=>W0 J X p a b f
 | .corr s f=>W2 X s f
 | .level p s v e=>W1 J X g p s v e
 | .conf b=>W3 O E W J X b
 | .clos b=>W4 O E W J X b
def mH(O E:Int)(W:List Bd)(J:List Pn)(X:St10)(b:Int)(t:List UInt8):Int×St10:=
 if tM t≠0 then(tM t,X)else match kP (cG t).1 with
  |none=>(15,X)
  |some (_,n,_)=>if(cT 32 (cG t).2.1).length≠n\/[]∈cT 32 (cG t).2.1 then(7,X)else match y6 (cG t).1 (cT 32 (cG t).2.1)with
   |none=>(7,X)
   |some a=>MP O E W J X b a
def x05(n:List UInt8)(d b:Int):pZ prog (Act10.scene n d b).v "swath/office.do" = some (EN,.agg [Tx n,I d,I b]):=by kernel_rfl
def x06(p a b:List UInt8)(f:Int):pZ prog (Act10.pair p a b f).v "swath/office.do" = some (EO,.agg [Tx p,Tx a,Tx b,I f]):=by kernel_rfl
def x09(s:List UInt8)(f:Int):pZ prog (Act10.corr s f).v "swath/office.do" = some (ES,.agg [Tx s,I f]):=by kernel_rfl
def x07(p s:List UInt8)(v e:Int):pZ prog (Act10.level p s v e).v "swath/office.do" = some (EP,.agg [Tx p,Tx s,I v,I e]):=by kernel_rfl
def x08(b:List UInt8):pZ prog (Act10.conf b).v "swath/office.do" = some (ET,Tx b):=by kernel_rfl
def x04(b:List UInt8):pZ prog (Act10.clos b).v "swath/office.do" = some (EU,Tx b):=by kernel_rfl
def T9{a:aK}{Z:FHs}{rv r:AV}{f:FuncId}{b:List AV}(h:pZ prog rv "swath/office.do" = some (f,r))(m:Mem):V3 prog a Z 2 rv "swath/office.do" b m=a Z f (r::b) m:=by unfold V3;rw[h];show a Z f ((r::b)++[]) m=_;rw[jX]
def x5z(d:Nat)(Z:FHs)(l:∀j,K j->j.1<m.next)(h:SuOK E O ba pa ea W J C)(i:XOK (d+8) X){b:Id}(o:Bk K m b (SC E O ba pa ea) X)(g:Int){a:Act10}(x:∀n d b,a=.scene n d b->n.length<=1000) :
    ∃t,V3 prog (aG (d+17)) Z 2 a.v "swath/office.do" [.ptr b 0 0,I g] m=some (I (MP O E W J X g a).1,t)/\GrP K (λj=>j=b) m t/\Bk K t b (SC E O ba pa ea) (MP O E W J X g a).2:=by
 have r:X.L.length<=1000:=(by have:=i.L;omega);cases a with
 |scene n u w=>rw[T9 (x05 n u w)];exact x5t (d+13) Z l h.st o r (x n u w rfl) u w g
 |pair p a c f=>rw[T9 (x06 p a c f)];exact x5u (d+13) Z l h.st h.p h.pn o r i.S p a c f g
 |corr s f=>rw[T9 (x09 s f)];exact x5w (d+13) Z l h.st o r i.S (λp y=>by have:=i.f p y;omega) s f g
 |level p s v e=>rw[T9 (x07 p s v e)];exact x5v (d+13) Z l h.st h.p h.pn o r i.V p s v e g
 |conf n=>rw[T9 (x08 n)];exact x5x d Z l h i o n g
 |clos n=>rw[T9 (x04 n)];exact x5y d Z l h i o n g
def xex{mk:Int->Int->Act10}{N:Option (List Int)}{a:Act10}(h:yJ mk N=some a):∃d e,a=mk d e:=by
 unfold yJ at h;split at h
 .cases h;exact⟨_,_,rfl⟩
 .cases h
def xez{mk:Int->Act10}{N:Option (List Int)}{a:Act10}(h:yK mk N=some a):∃d,a=mk d:=by
 unfold yK at h;split at h
 .cases h;exact⟨_,rfl⟩
 .cases h
def xsg{k:List UInt8}{w:List (List UInt8)}{n:List UInt8}{d b:Int}(h:y6 k w=some (.scene n d b)):n∈w:=by
 unfold y6 at h;split at h
 .unfold KW at h;split at h
  .obtain⟨_,_,e⟩:=xex h;cases e;simp
  .cases h
 split at h
 .unfold KX at h;split at h
  .obtain⟨_,e⟩:=xez h;cases e
  .cases h
 split at h
 .unfold KZ at h;split at h
  .obtain⟨_,e⟩:=xez h;cases e
  .cases h
 split at h
 .unfold KY at h;split at h
  .obtain⟨_,_,e⟩:=xex h;cases e
  .cases h
 split at h
 .unfold aw at h;split at h<;>cases h
 split at h
 .unfold av at h;split at h<;>cases h
 .cases h
def xh1{k:List UInt8}{r:Int}{n:Nat}{f:FuncId}(h:kP k=some (r,n,f)):qD k=.agg [I r,I (n:Int),.clo f []]:=by unfold qD;rw[h];rfl
def xbi(d:Nat)(Z:FHs)(hK:∀j,K j->j.1<m.next)(hO:SuOK E O ba pa ea W J C)(hX:XOK (d+8) X){b:Id}(hB:Bk K m b (SC E O ba pa ea) X)(l:Int){t:List UInt8}(ht:t.length<=1000) :
    ∃Q,aG (d+18) Z wM [.ptr b 0 0,Tx t,I l] m=some (I (mH O E W J X l t).1,Q)/\GrP K (λj=>j=b) m Q/\Bk K Q b (SC E O ba pa ea) (mH O E W J X l t).2:=by
 rw[yaa];unfold rh VW;rw[show(AV.sc (.string ⟨#[32]⟩))=Tx [32]from rfl,show(AV.sc (.string ⟨#[]⟩))=Tx []from rfl];obtain⟨M0,p⟩:∃u:Mem,u=⟨m.hp,m.next+1⟩:=⟨_,rfl⟩;have o:Gr0 K m M0:=(by rw[p];exact wW m);have n0:M0.next=m.next+1:=(by rw[p]);have g:∀{M:Mem},Gr0 K m M->Bk K M b (SC E O ba pa ea) X:=λh=>hB.gr h (λ_ h=>h.elim) (λh=>h)
 rw[<-p];have y:∀m,aI (aG (d+17)) yQ [Tx t] m=some (I (tM t),m):=xbk (d+11) (by omega);have A:∀m,aI (aG (d+17)) sO [Tx t,Tx [32]] m=some (.tup [Tx (cG t).1,Tx (cG t).2.1,B (cG t).2.2],m):=JW (d+12) t (by omega);have R:∀m,aI (aG (d+17)) wI [Tx (cG t).1] m=some (.tup [qD (cG t).1,B (kP (cG t).1).isSome],m):=YV (d+16) _;unfold mH;by_cases c1:tM t=0;case neg=>simp only[y,aE,fQ,c1,bK,bW,aR,ne_eq,not_false_eq_true,bV];exact⟨_,rfl,o.to,g o⟩
 obtain⟨u,n1,g1,k1,hM1⟩:=mZ (V5 (cG t).1).2 (V5 (cG t).1).1 eo (m.next,20,11) M0;have e:Gr0 K m u:=lE o (.inl (bT _)) n1 k1;simp only[y,aE,fQ,c1,bC,cC,aS,ne_eq,not_true_eq_false,cJ,A,mB,kZ,lA,R,bO,hM1,fA];cases hk:kP (cG t).1 with
 |none=>simp only[xE,bW,aR];exact⟨_,rfl,e.to,g e⟩
 |some kk=>
 obtain⟨r,n,f⟩:=kk;have Y:=xh1 hk;rw[Y]at g1;have g1':u.get (m.next,20,11)=some (.row [I r,I (n:Int),.clo f []] 0 false):=g1;generalize hw:cT 32 (cG t).2.1=w;have D:∀x∈w,x.length<=1000:=λx P=>by have:=xim 32 (cG t).2.1 x (by rw[hw];exact P);have:=(F3 t).2;omega
 have hwn:w.length<=100000:=(by have h1:=MS 32 (cG t).2.1;have h2:=(F3 t).2;rw[hw]at h1;omega);have hsp:∀m,aI (aG (d+17)) N8 [Tx (cG t).2.1,Tx [32]] m=some (.aQ (w.flatMap dA) w.length false,m):=(by intro m;have:=xoh (d+11) 32 (s:=(cG t).2.1) (by have:=(F3 t).2;omega) m;rw[hw]at this;exact this);have F:Sl dA (.aQ (w.flatMap dA) w.length false) w:=.inr ⟨false,rfl⟩;have H:∀m,aI (aG (d+17)) Q3 [.aQ (w.flatMap dA) w.length false,Tx []] m=some (B (decide ([]∈w)),m):=λm=>xo3 (d+15) F hwn [] m
 have L:aN prog gR (.aQ (w.flatMap dA) w.length false)=some (I w.length):=F.len vS;simp only[Option.isSome_some,cC,aS,hsp,aE,L,cM,bO,aM g1',bA,cZ,cE,fQ,gI,hJ];by_cases N:w.length=n;case neg=>have c2':¬((w.length:Int)=(n:Int)):=(by omega);simp only[N,c2',bK,bW,dR,cC,cS,aE,cN,bB,aR,not_false_eq_true,true_or,bV];exact⟨_,rfl,e.to,g e⟩
 have c2':((w.length:Int)=(n:Int)):=(by omega);simp only[N]at H;simp only[N,bC,cC,dR,bW,bB,cS,H,aE,cN,not_true_eq_false,false_or];by_cases c3:[]∈w
 .simp only[c3,bC,aR,bV];exact⟨_,rfl,e.to,g e⟩
 obtain⟨M2,v,hrd,hv,he⟩:=x2y (d+11) hk N (λx P=>by have:=D x P;omega) Z u;have hrd':fI (aG (d+17)) Z 2 (.clo f []) [.aQ (w.flatMap dA) w.length false] u=some (.tup [v,B (y6 (cG t).1 w).isSome],M2):=hrd;have i:Gr0 K m M2:=e.trans he.gr;rw[N]at hrd';simp only[c3,bK,aS,cJ,aE,hrd',mB,kZ,lA,fA,aM g1',bA,cZ,cE];cases hr:y6 (cG t).1 w with
 |none=>simp only[xE,bW,aR];exact⟨_,rfl,i.to,g i⟩
 |some a=>
 have hva:=hv a hr;subst hva;obtain⟨M3,hdo,g3,hB3⟩:=x5z d Z (λj hj=>fU (hK j hj) i.1) hO hX (g i) l (a:=a) (λn d b h=>D n (xsg (h▸hr)));simp only[Option.isSome_some,cC,aS,hdo,aE];exact⟨M3,rfl,i.to.trans g3,hB3⟩
end Go.Ix
namespace Go.Ix
open Go.Proofs
variable{W:List Bd}{J:List Pn}{E O:Int}{X:St10}
structure InvX (bl:List Bd) (k:Nat) (X:St10):Prop where
 L:X.L.length<=12
 LS:X.L.length+X.S.length<=k
 S2:X.S≠[]->2<=X.L.length
 V:X.V.length<=k
 C:X.C.Nodup
 Cb:∀y∈X.C,0<=y/\y<bl.length
 f:∀p∈X.S,p.f.natAbs<=100000+10000*k
def X0:St10:=⟨[],[],[],[]⟩
def InvX.zero:InvX W 0 X0:=⟨by decide,by decide,λh=>absurd rfl h,by decide,List.nodup_nil,λy h=>(by cases h),λp h=>(by cases h)⟩
def InvX.up{k:Nat}(h:InvX W k X):InvX W (k+1) X:=⟨h.L,by have:=h.LS;omega,h.S2,by have:=h.V;omega,h.C,h.Cb,λp a=>by have:=h.f p a;omega⟩
def xzk{n:Nat}{C:List Int}(h:C.Nodup)(d:∀y∈C,0<=y/\y<(n:Int)):C.length<=n:=by
 have l:(C.map Int.toNat).Nodup:=by unfold List.Nodup at h ⊢;rw[List.pairwise_map];refine h.imp_of_mem ?_;intro a b j f g e;have:=d a j;have:=d b f;exact g (by omega)
 have m:=xzj l (n:=n) (λw i=>by
  obtain⟨y,o,rfl⟩:=fK.mp i
  have:=d y o
  omega)
 simpa using m
def InvX.ok{k D:Nat}(h:InvX W k X)(d:k<=21)(e:W.length<=11)(g:12<=D):XOK D X:=by
 have i:=h.LS;refine⟨h.L,by have:=h.L;omega,by omega,by have:=h.V;omega,by have:=xzk h.C h.Cb;omega,λj=>?_,λp b=>by have:=h.f p b;omega⟩;have:=xew X.S j;by_cases a:X.S=[]
 .rw[a];simp[ofPt]
 .have:=h.S2 a;omega
def xha{α:Type}{q:α->Bool}{l:List α}(h:0<=idxQ q 0 l):idxQ q 0 l<l.length:=by
 rcases zB q l 0 with ⟨e,-⟩|⟨i,e,a,-⟩
 .omega
 .omega
def x50{k:Nat}(h:InvX W k X)(n:List UInt8)(d b:Int):InvX W (k+1) (V9 X n d b).2:=by
 unfold V9;dsimp only
 split
 .exact h.up
 rename_i g;split
 .exact h.up
 split
 .exact h.up
 have i:=h.LS;have j:=h.L;refine⟨by simp;omega,by simp;omega,λa=>by have:=h.S2 a;simp;omega,by have:=h.V;show X.V.length<=k+1;omega,h.C,h.Cb,λp e=>by have:=h.f p e;omega⟩
def x51{k:Nat}(h:InvX W k X)(p a b:List UInt8)(f:Int):InvX W (k+1) (W0 J X p a b f).2:=by
 unfold W0;dsimp only
 split
 .exact h.up
 rename_i g;split
 .exact h.up
 rename_i i;split
 .exact h.up
 split
 .exact h.up
 rename_i e;have j:=h.LS;have m:=h.L;have n:=xha (q:=nmQ Scene.nm ⟨b.toArray⟩) (l:=X.L) (by omega);refine⟨h.L,by simp;omega,λ_=>by show 2<=X.L.length;omega,by have:=h.V;show X.V.length<=k+1;omega,h.C,h.Cb,λp d=>?_⟩;rcases jC.mp d with d|d
 .have:=h.f p d;omega
 .rw[kQ]at d;subst d;have:-100000<=f/\f<=100000:=(by unfold wi at e;simpa using e);show f.natAbs<=_;omega
def x6i(i sh:Int)(p:OPr)(Z:-10000<=sh/\sh<=10000):(vD i sh p).f.natAbs<=p.f.natAbs+10000:=by
 unfold vD;split
 .show(p.f+sh).natAbs<=_;omega
 split
 .show(p.f-sh).natAbs<=_;omega
 .omega
def x53{k:Nat}(h:InvX W k X)(s:List UInt8)(sh:Int):InvX W (k+1) (W2 X s sh).2:=by
 unfold W2;dsimp only
 split
 .exact h.up
 split
 .exact h.up
 rename_i b;have a:-10000<=sh/\sh<=10000:=(by unfold wi at b;simpa using b);have m:=h.LS;refine⟨h.L,by simp;omega,λd=>h.S2 λe=>d (by show X.S.map _=[];rw[e];rfl),by have:=h.V;show X.V.length<=k+1;omega,h.C,h.Cb,λp g=>?_⟩;obtain⟨q,l,rfl⟩:=fK.mp g;have i:=h.f q l;have j:=x6i (idxQ (nmQ Scene.nm ⟨s.toArray⟩) 0 X.L) sh q a;exact iW j (by rw[Nat.mul_succ,<-pA];exact Nat.add_le_add_right i _)
def x52{k:Nat}(h:InvX W k X)(n:Int)(p s:List UInt8)(v e:Int):InvX W (k+1) (W1 J X n p s v e).2:=by
 unfold W1;dsimp only
 split
 .exact h.up
 split
 .exact h.up
 split
 .exact h.up
 have b:=h.V;refine⟨h.L,by have:=h.LS;simp only;omega,h.S2,by simp only[jL,HC];omega,h.C,h.Cb,λp a=>by have:=h.f p a;omega⟩
def x3i(C:List Int):(iQ (λx y=>decide (x<y)) (C.length-1) C).Perm C:=
 (dl (R:=λx y=>x<=y) (λa b=>Int.le_trans a b) λi d v e=>⟨λh=>by have:=sN h;omega,λh=>by have:=of_decide_eq_false h;omega⟩).2
def x54{k:Nat}(h:InvX W k X)(n:List UInt8):InvX W (k+1) (W3 O E W J X n).2:=by
 unfold W3;dsimp only
 split
 .exact h.up
 rename_i o;split
 .exact h.up
 rename_i m;have g:=x3i (X.C++[idxQ (nmQ Bd.nm ⟨n.toArray⟩) 0 W]);rw[show(X.C++[idxQ (nmQ Bd.nm ⟨n.toArray⟩) 0 W]).length-1=X.C.length by simp]at g;have r:=xha (q:=nmQ Bd.nm ⟨n.toArray⟩) (l:=W) (by omega);refine⟨h.L,by have:=h.LS;show X.L.length+X.S.length<=k+1;omega,h.S2,by have:=h.V;show X.V.length<=k+1;omega,?_,λy d=>?_,λp g=>by have:=h.f p g;omega⟩
 .refine g.nodup_iff.mpr (zS.mpr ⟨h.C,by simp,λa j b i e=>?_⟩);rw[kQ]at i;refine m (.inl (pB.mpr ⟨a,j,?_⟩));rw[e,i];simp
 .have:=g.mem_iff.mp d;rcases jC.mp this with d|d
  .exact h.Cb y d
  .rw[kQ]at d;omega
def x55{k:Nat}(h:InvX W k X)(n:List UInt8):InvX W (k+1) (W4 O E W J X n).2:=by
 unfold W4;dsimp only
 split
 .exact h.up
 split
 .exact h.up
 exact⟨h.L,by have:=h.LS;show X.L.length+X.S.length<=k+1;omega,h.S2,by have:=h.V;show X.V.length<=k+1;omega,h.C.filter _,λy a=>h.Cb y (gW.mp a).1,λp b=>by have:=h.f p b;omega⟩
def MJ{k:Nat}(h:InvX W k X)(g:Int)(t:List UInt8):InvX W (k+1) (mH O E W J X g t).2:=by
 unfold mH;split
 .exact h.up
 split
 .exact h.up
 split
 .exact h.up
 split
 .exact h.up
 .rename_i a _;unfold MP;cases a with
  |scene n d b=>exact x50 h n d b
  |pair p a b f=>exact x51 h p a b f
  |corr s f=>exact x53 h s f
  |level p s v e=>exact x52 h g p s v e
  |conf b=>exact x54 h b
  |clos b=>exact x55 h b
def kM(O E:Int)(W:List Bd)(J:List Pn)(a:Nat):Nat->List (List UInt8)->St10->Int×St10
 |_,[],X=>(0,X)
 |k,x::r,X=>if x=[]/\k≠a then kM O E W J a (k+1) r X else if(mH O E W J X ((k+1:Nat):Int) x).1≠0 then mH O E W J X ((k+1:Nat):Int) x else kM O E W J a (k+1) r (mH O E W J X ((k+1:Nat):Int) x).2
end Go.Ix
namespace Go.Ix
open Go.Proofs
variable{K:Id->Prop}{ba pa ea:AV}{W:List Bd}{J:List Pn}{C:List Pe}{E O:Int}{m:Mem}{X:St10}{cs:List AV}
def xs2{F:List (List UInt8)}{k:Nat}(a:k<F.length):((F.flatMap dA).drop k).head?=some (Tx F[k]):=by have:=zG nG F k;rw[oB]at this;rw[this,HI a,dN];rfl
def x1z(d:Nat)(Z:FHs)(u:Nat)(hO:SuOK E O ba pa ea W J C)(M:W.length<=11){F:List (List UInt8)}(hF:F.length<=21)(N:∀x∈F,x.length<=1000){cid nb hid:Id}{n1:Nat}(hn1:n1<F.length)(i:K cid)(P:cid≠nb) :
    ∀(a:List (List UInt8)) (k j:Nat) (m:Mem) (Y:Nat) (X:St10),F.drop k=a->a.length<j->(∀j,K j->j.1<m.next)->InvX W k X->Bk K m nb (SC E O ba pa ea) X->m.get cid=some (.row (F.flatMap dA) 0 false) ->
    ∃b e,GrP K (λj=>j=nb) m b/\Bk K b nb (SC E O ba pa ea) (kM O E W J n1 k a X).2 /\
     d5 (aG (d+22)) Z u j (.ptr hid 0 0) (I (n1+1:Nat)) (.sref cid 0 0 F.length 1 true) (.ptr nb 0 0) (.sref cid 0 0 F.length 1 true) (I F.length) (I k) m Y =
      if ¬(kM O E W J n1 k a X).1=0 then some (I (kM O E W J n1 k a X).1,b)else AS (aG (d+22)) Z u (.ptr hid 0 0) (.sref cid 0 0 F.length 1 true) (.ptr nb 0 0) b e:=by
 intro a;induction a with
 |nil=>intro k j m Y X Q g n y A D;obtain⟨j,rfl⟩:=dF g;have o:¬((k:Int)<(F.length:Int)):=(by have:=gX.mp Q;omega);simp only[d5];unfold UX;simp only[bQ,o,bK,aE,aS,kM,not_true_eq_false,cJ];exact⟨m,_,.refl _ _,A,rfl⟩
 |cons x a ih=>
  intro k j m Y X Q g n y A D;obtain⟨j,rfl⟩:=dF g;obtain⟨o,he,t⟩:=gK Q;have hk':((k:Int)<(F.length:Int)):=(by omega);have hx:=xs2 o;rw[he]at hx;have ld:aA false 1 (.ptr cid 0 k) m=some (Tx x):=(by rw[aM D,xd7,hx]);have ws:bM (((n1+1:Nat):Int)-1)=(n1:Int):=(by rw[bJ];omega);have R:=gH k (by omega);have hxl:x.length<=1000:=N x (by rw[<-he];exact eX o);simp only[d5];unfold UX yf UY;rw[show(AV.sc (.string ⟨#[]⟩))=Tx []from rfl];simp only[bQ,hk',bC,aE,aR,CV cid o,ld,pI,gI,dO];have p:¬(x=[]/\k≠n1)->∃b e,GrP K (λj=>j=nb) m b/\Bk K b nb (SC E O ba pa ea) (kM O E W J n1 k (x::a) X).2 /\
   ((aG (d+22) Z wM [.ptr nb 0 0,Tx x,I ((k+1:Nat):Int)] m).bind λf=>(eC f.1 (I 0)).bind λl=>aL l (some (f.1,f.2)) (d5 (aG (d+22)) Z u j (.ptr hid 0 0) (I (n1+1:Nat)) (.sref cid 0 0 F.length 1 true) (.ptr nb 0 0) (.sref cid 0 0 F.length 1 true) (I F.length) (I ((k+1:Nat):Int)) f.2 (Y+1+20+2))) =
   if ¬(kM O E W J n1 k (x::a) X).1=0 then some (I (kM O E W J n1 k (x::a) X).1,b)else AS (aG (d+22)) Z u (.ptr hid 0 0) (.sref cid 0 0 F.length 1 true) (.ptr nb 0 0) b e:=by
   intro hc;obtain⟨H,e1,L,e3⟩:=xbi (d+4) Z n hO (y.ok (by omega) M (by omega:12<=d+4+8)) A ((k+1:Nat):Int) hxl;have e1':aG (d+22) Z wM [.ptr nb 0 0,Tx x,I ((k+1:Nat):Int)] m=some (I (mH O E W J X ((k+1:Nat):Int) x).1,H):=e1;have hr:kM O E W J n1 k (x::a) X=if(mH O E W J X ((k+1:Nat):Int) x).1≠0 then mH O E W J X ((k+1:Nat):Int) x else kM O E W J n1 (k+1) a (mH O E W J X ((k+1:Nat):Int) x).2:=by rw[kM,aD hc]
   have r:=MJ (O:=O) (E:=E) (J:=J) y ((k+1:Nat):Int) x;simp only[e1',aE,fQ];rw[hr];generalize mH O E W J X ((k+1:Nat):Int) x=q at *
   by_cases c:q.1=0
   .simp only[c,bC,cC,aS,ne_eq,not_true_eq_false,cJ];have gc:H.get cid=some (.row (F.flatMap dA) 0 false):=(by rw[(L.2 cid (n cid i) P).2 (.inr (.inr (.inr i)))];exact D);obtain⟨b,e,f1,f2,f3⟩:=ih (k+1) j H (Y+1+20+2) q.2 t (by simp at g;omega) (λj g=>fU (n j g) L.1) r e3 gc;exact⟨b,e,L.trans f1,f2,f3⟩
   .simp only[c,bK,bW,aR,ne_eq,not_false_eq_true,bV];exact⟨H,0,L,e3,rfl⟩
  by_cases w:x=[]
  .by_cases c2:k=n1
   .have c2':((k:Int)=(n1:Int)):=(by omega);simp only[fC w,gD,bB,aE,mQ,ws,fQ,fC c2',cC,cN,aS,dJ,R];exact p (λh=>h.2 c2)
   .have c2':¬((k:Int)=(n1:Int)):=(by omega);simp only[fC w,gD,bB,aE,mQ,ws,fQ,eT c2',bW,cN,aR,dJ,R];have hr:kM O E W J n1 k (x::a) X=kM O E W J n1 (k+1) a X:=(by rw[kM,aH ⟨w,c2⟩]);rw[hr];exact ih (k+1) j m _ X t (by simp at g;omega) n y.up A D
  .simp only[eT w,gD,cS,aE,cN,aS,dJ,R];exact p (λh=>w h.1)
def xzb{K L:Id->Prop}(h:∀j,L j->K j){j:Id}(b:uR K j):uR L j:=⟨λa=>b.1 (by
 rcases a with a|a|a|a
 .exact .inl a
 .exact .inr (.inl a)
 .exact .inr (.inr (.inl a))
 .exact .inr (.inr (.inr (h j a)))),b.2⟩
def Rk.pJ{K L:Id->Prop}(h:∀j,L j->K j){α:Type}{z:Nat}{d:α->List AV}{a:AV}{l:List α}(e:Rk K z d m a l):Rk L z d m a l:=by
 rcases e with h1|h1|⟨id,ver,x,b,rest,h1,h2⟩
 .exact .inl h1
 .exact .inr (.inl h1)
 .exact .inr (.inr ⟨id,ver,x,b,rest,xzb h h1,h2⟩)
def Bc.pJ{K L:Id->Prop}(h:∀j,L j->K j){P:List AV}(e:Bc K m P X cs):Bc L m P X cs:=by obtain⟨a,s,p,v,c,f,i,l,b,n,o,d,r,t⟩:=e.ex;exact⟨a,s,p,v,c,f,i,l,⟨b.1,λg=>b.2 (h a g)⟩,n,o.pJ h,⟨d.1.pJ h,d.2⟩,r.pJ h,t.pJ h⟩
def SpK(K:Id->Prop)(m:Mem)(P:List AV)(a:Id):Prop:=a.1<m.next/\(a.2.2=2/\¬K a)/\∃f,m.get a=some (.row P 0 f)
def SpK.gr{Q:Id->Prop}{m d:Mem}{P:List AV}{a:Id}(h:SpK K m P a)(g:GrP K Q m d)(n:∀j,Q j->oR K j):SpK K d P a:=by
 obtain⟨i,b,f,r⟩:=h;have p:¬Q a:=λo=>by have:=n a o;rcases this with h|h|h|h<;>first|exact b.2 h|(have:=b.1;omega)
 obtain⟨t,e⟩:=SimO.row (g.2 a i p).1 r;exact⟨fU i g.1,b,t,e⟩
theorem ZR(x:List UInt8):(dA x).all aP=true:=rfl
def Hk(K:Id->Prop)(m:Mem)(a:Id)(P:List AV)(F:List (List UInt8))(X:St10):Prop:=
 oR K a/\a.1<m.next/\∃b d e,m.get a=some (.row (.ptr b 0 0::d::e) 0 false)/\SpK K m P b/\Rk K 1 dA m d F/\Bc K m P X e
def Hk.gr{Q:Id->Prop}{m g:Mem}{P:List AV}{a:Id}{F:List (List UInt8)}(h:Hk K m a P F X)(b:GrP K Q m g)(d:∀j,Q j->oR K j)(o:¬Q a):Hk K g a P F X:=by obtain⟨i,n,e,t,u,w,x,y,A⟩:=h;exact⟨i,fU n b.1,e,t,u,by rw[(b.2 a n o).2 i];exact w,x.gr b d,y.gr b (λj p r=>p.1 (d j r)),A.gr b d⟩
def xao:cW BH []=some (.agg [nilS,nilS,nilS,nilS]):=by kernel_rfl
def xaq(a:Id):cW jY [(0,1,.ptr a 0 0),(1,4,.agg [nilS,nilS,nilS,nilS])]=some (.agg [.ptr a 0 0,nilS,nilS,nilS,nilS]):=by kernel_rfl
def xam:jY.length=5:=by kernel_rfl
def SpK.book0{P:List AV}{a:Id}(h:SpK K m P a):Bc K m P X0 [.ptr a 0 0,nilS,nilS,nilS,nilS]:=by obtain⟨b,d,f,e⟩:=h;exact⟨a,nilS,nilS,nilS,nilS,f,rfl,b,d,e,.inl ⟨rfl,rfl⟩,⟨.inl ⟨rfl,rfl⟩,λ_=>rfl⟩,.inl ⟨rfl,rfl⟩,.inl ⟨rfl,rfl⟩⟩
def x5d(a:List AV)(n:Nat)(x:Bool):cO prog .eql gR (.tmp 3) (.const (.slice none 0 0)) (.aQ a n x) nilS=some (B false):=by kernel_rfl
def ybi(d:Nat){q:AV}{S:List (List UInt8)}(h:Rk K 1 dA m q S)(o:S≠[])(P:S.length<=1000):∃M,uL (aG (d+1)) Q6 [q] m=some (.sref (m.next,5,7) 0 0 S.length 1 true,M)/\M.get (m.next,5,7)=some (.row (S.flatMap dA) 0 false)/\M.next=m.next+1/\∀j,j≠(m.next,5,7)->M.get j=m.get j:=by
 obtain⟨l,E,t⟩:=h.frz nG ZR 4;have D:[q].mapM (Go.Ix.frz m.get bL)=some [l]:=(by have q1':Go.Ix.frz m.get bL q=some l:=E;simp only[eG,fZ,q1'];rfl);have f:∃e,aG (d+1) [] Q6 [l] ⟨[],m.next⟩=some (.sref (m.next,5,7) 0 0 S.length 1 true,e)/\e.get (m.next,5,7)=some (.row (S.flatMap dA) 0 false)/\e.next=m.next+1:=by
  rw[x8i];unfold nz SL;have F:cQ S.length 16:=(by unfold cQ;omega);have g:=gz nG t F (m.next,5,7) (⟨[],m.next+1⟩:Mem);rcases t with ⟨rfl,rfl⟩|⟨b,rfl⟩
  .exact absurd rfl o
  .rcases g with ⟨rfl,y⟩|⟨O,y⟩
   .exact absurd rfl o
   .refine⟨(⟨[],m.next+1⟩:Mem).new (m.next,5,7) (.row (S.flatMap dA) 0 false),?_,by simp,rfl⟩;simp[x5d];exact y _
 obtain⟨e,H,n,J⟩:=f;have a:(S.flatMap dA).all qA=true:=by rw[dG];intro x C;obtain⟨p,-,u⟩:=lS.mp C;simp only[dA,eD,X7,or_false]at u;rw[u];rfl
 obtain⟨M,L,N,w⟩:=MW (ids:=[(m.next,5,7)]) D H rfl (ar n a) (λi r=>by
  rw[kQ]at r;subst r
  exact⟨bT _,_,_,n,a⟩)
 exact⟨M,L,by rw[w,aH (by simp)];exact n,by rw[N,J],λj A=>by rw[w j,aD (by simpa using A)]⟩
def pY:List UInt8:=[102,105,120,32]
def xou(d:Nat)(l:List UInt8)(m:Mem):aI (aG (d+2)) N9 [Tx l,Tx pY] m=some (B (decide (l.take 4=pY)),m):=by
 have f:∀m,aI (aG (d+1)) C6 [Tx l,Tx pY] m=some (B (decide (l.take 4=pY)),m):=λm=>by
  refine dT rfl ?_ m;rw[xjc];unfold OU IP;have a:fL (Tx pY)=some (I 4):=nD pY;simp only[nD l,a,aE,vW,mem0,gI,dO];by_cases c:4<=l.length
  .have c':((l.length:Int) ≥ 4):=(by omega);have b:eP prog cF (Tx l) none (some (I 4))=some (Tx (l.take 4)):=JN (hi:=4) c;simp only[fC c',gD,bB,aE,a,b,pI,cN];exact RetF.st rfl rfl
  .have c':¬((l.length:Int) ≥ 4):=(by omega);have e:l.take 4≠pY:=λh=>by have:=congrArg List.length h;simp[pY]at this;omega
   simp only[eT c',gD,cS,aE,cN];exact RetF.st rfl (by rw[eT e])
 refine dT rfl ?_ m;rw[x67];unfold km PJ;simp only[mem0,f,aE];exact RetF.st rfl rfl
open Go.Proofs
def xrr{p q:AV}(h:aB 0 p=some q):q=p:=by cases p<;>simp[aB]at h<;>exact h.symm
def Rk.cellT{a:AV}{l:List (List UInt8)}(h:Rk K 1 dA m a l){k:Nat}(d:k<l.length):∃p,aT 1 a (I k)=some p/\aA false 1 p m=some (Tx l[k]):=by obtain⟨p,e,f⟩:=h.cell nG d;obtain⟨i,g,b⟩:=f 0 (by omega);rw[xrr g]at b;exact⟨p,e,b⟩
def xqh{F:List (List UInt8)}{k:Nat}(b:k<F.length)(x:List UInt8):cR (F.flatMap dA) k [Tx x]=(F.set k x).flatMap dA:=by
 have e:=jf (l:=F) (i:=k) (a:=x);rw[aH b]at e;have d:F=F.take k++F[k]::F.drop (k+1):=(by rw[List.getElem_cons_drop,G7]);have f:((F.take k).flatMap dA).length=k:=(by rw[iE nG,oB,xH];omega);rw[e];conv=>lhs;rw[d]
 rw[xJ,xJ,dN,dN];have:=ZT ((F.take k).flatMap dA) (dA F[k]++(F.drop (k+1)).flatMap dA) [Tx x] 0;rw[f]at this;exact this
def yb6(A:aK)(Z:FHs)(u Y:Nat){b nb a:Id}{P:List AV}{F F':List (List UInt8)}{X':St10}(hn:nb.2.2=11)(hc:a.2.2=7)(hh:b.2.2=8)(hF:F'.length<=100)(hcl:a.1<m.next)(hKc:¬K a)(hH:Hk K m b P F X)(hB:Bk K m nb P X')(g1:m.get a=some (.row (F'.flatMap dA) 0 false))(hne:∀i,F≠F->i=0) :
    ∃D,AS A Z u (.ptr b 0 0) (.sref a 0 0 F'.length 1 true) (.ptr nb 0 0) m Y=some (I 0,D)/\D.next=m.next/\(∀j,j≠b->j≠a->D.get j=m.get j)/\∃d J g,m.get b=some (.row (.ptr d 0 0::J::g) 0 false)/\∃f,m.get nb=some (.row f 0 false)/\D.get b=some (.row (.ptr d 0 0::.sref a 1 0 (F'.length+1) 1 true::f) 0 false)/\D.get a=some (.row ((F'++[[]]).flatMap dA) 1 false):=by
 obtain⟨h1,h2,d,J,g,h3,h4,h5,h6⟩:=hH;obtain⟨f,c1,c2,c3,c4,c5⟩:=hB.ld;have hcs:g.length=5:=(by obtain⟨_,_,_,_,_,_,e,-⟩:=h6.ex;rw[e];rfl);have t:a≠b:=λh=>by rw[h]at hc;omega
 have w:a≠nb:=λh=>by rw[h]at hc;omega
 have hhn:b≠nb:=λh=>by rw[h]at hh;omega
 unfold AS;rw[show(AV.sc (.string ⟨#[]⟩))=Tx []from rfl];have E:∀{R:Type} (id:Id) (K:AV->Mem->Option R),dC lW [(0,1,Tx [])] 1 1 id m K=K (.aQ [Tx []] 1 true) m:=λid K=>by rw[XZ];rfl
 have M:elems m.get 1 (.aQ [Tx []] 1 true)=some ([Tx []],1):=rfl;have hfl:(F'.flatMap dA).length=F'.length:=(by rw[iE nG,oB]);have n:∀{R:Type} (id:Id) (K:AV->Mem->Option R),cX 1 16 id (some ([Tx []],1)) (.sref a 0 0 F'.length 1 true) m K=K (.sref a 1 0 (F'.length+1) 1 true) (m.set a (.row ((F'++[[]]).flatMap dA) 1 false)):=λid K=>by simp only[cX,g1];rw[aH ⟨trivial,trivial,by omega,by unfold cQ;omega⟩,aD (by omega),aD (by omega)];rw[bA,oB,dU (by omega),xJ];rfl
 generalize y:m.set a (.row ((F'++[[]]).flatMap dA) 1 false)=r at n;have N:∀j,j≠a->r.get j=m.get j:=λj hj=>by rw[<-y,Mem.cP,aD hj]
 have O:r.get a=some (.row ((F'++[[]]).flatMap dA) 1 false):=(by rw[<-y,Mem.cP,aH rfl]);have Q:r.get b=some (.row (.ptr d 0 0::J::g) 0 false):=(by rw[N _ (Ne.symm t)];exact h3);have W:aA true 5 (.ptr nb 0 0) r=some (.agg f):=(by have:r.get nb=some (.row f 0 false):=(by rw[N _ (Ne.symm w)];exact c1);rw[aM this];rw[aM c1]at c5;exact c5);have nbn:∀j o,cA (.ptr j 0 o)=some (.ptr j 0 o):=λ_ _=>rfl
 have p:∀{R:Type} (K:Mem->Option R),aZ 1 (.ptr b 0 1) (.sref a 1 0 (F'.length+1) 1 true) r K=K (r.set b (.row (.ptr d 0 0::.sref a 1 0 (F'.length+1) 1 true::g) 0 false)):=λK=>by rw[mA (z:=1) Q rfl (by simp) rfl];rfl
 generalize l:r.set b (.row (.ptr d 0 0::.sref a 1 0 (F'.length+1) 1 true::g) 0 false)=M2 at p;have gh2:M2.get b=some (.row (.ptr d 0 0::.sref a 1 0 (F'.length+1) 1 true::g) 0 false):=(by rw[<-l,Mem.cP,aH rfl]);have H:∀{R:Type} (K:Mem->Option R),aZ 5 (.ptr b 0 2) (.agg f) M2 K=K (M2.set b (.row (.ptr d 0 0::.sref a 1 0 (F'.length+1) 1 true::f) 0 false)):=λK=>by rw[mA (z:=5) (x:=.agg f) gh2 c3 (by simp;omega) c4];congr 3;show cR (AV.ptr d 0 0::.sref a 1 0 (F'.length+1) 1 true::g) 2 f=_;unfold cR;rw[lU (by simp;omega)];simp
 have a1:∀i:Id,i.2.2=106->aY (some [],some [i]) (tR (.ptr nb 0 0))=true:=λi hi=>by
  have:i≠nb:=λh=>by rw[h]at hi;omega
  simp[aY,tR,kX,Ne.symm this]
 have a2:∀i:Id,aY (tX (.aQ [Tx []] 1 true),tA i (.sref a 1 0 (F'.length+1) 1 true)) (tR (.ptr nb 0 0))=true:=λi=>by simp[aY,tR,tX,tA,kX,Ne.symm w]
 have a3:∀i:Id,aY (tX (.aQ [Tx []] 1 true),tA i (.sref a 0 0 F'.length 1 true)) (tR (.ptr nb 0 0))=true:=λi=>by simp[aY,tR,tX,tA,kX,Ne.symm w]
 simp only[E,M,n,W,aE,nbn,cM,bO,p,H,a1 (u,Y+3,106) rfl,a3,gC,bB];refine⟨_,rfl,by rw[<-l,<-y];rfl,λj C L=>by rw[Mem.cP,aD C,<-l,Mem.cP,aD C];exact N j L,d,J,g,h3,f,c1,by rw[Mem.cP,aH rfl],by rw[Mem.cP,aD t,<-l,Mem.cP,aD t];exact O⟩
open Go.Proofs
def F4(O E:Int)(W:List Bd)(J:List Pn)(F:List (List UInt8))(X:St10)(a:List UInt8):Int×List (List UInt8)×St10:=
 match mS (cG a).1 9 with
 |none=>(7,F,X)
 |some n=>if(cG a).2.2=false\/(cG a).2.1=[]then(7,F,X)else if ¬(1<=n/\n<=F.length)then(6,F,X)else
  if F.getD (n.toNat-1) []=[]\/(cG a).2.1.take 4=pY\/(cG a).2.1=wQ then(15,F,X)else
   if(kM O E W J (n.toNat-1) 0 (F.set (n.toNat-1) (cG a).2.1) X0).1≠0 then((kM O E W J (n.toNat-1) 0 (F.set (n.toNat-1) (cG a).2.1) X0).1,F,X)else
    (0,F.set (n.toNat-1) (cG a).2.1++[[]],(kM O E W J (n.toNat-1) 0 (F.set (n.toNat-1) (cG a).2.1) X0).2)
def xod(d:Nat)(Z:FHs)(hK:∀j,K j->j.1<m.next)(hO:SuOK E O ba pa ea W J C)(hbl:W.length<=11){i:Id}{F:List (List UInt8)}(hh:i.2.2=8)(hH:Hk K m i (SC E O ba pa ea) F X)(hF:F.length<=21)(hFt:∀x∈F,x.length<=1000){rest:List UInt8}(hr:rest.length<=1000) :
    ∃m',aG (d+23) Z R5 [.ptr i 0 0,Tx rest] m=some (I (F4 O E W J F X rest).1,m')/\GrP K (λj=>j=i) m m'/\Hk K m' i (SC E O ba pa ea) (F4 O E W J F X rest).2.1 (F4 O E W J F X rest).2.2:=by
 rw[x9q];unfold qh UW;rw[show(AV.sc (.string ⟨#[32]⟩))=Tx [32]from rfl,show(AV.sc (.string ⟨#[]⟩))=Tx []from rfl,show(AV.sc (.string ⟨#[102,105,120,32]⟩))=Tx pY from rfl,show(AV.sc (.string ⟨#[102,105,120]⟩))=Tx wQ from rfl];obtain⟨y,hM1⟩:∃y:Mem,y=⟨m.hp,m.next+1⟩:=⟨_,rfl⟩;have r:Gr0 K m y:=(by rw[hM1];exact wW m);have n1:y.next=m.next+1:=(by rw[hM1]);rw[<-hM1];have hgr:∀{M:Mem},Gr0 K m M->Hk K M i (SC E O ba pa ea) F X:=λh=>hH.gr h (λ_ h=>h.elim) (λh=>h)
 have hH':=hH;obtain⟨hh1,hh2,N,fv,cs,hh3,hh4,hh5,hh6⟩:=hH';have rb:∀{M:Mem},Gr0 K m M->M.get i=some (.row (.ptr N 0 0::fv::cs) 0 false):=λh=>by rw[(h.2 i hh2 (λh=>h)).2 hh1];exact hh3
 have lf:∀{M:Mem},Gr0 K m M->aA false 1 (.ptr i 0 1) M=some fv:=λh=>by rw[aM (rb h)];rfl
 have ls:∀{M:Mem},Gr0 K m M->aA false 1 (.ptr i 0 0) M=some (.ptr N 0 0):=λh=>by rw[aM (rb h)];rfl
 have nb0:cA (.ptr i 0 0)=some (.ptr i 0 0):=rfl;have hcut:∀m,aI (aG (d+22)) sO [Tx rest,Tx [32]] m=some (.tup [Tx (cG rest).1,Tx (cG rest).2.1,B (cG rest).2.2],m):=JW (d+17) rest (by omega);have hcl:=F3 rest;obtain⟨n,hnc,hnv⟩:=xbd (d+18) (w:=(cG rest).1) (by omega) y;have hnc':aI (aG (d+22)) yP [Tx (cG rest).1] y=some (.tup [I n,B (mS (cG rest).1 9).isSome],y):=hnc;unfold F4;generalize hw:(cG rest).1=w at *
 generalize ht:(cG rest).2.1=t at *
 generalize hb:(cG rest).2.2=bk at *
 simp only[hcut,aE,mB,kZ,lA,hnc',fA,gI,dO,hJ];have l:∀e:Int,∃m',some (I e,y)=some (I e,m')/\GrP K (λj=>j=i) m m'/\Hk K m' i (SC E O ba pa ea) F X:=λe=>⟨y,rfl,r.to,hgr r⟩
 cases hn:mS w 9 with
 |none=>
  cases bk with
  |false=>simp only[bW,dR,cC,cS,aE,cN,bB,aR];exact l 7
  |true=>simp only[cC,dR,bW,bB,xE,fA,aE,cN,cS,aR];exact l 7
 |some k=>
 obtain rfl:=hnv k hn;cases bk with
 |false=>simp only[bW,dR,cC,cS,aE,cN,bB,aR,true_or,bV];exact l 7
 |true=>
 simp only[cC,dR,bW,bB,Option.isSome_some,fA,aE,cN,cS,pI,Bool.true_eq_false,false_or];by_cases c1:t=[]
 .simp only[fC c1,aR,aH c1];exact l 7
 have hfl:aN prog gR fv=some (I F.length):=(hh5.gr r (λ_ _ h=>h.elim)).len vS;have hwi:=λa b c m=>uA (d+21) a b c m
 simp only[eT c1,aS,aD c1,nb0,cM,bO,lf r,hfl,hwi,aE,fA];by_cases c2:1<=n/\n<=F.length;case neg=>have c2':wi n 1 F.length=false:=(by unfold wi;exact eT c2);simp only[c2',bW,aR,aH c2];exact l 6
 have c2':wi n 1 F.length=true:=(by unfold wi;exact fC c2);obtain⟨g,hn1'⟩:∃q:Nat,q=n.toNat-1:=⟨_,rfl⟩;have hk:g<F.length:=(by omega);have hnn:n=((g+1:Nat):Int):=(by omega);have ws:bM (n-1)=(g:Int):=(by rw[bJ];omega);obtain⟨p,p1,p2⟩:=(hh5.gr r (λ_ _ h=>h.elim)).cellT hk;have hgd:F.getD g []=F[g]:=(by rw[eU,eY hk];rfl);have A:∀m,aI (aG (d+22)) N9 [Tx t,Tx pY] m=some (B (decide (t.take 4=pY)),m):=xou (d+20) t;rw[aD (λh=>h c2),<-hn1',hgd];simp only[c2',cC,aS,aE,mQ,ws,p1,p2,pI];by_cases c3:F[g]=[]
 .simp only[fC c3,dR,cC,cS,aE,cN,bB,aR,aH (Or.inl c3)];exact l 15
 by_cases c4:t.take 4=pY
 .simp only[eT c3,dR,bW,cC,cS,A,fC c4,aE,cN,bB,aR,aH (Or.inr (Or.inl c4))];exact l 15
 by_cases c5:t=wQ
 .simp only[eT c3,dR,bW,cS,A,eT c4,aE,cN,bB,pI,fC c5,aR,aH (Or.inr (Or.inr c5))];exact l 15
 simp only[eT c3,dR,bW,cS,A,eT c4,aE,cN,bB,pI,eT c5,aS];rw[aD (by rintro(h|h|h);exact c3 h;exact c4 h;exact c5 h)];have hFne:F≠[]:=λh=>by rw[h]at hk;simp at hk
 obtain⟨M2,hcl2,g2,n2,k2⟩:=ybi (d+21) (hh5.gr r (λ_ _ h=>h.elim)) hFne (by omega);generalize hcid:((y.next,5,7):Id)=f at *
 have hc1:f.1=m.next+1:=(by rw[<-hcid];exact n1);have D:f.2.2=7:=(by rw[<-hcid]);have hjc:∀j:Id,j.1<m.next->j≠f:=λj o h=>by rw[h,hc1]at o;omega
 have hFs:(F.set g t).length=F.length:=mN;have hst:∀{R:Type} (K:Mem->Option R),aZ 1 (.ptr f 0 g) (Tx t) M2 K=K (M2.set f (.row ((F.set g t).flatMap dA) 0 false)):=λK=>by rw[mA (z:=1) (x:=Tx t) g2 rfl (by rw[iE nG];omega) rfl];congr 3;exact xqh hk t
 generalize hM3:M2.set f (.row ((F.set g t).flatMap dA) 0 false)=M3 at hst;have f3:∀j,j≠f->M3.get j=y.get j:=λj o=>by rw[<-hM3,Mem.cP,aD o];exact k2 j o
 have g3:M3.get f=some (.row ((F.set g t).flatMap dA) 0 false):=(by rw[<-hM3,Mem.cP,aH rfl]);have n3:M3.next=m.next+2:=(by rw[<-hM3];show M2.next=_;rw[n2,n1]);have gr3:Gr0 K m M3:=⟨by omega,λj o Y=>by rw[f3 j (hjc j o)];exact r.2 j o Y⟩;obtain⟨M4,n4,g4,k4,hM4⟩:=mZ (z:=5) (cs:=jY) (x:=.agg [.ptr N 0 0,nilS,nilS,nilS,nilS]) rfl rfl xam (m.next,73,11) M3;have P:Gr0 K m M4:=lE gr3 (.inl (bT _)) n4 k4;have hKm:∀j,K j->(λj=>K j\/j=f) j:=λj h=>.inl h
 have H:=hh4.gr P (λ_ h=>h.elim)
 have hsp':SpK (λj=>K j\/j=f) M4 (SC E O ba pa ea) N:=⟨H.1,⟨H.2.1.1,λh=>by
  rcases h with h|h
  .exact H.2.1.2 h
  .have:=H.2.1.1;rw[h,D]at this;omega⟩,H.2.2⟩
 have hB4:Bk (λj=>K j\/j=f) M4 (m.next,73,11) (SC E O ba pa ea) X0:=⟨.inr (.inl rfl),by show m.next<M4.next;omega,_,g4,hsp'.book0⟩;have L:f≠(m.next,73,11):=λh=>by rw[h]at D;simp at D
 have gc4:M4.get f=some (.row ((F.set g t).flatMap dA) 0 false):=by rw[k4 _ L];exact g3
 obtain⟨m5,fc',r1,r2,r3⟩:=x1z d Z m.next (K:=λj=>K j\/j=f) hO hbl (F:=F.set g t) (by omega) (λx hx=>by
  rcases xku hx with hx|rfl
  .exact hFt x hx
  .omega) (cid:=f) (nb:=(m.next,73,11)) (hid:=i) (n1:=g) (by omega) (.inr rfl) L (F.set g t) 0 NN M4 (75+3) X0 rfl (by rw[cU];omega) (λj o=>by
   rcases o with o|rfl
   .have:=hK j o;omega
   .omega) InvX.zero hB4 gc4
 have hlen2:aN prog gR (.sref f 0 0 F.length 1 true)=some (I F.length):=rfl;have hix:aT 1 (.sref f 0 0 F.length 1 true) (I (g:Int))=some (.ptr f 0 g):=CV f hk;unfold ye;simp only[lf r,hcl2,aE,hix,hst,ls gr3,xao,xaq,hM4,hlen2];rw[hFs]at r3;rw[<-hnn]at r3;have r3':d5 (aG (d+22)) Z m.next NN (.ptr i 0 0) (I n) (.sref f 0 0 F.length 1 true) (.ptr (m.next,73,11) 0 0) (.sref f 0 0 F.length 1 true) (I F.length) (I 0) M4 (75+3)=_:=r3;have r1':GrP K (λj=>j=(m.next,73,11)) M4 m5:=r1.pJ hKm
 have u:Gr0 K m m5:=⟨iW P.1 r1'.1,λj o Y=>by
  have h1:=P.2 j o Y
  have h2:=r1'.2 j (fU o P.1) (by rintro rfl;simp at o)
  exact⟨h1.1.trans h2.1,λhb=>by rw[h2.2 hb,h1.2 hb]⟩⟩
 generalize hq:kM O E W J g 0 (F.set g t) X0=q at *
 by_cases c6:q.1=0;case neg=>rw[aH c6]at r3';rw[aH c6];exact⟨m5,r3',u.to,hgr u⟩
 rw[aD (λh=>h c6)]at r3';rw[aD (λh=>h c6)];have hKc:¬K f:=λh=>by have:=hK f h;omega
 have gc5:m5.get f=some (.row ((F.set g t).flatMap dA) 0 false):=(by rw[(r1.2 f (by omega) L).2 (.inr (.inr (.inr (.inr rfl))))];exact gc4);have hB5:Bk K m5 (m.next,73,11) (SC E O ba pa ea) q.2:=(by obtain⟨b1,b2,cs5,b3,b4⟩:=r2;exact⟨.inr (.inl rfl),b2,cs5,b3,b4.pJ hKm⟩);obtain⟨m6,e1,e2,e3,sid',fv',cs',e4,cs6,e5,e6,e7⟩:=yb6 (aG (d+22)) Z m.next fc' (F':=F.set g t) rfl D hh (by omega) (by have:=r1.1;omega) hKc (hgr u) hB5 gc5 (λ_ h=>absurd rfl h);rw[rb u]at e4;cases e4;rw[hFs]at e1;have g6:GrP K (λj=>j=i) m m6:=⟨by rw[e2];exact u.1,λj o Y=>by rw[e3 j Y (hjc j o)];exact u.2 j o (λh=>h)⟩;refine⟨m6,by rw[r3'];exact e1,g6,hh1,by have:=g6.1;omega,N,_,cs6,e6,hh4.gr g6 (λj o=>by rw[o];exact hh1),?_,?_⟩
 .refine .inr (.inr ⟨f,1,true,false,[],uQ hK (by omega) (by rw[D];decide),by rw[e2];have:=r1.1;omega,by rw[jL];rfl,by rw[jX];exact e7,rfl⟩)
 .obtain⟨b1,b2,cs5,b3,b4⟩:=r2;rw[e5]at b3;cases b3;refine(b4.gr (Q:=λj=>j=i\/j=f) ⟨by omega,λj o Y=>?_⟩ λj o=>?_).pJ hKm
  .have:m6.get j=m5.get j:=e3 j (λh=>Y (.inl h)) (λh=>Y (.inr h));rw[this];exact⟨.refl _,λ_=>rfl⟩
  .rcases o with rfl|rfl
   .exact .inl hh
   .exact .inr (.inr (.inr (.inr rfl)))
open Go.Proofs
def x23(d:Nat){x y:ByteArray}(h:Sl Pe.c ea C)(j:C.length<=1000):∃a,aG (d+2) [] P8 [ea,.clo sQ [.aF [T x,T y]]] mem0=some (I (idxQ (nmQ Pe.nm x) 0 C),a):=by
 obtain⟨a,r⟩:=U3 Pe.len (by omega) (q:=nmQ Pe.nm x) h (by omega) (call:=aG (d+1)) (Z:=[]) (fv:=.clo sQ [.aF [T x,T y]]) (λe _ m=>by
  show ∃a,aG (d+1) [] sQ ([.agg e.c]++[.aF [T x,T y]]) m=_
  rw[jM,iX,x9o]
  unfold qf UV
  obtain⟨M,-,g,-,i⟩:=mY (x:=.agg e.c) (X3 (show e.c.all AV.one=true from rfl)) (m.next,0,2) ⟨m.hp,m.next+1⟩
  have g':M.get (m.next,0,2)=some (.row [T e.nm,I e.role] 0 false):=g
  have b:aB 0 (.aF [T x,T y])=some (.aF [T x,T y]):=rfl
  have f:∀m,aA false 1 (.aF [T x,T y]) m=some (T x):=λ_=>rfl
  simp only[i,cM,aE,bO,aM g',bA,cE,b,f,sF]
  exact⟨_,rfl⟩) (NZ (aG (d+1)) [] 0) (λ_ _ _ _ _ _ _=>rfl) C 0 NN ⟨[],1⟩ 4 rfl (by rw[cU];omega)
 refine⟨a,?_⟩;rw[x78];unfold nj RW wq;simp only[h.len uC,aE,mem0];exact r
def x3t:∃i,prog.info? cF=some i/\i.size=1:=by have:(prog.info? cF).map (·.size)=some 1:=(by kernel_rfl);rw[cH]at this;exact this
def x6n(d:Nat){a:AV}{l:List (List UInt8)}(h:Rk K 1 dA m a l):∃r M,Clp dA r l/\aI (aG (d+1)) DW [a] m=some (r,M)/\M.next=m.next/\Gr0 K m M:=
 GL nG ZR h λi b=>by have e:nH prog gR nilS none (I 0) (I 0)=some nilS:=(by kernel_rfl);obtain⟨r,f,g⟩:=CG nG vS x3t e b;rw[x8l];unfold od SP;simp only[b.len vS,aE,g];exact⟨r,_,f,rfl⟩
def F1(O E:Int)(W:List Bd)(J:List Pn)(F:List (List UInt8))(X:St10)(a:List UInt8):Int×List (List UInt8)×St10:=
 if(cG a).1=wQ then F4 O E W J F X (cG a).2.1 else
  if(mH O E W J X ((F.length+1:Nat):Int) a).1≠0 then((mH O E W J X ((F.length+1:Nat):Int) a).1,F,X)else(0,F++[a],(mH O E W J X ((F.length+1:Nat):Int) a).2)
def CQ(k:List UInt8):Int:=match kP k with
 |some (r,_,_)=>r
 |none=>3
def nW(O E:Int)(W:List Bd)(J:List Pn)(C:List Pe)(F:List (List UInt8))(X:St10)(a:ByteArray)(b:List UInt8):Int×List (List UInt8)×St10:=
 match C[(idxQ (nmQ Pe.nm a) 0 C).toNat]? with
 |none=>(6,F,X)
 |some p=>if idxQ (nmQ Pe.nm a) 0 C<0 then(6,F,X)else if tM b≠0 then(tM b,F,X)else if p.role<CQ (cG b).1 then(24,F,X)else F1 O E W J F X b
def xzc{L:Id->Prop}(h:∀j:Id,j.1<m.next->L j->K j){j:Id}(d:j.1<m.next)(b:uR K j):uR L j:=⟨λa=>b.1 (by
 rcases a with a|a|a|a
 .exact .inl a
 .exact .inr (.inl a)
 .exact .inr (.inr (.inl a))
 .exact .inr (.inr (.inr (h j d a)))),b.2⟩
def Rk.addK{L:Id->Prop}(h:∀j:Id,j.1<m.next->L j->K j){α:Type}{z:Nat}{d:α->List AV}{a:AV}{l:List α}(e:Rk K z d m a l):Rk L z d m a l:=by
 rcases e with h1|h1|⟨id,ver,x,b,rest,h1,h2,h3⟩
 .exact .inl h1
 .exact .inr (.inl h1)
 .exact .inr (.inr ⟨id,ver,x,b,rest,xzc h h2 h1,h2,h3⟩)
def Bc.addK{L:Id->Prop}(h:∀j:Id,j.1<m.next->L j->K j){P:List AV}(g:Bc K m P X cs):Bc L m P X cs:=by obtain⟨a,s,p,v,c,f,l,b,d,n,o,e,r,t⟩:=g.ex;exact⟨a,s,p,v,c,f,l,b,⟨d.1,λi=>d.2 (h a b i)⟩,n,o.addK h,⟨e.1.addK h,e.2⟩,r.addK h,t.addK h⟩
def GrP.addK{L P:Id->Prop}(h:∀j:Id,j.1<m.next->L j->K j){e:Mem}(b:GrP K P m e):GrP L P m e:=⟨b.1,λj d f=>⟨(b.2 j d f).1,λa=>(b.2 j d f).2 (by
 rcases a with a|a|a|a
 .exact .inl a
 .exact .inr (.inl a)
 .exact .inr (.inr (.inl a))
 .exact .inr (.inr (.inr (h j d a))))⟩⟩
def xjy(d:Nat)(Z:FHs)(Y:Nat)(hK:∀j,K j->j.1<m.next)(hO:SuOK E O ba pa ea W J C)(hbl:W.length<=11){f N:Id}{F:List (List UInt8)}(hh:f.2.2=8){M:Mem}(hH:Hk K m f (SC E O ba pa ea) F X)(gr:Gr0 K m M)(hMn:M.next=m.next+1)(hF:F.length<=20)(hFt:∀x∈F,x.length<=1000)(hI:InvX W F.length X){by_:ByteArray}{g:List UInt8}(htx:g.length<=1000)(h3:N.1=m.next)(h32:N.2.2=3)(g3:M.get N=some (.row [T by_,Tx g] 0 false)){i:Nat}(hi:i<C.length)(u:Int) :
    ∃m',ID (aG (d+24)) Z m.next (.ptr f 0 0) (.ptr N 0 0) (I (i:Int)) (Tx (cG g).1) (Tx (cG g).2.1) (I u) M Y=some (I (if C[i].role<u then(24,F,X)else F1 O E W J F X g).1,m')/\GrP K (λj=>j=f) m m'/\Hk K m' f (SC E O ba pa ea) (if C[i].role<u then(24,F,X)else F1 O E W J F X g).2.1 (if C[i].role<u then(24,F,X)else F1 O E W J F X g).2.2:=by
 have hgr:∀{M:Mem},Gr0 K m M->Hk K M f (SC E O ba pa ea) F X:=λh=>hH.gr h (λ_ h=>h.elim) (λh=>h)
 have hH':=hH;obtain⟨hh1,hh2,t,fv,cs,hh3,hh4,hh5,hh6⟩:=hH';obtain⟨l,s,p,v,c,f2,hcs,-⟩:=hh6.ex;subst hcs;have rb:∀{M:Mem},Gr0 K m M->M.get f=some (.row (.ptr t 0 0::fv::[.ptr l 0 0,s,p,v,c]) 0 false):=λh=>by rw[(h.2 f hh2 (λh=>h)).2 hh1];exact hh3
 have lf:∀{M:Mem},Gr0 K m M->aA false 1 (.ptr f 0 1) M=some fv:=λh=>by rw[aM (rb h)];rfl
 have ls:aA false 1 (.ptr f 0 0) M=some (.ptr t 0 0):=(by rw[aM (rb gr)];rfl);have nb:∀j,cA (.ptr j 0 0)=some (.ptr j 0 0):=λ_=>rfl
 obtain⟨-,-,fS,gS⟩:=hh4.gr gr (λ_ h=>h.elim);have lp:aA false 1 (.ptr t 0 4) M=some ea:=(by rw[aM gS];rfl);have ix:=hO.e.ix Pe.len hi;have q1:aB 1 (.aF ((C.drop i).flatMap Pe.c))=some (.aF (I C[i].role::(C.drop (i+1)).flatMap Pe.c)):=(by rw[fT hi,dN];rfl);have q2:∀m,aA false 1 (.aF (I C[i].role::(C.drop (i+1)).flatMap Pe.c)) m=some (I C[i].role):=λ_=>rfl
 unfold ID;rw[show(AV.sc (.string ⟨#[102,105,120]⟩))=Tx wQ from rfl];simp only[nb,aE,cM,bO,ls,lp,ix,q1,q2,bQ];by_cases c1:C[i].role<u
 .simp only[fC c1,aR,aH c1];exact⟨M,rfl,gr.to,hgr gr⟩
 simp only[eT c1,aS,aD c1,pI,aE];unfold F1;by_cases c2:(cG g).1=wQ
 .obtain⟨m',e1,e2,e3⟩:=xod (d+1) Z (λj o=>fU (hK j o) gr.1) hO hbl hh (hgr gr) (by omega) hFt (rest:=(cG g).2.1) (by have:=(F3 g).2;omega);have e1':aG (d+24) Z R5 [.ptr f 0 0,Tx (cG g).2.1] M=_:=e1;simp only[fC c2,aR,aH c2,e1',aE];exact⟨m',rfl,gr.to.trans e2,e3⟩
 rw[aD c2];generalize hid9:((m.next,Y+43,91):Id)=id9;have h91:id9.1=m.next:=(by rw[<-hid9]);have w:id9.2.2=91:=(by rw[<-hid9]);have hL:∀j:Id,j.1<m.next->(λj=>K j\/j=id9) j->K j:=λj o h=>by
  rcases h with h|h
  .exact h
  .rw[h]at o;omega
 have hw:∀j,K j->(λj=>K j\/j=id9) j:=λj h=>.inl h
 generalize hLd:(λj=>K j\/j=id9)=L at hL hw;have hL9:L id9:=(by rw[<-hLd];exact .inr rfl);have hLm:∀j,L j->j.1<m.next+1:=λj h=>by
  rw[<-hLd]at h;rcases h with h|h
  .have:=hK j h;omega
  .rw[h];omega
 have lcs:aA true 5 (.ptr f 0 2) M=some (.agg [.ptr l 0 0,s,p,v,c]):=(by rw[aM (rb gr)];rfl);have hc5:([.ptr l 0 0,s,p,v,c]:List AV).all AV.one=true:=(by obtain⟨_,_,_,_,_,_,e,-,-,-,e5,e6,e7,e8⟩:=hh6.ex;cases e;simp[e5.one,e6.1.one,e7.one,e8.one];rfl);obtain⟨M2,n2,g2,k2,hM2⟩:=mZ (z:=5) (cs:=jY) (x:=.agg [.ptr l 0 0,s,p,v,c]) hc5 rfl xam (m.next,Y+19,13) M;have grL:Gr0 L m M:=gr.addK hL;have A:Gr0 L m M2:=lE grL (.inl (bT _)) n2 k2;have gr2K:Gr0 K m M2:=A.pJ hw;have hB2:Bk L M2 (m.next,Y+19,13) (SC E O ba pa ea) X:=⟨.inr (.inr (.inl rfl)),by show m.next<M2.next;omega,_,g2,(hh6.addK hL).gr A (λ_ h=>h.elim)⟩;have hi3n:N≠(m.next,Y+19,13):=λh=>by rw[h]at h32;simp at h32
 have g32:M2.get N=some (.row [T by_,Tx g] 0 false):=(by rw[k2 _ hi3n];exact g3);have lt2:aA false 1 (.ptr N 0 1) M2=some (Tx g):=(by rw[aM g32];rfl);have hfl:aN prog gR fv=some (I F.length):=hh5.len vS;have wF:bM ((F.length:Int)+1)=((F.length+1:Nat):Int):=(by rw[bJ];omega);obtain⟨m3,e1,e2,e3⟩:=xbi (d+6) Z (λj o=>by have:=hLm j o;omega) hO (hI.ok (by omega) hbl (by omega:12<=d+6+8)) hB2 ((F.length+1:Nat):Int) htx;have e1':aG (d+24) Z wM [.ptr (m.next,Y+19,13) 0 0,Tx g,I ((F.length+1:Nat):Int)] M2=_:=e1
 have gr3:Gr0 L m m3:=⟨iW A.1 e2.1,λj o hp=>by
  have h1:=A.2 j o hp
  have h2:=e2.2 j (fU o A.1) (by rintro rfl;simp at o)
  exact⟨h1.1.trans h2.1,λhb=>by rw[h2.2 hb,h1.2 hb]⟩⟩
 have D:Gr0 K m m3:=gr3.pJ hw;simp only[eT c2,aS,aE,lcs,hM2,lt2,lf gr2K,hfl,dJ,wF,e1',fQ];generalize hq:mH O E W J X ((F.length+1:Nat):Int) g=q at *
 by_cases c3:q.1=0;case neg=>simp only[eT c3,bW,aR,aH (show q.1≠0 from c3)];exact⟨m3,rfl,D.to,hgr D⟩
 rw[aD (λh=>h c3)];obtain⟨r,P,hr,hclip,n4,g4⟩:=x6n (d+23) ((hh5.addK hL).gr gr3 (λ_ _ h=>h.elim));have gr4:Gr0 L m P:=gr3.trans g4;obtain⟨fl3,g33⟩:=SimO.row (e2.2 N (by omega) hi3n).1 g32;obtain⟨fl4,g34⟩:=SimO.row (g4.2 N (by have:=e2.1;omega) (λh=>h)).1 g33;have lt4:aA false 1 (.ptr N 0 1) P=some (Tx g):=(by rw[aM g34];rfl);have hlit:∀{R:Type} (id:Id) (m:Mem) (K:AV->Mem->Option R),dC lW [(0,1,Tx g)] 1 1 id m K=K (.aQ [Tx g] 1 true) m:=λid m K=>by rw[XZ];rfl
 have hel:elems P.get 1 (.aQ [Tx g] 1 true)=some (dA g,1):=rfl;have happ:∀{R:Type} (K:AV->Mem->Option R),cX 1 16 id9 (some (dA g,1)) r P K=K (.sref id9 0 0 (F.length+1) 1 true) (P.new id9 (.row ((F++[g]).flatMap dA) 0 false)):=λK=>hr.app nG (by omega) (by omega) g id9 P K
 generalize hM5:P.new id9 (.row ((F++[g]).flatMap dA) 0 false)=y at happ;have f5:∀j,j≠id9->y.get j=P.get j:=λj o=>by rw[<-hM5,Mem.dP,aD o]
 have g59:y.get id9=some (.row ((F++[g]).flatMap dA) 0 false):=(by rw[<-hM5,Mem.dP,aH rfl]);have n5:y.next=P.next:=(by rw[<-hM5];rfl);have gr5:Gr0 L m y:=(by rw[<-hM5];exact xhn gr4 (by omega) _);obtain⟨b1,b2,n,b3,b4⟩:=e3;have b3':y.get (m.next,Y+19,13)=some (.row n 0 false):=(by rw[f5 _ (λh=>by rw[<-h]at w;simp at w),(g4.2 (m.next,Y+19,13) b2 (λh=>h)).2 b1];exact b3);have b4':Bc L y (SC E O ba pa ea) q.2 n:=(b4.gr g4 (λ_ h=>h.elim)).gr (Q:=λj=>j=id9) ⟨by omega,λj o hp=>by rw[f5 j hp];exact⟨.refl _,λ_=>rfl⟩⟩ (λj o=>by rw[o];exact .inr (.inr (.inr hL9)));obtain⟨hc55,hc5o⟩:n.length=5/\n.all AV.one=true:=(by obtain⟨_,_,_,_,_,_,e,-,-,-,e5,e6,e7,e8⟩:=b4.ex;rw[e];exact⟨rfl,by simp[e5.one,e6.1.one,e7.one,e8.one];rfl⟩);have l55:aA true 5 (.ptr (m.next,Y+19,13) 0 0) y=some (.agg n):=(by obtain⟨_,_,_,_,_,_,e,-⟩:=b4.ex;rw[aM b3',e];rfl);have H:Gr0 K m y:=gr5.pJ hw;have gh5:=rb H;have hst1:∀{R:Type} (K:Mem->Option R),aZ 1 (.ptr f 0 1) (.sref id9 0 0 (F.length+1) 1 true) y K=K (y.set f (.row (.ptr t 0 0::.sref id9 0 0 (F.length+1) 1 true::[.ptr l 0 0,s,p,v,c]) 0 false)):=λK=>by rw[mA (z:=1) gh5 rfl (by simp) rfl];rfl
 generalize hM6:y.set f (.row (.ptr t 0 0::.sref id9 0 0 (F.length+1) 1 true::[.ptr l 0 0,s,p,v,c]) 0 false)=M6 at hst1;have gh6:M6.get f=some (.row (.ptr t 0 0::.sref id9 0 0 (F.length+1) 1 true::[.ptr l 0 0,s,p,v,c]) 0 false):=(by rw[<-hM6,Mem.cP,aH rfl]);have hst2:∀{R:Type} (K:Mem->Option R),aZ 5 (.ptr f 0 2) (.agg n) M6 K=K (M6.set f (.row (.ptr t 0 0::.sref id9 0 0 (F.length+1) 1 true::n) 0 false)):=λK=>by rw[mA (z:=5) (x:=.agg n) gh6 hc55 (by simp) hc5o];congr 3;show cR (AV.ptr t 0 0::.sref id9 0 0 (F.length+1) 1 true::[.ptr l 0 0,s,p,v,c]) 2 n=_;unfold cR;rw[lU (by simp;omega)];simp
 generalize hM7:M6.set f (.row (.ptr t 0 0::.sref id9 0 0 (F.length+1) 1 true::n) 0 false)=M7 at hst2;have gh7:M7.get f=some (.row (.ptr t 0 0::.sref id9 0 0 (F.length+1) 1 true::n) 0 false):=(by rw[<-hM7,Mem.cP,aH rfl]);have f7:∀j,j≠f->M7.get j=y.get j:=λj o=>by rw[<-hM7,Mem.cP,aD o,<-hM6,Mem.cP,aD o]
 have n7:M7.next=y.next:=(by rw[<-hM7,<-hM6];rfl);have hhn:∀{a b:Nat},f≠(m.next,a,b):=λh=>by rw[h]at hh2;simp at hh2
 have a1:aY (tR (.ptr f 0 1)) (some [],some [(m.next,Y+42,90)])=true:=qI hhn;have a2:aY (some [],some [(m.next,Y+42,90)]) (tR (.ptr (m.next,Y+19,13) 0 0))=true:=(by simp[aY,tR,kX]);have h9n:(m.next,Y+19,13)≠id9:=λh=>by rw[<-h]at w;simp at w
 have a3:aY (tX (.aQ [Tx g] 1 true),tA id9 r) (tR (.ptr (m.next,Y+19,13) 0 0))=true:=(by have:tA id9 r=some [id9]:=(by rcases hr with ⟨rfl,-⟩|rfl<;>rfl);rw[this];simp[aY,tR,tX,kX,h9n]);simp only[fC c3,cC,aS,aE,lf D,hclip,lt4,hlit,hel,happ,l55,hst1,hst2,a1,a2,a3,gC,d8,bB];have g7:GrP K (λj=>j=f) m M7:=⟨by rw[n7];exact H.1,λj o hp=>by rw[f7 j hp];exact H.2 j o (λh=>h)⟩;have hq7:∀j,j=f->oR K j:=λj o=>by rw[o];exact hh1
 refine⟨M7,rfl,g7,hh1,by have:=g7.1;omega,t,_,n,gh7,hh4.gr g7 hq7,?_,?_⟩
 .exact .inr (.inr ⟨id9,0,true,false,[],uQ hK (by omega) (by rw[w];decide),by rw[n7,n5,n4];have:=e2.1;omega,by rw[jL];rfl,by rw[jX,f7 _ (λh=>by rw[h]at w;omega)];exact g59,rfl⟩)
 .refine(b4'.gr (Q:=λj=>j=f) ⟨by omega,λj o hp=>by rw[f7 j hp];exact⟨.refl _,λ_=>rfl⟩⟩ (λj o=>by rw[o];exact .inl hh)).pJ hw
open Go.Proofs
def xoa(d:Nat)(Z:FHs)(hK:∀j,K j->j.1<m.next)(u:SuOK E O ba pa ea W J C)(w:W.length<=11){b:Id}{F:List (List UInt8)}(hh:b.2.2=8)(R:Hk K m b (SC E O ba pa ea) F X)(hF:F.length<=20)(A:∀x∈F,x.length<=1000)(hI:InvX W F.length X){by_:ByteArray}{a:List UInt8}(D:a.length<=1000) :
    ∃m',aG (d+25) Z ER [.ptr b 0 0,.agg [T by_,Tx a]] m=some (I (nW O E W J C F X by_ a).1,m')/\GrP K (λj=>j=b) m m'/\Hk K m' b (SC E O ba pa ea) (nW O E W J C F X by_ a).2.1 (nW O E W J C F X by_ a).2.2:=by
 rw[x9p];unfold qg UU;rw[show(AV.sc (.string ⟨#[32]⟩))=Tx [32]from rfl];obtain⟨l,n1,g1,k1,hM1⟩:=mY (x:=.agg [T by_,Tx a]) rfl (m.next,0,3) ⟨m.hp,m.next+1⟩;have g:Gr0 K m l:=lE (wW m) (.inl (bT _)) n1 k1;have g1':l.get (m.next,0,3)=some (.row [T by_,Tx a] 0 false):=g1;have n:∀{M:Mem},Gr0 K m M->Hk K M b (SC E O ba pa ea) F X:=λh=>R.gr h (λ_ h=>h.elim) (λh=>h)
 have hH':=R;obtain⟨hh1,hh2,t,fv,cs,hh3,hh4,hh5,hh6⟩:=hH';have rb:∀{M:Mem},Gr0 K m M->M.get b=some (.row (.ptr t 0 0::fv::cs) 0 false):=λh=>by rw[(h.2 b hh2 (λh=>h)).2 hh1];exact hh3
 have ls:aA false 1 (.ptr b 0 0) l=some (.ptr t 0 0):=(by rw[aM (rb g)];rfl);have nb:∀j,cA (.ptr j 0 0)=some (.ptr j 0 0):=λ_=>rfl
 obtain⟨-,-,fS,gS⟩:=hh4.gr g (λ_ h=>h.elim);have lp:aA false 1 (.ptr t 0 4) l=some ea:=(by rw[aM gS];rfl);obtain⟨mp,hpe⟩:=x23 (d+22) (x:=by_) (y:=⟨a.toArray⟩) u.e u.en;have hpe':dZ (aG (d+24)) P8 [ea,.clo sQ [.ptr (m.next,0,3) 0 0]] l=some (I (idxQ (nmQ Pe.nm by_) 0 C),l):=(by refine rY ?_ hpe rfl;have f1:Go.Ix.frz l.get bL ea=some ea:=kD _ 4 u.e.bG;have f2:Go.Ix.frz l.get 5 (.ptr (m.next,0,3) 0 0)=some (.aF [T by_,Tx a]):=mV g1' rfl;have f3:Go.Ix.frz l.get bL (.clo sQ [.ptr (m.next,0,3) 0 0])=some (.clo sQ [.aF [T by_,Tx a]]):=(by show([AV.ptr (m.next,0,3) 0 0].mapM (Go.Ix.frz l.get 5)).map (AV.clo sQ)=_;simp only[eG,fZ,f2];rfl);simp only[eG,fZ,f1,f3];rfl);have lt1:aA false 1 (.ptr (m.next,0,3) 0 1) l=some (Tx a):=(by rw[aM g1'];rfl);have hck:∀m,aI (aG (d+24)) yQ [Tx a] m=some (I (tM a),m):=xbk (d+18) (by omega);have H:∀m,aI (aG (d+24)) sO [Tx a,Tx [32]] m=some (.tup [Tx (cG a).1,Tx (cG a).2.1,B (cG a).2.2],m):=JW (d+19) a (by omega);have hfo:∀m,aI (aG (d+24)) wI [Tx (cG a).1] m=some (.tup [qD (cG a).1,B (kP (cG a).1).isSome],m):=YV (d+23) _;unfold nW;simp only[hM1,nb,aE,cM,bO,ls,lp,hpe',bQ];rcases zB (nmQ Pe.nm by_) C 0 with ⟨h0,-⟩|⟨i,h0,hi,-⟩
 .rw[h0];simp only[show decide ((-1:Int)<0)=true from rfl,aR];cases C[(-1:Int).toNat]? with
  |none=>exact⟨l,rfl,g.to,n g⟩
  |some p=>simp only[show((-1:Int)<0)from by decide,bV];exact⟨l,rfl,g.to,n g⟩
 rw[h0,HK,gA,eY hi];have L:¬((i:Int)<0):=(by omega);simp only[eT L,aS,aD L,lt1,aE,hck,fQ];by_cases c1:tM a=0;case neg=>simp only[eT c1,bW,aR,aH (show tM a≠0 from c1)];exact⟨l,rfl,g.to,n g⟩
 rw[aD (λh=>h c1)];obtain⟨Y,n2,g2,k2,hM2⟩:=mZ (V5 (cG a).1).2 (V5 (cG a).1).1 eo (m.next,31+5,11) l;have N:Gr0 K m Y:=lE g (.inl (bT _)) n2 k2;have P:Y.get (m.next,0,3)=some (.row [T by_,Tx a] 0 false):=(by rw[k2 _ (by simp[Prod.ext_iff])];exact g1');have Q:Y.next=m.next+1:=(by rw[n2,n1]);unfold yd;simp only[fC c1,cC,aS,aE,H,mB,kZ,lA,hfo,hM2];cases hk:kP (cG a).1 with
 |none=>have o:CQ (cG a).1=3:=(by unfold CQ;rw[hk]);rw[o];simp only[xE,aS];exact xjy d Z (31+9) hK u w hh R N Q hF A hI D rfl rfl P hi 3
 |some kk=>obtain⟨r,nn,f⟩:=kk;have o:CQ (cG a).1=r:=(by unfold CQ;rw[hk]);have hfa:=xh1 hk;rw[hfa]at g2;have g2':Y.get (m.next,31+5,11)=some (.row [I r,I (nn:Int),.clo f []] 0 false):=g2;rw[o];simp only[Option.isSome_some,aR,cM,bO,aM g2',bA,cE,aE];exact xjy d Z (31+12) hK u w hh R N Q hF A hI D rfl rfl P hi r
open Go.Proofs
def InvX.mono{k l:Nat}(h:InvX W k X)(a:k<=l):InvX W l X:=⟨h.L,iW h.LS a,h.S2,iW h.V a,h.C,h.Cb,λp b=>iW (h.f p b) (by omega)⟩
def aq{n1:Nat}:∀(s:List (List UInt8)) (k:Nat) (X:St10),InvX W k X->InvX W (k+s.length) (kM O E W J n1 k s X).2
 |[],k,X,h=>h
 |x::r,k,X,h=>by
  rw[kM];split
  .have:=aq (n1:=n1) r (k+1) X h.up;rw[eI,show k+(r.length+1)=k+1+r.length by omega];exact this
  .split
   .exact(MJ h _ x).mono (by simp)
   .have:=aq (n1:=n1) r (k+1) _ (MJ (O:=O) (E:=E) (J:=J) h ((k+1:Nat):Int) x);rw[eI,show k+(r.length+1)=k+1+r.length by omega];exact this
structure InvF (bl:List Bd) (n:Nat) (F:List (List UInt8)) (X:St10):Prop where
 len:F.length=n
 t:∀x∈F,x.length<=1000
 x:InvX bl n X
def InvF.zero:InvF W 0 [] X0:=⟨rfl,λx h=>(by cases h),InvX.zero⟩
def iw(W:List Bd)(n:Nat)(F:List (List UInt8))(X:St10)(r:Int×List (List UInt8)×St10):Prop:=(r.1≠0/\r.2=(F,X))\/(r.1=0/\InvF W (n+1) r.2.1 r.2.2)
def x6g{n:Nat}{F:List (List UInt8)}(h:InvF W n F X){a:List UInt8}(d:a.length<=1000):iw W n F X (F4 O E W J F X a):=by
 unfold F4;split
 .exact .inl ⟨λh=>(by cases h),rfl⟩
 split
 .exact .inl ⟨λh=>(by cases h),rfl⟩
 split
 .exact .inl ⟨λh=>(by cases h),rfl⟩
 split
 .exact .inl ⟨λh=>(by cases h),rfl⟩
 split
 .rename_i c;exact .inl ⟨c,rfl⟩
 .refine .inr ⟨rfl,by rw[jL,mN,h.len];rfl,λx b=>?_,?_⟩
  .rcases jC.mp b with b|b
   .rcases xku b with b|rfl
    .exact h.t x b
    .have:=(F3 a).2;omega
   .rw[kQ]at b;rw[b];simp
  .have:=aq (O:=O) (E:=E) (J:=J) (n1:=(‹Int›).toNat-1) (F.set ((‹Int›).toNat-1) (cG a).2.1) 0 X0 (InvX.zero (W:=W));rw[mN,h.len,bO]at this;exact this.up
def x5m{n:Nat}{F:List (List UInt8)}(h:InvF W n F X){b:List UInt8}(d:b.length<=1000):iw W n F X (F1 O E W J F X b):=by
 unfold F1;split
 .exact x6g h (by have:=(F3 b).2;omega)
 split
 .rename_i c;exact .inl ⟨c,rfl⟩
 .refine .inr ⟨rfl,by rw[jL,h.len];rfl,λx a=>?_,MJ h.x _ b⟩;rcases jC.mp a with a|a
  .exact h.t x a
  .rw[kQ]at a;rw[a];exact d
def x5j{n:Nat}{F:List (List UInt8)}(h:InvF W n F X){by_:ByteArray}{a:List UInt8}(b:a.length<=1000):iw W n F X (nW O E W J C F X by_ a):=by
 unfold nW;split
 .exact .inl ⟨λh=>(by cases h),rfl⟩
 split
 .exact .inl ⟨λh=>(by cases h),rfl⟩
 split
 .rename_i c;exact .inl ⟨c,rfl⟩
 split
 .exact .inl ⟨λh=>(by cases h),rfl⟩
 .exact x5m h b
def lN(O E:Int)(W:List Bd)(J:List Pn)(C:List Pe):Nat->List Ent->List (List UInt8)->St10->Int×Int×List (List UInt8)×St10
 |_,[],F,X=>(0,0,F,X)
 |k,x::r,F,X=>if(nW O E W J C F X ⟨x.by_.toArray⟩ x.tx).1≠0 then(((k+1:Nat):Int),nW O E W J C F X ⟨x.by_.toArray⟩ x.tx)else lN O E W J C (k+1) r (nW O E W J C F X ⟨x.by_.toArray⟩ x.tx).2.1 (nW O E W J C F X ⟨x.by_.toArray⟩ x.tx).2.2
abbrev kO(u:Nat):Id->Prop:=λj=>j.1=u/\j.2.2=10
def x13(d:Nat)(Z:FHs)(u:Nat)(hO:SuOK E O ba pa ea W J C)(w:W.length<=11){a:AV}{L:List Ent}(ha:Sl Ent.c a L)(hL:L.length<=21)(n:∀x∈L,x.tx.length<=1000){hid:Id}(y:hid.2.2=8) :
    ∀(b:List Ent) (k j:Nat) (m:Mem) (Y:Nat) (F:List (List UInt8)) (X:St10),L.drop k=b->b.length<j->u<m.next->Hk (kO u) m hid (SC E O ba pa ea) F X->InvF W k F X ->
    ∃o,AA (aG (d+25)) Z u j (.ptr hid 0 0) a (I L.length) (I k) m Y=some (.tup [if(lN O E W J C k b F X).2.1≠0 then AV.sc (.pointer none)else .ptr hid 0 0,I (lN O E W J C k b F X).1,I (lN O E W J C k b F X).2.1],o)/\m.next<=o.next /\
     ((lN O E W J C k b F X).2.1=0->Hk (kO u) o hid (SC E O ba pa ea) (lN O E W J C k b F X).2.2.1 (lN O E W J C k b F X).2.2.2/\InvF W (k+b.length) (lN O E W J C k b F X).2.2.1 (lN O E W J C k b F X).2.2.2):=by
 intro b;induction b with
 |nil=>intro k j m Y F X r e hu A f;obtain⟨j,rfl⟩:=dF e;have p:¬((k:Int)<(L.length:Int)):=(by have:=gX.mp r;omega);simp only[AA];unfold UJ xw;simp only[bQ,p,bK,aE,aS,lN,ne_eq,not_true_eq_false,cJ];exact⟨m,rfl,bT _,λ_=>⟨A,f⟩⟩
 |cons x b ih=>
  intro k j m Y F X r e hu A f;obtain⟨j,rfl⟩:=dF e;obtain⟨p,he,Q⟩:=gK r;have hk':(k:Int)<(L.length:Int):=(by omega);have hx:x∈L:=(by rw[<-he];exact eX p);have ix:=ha.ix Ent.len p;have ld:=iP (m:=m) Ent.len (by omega) p;rw[he]at ld;have hw:=gH k (by omega);obtain⟨M,n1,g1,k1,hM⟩:=mZ (z:=2) (cs:=JE) (x:=.agg x.c) rfl rfl (by rw[xm1];rfl) (u,Y+4,10) m;have g1':M.get (u,Y+4,10)=some (.row [Tx x.by_,Tx x.tx] 0 false):=g1;have D:aA true 2 (.ptr (u,Y+4,10) 0 0) M=some (.agg [T ⟨x.by_.toArray⟩,Tx x.tx]):=(by rw[aM g1'];rfl);have gM:GrP (kO u) (λj=>j=(u,Y+4,10)) m M:=lE (.refl _ _) (.inr rfl) n1 k1;have H:=A.gr gM (λj e=>by rw[e];exact .inr (.inr (.inr ⟨rfl,rfl⟩))) (λh=>by rw[h]at y;simp at y);obtain⟨m1,e1,R,e3⟩:=xoa d Z (K:=kO u) (λj e=>by rw[e.1,n1];exact hu) hO w y H (by have:=f.len;have:=r▸NR (l:=L) (i:=k);simp at this;omega) f.t (by rw[f.len];exact f.x) (by_:=⟨x.by_.toArray⟩) (n x hx);have g:=x5j (O:=O) (E:=E) (J:=J) (C:=C) f (by_:=⟨x.by_.toArray⟩) (n x hx);simp only[AA];unfold UJ;simp only[bQ,hk',bC,aE,aR,ix,ld,hM,D,e1,fQ];have N:lN O E W J C k (x::b) F X=if(nW O E W J C F X ⟨x.by_.toArray⟩ x.tx).1≠0 then(((k+1:Nat):Int),nW O E W J C F X ⟨x.by_.toArray⟩ x.tx)else lN O E W J C (k+1) b (nW O E W J C F X ⟨x.by_.toArray⟩ x.tx).2.1 (nW O E W J C F X ⟨x.by_.toArray⟩ x.tx).2.2:=rfl
  rw[N];generalize nW O E W J C F X ⟨x.by_.toArray⟩ x.tx=q at *
  by_cases c:q.1=0
  .have P:InvF W (k+1) q.2.1 q.2.2:=by
    rcases g with ⟨h,-⟩|⟨-,h⟩
    .exact absurd c h
    .exact h
   obtain⟨o,f1,f2,f3⟩:=ih (k+1) j m1 (Y+15) q.2.1 q.2.2 Q (by simp at e;omega) (by have:=R.1;omega) e3 P;simp only[fC c,cC,aS,dJ,aE,hw,f1];rw[show(if q.1≠0 then(((k+1:Nat):Int),q)else lN O E W J C (k+1) b q.2.1 q.2.2)=lN O E W J C (k+1) b q.2.1 q.2.2 from aD (λh=>h c)];refine⟨o,rfl,by have:=R.1;omega,λh=>?_⟩;have:=f3 h;rw[eI,show k+(b.length+1)=k+1+b.length by omega];exact this
  .simp only[eT c,bW,aR,dJ,aE,hw];rw[show(if q.1≠0 then(((k+1:Nat):Int),q)else lN O E W J C (k+1) b q.2.1 q.2.2)=(((k+1:Nat):Int),q)from aH c];refine⟨m1,by rw[aH (show q.1≠0 from c)],by have:=R.1;omega,λh=>absurd h c⟩
end Go.Ix
namespace Go.Ix
open Go.Proofs
variable{ba pa ea:AV}{W:List Bd}{J:List Pn}{C:List Pe}{E O:Int}{m:Mem}{X:St10}{cs:List AV}
def rK{a b:Int}(h:eK a b=0):a=0/\b=0:=by
 unfold eK at h;split at h
 .rename_i c;exact⟨c,h⟩
 .rename_i c;exact absurd h c
def xd3{b:Bool}(h:hW b=0):b=true:=by
 cases b
 .cases h
 .rfl
def fe{α:Type}{f:List ByteArray->α->Int}{nm:α->ByteArray}:∀{l:List α} {b:List ByteArray},eW f nm b l=0->∀x∈l,∃d,f d x=0
 |[],_,_,x,a=>by cases a
 |y::r,b,h,x,a=>by
  rw[eW]at h;obtain⟨e,g⟩:=rK h;rcases eD.mp a with rfl|a
  .exact⟨b,e⟩
  .exact fe g x a
def xc5(f:Sl Bd.c ba W)(g:Sl Pn.c pa J)(j:Sl Pe.c ea C)(h:iG E O W J C=0):SuOK E O ba pa ea W J C/\W.length<=6/\J.length<=8/\C.length<=10:=by
 unfold iG at h;split at h;case isFalse=>cases h
 rename_i b;split at h
 .cases h
 rename_i w;obtain⟨o,h⟩:=rK h;split at h
 .cases h
 rename_i x;obtain⟨r,h⟩:=rK h;split at h
 .cases h
 split at h
 .cases h
 rename_i y A;rw[cK]at b;have m:1<=E/\E<=10000:=(by have:=b.1;unfold wi at this;simpa using this);have n:0<=O/\O<=2048:=(by have:=b.2;unfold wi at this;simpa using this);have d:∀(i:Nat) (a:i<W.length),polyE W[i].cs=0/\wi W[i].th 0 1000000=true:=λi a=>by obtain⟨t,e⟩:=fe o W[i] (eX a);unfold mJ at e;obtain⟨-,e⟩:=rK e;obtain⟨e,u⟩:=rK e;exact⟨e,xd3 u⟩
 refine⟨⟨f,g,j,by omega,by omega,by omega,n,m,λi a=>?_,λi a=>(d i a).1,λp l=>?_⟩,by omega,by omega,by omega⟩
 .have:=(d i a).2;unfold wi at this;exact sN this
 .obtain⟨t,e⟩:=fe r p l;unfold nI at e;obtain⟨-,e⟩:=rK e;exact xd3 e
def xmp(a:Id):cW JA [(0,1,.ptr a 0 0),(2,5,.agg [.ptr a 0 0,nilS,nilS,nilS,nilS])]=some (.agg [.ptr a 0 0,nilS,.ptr a 0 0,nilS,nilS,nilS,nilS]):=by kernel_rfl
def bF(E O:Int)(W:List Bd)(J:List Pn)(C:List Pe)(L:List Ent):Int×Int×List (List UInt8)×St10:=
 if iG E O W J C≠0 then(0,iG E O W J C,[],X0)else if 40<L.length then(0,8,[],X0)else lN O E W J C 0 L [] X0
def xnq(d:Nat)(Z:FHs)(o:Sl Bd.c ba W)(p:Sl Pn.c pa J)(r:Sl Pe.c ea C)(X:W.length<=1000)(Y:J.length<=1000)(he:C.length<=1000)(t:∀x∈W,x.nm.size<=1000/\x.cs.length<=1000)(u:∀x∈J,x.nm.size<=1000)(w:∀x∈C,x.nm.size<=1000){a:AV}{L:List Ent}(N:Sl Ent.c a L)(hL:L.length<=21\/40<L.length)(y:∀x∈L,x.tx.length<=1000)(m:Mem) :
    ∃l,aG (d+26) Z wH [.agg [I E,I O,ba,pa,ea],a] m=some (.tup [if(bF E O W J C L).2.1≠0 then AV.sc (.pointer none)else .ptr (m.next+1,6,8) 0 0,I (bF E O W J C L).1,I (bF E O W J C L).2.1],l) /\
     ((bF E O W J C L).2.1=0->SuOK E O ba pa ea W J C/\W.length<=6/\Hk (kO m.next) l (m.next+1,6,8) (SC E O ba pa ea) (bF E O W J C L).2.2.1 (bF E O W J C L).2.2.2/\InvF W L.length (bF E O W J C L).2.2.1 (bF E O W J C L).2.2.2):=by
 rw[x9g];unfold px UI;have i:(AV.agg [I E,I O,ba,pa,ea]).cells.all AV.one=true:=(by show([I E,I O,ba,pa,ea]:List AV).all AV.one=true;simp[o.one,p.one,r.one]);obtain⟨b,n1,g1,k1,F⟩:=mY (x:=.agg [I E,I O,ba,pa,ea]) i (m.next,0,2) ⟨m.hp,m.next+1⟩;have g1':b.get (m.next,0,2)=some (.row (SC E O ba pa ea) 0 false):=g1;have l5:aA true 5 (.ptr (m.next,0,2) 0 0) b=some (.agg [I E,I O,ba,pa,ea]):=(by rw[aM g1'];rfl);have A:∀m,aI (aG (d+25)) yR [.agg [I E,I O,ba,pa,ea]] m=some (I (iG E O W J C),m):=xbr (d+19) o p r X Y he t u w;have e:=N.len BQ;unfold bF;simp only[F,l5,aE,A,fQ];by_cases g:iG E O W J C=0;case neg=>simp only[eT g,bW,aR,aH (show iG E O W J C≠0 from g)];exact⟨b,rfl,λh=>absurd h g⟩
 rw[aD (show ¬(iG E O W J C≠0)from λh=>h g)];simp only[fC g,cC,aS,e,aE,gZ];by_cases P:40<L.length
 .have c2':((L.length:Int) > 40):=(by omega);simp only[fC c2',aR,aH P];exact⟨b,by rw[aH (by decide:(8:Int)≠0)],λh=>by cases h⟩
 have c2':¬((L.length:Int) > 40):=(by omega);rw[aD P];obtain⟨Q,H,-,-⟩:=xc5 o p r g;obtain⟨f,K,g2,k2,M⟩:=mY (x:=.agg [.ptr (m.next,0,2) 0 0,nilS,.ptr (m.next,0,2) 0 0,nilS,nilS,nilS,nilS]) rfl (b.next,6,8) ⟨b.hp,b.next+1⟩;have zC:aG (d+25) Z B8 [.ptr (m.next,0,2) 0 0] b=some (.ptr (b.next,6,8) 0 0,f):=(by rw[xi6];unfold ON IC;simp only[xao,xaq,xmp,aE,bO,M]);have n1':b.next=m.next+1:=n1;have D:f.get (m.next,0,2)=some (.row (SC E O ba pa ea) 0 false):=(by rw[k2 _ (λh=>by simp[Prod.ext_iff]at h)];exact g1');have j:SpK (kO m.next) f (SC E O ba pa ea) (m.next,0,2):=⟨by show m.next<f.next;rw[K];show m.next<b.next+1;omega,⟨rfl,λh=>by have:=h.2;simp at this⟩,false,D⟩;have hH:Hk (kO m.next) f (b.next,6,8) (SC E O ba pa ea) [] X0:=⟨.inl rfl,by rw[K];exact mL _,(m.next,0,2),nilS,_,g2,j,.inl ⟨rfl,rfl⟩,j.book0⟩;obtain⟨l,R,e2,n⟩:=x13 d Z m.next Q (by omega) N (by omega) y (hid:=(b.next,6,8)) rfl L 0 NN f (14+3) [] X0 rfl (by rw[cU];omega) (by rw[K];show m.next<b.next+1;omega) hH InvF.zero;rw[bO]at n;unfold xv;simp only[eT c2',aS,zC,aE,e,bO];rw[n1']at R n;rw[n1'];exact⟨l,R,λh=>⟨Q,H,(n h).1,(n h).2⟩⟩
open Go.Proofs
def FHk(P:List AV)(F:List (List UInt8))(X:St10)(v:AV):Prop:=∃f s p w c,v=.aF [.aF P,f,.aF P,s,p,w,c]/\Sl dA f F/\Sl Scene.c s X.L/\Sl OPr.c p X.S/\Sl Lv10.c w X.V/\Ints c X.C
def Hk.frz{K:Id->Prop}{b:Id}{F:List (List UInt8)}(d:[ba,pa,ea].all aP=true)(h:Hk K m b (SC E O ba pa ea) F X):∃v,Go.Ix.frz m.get 5 (.ptr b 0 0)=some v/\FHk (SC E O ba pa ea) F X v:=by
 obtain⟨H,J,g,L,l,n,⟨-,-,M,o⟩,r,t⟩:=h;obtain⟨f,u,x⟩:=r.frz nG ZR 2;obtain⟨s,p,w,c,e,y,A,C,D⟩:=t.frz d 1
 have j:Go.Ix.frz m.get 4 (.ptr g 0 0)=some (.aF (SC E O ba pa ea)):=mV o (pX λa i=>tF m.get 2 (by
  have:(SC E O ba pa ea).all aP=true:=by show(true&&(true&&[ba,pa,ea].all aP))=true;rw[d];rfl
  exact dG.mp this a i))
 refine⟨_,mV (cs':=[.aF (SC E O ba pa ea),f,.aF (SC E O ba pa ea),s,p,w,c]) n ?_,f,s,p,w,c,rfl,x,y,A,C,D⟩;rw[eG,j,eG,u];have e':l.mapM (Go.Ix.frz m.get 4)=some [.aF (SC E O ba pa ea),s,p,w,c]:=e;rw[e'];rfl
def gt(d:Nat)(n:Sl Bd.c ba W)(o:Sl Pn.c pa J)(p:Sl Pe.c ea C)(u:W.length<=1000)(w:J.length<=1000)(y:C.length<=1000)(f:∀x∈W,x.nm.size<=1000/\x.cs.length<=1000)(g:∀x∈J,x.nm.size<=1000)(i:∀x∈C,x.nm.size<=1000){a:AV}{L:List Ent}(r:Sl Ent.c a L)(A:L.length<=21\/40<L.length)(j:∀x∈L,x.tx.length<=1000) :
    ∃v,(∀m,aI (aG (d+26)) wH [.agg [I E,I O,ba,pa,ea],a] m=some (.tup [v,I (bF E O W J C L).1,I (bF E O W J C L).2.1],m))/\((bF E O W J C L).2.1≠0->v=AV.sc (.pointer none)) /\
     ((bF E O W J C L).2.1=0->SuOK E O ba pa ea W J C/\W.length<=6/\FHk (SC E O ba pa ea) (bF E O W J C L).2.2.1 (bF E O W J C L).2.2.2 v/\InvF W L.length (bF E O W J C L).2.2.1 (bF E O W J C L).2.2.2):=by
 obtain⟨D,e,F⟩:=xnq d [] (E:=E) (O:=O) n o p u w y f g i r A j mem0;have b:[AV.agg [I E,I O,ba,pa,ea],a].all bG=true:=(by have:[I E,I O,ba,pa,ea].all aP=true:=(by simp[n.aP,o.aP,p.aP]);rw[dQ,vT,this,dQ,r.bG];rfl);by_cases c:(bF E O W J C L).2.1=0
 .obtain⟨t,l,H,K⟩:=F c;rw[aD (λh=>h c)]at e;obtain⟨v,M,N⟩:=H.frz t.st;refine⟨v,λm=>W6 b e ?_,λh=>absurd c h,λ_=>⟨t,l,N,K⟩⟩;show([AV.ptr (mem0.next+1,6,8) 0 0,I _,I _].mapM (Go.Ix.frz D.get 5)).map AV.tup=_;rw[eG,M];rfl
 .rw[aH c]at e;exact⟨_,λm=>W6 b e rfl,λ_=>rfl,λh=>absurd h c⟩
open Go.Proofs
structure SmO (ba pa ea:AV) (bl:List Bd) (pl:List Pn) (C:List Pe) (a:AV) (L:List Ent):Prop where
 b:Sl Bd.c ba bl
 p:Sl Pn.c pa pl
 e:Sl Pe.c ea C
 bn:bl.length<=1000
 pn:pl.length<=1000
 en:C.length<=1000
 bs:∀x∈bl,x.nm.size<=1000/\x.cs.length<=1000
 ps:∀x∈pl,x.nm.size<=1000
 es:∀x∈C,x.nm.size<=1000
 a:Sl Ent.c a L
 n:L.length<=21\/40<L.length
 t:∀x∈L,x.tx.length<=1000
def v6{z a:Nat}{M:Mem}{id:Id}{d:List AV}{x:AV}(e:M.get id=some (.row d a false))(f:x.cells.length=z)(i:d.length=z)(g:x.cells.all AV.one=true) :
    ∃b:Mem,b.get id=some (.row x.cells a false)/\b.next=M.next/\(∀j,j≠id->b.get j=M.get j)/\∀{R:Type} (K:Mem->Option R),aZ z (.ptr id a 0) x M K=K b:=by
 refine⟨M.set id (.row x.cells a false),by rw[Mem.cP,aH rfl],rfl,λj h=>by rw[Mem.cP,aD h],λK=>?_⟩;rw[mA (z:=z) e f (by omega) g];congr 3;unfold cR;rw[jB,iX,lU (by omega),jX]
def xD(E O:Int)(W:List Bd)(J:List Pn)(C:List Pe)(L:List Ent)(nm:ByteArray):Int:=
 if(bF E O W J C L).2.1≠0 then(bF E O W J C L).2.1 else if idxQ (nmQ Bd.nm nm) 0 W<0 then 6 else 0
def xar:cW tY []=some (.agg [I 0,nilS,nilS,nilS]):=by kernel_rfl
def xo8(d:Nat){a:AV}{L:List Ent}(h:SmO ba pa ea W J C a L)(nm:ByteArray) :
    ∃r,(∀m,aI (aG (d+27)) T0 [.agg [I E,I O,ba,pa,ea],a,T nm] m=some (.tup [r,I (xD E O W J C L nm)],m))/\(xD E O W J C L nm≠0->r=.agg [I 0,nilS,nilS,nilS]) /\
     (xD E O W J C L nm=0->∃(i:Nat) (y:i<W.length),idxQ (nmQ Bd.nm nm) 0 W=i/\AX (bF E O W J C L).2.2.2.L (bF E O W J C L).2.2.2.S O E W[i] J r):=by
 obtain⟨v,o1,o2,o3⟩:=gt d (E:=E) (O:=O) h.b h.p h.e h.bn h.pn h.en h.bs h.ps h.es h.a h.n h.t;have A:[AV.agg [I E,I O,ba,pa,ea],a,T nm].all bG=true:=(by have:[I E,I O,ba,pa,ea].all aP=true:=(by simp[h.b.aP,h.p.aP,h.e.aP]);rw[dQ,vT,this,dQ,h.a.bG];rfl);suffices key:∃r m',aG (d+27) [] T0 [.agg [I E,I O,ba,pa,ea],a,T nm] mem0=some (.tup [r,I (xD E O W J C L nm)],m')/\bG r=true/\(xD E O W J C L nm≠0->r=.agg [I 0,nilS,nilS,nilS]) /\
  (xD E O W J C L nm=0->∃(i:Nat) (y:i<W.length),idxQ (nmQ Bd.nm nm) 0 W=i/\AX (bF E O W J C L).2.2.2.L (bF E O W J C L).2.2.2.S O E W[i] J r) by
  obtain⟨r,m',e1,e2,e3,e4⟩:=key;exact⟨r,λm=>tO A e1 (by rw[dQ,e2];rfl),e3,e4⟩
 rw[yai];unfold rp WK;have F:(AV.agg [I E,I O,ba,pa,ea]).cells.all AV.one=true:=(by show([I E,I O,ba,pa,ea]:List AV).all AV.one=true;simp[h.b.one,h.p.one,h.e.one]);obtain⟨M1,n1,g1,k1,hM1⟩:=mY (x:=.agg [I E,I O,ba,pa,ea]) F (0,0,3) ⟨[],0+1⟩;obtain⟨o,u⟩:∃M:Mem,M=M1.new (0,1,6) (.row tY 0 false):=⟨_,rfl⟩;have g2:o.get (0,1,6)=some (.row [I 0,nilS,nilS,nilS] 0 false):=(by rw[u,Mem.dP,aH rfl,YE]);have g23:o.get (0,0,3)=some (.row [I E,I O,ba,pa,ea] 0 false):=(by rw[u,Mem.dP,aD (λh=>by simp[Prod.ext_iff]at h)];exact g1);have l5:aA true 5 (.ptr (0,0,3) 0 0) o=some (.agg [I E,I O,ba,pa,ea]):=(by rw[aM g23];rfl);obtain⟨M3,g3,n3,k3,R⟩:=v6 (z:=4) (x:=.agg [I 0,nilS,nilS,nilS]) g2 rfl rfl rfl;have H:gT true 4 (.ptr (0,1,6) 0 0) M3=some (.agg [I 0,nilS,nilS,nilS]):=(by show aA true 4 (.ptr (0,1,6) 0 0) M3=_;rw[aM g3];rfl);have o1':aI (aG (d+26)) wH [.agg [I E,I O,ba,pa,ea],a] o=_:=o1 o;unfold xD;simp only[mem0,hM1,kA,bO,<-u,l5,aE,o1',mB,kZ,lA,fQ];by_cases g:(bF E O W J C L).2.1=0;case neg=>simp only[eT g,bW,aR,xar,aE,R,H,aH (show(bF E O W J C L).2.1≠0 from g)];exact⟨_,M3,rfl,rfl,λ_=>rfl,λh=>absurd h g⟩
 obtain⟨j,hbl,⟨f,s,p,w,c,rfl,v1,v2,v3,X,Y⟩,hI⟩:=o3 g;have hLn:L.length<=21:=by
  rcases h.n with hn|hn
  .exact hn
  .exfalso;unfold bF at g;split at g
   .rename_i e;exact e g
   .first|cases g|(rw[aH hn]at g;cases g)
 have K:=hI.x.ok hLn (by omega) (by omega:12<=d+10+8);have q1:∀l:List AV,cA (.aF l)=some (.aF l):=λ_=>rfl
 have q2:aB 2 (.aF [.aF (SC E O ba pa ea),f,.aF (SC E O ba pa ea),s,p,w,c])=some (.aF [.aF (SC E O ba pa ea),s,p,w,c]):=rfl;have q3:∀m,aA true 5 (.aF [.aF (SC E O ba pa ea),s,p,w,c]) m=some (FB E O ba pa ea s p w c):=λ_=>rfl
 have hF:∀x:AV,bG x=true->[FB E O ba pa ea s p w c,x].all bG=true:=λx hx=>by show(([AV.aF (SC E O ba pa ea),s,p,w,c].all aP)&&(bG x&&true))=true;rw[hx];simp[v2.aP,v3.aP,X.aP,Sl.aP Y];rfl
 obtain⟨mb,hkb⟩:=xgl (d+23) (x:=nm) (E:=E) (O:=O) (pa:=pa) (ea:=ea) (sc:=s) (pr:=p) (lv:=w) (cf:=c) h.b h.bn (by simp[v2.one,v3.one,X.one,Sl.one Y]);have hkb':∀m,dZ (aG (d+26)) oO [FB E O ba pa ea s p w c,T nm] m=some (I (idxQ (nmQ Bd.nm nm) 0 W),m):=λm=>W5 (hF _ rfl) hkb rfl
 rw[aD (show ¬((bF E O W J C L).2.1≠0)from λh=>h g)];simp only[fC g,cC,aS,q1,q2,q3,hkb',aE,bQ];rcases zB (nmQ Bd.nm nm) W 0 with ⟨h0,-⟩|⟨i,h0,y,-⟩
 .rw[h0];simp only[xar,aE,R,H,show((-1:Int)<0)from by decide,bV];exact⟨_,M3,rfl,rfl,λ_=>rfl,λh=>by cases h⟩
 rw[h0,HK];have N:¬((i:Int)<0):=(by omega);have P:∀{α:Type} {enc:α->List AV} {a:AV} {l:List α},Sl enc a l->eF a=true:=λh=>by rcases h with ⟨rfl,-⟩|⟨x,rfl⟩<;>rfl
 obtain⟨r,⟨Z,yo,yl,rfl,y1,y2,y3⟩,hc⟩:=gn (hF (I (i:Int)) rfl) (xka (d+10) (ea:=ea) j.b j.p v2 v3 ⟨X.aP,Sl.aP Y⟩ ⟨X.one,Sl.one Y⟩ ⟨P X,P Y⟩ j.pn K.S j.mg j.wv ⟨K.L,K.D⟩ K.Q K.f y (j.th i y) (j.po i y) j.pt);have hc':aI (aG (d+26)) wN [FB E O ba pa ea s p w c,I (i:Int)] o=_:=hc o
 obtain⟨M4,g4,n4,k4,hM4⟩:=v6 (z:=4) (x:=.agg [I (iF (bF E O W J C L).2.2.2.L (bF E O W J C L).2.2.2.S O E W[i] J),Z,yo,yl]) g2 rfl rfl (by
  show([I _,Z,yo,yl]:List AV).all AV.one=true
  simp[y1.one,y2.one,y3.one])
 have lp4:gT true 4 (.ptr (0,1,6) 0 0) M4=some (.agg [I (iF (bF E O W J C L).2.2.2.L (bF E O W J C L).2.2.2.S O E W[i] J),Z,yo,yl]):=(by show aA true 4 (.ptr (0,1,6) 0 0) M4=_;rw[aM g4];rfl);simp only[eT N,aS,hc',aE,hM4,lp4,aD N];exact⟨_,M4,rfl,by rw[vT];simp[y1.aP,y2.aP,y3.aP],λh=>absurd rfl h,λ_=>⟨i,y,rfl,Z,yo,yl,rfl,y1,y2,y3⟩⟩
open Go.Proofs
def wP(E O:Int)(W:List Bd)(J:List Pn)(C:List Pe)(L:List Ent)(nm:ByteArray):Int:=
 if(bF E O W J C L).2.1≠0 then(bF E O W J C L).2.1 else if idxQ (nmQ Pn.nm nm) 0 J<0 then 6 else
  if fP (bF E O W J C L).2.2.2.L (ofPt (idxQ (nmQ Pn.nm nm) 0 J) (bF E O W J C L).2.2.2.S)=0 then 12 else
  if fP (bF E O W J C L).2.2.2.L (ofPt (idxQ (nmQ Pn.nm nm) 0 J) (bF E O W J C L).2.2.2.S)=1 then 26 else 0
def IX:cW jY []=some (.agg [AV.sc (.pointer none),nilS,nilS,nilS,nilS]):=by kernel_rfl
def xap:cW lK []=some (.agg [I 0,nilS,nilS]):=by kernel_rfl
def xay:jY=[AV.sc (.pointer none),nilS,nilS,nilS,nilS]:=by kernel_rfl
def xny(d:Nat){a:AV}{L:List Ent}(h:SmO ba pa ea W J C a L)(nm:ByteArray) :
    ∃N P,(∀m,aI (aG (d+27)) B9 [.agg [I E,I O,ba,pa,ea],a,T nm] m=some (.tup [N,P,I (wP E O W J C L nm)],m))/\(∃cs,N=.agg cs/\cs.length=5/\cs.all AV.one=true) /\
     (((bF E O W J C L).2.1≠0\/idxQ (nmQ Pn.nm nm) 0 J<0)->P=.agg [I 0,nilS,nilS]) /\
     ((bF E O W J C L).2.1=0->¬idxQ (nmQ Pn.nm nm) 0 J<0->jc (bF E O W J C L).2.2.2.L (ofPt (idxQ (nmQ Pn.nm nm) 0 J) (bF E O W J C L).2.2.2.S) P) /\
     (wP E O W J C L nm=0->∃s p w c,N=FB E O ba pa ea s p w c/\Sl Scene.c s (bF E O W J C L).2.2.2.L/\Sl OPr.c p (bF E O W J C L).2.2.2.S/\Sl Lv10.c w (bF E O W J C L).2.2.2.V/\Ints c (bF E O W J C L).2.2.2.C):=by
 obtain⟨v,o1,o2,o3⟩:=gt d (E:=E) (O:=O) h.b h.p h.e h.bn h.pn h.en h.bs h.ps h.es h.a h.n h.t;have hstl:[AV.agg [I E,I O,ba,pa,ea],a,T nm].all bG=true:=(by have:[I E,I O,ba,pa,ea].all aP=true:=(by simp[h.b.aP,h.p.aP,h.e.aP]);rw[dQ,vT,this,dQ,h.a.bG];rfl);generalize hop:bF E O W J C L=j at *
 have hE:wP E O W J C L nm=if j.2.1≠0 then j.2.1 else if idxQ (nmQ Pn.nm nm) 0 J<0 then 6 else if fP j.2.2.2.L (ofPt (idxQ (nmQ Pn.nm nm) 0 J) j.2.2.2.S)=0 then 12 else if fP j.2.2.2.L (ofPt (idxQ (nmQ Pn.nm nm) 0 J) j.2.2.2.S)=1 then 26 else 0:=by unfold wP;rw[hop]
 rw[hE];suffices key:∃N P m',aG (d+27) [] B9 [.agg [I E,I O,ba,pa,ea],a,T nm] mem0=some (.tup [N,P,I (if j.2.1≠0 then j.2.1 else if idxQ (nmQ Pn.nm nm) 0 J<0 then 6 else if fP j.2.2.2.L (ofPt (idxQ (nmQ Pn.nm nm) 0 J) j.2.2.2.S)=0 then 12 else if fP j.2.2.2.L (ofPt (idxQ (nmQ Pn.nm nm) 0 J) j.2.2.2.S)=1 then 26 else 0)],m')/\(∃cs,N=.agg cs/\cs.length=5/\cs.all AV.one=true)/\bG N=true/\bG P=true /\
  ((j.2.1≠0\/idxQ (nmQ Pn.nm nm) 0 J<0)->P=.agg [I 0,nilS,nilS]) /\
  (j.2.1=0->¬idxQ (nmQ Pn.nm nm) 0 J<0->jc j.2.2.2.L (ofPt (idxQ (nmQ Pn.nm nm) 0 J) j.2.2.2.S) P) /\
  ((if j.2.1≠0 then j.2.1 else if idxQ (nmQ Pn.nm nm) 0 J<0 then 6 else if fP j.2.2.2.L (ofPt (idxQ (nmQ Pn.nm nm) 0 J) j.2.2.2.S)=0 then 12 else if fP j.2.2.2.L (ofPt (idxQ (nmQ Pn.nm nm) 0 J) j.2.2.2.S)=1 then 26 else 0)=0->∃s p w c,N=FB E O ba pa ea s p w c/\Sl Scene.c s j.2.2.2.L/\Sl OPr.c p j.2.2.2.S/\Sl Lv10.c w j.2.2.2.V/\Ints c j.2.2.2.C) by
  obtain⟨N,P,m',e1,e0,e2,e3,e4⟩:=key;exact⟨N,P,λm=>tO hstl e1 (by rw[dQ,e2,dQ,e3];rfl),e0,e4⟩
 rw[x9j];unfold qa UN;have hone:(AV.agg [I E,I O,ba,pa,ea]).cells.all AV.one=true:=(by show([I E,I O,ba,pa,ea]:List AV).all AV.one=true;simp[h.b.one,h.p.one,h.e.one]);obtain⟨M1,n1,g1,k1,hM1⟩:=mY (x:=.agg [I E,I O,ba,pa,ea]) hone (0,0,3) ⟨[],0+1⟩;obtain⟨F,hM2⟩:∃M:Mem,M=(M1.new (0,1,6) (.row jY 0 false)).new (0,2,7) (.row lK 0 false):=⟨_,rfl⟩;have g6:F.get (0,1,6)=some (.row [AV.sc (.pointer none),nilS,nilS,nilS,nilS] 0 false):=(by rw[hM2,Mem.dP,aD (λh=>by simp[Prod.ext_iff]at h),Mem.dP,aH rfl,xay]);have g7:F.get (0,2,7)=some (.row [I 0,nilS,nilS] 0 false):=(by rw[hM2,Mem.dP,aH rfl,AY]);have g23:F.get (0,0,3)=some (.row [I E,I O,ba,pa,ea] 0 false):=(by rw[hM2,Mem.dP,aD (λh=>by simp[Prod.ext_iff]at h),Mem.dP,aD (λh=>by simp[Prod.ext_iff]at h)];exact g1);have l5:aA true 5 (.ptr (0,0,3) 0 0) F=some (.agg [I E,I O,ba,pa,ea]):=(by rw[aM g23];rfl);have hw:∀(M:Mem) (b x:List AV),M.get (0,1,6)=some (.row [AV.sc (.pointer none),nilS,nilS,nilS,nilS] 0 false)->M.get (0,2,7)=some (.row [I 0,nilS,nilS] 0 false)->b.length=5->x.length=3->b.all AV.one=true->x.all AV.one=true ->
  ∃Y u:Mem,(∀{R:Type} (K:Mem->Option R),aZ 5 (.ptr (0,1,6) 0 0) (.agg b) M K=K Y)/\(∀{R:Type} (K:Mem->Option R),aZ 3 (.ptr (0,2,7) 0 0) (.agg x) Y K=K u)/\u.get (0,1,6)=some (.row b 0 false)/\u.get (0,2,7)=some (.row x 0 false):=by
  intro M b x hb hx lb lx ob ox;obtain⟨Y,a1,a2,a3,a4⟩:=v6 (z:=5) (x:=.agg b) hb lb rfl ob;obtain⟨u,b1,b2,b3,b4⟩:=v6 (z:=3) (x:=.agg x) (by rw[a3 _ (show((0,2,7):Id)≠(0,1,6) by decide)];exact hx) lx rfl ox;exact⟨Y,u,a4,b4,by rw[b3 _ (show((0,1,6):Id)≠(0,2,7) by decide)];exact a1,b1⟩
 have X:∀{z:Nat} {id:Id} {M:Mem} {b:List AV},M.get id=some (.row b 0 false)->b.length=z->gT true z (.ptr id 0 0) M=some (.agg b):=λ{z id M b} hg hb=>(by show aA true z (.ptr id 0 0) M=_;subst hb;rw[aM hg,bA,N3];simp);have o1':aI (aG (d+26)) wH [.agg [I E,I O,ba,pa,ea],a] F=_:=o1 F;simp only[mem0,hM1,kA,bO,<-hM2,l5,aE,o1',mB,kZ,lA,fQ];by_cases o:j.2.1=0;case neg=>obtain⟨Y,u,w1,w2,w3,w4⟩:=hw F [AV.sc (.pointer none),nilS,nilS,nilS,nilS] [I 0,nilS,nilS] g6 g7 rfl rfl rfl rfl;simp only[eT o,bW,aR,IX,xap,aE,w1,w2,X (z:=5) w3 rfl,X (z:=3) w4 rfl,aH (show j.2.1≠0 from o)];exact⟨.agg [AV.sc (.pointer none),nilS,nilS,nilS,nilS],.agg [I 0,nilS,nilS],u,rfl,⟨_,rfl,rfl,rfl⟩,rfl,rfl,λ_=>rfl,λh=>absurd h o,λh=>absurd h o⟩
 obtain⟨hO,hbl,⟨f,s,p,w,c,rfl,v1,v2,v3,v4,v5⟩,hI⟩:=o3 o;have hLn:L.length<=21:=by
  rcases h.n with hn|hn
  .exact hn
  .exfalso;rw[<-hop]at o;unfold bF at o;split at o
   .rename_i e;exact e o
   .first|cases o|(rw[aH hn]at o;cases o)
 have hX:=hI.x.ok hLn (by omega) (by omega:12<=d+11+8);have q1:∀l:List AV,cA (.aF l)=some (.aF l):=λ_=>rfl
 have q2:aB 2 (.aF [.aF (SC E O ba pa ea),f,.aF (SC E O ba pa ea),s,p,w,c])=some (.aF [.aF (SC E O ba pa ea),s,p,w,c]):=rfl;have q3:∀m,aA true 5 (.aF [.aF (SC E O ba pa ea),s,p,w,c]) m=some (FB E O ba pa ea s p w c):=λ_=>rfl
 have hF:∀x:AV,bG x=true->[FB E O ba pa ea s p w c,x].all bG=true:=λx hx=>by show(([AV.aF (SC E O ba pa ea),s,p,w,c].all aP)&&(bG x&&true))=true;rw[hx];simp[v2.aP,v3.aP,v4.aP,Sl.aP v5];rfl
 obtain⟨mb,hkb⟩:=xgk (d+23) (x:=nm) (E:=E) (O:=O) (ba:=ba) (ea:=ea) (sc:=s) (pr:=p) (lv:=w) (cf:=c) h.p h.pn (by simp[v2.one,v3.one,v4.one,Sl.one v5]);have hkb':∀m,dZ (aG (d+26)) wK [FB E O ba pa ea s p w c,T nm] m=some (I (idxQ (nmQ Pn.nm nm) 0 J),m):=λm=>W5 (hF _ rfl) hkb rfl
 simp only[fC o,cC,aS,q1,q2,q3,hkb',aE,bQ];rw[aD (show ¬(j.2.1≠0)from λh=>h o)];rcases zB (nmQ Pn.nm nm) J 0 with ⟨h0,-⟩|⟨i,h0,hi,-⟩
 .rw[h0];obtain⟨Y,u,w1,w2,w3,w4⟩:=hw F [AV.sc (.pointer none),nilS,nilS,nilS,nilS] [I 0,nilS,nilS] g6 g7 rfl rfl rfl rfl;simp only[bC,aR,IX,xap,aE,w1,w2,X (z:=5) w3 rfl,X (z:=3) w4 rfl,show((-1:Int)<0)from by decide,bV];exact⟨.agg [AV.sc (.pointer none),nilS,nilS,nilS,nilS],.agg [I 0,nilS,nilS],u,rfl,⟨_,rfl,rfl,rfl⟩,rfl,rfl,λ_=>rfl,λ_ h=>absurd (by decide) h,λh=>by cases h⟩
 rw[h0,HK];have H:¬((i:Int)<0):=(by omega);obtain⟨r,⟨y,g,rfl,y1,y2⟩,hc⟩:=gn (hF (I (i:Int)) rfl) (xj9 (d+11) (ba:=ba) (pa:=pa) (ea:=ea) (E:=E) (O:=O) v2 v3 ⟨v4.one,Sl.one v5⟩ ⟨v4.aP,Sl.aP v5⟩ hX.S (i:Int) ⟨hX.L,hX.D,hX.Q i⟩);have hc':aI (aG (d+26)) C2 [FB E O ba pa ea s p w c,I (i:Int)] F=_:=hc F;generalize hkk:fP j.2.2.2.L (ofPt (i:Int) j.2.2.2.S)=A at *
 have Z:([I A,y,g]:List AV).all AV.one=true:=(by simp[Sl.one y1,Sl.one y2]);obtain⟨M3,n3,g3,k3,hM3⟩:=mZ (z:=3) (cs:=lK) (x:=.agg [I A,y,g]) Z rfl (by rw[AY];rfl) (0,31,13) F;have hM3':∀{R:Type} (K:Mem->Option R),aZ 3 (.ptr (0,31,13) 0 0) (.agg [I A,y,g]) (F.new (0,31,13) (.row lK 0 false)) K=K M3:=λK=>by have:=hM3 (λ_ m=>K m);rw[kA]at this;exact this
 have g3':M3.get (0,31,13)=some (.row [I A,y,g] 0 false):=g3;have l3:aA true 3 (.ptr (0,31,13) 0 0) M3=some (.agg [I A,y,g]):=(by rw[aM g3'];rfl);have l30:aA false 1 (.ptr (0,31,13) 0 0) M3=some (I A):=(by rw[aM g3'];rfl);have g63:M3.get (0,1,6)=some (.row [AV.sc (.pointer none),nilS,nilS,nilS,nilS] 0 false):=(by rw[k3 _ (λh=>by simp[Prod.ext_iff]at h)];exact g6);have g73:M3.get (0,2,7)=some (.row [I 0,nilS,nilS] 0 false):=(by rw[k3 _ (λh=>by simp[Prod.ext_iff]at h)];exact g7);have ap:aY (tR (.ptr (0,31,13) 0 0)) (tS (.ptr (0,1,6) 0 0))=true:=ie (λh=>by simp[Prod.ext_iff]at h);have stx:bG (.agg [I A,y,g])=true:=(by rw[vT];simp[Sl.aP y1,Sl.aP y2]);have oFB:([.aF (SC E O ba pa ea),s,p,w,c]:List AV).all AV.one=true:=(by simp[v2.one,v3.one,v4.one,Sl.one v5];rfl);simp only[eT H,aS,hc',aE,hM3',cM,bO,l30,fV,aD H];by_cases c2:A=0
 .obtain⟨Y,u,w1,w2,w3,w4⟩:=hw M3 [AV.sc (.pointer none),nilS,nilS,nilS,nilS] [I A,y,g] g63 g73 rfl rfl rfl Z;simp only[fC c2,aR,IX,aE,l3,w1,w2,ap,gC,bB,X (z:=5) w3 rfl,X (z:=3) w4 rfl,aH c2];exact⟨.agg [AV.sc (.pointer none),nilS,nilS,nilS,nilS],.agg [I A,y,g],u,rfl,⟨_,rfl,rfl,rfl⟩,rfl,stx,λh=>by rcases h with h|h;exact absurd o h;exact absurd h H,λ_ _=>⟨y,g,by rw[hkk],y1,y2⟩,λh=>by cases h⟩
 by_cases c3:A=1
 .obtain⟨Y,u,w1,w2,w3,w4⟩:=hw M3 [AV.sc (.pointer none),nilS,nilS,nilS,nilS] [I A,y,g] g63 g73 rfl rfl rfl Z;simp only[eT c2,aS,fC c3,aR,IX,aE,l3,w1,w2,ap,gC,bB,X (z:=5) w3 rfl,X (z:=3) w4 rfl,aD c2,aH c3];exact⟨.agg [AV.sc (.pointer none),nilS,nilS,nilS,nilS],.agg [I A,y,g],u,rfl,⟨_,rfl,rfl,rfl⟩,rfl,stx,λh=>by rcases h with h|h;exact absurd o h;exact absurd h H,λ_ _=>⟨y,g,by rw[hkk],y1,y2⟩,λh=>by cases h⟩
 .obtain⟨Y,u,w1,w2,w3,w4⟩:=hw M3 [.aF (SC E O ba pa ea),s,p,w,c] [I A,y,g] g63 g73 rfl rfl oFB Z;simp only[eT c2,aS,eT c3,aE,l3,w1,w2,ap,gC,bB,X (z:=5) w3 rfl,X (z:=3) w4 rfl,aD c2,aD c3];exact⟨FB E O ba pa ea s p w c,.agg [I A,y,g],u,rfl,⟨_,rfl,rfl,oFB⟩,by rw[vT];simp[v2.aP,v3.aP,v4.aP,Sl.aP v5];rfl,stx,λh=>by rcases h with h|h;exact absurd o h;exact absurd h H,λ_ _=>⟨y,g,by rw[hkk],y1,y2⟩,λ_=>⟨s,p,w,c,rfl,v2,v3,v4,v5⟩⟩
end Go.Ix
namespace Go.Ix
open Go.Proofs
variable{ba pa ea:AV}{W:List Bd}{J:List Pn}{C:List Pe}{E O:Int}{X:St10}
def xpq{a b:ByteArray}(h:eS a b=true):a=b:=by unfold eS at h;rw[ByteArray.toList_eq,ByteArray.toList_eq]at h;exact ByteArray.ext (xae.1 (by simpa using h))
def xfc{s:ByteArray}{l:List ByteArray}(h:iI s l=0):nmOK s=true/\∀y∈l,eS y s=false:=by
 unfold iI at h;cases a:nmOK s with
 |false=>rw[a]at h;cases h
 |true=>
  refine⟨rfl,λy b=>?_⟩;rw[a]at h;cases d:eS y s with
  |false=>rfl
  |true=>have:l.any (λy=>eS y s)=true:=pB.mpr ⟨y,b,d⟩;rw[this]at h;cases h
def ML{α:Type}{f:List ByteArray->α->Int}{nm:α->ByteArray}:∀{l:List α} {b:List ByteArray},eW f nm b l=0->∀(i:Nat) (a:i<l.length),f (b++(l.take i).map nm) l[i]=0
 |[],_,_,i,a=>by simp at a
 |y::r,b,h,i,a=>by
  rw[eW]at h;obtain⟨d,e⟩:=rK h;cases i with
  |zero=>simpa using d
  |succ i=>have:=ML e i (by simpa using a);simpa using this
structure NmOK (bl:List Bd) (pl:List Pn) (C:List Pe):Prop where
 e:∀p∈C,nmOK p.nm=true
 p:∀(i:Nat) (hi:i<pl.length),nmOK pl[i].nm=true/\idxQ (nmQ Pn.nm pl[i].nm) 0 pl=i
 b:∀(i:Nat) (hi:i<bl.length),nmOK bl[i].nm=true/\idxQ (nmQ Bd.nm bl[i].nm) 0 bl=i
def xhb{α:Type}{q:α->Bool}:∀{l:List α} {i:Nat} (k:Int) (a:i<l.length),q l[i]=true->(∀(j:Nat) (b:j<l.length),j<i->q l[j]=false)->idxQ q k l=k+i
 |[],i,k,a,_,_=>by simp at a
 |y::r,i,k,a,d,e=>by
  cases i with
  |zero=>have h1':q y=true:=d;rw[idxQ,h1'];simp
  |succ i=>
   have g:q y=false:=e 0 (by simp) (by omega);rw[idxQ,g]
   have:=xhb (l:=r) (i:=i) (k+1) (by simpa using a) (by simpa using d) (λj b f=>by
    have:=e (j+1) (by simpa using b) (by omega)
    simpa using this)
   show idxQ q (k+1) r=_;rw[this];omega
def xc6(h:iG E O W J C=0):NmOK W J C:=by
 unfold iG at h;split at h;case isFalse=>cases h
 split at h
 .cases h
 obtain⟨g,h⟩:=rK h;split at h
 .cases h
 obtain⟨m,h⟩:=rK h;split at h
 .cases h
 split at h
 .cases h
 have b:∀{α:Type} {nm:α->ByteArray} {l:List α},(∀(i:Nat) (a:i<l.length),iI (nm l[i]) ((l.take i).map nm)=0)->∀(i:Nat) (a:i<l.length),nmOK (nm l[i])=true/\idxQ (nmQ nm (nm l[i])) 0 l=i:=by
  intro α nm l f i a;obtain⟨n,o⟩:=xfc (f i a);refine⟨n,?_⟩
  have:=xhb (q:=nmQ nm (nm l[i])) (l:=l) (i:=i) 0 a (by unfold nmQ eS;simp) (λj r d=>by
   refine o (nm l[j]) (fK.mpr ⟨l[j],?_,rfl⟩)
   rw[zT]
   exact⟨j,by rw[xH];omega,by rw[NS]⟩)
  rw[this];omega
 refine⟨λp e=>?_,b λi a=>?_,b λi a=>?_⟩
 .obtain⟨i,a,rfl⟩:=zT.mp e;have:=ML h i a;unfold uP at this;exact(xfc (rK this).1).1
 .have:=ML m i a;unfold nI at this;rw[iX]at this;exact(rK this).1
 .have:=ML g i a;unfold mJ at this;rw[iX]at this;exact(rK this).1
def xeq{L:List Ent}(h:(bF E O W J C L).2.1=0):iG E O W J C=0/\L.length<=40/\(lN O E W J C 0 L [] X0).2.1=0/\bF E O W J C L=lN O E W J C 0 L [] X0:=by
 unfold bF at h ⊢;by_cases a:iG E O W J C=0
 .rw[aD (λh=>h a)]at h ⊢;by_cases b:40<L.length
  .rw[aH b]at h;cases h
  .rw[aD b]at h ⊢;exact⟨a,by omega,h,rfl⟩
 .rw[aH a]at h;exact absurd h a
open Go.Proofs
def x47{s O E d a b:Int}(g:1<=E)(i:-O<=a/\a<=O)(j:-O<=b/\b<=O)(l:0<=d) :
    (oV s O E d=2->8192*d<(((s+b-a)*E).natAbs:Int))/\(oV s O E d=0->¬8192*d<(((s+b-a)*E).natAbs:Int)):=by
 have m:(s+b-a)*E<=(s+2*O)*E:=jy (by omega) (by omega);have n:(s-2*O)*E<=(s+b-a)*E:=jy (by omega) (by omega);have e:-E*(s+2*O)=-((s+2*O)*E):=(by rw[Int.neg_mul,Int.mul_comm]);have f:-E*(s-2*O)=-((s-2*O)*E):=(by rw[Int.neg_mul,Int.mul_comm]);unfold oV;rw[e,f];generalize (s+b-a)*E=x at *
 generalize (s+2*O)*E=u at *
 generalize (s-2*O)*E=w at *
 split
 .exact⟨λ_=>by omega,λh=>(by cases h)⟩
 .split
  .exact⟨λh=>(by cases h),λ_=>by omega⟩
  .exact⟨λh=>(by cases h),λh=>(by cases h)⟩
def mF(l:List Int):Int:=l.foldl (λn x=>if x=1000000000000 then n else x) 0
def cr(l:List Int)(x:Int):mF (l++[x])=if x=1000000000000 then mF l else x:=by unfold mF;rw[HF];rfl
def xgc(l:List Int):∀k:Nat,k<l.length->at0 l (rS l k)≠1000000000000->mF (l.take (k+1))=at0 l (rS l k)
 |0,a,h=>by
  have:l.take 1=[l[0]]:=by
   cases l with
   |nil=>simp at a
   |cons y r=>rfl
  rw[bO,this];have e:at0 l 0=l[0]:=(by unfold at0;simp[eU,a]);show mF ([]++[l[0]])=at0 l 0;have h':at0 l 0≠1000000000000:=h;rw[cr,e,aD (by rw[<-e];exact h')]
 |k+1,a,h=>by
  have e:at0 l (k+1)=l[k+1]:=(by unfold at0;simp[eU,a]);rw[List.take_add_one,eY a,xki,cr,<-e];rw[rS]at h ⊢;split
  .rename_i c;rw[aH c]at h;exact xgc l k (by omega) h
  .rfl
def x1o{l:List Int}(a:0<l.length)(h:at0 l (kC l)≠1000000000000):mF l=at0 l (kC l):=by have:=xgc l (l.length-1) (by omega) h;rw[show l.length-1+1=l.length by omega,GY]at this;exact this
def xq6{q:Nat->Bool}(b:∀(i:Nat) (d:i<J.length),nmOK J[i].nm=true/\idxQ (nmQ Pn.nm J[i].nm) 0 J=i){j:Nat}(a:j<J.length):(selN q J J.length).any (λy=>eS y J[j].nm)=q j:=by
 rw[xO,pB];unfold selN;constructor
 .rintro⟨y,f,g⟩;obtain⟨i,d,rfl⟩:=fK.mp f;obtain⟨n,o⟩:=gW.mp d;have hi':i<J.length:=(by simpa using n);have e:J[i].nm=J[j].nm:=(by have:=xpq g;rw[eY hi']at this;exact this);have l:=(b i hi').2;have m:=(b j a).2;rw[e,m]at l;have:i=j:=(by omega);rw[<-this];exact o
 .intro h;refine⟨J[j].nm,fK.mpr ⟨j,gW.mpr ⟨by simpa using a,h⟩,by rw[eY a];rfl⟩,by unfold eS;simp⟩
def ZX{q:Nat->Bool}{n j:Nat}(a:j<n)(h:q j=true):0<(selN q J n).length:=by unfold selN;rw[qL];exact xkz (gW.mpr ⟨by simpa using a,h⟩)
def x1d(L:List Scene)(S:List OPr)(j:Nat):nT L S j=0\/nT L S j=1\/nT L S j=2:=by
 unfold nT fP;split
 .exact .inl rfl
 .split
  .exact .inr (.inr rfl)
  .exact .inr (.inl rfl)
def x48(s O E a:Int):oV s O E a=2\/oV s O E a=0\/oV s O E a=1:=by
 unfold oV;split
 .exact .inl rfl
 .split
  .exact .inr (.inl rfl)
  .exact .inr (.inr rfl)
def ig{L:List Scene}{S:List OPr}{b:Bd}(h:iF L S O E b J=0):0<cntJ b J J.length/\∀j,j<J.length->nV b J j=true->nT L S j=2/\MM L S O E b.th j=0:=by
 unfold iF at h;split at h
 .cases h
 rename_i p;split at h
 .cases h
 rename_i m;refine⟨by have:¬cntJ b J J.length=0:=λe=>m (.inr (.inl e));omega,λj l o=>?_⟩;have a:blindQ L S b J j=false:=by
  cases i:blindQ L S b J j with
  |false=>rfl
  |true=>exact absurd (.inr (.inr (by have:=ZX (J:=J) l i;omega))) m
 have f:openQ L S b J j=false:=by
  cases i:openQ L S b J j with
  |false=>rfl
  |true=>exact absurd (.inr (.inr (by have:=ZX (J:=J) l i;omega))) m
 have d:sureQ L S O E b J j=false:=by
  cases i:sureQ L S O E b J j with
  |false=>rfl
  |true=>exact absurd (ZX (J:=J) l i) p
 have g:pW L S O E b J j=false:=by
  cases i:pW L S O E b J j with
  |false=>rfl
  |true=>exact absurd (.inl (pB.mpr ⟨j,by simpa using l,i⟩)) m
 unfold blindQ at a;unfold openQ at f;unfold sureQ at d;unfold pW at g;rw[o,gO]at a f d g;have n:nT L S j=2:=by
  rcases x1d L S j with e|e|e
  .exact absurd e (of_decide_eq_false a)
  .exact absurd e (of_decide_eq_false f)
  .exact e
 rw[fC n,gO]at d g;refine⟨n,?_⟩;rcases x48 (at0 (dW L (ofPt j S)) (kC (dW L (ofPt j S)))) O E b.th with e|e|e
 .exact absurd e (of_decide_eq_false d)
 .exact e
 .exact absurd e (of_decide_eq_false g)
def xzu(b:Bd)(h:0<cntJ b J J.length):0<(namesP b J).length:=by unfold cntJ at h;obtain⟨j,d⟩:=List.exists_mem_of_length_pos h;obtain⟨e,a⟩:=gW.mp d;have hj':j<J.length:=(by simpa using e);rw[LY hj']at a;unfold namesP;exact xkz (fK.mpr ⟨J[j],gW.mpr ⟨eX hj',a⟩,rfl⟩)
def xzv(b:Bd){x:ByteArray}(h:x∈namesP b J):∃(j:Nat) (a:j<J.length),x=J[j].nm/\nV b J j=true:=by unfold namesP at h;obtain⟨p,d,rfl⟩:=fK.mp h;obtain⟨e,f⟩:=gW.mp d;obtain⟨j,a,rfl⟩:=zT.mp e;exact⟨j,a,rfl,by rw[LY a];exact f⟩
def ycl{L:List Scene}{S:List OPr}{b:Bd}{j:Nat}(g:j<J.length)(d:nV b J j=true)(n:L.length<=12)(o:∀p∈S,p.f.natAbs<=400000)(r:1<=E)(t:0<=b.th){f s:Int}(u:-O<=f/\f<=O)(Z:-O<=s/\s<=O)(h:sureQ L S O E b J j=true\/iF L S O E b J=0):nT L S j=2/\(dW L (ofPt j S)).length=L.length/\mF (dW L (ofPt j S))=at0 (dW L (ofPt j S)) (kC (dW L (ofPt j S))) /\
 -100000000<=mF (dW L (ofPt j S))/\mF (dW L (ofPt j S))<=100000000 /\
 sureQ L S O E b J j=decide (8192*b.th<(((mF (dW L (ofPt j S))+s-f)*E).natAbs:Int)):=by
 have i:nT L S j=2:=by
  rcases h with h|h
  .unfold sureQ at h;rw[d,gO,cK]at h;exact sN h.1
  .exact((ig h).2 j g d).1
 have hQ':∀p∈ofPt (j:Int) S,p.f.natAbs<=400000:=λp w=>o p (gW.mp w).1
 obtain⟨x,F,y,A⟩:=xf3 (Q:=ofPt (j:Int) S) i n hQ';have e:=x1o (l:=dW L (ofPt (j:Int) S)) (by omega) (by omega);rw[e];refine⟨i,x,rfl,y,A,?_⟩;obtain⟨C,D⟩:=x47 (s:=at0 (dW L (ofPt (j:Int) S)) (kC (dW L (ofPt (j:Int) S)))) (a:=f) (b:=s) r u Z t;rcases h with h|h
 .rw[h];unfold sureQ at h;rw[d,gO,cK]at h;exact(fC (C (sN h.2))).symm
 .have m:=((ig h).2 j g d).2;have:sureQ L S O E b J j=false:=(by unfold sureQ;rw[m];simp);rw[this];exact(eT (D m)).symm
end Go.Ix
namespace Go.Ix
open Go.Proofs
variable{ba pa ea:AV}{W:List Bd}{J:List Pn}{C:List Pe}{E O:Int}
def LU(b:Bd):Int->List Pn->List Int
 |_,[]=>[]
 |k,p::r=>bif rV b p then k::LU b (k+1) r else LU b (k+1) r
def qY(x:ByteArray):Bool:=decide (x.size<=20)
def v8(C:List Pe):Bool:=C.all λe=>qY e.nm
def L7(J:List Pn):Bool:=J.all λe=>qY e.nm
def CF(W:List Bd):Bool:=W.all λe=>qY e.nm&&decide (e.cs.length<=22)
def xZ(W:List Bd)(J:List Pn)(C:List Pe):Bool:=decide (W.length<=8)&&(decide (J.length<=10)&&(decide (C.length<=12)&&(CF W&&(L7 J&&v8 C))))
def ZU(x:ByteArray):decide ((20:Int)<(x.size:Int))=!qY x:=by
 unfold qY;by_cases h:x.size<=20
 .simp[h,show ¬(20:Int)<(x.size:Int) by omega]
 .simp[h,show(20:Int)<(x.size:Int) by omega]
section
variable(call:aK)(Z:FHs)(u:Nat){id:Id}
def x1t(h:Sl Pe.c ea C)(y:C.length<=1000):∀(a:List Pe) (k j:Nat) (m:Mem) (Y:Nat),C.drop k=a->a.length<j->m.get id=some (.row [I E,I O,ba,pa,ea] 0 false) ->
    AK call Z u j (.ptr id 0 0) (I k) m Y=some (B (v8 a),m):=by
 intro a;induction a with
 |nil=>intro k j m Y g b d;obtain⟨j,rfl⟩:=dF b;have f:¬((k:Int)<(C.length:Int)):=(by have:=gX.mp g;omega);simp only[AK];unfold WQ zu;simp only[cM,aE,aM d,bO,bA,cZ,cE,h.len uC,bQ,f,bK,aS];rfl
 |cons e r x=>
  intro k j m Y g b d;obtain⟨j,rfl⟩:=dF b;obtain⟨f,w,i⟩:=gK g;have hk':(k:Int)<(C.length:Int):=(by omega);have ix:=h.ix Pe.len f;have l:aB 0 (.aF ((C.drop k).flatMap Pe.c))=some (.aF ((C.drop k).flatMap Pe.c)):=rfl;have n:∀m,aA false 1 (.aF ((C.drop k).flatMap Pe.c)) m=some (T e.nm):=λm=>by rw[fT f,dN,w];rfl
  have o:=gH k (by omega);have p:=x (k+1) j m (Y+16) i (by simp at b;omega) d;have t:v8 (e::r)=(qY e.nm&&v8 r):=rfl;simp only[AK];unfold WQ;simp only[cM,aE,aM d,bO,bA,cZ,cE,h.len uC,bQ,hk',bC,aR,ix,l,n,KO,gZ,ZU,t];cases qY e.nm
  .simp only[bW,aR,pE]
  .simp only[cC,aS,dJ,o,aE,p,gO]
def x1s(h:Sl Pn.c pa J)(D:J.length<=1000)(n:Sl Pe.c ea C)(g:C.length<=1000):∀(a:List Pn) (k j:Nat) (m:Mem) (Y:Nat),J.drop k=a->a.length<j->m.get id=some (.row [I E,I O,ba,pa,ea] 0 false) ->
    AJ call Z u j (.ptr id 0 0) (I k) m Y=some (B (L7 a&&v8 C),m):=by
 intro a;induction a with
 |nil=>intro k j m Y i d b;obtain⟨j,rfl⟩:=dF d;have f:¬((k:Int)<(J.length:Int)):=(by have:=gX.mp i;omega);have r:=x1t call Z u (E:=E) (O:=O) (ba:=ba) (pa:=pa) (id:=id) n g C 0 NN m (Y+5+1) rfl (by rw[cU];omega) b;rw[show I ((0:Nat):Int)=I 0 from rfl]at r;simp only[AJ];unfold WP zt;simp only[cM,aE,aM b,bO,bA,cZ,cE,h.len pL,bQ,f,bK,aS,r];rfl
 |cons e r A=>
  intro k j m Y i d b;obtain⟨j,rfl⟩:=dF d;obtain⟨f,y,l⟩:=gK i;have hk':(k:Int)<(J.length:Int):=(by omega);have ix:=h.ix Pn.len f;have o:aB 0 (.aF ((J.drop k).flatMap Pn.c))=some (.aF ((J.drop k).flatMap Pn.c)):=rfl;have p:∀m,aA false 1 (.aF ((J.drop k).flatMap Pn.c)) m=some (T e.nm):=λm=>by rw[fT f,dN,y];rfl
  have t:=gH k (by omega);have w:=A (k+1) j m (Y+16) l (by simp at d;omega) b;have x:L7 (e::r)=(qY e.nm&&L7 r):=rfl;simp only[AJ];unfold WP;simp only[cM,aE,aM b,bO,bA,cZ,cE,h.len pL,bQ,hk',bC,aR,ix,o,p,KO,gZ,ZU,x];cases qY e.nm
  .simp only[bW,aR,pE]
  .simp only[cC,aS,dJ,t,aE,w,gO]
def xpg:prog.underlying pF=some (.slice tZ):=by kernel_rfl
def x1r(g:Sl Bd.c ba W)(t:W.length<=1000)(h:Sl Pn.c pa J)(w:J.length<=1000)(x:Sl Pe.c ea C)(i:C.length<=1000):∀(a:List Bd) (k j:Nat) (m:Mem) (Y:Nat),W.drop k=a->a.length<j->m.get id=some (.row [I E,I O,ba,pa,ea] 0 false) ->
    AH call Z u j (.ptr id 0 0) (I k) m Y=some (B (CF a&&(L7 J&&v8 C)),m):=by
 intro a;induction a with
 |nil=>intro k j m Y l f b;obtain⟨j,rfl⟩:=dF f;have d:¬((k:Int)<(W.length:Int)):=(by have:=gX.mp l;omega);have r:=x1s call Z u (E:=E) (O:=O) (ba:=ba) (id:=id) h w x i J 0 NN m (Y+5+1) rfl (by rw[cU];omega) b;rw[show I ((0:Nat):Int)=I 0 from rfl]at r;simp only[AH];unfold WO zr;simp only[cM,aE,aM b,bO,bA,cZ,cE,g.len qT,bQ,d,bK,aS,r];rfl
 |cons e r M=>
  intro k j m Y l f b;obtain⟨j,rfl⟩:=dF f;obtain⟨d,p,o⟩:=gK l;have hk':(k:Int)<(W.length:Int):=(by omega);have ix:=g.ix Bd.len d;have y:aB 0 (.aF ((W.drop k).flatMap Bd.c))=some (.aF ((W.drop k).flatMap Bd.c)):=rfl;have A:∀m,aA false 1 (.aF ((W.drop k).flatMap Bd.c)) m=some (T e.nm):=λm=>by rw[fT d,dN,p];rfl
  have D:aB 1 (.aF ((W.drop k).flatMap Bd.c))=some (.aF (((W.drop k).flatMap Bd.c).drop 1)):=rfl;have F:∀m,aA false 1 (.aF (((W.drop k).flatMap Bd.c).drop 1)) m=some e.ca:=λm=>by rw[fT d,dN,p];rfl
  have n:aN prog pF e.ca=some (I e.cs.length):=e.ok.len xpg;have H:=gH k (by omega);have K:=M (k+1) j m (Y+26) o (by simp at f;omega) b;have L:CF (e::r)=((qY e.nm&&decide (e.cs.length<=22))&&CF r):=rfl;simp only[AH];unfold WO;simp only[cM,aE,aM b,bO,bA,cZ,cE,g.len qT,bQ,hk',bC,aR,ix,y,A,KO,gZ,ZU,L];cases qY e.nm
  .simp only[bW,gI,dO,dR,cC,cS,aE,cN,bB,aR,pE]
  .simp only[cC,gI,dO,dR,bW,bB,aE,aM b,bA,cZ,cE,ix,D,F,n,gZ,cN,cS,gO];by_cases c:e.cs.length<=22
   .simp only[show ¬((22:Int)<(e.cs.length:Int)) by omega,c,bK,bC,aS,dJ,H,aE,K,gO]
   .simp only[show((22:Int)<(e.cs.length:Int)) by omega,c,bK,bC,aR,pE]
end
def xoi(d:Nat)(f:Sl Bd.c ba W)(a:Sl Pn.c pa J)(b:Sl Pe.c ea C)(m:Mem):aI (aG (d+1)) T1 [.agg [I E,I O,ba,pa,ea]] m=some (B (xZ W J C),m):=by
 refine dT (by simp[f.aP,a.aP,b.aP]) ?_ m;rw[yal];unfold rt WN;have l:(AV.agg [I E,I O,ba,pa,ea]).cells.all AV.one=true:=(by rw[jT];simp[f.one,a.one,b.one]);simp only[mem0,fN,l,bB];generalize h:Mem.new _ _ _=m1;have e:m1.get (0,0,1)=some (.row [I E,I O,ba,pa,ea] 0 false):=(by rw[<-h,Mem.iB];rfl);unfold xZ;simp only[cM,aE,aM e,bO,bA,cZ,cE,f.len qT,gZ];by_cases g:W.length<=8;rotate_left
 .simp only[show((8:Int)<(W.length:Int)) by omega,g,bC,bK,dO,dR,cC,cS,bB,aE,cN,aR,pE];exact RetF.st rfl rfl
 by_cases i:J.length<=10;rotate_left
 .simp only[show ¬((8:Int)<(W.length:Int)) by omega,g,bC,bK,dO,dR,cC,bW,cS,bB,aE,cN,aR,pE,gO,aM e,bA,cZ,cE,a.len pL,gZ,show((10:Int)<(J.length:Int)) by omega,i];exact RetF.st rfl rfl
 by_cases j:C.length<=12;rotate_left
 .simp only[show ¬((8:Int)<(W.length:Int)) by omega,g,bC,bK,dO,dR,bW,cS,bB,aE,cN,aR,pE,gO,aM e,bA,cZ,cE,a.len pL,b.len uC,gZ,show ¬((10:Int)<(J.length:Int)) by omega,i,show((12:Int)<(C.length:Int)) by omega,j];exact RetF.st rfl rfl
 have r:=x1r (aG d) [] 0 (id:=(0,0,1)) (E:=E) (O:=O) f (by omega) a (by omega) b (by omega) W 0 NN m1 (0+18+1) rfl (by rw[cU];omega) e;rw[show I ((0:Nat):Int)=I 0 from rfl]at r;unfold zq;simp only[show ¬((8:Int)<(W.length:Int)) by omega,g,bC,bK,dO,dR,bW,cS,bB,aE,cN,aS,gO,aM e,bA,cZ,cE,a.len pL,b.len uC,gZ,show ¬((10:Int)<(J.length:Int)) by omega,i,show ¬((12:Int)<(C.length:Int)) by omega,j];rw[bO]at r;rw[r];exact RetF.st rfl rfl
end Go.Ix
namespace Go.Ix
open Go.Proofs
variable{ba pa ea:AV}{W:List Bd}{J:List Pn}{C:List Pe}{E O:Int}
def x6h{W a:List Bd}(h:a.map Bd.core=W.map Bd.core)(b:∀x∈W,x.nm.size<=1000/\x.cs.length<=1000):∀x∈a,x.nm.size<=1000/\x.cs.length<=1000:=λx d=>by have:x.core∈W.map Bd.core:=h▸jh d;obtain⟨y,i,e⟩:=fK.mp this;have f:y.nm=x.nm:=congrArg (·.1) e;have g:y.cs=x.cs:=congrArg (·.2.1) e;have:=b y i;rw[f,g]at this;exact this
def ZV(h:xZ W J C=true):W.length<=8/\J.length<=10/\C.length<=12/\(∀x∈W,x.nm.size<=1000/\x.cs.length<=1000)/\(∀x∈J,x.nm.size<=1000)/\∀x∈C,x.nm.size<=1000:=by
 unfold xZ CF L7 v8 qY at h;simp only[cK,lF,dG]at h;obtain⟨b,d,e,f,g,i⟩:=h;refine⟨b,d,e,λx a=>?_,λx a=>?_,λx a=>?_⟩
 .have:=f x a;omega
 .have:=g x a;omega
 .have:=i x a;omega
def xo6(d:Nat){a:AV}{L:List Ent}(b:Sl Ent.c a L)(e:L.length<=9223372036854775807)(m:Mem):aI (aG (d+1)) EZ [a] m=some (B (zK L&&(decide (L.length<=20)||(decide (40<L.length)&&decide (L.length<=42)))),m):=by refine Ans.gG (m:=m) ?_ (by simp[b.bG]) rfl;unfold Ans;rw[yam];unfold ru WR zw;exact⟨_,xgg _ _ _ b L 0 NN _ _ rfl (by rw[cU];omega) e⟩
def ybt{L:List Ent}(h:(zK L&&(decide (L.length<=20)||(decide (40<L.length)&&decide (L.length<=42))))=true):(∀x∈L,Br10 x)/\L.length<=42:=by simp only[cK,kT,lF]at h;refine⟨λx a=>?_,by omega⟩;have:=dG.1 h.1 x a;simp only[cK,lF]at this;exact⟨by omega,by omega⟩
end Go.Ix
namespace Go.Ix
open Go.Proofs
variable{ba pa ea:AV}{W:List Bd}{J:List Pn}{C:List Pe}{E O:Int}{X:St10}
def gp{a:aK}{f:FuncId}{l:List AV}{r:AV}{g i:Mem}(b:l.all bG=true)(h:aI a f l g=some (r,i))(m:Mem):aI a f l m=some (r,m):=by
 unfold aI at h;rw[zE _ b]at h;dsimp only at h;cases d:a [] f l mem0 with
 |none=>rw[d]at h;cases h
 |some p=>
  rw[d]at h;dsimp only at h;cases e:Go.Ix.frz p.2.get bL p.1 with
  |none=>rw[e]at h;cases h
  |some r0=>rw[e]at h;have:=congrArg Prod.fst (qJ h);dsimp only at this;subst this;exact W6 b d e
def ybg(d:Nat)(j:Sl Bd.c ba W)(l:Sl Pn.c pa J)(n:Sl Pe.c ea C)(h:xZ W J C=true)(E O:Int) :
    ∃a e f g,Sl Bd.c a g/\g.map Bd.core=W.map Bd.core/\Sl Pn.c e J/\Sl Pe.c f C/\∀m,aI (aG (d+1)) sP [.agg [I E,I O,ba,pa,ea]] m=some (.agg [I E,I O,a,e,f],m):=by
 obtain⟨o,A,D,i,p,r⟩:=ZV h;obtain⟨a,e,f,g,t,u,w,x,y⟩:=xoz d (E:=E) (O:=O) j l n (by omega) (by omega) (by omega) (λb o=>by have:=(i b o).2;omega) mem0;exact⟨a,e,f,g,t,u,w,x,λm=>gp (by rw[dQ,vT];simp[j.aP,l.aP,n.aP]) y m⟩
def ybh(d:Nat){a:AV}{L:List Ent}(e:Sl Ent.c a L)(f:L.length<=1000000):∃b,Sl Ent.c b L/\∀m,aI (aG (d+1)) wG [a] m=some (b,m):=by obtain⟨b,g,h⟩:=xo0 d e f mem0;exact⟨b,g,λm=>gp (by rw[dQ,e.bG];rfl) h m⟩
def SmO.mk10{d e f b:AV}{a:List Bd}{L:List Ent}(i:Sl Bd.c d a)(h:a.map Bd.core=W.map Bd.core)(j:Sl Pn.c e J)(l:Sl Pe.c f C)(g:xZ W J C=true)(m:Sl Ent.c b L)(n:L.length<=21\/40<L.length)(o:∀x∈L,x.tx.length<=1000):SmO d e f a J C b L:=by obtain⟨w,y,A,p,r,t⟩:=ZV g;have u:a.length=W.length:=(by simpa using congrArg List.length h);exact⟨i,j,l,by omega,by omega,by omega,x6h h p,r,t,m,n,o⟩
def xol(d:Nat){a:AV}{L:List Ent}(h:SmO ba pa ea W J C a L)(nm:ByteArray) :
    ∃p o,(∀m,aI (aG (d+28)) S7 [.agg [I E,I O,ba,pa,ea],a,T nm] m=some (.tup [p,o,I (wP E O W J C L nm)],m)) /\
     (((bF E O W J C L).2.1≠0\/idxQ (nmQ Pn.nm nm) 0 J<0)->p=nilS/\o=nilS) /\
     ((bF E O W J C L).2.1=0->¬idxQ (nmQ Pn.nm nm) 0 J<0->Ints p (dW (bF E O W J C L).2.2.2.L (ofPt (idxQ (nmQ Pn.nm nm) 0 J) (bF E O W J C L).2.2.2.S))/\Ints o (U1 (bF E O W J C L).2.2.2.L (ofPt (idxQ (nmQ Pn.nm nm) 0 J) (bF E O W J C L).2.2.2.S))):=by
 obtain⟨vb,vx,o1,u,o2,o3,o4⟩:=xny d (E:=E) (O:=O) h nm;have g:[AV.agg [I E,I O,ba,pa,ea],a,T nm].all bG=true:=(by have:[I E,I O,ba,pa,ea].all aP=true:=(by simp[h.b.aP,h.p.aP,h.e.aP]);rw[dQ,vT,this,dQ,h.a.bG];rfl);have X:∃k p o,vx=.agg [I k,p,o]/\bG p=true/\bG o=true/\p.one=true/\o.one=true/\(((bF E O W J C L).2.1≠0\/idxQ (nmQ Pn.nm nm) 0 J<0)->p=nilS/\o=nilS) /\
  ((bF E O W J C L).2.1=0->¬idxQ (nmQ Pn.nm nm) 0 J<0->Ints p (dW (bF E O W J C L).2.2.2.L (ofPt (idxQ (nmQ Pn.nm nm) 0 J) (bF E O W J C L).2.2.2.S))/\Ints o (U1 (bF E O W J C L).2.2.2.L (ofPt (idxQ (nmQ Pn.nm nm) 0 J) (bF E O W J C L).2.2.2.S))):=by
  by_cases c:(bF E O W J C L).2.1≠0\/idxQ (nmQ Pn.nm nm) 0 J<0
  .refine⟨0,nilS,nilS,o2 c,rfl,rfl,rfl,rfl,λ_=>⟨rfl,rfl⟩,λQ R=>?_⟩;rcases c with c|c
   .exact absurd Q c
   .exact absurd c R
  .have Y:(bF E O W J C L).2.1=0:=Classical.byContradiction λh=>c (.inl h)
   have Z:¬idxQ (nmQ Pn.nm nm) 0 J<0:=λh=>c (.inr h)
   obtain⟨p,o,e,l,w⟩:=o3 Y Z;exact⟨_,p,o,e,Sl.bG l,Sl.bG w,Sl.one l,Sl.one w,λh=>absurd h c,λ_ _=>⟨l,w⟩⟩
 obtain⟨k,p,o,rfl,s1,s2,n1,n2,x1,x2⟩:=X;obtain⟨cs,rfl,y,A⟩:=u;suffices r:∃N,aG (d+28) [] S7 [.agg [I E,I O,ba,pa,ea],a,T nm] mem0=some (.tup [p,o,I (wP E O W J C L nm)],N) by obtain⟨N,l⟩:=r;exact⟨p,o,λm=>tO g l (by rw[dQ,dQ,s1,s2];rfl),x1,x2⟩
 rw[yad];unfold rk WA;have i:(AV.agg [I E,I O,ba,pa,ea]).cells.all AV.one=true:=(by show([I E,I O,ba,pa,ea]:List AV).all AV.one=true;simp[h.b.one,h.p.one,h.e.one]);obtain⟨n,m1,g1,k1,D⟩:=mY (x:=.agg [I E,I O,ba,pa,ea]) i (0,0,3) ⟨[],0+1⟩;have g1':n.get (0,0,3)=some (.row [I E,I O,ba,pa,ea] 0 false):=g1;have l5:aA true 5 (.ptr (0,0,3) 0 0) n=some (.agg [I E,I O,ba,pa,ea]):=(by rw[aM g1'];rfl);have o1':aI (aG (d+27)) B9 [.agg [I E,I O,ba,pa,ea],a,T nm] n=_:=o1 n;obtain⟨P,f⟩:∃M:Mem,M=(n.new (0,12,9) (.row jY 0 false)).new (0,13,10) (.row lK 0 false):=⟨_,rfl⟩;have g9:P.get (0,12,9)=some (.row [AV.sc (.pointer none),nilS,nilS,nilS,nilS] 0 false):=(by rw[f,Mem.dP,aD (by decide),Mem.dP,aH rfl,xay]);have t:P.get (0,13,10)=some (.row [I 0,nilS,nilS] 0 false):=(by rw[f,Mem.dP,aH rfl,AY]);obtain⟨M3,g3,n3,k3,F⟩:=v6 (z:=5) (x:=.agg cs) g9 y rfl A;have j:M3.get (0,13,10)=some (.row [I 0,nilS,nilS] 0 false):=by rw[k3 _ (by decide)];exact t
 obtain⟨H,g4,n4,k4,K⟩:=v6 (z:=3) (x:=.agg [I k,p,o]) j rfl rfl (by
  show([I k,p,o]:List AV).all AV.one=true
  simp[n1,n2])
 have g4':H.get (0,13,10)=some (.row [I k,p,o] 0 false):=g4;have l1:aA false 1 (.ptr (0,13,10) 0 1) H=some p:=(by rw[aM g4'];rfl);have l2:aA false 1 (.ptr (0,13,10) 0 2) H=some o:=(by rw[aM g4'];rfl);simp only[mem0,D,l5,aE,o1',mB,kZ,lA,kA,bO,<-f,F,K,cM,l1,l2];exact⟨_,rfl⟩
def xnm(d:Nat){p:AV}{l:List Int}(e:Ints p l)(y:l.length<=1000)(m:Mem):aI (aG (d+1)) EG [p] m=some (I (mF l),m):=by
 refine dT (by rw[dQ,Sl.bG e];rfl) ?_ m;rw[x8x];unfold ov TF xi;have h:∀(a:List Int) (k j:Nat) (m:Mem) (Y:Nat),l.drop k=a->a.length<j->RetF (λv=>v=I (mF l)) (Z7 (aG d) [] 0 j p (I (mF (l.take k))) (I (k:Int)) m Y):=by
  intro a;induction a with
  |nil=>intro k j m Y g f;obtain⟨j,rfl⟩:=dF f;have i:=gX.mp g;have b:¬((k:Int)<(l.length:Int)):=(by omega);simp only[Z7];unfold TG xk;simp only[e.len jZ,bQ,b,bK,aE,aS];rw[dU i];exact RetF.st rfl rfl
  |cons x r w=>
   intro k j m Y g f;obtain⟨j,rfl⟩:=dF f;obtain⟨b,u,o⟩:=gK g;have hk':((k:Int)<(l.length:Int)):=(by omega);have ix:=e.ix gE b;have ld:=λm=>nS (m:=m) b
   have t:=gH k (by omega);have ih':=λm Y=>w (k+1) j m Y o (by simp at f;omega)
   rw[List.take_add_one,eY b,xki,cr,u]at ih';have n:at0 l k=x:=(by rw[<-u];unfold at0;simp[eU,b]);simp only[Z7];unfold TG xj;simp only[e.len jZ,bQ,hk',bC,aE,aR,ix];rw[ld,n];unfold TH;simp only[aE,fQ];by_cases c:x=1000000000000
   .rw[aH c]at ih';simp only[fC c,cC,aS,dJ,aE,t];exact ih' _ _
   .rw[aD c]at ih';simp only[eT c,bW,aR,dJ,aE,t];exact ih' _ _
 have:=h l 0 NN (⟨[],1⟩:Mem) 3 rfl (by rw[cU];omega);exact this
def xos(d:Nat){a:AV}{l:List ByteArray}(h:Sl tE a l)(b:l.length<=1000000)(x:ByteArray)(m:Mem):dZ (aG (d+1)) uX [a,T x] m=some (B (l.any λy=>eS y x),m):=by refine W5 (m':=⟨[],1⟩) (by rw[dQ,h.bG];rfl) ?_ rfl;rw[xje];exact xgf d [] h b 0 l 0 NN ⟨[],1⟩ 2 rfl (by rw[cU];omega)
open Go.Proofs
def GM{n:Nat}{id:Id}{v o:Nat}(h:id.1<n):cV (some n) (tR (.ptr id v o)) 2=true:=by simp[cV,tR,h]
theorem gj{n:Nat}{a:List AV}:cV (some n) (tR (.aF a)) 2=true:=rfl
def x6x{n:Nat}{id:Id}(h:id.1<n):cV (some n) (some [],some [id]) 2=true:=by simp[cV,h]
def xhe(x:ByteArray):∀(l:List Bd) (k:Int),lP x k l=idxQ (nmQ Bd.nm x) k l
 |[],_=>rfl
 |b::r,k=>by rw[lP,idxQ,xhe x r];rfl
def SmO.ok{a:AV}{L:List Ent}(h:SmO ba pa ea W J C a L)(d:(bF E O W J C L).2.1=0):SuOK E O ba pa ea W J C/\W.length<=6/\L.length<=21/\XOK 12 (bF E O W J C L).2.2.2:=by
 obtain⟨v,-,-,g⟩:=gt 0 (E:=E) (O:=O) h.b h.p h.e h.bn h.pn h.en h.bs h.ps h.es h.a h.n h.t;obtain⟨i,j,-,l⟩:=g d;have f:L.length<=21:=by
  rcases h.n with hn|hn
  .exact hn
  .have:=(xeq d).2.1;omega
 exact⟨i,j,f,l.x.ok f (by omega) (by omega)⟩
def x1g{L:List Ent}{j:Nat}(a:j<J.length)(b:(bF E O W J C L).2.1=0)(d:NmOK W J C)(f:nT (bF E O W J C L).2.2.2.L (bF E O W J C L).2.2.2.S j=2):wP E O W J C L J[j].nm=0:=by have e:=(d.p j a).2;unfold wP;rw[e,aD (λh=>h b),aD (by omega)];unfold nT at f;rw[aD (by omega),aD (by omega)]
structure AlM (P:List AV) (A:List AV) (ai:Id) (m:Mem):Prop where
 n:0<m.next
 s:m.get (0,0,3)=some (.row P 0 false)
 a:m.get ai=some (.row A 0 false)
def x2s{Q:O2->Prop}(g:AV->AV->AV->AV->AV->Mem->Nat->O2)(h1:Sl Bd.c ba W)(h2:Sl Pn.c pa J)(h3:Sl Pe.c ea C){a b K M N:AV}{d:List Bd}{L:List Ent}(ha:Sl Ent.c a L)(hcs:∀m,aI (aG 40) sP [.agg [I E,I O,ba,pa,ea]] m=some (.agg [I E,I O,K,M,N],m))(hcl:∀m,aI (aG 40) wG [a] m=some (b,m))(hS:SmO K M N d J C b L)(hc:d.map Bd.core=W.map Bd.core)(h0:(bF E O d J C L).2.1=0){i:Nat}(hi:i<d.length)(F:i<W.length){f s:Int}(hf:-O<=f/\f<=O)(Z:-O<=s/\s<=O){ys yo yl t12:AV}(y1:Sl tE ys (selN (sureQ (bF E O d J C L).2.2.2.L (bF E O d J C L).2.2.2.S O E d[i] J) J J.length)){ai:Id}(hai:ai.1=0)(hai3:ai.2.2=10)(ht:Sl tE t12 (namesP d[i] J))(hQ:∀m Y,AlM [I E,I O,ba,pa,ea] [I (iF (bF E O d J C L).2.2.2.L (bF E O d J C L).2.2.2.S O E d[i] J),ys,yo,yl] ai m->Q (PC (aG 40) [] 0 g a (.ptr (0,0,3) 0 0) (I f) (I s) (I (i:Int)) m Y)) :
    ∀(n:List ByteArray) (k j:Nat) (m:Mem) (Y:Nat),(namesP d[i] J).drop k=n->n.length<j->AlM [I E,I O,ba,pa,ea] [I (iF (bF E O d J C L).2.2.2.L (bF E O d J C L).2.2.2.S O E d[i] J),ys,yo,yl] ai m ->
     Q (zX (aG 40) [] 0 g j a (.ptr (0,0,3) 0 0) (I f) (I s) (I (i:Int)) (.ptr ai 0 0) t12 (I (k:Int)) m Y):=by
 obtain⟨hO,hbl,hLn,hX⟩:=hS.ok h0;have hN:=xc6 (xeq h0).1;have hth:d[i].th=W[i].th:=(by have:=congrArg (λl=>l[i]?) hc;simp only[G9,eY hi,eY F,Option.map_some,bS]at this;exact congrArg (·.2.2) this);have R:=hO.th i hi;have hpn:=hO.pn;have hnl:=br d[i] J;have ca:eF a=true:=(by rcases ha with ⟨rfl,-⟩|⟨y,rfl⟩<;>rfl);have q1:eF ba=true:=(by rcases h1 with ⟨rfl,-⟩|⟨y,rfl⟩<;>rfl);have q2:eF pa=true:=(by rcases h2 with ⟨rfl,-⟩|⟨y,rfl⟩<;>rfl);have q3:eF ea=true:=(by rcases h3 with ⟨rfl,-⟩|⟨y,rfl⟩<;>rfl);have mk1:cB 0 [.agg [I E,I O,ba,pa,ea]]=2:=(by rw[wO,show([.agg [I E,I O,ba,pa,ea]]:List AV).all clean=true by simp[clean,q1,q2,q3]];rfl);have mk2:cB 0 [a]=2:=by
  rw[wO,show([a]:List AV).all clean=true by
   rcases ha with ⟨rfl,-⟩|⟨y,rfl⟩<;>rfl];rfl
 intro n;induction n with
 |nil=>intro k j m Y hd hj P;obtain⟨j,rfl⟩:=dF hj;have hk:¬((k:Int)<((namesP d[i] J).length:Int)):=(by have:=gX.mp hd;omega);simp only[zX];unfold PB;simp only[ht.len u4,bQ,hk,bK,aE,aS];exact hQ _ _ P
 |cons x n ih=>
  intro k j m Y hd hj P;obtain⟨j,rfl⟩:=dF hj;obtain⟨hk,he,hd1⟩:=gK hd;have hk':((k:Int)<((namesP d[i] J).length:Int)):=(by omega);have hw:=gH k (by omega);have ih':=λm Y=>ih (k+1) j m Y hd1 (by simp at hj;omega)
  have ix:=ht.ix oF hk;have ld:∀m,aA false 1 (.aF (((namesP d[i] J).drop k).flatMap tE)) m=some (T x):=λm=>by rw[hd,dN];rfl
  obtain⟨e,t,hxn,hin⟩:=xzv d[i] (x:=x) (by rw[<-he];exact eX hk);have hsl:=w6 (J:=J) (sureQ (bF E O d J C L).2.2.2.L (bF E O d J C L).2.2.2.S O E d[i] J) J.length;have X:=λm=>xos 39 y1 (by omega) x m
  rw[hxn,xq6 hN.p t]at X;rw[hxn]at ld;obtain⟨hm0,u,H⟩:=P;have la1:aA false 1 (.ptr ai 0 1) m=some ys:=(by rw[aM H];rfl);have la0:aA false 1 (.ptr ai 0 0) m=some (I (iF (bF E O d J C L).2.2.2.L (bF E O d J C L).2.2.2.S O E d[i] J)):=(by rw[aM H];rfl);have l5:aA true 5 (.ptr (0,0,3) 0 0) m=some (.agg [I E,I O,ba,pa,ea]):=(by rw[aM u];rfl);have l50:aA false 1 (.ptr (0,0,3) 0 0) m=some (I E):=(by rw[aM u];rfl);have l52:aA false 1 (.ptr (0,0,3) 0 2) m=some ba:=(by rw[aM u];rfl);have P:AlM [I E,I O,ba,pa,ea] [I (iF (bF E O d J C L).2.2.2.L (bF E O d J C L).2.2.2.S O E d[i] J),ys,yo,yl] ai m:=⟨hm0,u,H⟩;have nx:∀Y,Q (HN (aG 40) [] 0 g (zX (aG 40) [] 0 g j) a (.ptr (0,0,3) 0 0) (I f) (I s) (I (i:Int)) (.ptr ai 0 0) t12 (I (k:Int)) m Y):=λY=>by unfold HN;simp only[dJ,aE,hw];exact ih' m _ P
  obtain⟨p,o,p1,-,p3⟩:=xol 12 (E:=E) (O:=O) hS J[e].nm;have A:=(hN.p e t).2;have r:=(p3 h0 (by rw[A];omega)).1;rw[A]at r;have ix3:=h1.ix Bd.len F;have fa2:aB 2 (.aF ((W.drop i).flatMap Bd.c))=some (.aF (I W[i].th::(W.drop (i+1)).flatMap Bd.c)):=(by rw[fT F,dN];rfl);have ld2:∀m,aA false 1 (.aF (I W[i].th::(W.drop (i+1)).flatMap Bd.c)) m=some (I W[i].th):=λ_=>rfl
  have mk3:cB 0 [p]=2:=by
   rw[wO,show([p]:List AV).all clean=true by
    rcases r with ⟨rfl,-⟩|⟨y,rfl⟩<;>rfl];rfl
  have hnx:sureQ (bF E O d J C L).2.2.2.L (bF E O d J C L).2.2.2.S O E d[i] J e=true\/iF (bF E O d J C L).2.2.2.L (bF E O d J C L).2.2.2.S O E d[i] J=0\/(sureQ (bF E O d J C L).2.2.2.L (bF E O d J C L).2.2.2.S O E d[i] J e=false/\iF (bF E O d J C L).2.2.2.L (bF E O d J C L).2.2.2.S O E d[i] J≠0):=by
   cases sureQ (bF E O d J C L).2.2.2.L (bF E O d J C L).2.2.2.S O E d[i] J e
   .by_cases c:iF (bF E O d J C L).2.2.2.L (bF E O d J C L).2.2.2.S O E d[i] J=0
    .exact .inr (.inl c)
    .exact .inr (.inr ⟨rfl,c⟩)
   .exact .inl rfl
  have hres:∀(h:sureQ (bF E O d J C L).2.2.2.L (bF E O d J C L).2.2.2.S O E d[i] J e=true\/iF (bF E O d J C L).2.2.2.L (bF E O d J C L).2.2.2.S O E d[i] J=0),
   wP E O d J C L J[e].nm=0/\(dW (bF E O d J C L).2.2.2.L (ofPt (e:Int) (bF E O d J C L).2.2.2.S)).length<=12/\-100000000<=mF (dW (bF E O d J C L).2.2.2.L (ofPt (e:Int) (bF E O d J C L).2.2.2.S))/\mF (dW (bF E O d J C L).2.2.2.L (ofPt (e:Int) (bF E O d J C L).2.2.2.S))<=100000000 /\
   sureQ (bF E O d J C L).2.2.2.L (bF E O d J C L).2.2.2.S O E d[i] J e=decide (8192*d[i].th<(((mF (dW (bF E O d J C L).2.2.2.L (ofPt (e:Int) (bF E O d J C L).2.2.2.S))+s-f)*E).natAbs:Int)):=λh=>by
   obtain⟨r1,r2,r3,r4,r5,r6⟩:=ycl (b:=d[i]) t hin hX.L hX.f hO.wv.1 R.1 hf Z h;exact⟨x1g t h0 hN r1,by rw[r2];exact hX.L,r4,r5,r6⟩
  have hmg:=hO.mg;have hwv:=hO.wv;simp only[zX];unfold PB tk;simp only[ht.len u4,bQ,hk',bC,aE,aR,cM,bO,la1,ix,ld,X,fA];generalize hsu:sureQ (bF E O d J C L).2.2.2.L (bF E O d J C L).2.2.2.S O E d[i] J e=D at *
  generalize hlr:mF (dW (bF E O d J C L).2.2.2.L (ofPt (e:Int) (bF E O d J C L).2.2.2.S))=w at *
  rcases hnx with h|h|⟨h,h'⟩;rotate_right
  .subst h;simp only[bW,dO,gD,bB,aE,cM,bO,la0,fQ,eT h',cN,aR];exact nx _
  all_goals
   obtain⟨r1,r2,r3,r4,r5⟩:=hres (by first|exact .inl h|exact .inr h);have lnp:aN prog fG p=some (I ((dW (bF E O d J C L).2.2.2.L (ofPt (e:Int) (bF E O d J C L).2.2.2.S)).length:Int)):=r.len jZ;have hla:=λm=>xnm 39 r (by omega) m
   rw[hlr]at hla;have b1:((w+s-f)*E).natAbs<=100010000*10000:=(by rw[jx];exact G6 (by omega) (by omega));have e1:bM (w+s)=w+s:=bJ;have e2:bM (w+s-f)=w+s-f:=bJ;have e3:bM ((w+s-f)*E)=(w+s-f)*E:=bJ;have e4:bM (8192*W[i].th)=8192*W[i].th:=bJ;have hsz:=λm=>xoj 39 ((w+s-f)*E) m (by omega) (by omega)
   have c12:¬((dW (bF E O d J C L).2.2.2.L (ofPt (e:Int) (bF E O d J C L).2.2.2.S)).length:Int) > 12:=(by omega);have r5':decide (((((w+s-f)*E).natAbs:Nat):Int) > 8192*W[i].th)=D:=(by rw[<-hth];exact r5.symm);cases D
  all_goals simp only[cC,bW,dO,gI,gD,bB,cS,aE,cM,bO,la0,h,fQ,bC,cN,aS,l5,hcs,hcl,ix,ld,p1,r1,mB,kZ,lA,mk1,mk2,gj,show Nat.ble 1 2=true from rfl,gC,dR,lnp,gZ,eT c12,hla,dJ,mQ,CL,e1,e2,e3,l50,hsz,mk3,GM (id:=(0,0,3)) hm0,l52,ix3,fa2,ld2,e4,r5',xe4,bne_self_eq_false]
  all_goals first|exact nx _|cases h
def x5r:((aG 40 [] bv [] mem0).map (λp=>p.1))=some (B true):=by kernel_rfl
def xnr(m:Mem):aI (aG 40) bv [] m=some (B true,m):=by have h:=x5r;rw[cH]at h;obtain⟨⟨r,b⟩,a,rfl⟩:=h;exact gG rfl a rfl
end Go.Ix
namespace Go.Ix
open Go.Proofs
variable{ba pa ea:AV}{W:List Bd}{J:List Pn}{C:List Pe}{E O:Int}
def x2r(h1:Sl Bd.c ba W)(h2:Sl Pn.c pa J)(h3:Sl Pe.c ea C){a b w D F:AV}{d:List Bd}{L:List Ent}(ha:Sl Ent.c a L)(hcs:∀m,aI (aG 40) sP [.agg [I E,I O,ba,pa,ea]] m=some (.agg [I E,I O,w,D,F],m))(hcl:∀m,aI (aG 40) wG [a] m=some (b,m))(t:SmO w D F d J C b L)(hc:d.map Bd.core=W.map Bd.core)(iR:iG E O d J C=0){f s:Int}(hf:-O<=f/\f<=O)(Z:-O<=s/\s<=O) :
    ∀(K:List Bd) (i j:Nat) (m:Mem) (Y:Nat),W.drop i=K->K.length<j->0<m.next->m.get (0,0,3)=some (.row [I E,I O,ba,pa,ea] 0 false) ->
     ∃m',zY (aG 40) [] 0 j a (.ptr (0,0,3) 0 0) (I f) (I s) (I (i:Int)) m Y=some (B true,m'):=by
 have hN:=xc6 iR;have hlen:d.length=W.length:=(by simpa using congrArg List.length hc);have hnm:∀(i:Nat) (h:i<W.length) (h':i<d.length),d[i].nm=W[i].nm:=λi hi H=>by have:=congrArg (λl=>l[i]?) hc;simp only[G9,eY H,eY hi,Option.map_some,bS]at this;exact congrArg (·.1) this
 have ca:eF a=true:=(by rcases ha with ⟨rfl,-⟩|⟨y,rfl⟩<;>rfl);have q1:eF ba=true:=(by rcases h1 with ⟨rfl,-⟩|⟨y,rfl⟩<;>rfl);have q2:eF pa=true:=(by rcases h2 with ⟨rfl,-⟩|⟨y,rfl⟩<;>rfl);have q3:eF ea=true:=(by rcases h3 with ⟨rfl,-⟩|⟨y,rfl⟩<;>rfl);have q4:eF w=true:=(by rcases t.b with ⟨rfl,-⟩|⟨y,rfl⟩<;>rfl);have q5:eF D=true:=(by rcases t.p with ⟨rfl,-⟩|⟨y,rfl⟩<;>rfl);have q6:eF F=true:=(by rcases t.e with ⟨rfl,-⟩|⟨y,rfl⟩<;>rfl);have mk1:cB 0 [.agg [I E,I O,ba,pa,ea]]=2:=(by rw[wO,show([.agg [I E,I O,ba,pa,ea]]:List AV).all clean=true by simp[clean,q1,q2,q3]];rfl);have mk2:cB 0 [a]=2:=by
  rw[wO,show([a]:List AV).all clean=true by
   rcases ha with ⟨rfl,-⟩|⟨y,rfl⟩<;>rfl];rfl
 have mk3:∀x,cB 0 [.agg [I E,I O,w,D,F],b,T x]=2:=λx=>by
  rw[wO,show([.agg [I E,I O,w,D,F],b,T x]:List AV).all clean=true by
   rcases t.a with ⟨rfl,-⟩|⟨y,rfl⟩<;>simp[clean,q4,q5,q6]<;>rfl];rfl
 intro K;induction K with
 |nil=>intro i j m Y hd hj P N;obtain⟨j,rfl⟩:=dF hj;have hk:¬((i:Int)<(W.length:Int)):=(by have:=gX.mp hd;omega);have R:aA false 1 (.ptr (0,0,3) 0 2) m=some ba:=(by rw[aM N];rfl);simp only[zY];unfold PA tl;simp only[cM,bO,R,aE,h1.len qT,bQ,hk,bK,aS];exact⟨_,rfl⟩
 |cons x K ih=>
  intro i j m Y hd hj P N;obtain⟨j,rfl⟩:=dF hj;obtain⟨hi,he,hd1⟩:=gK hd;have H:i<d.length:=(by omega);have hk':((i:Int)<(W.length:Int)):=(by omega);have hbn:=t.bn;have hw:=gH i (by omega);have l5:∀{m:Mem},m.get (0,0,3)=some (.row [I E,I O,ba,pa,ea] 0 false)->aA true 5 (.ptr (0,0,3) 0 0) m=some (.agg [I E,I O,ba,pa,ea]):=λh=>by rw[aM h];rfl
  have R:∀{m:Mem},m.get (0,0,3)=some (.row [I E,I O,ba,pa,ea] 0 false)->aA false 1 (.ptr (0,0,3) 0 2) m=some ba:=λh=>by rw[aM h];rfl
  have ix3:=h1.ix Bd.len hi;have fa0:aB 0 (.aF ((W.drop i).flatMap Bd.c))=some (.aF ((W.drop i).flatMap Bd.c)):=rfl;have ld0:∀m,aA false 1 (.aF ((W.drop i).flatMap Bd.c)) m=some (T W[i].nm):=λm=>by rw[fT hi,dN];rfl
  obtain⟨r,r1,r2,r3⟩:=xo8 13 (E:=E) (O:=O) t W[i].nm;have hix:idxQ (nmQ Bd.nm W[i].nm) 0 d=i:=(by rw[<-hnm i hi H];exact(hN.b i H).2);have hE:xD E O d J C L W[i].nm=(bF E O d J C L).2.1:=by
   unfold xD;by_cases c:(bF E O d J C L).2.1=0
   .rw[aD (λh=>h c),hix,aD (by omega),c]
   .rw[aH c]
  rw[hE]at r1 r2 r3;simp only[zY];unfold PA tj;simp only[cM,bO,R N,aE,h1.len qT,bQ,hk',bC,aR,l5 N,hcs,hcl,ix3,fa0,ld0,r1,mB,kZ,lA];have hr:∃cs,r=.agg cs/\cs.length=4/\cs.all AV.one=true:=by
   by_cases c:(bF E O d J C L).2.1=0
   .obtain⟨g,hi'',-,⟨ys,yo,yl,rfl,y1,y2,y3⟩⟩:=r3 c;exact⟨_,rfl,rfl,by simp[y1.one,y2.one,y3.one]⟩
   .exact⟨_,r2 c,rfl,rfl⟩
  obtain⟨cs,rfl,lcs,ocs⟩:=hr;obtain⟨M2,hM2⟩:∃M:Mem,M=m.new (0,Y+5+14,10) (.row tY 0 false):=⟨_,rfl⟩;have g2:M2.get (0,Y+5+14,10)=some (.row [I 0,nilS,nilS,nilS] 0 false):=(by rw[hM2,Mem.dP,aH rfl,YE]);have g23:M2.get (0,0,3)=some (.row [I E,I O,ba,pa,ea] 0 false):=(by rw[hM2,Mem.dP,aD (λh=>by simp[Prod.ext_iff]at h)];exact N);obtain⟨M3,g3,n3,k3,hM3⟩:=v6 (z:=4) (x:=.agg cs) g2 lcs rfl ocs;have g33:M3.get (0,0,3)=some (.row [I E,I O,ba,pa,ea] 0 false):=(by rw[k3 _ (λh=>by simp[Prod.ext_iff]at h)];exact g23);have n33:0<M3.next:=(by rw[n3,hM2];exact P);have ap1:∀o,aY (tR (.ptr (0,0,3) 0 o)) (some [],some [(0,Y+5+14,10)])=true:=λo=>qI (λh=>by simp[Prod.ext_iff]at h)
  have ap2:∀l,aY (tR (.aF l)) (some [],some [(0,Y+5+14,10)])=true:=λ_=>rfl
  simp only[kA,<-hM2,hM3,mk1,mk2,mk3,GM (id:=(0,0,3)) P,gj,x6x (id:=(0,Y+5+14,10)) P,ap1,ap2,show Nat.ble 1 2=true from rfl,gC,bB,fQ];by_cases c0:(bF E O d J C L).2.1=0;case neg=>simp only[eT c0,bW];exact⟨_,rfl⟩
  obtain⟨g,hi'',hx,⟨ys,yo,yl,hag,y1,y2,y3⟩⟩:=r3 c0;obtain rfl:g=i:=(by omega);have hag:cs=_:=AV.agg.inj hag;subst hag;obtain⟨hO,hbl,hLn,hX⟩:=t.ok c0;obtain⟨u,t1,t2⟩:∃u,Sl tE u (namesP d[g] J)/\∀m,aI (aG 40) C3 [.agg [I E,I O,w,D,F],T W[g].nm] m=some (.tup [u,I 0],m):=(by obtain⟨u,t1,t2⟩:=xok 32 (E:=E) (O:=O) t.b t.p t.e t.bn t.pn t.en t.bs t.ps t.es W[g].nm mem0;have hxB:lP W[g].nm 0 d=g:=(by rw[xhe];exact hix);have hpe:sM E O d J C W[g].nm=0:=(by unfold sM;rw[aD (λh=>h iR),hxB,aD (by omega)]);have hpn:yI E O d J C W[g].nm=namesP d[g] J:=(by unfold yI;rw[hpe,hxB,gA,eY H];rfl);rw[hpn]at t1;rw[hpe]at t2;refine⟨u,t1,λm=>gp ?_ t2 m⟩;have:[I E,I O,w,D,F].all aP=true:=(by simp[t.b.aP,t.p.aP,t.e.aP]);rw[dQ,vT,this];rfl);have mk1':=mk1;have g3':M3.get (0,Y+5+14,10)=some (.row [I (iF (bF E O d J C L).2.2.2.L (bF E O d J C L).2.2.2.S O E d[g] J),ys,yo,yl] 0 false):=g3;have X:aA false 1 (.ptr (0,Y+5+14,10) 0 0) M3=some (I (iF (bF E O d J C L).2.2.2.L (bF E O d J C L).2.2.2.S O E d[g] J)):=(by rw[aM g3'];rfl);have la1:aA false 1 (.ptr (0,Y+5+14,10) 0 1) M3=some ys:=(by rw[aM g3'];rfl);have hpn:=hO.pn;have hnl:=br d[g] J;have hsl:=w6 (J:=J) (sureQ (bF E O d J C L).2.2.2.L (bF E O d J C L).2.2.2.S O E d[g] J) J.length;have lys:=y1.len u4;have lt12:=t1.len u4;simp only[fC c0,cC,aS,l5 g33,aE,hcs,cM,bO,R g33,ix3,fa0,ld0,t2,mB,kZ,lA,mk1,GM (id:=(0,0,3)) n33,gj,show Nat.ble 1 2=true from rfl,gC,bB,fQ,bC,dO,gI,dR,bW,X,fV];have fin:∀fc',∃m',zX (aG 40) [] 0 (zY (aG 40) [] 0 j) NN a (.ptr (0,0,3) 0 0) (I f) (I s) (I (g:Int)) (.ptr (0,Y+5+14,10) 0 0) u (I 0) M3 fc'=some (B true,m'):=λfc'=>by
   have:=x2s (Q:=λr=>∃m',r=some (B true,m')) (zY (aG 40) [] 0 j) h1 h2 h3 ha hcs hcl t hc c0 H hi hf Z (ys:=ys) (yo:=yo) (yl:=yl) (t12:=u) y1 (ai:=(0,Y+5+14,10)) rfl rfl t1 (λm Y hM=>by
    unfold PC
    simp only[dJ,aE,hw]
    exact ih (g+1) j m _ hd1 (by simp at hj;omega) hM.n hM.s) (namesP d[g] J) 0 NN M3 fc' rfl (by rw[cU];omega) ⟨n33,g33,g3'⟩
   exact this
  generalize hA:iF (bF E O d J C L).2.2.2.L (bF E O d J C L).2.2.2.S O E d[g] J=A at *
  by_cases c2:A=2
  .have hp:¬((selN (sureQ (bF E O d J C L).2.2.2.L (bF E O d J C L).2.2.2.S O E d[g] J) J J.length).length:Int)=0:=by
    have:iF (bF E O d J C L).2.2.2.L (bF E O d J C L).2.2.2.S O E d[g] J=2:=(by rw[hA,c2]);unfold iF at this;split at this
    .omega
    .split at this<;>cases this
   subst c2;simp only[bC,gD,bB,aE,la1,lys,fV,eT hp,cN,dR,bW,X,show decide ((2:Int)=0)=false from rfl,cS,aS];exact fin _
  .by_cases c3:A=0
   .have hp:¬((namesP d[g] J).length:Int)=0:=(by have:=xzu d[g] (ig (by rw[hA];exact c3)).1;omega);subst c3;simp only[show decide ((0:Int)=2)=false from rfl,gD,cS,aE,cN,dR,bW,bB,X,fV,bC,lt12,eT hp,aS];exact fin _
   .simp only[eT c2,gD,cS,aE,cN,dR,bW,bB,X,fV,eT c3,aS];exact fin _
def law_TopAlertSure(g:Sl Bd.c ba W)(h:Sl Pn.c pa J)(i:Sl Pe.c ea C)(E O:Int){a:AV}{L:List Ent}(D:Sl Ent.c a L)(j:L.length<=9223372036854775807)(x y:Int):∃m',aG 41 [] LM [.agg [I E,I O,ba,pa,ea],a,.agg [I x,I y]] mem0=some (B true,m'):=by
 rw[x62];unfold ke OZ;have ho:(AV.agg [I E,I O,ba,pa,ea]).cells.all AV.one=true:=(by rw[jT];simp[g.one,h.one,i.one]);obtain⟨M1,n1,g1,k1,R⟩:=mY (x:=.agg [I E,I O,ba,pa,ea]) ho (0,0,3) ⟨[],0+1⟩;obtain⟨d,n2,g2,k2,X⟩:=mY (x:=.agg [I x,I y]) rfl (0,0+1,5) M1;have g1':d.get (0,0,3)=some (.row [I E,I O,ba,pa,ea] 0 false):=(by rw[k2 _ (by decide)];exact g1);have g2':d.get (0,0+1,5)=some (.row [I x,I y] 0 false):=g2;have e:0<d.next:=(by rw[n2,n1];decide);have l5:aA true 5 (.ptr (0,0,3) 0 0) d=some (.agg [I E,I O,ba,pa,ea]):=(by rw[aM g1'];rfl);have F:aA false 1 (.ptr (0,0,3) 0 1) d=some (I O):=(by rw[aM g1'];rfl);have H:aI (aG 40) T1 [.agg [I E,I O,ba,pa,ea]] d=some (B (xZ W J C),d):=xoi 39 g h i d;have w:=λm=>xo6 39 D j m
 simp only[mem0,R,X,xnr,aE,fA,cC,aS,l5,H];cases c1:xZ W J C
 .simp only[bW,gI,dO,hJ,dR,cC,cS,aE,cN,bB,aR];exact⟨_,rfl⟩
 obtain⟨hbn,hp,he,Y,hnp,hne⟩:=ZV c1;cases A:(zK L&&(decide (L.length<=20)||(decide (40<L.length)&&decide (L.length<=42))))
 .rw[A]at w;simp only[cC,gI,dO,hJ,dR,bW,bB,aE,w,fA,cN,cS,aR];exact⟨_,rfl⟩
 rw[A]at w;obtain⟨hL,hl⟩:=ybt A;have K:L.length<=21\/40<L.length:=(by rw[cK,kT,cK,lF,lF,lF]at A;omega);have M:aI (aG 40) R3 [.agg [I E,I O,ba,pa,ea]] d=some (I (iG E O W J C),d):=xnn 34 g h i (by omega) (by omega) (by omega) (λx u=>(Y x u).2) d;simp only[cC,gI,dO,hJ,dR,bW,bB,aE,w,fA,cN,cS,l5,M,fQ];by_cases c3:iG E O W J C=0;case neg=>simp only[eT c3,bW,aR];exact⟨_,rfl⟩
 obtain⟨Z,pa',ea',n,o,f,r,t,hcs⟩:=ybg 39 g h i c1 E O;obtain⟨b,b1,hcl⟩:=ybh 39 D (by omega);have hS:SmO Z pa' ea' n J C b L:=SmO.mk10 o f r t c1 b1 K (λx u=>(hL x u).2);have iR:iG E O n J C=0:=(by rw[xq0 f];exact c3);have hmg:0<=O/\O<=2048:=(xc5 o r t iR).1.mg;have N:oI 2 1 (.ptr (0,0+1,5) 0 0) (I 0)=some (.ptr (0,0+1,5) 0 0):=rfl;have P:oI 2 1 (.ptr (0,0+1,5) 0 0) (I 1)=some (.ptr (0,0+1,5) 0 1):=rfl;have lx:aA false 1 (.ptr (0,0+1,5) 0 0) d=some (I x):=(by rw[aM g2'];rfl);have ly:aA false 1 (.ptr (0,0+1,5) 0 1) d=some (I y):=(by rw[aM g2'];rfl);have e1:bM (2*O)=2*O:=bJ;have e2:bM (2*O+1)=2*O+1:=bJ;have l:=λ(x:Int) m=>xom 39 (x:=x) (y:=2*O+1) (by omega) (by omega) m;have hr:∀x:Int,0<=x % (2*O+1)/\x % (2*O+1)<2*O+1:=λx=>⟨Int.emod_nonneg _ (by omega),Int.emod_lt_of_pos _ (by omega)⟩
 have u:=hr x;have hy:=hr y;have e3:bM (x % (2*O+1)-O)=x % (2*O+1)-O:=bJ;have e4:bM (y % (2*O+1)-O)=y % (2*O+1)-O:=bJ;have Q:∀x y:Int,cB 0 [I x,I y]=2:=λ_ _=>rfl
 have cn:∀p,cV none (tR p) 2=true:=ybn;simp only[fC c3,cC,aS,N,P,lx,ly,aE,cM,bO,F,CL,e1,dJ,e2,l,mQ,e3,e4,Q,GM (id:=(0,0,3)) e,GM (id:=(0,1,5)) e,cn,show Nat.ble 1 2=true from rfl,gC,bB];unfold tg;exact x2r g h i D hcs hcl hS f iR (by omega) (by omega) W 0 NN d _ rfl (by rw[cU];omega) e g1'
end Go.Ix
