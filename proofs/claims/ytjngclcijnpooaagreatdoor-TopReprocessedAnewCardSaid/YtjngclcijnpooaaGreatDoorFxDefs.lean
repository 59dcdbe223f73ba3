import Derived.Test.YtjngclcijnpooaaGreatDoorIxA
set_option linter.all false
noncomputable section
namespace Go.Ix
abbrev I(n:Int):AV:=.sc (.int .i64 n)
abbrev B(b:Bool):AV:=.sc (.bool b)
abbrev U:AV:=.sc undef
abbrev nilS:AV:=.sc (.slice none 0 0)
abbrev Hp:=List (Nat×List (Nat×Nat×Ob))
def jQ:List (Nat×Nat×Ob)->Nat->Nat->Option Ob
 |[],_,_=>none
 |(a,b,o)::r,s,t=>bif Nat.beq a s&&Nat.beq b t then some o else jQ r s t
def gU:Hp->Nat->List (Nat×Nat×Ob)
 |[],_=>[]
 |(v,l)::r,u=>bif Nat.beq v u then l else gU r u
def fK(h:Hp)(i:Id):Option Ob:=jQ (gU h i.1) i.2.1 i.2.2
def BT:List (Nat×Nat×Ob)->Nat->Nat->Ob->List (Nat×Nat×Ob)
 |[],s,t,o=>[(s,t,o)]
 |(a,b,p)::r,s,t,o=>bif Nat.beq a s&&Nat.beq b t then(s,t,o)::r else(a,b,p)::BT r s t o
def xW(f:List (Nat×Nat×Ob)->List (Nat×Nat×Ob)):Hp->Nat->Hp
 |[],u=>[(u,f [])]
 |(v,l)::r,u=>bif Nat.beq v u then(v,f l)::r else(v,l)::xW f r u
def rE(h:Hp)(i:Id)(o:Ob):Hp:=xW (λl=>BT l i.2.1 i.2.2 o) h i.1
def yS(h:Hp)(i:Id)(o:Ob):Hp:=xW (λl=>(i.2.1,i.2.2,o)::l) h i.1
structure Mem where
 hp:Hp
 next:Nat
def Mem.set(m:Mem)(i:Id)(o:Ob):Mem:=⟨rE m.hp i o,m.next⟩
def Mem.new(m:Mem)(i:Id)(o:Ob):Mem:=⟨yS m.hp i o,m.next⟩
def Mem.get(m:Mem)(i:Id):Option Ob:=fK m.hp i
def Mem.st(m:Mem):St:={aC:=m.get,next:=m.next}
def mem0:Mem:=⟨[],0⟩
structure Fs where
 sl:Nat->AV
 m:Mem
 fc:Nat
def Fs.s(s:Fs):S:={sl:=s.sl,st:=s.m.st,fc:=s.fc}
abbrev FHs:=List (Id×(List AV->Mem->Option Mem))
def sQ:FHs->Id->Option (List AV->Mem->Option Mem)
 |[],_=>none
 |(i,h)::r,id=>if i=id then some h else sQ r id
abbrev aJ:=FHs->FuncId->List AV->Mem->Option (AV×Mem)
structure FCtx where
 f:FuncId
 u:Nat
 nt:Nat
 hs:FHs
 fc:Nat:=0
variable{R:Type}
def cG(n:Int):Int:=
 match n with
 | .ofNat k=>bif Nat.ble k 9223372036854775807 then .ofNat k else IntKind.i64.wrap (.ofNat k)
 | .negSucc k=>bif Nat.ble k 9223372036854775807 then .negSucc k else IntKind.i64.wrap (.negSucc k)
def bJ:AV->AV->Option AV
 | .sc (.int .i64 x),.sc (.int .i64 y)=>some (I (cG (x+y)))
 |_,_=>none
def eQ:AV->AV->Option AV
 | .sc (.int .i64 x),.sc (.int .i64 y)=>some (I (cG (x-y)))
 |_,_=>none
def nD:AV->AV->Option AV
 | .sc (.int .i64 x),.sc (.int .i64 y)=>some (I (cG (x*y)))
 |_,_=>none
def v8:AV->AV->Option AV
 | .sc (.int .i64 x),.sc (.int .i64 y)=>if y=0 then none else some (I (cG (x.tdiv y)))
 |_,_=>none
def xQ:AV->AV->Option AV
 | .sc (.int .i64 x),.sc (.int .i64 y)=>if y=0 then none else some (I (x.tmod y))
 |_,_=>none
def cC:AV->AV->Option AV
 | .sc (.int .i64 x),.sc (.int .i64 y)=>some (B (decide (x<y)))
 |_,_=>none
def iM:AV->AV->Option AV
 | .sc (.int .i64 x),.sc (.int .i64 y)=>some (B (decide (x<=y)))
 |_,_=>none
def eS:AV->AV->Option AV
 | .sc (.int .i64 x),.sc (.int .i64 y)=>some (B (decide (y<x)))
 |_,_=>none
def kD:AV->AV->Option AV
 | .sc (.int .i64 x),.sc (.int .i64 y)=>some (B (decide (y<=x)))
 |_,_=>none
def eL:AV->AV->Option AV
 | .sc (.int .i64 x),.sc (.int .i64 y)=>some (B (decide (x=y)))
 |_,_=>none
def eF:AV->AV->Option AV
 | .sc (.int .i64 x),.sc (.int .i64 y)=>some (B (!decide (x=y)))
 |_,_=>none
def oV:AV->Option AV
 | .sc (.int .i64 x)=>some (I (cG (0-x)))
 |_=>none
def dU:AV->Option AV
 | .sc (.bool b)=>some (B (!b))
 |_=>none
def w5:AV->AV->Option AV
 | .sc (.int .i64 x),.sc (.int .i64 y)=>some (I (if y<x then y else x))
 |_,_=>none
def L6:AV->AV->Option AV
 | .sc (.int .i64 x),.sc (.int .i64 y)=>some (I (if y > x then y else x))
 |_,_=>none
def bX(c a b:AV):Option AV:=
 match c with
 | .sc (.bool t)=>some (bif t then a else b)
 |_=>none
def bZ(x:AV):Option AV:=
 match x with
 | .sc v=>match v with
   | .pointer none | .nilIface | .nilFunc | .func ..=>none
   |v=>some (.sc v)
 | .ptr id v o=>some (.ptr id v o)
 | .aE a=>some (.aE a)
 | .clo f a=>some (.clo f a)
 | .yld l=>some (.yld l)
 |_=>none
def aA(g:Bool)(z:Nat)(a:AV)(m:Mem):Option AV:=
 match a with
 | .aE b=>if b.isEmpty then none else rd g z b
 | .ptr id d e=>match m.get id with
   |some (.row b v _)=>if v=d then rd g z (b.drop e)else none
   |_=>none
 |_=>none
def aU(z:Nat)(a x:AV)(m:Mem)(k:Mem->Option R):Option R:=
 match a with
 | .ptr id d b=>match m.get id with
   |some (.row e v false)=>if v=d/\x.cells.length=z/\b+z<=e.length/\(x.cells.all AV.one)then
    k (m.set id (.row (cS e b x.cells) v false))else none
   |_=>none
 |_=>none
def dG(a:List AV)(id:Id)(m:Mem)(k:AV->Mem->Option R):Option R:=
 k (.ptr id 0 0) (m.new id (.row a 0 false))
def xov(t e:TypeId)(id:Id)(m:Mem)(k:AV->Mem->Option R):Option R:=
 k (.ptr id 0 0) (m.new id (.bld t e []))
def dB(x:AV)(id:Id)(m:Mem)(k:AV->Mem->Option R):Option R:=
 if x.cells.all AV.one then k (.ptr id 0 0) (m.new id (.row x.cells 0 false))else none
def jC(b:List AV):List (Nat×Nat×AV)->Option (List AV)
 |[]=>some b
 |(a,size,v)::r=>if v.cells.length=size/\a+size<=b.length then jC (cS b a v.cells) r else none
def cY(z:List AV)(a:List (Nat×Nat×AV)):Option AV:=(jC z a).map .agg
def cQ(z:List AV)(b:List (Nat×Nat×AV))(len size:Nat)(id:Id)(m:Mem)(k:AV->Mem->Option R):Option R:=
 match jC (eN z (len*size)) b with
 |some a=>if !(a.all AV.one)then none else if a.all eM then k (.aN a len true) m else k (.sref id 0 0 len size true) (m.new id (.row a 0 false))
 |none=>none
def rW(z:List AV)(size a:Nat)(l c:AV)(id:Id)(m:Mem)(k:AV->Mem->Option R):Option R:=
 match dL l,dL c with
 |some l,some c=>if 0<=l/\l<=c/\a*c<=2 ^ 47/\c<=2 ^ 47 then
  k (.sref id 0 0 l.toNat size true) (m.new id (.row (eN z (c.toNat*size)) 0 false))else none
 |_,_=>none
def xa1(n:Nat)(x:AV):Option AV:=
 match x with
 | .aN d q _=>if 0<n/\n<=q then some (.aE d)else none
 | .sref id a b q _ _=>if 0<n/\n<=q then some (.ptr id a b)else none
 |_=>none
def aD(a:Nat):AV->Option AV
 | .ptr id b o=>some (.ptr id b (o+a))
 | .aE d=>some (.aE (d.drop a))
 |_=>none
def L7(g:Bool)(z a:Nat):AV->Option AV
 | .agg b=>rd g z (b.drop a)
 |_=>none
def aR(size:Nat)(x ix:AV):Option AV:=
 match dL ix with
 |some k=>match x with
  | .aN d n _=>if 0<=k/\k<n then some (.aE (d.drop (k.toNat*size)))else none
  | .sref id a b n z _=>if 0<=k/\k<n/\z=size then some (.ptr id a (b+k.toNat*z))else none
  |_=>none
 |none=>none
def tY(n size:Nat)(x ix:AV):Option AV:=
 match dL ix with
 |some k=>match x with
  | .ptr id a b=>if 0<=k/\k<n then some (.ptr id a (b+k.toNat*size))else none
  | .aE d=>if 0<=k/\k<n then some (.aE (d.drop (k.toNat*size)))else none
  |_=>none
 |none=>none
def kJ(P:Program)(t:TypeId)(x ix:AV):Option AV:=
 match x with
 | .agg a=>match dL ix,P.underlying t with
   |some k,some (.array n C)=>match ty P C with
    |some (g,z)=>if 0<=k/\k<n then rd g z (a.drop (k.toNat*z))else none
    |none=>none
   |_,_=>none
 | .sc v=>match dO ix with
   |some k=>(bT P (Instr.index t v k)).map fJ
   |none=>none
 |_=>none
def cO(x:AV)(i:Nat):Option AV:=
 match x with
 | .tup a=>a[i]?
 |_=>none
def eK(P:Program)(t:TypeId)(x:AV)(f b:Option AV):Option AV:=
 match dO x with
 |some v=>match iL f.toList,iL b.toList with
  |some j,some Z=>(bT P (Instr.sliceAt t v (j[0]?) (Z[0]?) none)).map fJ
  |_,_=>none
 |none=>match P.underlying t with
  |some (.slice C)=>match P.info? C,dL (f.getD (I 0))with
   |some i,some l=>match x with
    | .aN g n x=>match dL (b.getD (I n))with
      |some h=>if 0<=l/\l<=h/\h<=n/\n*i.size<=g.length then some (.aN ((g.drop (l.toNat*i.size)).take ((h-l).toNat*i.size)) (h-l).toNat (x&&decide (h=n)))else none
      |none=>none
    | .sref id d e n z a=>match dL (b.getD (I n))with
      |some h=>if 0<=l/\l<=h/\h<=n/\z=i.size/\(a=true\/h=n)then some (.sref id d (e+l.toNat*z) (h-l).toNat z a)else none
      |none=>none
    |_=>none
   |_,_=>none
  |_=>none
def xa0(n size:Nat)(x:AV)(d e:Option AV)(m:Mem):Option AV:=
 match x with
 | .ptr id a b=>match dL (d.getD (I 0)),dL (e.getD (I n))with
   |some l,some h=>match m.get id with
    |some (.row f v _)=>if 0<=l/\l<=h/\h=n/\v=a/\b+n*size<=f.length then some (.sref id a (b+l.toNat*size) (h-l).toNat size false)else none
    |_=>none
   |_,_=>none
 |_=>none
def nC(P:Program)(t:TypeId)(x:AV)(d:Option AV)(e f:AV):Option AV:=
 match dO x with
 |some v=>match iL d.toList,dO e,dO f with
  |some j,some h,some m=>(bT P (Instr.sliceAt t v (j[0]?) (some h) (some m))).map fJ
  |_,_,_=>none
 |none=>match P.underlying t with
  |some (.slice C)=>match P.info? C,dL (d.getD (I 0)),dL e,dL f with
   |some i,some l,some h,some m=>match x with
    | .aN g n _=>if 0<=l/\l<=h/\h<=n/\m=h/\n*i.size<=g.length then some (.aN ((g.drop (l.toNat*i.size)).take ((h-l).toNat*i.size)) (h-l).toNat true)else none
    | .sref id a b n z _=>if 0<=l/\l<=h/\h<=n/\m=h/\z=i.size then some (.sref id a (b+l.toNat*z) (h-l).toNat z false)else none
    |_=>none
   |_,_,_,_=>none
  |_=>none
def nY(P:Program)(t:TypeId)(x:AV):Option AV:=
 match dO x with
 |some v=>(bT P (Instr.makeInterface t v)).map fJ
 |none=>none
def IT(P:Program)(a b:TypeId)(x:AV)(m:Mem):Option AV:=(qG P m.get a b x).map λs=>.sc (.string s)
def BO(z:List AV)(size:Nat)(s:AV)(m:Mem)(k:AV->Mem->Option R):Option R:=
 match s with
 | .sc (.slice none _ _)=>k (.tup []) m
 | .sref id b a n d _=>match m.get id with
   |some (.row e v false)=>if v=b/\d=size/\a+n*d<=e.length then k (.tup []) (m.set id (.row (cS e a (eN z (n*size))) v false))else none
   |_=>none
 |_=>none
def aM(P:Program)(t:TypeId)(x:AV):Option AV:=
 match x with
 | .aN _ n _=>some (I n)
 | .sref _ _ _ n _ _=>some (I n)
 |_=>match dO x with
  |some v=>(bT P (Builtin.len_ #[t] 0 #[v])).map fJ
  |none=>none
def fZ(x:AV):Option AV:=
 match x with
 | .sc (.string s)=>some (I s.size)
 |_=>none
def xa6(x:AV)(m:Mem):Option AV:=
 match x with
 | .mp id=>match m.get id with
   |some (.map a)=>some (I a.length)
   |_=>none
 |_=>none
def YD(z:List AV)(size a:Nat)(x:AV):Option (List AV×Nat):=
 match dL x with
 |some n=>if 0<=n/\n<=2 ^ 40/\n*a<=2 ^ 47 then some (eN z (n.toNat*size),n.toNat)else none
 |none=>none
def cJ(size a:Nat)(e:Id)(d:Option (List AV×Nat))(s:AV)(m:Mem)(k:AV->Mem->Option R):Option R:=
 match d with
 |some (d,q)=>match s with
  | .sc (.slice none 0 0)=>if q=0 then k s m else if cH q a then k (.sref e 0 0 q size true) (m.new e (.row d 0 false))else none
  | .aN g n true=>if n*size<=g.length then(if q=0 then k s m else if cH (n+q) a then k (.sref e 0 0 (n+q) size true) (m.new e (.row (g.take (n*size)++d) 0 false))else none)else none
  | .sref id f b n z true=>match m.get id with
    |some (.row g v false)=>if v=f/\z=size/\b+n*z<=g.length/\cH (n+q) a then
     if q=0 then k s m
     else if b+(n+q)*z<=g.length then k (.sref id f b (n+q) z true) (m.set id (.row (cS g (b+n*z) d) v false))
     else k (.sref id (f+1) 0 (n+q) z true) (m.set id (.row ((g.drop b).take (n*z)++d) (v+1) false))
     else none
    |_=>none
  | .sref id f b n z false=>match m.get id with
    |some (.row g v _)=>if v=f/\z=size/\b+n*z<=g.length/\cH (n+q) a then
     if q=0 then k s m else k (.sref e 0 0 (n+q) size true) (m.new e (.row ((g.drop b).take (n*z)++d) 0 false))
     else none
    |_=>none
  |_=>none
 |none=>none
def xa8(size:Nat)(s x:AV)(m:Mem)(k:AV->Mem->Option R):Option R:=
 match elems m.get size x with
 |some (b,q)=>match s with
  | .sref id d a n z _=>match m.get id with
    |some (.row e v false)=>if v=d/\z=size/\a+n*z<=e.length then
     k (I (Nat.min q n)) (m.set id (.row (cS e a (b.take (Nat.min q n*z))) v false))
     else none
    |_=>none
  | .sc (.slice none 0 0)=>k (I 0) m
  |_=>none
 |none=>none
def BM(id:Id)(m:Mem)(k:AV->Mem->Option R):Option R:=k (.mp id) (m.new id (.map []))
def xR(P:Program)(t:TypeId)(x ix:AV)(ok:Bool)(m:Mem):Option AV:=
 match P.underlying t,dO ix with
 |some (.map b f),some k=>match P.underlying b,J3 P f with
  |some d,some e=>
   match sG m.get x with
   |some a=>if sJ P b d k a then some (if ok then .tup [(findKey k a).getD e,.sc (.bool (findKey k a).isSome)]else(findKey k a).getD e)else none
   |none=>none
  |_,_=>none
 |_,_=>none
def tW(P:Program)(t:TypeId)(f ix x:AV)(m:Mem)(k:Mem->Option R):Option R:=
 match P.underlying t,dO ix,f with
 |some (.map a _),some b,.mp id=>match P.underlying a,m.get id with
  |some d,some (.map e)=>if sJ P a d b e then k (m.set id (.map (setKey b x e)))else none
  |_,_=>none
 |_,_,_=>none
def aK(v:AV)(a b:Option R):Option R:=
 match v with
 | .sc (.bool true)=>a
 | .sc (.bool false)=>b
 |_=>none
def sW(v:AV)(a:Bool):Bool:=
 match v with
 | .sc (.bool b)=>b == a
 |_=>false
def bL(c:AV)(w:Bool)(x:AV)(m:Mem)(k:AV×Mem->Option R):Option R:=(bif sW c w then some (x,m)else some (U,m)).bind k
def aL(c:AV)(w:Bool)(x:Option AV)(m:Mem)(k:AV×Mem->Option R):Option R:=(bif sW c w then x.bind λv=>some (v,m)else some (U,m)).bind k
def fI(c:AV)(w:Bool)(x:Option (AV×Mem))(m:Mem)(k:AV×Mem->Option R):Option R:=(bif sW c w then x.bind λp=>some (p.1,p.2)else some (U,m)).bind k
def BI(h:Hp)(i:Id):Hp:=
 match fK h i with
 |some (.row a v false)=>rE h i (.row a v true)
 |_=>h
def lH:List Id->Hp->Hp
 |[],h=>h
 |i::r,h=>lH r (BI h i)
def T5(a:Hp):List Id->Hp->Hp
 |[],h=>h
 |i::r,h=>T5 a r (match fK a i with
  |some o=>rE h i o
  |none=>h)
def aI(a:aJ)(f:FuncId)(l:List AV)(m:Mem):Option (AV×Mem):=
 match l.mapM (frz m.get bI)with
 |some b=>match a [] f b mem0 with
  |some (r,d)=>(frz d.get bI r).map λr=>(r,⟨lH (l.flatMap (reach m.get bI)) m.hp,m.next⟩)
  |none=>none
 |none=>none
def vM(a:aJ)(f:FuncId)(l:List AV)(m:Mem):Option (AV×Mem):=
 if l.all clean then match a [] f l ⟨[],m.next⟩with
  |some (r,b)=>some (r,⟨(b.hp.filter λe=>Nat.ble m.next e.1)++(m.hp.filter λe=>Nat.blt e.1 m.next),b.next⟩)
  |none=>none
 else none
def eO(a:aJ)(f:FuncId)(l:List AV)(m:Mem):Option (AV×Mem):=
 match l.mapM (frz m.get bI)with
 |some b=>match a [] f b mem0 with
  |some (r,_)=>if qS r then some (r,m)else none
  |none=>none
 |none=>none
def tZ(a:aJ)(f:FuncId)(l:List AV)(m:Mem):Option (AV×Mem):=
 match l.mapM (frz m.get bI)with
 |some d=>match a [] f d ⟨[],m.next⟩with
  |some (r,b)=>
   if L9 r&&(reach b.get bI r).all (λi=>decide (m.next<=i.1)&&match b.get i with|some (.row e _ false)=>e.all pH|_=>false)then
    some (r,⟨T5 b.hp (reach b.get bI r) m.hp,b.next⟩)
   else none
  |none=>none
 |none=>none
def fL(b:aJ)(Z:FHs)(e:Nat)(i:AV)(a:List AV)(m:Mem):Option (AV×Mem):=
 match i with
 | .clo f d=>
   match e with
   |0=>aI b f (a++d) m
   |3=>eO b f (a++d) m
   |4=>tZ b f (a++d) m
   |1=>vM b f (a++d) m
   |_=>b Z f (a++d) m
 | .yld id=>match sQ Z id with
   |some h=>(h a m).map λg=>(.sc (.bool (mD g.get id)),g)
   |none=>none
 |_=>none
def T8(u Y:Nat):Hp->Hp
 |[]=>[]
 |(v,l)::r=>bif Nat.beq v u then(v,l.filter λe=>Nat.blt e.1 Y)::r else(v,l)::T8 u Y r
def au(u Y:Nat)(m:Mem):Mem:=⟨T8 u Y m.hp,m.next⟩
def xhb(u Y:Nat)(m a:Mem):Mem:=⟨xW (λl=>((gU m.hp u).filter λe=>Nat.ble Y e.1)++l.filter λe=>Nat.blt e.1 Y) a.hp u,a.next⟩
def xa9(a:aJ)(u Y:Nat)(f:FuncId)(l:List AV)(m:Mem):Option (AV×Mem):=
 (a [] f l (au u Y m)).map λp=>(p.1,xhb u Y m p.2)
def bf(a:aJ)(u Y:Nat)(Z:FHs)(b:Nat)(g:AV)(d:List AV)(m:Mem):Option (AV×Mem):=
 bif Nat.beq b 9 then match g with
  | .clo f e=>xa9 a u Y f (d++e) m
  |_=>none
 else fL a Z b g d m
def U0(P:Program)(a:aJ)(Z:FHs)(b:Nat)(rv:AV)(d:String)(e:List AV)(m:Mem):Option (AV×Mem):=
 (pG P rv d).bind λp=>fL a Z b (.clo p.1 []) (p.2::e) m
def BW(J:List (Nat×Nat))(b:Nat->AV):List (Nat×Operand)->Option (List (Nat×Nat×AV))
 |[]=>some []
 |(i,x)::r=>match J[i]? with
  |some (a,size)=>(BW J b r).map λl=>(a,size,ev b x)::l
  |none=>none
def BX(size:Nat)(a:Nat->AV):List (Nat×Operand)->List (Nat×Nat×AV)
 |[]=>[]
 |(i,x)::r=>(i*size,size,ev a x)::BX size a r
def iU(P:Program)(pol:Pol)(A:aJ)(c:FCtx)(r:Id)(o:Oper)(d:Nat->AV)(m:Mem)(k:AV->Mem->Option R):Option R:=
 match o.op with
 | .move x=>k (ev d x) m
 | .assign x=>k (ev d x) m
 | .pick c a b=>(bX (ev d c) (ev d a) (ev d b)).bind λv=>k v m
 | .alloc t=>match zeroCells P t with
   |some Q=>match LI P t Q with
    |some e=>xov t e r m k
    |none=>dG Q r m k
   |none=>none
 | .box _ x=>dB (ev d x) r m k
 | .build t j=>match P.underlying t,zeroCells P t with
   |some (.struct H),some z=>match fieldsOf P H with
    |some J=>match BW J d j.toList with
     |some W=>(cY z W).bind λv=>k v m
     |none=>none
    |none=>none
   |some (.array _ C),some z=>match P.info? C with
    |some i=>(cY z (BX i.size d j.toList)).bind λv=>k v m
    |none=>none
   |_,_=>none
 | .buildSlice t len j=>match P.underlying t with
   |some (.slice C)=>match P.info? C,zeroCells P C with
    |some i,some z=>bif decide (len*i.size<=2 ^ 24/\z.length=i.size)then
     cQ z (BX i.size d j.toList) len i.size r m k
     else none
    |_,_=>none
   |_=>none
 | .load t a=>match ty P t with
   |some (g,z)=>(aA g z (ev d a) m).bind λv=>k v m
   |none=>none
 | .store t a x=>match ty P t with
   |some (_,z)=>aU z (ev d a) (ev d x) m (k U)
   |none=>none
 | .nilCheck x=>(bZ (ev d x)).bind λv=>k v m
 | .binOp D t x y _=>match P.underlying t with
   |some (.int .i64)=>match D with
    | .add=>(bJ (ev d x) (ev d y)).bind λv=>k v m
    | .sub=>(eQ (ev d x) (ev d y)).bind λv=>k v m
    | .mul=>(nD (ev d x) (ev d y)).bind λv=>k v m
    | .quo=>(v8 (ev d x) (ev d y)).bind λv=>k v m
    | .rem=>(xQ (ev d x) (ev d y)).bind λv=>k v m
    | .lss=>(cC (ev d x) (ev d y)).bind λv=>k v m
    | .leq=>(iM (ev d x) (ev d y)).bind λv=>k v m
    | .gtr=>(eS (ev d x) (ev d y)).bind λv=>k v m
    | .geq=>(kD (ev d x) (ev d y)).bind λv=>k v m
    | .eql=>(eL (ev d x) (ev d y)).bind λv=>k v m
    | .neq=>(eF (ev d x) (ev d y)).bind λv=>k v m
    |_=>(bY P D t x y (ev d x) (ev d y)).bind λv=>k v m
   |_=>(bY P D t x y (ev d x) (ev d y)).bind λv=>k v m
 | .unOp D t x=>match P.underlying t with
   |some (.int .i64)=>match D with
    | .neg=>(oV (ev d x)).bind λv=>k v m
    |_=>(BL P D (ev d x)).bind λv=>k v m
   |_=>match D with
    | .not=>(dU (ev d x)).bind λv=>k v m
    |_=>(BL P D (ev d x)).bind λv=>k v m
 | .convert E F x=>match P.underlying E,P.underlying F with
   |some (.slice _),some .string=>(IT P E F (ev d x) m).bind λv=>k v m
   |_,_=>(mM P E F (ev d x)).bind λv=>k v m
 | .makeInterface t x=>(nY P t (ev d x)).bind λv=>k v m
 | .makeFunc (.func f) first w=>bif Nat.beq first.size 0 then k (.clo f (w.toList.map (ev d))) m else none
 | .makeSlice t l c=>match P.underlying t with
   |some (.slice C)=>match P.info? C,zeroCells P C with
    |some i,some z=>bif Nat.beq z.length i.size then rW z i.size i.bytes (ev d l) (ev d c) r m k else none
    |_,_=>none
   |_=>none
 | .slice t x M N none=>match P.underlying t with
   |some (.array n C)=>match P.info? C with
    |some i=>(xa0 n i.size (ev d x) (M.map (ev d)) (N.map (ev d)) m).bind λv=>k v m
    |none=>none
   |_=>(eK P t (ev d x) (M.map (ev d)) (N.map (ev d))).bind λv=>k v m
 | .slice t x M (some N) (some X)=>(nC P t (ev d x) (M.map (ev d)) (ev d N) (ev d X)).bind λv=>k v m
 | .sliceToArrayPointer t x=>match P.underlying t with
   |some (.array n _)=>(xa1 n (ev d x)).bind λv=>k v m
   |_=>none
 | .fieldAddr t x f=>match P.underlying t with
   |some (.struct H)=>match H[f]? with
    |some K=>match P.info? K.type with
     |some i=>bif Nat.beq i.size 0 then none else(aD K.offset (ev d x)).bind λv=>k v m
     |none=>none
    |none=>none
   |_=>none
 | .field t x f=>match P.underlying t with
   |some (.struct H)=>match H[f]? with
    |some K=>match ty P K.type with
     |some (g,z)=>(L7 g z K.offset (ev d x)).bind λv=>k v m
     |none=>none
    |none=>none
   |_=>none
 | .indexAddr t x ix=>match P.underlying t with
   |some (.slice C)=>match P.info? C with
    |some i=>(aR i.size (ev d x) (ev d ix)).bind λv=>k v m
    |none=>none
   |some (.array n C)=>match P.info? C with
    |some i=>(tY n i.size (ev d x) (ev d ix)).bind λv=>k v m
    |none=>none
   |_=>none
 | .index t x ix=>(kJ P t (ev d x) (ev d ix)).bind λv=>k v m
 | .extract x i=>(cO (ev d x) i).bind λv=>k v m
 | .makeMap _ none=>BM r m k
 | .lookup t x ix ok=>(xR P t (ev d x) (ev d ix) ok m).bind λv=>k v m
 | .mapUpdate t O ix x=>tW P t (ev d O) (ev d ix) (ev d x) m (k U)
 | .insert t O ix x=>tW P t (ev d O) (ev d ix) (ev d x) m (k U)
 | .call h=>match h.callee with
   | .value Y=>(bf A c.u c.fc c.hs (nm (pol c.f (o.dst.getD 0))) (ev d Y) (h.args.toList.map (ev d)) m).bind λp=>k p.1 p.2
   | .invoke rv L=>(U0 P A c.hs (nm (pol c.f (o.dst.getD 0))) (ev d rv) L (h.args.toList.map (ev d)) m).bind λp=>k p.1 p.2
   | .builtin b=>match b with
     | .len=>match h.argTypes.toList,h.args.toList with
       |[t],[x]=>match P.underlying t with
        |some (.slice _)=>(aM P t (ev d x)).bind λv=>k v m
        |some .string=>(fZ (ev d x)).bind λv=>k v m
        |some (.map _ _)=>(xa6 (ev d x) m).bind λv=>k v m
        |_=>none
       |_,_=>none
     | .append=>match h.argTypes.toList,h.args.toList with
       |[t,Z],[s,x]=>match P.underlying t,P.underlying Z with
        |some (.slice e),some (.slice _)=>match P.info? e,zeroCells P e with
         |some i,some z=>bif decide (z.length=i.size/\0<i.size)then cJ i.size i.bytes r (elems m.get i.size (ev d x)) (ev d s) m k else none
         |_,_=>none
        |some (.slice e),some (.int _)=>match P.info? e,zeroCells P e with
         |some i,some z=>bif decide (z.length=i.size/\0<i.size)then cJ i.size i.bytes r (YD z i.size i.bytes (ev d x)) (ev d s) m k else none
         |_,_=>none
        |_,_=>none
       |_,_=>none
     | .copy=>match h.argTypes.toList,h.args.toList with
       |t::_,[s,x]=>match P.underlying t with
        |some (.slice e)=>match P.info? e with
         |some i=>xa8 i.size (ev d s) (ev d x) m k
         |none=>none
        |_=>none
       |_,_=>none
     | .min=>match h.argTypes.toList,h.args.toList with
       |[t,_],[x,y]=>match P.underlying t with
        |some (.int .i64)=>(w5 (ev d x) (ev d y)).bind λv=>k v m
        |_=>(mN P .min h.argTypes o.type (h.args.toList.map (ev d))).bind λv=>k v m
       |_,_=>(mN P .min h.argTypes o.type (h.args.toList.map (ev d))).bind λv=>k v m
     | .max=>match h.argTypes.toList,h.args.toList with
       |[t,_],[x,y]=>match P.underlying t with
        |some (.int .i64)=>(L6 (ev d x) (ev d y)).bind λv=>k v m
        |_=>(mN P .max h.argTypes o.type (h.args.toList.map (ev d))).bind λv=>k v m
       |_,_=>(mN P .max h.argTypes o.type (h.args.toList.map (ev d))).bind λv=>k v m
     | .clear=>match h.argTypes.toList,h.args.toList with
       |[t],[s]=>match P.underlying t with
        |some (.slice e)=>match P.info? e,zeroCells P e with
         |some i,some z=>bif Nat.beq z.length i.size then BO z i.size (ev d s) m k else none
         |_,_=>none
        |_=>none
       |_,_=>none
     | .cap=>(mN P .cap h.argTypes o.type (h.args.toList.map (ev d))).bind λv=>k v m
     | .real=>(mN P .real h.argTypes o.type (h.args.toList.map (ev d))).bind λv=>k v m
     | .imag=>(mN P .imag h.argTypes o.type (h.args.toList.map (ev d))).bind λv=>k v m
     | .complex=>(mN P .complex h.argTypes o.type (h.args.toList.map (ev d))).bind λv=>k v m
     |_=>none
 |_=>none
def HY(b:Array Oper)(g:Option (Nat×Bool))(d:Nat->AV):Bool:=
 match g with
 |none=>true
 |some (j,a)=>match (b[j]?).bind (·.dst)with
  |some t=>sW (d t) a
  |none=>false
def KO(b:Nat)(a:Option Tmp)(v:AV)(s:Fs)(k:Fs->Option R):Option R:=
 match a with
 |some d=>bif Nat.blt d b then k {s with sl:=tM s.sl d v}else none
 |none=>k s
def ay(P:Program)(pol:Pol)(a:aJ)(c:FCtx)(b:Array Oper)(i:Nat)(s:Fs)(k:Fs->Option R):Option R:=
 match b[i]? with
 |none=>k s
 |some o=>match o.guard with
  |none=>iU P pol a {c with fc:=s.fc} (c.u,s.fc+i,o.dst.getD 0) o s.sl s.m λv m=>KO c.nt o.dst v {s with m:=m} k
  |some g=>(bif HY b (some g) s.sl then iU P pol a {c with fc:=s.fc} (c.u,s.fc+i,o.dst.getD 0) o s.sl s.m (λv m=>some (v,m))else some (U,s.m)).bind λp=>KO c.nt o.dst p.1 {s with m:=p.2} k
def az(P:Program)(pol:Pol)(a:aJ)(c:FCtx)(b:Array Oper):List Nat->Fs->(Fs->Option R)->Option R
 |[],s,k=>k s
 |i::r,s,k=>ay P pol a c b i s λd=>az P pol a c b r d k
abbrev FM:=Option (List Id)×Option (List Id)
def tR(a:AV):FM:=match a with
 | .ptr id _ _=>(some [id],some [])
 |_=>(some [],some [])
def tS(a:AV):FM:=match a with
 | .ptr id _ _=>(some [],some [id])
 |_=>(none,none)
def tL(a:AV):FM:=match a with
 | .mp id=>(some [id],some [])
 |_=>(some [],some [])
def tX(a:AV):Option (List Id):=match a with
 | .sref id ..=>some [id]
 | .aN .. | .sc _=>some []
 |_=>none
def tA(b:Id)(a:AV):Option (List Id):=match a with
 | .sref id _ _ _ _ true=>some [id]
 | .sref id _ _ _ _ false=>some [id,b]
 | .aN .. | .sc _=>some [b]
 |_=>none
def tC(a:AV):Option (List Id):=match a with
 | .sref id ..=>some [id]
 | .sc _=>some []
 |_=>none
def o8(d:Id)(o:Oper)(b:Nat->AV):FM:=
 match o.op with
 | .load _ a=>tR (ev b a)
 | .store _ a _=>tS (ev b a)
 | .slice _ x _ _ _=>tR (ev b x)
 | .lookup _ x _ _=>tL (ev b x)
 | .call c=>match c.callee,c.args.toList with
   | .builtin .append,[s,x]=>(tX (ev b x),tA d (ev b s))
   | .builtin .copy,[s,x]=>(tX (ev b x),tC (ev b s))
   |_,_=>dV d o b
 |_=>dV d o b
def bU(a:Nat)(l:List AV):Nat:=if a=3\/a=4 then 1 else if a<=1/\l.all clean=true then 2 else 0
def mkD(b:AV)(a:Nat)(l:List AV):Nat:=
 match b with
 | .clo _ d=>bU a (l++d)
 |_=>0
def T0(a:Nat)(o:Oper)(b:Nat->AV):Nat:=
 match o.op with
 | .call c=>match c.callee with
   | .value d=>mkD (ev b d) a (c.args.toList.map (ev b))
   |_=>0
 |_=>0
def cU(a:Option Nat)(t:FM)(mk:Nat):Bool:=
 match t with
 |(some r,some b)=>(match a with|some n=>(r++b).all (λi=>Nat.blt i.1 n)|none=>true)&&(Nat.beq mk 2||(Nat.beq mk 1&&b.isEmpty))
 |_=>false
def JP(pol:Pol)(f u Y a:Nat)(b:Array Oper)(i j:Nat)(d:Nat->AV):Bool:=
 match b[i]?,b[j]? with
 |some x,some y=>x.apart b y &&
  (if fV x then !(fV y)&&cU (some a) (o8 (u,Y+j,y.dst.getD 0) y d) (T0 (nm (pol f (x.dst.getD 0))) x d)
   else if fV y then cU none (o8 (u,Y+i,x.dst.getD 0) x d) (T0 (nm (pol f (y.dst.getD 0))) y d)
   else aW (o8 (u,Y+i,x.dst.getD 0) x d) (o8 (u,Y+j,y.dst.getD 0) y d))
 |_,_=>false
def kC:Op->Bool
 | .move _ | .assign _ | .pick .. | .binOp .. | .unOp .. | .convert .. | .sliceToArrayPointer .. | .fieldAddr .. | .field .. | .indexAddr .. | .index .. | .extract .. | .build .. | .nilCheck _ | .makeFunc ..=>true
 | .call c=>match c.callee with
   | .builtin .len | .builtin .min | .builtin .max | .builtin .cap | .builtin .real | .builtin .imag | .builtin .complex=>true
   |_=>false
 |_=>false
def IE(a:Op):Bool:=kC a||match a with
 | .load .. | .slice .. | .lookup ..=>true
 |_=>false
def xcu(x y:Oper):Bool:=(fV x&&!fV y&&kC y.op)||(fV y&&!fV x&&kC x.op)
def BB(a:Array Oper)(i j:Nat):Bool:=
 match a[i]?,a[j]? with
 |some x,some y=>x.apart a y&&((!fV x&&!fV y&&(kC x.op||kC y.op||(IE x.op&&IE y.op)))||xcu x y)
 |_,_=>false
def IL(P:Program)(a:Array Oper):Bool:=
 let b:=uV a
 (List.range a.size).all λj=>late P a j j&&(b.getD j []).all (decide <| · < j)&&(List.range j).all λi=>late P a i j
def xfw(a:Array Oper):List (Nat×Nat):=
 let b:=uV a
 (List.range a.size).flatMap λj=>((List.range j).filter λi=>!(BB a i j||(b.getD j []).contains i)).map λi=>(i,j)
def wR(pol:Pol)(f u Y a:Nat)(b:Array Oper)(d:Nat->AV):List (Nat×Nat)->Bool
 |[]=>true
 |(i,j)::r=>JP pol f u Y a b i j d&&wR pol f u Y a b d r
def ZO(a:Array Oper):List Nat:=
 let b:=uV a
 (List.range a.size).filter λj=>(match a[j]? with|some o=>fV o|none=>false)&&(List.range a.size).any λi=>
  (match a[i]? with|some o=>!fV o&&kC o.op|none=>false)&&!((b.getD j []).contains i)&&!((b.getD i []).contains j)
def C6(pol:Pol)(f:Nat)(a:Array Oper)(b:Nat->AV):List Nat->Bool
 |[]=>true
 |j::r=>(match a[j]? with|some o=>Nat.ble 1 (T0 (nm (pol f (o.dst.getD 0))) o b)|none=>false)&&C6 pol f a b r
def K9(pol:Pol)(f:Nat)(a:Array Oper)(i j:Nat):Bool:=
 match a[i]?,a[j]? with
 |some x,some y=>x.apart a y&&(tP (pol f (x.dst.getD 0)) x y.op||tP (pol f (y.dst.getD 0)) y x.op)
 |_,_=>false
def BD(pol:Pol)(f:Nat)(b:Array Oper)(j:Nat):Bool:=
 match b[j]? with
 |some o=>(match o.op with
  | .call {callee:=.value (.func _),.. }=>true
  |_=>false)&&(Nat.beq (pol f (o.dst.getD 0)) 6||Nat.beq (pol f (o.dst.getD 0)) 7||Nat.beq (pol f (o.dst.getD 0)) 9)
 |none=>false
def ED(pol:Pol)(f:Nat)(a:Array Oper):List Nat:=(ZO a).filter λj=>!(BD pol f a j)
def U5(pol:Pol)(f:Nat)(a:Array Oper):List (Nat×Nat):=(xfw a).filter λp=>!(K9 pol f a p.1 p.2)
def bc(P:Program)(pol:Pol)(g:aJ)(c:FCtx)(d:Array Oper)(h:Bool)(s:Fs)(k:Fs->Option R):Option R:=
 az P pol g c d (List.range d.size) s λe=>
  bif h then
   (bif !(yM P d e.sl)&&IL P d then
    (match ED pol c.f d with
     |[]=>(match U5 pol c.f d with
      |[]=>k {e with fc:=s.fc+d.size}
      |p::q=>bif wR pol c.f c.u s.fc s.m.next d e.sl (p::q)then k {e with fc:=s.fc+d.size}else none)
     |a::b=>bif C6 pol c.f d e.sl (a::b)&&wR pol c.f c.u s.fc s.m.next d e.sl (U5 pol c.f d)then k {e with fc:=s.fc+d.size}else none)
    else none)
  else k {e with fc:=s.fc+d.size}
def fO(g:Bool)(z:Nat)(a:AV)(m:Mem):Option AV:=
 match a with
 | .ptr id b d=>aA g z (.ptr id b d) m
 |_=>none
def ER(P:Program)(b:Nat->AV)(m:Mem):List ResultVar->(List AV->Option R)->Option R
 |[],k=>k []
 | .tmp t::r,k=>ER P b m r λl=>k (b t::l)
 | .cell a t::r,k=>match ty P t with
   |some (g,z)=>(fO g z (b a) m).bind λv=>ER P b m r λl=>k (v::l)
   |none=>none
def fS(P:Program)(a:List ResultVar)(s:Fs):Option (AV×Mem):=
 ER P s.sl s.m a λl=>match l with
  |[v]=>some (v,s.m)
  |l=>some (.tup l,s.m)
def tV(v:AV)(k:FuncId->List AV->Option R):Option R:=
 match v with
 | .clo g a=>k g a
 |_=>none
def T6(a:(Fs->Option R)->Fs->Option R):Nat->Fs->Option R
 |0=>λ_=>none
 |n+1=>a (T6 a n)
def V0:List Tmp->Nat->List AV->(Nat->AV)->(Nat->AV)
 |[],_,_,b=>b
 |p::d,i,a,b=>V0 d (i+1) a (tM b p (a.getD i U))
def xat(id:Nat)(X:Fs->Option R)(E:Nat->Fs->Option R):Nat->Fs->Option R:=λi s=>bif Nat.beq i id then X s else E i s
def iV:Nat->Fs->Option R:=λ_ _=>none
def jY:Fs->Option R:=λ_=>none
def vN(e f:Nat)(H:Nat->Fs->Option Mem)(b:List Tmp)(d:Nat->AV):List AV->Mem->Option Mem:=λa m=>
 bif Nat.beq a.length f&&b.all (Nat.blt · e)then
  H m.next {sl:=V0 b 0 a d,m:=⟨m.hp,m.next+1⟩,fc:=0}
 else none
def T2(id:Id)(m:Mem):Bool:=match m.get id with
 |some (.lp none)=>true
 |_=>false
def rX(id:Id)(m:Mem):Option Mem:=bif T2 id m then some m else none
def qN(id:Id)(o:Out)(m:Mem):Option Mem:=bif T2 id m then some (m.set id (.lp (some o)))else none
def YE(id:Id)(m:Mem)(X T:Option R)(E:Nat->Option R):Option R:=match m.get id with
 |some (.lp none)=>X
 |some (.lp (some .ret))=>T
 |some (.lp (some (.exit i)))=>E i
 |_=>none
def fT(P:Program)(pol:Pol)(N:Nat)(d:aJ):Code->(R:Type)->FCtx->(X:Fs->Option R)->(E:Nat->Fs->Option R)->(T:Fs->Option R)->Fs->Option R
 | .skip,_,_,X,_,_=>X
 | .region _ r o,_,c,X,_,_=>λs=>bc P pol d c r o s X
 | .seq a b,R,c,X,E,T=>fT P pol N d a R c (fT P pol N d b R c X E T) E T
 | .cond x a b,R,c,X,E,T=>λs=>aK (ev s.sl x) (fT P pol N d a R c X E T s) (fT P pol N d b R c X E T s)
 | .block id b,R,c,X,E,T=>fT P pol N d b R c X (xat id X E) T
 | .loop b,R,c,_,E,T=>T6 (λrec=>fT P pol N d b R c rec E T) N
 | .exit id,_,_,_,E,_=>E id
 | .ret,_,_,_,_,T=>T
 | .rangeFunc f e h j,_,c,X,E,T=>λs=>tV (ev s.sl f) λg l=>bif oB [] j then
  (d (((c.u,s.fc,1),vN c.nt e.size (λu=>fT P pol N d h Mem {c with u:=u} (λt=>(rX (c.u,s.fc,1) t.m).bind λ_=>
      fT P pol N d j Mem {c with u:=u} (λn=>rX (c.u,s.fc,1) n.m) (λi n=>qN (c.u,s.fc,1) (.exit i) n.m) (λn=>qN (c.u,s.fc,1) .ret n.m) t) iV jY) e.toList s.sl)::c.hs)
   g (.yld (c.u,s.fc,1)::l) (s.m.new (c.u,s.fc,1) (.lp none))).bind λp=>YE (c.u,s.fc,1) p.2 (X {s with m:=p.2,fc:=s.fc+1}) (T {s with m:=p.2,fc:=s.fc+1}) λi=>E i {s with m:=p.2,fc:=s.fc+1}
   else
    (d (((c.u,s.fc,0),vN c.nt e.size (λu=>fT P pol N d h Mem {c with u:=u} (fT P pol N d j Mem {c with u:=u} (λn=>some n.m) iV jY) iV jY) e.toList s.sl)::c.hs)
     g (.yld (c.u,s.fc,0)::l) s.m).bind λp=>X {s with m:=p.2,fc:=s.fc+1}
 |_,_,_,_,_,_=>jY
def U'(k:Nat)(a:List AV)(m:Mem):Option (AV×Mem):=
 bif Nat.beq k 3 then(XJ a m.get).map λp=>(.tup [],m.set p.1 p.2)else bif Nat.ble 16 k then(bif Nat.beq (k % 2) 0 then(XI (k / 2000) (k / 2 % 1000) m.get a).map λv=>(v,⟨[],m.next⟩)else(XH (k / 2000) (k / 2 % 1000) m.get a).map λp=>(p.1,m.set p.2.1 p.2.2))else bif Nat.ble 4 k then(XG k a m.get).map λv=>(v,m)else(rQ k a).map λv=>(v,m)
def wN(P:Program)(pol:Pol)(N:Nat)(b:aJ)(Z:FHs)(f:FuncId)(a:List AV)(m:Mem):Option (AV×Mem):=
 bif Nat.beq (pol f iP) 0 then
  (match P.funcs[f]? with
  |some fn=>match fn.body with
   |some d=>if fn.name≠"runtime.NumGoroutine"/\a.length<=fn.ntmps then
    fT P pol N b d (AV×Mem) {f:=f,u:=m.next,nt:=fn.ntmps,hs:=Z} (fS P fn.results.toList) iV (fS P fn.results.toList) {sl:=nJ a,m:=⟨m.hp,m.next+1⟩,fc:=0}
    else none
   |none=>(w7 P f a).map λv=>(v,m)
  |none=>none)
 else U' (pol f iP) a m
end Go.Ix
