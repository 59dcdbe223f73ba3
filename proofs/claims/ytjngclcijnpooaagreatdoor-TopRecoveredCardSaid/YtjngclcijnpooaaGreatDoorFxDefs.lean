import Derived.Test.YtjngclcijnpooaaGreatDoorIxA
set_option linter.all false
noncomputable section
namespace Go.Ix
abbrev I(n:Int):AV:=.sc (.int .i64 n)
abbrev B(b:Bool):AV:=.sc (.bool b)
abbrev U:AV:=.sc undef
abbrev nilS:AV:=.sc (.slice none 0 0)
abbrev Hp:=List (Nat×List (Nat×Nat×Ob))
def yP:List (Nat×Nat×Ob)->Nat->Nat->Option Ob
 |[],_,_=>none
 |(a,b,o)::r,s,t=>bif Nat.beq a s&&Nat.beq b t then some o else yP r s t
def lD:Hp->Nat->List (Nat×Nat×Ob)
 |[],_=>[]
 |(v,l)::r,u=>bif Nat.beq v u then l else lD r u
def fK(h:Hp)(i:Id):Option Ob:=yP (lD h i.1) i.2.1 i.2.2
def DB:List (Nat×Nat×Ob)->Nat->Nat->Ob->List (Nat×Nat×Ob)
 |[],s,t,o=>[(s,t,o)]
 |(a,b,p)::r,s,t,o=>bif Nat.beq a s&&Nat.beq b t then(s,t,o)::r else(a,b,p)::DB r s t o
def N9(f:List (Nat×Nat×Ob)->List (Nat×Nat×Ob)):Hp->Nat->Hp
 |[],u=>[(u,f [])]
 |(v,l)::r,u=>bif Nat.beq v u then(v,f l)::r else(v,l)::N9 f r u
def hset(h:Hp)(i:Id)(o:Ob):Hp:=N9 (λl=>DB l i.2.1 i.2.2 o) h i.1
def zK(h:Hp)(i:Id)(o:Ob):Hp:=N9 (λl=>(i.2.1,i.2.2,o)::l) h i.1
structure Mem where
 hp:Hp
 next:Nat
def Mem.set(m:Mem)(i:Id)(o:Ob):Mem:=⟨hset m.hp i o,m.next⟩
def Mem.new(m:Mem)(i:Id)(o:Ob):Mem:=⟨zK m.hp i o,m.next⟩
def Mem.get(m:Mem)(i:Id):Option Ob:=fK m.hp i
def Mem.st(m:Mem):St:={aD:=m.get,next:=m.next}
def mem0:Mem:=⟨[],0⟩
structure Fs where
 sl:Nat->AV
 m:Mem
 fc:Nat
def Fs.s(s:Fs):S:={sl:=s.sl,st:=s.m.st,fc:=s.fc}
abbrev FHs:=List (Id×(List AV->Mem->Option Mem))
def oF:FHs->Id->Option (List AV->Mem->Option Mem)
 |[],_=>none
 |(i,h)::r,id=>if i=id then some h else oF r id
abbrev aJ:=FHs->FuncId->List AV->Mem->Option (AV×Mem)
structure FCtx where
 f:FuncId
 u:Nat
 nt:Nat
 hs:FHs
 fc:Nat:=0
variable{R:Type}
def cJ(n:Int):Int:=
 match n with
 | .ofNat k=>bif Nat.ble k 9223372036854775807 then .ofNat k else IntKind.i64.wrap (.ofNat k)
 | .negSucc k=>bif Nat.ble k 9223372036854775807 then .negSucc k else IntKind.i64.wrap (.negSucc k)
def bM:AV->AV->Option AV
 | .sc (.int .i64 x),.sc (.int .i64 y)=>some (I (cJ (x+y)))
 |_,_=>none
def eV:AV->AV->Option AV
 | .sc (.int .i64 x),.sc (.int .i64 y)=>some (I (cJ (x-y)))
 |_,_=>none
def nA:AV->AV->Option AV
 | .sc (.int .i64 x),.sc (.int .i64 y)=>some (I (cJ (x*y)))
 |_,_=>none
def LC:AV->AV->Option AV
 | .sc (.int .i64 x),.sc (.int .i64 y)=>if y=0 then none else some (I (cJ (x.tdiv y)))
 |_,_=>none
def vU:AV->AV->Option AV
 | .sc (.int .i64 x),.sc (.int .i64 y)=>if y=0 then none else some (I (x.tmod y))
 |_,_=>none
def cA:AV->AV->Option AV
 | .sc (.int .i64 x),.sc (.int .i64 y)=>some (B (decide (x<y)))
 |_,_=>none
def jI:AV->AV->Option AV
 | .sc (.int .i64 x),.sc (.int .i64 y)=>some (B (decide (x<=y)))
 |_,_=>none
def eP:AV->AV->Option AV
 | .sc (.int .i64 x),.sc (.int .i64 y)=>some (B (decide (y<x)))
 |_,_=>none
def jU:AV->AV->Option AV
 | .sc (.int .i64 x),.sc (.int .i64 y)=>some (B (decide (y<=x)))
 |_,_=>none
def eK:AV->AV->Option AV
 | .sc (.int .i64 x),.sc (.int .i64 y)=>some (B (decide (x=y)))
 |_,_=>none
def eA:AV->AV->Option AV
 | .sc (.int .i64 x),.sc (.int .i64 y)=>some (B (!decide (x=y)))
 |_,_=>none
def rB:AV->Option AV
 | .sc (.int .i64 x)=>some (I (cJ (0-x)))
 |_=>none
def dN:AV->Option AV
 | .sc (.bool b)=>some (B (!b))
 |_=>none
def B2:AV->AV->Option AV
 | .sc (.int .i64 x),.sc (.int .i64 y)=>some (I (if y<x then y else x))
 |_,_=>none
def CQ:AV->AV->Option AV
 | .sc (.int .i64 x),.sc (.int .i64 y)=>some (I (if y > x then y else x))
 |_,_=>none
def bX(c a b:AV):Option AV:=
 match c with
 | .sc (.bool t)=>some (bif t then a else b)
 |_=>none
def cD(x:AV):Option AV:=
 match x with
 | .sc v=>match v with
   | .pointer none | .nilIface | .nilFunc | .func ..=>none
   |v=>some (.sc v)
 | .ptr id v o=>some (.ptr id v o)
 | .aH a=>some (.aH a)
 | .clo f a=>some (.clo f a)
 | .yld l=>some (.yld l)
 |_=>none
def aA(g:Bool)(z:Nat)(a:AV)(m:Mem):Option AV:=
 match a with
 | .aH b=>if b.isEmpty then none else rd g z b
 | .ptr id d e=>match m.get id with
   |some (.row b v _)=>if v=d then rd g z (b.drop e)else none
   |_=>none
 |_=>none
def bA(z:Nat)(a x:AV)(m:Mem)(k:Mem->Option R):Option R:=
 match a with
 | .ptr id d b=>match m.get id with
   |some (.row e v false)=>if v=d/\x.cells.length=z/\b+z<=e.length/\(x.cells.all AV.one)then
    k (m.set id (.row (cH e b x.cells) v false))else none
   |_=>none
 |_=>none
def dH(a:List AV)(id:Id)(m:Mem)(k:AV->Mem->Option R):Option R:=
 k (.ptr id 0 0) (m.new id (.row a 0 false))
def ae(t e:TypeId)(id:Id)(m:Mem)(k:AV->Mem->Option R):Option R:=
 k (.ptr id 0 0) (m.new id (.bld t e []))
def cX(x:AV)(id:Id)(m:Mem)(k:AV->Mem->Option R):Option R:=
 if x.cells.all AV.one then k (.ptr id 0 0) (m.new id (.row x.cells 0 false))else none
def iM(b:List AV):List (Nat×Nat×AV)->Option (List AV)
 |[]=>some b
 |(a,size,v)::r=>if v.cells.length=size/\a+size<=b.length then iM (cH b a v.cells) r else none
def dA(z:List AV)(a:List (Nat×Nat×AV)):Option AV:=(iM z a).map .agg
def cV(z:List AV)(b:List (Nat×Nat×AV))(len size:Nat)(id:Id)(m:Mem)(k:AV->Mem->Option R):Option R:=
 match iM (eQ z (len*size)) b with
 |some a=>if !(a.all AV.one)then none else if a.all fO then k (.aN a len true) m else k (.sref id 0 0 len size true) (m.new id (.row a 0 false))
 |none=>none
def sF(z:List AV)(size a:Nat)(l c:AV)(id:Id)(m:Mem)(k:AV->Mem->Option R):Option R:=
 match dF l,dF c with
 |some l,some c=>if 0<=l/\l<=c/\a*c<=2 ^ 47/\c<=2 ^ 47 then
  k (.sref id 0 0 l.toNat size true) (m.new id (.row (eQ z (c.toNat*size)) 0 false))else none
 |_,_=>none
def aE(a:Nat):AV->Option AV
 | .ptr id b o=>some (.ptr id b (o+a))
 | .aH d=>some (.aH (d.drop a))
 |_=>none
def N5(g:Bool)(z a:Nat):AV->Option AV
 | .agg b=>rd g z (b.drop a)
 |_=>none
def aV(size:Nat)(x ix:AV):Option AV:=
 match dF ix with
 |some k=>match x with
  | .aN d n _=>if 0<=k/\k<n then some (.aH (d.drop (k.toNat*size)))else none
  | .sref id a b n z _=>if 0<=k/\k<n/\z=size then some (.ptr id a (b+k.toNat*z))else none
  |_=>none
 |none=>none
def uH(n size:Nat)(x ix:AV):Option AV:=
 match dF ix with
 |some k=>match x with
  | .ptr id a b=>if 0<=k/\k<n then some (.ptr id a (b+k.toNat*size))else none
  | .aH d=>if 0<=k/\k<n then some (.aH (d.drop (k.toNat*size)))else none
  |_=>none
 |none=>none
def kZ(P:Program)(t:TypeId)(x ix:AV):Option AV:=
 match x with
 | .agg a=>match dF ix,P.underlying t with
   |some k,some (.array n C)=>match ty P C with
    |some (g,z)=>if 0<=k/\k<n then rd g z (a.drop (k.toNat*z))else none
    |none=>none
   |_,_=>none
 | .sc v=>match dL ix with
   |some k=>(bJ P (Instr.index t v k)).map fJ
   |none=>none
 |_=>none
def cN(x:AV)(i:Nat):Option AV:=
 match x with
 | .tup a=>a[i]?
 |_=>none
def dZ(P:Program)(t:TypeId)(x:AV)(f b:Option AV):Option AV:=
 match dL x with
 |some v=>match iR f.toList,iR b.toList with
  |some j,some Z=>(bJ P (Instr.sliceAt t v (j[0]?) (Z[0]?) none)).map fJ
  |_,_=>none
 |none=>match P.underlying t with
  |some (.slice C)=>match P.info? C,dF (f.getD (I 0))with
   |some i,some l=>match x with
    | .aN g n x=>match dF (b.getD (I n))with
      |some h=>if 0<=l/\l<=h/\h<=n/\n*i.size<=g.length then some (.aN ((g.drop (l.toNat*i.size)).take ((h-l).toNat*i.size)) (h-l).toNat (x&&decide (h=n)))else none
      |none=>none
    | .sref id d e n z a=>match dF (b.getD (I n))with
      |some h=>if 0<=l/\l<=h/\h<=n/\z=i.size/\(a=true\/h=n)then some (.sref id d (e+l.toNat*z) (h-l).toNat z a)else none
      |none=>none
    |_=>none
   |_,_=>none
  |_=>none
def xdk(n size:Nat)(x:AV)(d e:Option AV)(m:Mem):Option AV:=
 match x with
 | .ptr id a b=>match dF (d.getD (I 0)),dF (e.getD (I n))with
   |some l,some h=>match m.get id with
    |some (.row f v _)=>if 0<=l/\l<=h/\h=n/\v=a/\b+n*size<=f.length then some (.sref id a (b+l.toNat*size) (h-l).toNat size false)else none
    |_=>none
   |_,_=>none
 |_=>none
def nV(P:Program)(t:TypeId)(x:AV)(d:Option AV)(e f:AV):Option AV:=
 match dL x with
 |some v=>match iR d.toList,dL e,dL f with
  |some j,some h,some m=>(bJ P (Instr.sliceAt t v (j[0]?) (some h) (some m))).map fJ
  |_,_,_=>none
 |none=>match P.underlying t with
  |some (.slice C)=>match P.info? C,dF (d.getD (I 0)),dF e,dF f with
   |some i,some l,some h,some m=>match x with
    | .aN g n _=>if 0<=l/\l<=h/\h<=n/\m=h/\n*i.size<=g.length then some (.aN ((g.drop (l.toNat*i.size)).take ((h-l).toNat*i.size)) (h-l).toNat true)else none
    | .sref id a b n z _=>if 0<=l/\l<=h/\h<=n/\m=h/\z=i.size then some (.sref id a (b+l.toNat*z) (h-l).toNat z false)else none
    |_=>none
   |_,_,_,_=>none
  |_=>none
def oW(P:Program)(t:TypeId)(x:AV):Option AV:=
 match dL x with
 |some v=>(bJ P (Instr.makeInterface t v)).map fJ
 |none=>none
def xdj(P:Program)(a b:TypeId)(x:AV)(m:Mem):Option AV:=(qU P m.get a b x).map λs=>.sc (.string s)
def CT(z:List AV)(size:Nat)(s:AV)(m:Mem)(k:AV->Mem->Option R):Option R:=
 match s with
 | .sc (.slice none _ _)=>k (.tup []) m
 | .sref id b a n d _=>match m.get id with
   |some (.row e v false)=>if v=b/\d=size/\a+n*d<=e.length then k (.tup []) (m.set id (.row (cH e a (eQ z (n*size))) v false))else none
   |_=>none
 |_=>none
def aM(P:Program)(t:TypeId)(x:AV):Option AV:=
 match x with
 | .aN _ n _=>some (I n)
 | .sref _ _ _ n _ _=>some (I n)
 |_=>match dL x with
  |some v=>(bJ P (Builtin.len_ #[t] 0 #[v])).map fJ
  |none=>none
def eD(x:AV):Option AV:=
 match x with
 | .sc (.string s)=>some (I s.size)
 |_=>none
def xdo(x:AV)(m:Mem):Option AV:=
 match x with
 | .mp id=>match m.get id with
   |some (.map a)=>some (I a.length)
   |_=>none
 |_=>none
def ab(z:List AV)(size a:Nat)(x:AV):Option (List AV×Nat):=
 match dF x with
 |some n=>if 0<=n/\n<=2 ^ 40/\n*a<=2 ^ 47 then some (eQ z (n.toNat*size),n.toNat)else none
 |none=>none
def cK(size a:Nat)(e:Id)(d:Option (List AV×Nat))(s:AV)(m:Mem)(k:AV->Mem->Option R):Option R:=
 match d with
 |some (d,q)=>match s with
  | .sc (.slice none 0 0)=>if q=0 then k s m else if cF q a then k (.sref e 0 0 q size true) (m.new e (.row d 0 false))else none
  | .aN g n true=>if n*size<=g.length then(if q=0 then k s m else if cF (n+q) a then k (.sref e 0 0 (n+q) size true) (m.new e (.row (g.take (n*size)++d) 0 false))else none)else none
  | .sref id f b n z true=>match m.get id with
    |some (.row g v false)=>if v=f/\z=size/\b+n*z<=g.length/\cF (n+q) a then
     if q=0 then k s m
     else if b+(n+q)*z<=g.length then k (.sref id f b (n+q) z true) (m.set id (.row (cH g (b+n*z) d) v false))
     else k (.sref id (f+1) 0 (n+q) z true) (m.set id (.row ((g.drop b).take (n*z)++d) (v+1) false))
     else none
    |_=>none
  | .sref id f b n z false=>match m.get id with
    |some (.row g v _)=>if v=f/\z=size/\b+n*z<=g.length/\cF (n+q) a then
     if q=0 then k s m else k (.sref e 0 0 (n+q) size true) (m.new e (.row ((g.drop b).take (n*z)++d) 0 false))
     else none
    |_=>none
  |_=>none
 |none=>none
def xdq(size:Nat)(s x:AV)(m:Mem)(k:AV->Mem->Option R):Option R:=
 match elems m.get size x with
 |some (b,q)=>match s with
  | .sref id d a n z _=>match m.get id with
    |some (.row e v false)=>if v=d/\z=size/\a+n*z<=e.length then
     k (I (Nat.min q n)) (m.set id (.row (cH e a (b.take (Nat.min q n*z))) v false))
     else none
    |_=>none
  | .sc (.slice none 0 0)=>k (I 0) m
  |_=>none
 |none=>none
def CP(id:Id)(m:Mem)(k:AV->Mem->Option R):Option R:=k (.mp id) (m.new id (.map []))
def yL(P:Program)(t:TypeId)(x ix:AV)(ok:Bool)(m:Mem):Option AV:=
 match P.underlying t,dL ix with
 |some (.map b f),some k=>match P.underlying b,K8 P f with
  |some d,some e=>
   match sQ m.get x with
   |some a=>if sU P b d k a then some (if ok then .tup [(findKey k a).getD e,.sc (.bool (findKey k a).isSome)]else(findKey k a).getD e)else none
   |none=>none
  |_,_=>none
 |_,_=>none
def uG(P:Program)(t:TypeId)(f ix x:AV)(m:Mem)(k:Mem->Option R):Option R:=
 match P.underlying t,dL ix,f with
 |some (.map a _),some b,.mp id=>match P.underlying a,m.get id with
  |some d,some (.map e)=>if sU P a d b e then k (m.set id (.map (setKey b x e)))else none
  |_,_=>none
 |_,_,_=>none
def aK(v:AV)(a b:Option R):Option R:=
 match v with
 | .sc (.bool true)=>a
 | .sc (.bool false)=>b
 |_=>none
def sW(v:AV)(a:Bool):Bool:=
 match v with
 | .sc (.bool b)=>b == a
 |_=>false
def bI(c:AV)(w:Bool)(x:AV)(m:Mem)(k:AV×Mem->Option R):Option R:=(bif sW c w then some (x,m)else some (U,m)).bind k
def aL(c:AV)(w:Bool)(x:Option AV)(m:Mem)(k:AV×Mem->Option R):Option R:=(bif sW c w then x.bind λv=>some (v,m)else some (U,m)).bind k
def fB(c:AV)(w:Bool)(x:Option (AV×Mem))(m:Mem)(k:AV×Mem->Option R):Option R:=(bif sW c w then x.bind λp=>some (p.1,p.2)else some (U,m)).bind k
def CK(h:Hp)(i:Id):Hp:=
 match fK h i with
 |some (.row a v false)=>hset h i (.row a v true)
 |_=>h
def mJ:List Id->Hp->Hp
 |[],h=>h
 |i::r,h=>mJ r (CK h i)
def V2(a:Hp):List Id->Hp->Hp
 |[],h=>h
 |i::r,h=>V2 a r (match fK a i with
  |some o=>hset h i o
  |none=>h)
def aI(a:aJ)(f:FuncId)(l:List AV)(m:Mem):Option (AV×Mem):=
 match l.mapM (frz m.get bR)with
 |some b=>match a [] f b mem0 with
  |some (r,d)=>(frz d.get bR r).map λr=>(r,⟨mJ (l.flatMap (reach m.get bR)) m.hp,m.next⟩)
  |none=>none
 |none=>none
def sH(a:aJ)(f:FuncId)(l:List AV)(m:Mem):Option (AV×Mem):=
 if l.all clean then match a [] f l ⟨[],m.next⟩with
  |some (r,b)=>some (r,⟨(b.hp.filter λe=>Nat.ble m.next e.1)++(m.hp.filter λe=>Nat.blt e.1 m.next),b.next⟩)
  |none=>none
 else none
def fC(a:aJ)(f:FuncId)(l:List AV)(m:Mem):Option (AV×Mem):=
 match l.mapM (frz m.get bR)with
 |some b=>match a [] f b mem0 with
  |some (r,_)=>if rF r then some (r,m)else none
  |none=>none
 |none=>none
def uI(a:aJ)(f:FuncId)(l:List AV)(m:Mem):Option (AV×Mem):=
 match l.mapM (frz m.get bR)with
 |some d=>match a [] f d ⟨[],m.next⟩with
  |some (r,b)=>
   if N7 r&&(reach b.get bR r).all (λi=>decide (m.next<=i.1)&&match b.get i with|some (.row e _ false)=>e.all pZ|_=>false)then
    some (r,⟨V2 b.hp (reach b.get bR r) m.hp,b.next⟩)
   else none
  |none=>none
 |none=>none
def fD(b:aJ)(Z:FHs)(e:Nat)(i:AV)(a:List AV)(m:Mem):Option (AV×Mem):=
 match i with
 | .clo f d=>
   match e with
   |0=>aI b f (a++d) m
   |3=>fC b f (a++d) m
   |4=>uI b f (a++d) m
   |1=>sH b f (a++d) m
   |_=>b Z f (a++d) m
 | .yld id=>match oF Z id with
   |some h=>(h a m).map λg=>(.sc (.bool (jW g.get id)),g)
   |none=>none
 |_=>none
def ef(b:aJ)(u Y:Nat)(Z:FHs)(a:Nat)(e:AV)(d:List AV)(m:Mem):Option (AV×Mem):=
 bif Nat.beq a 9 then none else fD b Z a e d m
def V6(P:Program)(a:aJ)(Z:FHs)(b:Nat)(rv:AV)(d:String)(e:List AV)(m:Mem):Option (AV×Mem):=
 (pY P rv d).bind λp=>fD a Z b (.clo p.1 []) (p.2::e) m
def DF(J:List (Nat×Nat))(b:Nat->AV):List (Nat×Operand)->Option (List (Nat×Nat×AV))
 |[]=>some []
 |(i,x)::r=>match J[i]? with
  |some (a,size)=>(DF J b r).map λl=>(a,size,ev b x)::l
  |none=>none
def DG(size:Nat)(a:Nat->AV):List (Nat×Operand)->List (Nat×Nat×AV)
 |[]=>[]
 |(i,x)::r=>(i*size,size,ev a x)::DG size a r
def jO(P:Program)(pol:Pol)(A:aJ)(c:FCtx)(r:Id)(o:Oper)(d:Nat->AV)(m:Mem)(k:AV->Mem->Option R):Option R:=
 match o.op with
 | .move x=>k (ev d x) m
 | .assign x=>k (ev d x) m
 | .pick c a b=>(bX (ev d c) (ev d a) (ev d b)).bind λv=>k v m
 | .alloc t=>match zeroCells P t with
   |some Q=>match NK P t Q with
    |some e=>ae t e r m k
    |none=>dH Q r m k
   |none=>none
 | .box _ x=>cX (ev d x) r m k
 | .build t j=>match P.underlying t,zeroCells P t with
   |some (.struct H),some z=>match fieldsOf P H with
    |some J=>match DF J d j.toList with
     |some W=>(dA z W).bind λv=>k v m
     |none=>none
    |none=>none
   |some (.array _ C),some z=>match P.info? C with
    |some i=>(dA z (DG i.size d j.toList)).bind λv=>k v m
    |none=>none
   |_,_=>none
 | .buildSlice t len j=>match P.underlying t with
   |some (.slice C)=>match P.info? C,zeroCells P C with
    |some i,some z=>bif decide (len*i.size<=2 ^ 24/\z.length=i.size)then
     cV z (DG i.size d j.toList) len i.size r m k
     else none
    |_,_=>none
   |_=>none
 | .load t a=>match ty P t with
   |some (g,z)=>(aA g z (ev d a) m).bind λv=>k v m
   |none=>none
 | .store t a x=>match ty P t with
   |some (_,z)=>bA z (ev d a) (ev d x) m (k U)
   |none=>none
 | .nilCheck x=>(cD (ev d x)).bind λv=>k v m
 | .binOp D t x y _=>match P.underlying t with
   |some (.int .i64)=>match D with
    | .add=>(bM (ev d x) (ev d y)).bind λv=>k v m
    | .sub=>(eV (ev d x) (ev d y)).bind λv=>k v m
    | .mul=>(nA (ev d x) (ev d y)).bind λv=>k v m
    | .quo=>(LC (ev d x) (ev d y)).bind λv=>k v m
    | .rem=>(vU (ev d x) (ev d y)).bind λv=>k v m
    | .lss=>(cA (ev d x) (ev d y)).bind λv=>k v m
    | .leq=>(jI (ev d x) (ev d y)).bind λv=>k v m
    | .gtr=>(eP (ev d x) (ev d y)).bind λv=>k v m
    | .geq=>(jU (ev d x) (ev d y)).bind λv=>k v m
    | .eql=>(eK (ev d x) (ev d y)).bind λv=>k v m
    | .neq=>(eA (ev d x) (ev d y)).bind λv=>k v m
    |_=>(bP P D t x y (ev d x) (ev d y)).bind λv=>k v m
   |_=>(bP P D t x y (ev d x) (ev d y)).bind λv=>k v m
 | .unOp D t x=>match P.underlying t with
   |some (.int .i64)=>match D with
    | .neg=>(rB (ev d x)).bind λv=>k v m
    |_=>(CO P D (ev d x)).bind λv=>k v m
   |_=>match D with
    | .not=>(dN (ev d x)).bind λv=>k v m
    |_=>(CO P D (ev d x)).bind λv=>k v m
 | .convert E F x=>match P.underlying E,P.underlying F with
   |some (.slice _),some .string=>(xdj P E F (ev d x) m).bind λv=>k v m
   |_,_=>(lO P E F (ev d x)).bind λv=>k v m
 | .makeInterface t x=>(oW P t (ev d x)).bind λv=>k v m
 | .makeFunc (.func f) first w=>bif Nat.beq first.size 0 then k (.clo f (w.toList.map (ev d))) m else none
 | .makeSlice t l c=>match P.underlying t with
   |some (.slice C)=>match P.info? C,zeroCells P C with
    |some i,some z=>bif Nat.beq z.length i.size then sF z i.size i.bytes (ev d l) (ev d c) r m k else none
    |_,_=>none
   |_=>none
 | .slice t x M N none=>match P.underlying t with
   |some (.array n C)=>match P.info? C with
    |some i=>(xdk n i.size (ev d x) (M.map (ev d)) (N.map (ev d)) m).bind λv=>k v m
    |none=>none
   |_=>(dZ P t (ev d x) (M.map (ev d)) (N.map (ev d))).bind λv=>k v m
 | .slice t x M (some N) (some X)=>(nV P t (ev d x) (M.map (ev d)) (ev d N) (ev d X)).bind λv=>k v m
 | .sliceToArrayPointer t x=>none
 | .fieldAddr t x f=>match P.underlying t with
   |some (.struct H)=>match H[f]? with
    |some K=>match P.info? K.type with
     |some i=>bif Nat.beq i.size 0 then none else(aE K.offset (ev d x)).bind λv=>k v m
     |none=>none
    |none=>none
   |_=>none
 | .field t x f=>match P.underlying t with
   |some (.struct H)=>match H[f]? with
    |some K=>match ty P K.type with
     |some (g,z)=>(N5 g z K.offset (ev d x)).bind λv=>k v m
     |none=>none
    |none=>none
   |_=>none
 | .indexAddr t x ix=>match P.underlying t with
   |some (.slice C)=>match P.info? C with
    |some i=>(aV i.size (ev d x) (ev d ix)).bind λv=>k v m
    |none=>none
   |some (.array n C)=>match P.info? C with
    |some i=>(uH n i.size (ev d x) (ev d ix)).bind λv=>k v m
    |none=>none
   |_=>none
 | .index t x ix=>(kZ P t (ev d x) (ev d ix)).bind λv=>k v m
 | .extract x i=>(cN (ev d x) i).bind λv=>k v m
 | .makeMap _ none=>CP r m k
 | .lookup t x ix ok=>(yL P t (ev d x) (ev d ix) ok m).bind λv=>k v m
 | .mapUpdate t O ix x=>uG P t (ev d O) (ev d ix) (ev d x) m (k U)
 | .insert t O ix x=>uG P t (ev d O) (ev d ix) (ev d x) m (k U)
 | .call h=>match h.callee with
   | .value Y=>(ef A c.u c.fc c.hs (nm (pol c.f (o.dst.getD 0))) (ev d Y) (h.args.toList.map (ev d)) m).bind λp=>k p.1 p.2
   | .invoke rv L=>(V6 P A c.hs (nm (pol c.f (o.dst.getD 0))) (ev d rv) L (h.args.toList.map (ev d)) m).bind λp=>k p.1 p.2
   | .builtin b=>match b with
     | .len=>match h.argTypes.toList,h.args.toList with
       |[t],[x]=>match P.underlying t with
        |some (.slice _)=>(aM P t (ev d x)).bind λv=>k v m
        |some .string=>(eD (ev d x)).bind λv=>k v m
        |some (.map _ _)=>(xdo (ev d x) m).bind λv=>k v m
        |_=>none
       |_,_=>none
     | .append=>match h.argTypes.toList,h.args.toList with
       |[t,Z],[s,x]=>match P.underlying t,P.underlying Z with
        |some (.slice e),some (.slice _)=>match P.info? e,zeroCells P e with
         |some i,some z=>bif decide (z.length=i.size/\0<i.size)then cK i.size i.bytes r (elems m.get i.size (ev d x)) (ev d s) m k else none
         |_,_=>none
        |some (.slice e),some (.int _)=>match P.info? e,zeroCells P e with
         |some i,some z=>bif decide (z.length=i.size/\0<i.size)then cK i.size i.bytes r (ab z i.size i.bytes (ev d x)) (ev d s) m k else none
         |_,_=>none
        |_,_=>none
       |_,_=>none
     | .copy=>match h.argTypes.toList,h.args.toList with
       |t::_,[s,x]=>match P.underlying t with
        |some (.slice e)=>match P.info? e with
         |some i=>xdq i.size (ev d s) (ev d x) m k
         |none=>none
        |_=>none
       |_,_=>none
     | .min=>match h.argTypes.toList,h.args.toList with
       |[t,_],[x,y]=>match P.underlying t with
        |some (.int .i64)=>(B2 (ev d x) (ev d y)).bind λv=>k v m
        |_=>(nB P .min h.argTypes o.type (h.args.toList.map (ev d))).bind λv=>k v m
       |_,_=>(nB P .min h.argTypes o.type (h.args.toList.map (ev d))).bind λv=>k v m
     | .max=>match h.argTypes.toList,h.args.toList with
       |[t,_],[x,y]=>match P.underlying t with
        |some (.int .i64)=>(CQ (ev d x) (ev d y)).bind λv=>k v m
        |_=>(nB P .max h.argTypes o.type (h.args.toList.map (ev d))).bind λv=>k v m
       |_,_=>(nB P .max h.argTypes o.type (h.args.toList.map (ev d))).bind λv=>k v m
     | .clear=>match h.argTypes.toList,h.args.toList with
       |[t],[s]=>match P.underlying t with
        |some (.slice e)=>match P.info? e,zeroCells P e with
         |some i,some z=>bif Nat.beq z.length i.size then CT z i.size (ev d s) m k else none
         |_,_=>none
        |_=>none
       |_,_=>none
     | .cap=>(nB P .cap h.argTypes o.type (h.args.toList.map (ev d))).bind λv=>k v m
     | .real=>(nB P .real h.argTypes o.type (h.args.toList.map (ev d))).bind λv=>k v m
     | .imag=>(nB P .imag h.argTypes o.type (h.args.toList.map (ev d))).bind λv=>k v m
     | .complex=>(nB P .complex h.argTypes o.type (h.args.toList.map (ev d))).bind λv=>k v m
     |_=>none
 |_=>none
def KD(b:Array Oper)(g:Option (Nat×Bool))(d:Nat->AV):Bool:=
 match g with
 |none=>true
 |some (j,a)=>match (b[j]?).bind (·.dst)with
  |some t=>sW (d t) a
  |none=>false
def MT(b:Nat)(a:Option Tmp)(v:AV)(s:Fs)(k:Fs->Option R):Option R:=
 match a with
 |some d=>bif Nat.blt d b then k {s with sl:=tV s.sl d v}else none
 |none=>k s
def eb(P:Program)(pol:Pol)(a:aJ)(c:FCtx)(b:Array Oper)(i:Nat)(s:Fs)(k:Fs->Option R):Option R:=
 match b[i]? with
 |none=>k s
 |some o=>match o.guard with
  |none=>jO P pol a {c with fc:=s.fc} (c.u,s.fc+i,o.dst.getD 0) o s.sl s.m λv m=>MT c.nt o.dst v {s with m:=m} k
  |some g=>(bif KD b (some g) s.sl then jO P pol a {c with fc:=s.fc} (c.u,s.fc+i,o.dst.getD 0) o s.sl s.m (λv m=>some (v,m))else some (U,s.m)).bind λp=>MT c.nt o.dst p.1 {s with m:=p.2} k
def ec(P:Program)(pol:Pol)(a:aJ)(c:FCtx)(b:Array Oper):List Nat->Fs->(Fs->Option R)->Option R
 |[],s,k=>k s
 |i::r,s,k=>eb P pol a c b i s λd=>ec P pol a c b r d k
abbrev HJ:=Option (List Id)×Option (List Id)
def tR(a:AV):HJ:=match a with
 | .ptr id _ _=>(some [id],some [])
 |_=>(some [],some [])
def tS(a:AV):HJ:=match a with
 | .ptr id _ _=>(some [],some [id])
 |_=>(none,none)
def tL(a:AV):HJ:=match a with
 | .mp id=>(some [id],some [])
 |_=>(some [],some [])
def tX(a:AV):Option (List Id):=match a with
 | .sref id ..=>some [id]
 | .aN .. | .sc _=>some []
 |_=>none
def tA(b:Id)(a:AV):Option (List Id):=match a with
 | .sref id _ _ _ _ true=>some [id]
 | .sref id _ _ _ _ false=>some [id,b]
 | .aN .. | .sc _=>some [b]
 |_=>none
def tC(a:AV):Option (List Id):=match a with
 | .sref id ..=>some [id]
 | .sc _=>some []
 |_=>none
def z6(d:Id)(o:Oper)(b:Nat->AV):HJ:=
 match o.op with
 | .load _ a=>tR (ev b a)
 | .store _ a _=>tS (ev b a)
 | .slice _ x _ _ _=>tR (ev b x)
 | .lookup _ x _ _=>tL (ev b x)
 | .call c=>match c.callee,c.args.toList with
   | .builtin .append,[s,x]=>(tX (ev b x),tA d (ev b s))
   | .builtin .copy,[s,x]=>(tX (ev b x),tC (ev b s))
   |_,_=>eC d o b
 |_=>eC d o b
def cY(a:Nat)(l:List AV):Nat:=if a=3\/a=4 then 1 else if a<=1/\l.all clean=true then 2 else 0
def mkD(b:AV)(a:Nat)(l:List AV):Nat:=
 match b with
 | .clo _ d=>cY a (l++d)
 |_=>0
def U4(a:Nat)(o:Oper)(b:Nat->AV):Nat:=
 match o.op with
 | .call c=>match c.callee with
   | .value d=>mkD (ev b d) a (c.args.toList.map (ev b))
   |_=>0
 |_=>0
def dJ(a:Option Nat)(t:HJ)(mk:Nat):Bool:=
 match t with
 |(some r,some b)=>(match a with|some n=>(r++b).all (λi=>Nat.blt i.1 n)|none=>true)&&(Nat.beq mk 2||(Nat.beq mk 1&&b.isEmpty))
 |_=>false
def LX(pol:Pol)(f u Y a:Nat)(b:Array Oper)(i j:Nat)(d:Nat->AV):Bool:=
 match b[i]?,b[j]? with
 |some x,some y=>x.apart b y &&
  (if fV x then !(fV y)&&dJ (some a) (z6 (u,Y+j,y.dst.getD 0) y d) (U4 (nm (pol f (x.dst.getD 0))) x d)
   else if fV y then dJ none (z6 (u,Y+i,x.dst.getD 0) x d) (U4 (nm (pol f (y.dst.getD 0))) y d)
   else aZ (z6 (u,Y+i,x.dst.getD 0) x d) (z6 (u,Y+j,y.dst.getD 0) y d))
 |_,_=>false
def kM:Op->Bool
 | .move _ | .assign _ | .pick .. | .binOp .. | .unOp .. | .convert .. | .sliceToArrayPointer .. | .fieldAddr .. | .field .. | .indexAddr .. | .index .. | .extract .. | .build .. | .nilCheck _ | .makeFunc ..=>true
 | .call c=>match c.callee with
   | .builtin .len | .builtin .min | .builtin .max | .builtin .cap | .builtin .real | .builtin .imag | .builtin .complex=>true
   |_=>false
 |_=>false
def KI(a:Op):Bool:=kM a||match a with
 | .load .. | .slice .. | .lookup ..=>true
 |_=>false
def xfl(x y:Oper):Bool:=(fV x&&!fV y&&kM y.op)||(fV y&&!fV x&&kM x.op)
def CE(a:Array Oper)(i j:Nat):Bool:=
 match a[i]?,a[j]? with
 |some x,some y=>x.apart a y&&((!fV x&&!fV y&&(kM x.op||kM y.op||(KI x.op&&KI y.op)))||xfl x y)
 |_,_=>false
def KS(P:Program)(a:Array Oper):Bool:=
 let b:=vF a
 (List.range a.size).all λj=>late P a j j&&(b.getD j []).all (decide <| · < j)&&(List.range j).all λi=>late P a i j
def xiz(a:Array Oper):List (Nat×Nat):=
 let b:=vF a
 (List.range a.size).flatMap λj=>((List.range j).filter λi=>!(CE a i j||(b.getD j []).contains i)).map λi=>(i,j)
def xA(pol:Pol)(f u Y a:Nat)(b:Array Oper)(d:Nat->AV):List (Nat×Nat)->Bool
 |[]=>true
 |(i,j)::r=>LX pol f u Y a b i j d&&xA pol f u Y a b d r
def ck(a:Array Oper):List Nat:=
 let b:=vF a
 (List.range a.size).filter λj=>(match a[j]? with|some o=>fV o|none=>false)&&(List.range a.size).any λi=>
  (match a[i]? with|some o=>!fV o&&kM o.op|none=>false)&&!((b.getD j []).contains i)&&!((b.getD i []).contains j)
def F1(pol:Pol)(f:Nat)(a:Array Oper)(b:Nat->AV):List Nat->Bool
 |[]=>true
 |j::r=>(match a[j]? with|some o=>Nat.ble 1 (U4 (nm (pol f (o.dst.getD 0))) o b)|none=>false)&&F1 pol f a b r
def N0(pol:Pol)(f:Nat)(a:Array Oper)(i j:Nat):Bool:=
 match a[i]?,a[j]? with
 |some x,some y=>x.apart a y&&(uC (pol f (x.dst.getD 0)) x y.op||uC (pol f (y.dst.getD 0)) y x.op)
 |_,_=>false
def CF(pol:Pol)(f:Nat)(b:Array Oper)(j:Nat):Bool:=
 match b[j]? with
 |some o=>(match o.op with
  | .call {callee:=.value (.func _),.. }=>true
  |_=>false)&&(Nat.beq (pol f (o.dst.getD 0)) 6||Nat.beq (pol f (o.dst.getD 0)) 7)
 |none=>false
def GG(pol:Pol)(f:Nat)(a:Array Oper):List Nat:=(ck a).filter λj=>!(CF pol f a j)
def W1(pol:Pol)(f:Nat)(a:Array Oper):List (Nat×Nat):=(xiz a).filter λp=>!(N0 pol f a p.1 p.2)
def ee(P:Program)(pol:Pol)(g:aJ)(c:FCtx)(d:Array Oper)(h:Bool)(s:Fs)(k:Fs->Option R):Option R:=
 ec P pol g c d (List.range d.size) s λe=>
  bif h then
   (bif !(zF P d e.sl)&&KS P d then
    (match GG pol c.f d with
     |[]=>(match W1 pol c.f d with
      |[]=>k {e with fc:=s.fc+d.size}
      |p::q=>bif xA pol c.f c.u s.fc s.m.next d e.sl (p::q)then k {e with fc:=s.fc+d.size}else none)
     |a::b=>bif F1 pol c.f d e.sl (a::b)&&xA pol c.f c.u s.fc s.m.next d e.sl (W1 pol c.f d)then k {e with fc:=s.fc+d.size}else none)
    else none)
  else k {e with fc:=s.fc+d.size}
def kY(g:Bool)(z:Nat)(a:AV)(m:Mem):Option AV:=
 match a with
 | .ptr id b d=>aA g z (.ptr id b d) m
 |_=>none
def GR(P:Program)(b:Nat->AV)(m:Mem):List ResultVar->(List AV->Option R)->Option R
 |[],k=>k []
 | .tmp t::r,k=>GR P b m r λl=>k (b t::l)
 | .cell a t::r,k=>match ty P t with
   |some (g,z)=>(kY g z (b a) m).bind λv=>GR P b m r λl=>k (v::l)
   |none=>none
def fZ(P:Program)(a:List ResultVar)(s:Fs):Option (AV×Mem):=
 GR P s.sl s.m a λl=>match l with
  |[v]=>some (v,s.m)
  |l=>some (.tup l,s.m)
def oV(v:AV)(k:FuncId->List AV->Option R):Option R:=
 match v with
 | .clo g a=>k g a
 |_=>none
def V3(a:(Fs->Option R)->Fs->Option R):Nat->Fs->Option R
 |0=>λ_=>none
 |n+1=>a (V3 a n)
def X1:List Tmp->Nat->List AV->(Nat->AV)->(Nat->AV)
 |[],_,_,b=>b
 |p::d,i,a,b=>X1 d (i+1) a (tV b p (a.getD i U))
def xdc(id:Nat)(X:Fs->Option R)(E:Nat->Fs->Option R):Nat->Fs->Option R:=λi s=>bif Nat.beq i id then X s else E i s
def iN:Nat->Fs->Option R:=λ_ _=>none
def jQ:Fs->Option R:=λ_=>none
def uJ(e f:Nat)(H:Nat->Fs->Option Mem)(b:List Tmp)(d:Nat->AV):List AV->Mem->Option Mem:=λa m=>
 bif Nat.beq a.length f&&b.all (Nat.blt · e)then
  H m.next {sl:=X1 b 0 a d,m:=⟨m.hp,m.next+1⟩,fc:=0}
 else none
def wK(id:Id)(m:Mem):Bool:=match m.get id with
 |some (.lp none)=>true
 |_=>false
def kX(id:Id)(m:Mem):Option Mem:=bif wK id m then some m else none
def lN(id:Id)(o:Out)(m:Mem):Option Mem:=bif wK id m then some (m.set id (.lp (some o)))else none
def N4(id:Id)(m:Mem)(X T:Option R)(E:Nat->Option R):Option R:=match m.get id with
 |some (.lp none)=>X
 |some (.lp (some .ret))=>T
 |some (.lp (some (.exit i)))=>E i
 |_=>none
def fG(P:Program)(pol:Pol)(N:Nat)(d:aJ):Code->(R:Type)->FCtx->(X:Fs->Option R)->(E:Nat->Fs->Option R)->(T:Fs->Option R)->Fs->Option R
 | .skip,_,_,X,_,_=>X
 | .region _ r o,_,c,X,_,_=>λs=>ee P pol d c r o s X
 | .seq a b,R,c,X,E,T=>fG P pol N d a R c (fG P pol N d b R c X E T) E T
 | .cond x a b,R,c,X,E,T=>λs=>aK (ev s.sl x) (fG P pol N d a R c X E T s) (fG P pol N d b R c X E T s)
 | .block id b,R,c,X,E,T=>fG P pol N d b R c X (xdc id X E) T
 | .loop b,R,c,_,E,T=>V3 (λrec=>fG P pol N d b R c rec E T) N
 | .exit id,_,_,_,E,_=>E id
 | .ret,_,_,_,_,T=>T
 | .rangeFunc f e h j,_,c,X,E,T=>λs=>oV (ev s.sl f) λg l=>bif nE [] j then
  (d (((c.u,s.fc,1),uJ c.nt e.size (λu=>fG P pol N d h Mem {c with u:=u} (λt=>(kX (c.u,s.fc,1) t.m).bind λ_=>
      fG P pol N d j Mem {c with u:=u} (λn=>kX (c.u,s.fc,1) n.m) (λi n=>lN (c.u,s.fc,1) (.exit i) n.m) (λn=>lN (c.u,s.fc,1) .ret n.m) t) iN jQ) e.toList s.sl)::c.hs)
   g (.yld (c.u,s.fc,1)::l) (s.m.new (c.u,s.fc,1) (.lp none))).bind λp=>N4 (c.u,s.fc,1) p.2 (X {s with m:=p.2,fc:=s.fc+1}) (T {s with m:=p.2,fc:=s.fc+1}) λi=>E i {s with m:=p.2,fc:=s.fc+1}
   else
    (d (((c.u,s.fc,0),uJ c.nt e.size (λu=>fG P pol N d h Mem {c with u:=u} (fG P pol N d j Mem {c with u:=u} (λn=>some n.m) iN jQ) iN jQ) e.toList s.sl)::c.hs)
     g (.yld (c.u,s.fc,0)::l) s.m).bind λp=>X {s with m:=p.2,fc:=s.fc+1}
 |_,_,_,_,_,_=>jQ
def xcr(k:Nat)(a:List AV)(m:Mem):Option (AV×Mem):=
 bif Nat.ble 16 k then(bif Nat.beq (k % 2) 0 then(vS (k / 2000) (k / 2 % 1000) m.get a).map λv=>(v,⟨[],m.next⟩)else(vR (k / 2000) (k / 2 % 1000) m.get a).map λp=>(p.1,m.set p.2.1 p.2.2))else(sB k a).map λv=>(v,m)
def wU(P:Program)(pol:Pol)(N:Nat)(b:aJ)(Z:FHs)(f:FuncId)(a:List AV)(m:Mem):Option (AV×Mem):=
 bif Nat.beq (pol f jD) 0 then
  (match P.funcs[f]? with
  |some fn=>match fn.body with
   |some d=>if fn.name≠"runtime.NumGoroutine"/\a.length<=fn.ntmps then
    fG P pol N b d (AV×Mem) {f:=f,u:=m.next,nt:=fn.ntmps,hs:=Z} (fZ P fn.results.toList) iN (fZ P fn.results.toList) {sl:=oD a,m:=⟨m.hp,m.next+1⟩,fc:=0}
    else none
   |none=>(B4 P f a).map λv=>(v,m)
  |none=>none)
 else xcr (pol f jD) a m
end Go.Ix
