import Derived.Test.YtdfahbenacjgeaaIxA
namespace Go.Ix
abbrev I(n:Int):AV:=.sc (.int .i64 n)
abbrev B(b:Bool):AV:=.sc (.bool b)
abbrev U:AV:=.sc undef
abbrev nilS:AV:=.sc (.slice none 0 0)
abbrev Hp:=List (Nat×List (Nat×Nat×Ob))
def tI:List (Nat×Nat×Ob)->Nat->Nat->Option Ob
 |[],_,_=>none
 |(a,b,o)::r,s,t=>bif Nat.beq a s&&Nat.beq b t then some o else tI r s t
def sJ:Hp->Nat->List (Nat×Nat×Ob)
 |[],_=>[]
 |(v,l)::r,u=>bif Nat.beq v u then l else sJ r u
def rT(h:Hp)(i:Id):Option Ob:=tI (sJ h i.1) i.2.1 i.2.2
def put2:List (Nat×Nat×Ob)->Nat->Nat->Ob->List (Nat×Nat×Ob)
 |[],s,t,o=>[(s,t,o)]
 |(a,b,p)::r,s,t,o=>bif Nat.beq a s&&Nat.beq b t then(s,t,o)::r else(a,b,p)::put2 r s t o
def a9(f:List (Nat×Nat×Ob)->List (Nat×Nat×Ob)):Hp->Nat->Hp
 |[],u=>[(u,f [])]
 |(v,l)::r,u=>bif Nat.beq v u then(v,f l)::r else(v,l)::a9 f r u
def hset(h:Hp)(i:Id)(o:Ob):Hp:=a9 (λl=>put2 l i.2.1 i.2.2 o) h i.1
def z1(h:Hp)(i:Id)(o:Ob):Hp:=a9 (λl=>(i.2.1,i.2.2,o)::l) h i.1
structure Mem where
 hp:Hp
 next:Nat
def Mem.set(m:Mem)(i:Id)(o:Ob):Mem:=⟨hset m.hp i o,m.next⟩
def Mem.new(m:Mem)(i:Id)(o:Ob):Mem:=⟨z1 m.hp i o,m.next⟩
def Mem.get(m:Mem)(i:Id):Option Ob:=rT m.hp i
def Mem.st(m:Mem):St:={objs:=m.get,next:=m.next}
def mem0:Mem:=⟨[],0⟩
structure Fs where
 sl:Nat->AV
 m:Mem
 fc:Nat
def Fs.s(s:Fs):S:={sl:=s.sl,st:=s.m.st,fc:=s.fc}
abbrev FHs:=List (Id×(List AV->Mem->Option Mem))
def xS:FHs->Id->Option (List AV->Mem->Option Mem)
 |[],_=>none
 |(i,h)::r,id=>if i=id then some h else xS r id
abbrev qI:=FHs->FuncId->List AV->Mem->Option (AV×Mem)
structure FCtx where
 f:FuncId
 u:Nat
 nt:Nat
 hs:FHs
 fc:Nat:=0
variable{R:Type}
def w64(n:Int):Int:=
 match n with
 | .ofNat k=>bif Nat.ble k 9223372036854775807 then .ofNat k else IntKind.i64.wrap (.ofNat k)
 | .negSucc k=>bif Nat.ble k 9223372036854775807 then .negSucc k else IntKind.i64.wrap (.negSucc k)
def rE:AV->AV->Option AV
 | .sc (.int .i64 x),.sc (.int .i64 y)=>some (I (w64 (x+y)))
 |_,_=>none
def rP:AV->AV->Option AV
 | .sc (.int .i64 x),.sc (.int .i64 y)=>some (I (w64 (x-y)))
 |_,_=>none
def yO:AV->AV->Option AV
 | .sc (.int .i64 x),.sc (.int .i64 y)=>some (I (w64 (x*y)))
 |_,_=>none
def xT:AV->AV->Option AV
 | .sc (.int .i64 x),.sc (.int .i64 y)=>if y=0 then none else some (I (w64 (x.tdiv y)))
 |_,_=>none
def s9:AV->AV->Option AV
 | .sc (.int .i64 x),.sc (.int .i64 y)=>if y=0 then none else some (I (x.tmod y))
 |_,_=>none
def sLt:AV->AV->Option AV
 | .sc (.int .i64 x),.sc (.int .i64 y)=>some (B (decide (x<y)))
 |_,_=>none
def sLe:AV->AV->Option AV
 | .sc (.int .i64 x),.sc (.int .i64 y)=>some (B (decide (x<=y)))
 |_,_=>none
def sGt:AV->AV->Option AV
 | .sc (.int .i64 x),.sc (.int .i64 y)=>some (B (decide (y<x)))
 |_,_=>none
def sGe:AV->AV->Option AV
 | .sc (.int .i64 x),.sc (.int .i64 y)=>some (B (decide (y<=x)))
 |_,_=>none
def sEq:AV->AV->Option AV
 | .sc (.int .i64 x),.sc (.int .i64 y)=>some (B (decide (x=y)))
 |_,_=>none
def sNe:AV->AV->Option AV
 | .sc (.int .i64 x),.sc (.int .i64 y)=>some (B (!decide (x=y)))
 |_,_=>none
def yP:AV->Option AV
 | .sc (.int .i64 x)=>some (I (w64 (0-x)))
 |_=>none
def rW:AV->Option AV
 | .sc (.bool b)=>some (B (!b))
 |_=>none
def sMin:AV->AV->Option AV
 | .sc (.int .i64 x),.sc (.int .i64 y)=>some (I (if y<x then y else x))
 |_,_=>none
def sMax:AV->AV->Option AV
 | .sc (.int .i64 x),.sc (.int .i64 y)=>some (I (if y > x then y else x))
 |_,_=>none
def qU(c a b:AV):Option AV:=
 match c with
 | .sc (.bool t)=>some (bif t then a else b)
 |_=>none
def sNil(x:AV):Option AV:=
 match x with
 | .sc v=>match v with
   | .pointer none | .nilIface | .nilFunc | .func ..=>none
   |v=>some (.sc v)
 | .ptr id v o=>some (.ptr id v o)
 | .plit cs=>some (.plit cs)
 | .clo f cs=>some (.clo f cs)
 | .yld l=>some (.yld l)
 |_=>none
def sLd(g:Bool)(z:Nat)(a:AV)(m:Mem):Option AV:=
 match a with
 | .plit cs=>if cs.isEmpty then none else rd g z cs
 | .ptr id ver off=>match m.get id with
   |some (.row cs v _)=>if v=ver then rd g z (cs.drop off)else none
   |_=>none
 |_=>none
def sSt(z:Nat)(a x:AV)(m:Mem)(k:Mem->Option R):Option R:=
 match a with
 | .ptr id ver off=>match m.get id with
   |some (.row cs v false)=>if v=ver/\x.cells.length=z/\off+z<=cs.length/\(x.cells.all AV.one)then
    k (m.set id (.row (rK cs off x.cells) v false))else none
   |_=>none
 |_=>none
def rG(cs:List AV)(id:Id)(m:Mem)(k:AV->Mem->Option R):Option R:=
 k (.ptr id 0 0) (m.new id (.row cs 0 false))
def sBld(t e:TypeId)(id:Id)(m:Mem)(k:AV->Mem->Option R):Option R:=
 k (.ptr id 0 0) (m.new id (.bld t e []))
def sA(x:AV)(id:Id)(m:Mem)(k:AV->Mem->Option R):Option R:=
 if x.cells.all AV.one then k (.ptr id 0 0) (m.new id (.row x.cells 0 false))else none
def tP(cs:List AV):List (Nat×Nat×AV)->Option (List AV)
 |[]=>some cs
 |(off,size,v)::r=>if v.cells.length=size/\off+size<=cs.length then tP (rK cs off v.cells) r else none
def rI(z:List AV)(ps:List (Nat×Nat×AV)):Option AV:=(tP z ps).map .agg
def sY(z:List AV)(ps:List (Nat×Nat×AV))(len size:Nat)(id:Id)(m:Mem)(k:AV->Mem->Option R):Option R:=
 match tP (sF z (len*size)) ps with
 |some cs=>if !(cs.all AV.one)then none else if cs.all clean1 then k (.slit cs len true) m else k (.sref id 0 0 len size true) (m.new id (.row cs 0 false))
 |none=>none
def b9(z:List AV)(size bytes:Nat)(l c:AV)(id:Id)(m:Mem)(k:AV->Mem->Option R):Option R:=
 match asI l,asI c with
 |some l,some c=>if 0<=l/\l<=c/\bytes*c<=2 ^ 47/\c<=2 ^ 47 then
  k (.sref id 0 0 l.toNat size true) (m.new id (.row (sF z (c.toNat*size)) 0 false))else none
 |_,_=>none
def sS2A(n:Nat)(x:AV):Option AV:=
 match x with
 | .slit cs q _=>if 0<n/\n<=q then some (.plit cs)else none
 | .sref id ver off q _ _=>if 0<n/\n<=q then some (.ptr id ver off)else none
 |_=>none
def sFA(off:Nat):AV->Option AV
 | .ptr id ver o=>some (.ptr id ver (o+off))
 | .plit cs=>some (.plit (cs.drop off))
 |_=>none
def sFld(g:Bool)(z off:Nat):AV->Option AV
 | .agg cs=>rd g z (cs.drop off)
 |_=>none
def sIx(size:Nat)(x ix:AV):Option AV:=
 match asI ix with
 |some k=>match x with
  | .slit cs n _=>if 0<=k/\k<n then some (.plit (cs.drop (k.toNat*size)))else none
  | .sref id ver off n z _=>if 0<=k/\k<n/\z=size then some (.ptr id ver (off+k.toNat*z))else none
  |_=>none
 |none=>none
def tE(n size:Nat)(x ix:AV):Option AV:=
 match asI ix with
 |some k=>match x with
  | .ptr id ver off=>if 0<=k/\k<n then some (.ptr id ver (off+k.toNat*size))else none
  | .plit cs=>if 0<=k/\k<n then some (.plit (cs.drop (k.toNat*size)))else none
  |_=>none
 |none=>none
def wG(P:Program)(t:TypeId)(x ix:AV):Option AV:=
 match x with
 | .agg cs=>match asI ix,P.underlying t with
   |some k,some (.array n el)=>match ty P el with
    |some (g,z)=>if 0<=k/\k<n then rd g z (cs.drop (k.toNat*z))else none
    |none=>none
   |_,_=>none
 | .sc v=>match rA ix with
   |some k=>(qR P (Instr.index t v k)).map sE
   |none=>none
 |_=>none
def sB(x:AV)(i:Nat):Option AV:=
 match x with
 | .tup vs=>vs[i]?
 |_=>none
def xU(P:Program)(t:TypeId)(x:AV)(lo hi:Option AV):Option AV:=
 match rA x with
 |some v=>match sO lo.toList,sO hi.toList with
  |some ls,some hs=>(qR P (Instr.sliceAt t v (ls[0]?) (hs[0]?) none)).map sE
  |_,_=>none
 |none=>match P.underlying t with
  |some (.slice el)=>match P.info? el,asI (lo.getD (I 0))with
   |some i,some l=>match x with
    | .slit cs n x=>match asI (hi.getD (I n))with
      |some h=>if 0<=l/\l<=h/\h<=n/\n*i.size<=cs.length then some (.slit ((cs.drop (l.toNat*i.size)).take ((h-l).toNat*i.size)) (h-l).toNat (x&&decide (h=n)))else none
      |none=>none
    | .sref id ver off n z full=>match asI (hi.getD (I n))with
      |some h=>if 0<=l/\l<=h/\h<=n/\z=i.size/\(full=true\/h=n)then some (.sref id ver (off+l.toNat*z) (h-l).toNat z full)else none
      |none=>none
    |_=>none
   |_,_=>none
  |_=>none
def sSlA(n size:Nat)(x:AV)(lo hi:Option AV)(m:Mem):Option AV:=
 match x with
 | .ptr id ver off=>match asI (lo.getD (I 0)),asI (hi.getD (I n))with
   |some l,some h=>match m.get id with
    |some (.row cs v _)=>if 0<=l/\l<=h/\h=n/\v=ver/\off+n*size<=cs.length then some (.sref id ver (off+l.toNat*size) (h-l).toNat size false)else none
    |_=>none
   |_,_=>none
 |_=>none
def sSl3(P:Program)(t:TypeId)(x:AV)(lo:Option AV)(hi mx:AV):Option AV:=
 match rA x with
 |some v=>match sO lo.toList,rA hi,rA mx with
  |some ls,some h,some m=>(qR P (Instr.sliceAt t v (ls[0]?) (some h) (some m))).map sE
  |_,_,_=>none
 |none=>match P.underlying t with
  |some (.slice el)=>match P.info? el,asI (lo.getD (I 0)),asI hi,asI mx with
   |some i,some l,some h,some m=>match x with
    | .slit cs n _=>if 0<=l/\l<=h/\h<=n/\m=h/\n*i.size<=cs.length then some (.slit ((cs.drop (l.toNat*i.size)).take ((h-l).toNat*i.size)) (h-l).toNat true)else none
    | .sref id ver off n z _=>if 0<=l/\l<=h/\h<=n/\m=h/\z=i.size then some (.sref id ver (off+l.toNat*z) (h-l).toNat z false)else none
    |_=>none
   |_,_,_,_=>none
  |_=>none
def sMkI(P:Program)(t:TypeId)(x:AV):Option AV:=
 match rA x with
 |some v=>(qR P (Instr.makeInterface t v)).map sE
 |none=>none
def sTxt(P:Program)(src dst:TypeId)(x:AV)(m:Mem):Option AV:=(vZ P m.get src dst x).map λs=>.sc (.string s)
def sClr(z:List AV)(size:Nat)(s:AV)(m:Mem)(k:AV->Mem->Option R):Option R:=
 match s with
 | .sc (.slice none _ _)=>k (.tup []) m
 | .sref id ver off n z' _=>match m.get id with
   |some (.row cs v false)=>if v=ver/\z'=size/\off+n*z'<=cs.length then k (.tup []) (m.set id (.row (rK cs off (sF z (n*size))) v false))else none
   |_=>none
 |_=>none
def qJ(P:Program)(t:TypeId)(x:AV):Option AV:=
 match x with
 | .slit _ n _=>some (I n)
 | .sref _ _ _ n _ _=>some (I n)
 |_=>match rA x with
  |some v=>(qR P (Builtin.len_ #[t] 0 #[v])).map sE
  |none=>none
def yQ(x:AV):Option AV:=
 match x with
 | .sc (.string s)=>some (I s.size)
 |_=>none
def sLenM(x:AV)(m:Mem):Option AV:=
 match x with
 | .mp id=>match m.get id with
   |some (.map es)=>some (I es.length)
   |_=>none
 |_=>none
def sMore(z:List AV)(size bytes:Nat)(x:AV):Option (List AV×Nat):=
 match asI x with
 |some n=>if 0<=n/\n<=2 ^ 40/\n*bytes<=2 ^ 47 then some (sF z (n.toNat*size),n.toNat)else none
 |none=>none
def rL(size bytes:Nat)(id0:Id)(src:Option (List AV×Nat))(s:AV)(m:Mem)(k:AV->Mem->Option R):Option R:=
 match src with
 |some (src,q)=>match s with
  | .sc (.slice none 0 0)=>if q=0 then k s m else if qW q bytes then k (.sref id0 0 0 q size true) (m.new id0 (.row src 0 false))else none
  | .slit cs n true=>if n*size<=cs.length then(if q=0 then k s m else if qW (n+q) bytes then k (.sref id0 0 0 (n+q) size true) (m.new id0 (.row (cs.take (n*size)++src) 0 false))else none)else none
  | .sref id ver off n z true=>match m.get id with
    |some (.row cs v false)=>if v=ver/\z=size/\off+n*z<=cs.length/\qW (n+q) bytes then
     if q=0 then k s m
     else if off+(n+q)*z<=cs.length then k (.sref id ver off (n+q) z true) (m.set id (.row (rK cs (off+n*z) src) v false))
     else k (.sref id (ver+1) 0 (n+q) z true) (m.set id (.row ((cs.drop off).take (n*z)++src) (v+1) false))
     else none
    |_=>none
  | .sref id ver off n z false=>match m.get id with
    |some (.row cs v _)=>if v=ver/\z=size/\off+n*z<=cs.length/\qW (n+q) bytes then
     if q=0 then k s m else k (.sref id0 0 0 (n+q) size true) (m.new id0 (.row ((cs.drop off).take (n*z)++src) 0 false))
     else none
    |_=>none
  |_=>none
 |none=>none
def sCpy(size:Nat)(s x:AV)(m:Mem)(k:AV->Mem->Option R):Option R:=
 match elems m.get size x with
 |some (src,q)=>match s with
  | .sref id ver off n z _=>match m.get id with
    |some (.row cs v false)=>if v=ver/\z=size/\off+n*z<=cs.length then
     k (I (Nat.min q n)) (m.set id (.row (rK cs off (src.take (Nat.min q n*z))) v false))
     else none
    |_=>none
  | .sc (.slice none 0 0)=>k (I 0) m
  |_=>none
 |none=>none
def Q8(id:Id)(m:Mem)(k:AV->Mem->Option R):Option R:=k (.mp id) (m.new id (.map []))
def C9(P:Program)(t:TypeId)(x ix:AV)(ok:Bool)(m:Mem):Option AV:=
 match P.underlying t,rA ix with
 |some (.map kt et),some k=>match P.underlying kt,B5 P et with
  |some d,some zv=>
   match xH m.get x with
   |some es=>if yJ P kt d k es then some (if ok then .tup [(findKey k es).getD zv,.sc (.bool (findKey k es).isSome)]else(findKey k es).getD zv)else none
   |none=>none
  |_,_=>none
 |_,_=>none
def u1(P:Program)(t:TypeId)(mm ix x:AV)(m:Mem)(k:Mem->Option R):Option R:=
 match P.underlying t,rA ix,mm with
 |some (.map kt _),some kv,.mp id=>match P.underlying kt,m.get id with
  |some d,some (.map es)=>if yJ P kt d kv es then k (m.set id (.map (setKey kv x es)))else none
  |_,_=>none
 |_,_,_=>none
def qL(v:AV)(a b:Option R):Option R:=
 match v with
 | .sc (.bool true)=>a
 | .sc (.bool false)=>b
 |_=>none
def sW(v:AV)(want:Bool):Bool:=
 match v with
 | .sc (.bool b)=>b == want
 |_=>false
def sGv(c:AV)(w:Bool)(x:AV)(m:Mem)(k:AV×Mem->Option R):Option R:=(bif sW c w then some (x,m)else some (U,m)).bind k
def sGo(c:AV)(w:Bool)(x:Option AV)(m:Mem)(k:AV×Mem->Option R):Option R:=(bif sW c w then x.bind λv=>some (v,m)else some (U,m)).bind k
def sGp(c:AV)(w:Bool)(x:Option (AV×Mem))(m:Mem)(k:AV×Mem->Option R):Option R:=(bif sW c w then x.bind λp=>some (p.1,p.2)else some (U,m)).bind k
def D0(h:Hp)(i:Id):Hp:=
 match rT h i with
 |some (.row cs v false)=>hset h i (.row cs v true)
 |_=>h
def uN:List Id->Hp->Hp
 |[],h=>h
 |i::r,h=>uN r (D0 h i)
def D1(h':Hp):List Id->Hp->Hp
 |[],h=>h
 |i::r,h=>D1 h' r (match rT h' i with
  |some o=>hset h i o
  |none=>h)
def qK(call:qI)(f:FuncId)(l:List AV)(m:Mem):Option (AV×Mem):=
 match l.mapM (frz m.get qN)with
 |some l'=>match call [] f l' mem0 with
  |some (r,m')=>(frz m'.get qN r).map λr=>(r,⟨uN (l.flatMap (reach m.get qN)) m.hp,m.next⟩)
  |none=>none
 |none=>none
def c0(call:qI)(f:FuncId)(l:List AV)(m:Mem):Option (AV×Mem):=
 if l.all clean then match call [] f l ⟨[],m.next⟩with
  |some (r,m')=>some (r,⟨(m'.hp.filter λe=>Nat.ble m.next e.1)++(m.hp.filter λe=>Nat.blt e.1 m.next),m'.next⟩)
  |none=>none
 else none
def I7(call:qI)(f:FuncId)(l:List AV)(m:Mem):Option (AV×Mem):=
 match l.mapM (frz m.get qN)with
 |some l'=>match call [] f l' mem0 with
  |some (r,_)=>if xI r then some (r,m)else none
  |none=>none
 |none=>none
def sCall4(call:qI)(f:FuncId)(l:List AV)(m:Mem):Option (AV×Mem):=
 match l.mapM (frz m.get qN)with
 |some l'=>match call [] f l' ⟨[],m.next⟩with
  |some (r,m')=>
   if B6 r&&(reach m'.get qN r).all (λi=>decide (m.next<=i.1)&&match m'.get i with|some (.row cs _ false)=>cs.all y5|_=>false)then
    some (r,⟨D1 m'.hp (reach m'.get qN r) m.hp,m'.next⟩)
   else none
  |none=>none
 |none=>none
def uD(call:qI)(hs:FHs)(mode:Nat)(fv:AV)(args:List AV)(m:Mem):Option (AV×Mem):=
 match fv with
 | .clo f caps=>
   match mode with
   |0=>qK call f (args++caps) m
   |3=>I7 call f (args++caps) m
   |4=>sCall4 call f (args++caps) m
   |1=>c0 call f (args++caps) m
   |_=>call hs f (args++caps) m
 | .yld id=>match xS hs id with
   |some h=>(h args m).map λm'=>(.sc (.bool (vD m'.get id)),m')
   |none=>none
 |_=>none
def z2(u fc:Nat):Hp->Hp
 |[]=>[]
 |(v,l)::r=>bif Nat.beq v u then(v,l.filter λe=>Nat.blt e.1 fc)::r else(v,l)::z2 u fc r
def hideM(u fc:Nat)(m:Mem):Mem:=⟨z2 u fc m.hp,m.next⟩
def backM(u fc:Nat)(m m':Mem):Mem:=⟨a9 (λl=>((sJ m.hp u).filter λe=>Nat.ble fc e.1)++l.filter λe=>Nat.blt e.1 fc) m'.hp u,m'.next⟩
def sCall9(call:qI)(u fc:Nat)(f:FuncId)(l:List AV)(m:Mem):Option (AV×Mem):=
 (call [] f l (hideM u fc m)).map λp=>(p.1,backM u fc m p.2)
def Q9(call:qI)(u fc:Nat)(hs:FHs)(mode:Nat)(fv:AV)(args:List AV)(m:Mem):Option (AV×Mem):=
 bif Nat.beq mode 9 then match fv with
  | .clo f caps=>sCall9 call u fc f (args++caps) m
  |_=>none
 else uD call hs mode fv args m
def fxMeth(P:Program)(call:qI)(hs:FHs)(mode:Nat)(rv:AV)(name:String)(args:List AV)(m:Mem):Option (AV×Mem):=
 (y6 P rv name).bind λp=>uD call hs mode (.clo p.1 []) (p.2::args) m
def D2(pl:List (Nat×Nat))(sl:Nat->AV):List (Nat×Operand)->Option (List (Nat×Nat×AV))
 |[]=>some []
 |(i,x)::r=>match pl[i]? with
  |some (off,size)=>(D2 pl sl r).map λl=>(off,size,ev sl x)::l
  |none=>none
def D3(size:Nat)(sl:Nat->AV):List (Nat×Operand)->List (Nat×Nat×AV)
 |[]=>[]
 |(i,x)::r=>(i*size,size,ev sl x)::D3 size sl r
noncomputable def sZ(P:Program)(pol:Pol)(call:qI)(c:FCtx)(id0:Id)(o:Oper)(sl:Nat->AV)(m:Mem)(k:AV->Mem->Option R):Option R:=
 match o.op with
 | .move x=>k (ev sl x) m
 | .assign x=>k (ev sl x) m
 | .pick c a b=>(qU (ev sl c) (ev sl a) (ev sl b)).bind λv=>k v m
 | .alloc t=>match zeroCells P t with
   |some cs=>match G7 P t cs with
    |some e=>sBld t e id0 m k
    |none=>rG cs id0 m k
   |none=>none
 | .box _ x=>sA (ev sl x) id0 m k
 | .build t parts=>match P.underlying t,zeroCells P t with
   |some (.struct fs),some z=>match fieldsOf P fs with
    |some pl=>match D2 pl sl parts.toList with
     |some ps=>(rI z ps).bind λv=>k v m
     |none=>none
    |none=>none
   |some (.array _ el),some z=>match P.info? el with
    |some i=>(rI z (D3 i.size sl parts.toList)).bind λv=>k v m
    |none=>none
   |_,_=>none
 | .buildSlice t len parts=>match P.underlying t with
   |some (.slice el)=>match P.info? el,zeroCells P el with
    |some i,some z=>bif decide (len*i.size<=2 ^ 24/\z.length=i.size)then
     sY z (D3 i.size sl parts.toList) len i.size id0 m k
     else none
    |_,_=>none
   |_=>none
 | .load t a=>match ty P t with
   |some (g,z)=>(sLd g z (ev sl a) m).bind λv=>k v m
   |none=>none
 | .store t a x=>match ty P t with
   |some (_,z)=>sSt z (ev sl a) (ev sl x) m (k U)
   |none=>none
 | .nilCheck x=>(sNil (ev sl x)).bind λv=>k v m
 | .binOp op t x y _=>match P.underlying t with
   |some (.int .i64)=>match op with
    | .add=>(rE (ev sl x) (ev sl y)).bind λv=>k v m
    | .sub=>(rP (ev sl x) (ev sl y)).bind λv=>k v m
    | .mul=>(yO (ev sl x) (ev sl y)).bind λv=>k v m
    | .quo=>(xT (ev sl x) (ev sl y)).bind λv=>k v m
    | .rem=>(s9 (ev sl x) (ev sl y)).bind λv=>k v m
    | .lss=>(sLt (ev sl x) (ev sl y)).bind λv=>k v m
    | .leq=>(sLe (ev sl x) (ev sl y)).bind λv=>k v m
    | .gtr=>(sGt (ev sl x) (ev sl y)).bind λv=>k v m
    | .geq=>(sGe (ev sl x) (ev sl y)).bind λv=>k v m
    | .eql=>(sEq (ev sl x) (ev sl y)).bind λv=>k v m
    | .neq=>(sNe (ev sl x) (ev sl y)).bind λv=>k v m
    |_=>(qT P op t x y (ev sl x) (ev sl y)).bind λv=>k v m
   |_=>(qT P op t x y (ev sl x) (ev sl y)).bind λv=>k v m
 | .unOp op t x=>match P.underlying t with
   |some (.int .i64)=>match op with
    | .neg=>(yP (ev sl x)).bind λv=>k v m
    |_=>(sUn P op (ev sl x)).bind λv=>k v m
   |_=>match op with
    | .not=>(rW (ev sl x)).bind λv=>k v m
    |_=>(sUn P op (ev sl x)).bind λv=>k v m
 | .convert src dst x=>match P.underlying src,P.underlying dst with
   |some (.slice _),some .string=>(sTxt P src dst (ev sl x) m).bind λv=>k v m
   |_,_=>(vS P src dst (ev sl x)).bind λv=>k v m
 | .makeInterface t x=>(sMkI P t (ev sl x)).bind λv=>k v m
 | .makeFunc (.func f) first captured=>bif Nat.beq first.size 0 then k (.clo f (captured.toList.map (ev sl))) m else none
 | .makeSlice t l c=>match P.underlying t with
   |some (.slice el)=>match P.info? el,zeroCells P el with
    |some i,some z=>bif Nat.beq z.length i.size then b9 z i.size i.bytes (ev sl l) (ev sl c) id0 m k else none
    |_,_=>none
   |_=>none
 | .slice t x lo hi none=>match P.underlying t with
   |some (.array n el)=>match P.info? el with
    |some i=>(sSlA n i.size (ev sl x) (lo.map (ev sl)) (hi.map (ev sl)) m).bind λv=>k v m
    |none=>none
   |_=>(xU P t (ev sl x) (lo.map (ev sl)) (hi.map (ev sl))).bind λv=>k v m
 | .slice t x lo (some hi) (some mx)=>(sSl3 P t (ev sl x) (lo.map (ev sl)) (ev sl hi) (ev sl mx)).bind λv=>k v m
 | .sliceToArrayPointer t x=>match P.underlying t with
   |some (.array n _)=>(sS2A n (ev sl x)).bind λv=>k v m
   |_=>none
 | .fieldAddr t x f=>match P.underlying t with
   |some (.struct fs)=>match fs[f]? with
    |some fd=>match P.info? fd.type with
     |some i=>bif Nat.beq i.size 0 then none else(sFA fd.offset (ev sl x)).bind λv=>k v m
     |none=>none
    |none=>none
   |_=>none
 | .field t x f=>match P.underlying t with
   |some (.struct fs)=>match fs[f]? with
    |some fd=>match ty P fd.type with
     |some (g,z)=>(sFld g z fd.offset (ev sl x)).bind λv=>k v m
     |none=>none
    |none=>none
   |_=>none
 | .indexAddr t x ix=>match P.underlying t with
   |some (.slice el)=>match P.info? el with
    |some i=>(sIx i.size (ev sl x) (ev sl ix)).bind λv=>k v m
    |none=>none
   |some (.array n el)=>match P.info? el with
    |some i=>(tE n i.size (ev sl x) (ev sl ix)).bind λv=>k v m
    |none=>none
   |_=>none
 | .index t x ix=>(wG P t (ev sl x) (ev sl ix)).bind λv=>k v m
 | .extract x i=>(sB (ev sl x) i).bind λv=>k v m
 | .makeMap _ none=>Q8 id0 m k
 | .lookup t x ix ok=>(C9 P t (ev sl x) (ev sl ix) ok m).bind λv=>k v m
 | .mapUpdate t mm ix x=>u1 P t (ev sl mm) (ev sl ix) (ev sl x) m (k U)
 | .insert t mm ix x=>u1 P t (ev sl mm) (ev sl ix) (ev sl x) m (k U)
 | .call cl=>match cl.callee with
   | .value fv=>(Q9 call c.u c.fc c.hs (nm (pol c.f (o.dst.getD 0))) (ev sl fv) (cl.args.toList.map (ev sl)) m).bind λp=>k p.1 p.2
   | .invoke rv name=>(fxMeth P call c.hs (nm (pol c.f (o.dst.getD 0))) (ev sl rv) name (cl.args.toList.map (ev sl)) m).bind λp=>k p.1 p.2
   | .builtin b=>match b with
     | .len=>match cl.argTypes.toList,cl.args.toList with
       |[t],[x]=>match P.underlying t with
        |some (.slice _)=>(qJ P t (ev sl x)).bind λv=>k v m
        |some .string=>(yQ (ev sl x)).bind λv=>k v m
        |some (.map _ _)=>(sLenM (ev sl x) m).bind λv=>k v m
        |_=>none
       |_,_=>none
     | .append=>match cl.argTypes.toList,cl.args.toList with
       |[t,t'],[s,x]=>match P.underlying t,P.underlying t' with
        |some (.slice e),some (.slice _)=>match P.info? e,zeroCells P e with
         |some i,some z=>bif decide (z.length=i.size/\0<i.size)then rL i.size i.bytes id0 (elems m.get i.size (ev sl x)) (ev sl s) m k else none
         |_,_=>none
        |some (.slice e),some (.int _)=>match P.info? e,zeroCells P e with
         |some i,some z=>bif decide (z.length=i.size/\0<i.size)then rL i.size i.bytes id0 (sMore z i.size i.bytes (ev sl x)) (ev sl s) m k else none
         |_,_=>none
        |_,_=>none
       |_,_=>none
     | .copy=>match cl.argTypes.toList,cl.args.toList with
       |t::_,[s,x]=>match P.underlying t with
        |some (.slice e)=>match P.info? e with
         |some i=>sCpy i.size (ev sl s) (ev sl x) m k
         |none=>none
        |_=>none
       |_,_=>none
     | .min=>match cl.argTypes.toList,cl.args.toList with
       |[t,_],[x,y]=>match P.underlying t with
        |some (.int .i64)=>(sMin (ev sl x) (ev sl y)).bind λv=>k v m
        |_=>(uV P .min cl.argTypes o.type (cl.args.toList.map (ev sl))).bind λv=>k v m
       |_,_=>(uV P .min cl.argTypes o.type (cl.args.toList.map (ev sl))).bind λv=>k v m
     | .max=>match cl.argTypes.toList,cl.args.toList with
       |[t,_],[x,y]=>match P.underlying t with
        |some (.int .i64)=>(sMax (ev sl x) (ev sl y)).bind λv=>k v m
        |_=>(uV P .max cl.argTypes o.type (cl.args.toList.map (ev sl))).bind λv=>k v m
       |_,_=>(uV P .max cl.argTypes o.type (cl.args.toList.map (ev sl))).bind λv=>k v m
     | .clear=>match cl.argTypes.toList,cl.args.toList with
       |[t],[s]=>match P.underlying t with
        |some (.slice e)=>match P.info? e,zeroCells P e with
         |some i,some z=>bif Nat.beq z.length i.size then sClr z i.size (ev sl s) m k else none
         |_,_=>none
        |_=>none
       |_,_=>none
     | .cap=>(uV P .cap cl.argTypes o.type (cl.args.toList.map (ev sl))).bind λv=>k v m
     | .real=>(uV P .real cl.argTypes o.type (cl.args.toList.map (ev sl))).bind λv=>k v m
     | .imag=>(uV P .imag cl.argTypes o.type (cl.args.toList.map (ev sl))).bind λv=>k v m
     | .complex=>(uV P .complex cl.argTypes o.type (cl.args.toList.map (ev sl))).bind λv=>k v m
     |_=>none
 |_=>none
def I8(ops:Array Oper)(g:Option (Nat×Bool))(sl:Nat->AV):Bool:=
 match g with
 |none=>true
 |some (j,want)=>match (ops[j]?).bind (·.dst)with
  |some t=>sW (sl t) want
  |none=>false
def fput(nt:Nat)(dst:Option Tmp)(v:AV)(s:Fs)(k:Fs->Option R):Option R:=
 match dst with
 |some d=>bif Nat.blt d nt then k {s with sl:=upd s.sl d v}else none
 |none=>k s
noncomputable def R3(P:Program)(pol:Pol)(call:qI)(c:FCtx)(ops:Array Oper)(i:Nat)(s:Fs)(k:Fs->Option R):Option R:=
 match ops[i]? with
 |none=>k s
 |some o=>match o.guard with
  |none=>sZ P pol call {c with fc:=s.fc} (c.u,s.fc+i,o.dst.getD 0) o s.sl s.m λv m=>fput c.nt o.dst v {s with m:=m} k
  |some g=>(bif I8 ops (some g) s.sl then sZ P pol call {c with fc:=s.fc} (c.u,s.fc+i,o.dst.getD 0) o s.sl s.m (λv m=>some (v,m))else some (U,s.m)).bind λp=>fput c.nt o.dst p.1 {s with m:=p.2} k
noncomputable def fxRun(P:Program)(pol:Pol)(call:qI)(c:FCtx)(ops:Array Oper):List Nat->Fs->(Fs->Option R)->Option R
 |[],s,k=>k s
 |i::r,s,k=>R3 P pol call c ops i s λs'=>fxRun P pol call c ops r s' k
abbrev Tch:=Option (List Id)×Option (List Id)
def tR(a:AV):Tch:=match a with
 | .ptr id _ _=>(some [id],some [])
 |_=>(some [],some [])
def tS(a:AV):Tch:=match a with
 | .ptr id _ _=>(some [],some [id])
 |_=>(none,none)
def tL(a:AV):Tch:=match a with
 | .mp id=>(some [id],some [])
 |_=>(some [],some [])
def tX(a:AV):Option (List Id):=match a with
 | .sref id ..=>some [id]
 | .slit .. | .sc _=>some []
 |_=>none
def tA(id0:Id)(a:AV):Option (List Id):=match a with
 | .sref id _ _ _ _ true=>some [id]
 | .sref id _ _ _ _ false=>some [id,id0]
 | .slit .. | .sc _=>some [id0]
 |_=>none
def tC(a:AV):Option (List Id):=match a with
 | .sref id ..=>some [id]
 | .sc _=>some []
 |_=>none
def tch(id0:Id)(o:Oper)(sl:Nat->AV):Tch:=
 match o.op with
 | .load _ a=>tR (ev sl a)
 | .store _ a _=>tS (ev sl a)
 | .slice _ x _ _ _=>tR (ev sl x)
 | .lookup _ x _ _=>tL (ev sl x)
 | .call c=>match c.callee,c.args.toList with
   | .builtin .append,[s,x]=>(tX (ev sl x),tA id0 (ev sl s))
   | .builtin .copy,[s,x]=>(tX (ev sl x),tC (ev sl s))
   |_,_=>qY id0 o sl
 |_=>qY id0 o sl
def mkM(mode:Nat)(l:List AV):Nat:=if mode=3\/mode=4 then 1 else if mode<=1/\l.all clean=true then 2 else 0
def mkD(fv:AV)(mode:Nat)(l:List AV):Nat:=
 match fv with
 | .clo _ cs=>mkM mode (l++cs)
 |_=>0
def mkO(mode:Nat)(o:Oper)(sl:Nat->AV):Nat:=
 match o.op with
 | .call c=>match c.callee with
   | .value fv=>mkD (ev sl fv) mode (c.args.toList.map (ev sl))
   |_=>0
 |_=>0
def cAp(lim:Option Nat)(t:Tch)(mk:Nat):Bool:=
 match t with
 |(some r,some ws)=>(match lim with|some n=>(r++ws).all (λi=>Nat.blt i.1 n)|none=>true)&&(Nat.beq mk 2||(Nat.beq mk 1&&ws.isEmpty))
 |_=>false
def I9(pol:Pol)(f u fc next0:Nat)(ops:Array Oper)(i j:Nat)(sl:Nat->AV):Bool:=
 match ops[i]?,ops[j]? with
 |some x,some y=>x.apart ops y &&
  (if rN x then !(rN y)&&cAp (some next0) (tch (u,fc+j,y.dst.getD 0) y sl) (mkO (nm (pol f (x.dst.getD 0))) x sl)
   else if rN y then cAp none (tch (u,fc+i,x.dst.getD 0) x sl) (mkO (nm (pol f (y.dst.getD 0))) y sl)
   else rB (tch (u,fc+i,x.dst.getD 0) x sl) (tch (u,fc+j,y.dst.getD 0) y sl))
 |_,_=>false
def tQ:Op->Bool
 | .move _ | .assign _ | .pick .. | .binOp .. | .unOp .. | .convert .. | .sliceToArrayPointer .. | .fieldAddr .. | .field .. | .indexAddr .. | .index .. | .extract .. | .build .. | .nilCheck _ | .makeFunc ..=>true
 | .call c=>match c.callee with
   | .builtin .len | .builtin .min | .builtin .max | .builtin .cap | .builtin .real | .builtin .imag | .builtin .complex=>true
   |_=>false
 |_=>false
def J0(op:Op):Bool:=tQ op||match op with
 | .load .. | .slice .. | .lookup ..=>true
 |_=>false
def ncPair(x y:Oper):Bool:=(rN x&&!rN y&&tQ y.op)||(rN y&&!rN x&&tQ x.op)
def D4(ops:Array Oper)(i j:Nat):Bool:=
 match ops[i]?,ops[j]? with
 |some x,some y=>x.apart ops y&&((!rN x&&!rN y&&(tQ x.op||tQ y.op||(J0 x.op&&J0 y.op)))||ncPair x y)
 |_,_=>false
def J1(P:Program)(ops:Array Oper):Bool:=
 let b:=xK ops
 (List.range ops.size).all λj=>late P ops j j&&(b.getD j []).all (decide <| · < j)&&(List.range j).all λi=>late P ops i j
def x63(ops:Array Oper):List (Nat×Nat):=
 let b:=xK ops
 (List.range ops.size).flatMap λj=>((List.range j).filter λi=>!(D4 ops i j||(b.getD j []).contains i)).map λi=>(i,j)
def yR(pol:Pol)(f u fc next0:Nat)(ops:Array Oper)(sl:Nat->AV):List (Nat×Nat)->Bool
 |[]=>true
 |(i,j)::r=>I9 pol f u fc next0 ops i j sl&&yR pol f u fc next0 ops sl r
def R4(ops:Array Oper):List Nat:=
 let b:=xK ops
 (List.range ops.size).filter λj=>(match ops[j]? with|some o=>rN o|none=>false)&&(List.range ops.size).any λi=>
  (match ops[i]? with|some o=>!rN o&&tQ o.op|none=>false)&&!((b.getD j []).contains i)&&!((b.getD i []).contains j)
def u2(pol:Pol)(f:Nat)(ops:Array Oper)(sl:Nat->AV):List Nat->Bool
 |[]=>true
 |j::r=>(match ops[j]? with|some o=>Nat.ble 1 (mkO (nm (pol f (o.dst.getD 0))) o sl)|none=>false)&&u2 pol f ops sl r
def z3(pol:Pol)(f:Nat)(ops:Array Oper)(i j:Nat):Bool:=
 match ops[i]?,ops[j]? with
 |some x,some y=>x.apart ops y&&(xJ (pol f (x.dst.getD 0)) x y.op||xJ (pol f (y.dst.getD 0)) y x.op)
 |_,_=>false
def D5(pol:Pol)(f:Nat)(ops:Array Oper)(j:Nat):Bool:=
 match ops[j]? with
 |some o=>(match o.op with
  | .call {callee:=.value (.func _),.. }=>true
  |_=>false)&&(Nat.beq (pol f (o.dst.getD 0)) 6||Nat.beq (pol f (o.dst.getD 0)) 7||Nat.beq (pol f (o.dst.getD 0)) 9)
 |none=>false
def D6(pol:Pol)(f:Nat)(ops:Array Oper):List Nat:=(R4 ops).filter λj=>!(D5 pol f ops j)
def z4(pol:Pol)(f:Nat)(ops:Array Oper):List (Nat×Nat):=(x63 ops).filter λp=>!(z3 pol f ops p.1 p.2)
noncomputable def fxReg(P:Program)(pol:Pol)(call:qI)(c:FCtx)(ops:Array Oper)(draw:Bool)(s:Fs)(k:Fs->Option R):Option R:=
 fxRun P pol call c ops (List.range ops.size) s λs'=>
  bif draw then
   (bif !(zO P ops s'.sl)&&J1 P ops then
    (match D6 pol c.f ops with
     |[]=>(match z4 pol c.f ops with
      |[]=>k {s' with fc:=s.fc+ops.size}
      |p::q=>bif yR pol c.f c.u s.fc s.m.next ops s'.sl (p::q)then k {s' with fc:=s.fc+ops.size}else none)
     |a::b=>bif u2 pol c.f ops s'.sl (a::b)&&yR pol c.f c.u s.fc s.m.next ops s'.sl (z4 pol c.f ops)then k {s' with fc:=s.fc+ops.size}else none)
    else none)
  else k {s' with fc:=s.fc+ops.size}
def sG(g:Bool)(z:Nat)(a:AV)(m:Mem):Option AV:=
 match a with
 | .ptr id ver off=>sLd g z (.ptr id ver off) m
 |_=>none
def D7(P:Program)(sl:Nat->AV)(m:Mem):List ResultVar->(List AV->Option R)->Option R
 |[],k=>k []
 | .tmp t::r,k=>D7 P sl m r λl=>k (sl t::l)
 | .cell a t::r,k=>match ty P t with
   |some (g,z)=>(sG g z (sl a) m).bind λv=>D7 P sl m r λl=>k (v::l)
   |none=>none
def sC(P:Program)(rs:List ResultVar)(s:Fs):Option (AV×Mem):=
 D7 P s.sl s.m rs λl=>match l with
  |[v]=>some (v,s.m)
  |l=>some (.tup l,s.m)
def d4(v:AV)(k:FuncId->List AV->Option R):Option R:=
 match v with
 | .clo g caps=>k g caps
 |_=>none
def z5(body:(Fs->Option R)->Fs->Option R):Nat->Fs->Option R
 |0=>λ_=>none
 |n+1=>body (z5 body n)
def z6:List Tmp->Nat->List AV->(Nat->AV)->(Nat->AV)
 |[],_,_,sl=>sl
 |p::ps,i,args,sl=>z6 ps (i+1) args (upd sl p (args.getD i U))
def setE(id:Nat)(X:Fs->Option R)(E:Nat->Fs->Option R):Nat->Fs->Option R:=λi s=>bif Nat.beq i id then X s else E i s
def qP:Nat->Fs->Option R:=λ_ _=>none
def tK:Fs->Option R:=λ_=>none
def yS(nt np:Nat)(H:Nat->Fs->Option Mem)(ps:List Tmp)(sl:Nat->AV):List AV->Mem->Option Mem:=λargs m=>
 bif Nat.beq args.length np&&ps.all (Nat.blt · nt)then
  H m.next {sl:=z6 ps 0 args sl,m:=⟨m.hp,m.next+1⟩,fc:=0}
 else none
def lpB(id:Id)(m:Mem):Bool:=match m.get id with
 |some (.lp none)=>true
 |_=>false
def xA(id:Id)(m:Mem):Option Mem:=bif lpB id m then some m else none
def wH(id:Id)(o:Out)(m:Mem):Option Mem:=bif lpB id m then some (m.set id (.lp (some o)))else none
def sLp(id:Id)(m:Mem)(X T:Option R)(E:Nat->Option R):Option R:=match m.get id with
 |some (.lp none)=>X
 |some (.lp (some .ret))=>T
 |some (.lp (some (.exit i)))=>E i
 |_=>none
noncomputable def fxK(P:Program)(pol:Pol)(N:Nat)(call:qI):Code->(R:Type)->FCtx->(X:Fs->Option R)->(E:Nat->Fs->Option R)->(T:Fs->Option R)->Fs->Option R
 | .skip,_,_,X,_,_=>X
 | .region _ ops draw,_,c,X,_,_=>λs=>fxReg P pol call c ops draw s X
 | .seq a b,R,c,X,E,T=>fxK P pol N call a R c (fxK P pol N call b R c X E T) E T
 | .cond x a b,R,c,X,E,T=>λs=>qL (ev s.sl x) (fxK P pol N call a R c X E T s) (fxK P pol N call b R c X E T s)
 | .block id b,R,c,X,E,T=>fxK P pol N call b R c X (setE id X E) T
 | .loop b,R,c,_,E,T=>z5 (λrec=>fxK P pol N call b R c rec E T) N
 | .exit id,_,_,_,E,_=>E id
 | .ret,_,_,_,_,T=>T
 | .rangeFunc f params assign body,_,c,X,E,T=>λs=>d4 (ev s.sl f) λg caps=>bif vO [] body then
  (call (((c.u,s.fc,1),yS c.nt params.size (λu=>fxK P pol N call assign Mem {c with u:=u} (λs1=>(xA (c.u,s.fc,1) s1.m).bind λ_=>
   fxK P pol N call body Mem {c with u:=u} (λs2=>xA (c.u,s.fc,1) s2.m) (λi s2=>wH (c.u,s.fc,1) (.exit i) s2.m) (λs2=>wH (c.u,s.fc,1) .ret s2.m) s1) qP tK) params.toList s.sl)::c.hs)
   g (.yld (c.u,s.fc,1)::caps) (s.m.new (c.u,s.fc,1) (.lp none))).bind λp=>sLp (c.u,s.fc,1) p.2 (X {s with m:=p.2,fc:=s.fc+1}) (T {s with m:=p.2,fc:=s.fc+1}) λi=>E i {s with m:=p.2,fc:=s.fc+1}
   else
    (call (((c.u,s.fc,0),yS c.nt params.size (λu=>fxK P pol N call assign Mem {c with u:=u} (fxK P pol N call body Mem {c with u:=u} (λs2=>some s2.m) qP tK) qP tK) params.toList s.sl)::c.hs)
     g (.yld (c.u,s.fc,0)::caps) s.m).bind λp=>X {s with m:=p.2,fc:=s.fc+1}
 |_,_,_,_,_,_=>tK
def tellM(k:Nat)(args:List AV)(m:Mem):Option (AV×Mem):=
 bif Nat.beq k 3 then(tell3 args m.get).map λp=>(.tup [],m.set p.1 p.2)else bif Nat.ble 16 k then(bif Nat.beq (k % 2) 0 then(tell6 (k / 2000) (k / 2 % 1000) m.get args).map λv=>(v,⟨[],m.next⟩)else(tell7 (k / 2000) (k / 2 % 1000) m.get args).map λp=>(p.1,m.set p.2.1 p.2.2))else bif Nat.ble 4 k then(tellR k args m.get).map λv=>(v,m)else(tells k args).map λv=>(v,m)
noncomputable def yT(P:Program)(pol:Pol)(N:Nat)(call:qI)(hs:FHs)(f:FuncId)(args:List AV)(m:Mem):Option (AV×Mem):=
 bif Nat.beq (pol f tD) 0 then
  (match P.funcs[f]? with
  |some fn=>match fn.body with
   |some body=>if fn.name≠"runtime.NumGoroutine"/\args.length<=fn.ntmps then
    fxK P pol N call body (AV×Mem) {f:=f,u:=m.next,nt:=fn.ntmps,hs:=hs} (sC P fn.results.toList) qP (sC P fn.results.toList) {sl:=vF args,m:=⟨m.hp,m.next+1⟩,fc:=0}
    else none
   |none=>(sExtn P f args).map λv=>(v,m)
  |none=>none)
 else tellM (pol f tD) args m
end Go.Ix
