import Derived.Test.YtibmppgmjbpdmaaGreatDoorWg4
import Derived.Test.YtibmppgmjbpdmaaGreatDoorFxSound
set_option linter.unusedSimpArgs false
set_option linter.unusedVariables false
namespace Go.Ix
open Go.Proofs
variable{α:Type}{z:Nat}{enc:α->List AV}{l:List α}{a:AV}
def Gk{α:Type}(z:Nat)(enc:α->List AV)(ok:Id->Prop)(m:Mem)(a:AV)(l:List α):Prop:=
 (a=nilS/\l=[])\/∃id ver,ok id/\a=.sref id ver 0 l.length z true/\m.get id=some (.row (l.flatMap enc) ver false)
theorem Gk.nil{ok:Id->Prop}{m:Mem}:Gk z enc ok m nilS []:=Or.inl ⟨rfl,rfl⟩
theorem Gk.frame{ok:Id->Prop}{m m':Mem}(h:Gk z enc ok m a l)(hm:∀id,ok id->m'.get id=m.get id):Gk z enc ok m' a l:=by
 rcases h with h|⟨id,ver,h0,h1,h2⟩
 .exact Or.inl h
 .exact Or.inr ⟨id,ver,h0,h1,by rw[hm _ h0];exact h2⟩
theorem Gk.app(hz:∀x,(enc x).length=z)(h0:0<z){bytes:Nat}{ok:Id->Prop}{id0:Id}{m:Mem}(ht:ok id0)(hr:x15e (l.length+1) bytes)(h:Gk z enc ok m a l)(x:α) :
 ∃a' m',(∀{R:Type} (k:AV->Mem->Option R),sApp z bytes id0 (some (enc x,1)) a m k=k a' m')/\Gk z enc ok m' a' (l++[x])/\a'.cells=[a']/\a'.one=true/\m'.next=m.next/\∀j:Id,¬ok j->m'.get j=m.get j:=by
 rcases h with ⟨rfl,rfl⟩|⟨id,ver,h1,rfl,hg⟩
 .refine⟨.sref id0 0 0 1 z true,m.new id0 (.row (enc x) 0 false),λk=>?_,Or.inr ⟨id0,0,ht,rfl,by simp⟩,rfl,rfl,rfl,λj hj=>?_⟩
  .simp only[sApp]
   rw[x1oz (by omega),x1p0 (by simpa using hr)]
  .rw[Mem.get_new,x1oz (by rintro rfl;exact hj ht)]
 .have hl:=x172 hz l
  refine⟨.sref id (ver+1) 0 (l.length+1) z true,m.set id (.row (l.flatMap enc++enc x) (ver+1) false),λk=>?_,Or.inr ⟨id,ver+1,h1,by simp,by simp⟩,rfl,rfl,rfl,λj hj=>?_⟩
  .simp only[sApp,hg]
   rw[x1p0 ⟨trivial,trivial,by omega,hr⟩,x1oz (by omega),x1oz (by rw[hl,x1qm];omega),x1po,x1pf (by omega)]
  .rw[Mem.get_set,x1oz (by rintro rfl;exact hj h1)]
theorem Gk.one{ok:Id->Prop}{m:Mem}(h:Gk z enc ok m a l):a.cells=[a]/\a.one=true:=by
 rcases h with ⟨rfl,rfl⟩|⟨id,ver,h1,rfl,hg⟩<;>exact⟨rfl,rfl⟩
theorem Gk.frz(hz:∀x,(enc x).length=z)(hs:∀x,(enc x).all still1=true){ok:Id->Prop}{k:Nat}{m:Mem}(h:Gk z enc ok m a l):∃a',Sl enc a' l/\Go.Ix.frz m.get (k+2) a=some a':=by
 rcases h with ⟨rfl,rfl⟩|⟨id,ver,_,rfl,hg⟩
 .exact⟨nilS,Or.inl ⟨rfl,rfl⟩,rfl⟩
 .have hl:=x172 hz l
  refine⟨.slit (l.flatMap enc) l.length false,Sl.lit l false,?_⟩
  have:=x1ac (objs:=m.get) (id:=id) (cs:=l.flatMap enc) (ver:=ver) (off:=0) (n:=l.length) (z:=z) (k:=k) (f:=false) (x:=true) hg (by omega) (by
   rw[x1po,x1pf (by omega)];exact x196 hs l)
  rw[x1po,x1pf (by omega)]at this
  exact this
theorem call1{call:x14p}{f:FuncId}{l:List AV}{m m':Mem}{r:AV}(hl:l.all clean=true)(h:call [] f l ⟨[],m.next⟩=some (r,m')) :
 ∃M:Mem,x18v call f l m=some (r,M)/\M.next=m'.next/\∀i:Id,M.get i=if m.next<=i.1 then m'.get i else m.get i:=by
 refine⟨⟨(m'.hp.filter λe=>Nat.ble m.next e.1)++(m.hp.filter λe=>Nat.blt e.1 m.next),m'.next⟩,?_,rfl,λi=>congrFun (x1em m'.hp m.hp m.next) i⟩
 unfold x18v
 rw[x1p0 hl,h]
theorem x1gy:∃i,Tryz.prog.info? x15g=some i/\i.size=1:=by
 have h:(Tryz.prog.info? x15g).map (λi=>i.size)=some 1:=by kernel_rfl
 obtain⟨i,h1,h2⟩:=x1p3.mp h
 exact⟨i,h1,h2⟩
theorem slice_lo{id:Id}{ver off n:Nat}{full:Bool}{lo:Int}(h0:0<=lo)(h2:lo<=n):x159 Tryz.prog xa (.sref id ver off n 1 full) (some (I lo)) none=some (.sref id ver (off+lo.toNat) (n-lo.toNat) 1 full):=by
 obtain⟨i,e1,e2⟩:=x1gy
 simp only[x159,x15b,u_ints,e1,asI,Option.getD_some,Option.getD_none]
 rw[x1p0 ⟨h0,by omega,by omega,e2.symm,.inr trivial⟩,x1s3,show((n:Int)-lo).toNat=n-lo.toNat by omega]
structure Ar where
 edge:Int
 to:Int
 sign:Int
 room:Int
 cost:Int
def Ar.c(a:Ar):List AV:=[I a.edge,I a.to,I a.sign,I a.room,I a.cost]
theorem Ar.len(a:Ar):a.c.length=5:=rfl
def e00:Edge:=⟨0,0,0,0⟩
def edgeAt(l:List Edge)(i:Nat):Edge:=l.getD i e00
theorem x1c5{l:List Edge}{i:Nat}(h:i<l.length):edgeAt l i=l[i]:=by
 unfold edgeAt;rw[x1q3,x1pr h];rfl
def adjI(l:List Edge)(v:Int):List Int:=((List.range l.length).filter λi=>decide ((edgeAt l i).fr=v)||decide ((edgeAt l i).to=v)).map Int.ofNat
structure FrzS (S:AV) (n:Nat) (l:List Edge) (fl tu ex:List Int):Prop where
 sh:∃ev F TU X cells b,S=.plit [I n,ev,F,TU,X,.slit cells n b]/\Sl Edge.c ev l/\Ints F fl/\Ints TU tu/\Ints X ex/\cells.length=n/\∀(v:Nat) (hv:v<cells.length),Ints cells[v] (adjI l v)
 fll:fl.length=l.length
 tul:tu.length=n
 exl:ex.length=n
 n0:n<=200
 ll:l.length<=600
 ed:∀e∈l,EdgeIn n e/\e.fr≠e.to
 flb:∀k,-1000<=at0 fl k/\at0 fl k<=1000
 tub:∀k,-1000000<=at0 tu k/\at0 tu k<=1000000
end Go.Ix
set_option maxRecDepth 100000
namespace Go.Ix
open Go.Proofs
structure Tour where
 len:List Int
 last:List Ar
 bef:List Int
theorem Ar.one(a:Ar):a.c.all AV.one=true:=rfl
theorem Ar.sc(a:Ar):a.c.all isSc=true:=rfl
structure WInv (u sL:Nat) (S:AV) (n:Nat) (t:Tour) (m:Mem):Prop where
 s:m.get (u,0,2)=some (.row [S] 0 false)
 t4:m.get (u,1,4)=some (.row [nilS,nilS,nilS] 0 false)
 t5:m.get (u,25,5)=some (.row [.sref (u+1,sL,30) 0 0 n 1 true,.sref (u,16,26) 0 0 n 5 true,.sref (u,23,33) 0 0 n 1 true] 0 false)
 len:m.get (u+1,sL,30)=some (.row (t.len.flatMap intE) 0 false)
 last:m.get (u,16,26)=some (.row (t.last.flatMap Ar.c) 0 false)
 bef:m.get (u,23,33)=some (.row (t.bef.flatMap intE) 0 false)
 ll:t.len.length=n
 al:t.last.length=n
 bl:t.bef.length=n
 nx:u+1<m.next
theorem WInv.frame{u sL:Nat}{S:AV}{n:Nat}{t:Tour}{m m':Mem}(h:WInv u sL S n t m)(hm:∀id:Id,id.1<=u+1->id.2.2≠7->id.2.2≠41->m'.get id=m.get id)(hn:m.next<=m'.next):WInv u sL S n t m':=by
 obtain⟨a,b,c,d,e,f,g,i,j,k⟩:=h
 refine⟨?_,?_,?_,?_,?_,?_,g,i,j,by omega⟩<;>rw[hm _ (by simp) (by simp) (by simp)]<;>assumption
abbrev srL(u sL n:Nat):AV:=.sref (u+1,sL,30) 0 0 n 1 true
end Go.Ix
