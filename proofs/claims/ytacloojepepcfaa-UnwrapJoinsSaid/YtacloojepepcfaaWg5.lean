import Derived.Test.YtacloojepepcfaaWg1
import Derived.Test.YtacloojepepcfaaWg2
set_option linter.unusedSimpArgs false
set_option linter.unusedVariables false
namespace Go.Ix
open Go.Proofs
structure Ar where
 edge:Int
 to:Int
 sign:Int
 room:Int
 cost:Int
def Ar.c(a:Ar):List AV:=[I a.edge,I a.to,I a.sign,I a.room,I a.cost]
theorem Ar.len(a:Ar):a.c.length=5:=rfl
def e00:Edge:=⟨0,0,0,0⟩
def edgeAt(l:List Edge)(i:Nat):Edge:=l.getD i e00
theorem xf0{l:List Edge}{i:Nat}(h:i<l.length):edgeAt l i=l[i]:=by
 unfold edgeAt;rw[xnx,xnj h];rfl
def adjI(l:List Edge)(v:Int):List Int:=((List.range l.length).filter λi=>decide ((edgeAt l i).fr=v)||decide ((edgeAt l i).to=v)).map Int.ofNat
structure FrzS (S:AV) (n:Nat) (l:List Edge) (fl tu ex:List Int):Prop where
 sh:∃ev F TU X cells b,S=.plit [I n,ev,F,TU,X,.slit cells n b]/\Sl Edge.c ev l/\Ints F fl/\Ints TU tu/\Ints X ex/\cells.length=n/\∀(v:Nat) (hv:v<cells.length),Ints cells[v] (adjI l v)
 fll:fl.length=l.length
 tul:tu.length=n
 exl:ex.length=n
 n0:n<=200
 ll:l.length<=600
 ed:∀e∈l,EdgeIn n e/\e.fr≠e.to
 flb:∀k,-1000<=at0 fl k/\at0 fl k<=1000
 tub:∀k,-1000000<=at0 tu k/\at0 tu k<=1000000
end Go.Ix
set_option maxRecDepth 100000
namespace Go.Ix
open Go.Proofs
theorem call4{call:x7w}{f:FuncId}{l l':List AV}{m m':Mem}{r:AV}{ids:List Id}(hl:l.mapM (frz m.get deep)=some l')(h:call [] f l' ⟨[],m.next⟩=some (r,m'))(hr:xct r=true)(hids:reach m'.get deep r=ids)(hall:∀i∈ids,m.next<=i.1/\∃cs v,m'.get i=some (.row cs v false)/\cs.all isSc=true):∃M:Mem,xd4 call f l m=some (r,M)/\M.next=m'.next/\∀i,M.get i=if i∈ids then m'.get i else m.get i:=by
 refine⟨⟨xd3 m'.hp (reach m'.get deep r) m.hp,m'.next⟩,?_,rfl,?_⟩
 .unfold xd4
  rw[hl]
  simp only[h]
  rw[xmv]
  rw[hr,xod,hids,xn1]
  intro i hi
  obtain⟨h1,cs,v,h2,h3⟩:=hall i hi
  rw[h2]
  simp[h1,h3]
 .intro i
  rw[hids]
  exact xg2 m'.hp ids m.hp (λi hi=>by obtain⟨_,cs,v,h2,_⟩:=hall i hi;exact⟨_,h2⟩) i
theorem xji{objs:Id->Option Ob}{k:Nat}:∀{l:List AV},l.all isSc=true->l.flatMap (reach objs k)=[]
 |[],_=>rfl
 |a::l,h=>by
  rw[xoq,xn0]at h
  rw[xo1,xji h.2,xp3]
  cases a with
  |sc v=>cases k<;>rfl
  |_=>simp[isSc]at h
theorem xln{objs:Id->Option Ob}{k:Nat}{id:Id}{ver off n z:Nat}{f:Bool}{cs:List AV}{v:Nat}(h:objs id=some (.row cs v false))(hs:cs.all isSc=true):reach objs (k+1) (.sref id ver off n z f)=[id]:=by
 simp only[reach,h]
 rw[xji]
 rw[xn1]at hs ⊢
 exact λx hx=>hs x (xqj (List.mem_of_mem_take hx))
structure Tour where
 len:List Int
 last:List Ar
 bef:List Int
theorem Ar.one(a:Ar):a.c.all AV.one=true:=rfl
theorem Ar.sc(a:Ar):a.c.all isSc=true:=rfl
structure WInv (u sL:Nat) (S:AV) (n:Nat) (t:Tour) (m:Mem):Prop where
 s:m.get (u,0,2)=some (.row [S] 0 false)
 t4:m.get (u,1,4)=some (.row [nilS,nilS,nilS] 0 false)
 t5:m.get (u,25,5)=some (.row [.sref (u+1,sL,30) 0 0 n 1 true,.sref (u,16,26) 0 0 n 5 true,.sref (u,23,33) 0 0 n 1 true] 0 false)
 len:m.get (u+1,sL,30)=some (.row (t.len.flatMap intE) 0 false)
 last:m.get (u,16,26)=some (.row (t.last.flatMap Ar.c) 0 false)
 bef:m.get (u,23,33)=some (.row (t.bef.flatMap intE) 0 false)
 ll:t.len.length=n
 al:t.last.length=n
 bl:t.bef.length=n
 nx:u+1<m.next
theorem WInv.frame{u sL:Nat}{S:AV}{n:Nat}{t:Tour}{m m':Mem}(h:WInv u sL S n t m)(hm:∀id:Id,id.1<=u+1->id.2.2≠7->id.2.2≠41->m'.get id=m.get id)(hn:m.next<=m'.next):WInv u sL S n t m':=by
 obtain⟨a,b,c,d,e,f,g,i,j,k⟩:=h
 refine⟨?_,?_,?_,?_,?_,?_,g,i,j,by omega⟩<;>rw[hm _ (by simp) (by simp) (by simp)]<;>assumption
end Go.Ix
