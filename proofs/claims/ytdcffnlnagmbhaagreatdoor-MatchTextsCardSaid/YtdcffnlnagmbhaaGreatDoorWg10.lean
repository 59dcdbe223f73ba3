import Derived.Test.YtdcffnlnagmbhaaGreatDoorWg4
import Derived.Test.YtdcffnlnagmbhaaGreatDoorWg9
import Derived.Test.YtdcffnlnagmbhaaGreatDoorWg0
import Derived.Laws.StructEq
import Derived.Test.YtdcffnlnagmbhaaGreatDoorWg1
set_option linter.unusedSimpArgs false
set_option linter.unusedVariables false
namespace Go.Ix
open Go.Proofs
end Go.Ix
namespace Go.Ix
open Go.Proofs
variable{P:Program}
theorem xqp{α β:Type}(f:α->Sem β):∀s:Sem α,xpf P (s >>= f)=(xpf P s).bind λa=>xpf P (f a):=by
 intro s
 show xpf P (Sem.bind s f)=_
 induction s with
 |pure a=>rfl
 |program k ih=>exact ih P
 |mark x k ih=>exact ih
 |_=>rfl
theorem xrn{α:Type}(a:α):xpf P (pure a:Sem α)=some a:=rfl
theorem xya:xpf P program=some P:=rfl
theorem xwc{t:TypeId}{d:TypeDesc}(h:P.underlying t=some d):xpf P (underlying t)=some d:=by
 simp only[underlying,xqp,xya,xpe,h]
 rfl
theorem x110(d:Nat)(t:TypeId)(xs ys:Array Value)(ht:P.underlying t=some (.struct (P.fieldsOf t)))(hp:P.stoodInHeld t=false) :
 xpf P (Op.equalIn (d+1) t (.agg xs) (.agg ys))=xpf P (Op.eqFields d xs ys (P.fieldsOf t).toList):=by
 simp only[Op.equalIn,xqp,xwc ht,xpe,xya,hp,x17h,x17b]
 rw[<-Array.forIn_toList]
 generalize (P.fieldsOf t).toList=fs
 clear ht
 induction fs with
 |nil=>simp[Op.eqFields,xrn]
 |cons f fs ih=>
  simp only[x1al,Op.eqFields,xqp]
  split
  .simp only[xqp]
   generalize xpf P (part f.type xs f.offset)=r1
   cases r1 with
   |none=>rfl
   |some a=>
    generalize hb:xpf P (part f.type ys f.offset)=r2
    cases r2 with
    |none=>simp[hb]
    |some b=>
     simp only[hb,xpe]
     generalize xpf P (Op.equalIn d f.type a b)=r3
     cases r3 with
     |none=>rfl
     |some r=>
      cases r
      .rfl
      .exact ih
  .exact ih
theorem xvc(d:Nat)(t:TypeId)(k k':IntKind)(a b:Int)(h:P.underlying t=some (.int k')):xpf P (Op.equalIn (d+1) t (.int k a) (.int k b))=some (a == b):=by
 simp[Op.equalIn,xqp,xwc h,xrn]
theorem x111(op:BinOp)(t:TypeId)(x y:Operand)(xs ys:Array Value)(hm:P.eqGuardType P.depth t=false):xpf P (eqGuard op t x y (.agg xs) (.agg ys))=some ():=by
 cases op<;>simp[eqGuard,xqp,xya,xrn,hm]
theorem x112{t:TypeId}{x y:Operand}{xs ys:List Value}{r:Bool}(hm:P.eqGuardType P.depth t=false)(hr:xpf P (Op.equalIn 10000 t (.agg xs.toArray) (.agg ys.toArray))=some r)(hx:∃k,scs k=some xs) :
 ∀kx ky,scs kx=some xs->scs ky=some ys->sBin P .neq t x y (.agg kx) (.agg ky)=some (B (!r)):=by
 intro kx ky h1 h2
 refine sBin_0 ?_
 simp only[bin0,xpn,h1,h2,xqp,x111 _ _ _ _ _ _ hm,xpe]
 have:xpf P (binOp .neq t (.agg xs.toArray) (.agg ys.toArray))=some (.bool (!r)):=by
  show xpf P (do pure (Value.bool (!(<-Op.equal t (.agg xs.toArray) (.agg ys.toArray)))))=_
  simp only[xqp,Op.equal,Op.maxDepth,hr,xpe,xrn]
 rw[this];rfl
theorem x113{t:TypeId}{x y:Operand}{xs ys:List Value}{r:Bool}(hm:P.eqGuardType P.depth t=false)(hr:xpf P (Op.equalIn 10000 t (.agg xs.toArray) (.agg ys.toArray))=some r) :
 ∀kx ky,scs kx=some xs->scs ky=some ys->sBin P .eql t x y (.agg kx) (.agg ky)=some (B r):=by
 intro kx ky h1 h2
 refine sBin_0 ?_
 simp only[bin0,xpn,h1,h2,xqp,x111 _ _ _ _ _ _ hm,xpe]
 have:xpf P (binOp .eql t (.agg xs.toArray) (.agg ys.toArray))=some (.bool r):=by
  show xpf P (do pure (Value.bool (<-Op.equal t (.agg xs.toArray) (.agg ys.toArray))))=_
  simp only[xqp,Op.equal,Op.maxDepth,hr,xpe,xrn]
 rw[this];rfl
theorem xvd:Tryz.prog.underlying xpm=some (.int .i64):=by kernel_rfl
def Edge.same(a b:Edge):Bool:=decide (a.fr=b.fr)&&(decide (a.to=b.to)&&(decide (a.jump=b.jump)&&decide (a.wt=b.wt)))
theorem z_2int:xd=[I 0,I 0]:=by kernel_rfl
theorem build_2(x y:Int):xpi xd [(0,1,I x),(1,1,I y)]=some (.agg [I x,I y]):=by
 simp[xpi,xqs,z_2int]
theorem Edge.still1(e:Edge):e.c.all Go.Ix.still1=true:=rfl
end Go.Ix
set_option maxRecDepth 10000
namespace Go.Ix
open Go.Proofs
def GkL{α:Type}(z:Nat)(enc:α->List AV)(ok:Id->Prop)(m:Mem)(a:AV)(l:List α):Prop:=
 a=.slit (l.flatMap enc) l.length true\/∃id ver,ok id/\a=.sref id ver 0 l.length z true/\m.get id=some (.row (l.flatMap enc) ver false)
theorem GkL.frame{α:Type}{z:Nat}{enc:α->List AV}{a:AV}{l:List α}{ok:Id->Prop}{m m':Mem}(h:GkL z enc ok m a l)(hm:∀id,ok id->m'.get id=m.get id):GkL z enc ok m' a l:=by
 rcases h with h|⟨id,ver,h0,h1,h2⟩
 .exact Or.inl h
 .exact Or.inr ⟨id,ver,h0,h1,by rw[hm _ h0];exact h2⟩
theorem GkL.app{α:Type}{z:Nat}{enc:α->List AV}{a:AV}{l:List α}(hz:∀x,(enc x).length=z)(h0:0<z){bytes:Nat}{ok:Id->Prop}{id0:Id}{m:Mem}(ht:ok id0)(hr:xpt (l.length+1) bytes)(h:GkL z enc ok m a l)(x:α) :
 ∃a' m',(∀{R:Type} (k:AV->Mem->Option R),sApp z bytes id0 (some (enc x,1)) a m k=k a' m')/\GkL z enc ok m' a' (l++[x])/\m'.next=m.next/\∀j:Id,¬ok j->m'.get j=m.get j:=by
 have hl:=xry hz l
 rcases h with rfl|⟨id,ver,h1,rfl,hg⟩
 .refine⟨.sref id0 0 0 (l.length+1) z true,m.new id0 (.row (l.flatMap enc++enc x) 0 false),λk=>?_,Or.inr ⟨id0,0,ht,by simp,by simp⟩,rfl,λj hj=>?_⟩
  .simp only[sApp]
   rw[x16u (by omega),x16t (by omega),x16u hr,x173 (by omega)]
  .rw[Mem.get_new,x16t (by rintro rfl;exact hj ht)]
 .refine⟨.sref id (ver+1) 0 (l.length+1) z true,m.set id (.row (l.flatMap enc++enc x) (ver+1) false),λk=>?_,Or.inr ⟨id,ver+1,h1,by simp,by simp⟩,rfl,λj hj=>?_⟩
  .simp only[sApp,hg]
   rw[x16u ⟨trivial,trivial,by omega,hr⟩,x16t (by omega),x16t (by rw[hl,x18b];omega),x17j,x173 (by omega)]
  .rw[Mem.get_set,x16t (by rintro rfl;exact hj h1)]
theorem GkL.frz{α:Type}{z:Nat}{enc:α->List AV}{a:AV}{l:List α}(hz:∀x,(enc x).length=z)(hs:∀x,(enc x).all still1=true){ok:Id->Prop}{k:Nat}{m:Mem}(h:GkL z enc ok m a l):∃a',Sl enc a' l/\Go.Ix.frz m.get (k+2) a=some a':=by
 have hl:=xry hz l
 rcases h with rfl|⟨id,ver,_,rfl,hg⟩
 .have h1:Sl enc (.slit (l.flatMap enc) l.length true) l:=Or.inr ⟨true,rfl⟩
  have h2:still (.slit (l.flatMap enc) l.length true)=true:=by simp[still,xt9 hs l]
  exact⟨_,h1,xuf m.get k h2⟩
 .refine⟨.slit (l.flatMap enc) l.length false,Sl.lit l false,?_⟩
  have:=xv8 (objs:=m.get) (id:=id) (cs:=l.flatMap enc) (ver:=ver) (off:=0) (n:=l.length) (z:=z) (k:=k) (f:=false) (x:=true) hg (by omega) (by
   rw[x17j,x173 (by omega)];exact xt9 hs l)
  rw[x17j,x173 (by omega)]at this
  exact this
theorem x114:∀ws:List (List UInt8),xsx (ws.flatMap strE)=some (ws.map λw=>⟨w.toArray⟩)
 |[]=>rfl
 |w::r=>by
  show(xsx (r.flatMap strE)).map (λl=>(⟨w.toArray⟩:ByteArray)::l)=_
  rw[x114 r];rfl
theorem w_Join(d:Nat){x:AV}{ws:List (List UInt8)}(hx:Sl strE x ws)(h1:(xqm [32] ws).length<=1099511627776)(h2:ws.length<=1099511627776)(m:Mem):xp9 (xpc (d+1)) x80 [x,Tx [32]] m=some (Tx (xqm [32] ws),m):=by
 have hstx:still x=true:=by
  rcases hx with ⟨rfl,-⟩|⟨b,rfl⟩
  .rfl
  .simp[still,xt9 xy2 ws]
 refine Ans.call0 (m:=m) ?_ (by simp only[x17x,List.all_nil,hstx];rfl) rfl
 have h:xpc (d+1) [] x80 [x,Tx [32]] mem0=(tell5 mem0.get [x,Tx [32]]).map λv=>(v,mem0):=by kernel_rfl
 unfold Ans
 rw[h]
 have hl:=xry xty ws
 have he:∃n,n=ws.length/\elems mem0.get 1 x=some (ws.flatMap strE,n):=by
  rcases hx with ⟨rfl,rfl⟩|⟨b,rfl⟩
  .exact⟨0,rfl,rfl⟩
  .refine⟨_,rfl,?_⟩
   show(if ws.length*1<=(ws.flatMap strE).length then some ((ws.flatMap strE).take (ws.length*1),ws.length)else none)=_
   rw[x16u (by omega),x173 (by omega)]
 obtain⟨n,hn,he⟩:=he
 have hm:(ws.map λw=>(⟨w.toArray⟩:ByteArray)).map (λs=>s.data.toList)=ws:=by
  rw[List.map_map]
  conv=>rhs;rw[<-List.map_id ws]
  apply x1af
  intro a _;rfl
 have h3:tell5 mem0.get [x,Tx [32]]=match elems mem0.get 1 x with
  |some (cs,n)=>match xsx cs with
   |some l=>if(xqm [32] (l.map (·.data.toList))).length<=1099511627776/\n<=1099511627776 then some (.sc (.string ⟨(xqm [32] (l.map (·.data.toList))).toArray⟩))else none
   |none=>none
  |none=>none:=rfl
 rw[h3,he]
 dsimp only
 rw[x114]
 dsimp only
 rw[hm,x16u ⟨h1,by omega⟩]
 exact⟨_,rfl⟩
def I64(n:Int):Prop:=-9223372036854775808<=n/\n<=9223372036854775807
def Edge.i64(e:Edge):Prop:=I64 e.fr/\I64 e.to/\I64 e.jump/\I64 e.wt
theorem xyb:∀(k u:Nat),(digF k u).length<=k
 |0,u=>x170 _
 |k+1,u=>by
  unfold digF
  split
  .simp
  .have:=xyb k (u / 10)
   simp;omega
theorem x115(n:Int):(decM n).length<=21:=by
 unfold decM
 split
 .have:=xyb 20 n.natAbs
  simp;omega
 .have:=xyb 20 n.toNat
  omega
theorem x116:∀ws:List (List UInt8),(∀w∈ws,w.length<=21)->(xqm [32] ws).length<=22*ws.length
 |[],_=>by simp[xqm]
 |[x],h=>by
  have:=h x (by simp)
  simp[xqm];omega
 |x::y::r,h=>by
  have ih:=x116 (y::r) λw hw=>h w (x172 _ hw)
  have h1:=h x (by simp)
  show(x++([32]++xqm [32] (y::r))).length<=_
  simp at ih ⊢;omega
end Go.Ix
