import Derived.Test.YtbcmiinhjgbkdaaGreatDoorWg6
set_option linter.unusedSimpArgs false
set_option linter.unusedVariables false
namespace Go.Ix
open Go.Proofs
structure Tour where
 len:List Int
 last:List Ar
 bef:List Int
theorem Ar.one(a:Ar):a.c.all AV.one=true:=rfl
theorem Ar.sc(a:Ar):a.c.all isSc=true:=rfl
structure WInv (u sL:Nat) (S:AV) (n:Nat) (t:Tour) (m:Mem):Prop where
 s:m.get (u,0,2)=some (.row [S] 0 false)
 t4:m.get (u,1,4)=some (.row [nilS,nilS,nilS] 0 false)
 t5:m.get (u,25,5)=some (.row [.sref (u+1,sL,30) 0 0 n 1 true,.sref (u,16,26) 0 0 n 5 true,.sref (u,23,33) 0 0 n 1 true] 0 false)
 len:m.get (u+1,sL,30)=some (.row (t.len.flatMap intE) 0 false)
 last:m.get (u,16,26)=some (.row (t.last.flatMap Ar.c) 0 false)
 bef:m.get (u,23,33)=some (.row (t.bef.flatMap intE) 0 false)
 ll:t.len.length=n
 al:t.last.length=n
 bl:t.bef.length=n
 nx:u+1<m.next
theorem WInv.frame{u sL:Nat}{S:AV}{n:Nat}{t:Tour}{m m':Mem}(h:WInv u sL S n t m)(hm:∀id:Id,id.1<=u+1->id.2.2≠7->id.2.2≠41->m'.get id=m.get id)(hn:m.next<=m'.next):WInv u sL S n t m':=by
 obtain⟨a,b,c,d,e,f,g,i,j,k⟩:=h
 refine⟨?_,?_,?_,?_,?_,?_,g,i,j,by omega⟩<;>rw[hm _ (by simp) (by simp) (by simp)]<;>assumption
def dn(ds:List Bool)(k:Nat):Bool:=ds.getD k true
abbrev srL(u sL n:Nat):AV:=.sref (u+1,sL,30) 0 0 n 1 true
end Go.Ix
