import Derived.Test.YtdfahbenacjgeaaWg14
set_option linter.unusedSimpArgs false
set_option linter.unusedVariables false
namespace Go.Ix
open Go.Proofs
def nearU(l:List Edge)(a:Int):List Int:=l.flatMap λe=>if 0<e.wt then(if e.fr=a then[e.to]else if e.to=a then[e.fr]else[])else[]
def okjd(u fc:Nat)(id:Id):Prop:=id.1=u/\(id.2.2=35\/id.2.2=44)/\id.2.1<fc
structure AtJ (u fc:Nat) (cells:List AV) (adj:Nat->List Int) (m:Mem):Prop where
 sh:∃ids:Nat->Id,(∀(v:Nat) (hv:v<cells.length),(cells[v]=nilS/\adj v=[])\/(∃ver,cells[v]=.sref (ids v) ver 0 (adj v).length 1 true/\m.get (ids v)=some (.row ((adj v).flatMap intE) ver false)/\okjd u fc (ids v)/\adj v≠[])) /\
  ∀v w,v<cells.length->w<cells.length->adj v≠[]->adj w≠[]->v≠w->ids v≠ids w
theorem AtJ.frame{u fc fc':Nat}{cells:List AV}{adj:Nat->List Int}{m m':Mem}(h:AtJ u fc cells adj m)(hm:∀id,okjd u fc id->m'.get id=m.get id)(hfc:fc<=fc'):AtJ u fc' cells adj m':=by
 obtain⟨ids,h1,h2⟩:=h.sh;refine⟨ids,λv hv=>?_,h2⟩;rcases h1 v hv with h|⟨ver,a,b,c,d⟩
 .exact Or.inl h
 .exact Or.inr ⟨ver,a,by rw[hm _ c];exact b,⟨c.1,c.2.1,by have:=c.2.2;omega⟩,d⟩
theorem AtJ.app{u fc fc':Nat}{cells:List AV}{adj:Nat->List Int}{m:Mem}(h:AtJ u fc cells adj m){v:Nat}(hv:v<cells.length)(x:Int){id0:Id}(h1:id0.1=u)(h2:id0.2.2=35\/id0.2.2=44)(h3:fc<=id0.2.1)(h4:id0.2.1<fc')(hr:(adj v).length<=100000) :
 ∃a' m' idA,(∀{R:Type} (k:AV->Mem->Option R),rL 1 8 id0 (some (intE x,1)) cells[v] m k=k a' m')/\AtJ u fc' (cells.set v a') (λw=>if w=v then adj v++[x]else adj w) m'/\a'.cells=[a']/\a'.one=true/\m'.next=m.next/\(∀j:Id,¬okjd u fc' j->m'.get j=m.get j) /\
  tA id0 cells[v]=some [idA]/\(idA.2.2=35\/idA.2.2=44)/\idA.1=u:=by
 obtain⟨ids,e1,e2⟩:=h.sh;have hro:∀k,k<=100001->qW k 8:=λk hk=>by unfold qW;omega
 have others:∀(w:Nat) (hw:w<cells.length),((cells[w]=nilS/\adj w=[])\/(∃ver,cells[w]=.sref (ids w) ver 0 (adj w).length 1 true/\m.get (ids w)=some (.row ((adj w).flatMap intE) ver false)/\okjd u fc (ids w)/\adj w≠[])):=e1;rcases e1 v hv with ⟨c1,c2⟩|⟨ver,c1,c2,c3,c4⟩
 ·
  refine⟨.sref id0 0 0 1 1 true,m.new id0 (.row (intE x) 0 false),id0,λk=>?_,⟨λw=>if w=v then id0 else ids w,λw hw=>?_,λw w' hw hw' n1 n2 hne=>?_⟩,rfl,rfl,rfl,λj hj=>?_,by rw[c1];rfl,h2,h1⟩
  .rw[c1];simp only[rL];rw[xc1 (by omega),xc2 (hro 1 (by omega))]
  .simp only[xe1]at hw;by_cases hwv:w=v
   .subst hwv;right;refine⟨0,?_,?_,?_,by simp⟩
    .simp[c2]
    .simp[c2]
    .simp only[xcm];exact⟨h1,h2,h4⟩
   .rw[xfx (λe=>hwv e.symm)];simp only[xc1 hwv];rcases others w hw with h|⟨ver,a,b,c,d⟩
    .exact Or.inl h
    .refine Or.inr ⟨ver,a,?_,⟨c.1,c.2.1,by have:=c.2.2;omega⟩,d⟩;rw[Mem.get_new,xc1 (by rintro e;rw[e]at c;have:=c.2.2;omega)];exact b
  .simp only[xe1]at hw hw';by_cases hwv:w=v
   .have hwv':w'≠v:=(by omega);simp only[xc2 hwv,xc1 hwv'];simp only[xc1 hwv']at n2;rcases others w' hw' with ⟨_,h⟩|⟨_,_,_,c,_⟩
    .exact absurd h n2
    .intro e;rw[<-e]at c;have:=c.2.2;omega
   .by_cases hwv':w'=v
    .simp only[xc1 hwv,xc2 hwv'];simp only[xc1 hwv]at n1;rcases others w hw with ⟨_,h⟩|⟨_,_,_,c,_⟩
     .exact absurd h n1
     .intro e;rw[e]at c;have:=c.2.2;omega
    .simp only[xc1 hwv,xc1 hwv']at n1 n2 ⊢;exact e2 w w' hw hw' n1 n2 hne
  .rw[Mem.get_new,xc1 (by rintro rfl;exact hj ⟨h1,h2,h4⟩)]
 .have hl:=v6 (adj v);refine⟨.sref (ids v) (ver+1) 0 ((adj v).length+1) 1 true,m.set (ids v) (.row ((adj v).flatMap intE++intE x) (ver+1) false),ids v,λk=>?_,⟨ids,λw hw=>?_,λw w' hw hw' n1 n2 hne=>?_⟩,rfl,rfl,rfl,λj hj=>?_,by rw[c1];rfl,c3.2.1,c3.1⟩
  .rw[c1];simp only[rL,c2];rw[xc2 ⟨trivial,trivial,by omega,hro _ (by omega)⟩,xc1 (by omega),xc1 (by omega),xcd,xca (by omega)]
  .simp only[xe1]at hw;by_cases hwv:w=v
   .subst hwv;right;refine⟨ver+1,by simp,by simp,⟨c3.1,c3.2.1,by have:=c3.2.2;omega⟩,by simp⟩
   .rw[xfx (λe=>hwv e.symm)];simp only[xc1 hwv];rcases others w hw with h|⟨ver',a,b,c,d⟩
    .exact Or.inl h
    .refine Or.inr ⟨ver',a,?_,⟨c.1,c.2.1,by have:=c.2.2;omega⟩,d⟩;rw[Mem.get_set,xc1 (e2 w v hw hv d c4 hwv)];exact b
  .simp only[xe1]at hw hw';refine e2 w w' hw hw' ?_ ?_ hne
   .by_cases hwv:w=v
    .subst hwv;exact c4
    .simpa[hwv]using n1
   .by_cases hwv:w'=v
    .subst hwv;exact c4
    .simpa[hwv]using n2
  .rw[Mem.get_set,xc1 (by rintro rfl;exact hj ⟨c3.1,c3.2.1,by have:=c3.2.2;omega⟩)]
theorem Gk.lenP{ok:Id->Prop}{m:Mem}{a:AV}{l:List Int}(h:Gk 1 intE ok m a l):qJ Try.prog aC a=some (I l.length):=by
 rcases h with ⟨rfl,rfl⟩|⟨id,ver,h0,rfl,hg⟩
 .exact E9 tH
 .rfl
def PartC(n:Nat)(l:List Edge)(m:Mem):Prop:=m.get (0,6,3)=some (.row [srI (0,5,9) n] 0 false)/\∃cells,m.get (0,5,9)=some (.row cells 0 false)/\cells.length=n/\∀(v:Nat) (hv:v<cells.length),Gk 1 intE (λid=>id.1=0) m cells[v] (nearU l v)
theorem PartC.frame{n:Nat}{l:List Edge}{m m':Mem}(h:PartC n l m)(hm:∀id:Id,id.1<1->m'.get id=m.get id):PartC n l m':=by obtain⟨h1,cells,h2,h3,h4⟩:=h;exact⟨by rw[hm _ (by simp)];exact h1,cells,by rw[hm _ (by simp)];exact h2,h3,λv hv=>(h4 v hv).frame λid hid=>hm id (by omega)⟩
inductive Reach (nb:Nat->List Int) (r:Nat):Nat->Prop
 |refl:Reach nb r r
 |step {a b:Nat}:Reach nb r a->(b:Int)∈nb a->Reach nb r b
end Go.Ix
