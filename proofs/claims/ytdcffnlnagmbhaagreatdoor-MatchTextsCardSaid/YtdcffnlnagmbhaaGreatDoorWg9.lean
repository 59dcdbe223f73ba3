import Derived.Test.YtdcffnlnagmbhaaGreatDoorWg8
import Derived.Test.YtdcffnlnagmbhaaGreatDoorWg3
import Derived.Test.YtdcffnlnagmbhaaGreatDoorWg4
import Derived.Test.YtdcffnlnagmbhaaGreatDoorFxSound
import Derived.Test.YtdcffnlnagmbhaaGreatDoorWg2
import Derived.Test.YtdcffnlnagmbhaaGreatDoorWg6
import Derived.Test.YtdcffnlnagmbhaaGreatDoorWg0
import Derived.ProofKit
set_option linter.unusedSimpArgs false
set_option linter.unusedVariables false
namespace Go.Ix
open Go.Proofs
def nearU(l:List Edge)(a:Int):List Int:=l.flatMap λe=>if 0<e.wt then(if e.fr=a then[e.to]else if e.to=a then[e.fr]else[])else[]
def okjd(u fc:Nat)(id:Id):Prop:=id.1=u/\(id.2.2=35\/id.2.2=44)/\id.2.1<fc
structure AtJ (u fc:Nat) (cells:List AV) (adj:Nat->List Int) (m:Mem):Prop where
 sh:∃ids:Nat->Id,(∀(v:Nat) (hv:v<cells.length),(cells[v]=nilS/\adj v=[])\/(∃ver,cells[v]=.sref (ids v) ver 0 (adj v).length 1 true/\m.get (ids v)=some (.row ((adj v).flatMap intE) ver false)/\okjd u fc (ids v)/\adj v≠[])) /\
  ∀v w,v<cells.length->w<cells.length->adj v≠[]->adj w≠[]->v≠w->ids v≠ids w
theorem AtJ.frame{u fc fc':Nat}{cells:List AV}{adj:Nat->List Int}{m m':Mem}(h:AtJ u fc cells adj m)(hm:∀id,okjd u fc id->m'.get id=m.get id)(hfc:fc<=fc'):AtJ u fc' cells adj m':=by
 obtain⟨ids,h1,h2⟩:=h.sh
 refine⟨ids,λv hv=>?_,h2⟩
 rcases h1 v hv with h|⟨ver,a,b,c,d⟩
 .exact Or.inl h
 .exact Or.inr ⟨ver,a,by rw[hm _ c];exact b,⟨c.1,c.2.1,by have:=c.2.2;omega⟩,d⟩
theorem AtJ.app{u fc fc':Nat}{cells:List AV}{adj:Nat->List Int}{m:Mem}(h:AtJ u fc cells adj m){v:Nat}(hv:v<cells.length)(x:Int){id0:Id}(h1:id0.1=u)(h2:id0.2.2=35\/id0.2.2=44)(h3:fc<=id0.2.1)(h4:id0.2.1<fc')(hr:(adj v).length<=100000) :
 ∃a' m' idA,(∀{R:Type} (k:AV->Mem->Option R),sApp 1 8 id0 (some (intE x,1)) cells[v] m k=k a' m')/\AtJ u fc' (cells.set v a') (λw=>if w=v then adj v++[x]else adj w) m'/\a'.cells=[a']/\a'.one=true/\m'.next=m.next/\(∀j:Id,¬okjd u fc' j->m'.get j=m.get j) /\
  tA id0 cells[v]=some [idA]/\(idA.2.2=35\/idA.2.2=44)/\idA.1=u:=by
 obtain⟨ids,e1,e2⟩:=h.sh
 have hro:∀k,k<=100001->xpt k 8:=λk hk=>by unfold xpt;omega
 have others:∀(w:Nat) (hw:w<cells.length),((cells[w]=nilS/\adj w=[])\/(∃ver,cells[w]=.sref (ids w) ver 0 (adj w).length 1 true/\m.get (ids w)=some (.row ((adj w).flatMap intE) ver false)/\okjd u fc (ids w)/\adj w≠[])):=e1
 rcases e1 v hv with ⟨c1,c2⟩|⟨ver,c1,c2,c3,c4⟩
 ·
  refine⟨.sref id0 0 0 1 1 true,m.new id0 (.row (intE x) 0 false),id0,λk=>?_,⟨λw=>if w=v then id0 else ids w,λw hw=>?_,λw w' hw hw' n1 n2 hne=>?_⟩,rfl,rfl,rfl,λj hj=>?_,by rw[c1];rfl,h2,h1⟩
  .rw[c1]
   simp only[sApp]
   rw[x16t (by omega),x16u (hro 1 (by omega))]
  .simp only[x18r]at hw
   by_cases hwv:w=v
   .subst hwv
    right
    refine⟨0,?_,?_,?_,by simp⟩
    .simp[c2]
    .simp[c2]
    .simp only[x17k];exact⟨h1,h2,h4⟩
   .rw[x1a5 (λe=>hwv e.symm)]
    simp only[x16t hwv]
    rcases others w hw with h|⟨ver,a,b,c,d⟩
    .exact Or.inl h
    .refine Or.inr ⟨ver,a,?_,⟨c.1,c.2.1,by have:=c.2.2;omega⟩,d⟩
     rw[Mem.get_new,x16t (by rintro e;rw[e]at c;have:=c.2.2;omega)];exact b
  .simp only[x18r]at hw hw'
   by_cases hwv:w=v
   .have hwv':w'≠v:=by omega
    simp only[x16u hwv,x16t hwv']
    simp only[x16t hwv']at n2
    rcases others w' hw' with ⟨_,h⟩|⟨_,_,_,c,_⟩
    .exact absurd h n2
    .intro e;rw[<-e]at c;have:=c.2.2;omega
   .by_cases hwv':w'=v
    .simp only[x16t hwv,x16u hwv']
     simp only[x16t hwv]at n1
     rcases others w hw with ⟨_,h⟩|⟨_,_,_,c,_⟩
     .exact absurd h n1
     .intro e;rw[e]at c;have:=c.2.2;omega
    .simp only[x16t hwv,x16t hwv']at n1 n2 ⊢
     exact e2 w w' hw hw' n1 n2 hne
  .rw[Mem.get_new,x16t (by rintro rfl;exact hj ⟨h1,h2,h4⟩)]
 .have hl:=xul (adj v)
  refine⟨.sref (ids v) (ver+1) 0 ((adj v).length+1) 1 true,m.set (ids v) (.row ((adj v).flatMap intE++intE x) (ver+1) false),ids v,λk=>?_,⟨ids,λw hw=>?_,λw w' hw hw' n1 n2 hne=>?_⟩,rfl,rfl,rfl,λj hj=>?_,by rw[c1];rfl,c3.2.1,c3.1⟩
  .rw[c1]
   simp only[sApp,c2]
   rw[x16u ⟨trivial,trivial,by omega,hro _ (by omega)⟩,x16t (by omega),x16t (by omega),x17j,x173 (by omega)]
  .simp only[x18r]at hw
   by_cases hwv:w=v
   .subst hwv
    right
    refine⟨ver+1,by simp,by simp,⟨c3.1,c3.2.1,by have:=c3.2.2;omega⟩,by simp⟩
   .rw[x1a5 (λe=>hwv e.symm)]
    simp only[x16t hwv]
    rcases others w hw with h|⟨ver',a,b,c,d⟩
    .exact Or.inl h
    .refine Or.inr ⟨ver',a,?_,⟨c.1,c.2.1,by have:=c.2.2;omega⟩,d⟩
     rw[Mem.get_set,x16t (e2 w v hw hv d c4 hwv)];exact b
  .simp only[x18r]at hw hw'
   refine e2 w w' hw hw' ?_ ?_ hne
   .by_cases hwv:w=v
    .subst hwv;exact c4
    .simpa[hwv]using n1
   .by_cases hwv:w'=v
    .subst hwv;exact c4
    .simpa[hwv]using n2
  .rw[Mem.get_set,x16t (by rintro rfl;exact hj ⟨c3.1,c3.2.1,by have:=c3.2.2;omega⟩)]
theorem Gk.lenP{ok:Id->Prop}{m:Mem}{a:AV}{l:List Int}(h:Gk 1 intE ok m a l):sLen Tryz.prog xb a=some (I l.length):=by
 rcases h with ⟨rfl,rfl⟩|⟨id,ver,h0,rfl,hg⟩
 .exact xw1 xta
 .rfl
def PartC(n:Nat)(l:List Edge)(m:Mem):Prop:=m.get (0,6,3)=some (.row [srI (0,5,9) n] 0 false)/\∃cells,m.get (0,5,9)=some (.row cells 0 false)/\cells.length=n/\∀(v:Nat) (hv:v<cells.length),Gk 1 intE (λid=>id.1=0) m cells[v] (nearU l v)
theorem PartC.frame{n:Nat}{l:List Edge}{m m':Mem}(h:PartC n l m)(hm:∀id:Id,id.1<1->m'.get id=m.get id):PartC n l m':=by
 obtain⟨h1,cells,h2,h3,h4⟩:=h
 exact⟨by rw[hm _ (by simp)];exact h1,cells,by rw[hm _ (by simp)];exact h2,h3,λv hv=>(h4 v hv).frame λid hid=>hm id (by omega)⟩
end Go.Ix
set_option maxRecDepth 10000
namespace Go.Ix
open Go.Proofs
theorem w_Itoa(d:Nat){n:Int}(h0:-9223372036854775808<=n)(h1:n<=9223372036854775807)(m:Mem):xp9 (xpc (d+1)) x15 [I n] m=some (Tx (decM n),m):=by
 refine Ans.call0 (m:=m) ?_ rfl rfl
 have h:xpc (d+1) [] x15 [I n] mem0=(xrr 1 [I n]).map λv=>(v,mem0):=by kernel_rfl
 unfold Ans
 have h2:xrr 1 [I n]=if -9223372036854775808<=n/\n<=9223372036854775807 then some (.sc (.string ⟨(decM n).toArray⟩))else none:=rfl
 rw[h,h2,x16u ⟨h0,h1⟩]
 exact⟨_,rfl⟩
theorem w_Atoi(d:Nat){l:List UInt8}(hl:l.length<=1000000)(m:Mem) :
 (∃v,Lib.atoiAll l=.ok v/\xp9 (xpc (d+1)) x2d [Tx l] m=some (.tup [I v,.sc .nilIface],m))\/((∀v,Lib.atoiAll l≠.ok v)/\∃x:Int,xp9 (xpc (d+1)) x2d [Tx l] m=some (.tup [I x,.un errP],m)):=by
 have h:xpc (d+1) [] x2d [Tx l] mem0=(xrr 2 [Tx l]).map λv=>(v,mem0):=by kernel_rfl
 have h2:xrr 2 [Tx l]=match Lib.atoiAll l with
  | .ok v=>some (.tup [.sc (.int .i64 v),.sc .nilIface])
  | .range=>some (.tup [.sc (.int .i64 (Lib.atoiSat l)),.un errP])
  |_=>some (.tup [.sc (.int .i64 0),.un errP]):=by
  have h3:xrr 2 [Tx l]=if(⟨l.toArray⟩:ByteArray).size<=1000000 then(match Lib.atoiAll l with
   | .ok v=>some (.tup [.sc (.int .i64 v),.sc .nilIface])
   | .range=>some (.tup [.sc (.int .i64 (Lib.atoiSat l)),.un errP])
   |_=>some (.tup [.sc (.int .i64 0),.un errP]))else none:=rfl
  rw[h3,x16u (by rw[xtb];exact hl)]
 cases hv:Lib.atoiAll l with
 |ok v=>
  rw[hv]at h2
  rw[h2]at h
  exact .inl ⟨v,rfl,call0_tup rfl h rfl⟩
 |range=>
  rw[hv]at h2
  rw[h2]at h
  exact .inr ⟨(λv h=>by cases h),_,call0_tup rfl h rfl⟩
 |_=>
  rw[hv]at h2
  rw[h2]at h
  exact .inr ⟨(λv h=>by cases h),_,call0_tup rfl h rfl⟩
theorem OkR.run{P:Program}{α:Type}{R:α->Prop}{a:α}(hr:R a):∀{s:Sem α},xpf P s=some a->OkR P s R
 | .pure b,h=>by
   simp only[xpf,x16w]at h
   exact OkR.pure (by rw[h];exact hr)
 | .program k,h=>OkR.run hr (s:=k P) h
 | .mark _ k,h=>OkR.run hr (s:=k) h
 | .choose ..,h=>by simp[xpf]at h
 | .load ..,h=>by simp[xpf]at h
 | .store ..,h=>by simp[xpf]at h
 | .new ..,h=>by simp[xpf]at h
 | .shape ..,h=>by simp[xpf]at h
 | .freeze ..,h=>by simp[xpf]at h
 | .halt ..,h=>by simp[xpf]at h
theorem err_ne(t:Nat):sBin Tryz.prog .neq xy (.tmp t) (.const .nilIface) (.un errP) (AV.sc .nilIface)=some (B true):=by
 refine sBin_1 (A:=errP) (B:=λv=>v=.nilIface) (v0:=.bool true) ⟨⟨.iface 0 .nilIface,0,.nilIface,rfl⟩,λv h=>h⟩ (Is.sc rfl) rfl ?_
 rintro u v ⟨t,z,rfl⟩ rfl
 exact OkR.run (a:=Value.bool true) (R:=λv=>v=.bool true) rfl (by kernel_rfl)
theorem nil_ne(t:Nat):sBin Tryz.prog .neq xy (.tmp t) (.const .nilIface) (AV.sc .nilIface) (AV.sc .nilIface)=some (B false):=by kernel_rfl
def xqi(d:Nat):List (List UInt8)->Option (List Int)
 |[]=>some []
 |w::r=>match nbrM w d,xqi d r with
  |some n,some l=>some (n::l)
  |_,_=>none
theorem xy7{d:Nat}{w:List UInt8}{n:Int}(hw:nbrM w d=some n):∀{pre:List (List UInt8)} {l:List Int},xqi d pre=some l->xqi d (pre++[w])=some (l++[n])
 |[],l,h=>by
  cases h
  show xqi d [w]=_
  simp[xqi,hw]
 |p::pre,l,h=>by
  unfold xqi at h
  cases hp:nbrM p d with
  |none=>rw[hp]at h;cases h
  |some k=>
   rw[hp]at h
   cases hq:xqi d pre with
   |none=>rw[hq]at h;cases h
   |some q=>
    rw[hq]at h
    cases h
    have:=xy7 hw hq
    show xqi d (p::(pre++[w]))=_
    unfold xqi
    rw[hp,this]
    rfl
theorem x10y{d:Nat}{w:List UInt8}(hw:nbrM w d=none)(post:List (List UInt8)):∀(pre:List (List UInt8)),xqi d (pre++w::post)=none
 |[]=>by
  show xqi d (w::post)=_
  unfold xqi
  rw[hw]
 |p::pre=>by
  show xqi d (p::(pre++w::post))=_
  unfold xqi
  rw[x10y hw post pre]
  cases nbrM p d<;>rfl
theorem xy8{d:Nat}:∀{ws:List (List UInt8)} {l:List Int},xqi d ws=some l->l.length=ws.length
 |[],l,h=>by cases h;rfl
 |p::ws,l,h=>by
  unfold xqi at h
  cases hp:nbrM p d with
  |none=>rw[hp]at h;cases h
  |some k=>
   rw[hp]at h
   cases hq:xqi d ws with
   |none=>rw[hq]at h;cases h
   |some q=>
    rw[hq]at h
    cases h
    simp[xy8 hq]
theorem xwb(c:UInt8):∀l:List UInt8,(cutM c l).length<=l.length+1
 |[]=>by simp[cutM]
 |x::l=>by
  have ih:=xwb c l
  unfold cutM
  split
  .simp;omega
  .split<;>simp_all<;>omega
theorem xy9(c:UInt8):∀(l:List UInt8) (w:List UInt8),w∈cutM c l->w.length<=l.length
 |[],w,h=>by
  simp[cutM]at h
  rw[h];exact x170 _
 |x::l,w,h=>by
  have ih:=xy9 c l
  unfold cutM at h
  split at h
  .rcases x174.1 h with rfl|h
   .simp
   .have:=ih w h;simp;omega
  .split at h
   .rename_i h2
    exact absurd h2 (cutM_ne c l)
   .rename_i y r h2
    rw[h2]at ih
    rcases x174.1 h with rfl|h
    .have:=ih y (x17l ..);simp;omega
    .have:=ih w (x172 _ h);simp;omega
theorem x10z{call:xpb}{f:FuncId}{l l':List AV}{m:Mem}{r:AV}(hl:l.mapM (Go.Ix.frz m.get deep)=some l')(hst:l'.all still=true)(h:∀m,xp9 call f l' m=some (r,m)) :
 xp9 call f l m=some (r,⟨xtj (l.flatMap (xpg m.get deep)) m.hp,m.next⟩):=by
 have h1:=h mem0
 have hm1:l'.mapM (Go.Ix.frz mem0.get deep)=some l':=xw0 _ hst
 unfold xp9 at h1 ⊢
 rw[hm1]at h1
 rw[hl]
 dsimp only at h1 ⊢
 cases hc:call [] f l' mem0 with
 |none=>rw[hc]at h1;cases h1
 |some p=>
  rw[hc]at h1
  dsimp only at h1 ⊢
  cases hf:Go.Ix.frz p.2.get deep p.1 with
  |none=>rw[hf]at h1;cases h1
  |some r0=>
   rw[hf]at h1
   have:=congrArg Prod.fst (x17s h1)
   dsimp only at this
   subst this
   rfl
theorem at0_app{l:List Int}{x:Int}{k:Nat}:at0 (l++[x]) k=if k<l.length then at0 l k else if k=l.length then x else 0:=by
 unfold at0
 simp only[x17t]
 by_cases h:k<l.length
 .rw[x16u h,x18v h]
 .rw[x16t h,x18w (by omega)]
  by_cases h2:k=l.length
  .rw[x16u h2,h2];simp
  .rw[x16t h2,x19g (by simp;omega)];rfl
def OutIn(k:Int)(out:List Int):Prop:=∀i,-(2048*k)<=at0 out i/\at0 out i<=2048*k
theorem OutIn.app{k:Nat}{out:List Int}(h:OutIn k out){x:Int}(h1:-(2048*((k+1:Nat):Int))<=x)(h2:x<=2048*((k+1:Nat):Int)):OutIn ((k+1:Nat):Int) (out++[x]):=by
 intro i
 rw[at0_app]
 have:=h i
 split
 .omega
 .split<;>omega
end Go.Ix
