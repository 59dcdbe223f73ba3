import Derived.Test.YtacloojepepcfaaGreatDoorWg6
import Derived.Test.YtacloojepepcfaaGreatDoorWg1
set_option linter.unusedSimpArgs false
set_option linter.unusedVariables false
namespace Go.Ix
open Go.Proofs
def okid(u fc:Nat)(id:Id):Prop:=id.1=u/\(id.2.2=116\/id.2.2=127)/\id.2.1<fc
structure AtI (u fc:Nat) (cells:List AV) (adj:Nat->List Int) (m:Mem):Prop where
 sh:∃ids:Nat->Id,(∀(v:Nat) (hv:v<cells.length),(cells[v]=nilS/\adj v=[])\/(∃ver,cells[v]=.sref (ids v) ver 0 (adj v).length 1 true/\m.get (ids v)=some (.row ((adj v).flatMap intE) ver false)/\okid u fc (ids v)/\adj v≠[])) /\
  ∀v w,v<cells.length->w<cells.length->adj v≠[]->adj w≠[]->v≠w->ids v≠ids w
theorem AtI.frame{u fc fc':Nat}{cells:List AV}{adj:Nat->List Int}{m m':Mem}(h:AtI u fc cells adj m)(hm:∀id,okid u fc id->m'.get id=m.get id)(hfc:fc<=fc'):AtI u fc' cells adj m':=by
 obtain⟨ids,h1,h2⟩:=h.sh
 refine⟨ids,λv hv=>?_,h2⟩
 rcases h1 v hv with h|⟨ver,a,b,c,d⟩
 .exact Or.inl h
 .exact Or.inr ⟨ver,a,by rw[hm _ c];exact b,⟨c.1,c.2.1,by have:=c.2.2;omega⟩,d⟩
theorem AtI.app{u fc fc':Nat}{cells:List AV}{adj:Nat->List Int}{m:Mem}(h:AtI u fc cells adj m){v:Nat}(hv:v<cells.length)(x:Int){id0:Id}(h1:id0.1=u)(h2:id0.2.2=116\/id0.2.2=127)(h3:fc<=id0.2.1)(h4:id0.2.1<fc')(hr:(adj v).length<=100000) :
 ∃a' m' idA,(∀{R:Type} (k:AV->Mem->Option R),sApp 1 8 id0 (some (intE x,1)) cells[v] m k=k a' m')/\AtI u fc' (cells.set v a') (λw=>if w=v then adj v++[x]else adj w) m'/\a'.cells=[a']/\a'.one=true/\m'.next=m.next/\(∀j:Id,¬okid u fc' j->m'.get j=m.get j) /\
  tA id0 cells[v]=some [idA]/\(idA.2.2=116\/idA.2.2=127)/\idA.1=u:=by
 obtain⟨ids,e1,e2⟩:=h.sh
 have hro:∀k,k<=100001->xpc k 8:=λk hk=>by unfold xpc;omega
 have others:∀(w:Nat) (hw:w<cells.length),((cells[w]=nilS/\adj w=[])\/(∃ver,cells[w]=.sref (ids w) ver 0 (adj w).length 1 true/\m.get (ids w)=some (.row ((adj w).flatMap intE) ver false)/\okid u fc (ids w)/\adj w≠[])):=e1
 rcases e1 v hv with ⟨c1,c2⟩|⟨ver,c1,c2,c3,c4⟩
 ·
  refine⟨.sref id0 0 0 1 1 true,m.new id0 (.row (intE x) 0 false),id0,λk=>?_,⟨λw=>if w=v then id0 else ids w,λw hw=>?_,λw w' hw hw' n1 n2 hne=>?_⟩,rfl,rfl,rfl,λj hj=>?_,by rw[c1];rfl,h2,h1⟩
  .rw[c1]
   simp only[sApp]
   rw[x17t (by omega),x17u (hro 1 (by omega))]
  .simp only[x19t]at hw
   by_cases hwv:w=v
   .subst hwv
    right
    refine⟨0,?_,?_,?_,by simp⟩
    .simp[c2]
    .simp[c2]
    .simp only[x18m];exact⟨h1,h2,h4⟩
   .rw[x1at (λe=>hwv e.symm)]
    simp only[x17t hwv]
    rcases others w hw with h|⟨ver,a,b,c,d⟩
    .exact Or.inl h
    .refine Or.inr ⟨ver,a,?_,⟨c.1,c.2.1,by have:=c.2.2;omega⟩,d⟩
     rw[Mem.get_new,x17t (by rintro e;rw[e]at c;have:=c.2.2;omega)];exact b
  .simp only[x19t]at hw hw'
   by_cases hwv:w=v
   .have hwv':w'≠v:=by omega
    simp only[x17u hwv,x17t hwv']
    simp only[x17t hwv']at n2
    rcases others w' hw' with ⟨_,h⟩|⟨_,_,_,c,_⟩
    .exact absurd h n2
    .intro e;rw[<-e]at c;have:=c.2.2;omega
   .by_cases hwv':w'=v
    .simp only[x17t hwv,x17u hwv']
     simp only[x17t hwv]at n1
     rcases others w hw with ⟨_,h⟩|⟨_,_,_,c,_⟩
     .exact absurd h n1
     .intro e;rw[e]at c;have:=c.2.2;omega
    .simp only[x17t hwv,x17t hwv']at n1 n2 ⊢
     exact e2 w w' hw hw' n1 n2 hne
  .rw[Mem.get_new,x17t (by rintro rfl;exact hj ⟨h1,h2,h4⟩)]
 .have hl:=xrk (adj v)
  refine⟨.sref (ids v) (ver+1) 0 ((adj v).length+1) 1 true,m.set (ids v) (.row ((adj v).flatMap intE++intE x) (ver+1) false),ids v,λk=>?_,⟨ids,λw hw=>?_,λw w' hw hw' n1 n2 hne=>?_⟩,rfl,rfl,rfl,λj hj=>?_,by rw[c1];rfl,c3.2.1,c3.1⟩
  .rw[c1]
   simp only[sApp,c2]
   rw[x17u ⟨trivial,trivial,by omega,hro _ (by omega)⟩,x17t (by omega),x17t (by omega),x180,x182 (by omega)]
  .simp only[x19t]at hw
   by_cases hwv:w=v
   .subst hwv
    right
    refine⟨ver+1,by simp,by simp,⟨c3.1,c3.2.1,by have:=c3.2.2;omega⟩,by simp⟩
   .rw[x1at (λe=>hwv e.symm)]
    simp only[x17t hwv]
    rcases others w hw with h|⟨ver',a,b,c,d⟩
    .exact Or.inl h
    .refine Or.inr ⟨ver',a,?_,⟨c.1,c.2.1,by have:=c.2.2;omega⟩,d⟩
     rw[Mem.get_set,x17t (e2 w v hw hv d c4 hwv)];exact b
  .simp only[x19t]at hw hw'
   refine e2 w w' hw hw' ?_ ?_ hne
   .by_cases hwv:w=v
    .subst hwv;exact c4
    .simpa[hwv]using n1
   .by_cases hwv:w'=v
    .subst hwv;exact c4
    .simpa[hwv]using n2
  .rw[Mem.get_set,x17t (by rintro rfl;exact hj ⟨c3.1,c3.2.1,by have:=c3.2.2;omega⟩)]
theorem rd_av{l:List AV}{k:Nat}(hk:k<l.length):rd false 1 (l.drop k)=some l[k]:=by rw[xu7 hk];rfl
theorem x11x{l:List AV}{k:Nat}{a:AV}(hk:k<l.length)(h1:a.cells=[a])(h2:a.one=true):xrq 1 0 k a (some (.row l 0 false))=some (.row (l.set k a) 0 false):=by
 have h:(0:Nat)=0/\a.cells.length=1/\k+1<=l.length/\(a.cells.all AV.one)=true:=⟨rfl,by rw[h1];rfl,by omega,by rw[h1];simp[h2]⟩
 rw[xvo,x190 h,cond_true]
 simp only[xp7,h1]
 congr 2
 rw[x1by,x17u hk]
 simp
theorem mkSl_sl{R:Type}{n:Nat}{id:Id}{m:Mem}(k:AV->Mem->Option R)(hn:n<=200):xqr [nilS] 1 24 (I n) (I n) id m k=k (srI id n) (m.new id (.row (List.replicate n nilS) 0 false)):=by
 simp only[xqr,asI]
 rw[x17u ⟨by omega,x1ab _,by omega,by omega⟩]
 have:xpw [nilS] (((n:Int).toNat)*1)=List.replicate n nilS:=by
  simp only[xpw,x18g,x195]
  apply x1bt
  .simp
  .intro i h1 h2
   simp[Nat.mod_one]
 rw[this]
 simp
theorem Edge.still(e:Edge):e.c.all still1=true:=rfl
theorem w_CopyNet(d:Nat){n:Int}{ev:AV}{l:List Edge}(h:Sl Edge.c ev l)(hl:l.length<=1000000)(m:Mem):∃ev',Sl Edge.c ev' l/\xox (xow (d+1)) xt [.agg [I n,ev]] m=some (.agg [I n,ev'],m):=by
 have hr:xpc l.length 32:=by unfold xpc;omega
 have he:=h.elems Edge.len
 have hx:=h.tX
 by_cases h0:l=[]
 .subst h0
  refine⟨.slit [] 0 true,Sl.lit [] true,Ans.call0 ?_ (by simp[h.still1]) rfl⟩
  unfold Ans
  rw[xdr]
  unfold x42 x37
  have hr0:xpc 0 32:=by unfold xpc;omega
  simp[mem0,h.one,he,x11l hr0,z_net,xp9,xrc,sLdP,tR,tA,hx,xoz,disj]
 .have hq:l.length≠0:=by simpa using h0
  have hlen:=xrp Edge.len l
  refine⟨.slit (l.flatMap Edge.c) l.length false,Sl.lit l false,?_⟩
  have key:∃m',xow (d+1) [] xt [.agg [I n,ev]] mem0=some (.agg [I n,.sref (0,7,8) 0 0 l.length 4 true],m')/\m'.get (0,7,8)=some (.row (l.flatMap Edge.c) 0 false):=by
   rw[xdr]
   unfold x42 x37
   simp[mem0,h.one,he,x11l hr,hq,h0,z_net,xp9,xrc,sLdP,tR,tA,hx,xoz,disj]
  obtain⟨m',h1,h2⟩:=key
  refine xwu (by simp[h.still1]) h1 ?_
  have:=xsn (objs:=m'.get) (id:=(0,7,8)) (cs:=l.flatMap Edge.c) (ver:=0) (off:=0) (n:=l.length) (z:=4) (k:=3) (f:=false) (x:=true) h2 (by omega) (by
   rw[x180,x182 (by omega)];exact xr9 Edge.still l)
  rw[x180,x182 (by omega)]at this
  exact frz_agg2 rfl this
end Go.Ix
