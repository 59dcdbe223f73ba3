import Derived.Test.YtdfahbenacjgeaaWg5
import Derived.Test.YtdfahbenacjgeaaWg10
set_option linter.unusedSimpArgs false
set_option linter.unusedVariables false
namespace Go.Ix
open Go.Proofs
end Go.Ix
set_option maxRecDepth 100000
namespace Go.Ix
open Go.Proofs
structure Tour where
 len:List Int
 last:List Ar
 bef:List Int
theorem Ar.one(a:Ar):a.c.all AV.one=true:=rfl
theorem Ar.sc(a:Ar):a.c.all y5=true:=rfl
structure WInv (u sL:Nat) (S:AV) (n:Nat) (t:Tour) (m:Mem):Prop where
 s:m.get (u,0,2)=some (.row [S] 0 false)
 t4:m.get (u,1,4)=some (.row [nilS,nilS,nilS] 0 false)
 t5:m.get (u,25,5)=some (.row [.sref (u+1,sL,30) 0 0 n 1 true,.sref (u,16,26) 0 0 n 5 true,.sref (u,23,33) 0 0 n 1 true] 0 false)
 len:m.get (u+1,sL,30)=some (.row (t.len.flatMap intE) 0 false)
 last:m.get (u,16,26)=some (.row (t.last.flatMap Ar.c) 0 false)
 bef:m.get (u,23,33)=some (.row (t.bef.flatMap intE) 0 false)
 ll:t.len.length=n
 al:t.last.length=n
 bl:t.bef.length=n
 nx:u+1<m.next
theorem WInv.frame{u sL:Nat}{S:AV}{n:Nat}{t:Tour}{m m':Mem}(h:WInv u sL S n t m)(hm:∀id:Id,id.1<=u+1->id.2.2≠7->id.2.2≠41->m'.get id=m.get id)(hn:m.next<=m'.next):WInv u sL S n t m':=by obtain⟨a,b,c,d,e,f,g,i,j,k⟩:=h;refine⟨?_,?_,?_,?_,?_,?_,g,i,j,by omega⟩<;>rw[hm _ (by simp) (by simp) (by simp)]<;>assumption
abbrev srL(u sL n:Nat):AV:=.sref (u+1,sL,30) 0 0 n 1 true
def okA(us:Nat)(id:Id):Prop:=id.1=us/\(id.2.2=116\/id.2.2=127)
structure SolMem (us n:Nat) (ev:AV) (l:List Edge) (fl tu ex:List Int) (m:Mem):Prop where
 s:m.get (us,21,25)=some (.row [I n,ev,srI (us,7,11) l.length,srI (us,11,15) n,srI (us,15,19) n,srI (us,19,23) n] 0 false)
 f:m.get (us,7,11)=some (.row (fl.flatMap intE) 0 false)
 t:m.get (us,11,15)=some (.row (tu.flatMap intE) 0 false)
 x:m.get (us,15,19)=some (.row (ex.flatMap intE) 0 false)
 a:∃cells,m.get (us,19,23)=some (.row cells 0 false)/\cells.length=n/\∀(v:Nat) (hv:v<cells.length),Gk 1 intE (okA us) m cells[v] (adjI l v)
 fll:fl.length=l.length
 tul:tu.length=n
 exl:ex.length=n
theorem SolMem.frame{us n:Nat}{ev:AV}{l:List Edge}{fl tu ex:List Int}{m m':Mem}(h:SolMem us n ev l fl tu ex m)(hm:∀id:Id,id.1=us->m'.get id=m.get id):SolMem us n ev l fl tu ex m':=by obtain⟨a,b,c,d,⟨cells,e1,e2,e3⟩,f,g,i⟩:=h;refine⟨?_,?_,?_,?_,⟨cells,?_,e2,λv hv=>(e3 v hv).frame λid hid=>hm id hid.1⟩,f,g,i⟩<;>rw[hm _ rfl]<;>assumption
structure SolIn (n:Nat) (l:List Edge) (fl tu ex:List Int):Prop where
 n0:n<=200
 ll:l.length<=600
 ed:∀e∈l,EdgeIn n e/\e.fr≠e.to
 flb:∀k,-1000<=at0 fl k/\at0 fl k<=1000
 tub:∀k,-1000000<=at0 tu k/\at0 tu k<=1000000
 exb:∀k,-1000000<=at0 ex k/\at0 ex k<=1000000
theorem xab{objs:Id->Option Ob}{id:Id}{cs:List AV}{v off n z k:Nat}{f x:Bool}(h:objs id=some (.row cs v f))(hl:off+n*z<=cs.length):frz objs (k+1) (.sref id v off n z x)=(((cs.drop off).take (n*z)).mapM (frz objs k)).map λl=>AV.slit l n false:=by simp only[frz,h];rw[xc2 ⟨trivial,hl⟩]
theorem xac{objs:Id->Option Ob}{id:Id}{cs:List AV}{v off k:Nat}{f:Bool}(h:objs id=some (.row cs v f)):frz objs (k+1) (.ptr id v off)=((cs.drop off).mapM (frz objs k)).map AV.plit:=by simp only[frz,h,xcm]
theorem W5{objs:Id->Option Ob}{id:Id}{l:List Int}{k:Nat}(h:objs id=some (.row (l.flatMap intE) 0 false)):∃a,Ints a l/\frz objs (k+2) (srI id l.length)=some a:=by
 have hl:=v6 l;refine⟨.slit (l.flatMap intE) l.length false,Sl.lit l false,?_⟩
 have:=u6 (objs:=objs) (id:=id) (cs:=l.flatMap intE) (ver:=0) (off:=0) (n:=l.length) (z:=1) (k:=k) (f:=false) (x:=true) h (by omega) (by
  rw[xcd,xca (by omega)];exact d7 yY l)
 rw[xcd,xca (by omega)]at this;exact this
theorem mapM_ex{f:AV->Option AV}{P:Nat->AV->Prop}:∀(l:List AV) (k:Nat),(∀(v:Nat) (hv:v<l.length),∃b,f l[v]=some b/\P (k+v) b)->∃l',l.mapM f=some l'/\l'.length=l.length/\∀(v:Nat) (hv:v<l'.length),P (k+v) l'[v]
 |[],k,_=>⟨[],rfl,rfl,λv hv=>by simp at hv⟩
 |a::l,k,h=>by
  obtain⟨b,h1,h2⟩:=h 0 (by simp);obtain⟨l',h3,h4,h5⟩:=mapM_ex (f:=f) (P:=P) l (k+1) λv hv=>by obtain⟨b,e1,e2⟩:=h (v+1) (by simpa using hv);exact⟨b,e1,by rw[show k+1+v=k+(v+1) by omega];exact e2⟩
  refine⟨b::l',?_,by simp[h4],λv hv=>?_⟩
  .rw[xcx];simp only[List.getElem_cons_zero]at h1;rw[h1,h3];rfl
  .cases v with
   |zero=>exact h2
   |succ v=>have:=h5 v (by simpa using hv);rw[show k+1+v=k+(v+1) by omega]at this;exact this
theorem SolMem.frz{us n:Nat}{ev:AV}{l:List Edge}{fl tu ex:List Int}{m:Mem}(h:SolMem us n ev l fl tu ex m)(hi:SolIn n l fl tu ex)(hev:Sl Edge.c ev l):∃S,FrzS S n l fl tu ex/\Go.Ix.frz m.get qN (.ptr (us,21,25) 0 0)=some S:=by
 obtain⟨hs,hf,ht,hx,⟨cells,ha,hal,hac⟩,h1,h2,h3⟩:=h;obtain⟨F,hF,fF⟩:=W5 (k:=3) hf;obtain⟨T,hT,fT⟩:=W5 (k:=3) ht;obtain⟨X,hX,fX⟩:=W5 (k:=3) hx;obtain⟨cs,c1,c2,c3⟩:=mapM_ex (f:=Go.Ix.frz m.get 4) (P:=λv b=>Ints b (adjI l v)) cells 0 λv hv=>by obtain⟨a',g1,g2⟩:=(hac v hv).frz (k:=2) rX yY;exact⟨a',g2,by simpa using g1⟩
 have fA:Go.Ix.frz m.get 5 (srI (us,19,23) n)=some (.slit cs n false):=(by rw[xab ha (by omega),xcd,xca (by omega),c1];rfl);refine⟨.plit [I n,ev,F,T,X,.slit cs n false],⟨⟨ev,F,T,X,cs,false,rfl,hev,hF,hT,hX,by omega,λv hv=>by have:=c3 v hv;rwa[xd5]at this⟩,h1,h2,h3,hi.n0,hi.ll,hi.ed,hi.flb,hi.tub⟩,?_⟩;rw[h1]at fF;rw[h2]at fT;rw[h3]at fX;have fe:Go.Ix.frz m.get 5 ev=some ev:=A1 _ 4 hev.still1;rw[show qN=5+1 from rfl,xac hs];have fn:Go.Ix.frz m.get 5 (I n)=some (I n):=rfl;simp only[xcd,xcx,xdm,fn,fe,fF,fT,fX,fA];rfl
structure TourMem (u sL n:Nat) (t:Tour) (m:Mem):Prop where
 t4:m.get (u,3,4)=some (.row [srL (u+1) sL n,.sref (u+1,16,26) 0 0 n 5 true,.sref (u+1,23,33) 0 0 n 1 true] 0 false)
 len:m.get (u+1+1,sL,30)=some (.row (t.len.flatMap intE) 0 false)
 last:m.get (u+1,16,26)=some (.row (t.last.flatMap Ar.c) 0 false)
 bef:m.get (u+1,23,33)=some (.row (t.bef.flatMap intE) 0 false)
 ll:t.len.length=n
 al:t.last.length=n
 bl:t.bef.length=n
theorem TourMem.frame{u sL n:Nat}{t:Tour}{m m':Mem}(h:TourMem u sL n t m)(hm:∀id:Id,u<=id.1->m'.get id=m.get id):TourMem u sL n t m':=by obtain⟨a,b,c,d,e,f,g⟩:=h;refine⟨?_,?_,?_,?_,e,f,g⟩<;>rw[hm _ (by simp only;omega)]<;>assumption
def okid(u fc:Nat)(id:Id):Prop:=id.1=u/\(id.2.2=116\/id.2.2=127)/\id.2.1<fc
structure AtI (u fc:Nat) (cells:List AV) (adj:Nat->List Int) (m:Mem):Prop where
 sh:∃ids:Nat->Id,(∀(v:Nat) (hv:v<cells.length),(cells[v]=nilS/\adj v=[])\/(∃ver,cells[v]=.sref (ids v) ver 0 (adj v).length 1 true/\m.get (ids v)=some (.row ((adj v).flatMap intE) ver false)/\okid u fc (ids v)/\adj v≠[])) /\
  ∀v w,v<cells.length->w<cells.length->adj v≠[]->adj w≠[]->v≠w->ids v≠ids w
theorem AtI.frame{u fc fc':Nat}{cells:List AV}{adj:Nat->List Int}{m m':Mem}(h:AtI u fc cells adj m)(hm:∀id,okid u fc id->m'.get id=m.get id)(hfc:fc<=fc'):AtI u fc' cells adj m':=by
 obtain⟨ids,h1,h2⟩:=h.sh;refine⟨ids,λv hv=>?_,h2⟩;rcases h1 v hv with h|⟨ver,a,b,c,d⟩
 .exact Or.inl h
 .exact Or.inr ⟨ver,a,by rw[hm _ c];exact b,⟨c.1,c.2.1,by have:=c.2.2;omega⟩,d⟩
theorem AtI.app{u fc fc':Nat}{cells:List AV}{adj:Nat->List Int}{m:Mem}(h:AtI u fc cells adj m){v:Nat}(hv:v<cells.length)(x:Int){id0:Id}(h1:id0.1=u)(h2:id0.2.2=116\/id0.2.2=127)(h3:fc<=id0.2.1)(h4:id0.2.1<fc')(hr:(adj v).length<=100000) :
 ∃a' m' idA,(∀{R:Type} (k:AV->Mem->Option R),rL 1 8 id0 (some (intE x,1)) cells[v] m k=k a' m')/\AtI u fc' (cells.set v a') (λw=>if w=v then adj v++[x]else adj w) m'/\a'.cells=[a']/\a'.one=true/\m'.next=m.next/\(∀j:Id,¬okid u fc' j->m'.get j=m.get j) /\
  tA id0 cells[v]=some [idA]/\(idA.2.2=116\/idA.2.2=127)/\idA.1=u:=by
 obtain⟨ids,e1,e2⟩:=h.sh;have hro:∀k,k<=100001->qW k 8:=λk hk=>by unfold qW;omega
 have others:∀(w:Nat) (hw:w<cells.length),((cells[w]=nilS/\adj w=[])\/(∃ver,cells[w]=.sref (ids w) ver 0 (adj w).length 1 true/\m.get (ids w)=some (.row ((adj w).flatMap intE) ver false)/\okid u fc (ids w)/\adj w≠[])):=e1;rcases e1 v hv with ⟨c1,c2⟩|⟨ver,c1,c2,c3,c4⟩
 ·
  refine⟨.sref id0 0 0 1 1 true,m.new id0 (.row (intE x) 0 false),id0,λk=>?_,⟨λw=>if w=v then id0 else ids w,λw hw=>?_,λw w' hw hw' n1 n2 hne=>?_⟩,rfl,rfl,rfl,λj hj=>?_,by rw[c1];rfl,h2,h1⟩
  .rw[c1];simp only[rL];rw[xc1 (by omega),xc2 (hro 1 (by omega))]
  .simp only[xe1]at hw;by_cases hwv:w=v
   .subst hwv;right;refine⟨0,?_,?_,?_,by simp⟩
    .simp[c2]
    .simp[c2]
    .simp only[xcm];exact⟨h1,h2,h4⟩
   .rw[xfx (λe=>hwv e.symm)];simp only[xc1 hwv];rcases others w hw with h|⟨ver,a,b,c,d⟩
    .exact Or.inl h
    .refine Or.inr ⟨ver,a,?_,⟨c.1,c.2.1,by have:=c.2.2;omega⟩,d⟩;rw[Mem.get_new,xc1 (by rintro e;rw[e]at c;have:=c.2.2;omega)];exact b
  .simp only[xe1]at hw hw';by_cases hwv:w=v
   .have hwv':w'≠v:=(by omega);simp only[xc2 hwv,xc1 hwv'];simp only[xc1 hwv']at n2;rcases others w' hw' with ⟨_,h⟩|⟨_,_,_,c,_⟩
    .exact absurd h n2
    .intro e;rw[<-e]at c;have:=c.2.2;omega
   .by_cases hwv':w'=v
    .simp only[xc1 hwv,xc2 hwv'];simp only[xc1 hwv]at n1;rcases others w hw with ⟨_,h⟩|⟨_,_,_,c,_⟩
     .exact absurd h n1
     .intro e;rw[e]at c;have:=c.2.2;omega
    .simp only[xc1 hwv,xc1 hwv']at n1 n2 ⊢;exact e2 w w' hw hw' n1 n2 hne
  .rw[Mem.get_new,xc1 (by rintro rfl;exact hj ⟨h1,h2,h4⟩)]
 .have hl:=v6 (adj v);refine⟨.sref (ids v) (ver+1) 0 ((adj v).length+1) 1 true,m.set (ids v) (.row ((adj v).flatMap intE++intE x) (ver+1) false),ids v,λk=>?_,⟨ids,λw hw=>?_,λw w' hw hw' n1 n2 hne=>?_⟩,rfl,rfl,rfl,λj hj=>?_,by rw[c1];rfl,c3.2.1,c3.1⟩
  .rw[c1];simp only[rL,c2];rw[xc2 ⟨trivial,trivial,by omega,hro _ (by omega)⟩,xc1 (by omega),xc1 (by omega),xcd,xca (by omega)]
  .simp only[xe1]at hw;by_cases hwv:w=v
   .subst hwv;right;refine⟨ver+1,by simp,by simp,⟨c3.1,c3.2.1,by have:=c3.2.2;omega⟩,by simp⟩
   .rw[xfx (λe=>hwv e.symm)];simp only[xc1 hwv];rcases others w hw with h|⟨ver',a,b,c,d⟩
    .exact Or.inl h
    .refine Or.inr ⟨ver',a,?_,⟨c.1,c.2.1,by have:=c.2.2;omega⟩,d⟩;rw[Mem.get_set,xc1 (e2 w v hw hv d c4 hwv)];exact b
  .simp only[xe1]at hw hw';refine e2 w w' hw hw' ?_ ?_ hne
   .by_cases hwv:w=v
    .subst hwv;exact c4
    .simpa[hwv]using n1
   .by_cases hwv:w'=v
    .subst hwv;exact c4
    .simpa[hwv]using n2
  .rw[Mem.get_set,xc1 (by rintro rfl;exact hj ⟨c3.1,c3.2.1,by have:=c3.2.2;omega⟩)]
end Go.Ix
