import Derived.Test.YtbcmiinhjgbkdaaGreatDoorWg7
set_option linter.unusedSimpArgs false
set_option linter.unusedVariables false
namespace Go.Ix
open Go.Proofs
def okA(us:Nat)(id:Id):Prop:=id.1=us/\(id.2.2=116\/id.2.2=127)
structure SolMem (us n:Nat) (ev:AV) (l:List Edge) (fl tu ex:List Int) (m:Mem):Prop where
 s:m.get (us,21,25)=some (.row [I n,ev,srI (us,7,11) l.length,srI (us,11,15) n,srI (us,15,19) n,srI (us,19,23) n] 0 false)
 f:m.get (us,7,11)=some (.row (fl.flatMap intE) 0 false)
 t:m.get (us,11,15)=some (.row (tu.flatMap intE) 0 false)
 x:m.get (us,15,19)=some (.row (ex.flatMap intE) 0 false)
 a:∃cells,m.get (us,19,23)=some (.row cells 0 false)/\cells.length=n/\∀(v:Nat) (hv:v<cells.length),Gk 1 intE (okA us) m cells[v] (adjI l v)
 fll:fl.length=l.length
 tul:tu.length=n
 exl:ex.length=n
theorem SolMem.frame{us n:Nat}{ev:AV}{l:List Edge}{fl tu ex:List Int}{m m':Mem}(h:SolMem us n ev l fl tu ex m)(hm:∀id:Id,id.1=us->m'.get id=m.get id):SolMem us n ev l fl tu ex m':=by
 obtain⟨a,b,c,d,⟨cells,e1,e2,e3⟩,f,g,i⟩:=h
 refine⟨?_,?_,?_,?_,⟨cells,?_,e2,λv hv=>(e3 v hv).frame λid hid=>hm id hid.1⟩,f,g,i⟩<;>rw[hm _ rfl]<;>assumption
structure SolIn (n:Nat) (l:List Edge) (fl tu ex:List Int):Prop where
 n0:n<=200
 ll:l.length<=600
 ed:∀e∈l,EdgeIn n e/\e.fr≠e.to
 flb:∀k,-1000<=at0 fl k/\at0 fl k<=1000
 tub:∀k,-1000000<=at0 tu k/\at0 tu k<=1000000
 exb:∀k,-1000000<=at0 ex k/\at0 ex k<=1000000
theorem x1h3{objs:Id->Option Ob}{id:Id}{cs:List AV}{v off n z k:Nat}{f x:Bool}(h:objs id=some (.row cs v f))(hl:off+n*z<=cs.length):frz objs (k+1) (.sref id v off n z x)=(((cs.drop off).take (n*z)).mapM (frz objs k)).map λl=>AV.slit l n false:=by
 simp only[frz,h]
 rw[x1m1 ⟨trivial,hl⟩]
theorem x1h4{objs:Id->Option Ob}{id:Id}{cs:List AV}{v off k:Nat}{f:Bool}(h:objs id=some (.row cs v f)):frz objs (k+1) (.ptr id v off)=((cs.drop off).mapM (frz objs k)).map AV.plit:=by
 simp only[frz,h,x1mo]
theorem x1b9{objs:Id->Option Ob}{id:Id}{l:List Int}{k:Nat}(h:objs id=some (.row (l.flatMap intE) 0 false)):∃a,Ints a l/\frz objs (k+2) (srI id l.length)=some a:=by
 have hl:=x171 l
 refine⟨.slit (l.flatMap intE) l.length false,Sl.lit l false,?_⟩
 have:=x15m (objs:=objs) (id:=id) (cs:=l.flatMap intE) (ver:=0) (off:=0) (n:=l.length) (z:=1) (k:=k) (f:=false) (x:=true) h (by omega) (by
  rw[x1mi,x1mb (by omega)];exact x13c x1du l)
 rw[x1mi,x1mb (by omega)]at this
 exact this
theorem mapM_ex{f:AV->Option AV}{P:Nat->AV->Prop}:∀(l:List AV) (k:Nat),(∀(v:Nat) (hv:v<l.length),∃b,f l[v]=some b/\P (k+v) b)->∃l',l.mapM f=some l'/\l'.length=l.length/\∀(v:Nat) (hv:v<l'.length),P (k+v) l'[v]
 |[],k,_=>⟨[],rfl,rfl,λv hv=>by simp at hv⟩
 |a::l,k,h=>by
  obtain⟨b,h1,h2⟩:=h 0 (by simp)
  obtain⟨l',h3,h4,h5⟩:=mapM_ex (f:=f) (P:=P) l (k+1) λv hv=>by
   obtain⟨b,e1,e2⟩:=h (v+1) (by simpa using hv)
   exact⟨b,e1,by rw[show k+1+v=k+(v+1) by omega];exact e2⟩
  refine⟨b::l',?_,by simp[h4],λv hv=>?_⟩
  .rw[x1n9]
   simp only[List.getElem_cons_zero]at h1
   rw[h1,h3];rfl
  .cases v with
   |zero=>exact h2
   |succ v=>
    have:=h5 v (by simpa using hv)
    rw[show k+1+v=k+(v+1) by omega]at this
    exact this
theorem SolMem.frz{us n:Nat}{ev:AV}{l:List Edge}{fl tu ex:List Int}{m:Mem}(h:SolMem us n ev l fl tu ex m)(hi:SolIn n l fl tu ex)(hev:Sl Edge.c ev l):∃S,FrzS S n l fl tu ex/\Go.Ix.frz m.get deep (.ptr (us,21,25) 0 0)=some S:=by
 obtain⟨hs,hf,ht,hx,⟨cells,ha,hal,hac⟩,h1,h2,h3⟩:=h
 obtain⟨F,hF,fF⟩:=x1b9 (k:=3) hf
 obtain⟨T,hT,fT⟩:=x1b9 (k:=3) ht
 obtain⟨X,hX,fX⟩:=x1b9 (k:=3) hx
 obtain⟨cs,c1,c2,c3⟩:=mapM_ex (f:=Go.Ix.frz m.get 4) (P:=λv b=>Ints b (adjI l v)) cells 0 λv hv=>by
  obtain⟨a',g1,g2⟩:=(hac v hv).frz (k:=2) x1au x1du
  exact⟨a',g2,by simpa using g1⟩
 have fA:Go.Ix.frz m.get 5 (srI (us,19,23) n)=some (.slit cs n false):=by
  rw[x1h3 ha (by omega),x1mi,x1mb (by omega),c1]
  rfl
 refine⟨.plit [I n,ev,F,T,X,.slit cs n false],⟨⟨ev,F,T,X,cs,false,rfl,hev,hF,hT,hX,by omega,λv hv=>by have:=c3 v hv;rwa[x1mn]at this⟩,h1,h2,h3,hi.n0,hi.ll,hi.ed,hi.flb,hi.tub⟩,?_⟩
 rw[h1]at fF
 rw[h2]at fT
 rw[h3]at fX
 have fe:Go.Ix.frz m.get 5 ev=some ev:=x16t _ 4 hev.still1
 rw[show deep=5+1 from rfl,x1h4 hs]
 have fn:Go.Ix.frz m.get 5 (I n)=some (I n):=rfl
 simp only[x1mi,x1n9,x1of,fn,fe,fF,fT,fX,fA]
 rfl
structure TourMem (u sL n:Nat) (t:Tour) (m:Mem):Prop where
 t4:m.get (u,3,4)=some (.row [srL (u+1) sL n,.sref (u+1,16,26) 0 0 n 5 true,.sref (u+1,23,33) 0 0 n 1 true] 0 false)
 len:m.get (u+1+1,sL,30)=some (.row (t.len.flatMap intE) 0 false)
 last:m.get (u+1,16,26)=some (.row (t.last.flatMap Ar.c) 0 false)
 bef:m.get (u+1,23,33)=some (.row (t.bef.flatMap intE) 0 false)
 ll:t.len.length=n
 al:t.last.length=n
 bl:t.bef.length=n
theorem TourMem.frame{u sL n:Nat}{t:Tour}{m m':Mem}(h:TourMem u sL n t m)(hm:∀id:Id,u<=id.1->m'.get id=m.get id):TourMem u sL n t m':=by
 obtain⟨a,b,c,d,e,f,g⟩:=h
 refine⟨?_,?_,?_,?_,e,f,g⟩<;>rw[hm _ (by simp only;omega)]<;>assumption
end Go.Ix
