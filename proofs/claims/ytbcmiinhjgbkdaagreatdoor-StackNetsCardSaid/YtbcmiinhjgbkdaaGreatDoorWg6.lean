import Derived.Test.YtbcmiinhjgbkdaaGreatDoorWg5
import Derived.Test.YtbcmiinhjgbkdaaGreatDoorWg4
import Derived.Test.YtbcmiinhjgbkdaaGreatDoorFxSound
set_option linter.unusedSimpArgs false
set_option linter.unusedVariables false
set_option exponentiation.threshold 3000
namespace Go.Ix
open Ieee
variable{P:Program}
def OkR(P:Program){α:Type}(s:Sem α)(R:α->Prop):Prop:=safe P s/\∀v,may P s v->R v
theorem OkR.pure{α:Type}{a:α}{R:α->Prop}(h:R a):OkR P (.pure a) R:=⟨trivial,λ_ e=>e▸h⟩
theorem OkR.bind{α β:Type}{Q:α->Prop}{R:β->Prop}{f:α->Sem β}(hf:∀v,Q v->OkR P (f v) R):∀{s:Sem α},OkR P s Q->OkR P (s.bind f) R
 | .pure a,h=>hf a (h.2 a rfl)
 | .program k,h=>OkR.bind (s:=k P) hf h
 | .mark _ k,h=>OkR.bind (s:=k) hf h
 | .choose q k,h=>by
  unfold OkR at h
  unfold Sem.bind OkR
  simp only[safe,may]at h ⊢
  by_cases c:q.forced=true
  .simp only[x1m1 c]at h ⊢
   exact OkR.bind (s:=k 0) hf h
  .simp only[x1m0 c]at h ⊢
   exact⟨λt=>(OkR.bind (s:=k (q.cut t)) hf ⟨h.1 t,λv hv=>h.2 v ⟨t,hv⟩⟩).1,λv ⟨t,hv⟩=>(OkR.bind (s:=k (q.cut t)) hf ⟨h.1 t,λv hv=>h.2 v ⟨t,hv⟩⟩).2 v hv⟩
 | .load ..,h=>h.1.elim
 | .store ..,h=>h.1.elim
 | .new ..,h=>h.1.elim
 | .shape ..,h=>h.1.elim
 | .freeze ..,h=>h.1.elim
 | .frozen ..,h=>h.1.elim
 | .getObj ..,h=>h.1.elim
 | .setObj ..,h=>h.1.elim
 | .sys ..,h=>h.1.elim
 | .halt ..,h=>h.1.elim
theorem OkR.choose{α:Type}{q:Question}{k:Nat->Sem α}{R:α->Prop}(hq:q.forced=false)(h:∀t,OkR P (k (q.cut t)) R):OkR P (.choose q k) R:=by
 unfold OkR
 simp only[safe,may,hq,x1mp,x1mg]
 exact⟨λt=>(h t).1,λv ⟨t,hv⟩=>(h t).2 v hv⟩
theorem x17w{α:Type}:∀{s:Sem α},safe P s->∃v,may P s v
 | .pure a,_=>⟨a,rfl⟩
 | .program k,h=>x17w (s:=k P) h
 | .mark _ k,h=>x17w (s:=k) h
 | .choose q k,h=>by
  simp only[safe,may]at h ⊢
  by_cases c:q.forced=true
  .simp only[x1m1 c]at h ⊢
   exact x17w h
  .simp only[x1m0 c]at h ⊢
   obtain⟨v,hv⟩:=x17w (h 0)
   exact⟨v,0,hv⟩
 | .load ..,h=>h.elim
 | .store ..,h=>h.elim
 | .new ..,h=>h.elim
 | .shape ..,h=>h.elim
 | .freeze ..,h=>h.elim
 | .frozen ..,h=>h.elim
 | .getObj ..,h=>h.elim
 | .setObj ..,h=>h.elim
 | .sys ..,h=>h.elim
 | .halt ..,h=>h.elim
theorem x1b8{α:Type}:∀{s:Sem α} {v:α},x10w P s=some v->may P s v
 | .pure a,v,h=>by cases h;rfl
 | .program k,v,h=>x1b8 (s:=k P) h
 | .mark _ k,v,h=>x1b8 (s:=k) h
 | .choose ..,v,h=>by cases h
 | .load ..,v,h=>by cases h
 | .store ..,v,h=>by cases h
 | .new ..,v,h=>by cases h
 | .shape ..,v,h=>by cases h
 | .freeze ..,v,h=>by cases h
 | .frozen ..,v,h=>by cases h
 | .getObj ..,v,h=>by cases h
 | .setObj ..,v,h=>by cases h
 | .sys ..,v,h=>by cases h
 | .halt ..,v,h=>by cases h
def NE(a:AV):Prop:=∃v,conc a v
def Is(R:Value->Prop)(a:AV):Prop:=NE a/\∀v,conc a v->R v
theorem conc_tv{a:AV}{v:Value}(h:x118 a=some v):conc a v:=by
 cases a<;>first|exact h|cases h
theorem tv_none{a:AV}(h:x118 a=none)(hn:NE a):∃p,a=.un p:=by
 obtain⟨u,hu⟩:=hn
 cases a<;>first|exact⟨_,rfl⟩|exact nomatch h.symm.trans hu
theorem conc_sc{v u:Value}:conc (.sc v) u↔u=v:=by
 constructor
 .intro h;cases h;rfl
 .intro h;rw[h];rfl
theorem Is.sc{R:Value->Prop}{v:Value}(h:R v):Is R (.sc v):=⟨⟨v,rfl⟩,λu hu=>by rw[conc_sc.mp hu];exact h⟩
theorem Is.mono{R Q:Value->Prop}{a:AV}(h:Is R a)(hi:∀v,R v->Q v):Is Q a:=⟨h.1,λv hv=>hi v (h.2 v hv)⟩
theorem canon_1{q:Value->Prop}{v0:Value}(hn:∃v,q v)(h:∀v,q v->v=v0):canon q=some (.sc v0):=by
 unfold canon
 have c:∃v0,∀v,q v->v=v0:=⟨v0,h⟩
 rw[dif_pos c]
 have hc:=Classical.choose_spec c
 obtain⟨v,hv⟩:=hn
 have e1:=hc v hv
 have e2:=h v hv
 rw[<-e1,e2]
section
variable{l:List AV}{s:List Value->Sem Value}{R:Value->Prop}
theorem abs_ne(hn:∃vs,x12l l vs)(h:∀vs,x12l l vs->OkR P (s vs) R):∃v vs,x12l l vs/\may P (s vs) v:=by
 obtain⟨vs,hvs⟩:=hn
 obtain⟨v,hv⟩:=x17w (h vs hvs).1
 exact⟨v,vs,hvs,hv⟩
theorem absOp_1{v0:Value}(hn:∃vs,x12l l vs)(h:∀vs,x12l l vs->OkR P (s vs) (·=v0)):x13t P l s=some (.sc v0):=by
 unfold x13t
 rw[x1m1 ⟨hn,λvs hvs=>(h vs hvs).1⟩]
 exact canon_1 (abs_ne hn h) (λv ⟨vs,hvs,hv⟩=>(h vs hvs).2 v hv)
theorem op_1{o:Option AV}{v0:Value}(hv:x11l v0=.sc v0)(ho:∀r,o=some r->∃vs z,x12l l vs/\may P (s vs) z/\r=x11l z)(hn:∃vs,x12l l vs)(h:∀vs,x12l l vs->OkR P (s vs) (·=v0)):(match o with|some r=>some r|none=>x13t P l s)=some (.sc v0):=by
 cases o with
 |none=>exact absOp_1 hn h
 |some r=>
  obtain⟨vs,z,h1,h2,h3⟩:=ho r rfl
  have g:=(h vs h1).2 z h2
  rw[h3,g,hv]
end
theorem bin0_s{op:BinOp}{t:TypeId}{x y:Operand}{a b:AV}(ha:NE a)(hb:NE b):∀r,bin0 P op t x y a b=some r->∃vs z,x12l [a,b] vs/\may P (binS op t x y vs) z/\r=x11l z:=by
 intro r h
 unfold bin0 at h
 cases ea:x118 a with
 |none=>
  obtain⟨p,rfl⟩:=tv_none ea ha
  cases eb:x118 b with
  |none=>simp[ea,eb]at h
  |some v=>
   simp only[ea,eb]at h
   split at h
   .rename_i h1 h2;cases h1
   .split at h
    .rename_i h1;cases h1
    .rename_i h1;cases h1
    .cases h
   .cases h
 |some u=>
  cases eb:x118 b with
  |none=>simp[ea,eb]at h
  |some v=>
   simp only[ea,eb,x1m4]at h
   obtain⟨z,hz,rfl⟩:=h
   exact⟨[u,v],z,⟨conc_tv ea,conc_tv eb,trivial⟩,x1b8 hz,rfl⟩
theorem cs2{a b:AV}(ha:NE a)(hb:NE b):∃vs,x12l [a,b] vs:=by
 obtain⟨u,hu⟩:=ha
 obtain⟨v,hv⟩:=hb
 exact⟨[u,v],hu,hv,trivial⟩
theorem cs2'{a b:AV}{Q:List Value->Prop}(h:∀u v,conc a u->conc b v->Q [u,v]):∀vs,x12l [a,b] vs->Q vs
 |[],h0=>h0.elim
 |[_],h0=>h0.2.elim
 |[u,v],h0=>h u v h0.1 h0.2.1
 |_::_::_::_,h0=>h0.2.2.elim
section
variable{op:BinOp}{t:TypeId}{x y:Operand}{a b:AV}{R A B:Value->Prop}{v0:Value}
theorem sBin_1(ha:Is A a)(hb:Is B b)(hv:x11l v0=.sc v0)(h:∀u v,A u->B v->OkR P (binS op t x y [u,v]) (·=v0)):sBin P op t x y a b=some (.sc v0):=
 op_1 hv (bin0_s ha.1 hb.1) (cs2 ha.1 hb.1) (cs2' λu v hu hv=>h u v (ha.2 u hu) (hb.2 v hv))
end
section
variable{b:Builtin}{f:FuncId}{ts:Array TypeId}{t s d:TypeId}{a c:AV}{R A C:Value->Prop}{v0:Value}{uo:UnOp}
end
end Go.Ix
namespace Go.Ix
open Go.Proofs
variable{α:Type}{z:Nat}{enc:α->List AV}{l:List α}{a:AV}
def Gk{α:Type}(z:Nat)(enc:α->List AV)(ok:Id->Prop)(m:Mem)(a:AV)(l:List α):Prop:=
 (a=nilS/\l=[])\/∃id ver,ok id/\a=.sref id ver 0 l.length z true/\m.get id=some (.row (l.flatMap enc) ver false)
theorem Gk.nil{ok:Id->Prop}{m:Mem}:Gk z enc ok m nilS []:=Or.inl ⟨rfl,rfl⟩
theorem Gk.frame{ok:Id->Prop}{m m':Mem}(h:Gk z enc ok m a l)(hm:∀id,ok id->m'.get id=m.get id):Gk z enc ok m' a l:=by
 rcases h with h|⟨id,ver,h0,h1,h2⟩
 .exact Or.inl h
 .exact Or.inr ⟨id,ver,h0,h1,by rw[hm _ h0];exact h2⟩
theorem Gk.app(hz:∀x,(enc x).length=z)(h0:0<z){bytes:Nat}{ok:Id->Prop}{id0:Id}{m:Mem}(ht:ok id0)(hr:x11c (l.length+1) bytes)(h:Gk z enc ok m a l)(x:α) :
 ∃a' m',(∀{R:Type} (k:AV->Mem->Option R),sApp z bytes id0 (some (enc x,1)) a m k=k a' m')/\Gk z enc ok m' a' (l++[x])/\a'.cells=[a']/\a'.one=true/\m'.next=m.next/\∀j:Id,¬ok j->m'.get j=m.get j:=by
 rcases h with ⟨rfl,rfl⟩|⟨id,ver,h1,rfl,hg⟩
 .refine⟨.sref id0 0 0 1 z true,m.new id0 (.row (enc x) 0 false),λk=>?_,Or.inr ⟨id0,0,ht,rfl,by simp⟩,rfl,rfl,rfl,λj hj=>?_⟩
  .simp only[sApp]
   rw[x1m0 (by omega),x1m1 (by simpa using hr)]
  .rw[Mem.get_new,x1m0 (by rintro rfl;exact hj ht)]
 .have hl:=x135 hz l
  refine⟨.sref id (ver+1) 0 (l.length+1) z true,m.set id (.row (l.flatMap enc++enc x) (ver+1) false),λk=>?_,Or.inr ⟨id,ver+1,h1,by simp,by simp⟩,rfl,rfl,rfl,λj hj=>?_⟩
  .simp only[sApp,hg]
   rw[x1m1 ⟨trivial,trivial,by omega,hr⟩,x1m0 (by omega),x1m0 (by rw[hl,x1nr];omega),x1mi,x1mb (by omega)]
  .rw[Mem.get_set,x1m0 (by rintro rfl;exact hj h1)]
theorem Gk.one{ok:Id->Prop}{m:Mem}(h:Gk z enc ok m a l):a.cells=[a]/\a.one=true:=by
 rcases h with ⟨rfl,rfl⟩|⟨id,ver,h1,rfl,hg⟩<;>exact⟨rfl,rfl⟩
theorem Gk.frz(hz:∀x,(enc x).length=z)(hs:∀x,(enc x).all still1=true){ok:Id->Prop}{k:Nat}{m:Mem}(h:Gk z enc ok m a l):∃a',Sl enc a' l/\Go.Ix.frz m.get (k+2) a=some a':=by
 rcases h with ⟨rfl,rfl⟩|⟨id,ver,_,rfl,hg⟩
 .exact⟨nilS,Or.inl ⟨rfl,rfl⟩,rfl⟩
 .have hl:=x135 hz l
  refine⟨.slit (l.flatMap enc) l.length false,Sl.lit l false,?_⟩
  have:=x15m (objs:=m.get) (id:=id) (cs:=l.flatMap enc) (ver:=ver) (off:=0) (n:=l.length) (z:=z) (k:=k) (f:=false) (x:=true) hg (by omega) (by
   rw[x1mi,x1mb (by omega)];exact x13c hs l)
  rw[x1mi,x1mb (by omega)]at this
  exact this
theorem call1{call:x10m}{f:FuncId}{l:List AV}{m m':Mem}{r:AV}(hl:l.all clean=true)(h:call [] f l ⟨[],m.next⟩=some (r,m')) :
 ∃M:Mem,x13f call f l m=some (r,M)/\M.next=m'.next/\∀i:Id,M.get i=if m.next<=i.1 then m'.get i else m.get i:=by
 refine⟨⟨(m'.hp.filter λe=>Nat.ble m.next e.1)++(m.hp.filter λe=>Nat.blt e.1 m.next),m'.next⟩,?_,rfl,λi=>congrFun (x1bs m'.hp m.hp m.next) i⟩
 unfold x13f
 rw[x1m1 hl,h]
theorem x1eb:∃i,Tryz.prog.info? x111=some i/\i.size=1:=by
 have h:(Tryz.prog.info? x111).map (λi=>i.size)=some 1:=by kernel_rfl
 obtain⟨i,h1,h2⟩:=x1m4.mp h
 exact⟨i,h1,h2⟩
theorem slice_lo{id:Id}{ver off n:Nat}{full:Bool}{lo:Int}(h0:0<=lo)(h2:lo<=n):x117 Tryz.prog x4 (.sref id ver off n 1 full) (some (I lo)) none=some (.sref id ver (off+lo.toNat) (n-lo.toNat) 1 full):=by
 obtain⟨i,e1,e2⟩:=x1eb
 simp only[x117,x118,u_ints,e1,asI,Option.getD_some,Option.getD_none]
 rw[x1m1 ⟨h0,by omega,by omega,e2.symm,.inr trivial⟩,x1o4,show((n:Int)-lo).toNat=n-lo.toNat by omega]
structure Ar where
 edge:Int
 to:Int
 sign:Int
 room:Int
 cost:Int
def Ar.c(a:Ar):List AV:=[I a.edge,I a.to,I a.sign,I a.room,I a.cost]
theorem Ar.len(a:Ar):a.c.length=5:=rfl
def e00:Edge:=⟨0,0,0,0⟩
def edgeAt(l:List Edge)(i:Nat):Edge:=l.getD i e00
theorem x19a{l:List Edge}{i:Nat}(h:i<l.length):edgeAt l i=l[i]:=by
 unfold edgeAt;rw[x1mu,x1ml h];rfl
def adjI(l:List Edge)(v:Int):List Int:=((List.range l.length).filter λi=>decide ((edgeAt l i).fr=v)||decide ((edgeAt l i).to=v)).map Int.ofNat
structure FrzS (S:AV) (n:Nat) (l:List Edge) (fl tu ex:List Int):Prop where
 sh:∃ev F TU X cells b,S=.plit [I n,ev,F,TU,X,.slit cells n b]/\Sl Edge.c ev l/\Ints F fl/\Ints TU tu/\Ints X ex/\cells.length=n/\∀(v:Nat) (hv:v<cells.length),Ints cells[v] (adjI l v)
 fll:fl.length=l.length
 tul:tu.length=n
 exl:ex.length=n
 n0:n<=200
 ll:l.length<=600
 ed:∀e∈l,EdgeIn n e/\e.fr≠e.to
 flb:∀k,-1000<=at0 fl k/\at0 fl k<=1000
 tub:∀k,-1000000<=at0 tu k/\at0 tu k<=1000000
end Go.Ix
set_option maxRecDepth 100000
namespace Go.Ix
open Go.Proofs
end Go.Ix
