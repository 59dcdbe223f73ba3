import Derived.Test.YtacloojepepcfaaGreatDoorWg8
set_option linter.unusedSimpArgs false
set_option linter.unusedVariables false
namespace Go.Ix
structure Slim (J:Int) (n:Nat) (l:List Edge):Prop where
 j0:0<=J
 j1:J<=20
 nn:n<=12
 ll:l.length<=17
 ed:∀e∈l,EdgeIn n e/\e.fr≠e.to
 jw:∀e∈l,-J<=e.jump/\e.jump<=J/\e.wt<=20
def posS(n:Nat)(ex:List Int):Int:=sumN n (λv=>if 0<at0 ex v then at0 ex v else 0)
theorem x147(n:Nat)(ex:List Int):0<=posS n ex:=x146 λk _=>by split<;>omega
open Go.Proofs
theorem netF_in(v:Nat):∀z:List (Edge×Int),(∀x∈z,-20<=x.2/\x.2<=20)->-(40*(z.length:Int))<=netF v z/\netF v z<=40*(z.length:Int)
 |[],_=>by simp[netF]
 |x::r,h=>by
  have ih:=netF_in v r (λy hy=>h y (x183 _ hy))
  have hx:=h x (x18a ..)
  simp only[netF,x188]
  split<;>split<;>omega
theorem FlowOK.exb{J:Int}{n:Nat}{l:List Edge}{fl tu ex:List Int}(h:FlowOK n l fl tu ex)(hS:Slim J n l)(v:Nat):-680<=at0 ex v/\at0 ex v<=680:=by
 by_cases hv:v<n
 .rw[h.net v hv]
  have:=netF_in v (l.zip fl) (λx hx=>by
   obtain⟨k,hk,rfl⟩:=(mem_zipE h.fll).mp hx
   have h1:=h.cap k hk
   have h2:=hS.jw (edgeAt l k) (by rw[xx1 hk];exact x194 hk)
   simp only
   omega)
  have hl:=hS.ll
  have:(l.zip fl).length<=17:=by rw[List.length_zip];omega
  omega
 .have:at0 ex v=0:=by
   unfold at0
   rw[x18r,x1ao (by rw[h.exl];omega)];rfl
  omega
theorem FlowOK.flb{n:Nat}{l:List Edge}{fl tu ex:List Int}(h:FlowOK n l fl tu ex)(k:Nat):-1000<=at0 fl k/\at0 fl k<=1000:=by
 by_cases hk:k<l.length
 .have:=h.cap k hk
  obtain⟨⟨_,_,_,_,_,_,w0,w1⟩,_⟩:=edge_in h.ed hk
  omega
 .have:at0 fl k=0:=by
   unfold at0
   rw[x18r,x1ao (by rw[h.fll];omega)];rfl
  omega
def PBound(J P:Int)(n:Nat)(ex:List Int):Prop:=0<=P/\P<=(J*12)*(1000-posS n ex)
theorem PBound.le{J P:Int}{n:Nat}{ex:List Int}(h:PBound J P n ex)(h0:0<=J):P<=J*12000:=by
 have h1:=x147 n ex
 have h2:(J*12)*(1000-posS n ex)<=(J*12)*1000:=x1bz (by omega) (by omega)
 have:=h.2
 have e:J*12*1000=J*12000:=by rw[Int.mul_assoc];rfl
 omega
theorem PBound.push{J P P' amt:Int}{n:Nat}{ex ex':List Int}(h:PBound J P n ex)(h0:0<=J)(h1:P<=P')(h2:P'<=P+J*12)(h3:posS n ex'+amt=posS n ex)(h4:0<amt):PBound J P' n ex':=by
 refine⟨by have:=h.1;omega,?_⟩
 have h5:(J*12)*(1000-posS n ex+1)<=(J*12)*(1000-posS n ex'):=x1bz (by omega) (by omega)
 rw[Int.mul_add,Int.mul_one]at h5
 have:=h.2
 omega
theorem x148{cs:List AV}{n:Nat}{x:Bool}{lo:Int}(h0:0<=lo)(h2:lo<=n)(hl:cs.length=n):xpd Tryz.prog x8 (.slit cs n x) (some (I lo)) none=some (.slit (cs.drop lo.toNat) (n-lo.toNat) x):=by
 obtain⟨i,e1,e2⟩:=xvv
 simp only[xpd,xpb,xr3,e1,asI,Option.getD_some,Option.getD_none,e2]
 rw[x17u ⟨h0,h2,x1ab _,by omega⟩,x195,x195,show((n:Int)-lo).toNat=n-lo.toNat by omega,x182 (by simp;omega)]
 simp
def QRep(w:Nat)(m:Mem)(a:AV)(q:List Int):Prop:=
 a=.slit (q.flatMap intE) q.length true\/∃id ver off cs,w<=id.1/\a=.sref id ver off q.length 1 true/\m.get id=some (.row cs ver false)/\cs.drop off=q.flatMap intE/\off+q.length=cs.length
theorem QRep.frame{w:Nat}{m m':Mem}{a:AV}{q:List Int}(h:QRep w m a q)(hm:∀id:Id,w<=id.1->m'.get id=m.get id):QRep w m' a q:=by
 rcases h with h|⟨id,ver,off,cs,h1,h2,h3,h4⟩
 .exact Or.inl h
 .exact Or.inr ⟨id,ver,off,cs,h1,h2,by rw[hm id h1];exact h3,h4⟩
theorem QRep.one{w:Nat}{m:Mem}{a:AV}{q:List Int}(h:QRep w m a q):a.cells=[a]/\a.one=true:=by
 rcases h with rfl|⟨id,ver,off,cs,h1,rfl,h3,h4⟩<;>exact⟨rfl,rfl⟩
theorem QRep.len{w:Nat}{m:Mem}{a:AV}{q:List Int}(h:QRep w m a q):sLen Tryz.prog x8 a=some (I q.length):=by
 rcases h with rfl|⟨id,ver,off,cs,h1,rfl,h3,h4⟩<;>rfl
theorem QRep.head{w:Nat}{m:Mem}{a:AV}{x:Int}{q:List Int}(h:QRep w m a (x::q)):∃p,sIx 1 a (I 0)=some p/\sLd false 1 p m=some (I x):=by
 rcases h with rfl|⟨id,ver,off,cs,h1,rfl,h3,h4,h5⟩
 .refine⟨.plit ((x::q).flatMap intE),?_,rfl⟩
  have:=(Sl.lit (x::q) true (enc:=intE)).ixI xt5 (k:=0) (by omega) (by simp)
  simpa using this
 .refine⟨.ptr id ver off,by simp[sIx,asI],?_⟩
  rw[xqt,h3]
  simp only[xu8,x18o,cond_true]
  rw[h4];rfl
theorem QRep.tail{w:Nat}{m:Mem}{a:AV}{x:Int}{q:List Int}(h:QRep w m a (x::q)):∃a',xpd Tryz.prog x8 a (some (I 1)) none=some a'/\QRep w m a' q:=by
 rcases h with rfl|⟨id,ver,off,cs,h1,rfl,h3,h4,h5⟩
 .refine⟨.slit (q.flatMap intE) q.length true,?_,Or.inl rfl⟩
  rw[x148 (by omega) (by rw[x188];omega) (xrk _)]
  rfl
 .refine⟨.sref id ver (off+1) q.length 1 true,?_,Or.inr ⟨id,ver,off+1,cs,h1,rfl,h3,?_,by simp at h5;omega⟩⟩
  .rw[xyx (by omega) (by rw[x188];omega)]
   rfl
  .rw[<-x1bc,h4];rfl
theorem QRep.app{w:Nat}{m:Mem}{a:AV}{q:List Int}(h:QRep w m a q)(hq:q.length<=100000){id0:Id}(h0:w<=id0.1)(x:Int) :
 ∃a' m',(∀{R:Type} (k:AV->Mem->Option R),sApp 1 8 id0 (some (intE x,1)) a m k=k a' m')/\QRep w m' a' (q++[x])/\m'.next=m.next/\∀id:Id,id.1<w->m'.get id=m.get id:=by
 have hro:∀k,k<=100001->xpc k 8:=λk hk=>by unfold xpc;omega
 have hl:=xrk q
 rcases h with rfl|⟨id,ver,off,cs,h1,rfl,h3,h4,h5⟩
 .refine⟨.sref id0 0 0 (q.length+1) 1 true,m.new id0 (.row (q.flatMap intE++intE x) 0 false),λk=>?_,Or.inr ⟨id0,0,0,q.flatMap intE++intE x,h0,by simp,by simp,by simp,by simp[hl,intE]⟩,rfl,λj hj=>?_⟩
  .simp only[sApp]
   rw[x17u (by omega),x17t (by omega),x17u (hro _ (by omega)),x195,x182 (by omega)]
  .rw[Mem.get_new,x17t (by rintro rfl;omega)]
 .refine⟨.sref id (ver+1) 0 (q.length+1) 1 true,m.set id (.row (q.flatMap intE++intE x) (ver+1) false),λk=>?_,Or.inr ⟨id,ver+1,0,q.flatMap intE++intE x,h1,by simp,by simp,by simp,by simp[hl,intE]⟩,rfl,λj hj=>?_⟩
  .simp only[sApp,h3]
   rw[x17u ⟨trivial,trivial,by omega,hro _ (by omega)⟩,x17t (by omega),x17t (by omega),h4,x182 (by omega)]
  .rw[Mem.get_set,x17t (by rintro rfl;omega)]
theorem QRep.tA{w:Nat}{m:Mem}{a:AV}{q:List Int}(h:QRep w m a q){id0:Id}(h0:w<=id0.1):∃id,Go.Ix.tA id0 a=some [id]/\w<=id.1:=by
 rcases h with rfl|⟨id,ver,off,cs,h1,rfl,h3,h4,h5⟩
 .exact⟨id0,rfl,h0⟩
 .exact⟨id,rfl,h1⟩
structure NumMem (u sL fq n:Nat) (out q:List Int) (g:Int) (m:Mem):Prop where
 t5:m.get (u,4,5)=some (.row [srL u sL n] 0 false)
 t6:m.get (u,6,6)=some (.row [I g] 0 false)
 o:m.get (u+1,sL,30)=some (.row (out.flatMap intE) 0 false)
 t8:∃a,m.get (u,fq,8)=some (.row [a] 0 false)/\QRep (u+2) m a q
 ol:out.length=n
 nx:u+1<m.next
def FrU(u sL fq:Nat)(m m':Mem):Prop:=∀id:Id,id.1<u+2->id≠(u+1,sL,30)->id≠(u,fq,8)->m'.get id=m.get id
def addM(g:Int)(s:List Int×List Int)(b:Int):List Int×List Int:=if at0 s.1 b.toNat<0 then(s.1.set b.toNat g,s.2++[b])else s
theorem a_add(d:Nat)(hs:FHs){u sL fq n:Nat}{out q:List Int}{g b:Int}{m:Mem}(h:NumMem u sL fq n out q g m)(hq:q.length<=100000)(b0:0<=b)(b1:b<n) :
 ∃m',xql (xow (d+1)) hs 2 (.clo xk [.ptr (u,4,5) 0 0,.ptr (u,6,6) 0 0,.ptr (u,fq,8) 0 0]) [I b] m=some (.tup [],m') /\
  NumMem u sL fq n (addM g (out,q) b).1 (addM g (out,q) b).2 g m'/\m.next<=m'.next/\FrU u sL fq m m':=by
 obtain⟨t5,t6,o,⟨a,ta,hQ⟩,ol,nx⟩:=h
 obtain⟨m0,hm0⟩:∃m0:Mem,m0=⟨m.hp,m.next+1⟩:=⟨_,rfl⟩
 have g0:∀id,m0.get id=m.get id:=λ_=>by rw[hm0];rfl
 have hb:b.toNat<out.length:=by omega
 have ib:sIx 1 (srL u sL n) (I b)=some (.ptr (u+1,sL,30) 0 b.toNat):=xso b0 b1
 have e0:xql (xow (d+1)) hs 2 (.clo xk [.ptr (u,4,5) 0 0,.ptr (u,6,6) 0 0,.ptr (u,fq,8) 0 0]) [I b] m=x2u (xow d) hs m.next (I b) (.ptr (u,4,5) 0 0) (.ptr (u,6,6) 0 0) (.ptr (u,fq,8) 0 0) m0 0:=by
  show xow (d+1) hs xk _ m=_
  rw[xl4,hm0]
  rfl
 rw[e0]
 have G5:m0.get (u,4,5)=some (.row [srL u sL n] 0 false):=by rw[g0];exact t5
 have G6:m0.get (u,6,6)=some (.row [I g] 0 false):=by rw[g0];exact t6
 have GO:m0.get (u+1,sL,30)=some (.row (out.flatMap intE) 0 false):=by rw[g0];exact o
 have G8:m0.get (u,fq,8)=some (.row [a] 0 false):=by rw[g0];exact ta
 have hQ0:QRep (u+2) m0 a q:=hQ.frame λid _=>g0 id
 unfold addM
 simp only
 by_cases c:at0 out b.toNat<0
 .rw[x17u c]
  obtain⟨m1,hm1⟩:∃m1,m1=m0.set (u+1,sL,30) (.row ((out.set b.toNat g).flatMap intE) 0 false):=⟨_,rfl⟩
  have q1:∀id:Id,id≠(u+1,sL,30)->m1.get id=m0.get id:=λid hid=>by rw[hm1,Mem.get_set,x17t hid]
  have hQ1:QRep (u+2) m1 a q:=hQ0.frame λid hid=>q1 id (by rintro rfl;simp at hid)
  obtain⟨a',m2,A,hQ2,n2,q2⟩:=hQ1.app hq (id0:=(m.next,13,17)) (by show u+2<=m.next;omega) b
  obtain⟨idA,tA1,tA2⟩:=hQ1.tA (id0:=(m.next,13,17)) (by show u+2<=m.next;omega)
  obtain⟨c1,c2⟩:=hQ2.one
  obtain⟨m3,hm3⟩:∃m3,m3=m2.set (u,fq,8) (.row [a'] 0 false):=⟨_,rfl⟩
  have q3:∀id:Id,id≠(u,fq,8)->m3.get id=m2.get id:=λid hid=>by rw[hm3,Mem.get_set,x17t hid]
  refine⟨m3,?_,⟨?_,?_,?_,⟨a',by rw[hm3];simp,hQ2.frame λid hid=>q3 id (by rintro rfl;have:u+2<=u:=hid;omega)⟩,by simp[ol],?_⟩,?_,λid h1 h2 h3=>?_⟩
  .unfold x2u
   have H8:m1.get (u,fq,8)=some (.row [a] 0 false):=by rw[q1 _ (by simp)];exact G8
   have H82:m2.get (u,fq,8)=some (.row [a] 0 false):=by rw[q2 _ (by simp)];exact H8
   have hel:∀M:Mem,elems M.get 1 (.slit [I b] 1 true)=some (intE b,1):=λ_=>rfl
   have hst:xrq 1 0 0 a' (some (.row [a] 0 false))=some (.row [a'] 0 false):=by
    rw[xu9,c1];simp[c2]
   simp only[xqt,G5,G6,GO,xqx,x18o,xpf,x180,rd_f,xoy,ib,xvw hb,xq1,c,x184,xph,xs8]
   rw[xyt hb]
   simp only[xoy]
   rw[<-hm1]
   simp only[xqt,H8,xqx,x18o,xpf,x180,rd_f,xoy,xtl,xub,hel,A,xs8,H82,hst]
   rw[<-hm3]
  .rw[q3 _ (by simp),q2 _ (by simp),q1 _ (by simp)];exact G5
  .rw[q3 _ (by simp),q2 _ (by simp),q1 _ (by simp)];exact G6
  .rw[q3 _ (by simp),q2 _ (by simp),hm1];simp
  .rw[hm3,Mem.next_set,n2,hm1,Mem.next_set,hm0];simp only;omega
  .rw[hm3,Mem.next_set,n2,hm1,Mem.next_set,hm0];simp only;omega
  .rw[q3 id h3,q2 id h1,q1 id h2,g0]
 .rw[x17t c]
  refine⟨m0,?_,⟨G5,G6,GO,⟨a,G8,hQ0⟩,ol,by rw[hm0];simp only;omega⟩,by rw[hm0];simp only;omega,λid _ _ _=>g0 id⟩
  unfold x2u
  simp only[xqt,G5,G6,GO,xqx,x18o,xpf,x180,rd_f,xoy,ib,xvw hb,xq1,c,x185,xpl]
end Go.Ix
