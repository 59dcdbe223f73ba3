import Derived.Test.YtacloojepepcfaaWg0
import Derived.Test.YtacloojepepcfaaRows
import Derived.Test.YtacloojepepcfaaFxLaw
import Derived.Test.YtacloojepepcfaaFxSound
set_option linter.unusedSimpArgs false
namespace Go.Ix
open Go.Proofs
abbrev Ints(a:AV)(l:List Int):Prop:=Sl intE a l
def exI(t:List Int)(e:Edge):Int:=at0 t e.to.toNat-at0 t e.fr.toNat+e.jump
def TurnsIn(t:List Int):Prop:=∀x∈t,-1000000<=x/\x<=1000000
theorem TurnsIn.get{t:List Int}(h:TurnsIn t)(k:Nat):-1000000<=at0 t k/\at0 t k<=1000000:=by
 unfold at0
 rw[xnx]
 cases hk:t[k]? with
 |none=>simp
 |some x=>simpa using h x (xns hk)
structure EdgeIn (n:Nat) (e:Edge):Prop where
 f0:0<=e.fr
 f1:e.fr<n
 t0:0<=e.to
 t1:e.to<n
 j0:-1000<=e.jump
 j1:e.jump<=1000
 w0:0<=e.wt
 w1:e.wt<=1000
def xcr(p:Int->Bool):Int->List Int->Int
 |_,[]=>-1
 |k,x::r=>bif p x then k else xcr p (k+1) r
theorem xj3{p:Int->Bool}:∀{l:List Int} {k:Int},0<=k->(decide (0<=xcr p k l))=l.any p
 |[],k,_=>rfl
 |x::r,k,h=>by
  unfold xcr
  cases c:p x
  .simp only[cond_false,List.any_cons,c,Bool.false_or];exact xj3 (by omega)
  .simp[c,h]
def RetF(T:AV->Prop)(r:O2):Prop:=∃a m' a',r=some (a,m')/\frz m'.get deep a=some a'/\T a'
theorem RetF.st{T:AV->Prop}{a:AV}{m:Mem}(h:still a=true)(ht:T a):RetF T (some (a,m)):=⟨a,m,a,rfl,xet _ 4 h,ht⟩
theorem RetF.tup{T:AV->Prop}{l:List AV}{m:Mem}(h:l.all still=true)(ht:T (.tup l)):RetF T (some (.tup l,m)):=⟨_,m,_,rfl,frz_tup h,ht⟩
theorem RetF.mk{T:AV->Prop}{a a':AV}{m:Mem}(h:frz m.get deep a=some a')(ht:T a'):RetF T (some (a,m)):=⟨a,m,a',rfl,h,ht⟩
theorem callF{T:AV->Prop}{call:x7w}{f:FuncId}{l:List AV}(hl:l.all still=true)(h:RetF T (call [] f l mem0))(m:Mem):∃a,T a/\x7y call f l m=some (a,m):=by
 obtain⟨a,m',a',h1,h2,h3⟩:=h
 exact⟨a',h3,xda hl h1 h2⟩
theorem callV{v:AV}{call:x7w}{f:FuncId}{l:List AV}(hl:l.all still=true)(h:RetF (λa=>a=v) (call [] f l mem0))(m:Mem):x7y call f l m=some (v,m):=by
 obtain⟨a,h1,h2⟩:=callF hl h m
 rw[h2,h1]
theorem xj4{objs:Id->Option Ob}{a b a' b':AV}(ha:frz objs 5 a=some a')(hb:frz objs 5 b=some b'):frz objs deep (.tup [a,b])=some (.tup [a',b']):=by
 show([a,b].mapM (frz objs 5)).map AV.tup=_
 simp only[xnw,xoo,ha,hb]
 rfl
theorem frz_tup3{objs:Id->Option Ob}{a b c a' b' c':AV}(ha:frz objs 5 a=some a')(hb:frz objs 5 b=some b')(hc:frz objs 5 c=some c'):frz objs deep (.tup [a,b,c])=some (.tup [a',b',c']):=by
 show([a,b,c].mapM (frz objs 5)).map AV.tup=_
 simp only[xnw,xoo,ha,hb,hc]
 rfl
theorem Gr.frzk{α:Type}{z:Nat}{enc:α->List AV}{l:List α}{a:AV}(hz:∀x,(enc x).length=z)(hs:∀x,(enc x).all still1=true){u t k:Nat}{m:Mem}(h:Gr z enc u t m a l):∃a',Sl enc a' l/\Go.Ix.frz m.get (k+2) a=some a':=by
 rcases h with ⟨rfl,rfl⟩|⟨s,ver,rfl,hg⟩
 .exact⟨nilS,Or.inl ⟨rfl,rfl⟩,rfl⟩
 .have hl:=xaf hz l
  refine⟨.slit (l.flatMap enc) l.length false,Sl.lit l false,?_⟩
  have:=xco (objs:=m.get) (id:=(u,s,t)) (cs:=l.flatMap enc) (ver:=ver) (off:=0) (n:=l.length) (z:=z) (k:=k) (f:=false) (x:=true) hg (by omega) (by
   rw[xnc,xn9 (by omega)];exact xbj hs l)
  rw[xnc,xn9 (by omega)]at this
  exact this
theorem Gr.len{α:Type}{z:Nat}{enc:α->List AV}{l:List α}{a:AV}{u t:Nat}{m:Mem}{y e:TypeId}(ht:Try.prog.underlying y=some (.slice e))(h:Gr z enc u t m a l):sLen Try.prog y a=some (I l.length):=by
 rcases h with ⟨rfl,rfl⟩|⟨s,ver,rfl,hg⟩
 .exact xew ht
 .rfl
end Go.Ix
set_option maxRecDepth 100000
namespace Go.Proofs.Ytacloojepepcfaa
open Go.ChangeShapes Go.WideShapes Go.ChangeAt Go.RowKit Go.Ix
theorem Try.own:ownKnob Try.prog.godebug=none:=by kernel_rfl
theorem Try.laidOut:laidOutB Try.prog=true:=by kernel_rfl
theorem xe3{q:List AV}(h:Sh Try.prog x95 q):∃n,q=[I n]:=by
 obtain⟨n,h,-⟩:=Sh.int_inv (t:=x95) (k:=.i64) (by kernel_rfl) h
 exact⟨n,h⟩
theorem sl_sh{α:Type}{enc:α->List AV}{P:Program}{t e:TypeId}{z:AV}(ht:P.underlying t=some (.slice e))(hr:∀r,r.length=P.cellsOf e->Sh P e r->∃x,r=enc x)(f:Sh P t [z]):∃l,Sl enc z l:=by
 rcases Sh.slice_inv ht f with h1|⟨rows,x,h1,h2,h3,h4⟩
 .simp at h1;exact⟨[],Or.inl ⟨h1,rfl⟩⟩
 .obtain⟨l,rfl⟩:=xii (enc:=enc) λr hm=>hr r (h2 r hm) (h3 r hm)
  simp at h1
  exact⟨l,Or.inr ⟨x,by simpa[List.flatMap]using h1⟩⟩
theorem ints_sh{z:AV}(f:Sh Try.prog x7 [z]):∃l,Ints z l:=sl_sh (e:=x95) (by kernel_rfl) (λ_ _ hr=>xe3 hr) f
theorem fs_of5{t:TypeId}{l:List (TypeId×Nat)}(h:(match Try.prog.underlying t with|some (.struct fs)=>some (fs.toList.map λf=>(f.type,f.offset))|_=>none)=some l):∃fs,Try.prog.underlying t=some (.struct fs)/\(fs.toList.map λf=>(f.type,f.offset))=l:=by
 split at h
 .rename_i fs e
  exact⟨fs,e,xo8 h⟩
 .cases h
theorem map5_in{a:AV}(h:ArgSh Try.prog xp a):∃r c p l,a=.agg [I r,I c,p]/\Ints p l:=by
 obtain⟨fs,h1,h2⟩:=fs_of5 (t:=xp) (l:=[(x95,0),(x95,1),(x7,2)]) (by kernel_rfl)
 obtain⟨q,rfl,hq⟩:=h.struct h1
 obtain⟨hl,hff⟩:=Sh.struct_inv h1 hq
 have hc:Try.prog.cellsOf xp=3:=by kernel_rfl
 have hc1:Try.prog.cellsOf x95=1:=by kernel_rfl
 have hc2:Try.prog.cellsOf x7=1:=by kernel_rfl
 rw[hc]at hl
 match q,hl with
 |[x,y,z],_=>
  have:∀p∈fs.toList.map (λf=>(f.type,f.offset)),Sh Try.prog p.1 (([x,y,z].drop p.2).take (Try.prog.cellsOf p.1)):=λp hp=>by
   obtain⟨f,hf,rfl⟩:=xnf.mp hp
   exact hff f hf
  rw[h2]at this
  have a0:=this _ (xnd ..)
  have a1:=this (x95,1) (by simp)
  have a2:=this (x7,2) (by simp)
  simp only[hc1,hc2,xnc,List.take_succ_cons,xpo,List.drop_succ_cons]at a0 a1 a2
  obtain⟨r,hr⟩:=xe3 a0
  obtain⟨c,hc⟩:=xe3 a1
  obtain⟨l,hl⟩:=ints_sh a2
  simp at hr hc
  exact⟨r,c,z,l,by rw[hr,hc],hl⟩
theorem two5_in{a:AV}(h:ArgSh Try.prog x64 a):∃x y,a=.agg [I x,I y]:=by
 have ht:Try.prog.underlying x64=some (.array 2 x95):=by kernel_rfl
 obtain⟨l,rfl,hs⟩:=h.array ht
 have hc:Try.prog.cellsOf x64=2:=by kernel_rfl
 have hci:Try.prog.cellsOf x95=1:=by kernel_rfl
 cases hs with
 |array h' _ hl hf=>
  rw[ht]at h';cases h'
  rw[hc]at hl
  match l,hl with
  |[x,y],_=>
   have a0:=hf 0 (by omega)
   have a1:=hf 1 (by omega)
   simp[hci]at a0 a1
   obtain⟨p,hp⟩:=xe3 a0
   obtain⟨q,hq⟩:=xe3 a1
   simp at hp hq
   exact⟨p,q,by rw[hp,hq]⟩
 |string h'=>rw[ht]at h';cases h'
 |int h'=>rw[ht]at h';cases h'
 |nilS h'=>rw[ht]at h';cases h'
 |slice h'=>rw[ht]at h';cases h'
 |bool h'=>rw[ht]at h';cases h'
 |float h'=>rw[ht]at h';cases h'
 |struct h'=>rw[ht]at h';cases h'
end Go.Proofs.Ytacloojepepcfaa
namespace Go.Ix
variable{R:Type}{m:Mem}
theorem xag:∀l:List Int,l.flatMap intE=l.map I
 |[]=>rfl
 |x::l=>by rw[xo1,xag l];rfl
theorem xar(l:List Int):(l.flatMap intE).length=l.length:=by rw[xag];simp
def OwnI(m:Mem)(id:Id)(l:List Int):Prop:=m.get id=some (.row (l.flatMap intE) 0 false)
abbrev srI(id:Id)(n:Nat):AV:=.sref id 0 0 n 1 true
theorem ix_own{id:Id}{n:Nat}{k:Int}(h0:0<=k)(hk:k<n):sIx 1 (srI id n) (I k)=some (.ptr id 0 k.toNat):=by
 simp[sIx,asI,h0,hk]
@[simp high] theorem ldRow_int{l:List Int}{k:Nat}{fz:Bool}(hk:k<l.length):xcn false 1 0 k (some (.row (l.flatMap intE) 0 fz))=some (I (at0 l k)):=by
  simp only[xcn,Nat.beq_refl,cond_true,rd,xnm,xne]
  rw[xag,<-xpj,xd9 hk,x8j hk]
  rfl
@[simp high] theorem stRow_int{l:List Int}{k:Nat}{v:Int}(hk:k<l.length):stRow 1 0 k (I v) (some (.row (l.flatMap intE) 0 false))=some (.row ((l.set k v).flatMap intE) 0 false):=by
  have h:(0:Nat)=0/\(I v).cells.length=1/\k+1<=(l.flatMap intE).length/\((I v).cells.all AV.one)=true:=⟨rfl,rfl,by rw[xar];omega,rfl⟩
  rw[xgb,xny h,cond_true]
  simp only[xag,x8b,cells_I]
  congr 2
  rw[List.map_set,xqq,xmv (by simpa using hk)]
  simp
end Go.Ix
namespace Go.Ix
open Go.Proofs
variable{α:Type}{z:Nat}{enc:α->List AV}{l:List α}{a:AV}
def Gq{α:Type}(z:Nat)(enc:α->List AV)(u:Nat)(T:List Nat)(m:Mem)(a:AV)(l:List α):Prop:=
 (a=nilS/\l=[])\/∃s t ver,t∈T/\a=.sref (u,s,t) ver 0 l.length z true/\m.get (u,s,t)=some (.row (l.flatMap enc) ver false)
theorem Gq.nil{u:Nat}{T:List Nat}{m:Mem}:Gq z enc u T m nilS []:=Or.inl ⟨rfl,rfl⟩
theorem Gq.frame{u:Nat}{T:List Nat}{m m':Mem}(h:Gq z enc u T m a l)(hm:∀s t,t∈T->m'.get (u,s,t)=m.get (u,s,t)):Gq z enc u T m' a l:=by
 rcases h with h|⟨s,t,ver,h0,h1,h2⟩
 .exact Or.inl h
 .exact Or.inr ⟨s,t,ver,h0,h1,by rw[hm _ _ h0];exact h2⟩
theorem Gq.app(hz:∀x,(enc x).length=z)(h0:0<z){u t0 s0 bytes:Nat}{T:List Nat}{m:Mem}(ht:t0∈T)(hr:x83 (l.length+1) bytes)(h:Gq z enc u T m a l)(x:α) :
 ∃a' m',(∀{R:Type} (k:AV->Mem->Option R),sApp z bytes (u,s0,t0) (some (enc x,1)) a m k=k a' m')/\Gq z enc u T m' a' (l++[x])/\m'.next=m.next/\∀j:Id,j.2.2∉T->m'.get j=m.get j:=by
 rcases h with ⟨rfl,rfl⟩|⟨s,t,ver,h1,rfl,hg⟩
 .refine⟨.sref (u,s0,t0) 0 0 1 z true,m.new (u,s0,t0) (.row (enc x) 0 false),λk=>?_,Or.inr ⟨s0,t0,0,ht,rfl,by simp⟩,rfl,λj hj=>?_⟩
  .simp only[sApp]
   rw[xmw (by omega),xmv (by simpa using hr)]
  .rw[Mem.get_new,xmw (by rintro rfl;exact hj ht)]
 .have hl:=xaf hz l
  refine⟨.sref (u,s,t) (ver+1) 0 (l.length+1) z true,m.set (u,s,t) (.row (l.flatMap enc++enc x) (ver+1) false),λk=>?_,Or.inr ⟨s,t,ver+1,h1,by simp,by simp⟩,rfl,λj hj=>?_⟩
  .simp only[sApp,hg]
   rw[xmv ⟨trivial,trivial,by omega,hr⟩,xmw (by omega),xmw (by rw[hl,xnu];omega),xnc,xn9 (by omega)]
  .rw[Mem.get_set,xmw (by rintro rfl;exact hj h1)]
theorem Gq.frz(hz:∀x,(enc x).length=z)(hs:∀x,(enc x).all still1=true){u:Nat}{T:List Nat}{m:Mem}(h:Gq z enc u T m a l):∃a',Sl enc a' l/\Go.Ix.frz m.get deep a=some a':=by
 rcases h with ⟨rfl,rfl⟩|⟨s,t,ver,_,rfl,hg⟩
 .exact⟨nilS,Or.inl ⟨rfl,rfl⟩,rfl⟩
 .have hl:=xaf hz l
  refine⟨.slit (l.flatMap enc) l.length false,Sl.lit l false,?_⟩
  have:=xco (objs:=m.get) (id:=(u,s,t)) (cs:=l.flatMap enc) (ver:=ver) (off:=0) (n:=l.length) (z:=z) (k:=4) (f:=false) (x:=true) hg (by omega) (by
   rw[xnc,xn9 (by omega)];exact xbj hs l)
  rw[xnc,xn9 (by omega)]at this
  exact this
theorem Gq.atI{u:Nat}{T:List Nat}{m:Mem}{l:List Int}(h:Gq 1 intE u T m a l){k:Int}(h0:0<=k)(hk:k<l.length):∃p,sIx 1 a (I k)=some p/\sLd false 1 p m=some (I (at0 l k.toNat)):=by
 rcases h with ⟨rfl,rfl⟩|⟨s,t,ver,_,rfl,hg⟩
 .simp at hk;omega
 .refine⟨.ptr (u,s,t) ver k.toNat,by simp[sIx,asI,h0,hk],?_⟩
  rw[xgd,hg]
  simp only[xcn,Nat.beq_refl,cond_true,rd,xnm,xne]
  rw[xag,<-xpj,xd9 (by omega),x8j (by omega)]
  rfl
theorem Gq.len{u:Nat}{T:List Nat}{m:Mem}{t e:TypeId}(ht:Try.prog.underlying t=some (.slice e))(h:Gq z enc u T m a l):sLen Try.prog t a=some (I l.length):=by
 rcases h with ⟨rfl,rfl⟩|⟨s,t,ver,_,rfl,hg⟩
 .exact xew ht
 .rfl
def xge(call:x7w)(f:AV)(id:Id)(o:Ob)(p:Int->Bool):Prop:=∀(hs:FHs) (x:Int) (m:Mem),m.get id=some o->∃n,xb4 call hs 2 f [I x] m=some (B (p x),⟨m.hp,n⟩)
theorem xl8(d:Nat)(hs:FHs){a f:AV}{l:List Int}{p:Int->Bool}{id:Id}{o:Ob}(h:Ints a l)(hl:l.length<1000000)(hf:xge (x7v d) f id o p)(u:Nat):∀(suf:List Int) (k j:Nat) (m:Mem) (fc:Nat),l.drop k=suf->suf.length<j->m.get id=some o ->
 ∃n,x1q (x7v d) hs u j a f (I l.length) (I k) m fc=some (I (xcr p k suf),⟨m.hp,n⟩):=by
 intro suf
 induction suf with
 |nil=>
  intro k j m fc hd hj hg
  obtain⟨j,rfl⟩:∃i,j=i+1:=⟨j-1,by simp at hj;omega⟩
  have hk:¬((k:Int)<(l.length:Int)):=by have:=xp5.mp hd;omega
  simp only[x1q]
  unfold x3l
  simp[hk,x60,xcr]
  exact⟨m.next,rfl⟩
 |cons x r ih=>
  intro k j m fc hd hj hg
  obtain⟨j,rfl⟩:∃i,j=i+1:=⟨j-1,by simp at hj;omega⟩
  obtain⟨hk,hke,hd⟩:=xe0 hd
  have hk':(k:Int)<(l.length:Int):=by omega
  have ix:=h.ix x8n hk
  have e1:at0 l k=x:=by rw[x8j hk,hke]
  obtain⟨n1,h1⟩:=hf hs x m hg
  obtain⟨n2,h2⟩:=ih (k+1) j ⟨m.hp,n1⟩ (fc+11) hd (by simp at hj;omega) hg
  simp only[x1q]
  unfold x3l
  simp(disch:=omega) [hk',ix,xa7,e1,h1,xcr]
  cases c:p x
  .simp(disch:=omega)
   exact⟨n2,h2⟩
  .simp
theorem xl9(d:Nat)(hs:FHs){a f:AV}{l:List Int}{p:Int->Bool}{id:Id}{o:Ob}(h:Ints a l)(hl:l.length<1000000)(hf:xge (x7v d) f id o p)(m:Mem)(hg:m.get id=some o):∃n,x7v (d+2) hs x18 [a,f] m=some (B (l.any p),⟨m.hp,n⟩):=by
 obtain⟨n,h'⟩:=xl8 d hs h hl hf (m.next+1) l 0 NN ⟨m.hp,m.next+1+1⟩ 4 rfl (by rw[x9s];omega) hg
 refine⟨n,?_⟩
 rw[x6w]
 unfold x4b x3j
 have h2:x7v (d+1) hs x12 [a,f] ⟨m.hp,m.next+1⟩=some (I (xcr p 0 l),⟨m.hp,n⟩):=by
  rw[x6y]
  unfold x3r x3m x61
  simp[h.len x8q]
  exact h'
 simp only[h2,xpd,sGe_I,xj3 (xp8 0)]
end Go.Ix
set_option linter.unusedVariables false
namespace Go.Ix
open Go.Proofs
variable{α:Type}{z:Nat}{enc:α->List AV}{l:List α}{a:AV}
def Gk{α:Type}(z:Nat)(enc:α->List AV)(ok:Id->Prop)(m:Mem)(a:AV)(l:List α):Prop:=
 (a=nilS/\l=[])\/∃id ver,ok id/\a=.sref id ver 0 l.length z true/\m.get id=some (.row (l.flatMap enc) ver false)
theorem Gk.nil{ok:Id->Prop}{m:Mem}:Gk z enc ok m nilS []:=Or.inl ⟨rfl,rfl⟩
theorem Gk.frame{ok:Id->Prop}{m m':Mem}(h:Gk z enc ok m a l)(hm:∀id,ok id->m'.get id=m.get id):Gk z enc ok m' a l:=by
 rcases h with h|⟨id,ver,h0,h1,h2⟩
 .exact Or.inl h
 .exact Or.inr ⟨id,ver,h0,h1,by rw[hm _ h0];exact h2⟩
theorem Gk.app(hz:∀x,(enc x).length=z)(h0:0<z){bytes:Nat}{ok:Id->Prop}{id0:Id}{m:Mem}(ht:ok id0)(hr:x83 (l.length+1) bytes)(h:Gk z enc ok m a l)(x:α) :
 ∃a' m',(∀{R:Type} (k:AV->Mem->Option R),sApp z bytes id0 (some (enc x,1)) a m k=k a' m')/\Gk z enc ok m' a' (l++[x])/\a'.cells=[a']/\a'.one=true/\m'.next=m.next/\∀j:Id,¬ok j->m'.get j=m.get j:=by
 rcases h with ⟨rfl,rfl⟩|⟨id,ver,h1,rfl,hg⟩
 .refine⟨.sref id0 0 0 1 z true,m.new id0 (.row (enc x) 0 false),λk=>?_,Or.inr ⟨id0,0,ht,rfl,by simp⟩,rfl,rfl,rfl,λj hj=>?_⟩
  .simp only[sApp]
   rw[xmw (by omega),xmv (by simpa using hr)]
  .rw[Mem.get_new,xmw (by rintro rfl;exact hj ht)]
 .have hl:=xaf hz l
  refine⟨.sref id (ver+1) 0 (l.length+1) z true,m.set id (.row (l.flatMap enc++enc x) (ver+1) false),λk=>?_,Or.inr ⟨id,ver+1,h1,by simp,by simp⟩,rfl,rfl,rfl,λj hj=>?_⟩
  .simp only[sApp,hg]
   rw[xmv ⟨trivial,trivial,by omega,hr⟩,xmw (by omega),xmw (by rw[hl,xnu];omega),xnc,xn9 (by omega)]
  .rw[Mem.get_set,xmw (by rintro rfl;exact hj h1)]
theorem Gk.one{ok:Id->Prop}{m:Mem}(h:Gk z enc ok m a l):a.cells=[a]/\a.one=true:=by
 rcases h with ⟨rfl,rfl⟩|⟨id,ver,h1,rfl,hg⟩<;>exact⟨rfl,rfl⟩
theorem Gk.frz(hz:∀x,(enc x).length=z)(hs:∀x,(enc x).all still1=true){ok:Id->Prop}{k:Nat}{m:Mem}(h:Gk z enc ok m a l):∃a',Sl enc a' l/\Go.Ix.frz m.get (k+2) a=some a':=by
 rcases h with ⟨rfl,rfl⟩|⟨id,ver,_,rfl,hg⟩
 .exact⟨nilS,Or.inl ⟨rfl,rfl⟩,rfl⟩
 .have hl:=xaf hz l
  refine⟨.slit (l.flatMap enc) l.length false,Sl.lit l false,?_⟩
  have:=xco (objs:=m.get) (id:=id) (cs:=l.flatMap enc) (ver:=ver) (off:=0) (n:=l.length) (z:=z) (k:=k) (f:=false) (x:=true) hg (by omega) (by
   rw[xnc,xn9 (by omega)];exact xbj hs l)
  rw[xnc,xn9 (by omega)]at this
  exact this
theorem call1{call:x7w}{f:FuncId}{l:List AV}{m m':Mem}{r:AV}(hl:l.all clean=true)(h:call [] f l ⟨[],m.next⟩=some (r,m')) :
 ∃M:Mem,xck call f l m=some (r,M)/\M.next=m'.next/\∀i:Id,M.get i=if m.next<=i.1 then m'.get i else m.get i:=by
 refine⟨⟨(m'.hp.filter λe=>Nat.ble m.next e.1)++(m.hp.filter λe=>Nat.blt e.1 m.next),m'.next⟩,?_,rfl,λi=>congrFun (xio m'.hp m.hp m.next) i⟩
 unfold xck
 rw[xmv hl,h]
theorem xj5{id:Id}{l k:List Int}{rest:List AV}{m:Mem}(hg:m.get id=some (.row (l.flatMap intE++rest) 0 false))(hk:k.length<=rest.length)(hr:x83 (l.length+k.length) 8) :
 ∃m',(∀(id0:Id) {R:Type} (K:AV->Mem->Option R),sApp 1 8 id0 (some (k.flatMap intE,k.length)) (.sref id 0 0 l.length 1 true) m K=K (.sref id 0 0 (l++k).length 1 true) m')/\m'.get id=some (.row ((l++k).flatMap intE++rest.drop k.length) 0 false)/\m'.next=m.next:=by
 have h1:=xar l
 have h2:=xar k
 have hc:True/\True/\0+l.length*1<=(l.flatMap intE++rest).length/\x83 (l.length+k.length) 8:=⟨trivial,trivial,by simp[h1],hr⟩
 by_cases h0:k.length=0
 .refine⟨m,λid0 R K=>?_,?_,rfl⟩
  .simp only[sApp,hg]
   rw[xmv hc,xmv h0]
   simp[h0]
  .rw[hg];rw[xol.mp h0];simp
 .refine⟨m.set id (.row ((l++k).flatMap intE++rest.drop k.length) 0 false),λid0 R K=>?_,by simp,rfl⟩
  simp only[sApp,hg]
  rw[xmv hc,xmw h0,xmv (by simp only[xo9,h1];omega)]
  simp only[xo9]
  congr 3
  simp only[x8b,xng,xoa,List.flatMap_append]
  rw[xqk (by omega),xn9 (by omega),xq4,h1,h2,xp6 (by omega),xof,xqn,show l.length+k.length-l.length=k.length by omega]
theorem cap_nil:x9b Try.prog .cap #[x7] x95 [nilS]=some (I 0):=by kernel_rfl
theorem xla:x98 Try.prog x7 nilS none (some (I 0))=some nilS:=by kernel_rfl
theorem xex:∃i,Try.prog.info? x95=some i/\i.size=1:=by
 have h:(Try.prog.info? x95).map (λi=>i.size)=some 1:=by kernel_rfl
 obtain⟨i,h1,h2⟩:=xmz.mp h
 exact⟨i,h1,h2⟩
theorem xlb{id:Id}{ver off n:Nat}{full:Bool}{lo hi:Int}(h0:0<=lo)(h1:lo<=hi)(h2:hi<=n)(hf:full=true:=by rfl):x98 Try.prog x7 (.sref id ver off n 1 full) (some (I lo)) (some (I hi))=some (.sref id ver (off+lo.toNat) (hi-lo).toNat 1 full):=by
 obtain⟨i,e1,e2⟩:=xex
 simp only[x98,x85,x8q,e1,asI,Option.getD_some]
 rw[xmv ⟨h0,h1,h2,e2.symm,.inl hf⟩,xoa]
theorem slice_hi{id:Id}{ver off n:Nat}{full:Bool}{hi:Int}(h1:0<=hi)(h2:hi<=n)(hf:full=true:=by rfl):x98 Try.prog x7 (.sref id ver off n 1 full) none (some (I hi))=some (.sref id ver off hi.toNat 1 full):=by
 obtain⟨i,e1,e2⟩:=xex
 simp only[x98,x85,x8q,e1,asI,Option.getD_some,Option.getD_none]
 rw[xmv ⟨by omega,h1,h2,e2.symm,.inl hf⟩]
 simp
theorem slice_lo{id:Id}{ver off n:Nat}{full:Bool}{lo:Int}(h0:0<=lo)(h2:lo<=n):x98 Try.prog x7 (.sref id ver off n 1 full) (some (I lo)) none=some (.sref id ver (off+lo.toNat) (n-lo.toNat) 1 full):=by
 obtain⟨i,e1,e2⟩:=xex
 simp only[x98,x85,x8q,e1,asI,Option.getD_some,Option.getD_none]
 rw[xmv ⟨h0,by omega,by omega,e2.symm,.inr trivial⟩,xoa,show((n:Int)-lo).toNat=n-lo.toNat by omega]
theorem at0_right{l k:List Int}{i:Nat}:at0 (l++k) (l.length+i)=at0 k i:=by
 unfold at0
 simp only[xnx]
 rw[xos (by omega),show l.length+i-l.length=i by omega]
end Go.Ix
