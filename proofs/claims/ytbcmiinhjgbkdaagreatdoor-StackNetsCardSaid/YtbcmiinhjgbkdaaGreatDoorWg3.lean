import Derived.Test.YtbcmiinhjgbkdaaGreatDoorWg1
import Derived.Laws.StructEq
import Derived.Test.YtbcmiinhjgbkdaaGreatDoorWg2
import Derived.Test.YtbcmiinhjgbkdaaGreatDoorRows
import Derived.Test.YtbcmiinhjgbkdaaGreatDoorFxLaw
set_option linter.unusedSimpArgs false
set_option linter.unusedVariables false
namespace Go.Ix
open Go.Proofs
variable{P:Program}
theorem x13d{α β:Type}(f:α->Sem β):∀s:Sem α,x10w P (s >>= f)=(x10w P s).bind λa=>x10w P (f a):=by
 intro s
 show x10w P (Sem.bind s f)=_
 induction s with
 |pure a=>rfl
 |program k ih=>exact ih P
 |mark x k ih=>exact ih
 |_=>rfl
theorem x16b{α:Type}(a:α):x10w P (pure a:Sem α)=some a:=rfl
theorem x1aw:x10w P program=some P:=rfl
theorem x1ax{t:TypeId}{d:TypeDesc}(h:P.underlying t=some d):x10w P (underlying t)=some d:=by
 simp only[underlying,x13d,x1aw,x10r,h]
 rfl
theorem x1e2(d:Nat)(t:TypeId)(xs ys:Array Value)(ht:P.underlying t=some (.struct (P.fieldsOf t)))(hp:P.stoodInHeld t=false) :
 x10w P (Op.equalIn (d+1) t (.agg xs) (.agg ys))=x10w P (Op.eqFields d xs ys (P.fieldsOf t).toList):=by
 simp only[Op.equalIn,x13d,x1ax ht,x10r,x1aw,hp,x1mp,x1mg]
 rw[<-Array.forIn_toList]
 generalize (P.fieldsOf t).toList=fs
 clear ht
 induction fs with
 |nil=>simp[Op.eqFields,x16b]
 |cons f fs ih=>
  simp only[List.forIn_cons,Op.eqFields,x13d]
  split
  .simp only[x13d]
   generalize x10w P (part f.type xs f.offset)=r1
   cases r1 with
   |none=>rfl
   |some a=>
    generalize hb:x10w P (part f.type ys f.offset)=r2
    cases r2 with
    |none=>simp[hb]
    |some b=>
     simp only[hb,x10r]
     generalize x10w P (Op.equalIn d f.type a b)=r3
     cases r3 with
     |none=>rfl
     |some r=>
      cases r
      .rfl
      .exact ih
  .exact ih
theorem x1e3(d:Nat)(t:TypeId)(k k':IntKind)(a b:Int)(h:P.underlying t=some (.int k')):x10w P (Op.equalIn (d+1) t (.int k a) (.int k b))=some (a == b):=by
 simp[Op.equalIn,x13d,x1ax h,x16b]
theorem x1e4(op:BinOp)(t:TypeId)(x y:Operand)(xs ys:Array Value)(hm:P.eqGuardType P.depth t=false):x10w P (eqGuard op t x y (.agg xs) (.agg ys))=some ():=by
 cases op<;>simp[eqGuard,x13d,x1aw,x16b,hm]
theorem x1e5{t:TypeId}{x y:Operand}{xs ys:List Value}{r:Bool}(hm:P.eqGuardType P.depth t=false)(hr:x10w P (Op.equalIn 10000 t (.agg xs.toArray) (.agg ys.toArray))=some r)(hx:∃k,scs k=some xs) :
 ∀kx ky,scs kx=some xs->scs ky=some ys->sBin P .neq t x y (.agg kx) (.agg ky)=some (B (!r)):=by
 intro kx ky h1 h2
 refine sBin_0 ?_
 simp only[bin0,x118,h1,h2,x13d,x1e4 _ _ _ _ _ _ hm,x10r]
 have:x10w P (binOp .neq t (.agg xs.toArray) (.agg ys.toArray))=some (.bool (!r)):=by
  show x10w P (do pure (Value.bool (!(<-Op.equal t (.agg xs.toArray) (.agg ys.toArray)))))=_
  simp only[x13d,Op.equal,Op.maxDepth,hr,x10r,x16b]
 rw[this];rfl
theorem x1gx{t:TypeId}{x y:Operand}{xs ys:List Value}{r:Bool}(hm:P.eqGuardType P.depth t=false)(hr:x10w P (Op.equalIn 10000 t (.agg xs.toArray) (.agg ys.toArray))=some r) :
 ∀kx ky,scs kx=some xs->scs ky=some ys->sBin P .eql t x y (.agg kx) (.agg ky)=some (B r):=by
 intro kx ky h1 h2
 refine sBin_0 ?_
 simp only[bin0,x118,h1,h2,x13d,x1e4 _ _ _ _ _ _ hm,x10r]
 have:x10w P (binOp .eql t (.agg xs.toArray) (.agg ys.toArray))=some (.bool r):=by
  show x10w P (do pure (Value.bool (<-Op.equal t (.agg xs.toArray) (.agg ys.toArray))))=_
  simp only[x13d,Op.equal,Op.maxDepth,hr,x10r,x16b]
 rw[this];rfl
theorem und_int:Tryz.prog.underlying x111=some (.int .i64):=by kernel_rfl
theorem x1e6(d:Nat)(xs ys:Array Value)(ga gb:Nat->Int):∀fs:List Field,(∀f∈fs,f.name≠"_"/\f.type=x111/\x10w Tryz.prog (part x111 xs f.offset)=some (.int .i64 (ga f.offset))/\x10w Tryz.prog (part x111 ys f.offset)=some (.int .i64 (gb f.offset))) ->
 x10w Tryz.prog (Op.eqFields (d+1) xs ys fs)=some (fs.all λf=>ga f.offset == gb f.offset)
 |[],_=>rfl
 |f::fs,h=>by
  obtain⟨h1,h2,h3,h4⟩:=h f (x1mr ..)
  have ih:=x1e6 d xs ys ga gb fs λg hg=>h g (x1me _ hg)
  simp only[Op.eqFields,h1,ne_eq,not_false_eq_true,x1mo,h2,x13d,h3,h4,x10r,x1e3 _ _ _ _ _ _ und_int,x1n4]
  cases ga f.offset == gb f.offset
  .rfl
  .exact ih
theorem eq_ints{t:TypeId}{offs:List Nat}{xs ys:Array Value}{ga gb:Nat->Int}(hS:Tryz.prog.underlying t=some (.struct (Tryz.prog.fieldsOf t)))(hs:Tryz.prog.stoodInHeld t=false)(hF:((Tryz.prog.fieldsOf t).toList.map λf=>(f.type,f.offset,decide (f.name = "_")))=offs.map λo=>(x111,o,false))(hp:∀o∈offs,x10w Tryz.prog (part x111 xs o)=some (.int .i64 (ga o))/\x10w Tryz.prog (part x111 ys o)=some (.int .i64 (gb o))) :
 x10w Tryz.prog (Op.equalIn 10000 t (.agg xs) (.agg ys))=some (offs.all λo=>ga o == gb o):=by
 rw[show(10000:Nat)=9998+1+1 from rfl,x1e2 _ _ _ _ hS hs]
 generalize (Tryz.prog.fieldsOf t).toList=fs at hF
 rw[x1e6 9998 xs ys ga gb fs]
 .have:(fs.map λf=>f.offset)=offs:=by
   have:=congrArg (List.map λx:TypeId×Nat×Bool=>x.2.1) hF
   simpa[List.map_map,Function.comp_def]using this
  rw[<-this,List.all_map]
  rfl
 .intro f hf
  have h1:(f.type,f.offset,decide (f.name = "_"))∈offs.map λo=>(x111,o,false):=by
   rw[<-hF];exact List.mem_map_of_mem hf
  obtain⟨o,ho,e⟩:=x1mz.mp h1
  simp only[x1m2]at e
  obtain⟨e1,e2,e3⟩:=e
  subst e2
  exact⟨of_decide_eq_false e3.symm,e1.symm,hp _ ho⟩
structure Pq where
 a:Int
 b:Int
def Pq.c(p:Pq):List AV:=[I p.a,I p.b]
theorem Pq.len(p:Pq):p.c.length=2:=rfl
theorem Pq.still(p:Pq):p.c.all still1=true:=rfl
theorem x130:Tryz.prog.underlying x8=some (.slice xa):=by kernel_rfl
theorem x16c:xd=[I 0,I 0]:=by kernel_rfl
def Pq.same(p q:Pq):Bool:=decide (p.a=q.a)&&decide (p.b=q.b)
theorem Pq.same_iff{a b:Pq}:a.same b=true↔a=b:=by
 cases a;cases b
 simp[Pq.same]
theorem Pq.same_self(a:Pq):a.same a=true:=Pq.same_iff.2 rfl
theorem part27(w0 w1:Int):∀o∈[0,1],x10w Tryz.prog (part x111 #[.int .i64 w0,.int .i64 w1] o)=some (.int .i64 ([w0,w1].getD o 0)):=by
 intro o ho
 simp only[x1ma,x1nw,or_false]at ho
 rcases ho with rfl|rfl<;>kernel_rfl
theorem x1ay(p q:Pq):x10w Tryz.prog (Op.equalIn 10000 xa (.agg [.int .i64 p.a,.int .i64 p.b].toArray) (.agg [.int .i64 q.a,.int .i64 q.b].toArray))=some (p.same q):=by
 refine(eq_ints (offs:=[0,1]) (ga:=λo=>[p.a,p.b].getD o 0) (gb:=λo=>[q.a,q.b].getD o 0) (by kernel_rfl) (by kernel_rfl) (by kernel_rfl) λo ho=>⟨part27 _ _ o ho,part27 _ _ o ho⟩).trans ?_
 simp[Pq.same,List.getD]
 by_cases h0:p.a=q.a<;>by_cases h1:p.b=q.b<;>simp[h0,h1]
theorem ne_pair(x y:Operand)(p q:Pq):sBin Tryz.prog .neq xa x y (.agg p.c) (.agg q.c)=some (B (!(p.same q))):=
 x1e5 (xs:=[.int .i64 p.a,.int .i64 p.b]) (ys:=[.int .i64 q.a,.int .i64 q.b]) (by kernel_rfl) (x1ay p q) ⟨p.c,rfl⟩ _ _ rfl rfl
theorem eq_pair7(x y:Operand)(p q:Pq):sBin Tryz.prog .eql xa x y (.agg p.c) (.agg q.c)=some (B (p.same q)):=
 x1gx (xs:=[.int .i64 p.a,.int .i64 p.b]) (ys:=[.int .i64 q.a,.int .i64 q.b]) (by kernel_rfl) (x1ay p q) _ _ rfl rfl
theorem x1gy(call:x10m)(hs:FHs)(u:Nat){a b:AV}{l:List Pq}(ha:Sl Pq.c a l)(hb:Sl Pq.c b l)(hl:l.length<1000000):∀(suf:List Pq) (k j:Nat) (m:Mem) (fc:Nat),l.drop k=suf->suf.length<j ->
 x31 call hs u j a b (I k) m fc=some (B true,m):=by
 intro suf
 induction suf with
 |nil=>
  intro k j m fc hd hj
  obtain⟨j,rfl⟩:∃i,j=i+1:=⟨j-1,by simp at hj;omega⟩
  have hk:¬((k:Int)<(l.length:Int)):=by have:=x1na.mp hd;omega
  simp only[x31]
  unfold x7h
  simp[ha.len x130,hk,xbh]
 |cons e r ih=>
  intro k j m fc hd hj
  obtain⟨j,rfl⟩:∃i,j=i+1:=⟨j-1,by simp at hj;omega⟩
  obtain⟨hk,he,hd⟩:=x13a hd
  have hk':(k:Int)<(l.length:Int):=by omega
  have ix:=ha.ix Pq.len hk
  have ix2:=hb.ix Pq.len hk
  have ld:=x15l (m:=m) Pq.len (by omega) hk
  have h':=ih (k+1) j m (fc+16) hd (by simp at hj;omega)
  simp only[x31]
  unfold x7h
  simp only[ha.len x130,x10r,x11t,hk',x1m6,x112,ix,ix2,ld,ne_pair,Pq.same_self,x1mh,x116]
  simp(disch:=omega) [x11k]
  simpa using h'
theorem x1gz(d:Nat){a b:AV}{l:List Pq}(ha:Sl Pq.c a l)(hb:Sl Pq.c b l)(hl:l.length<1000000)(m:Mem):x10o (x10p (d+1)) x25 [a,b] m=some (B true,m):=by
 refine call0 (by simp[ha.still,hb.still]) (m':=⟨[],1⟩) ?_ rfl
 rw[xum]
 have:=x1gy (x10p d) [] 0 ha hb hl l 0 NN ⟨[],1⟩ 7 rfl (by rw[x12a];omega)
 unfold x9d x7i xbi
 simp[ha.len x130,hb.len x130,mem0]
 exact this
def InB(l:List Scene):Prop:=∀s∈l,(0<=s.day/\s.day<=100000)/\(-100000<=s.bl/\s.bl<=100000)
theorem x1e7{l:List Scene}:∀(suf:List Scene) (k:Nat),(x12t l k suf).2=0->InB suf
 |[],_,_=>λs h=>by cases h
 |x::r,k,h=>by
  simp only[x12t]at h
  cases hn:nmOK x.nm with
  |false=>simp[hn]at h
  |true=>
   cases ha:(l.take k).any λy=>teq y.nm x.nm with
   |true=>simp[hn,ha]at h
   |false=>
    cases hw:wi x.day 0 100000 with
    |false=>simp[hn,ha,hw]at h
    |true=>
     cases hw2:wi x.bl (-100000) 100000 with
     |false=>simp[hn,ha,hw,hw2]at h
     |true=>
      simp[hn,ha,hw,hw2]at h
      have ih:=x1e7 r (k+1) h
      intro s hs
      rcases x1ma.mp hs with rfl|hs
      .exact⟨wi_t hw,wi_t hw2⟩
      .exact ih s hs
theorem x1az{l:List Scene}(h:(x12u l).2=0):l.length<=60/\InB l:=by
 unfold x12u at h
 by_cases hl:60<l.length
 .simp[hl]at h
 .simp[hl]at h
  exact⟨by omega,x1e7 l 0 h⟩
structure Sp where
 p:Int
 s:Int
def Sp.c(x:Sp):List AV:=[I x.p,I x.s]
theorem Sp.len(x:Sp):x.c.length=2:=rfl
theorem Sp.still(x:Sp):x.c.all still1=true:=rfl
def prAt(P:List Pq)(i:Int):Pq:=P.getD i.toNat ⟨0,0⟩
def frS(P:List Pq)(x:Sp):Int:=if x.s<0 then(prAt P x.p).b else(prAt P x.p).a
def toS(P:List Pq)(x:Sp):Int:=if x.s<0 then(prAt P x.p).a else(prAt P x.p).b
def Wk(P:List Pq):List Sp->Int->Int->Prop
 |[],a,b=>a=b
 |x::r,a,b=>frS P x=a/\Wk P r (toS P x) b
variable{P:List Pq}{F:List Int}
theorem Wk.app:∀{v w:List Sp} {a b c:Int},Wk P v a b->Wk P w b c->Wk P (v++w) a c
 |[],_,_,_,_,h,h2=>by cases h;exact h2
 |x::r,_,_,_,_,h,h2=>⟨h.1,h.2.app h2⟩
theorem Wk.split:∀{v w:List Sp} {a c:Int},Wk P (v++w) a c->∃b,Wk P v a b/\Wk P w b c
 |[],_,a,_,h=>⟨a,rfl,h⟩
 |x::r,_,_,_,h=>by
  obtain⟨b,h1,h2⟩:=Wk.split (v:=r) h.2
  exact⟨b,⟨h.1,h1⟩,h2⟩
def InF(F:List Int)(x:Sp):Prop:=x.p∈F/\(x.s=1\/x.s=-1)
def AllF(F:List Int)(w:List Sp):Prop:=∀x∈w,InF F x
theorem AllF.tail{x:Sp}{r:List Sp}(h:AllF F (x::r)):AllF F r:=λy hy=>h y (x1me _ hy)
theorem AllF.head{x:Sp}{r:List Sp}(h:AllF F (x::r)):InF F x:=h x (x1mr ..)
theorem AllF.app{v w:List Sp}(h:AllF F v)(h2:AllF F w):AllF F (v++w):=λy hy=>by
 rcases x1nf.mp hy with hy|hy
 .exact h y hy
 .exact h2 y hy
def NB(P:List Pq):List Sp->Prop
 |[]=>True
 |[_]=>True
 |x::y::r=>toS P y≠frS P x/\NB P (y::r)
theorem NB.tail{x:Sp}{r:List Sp}(h:NB P (x::r)):NB P r:=by
 cases r with
 |nil=>trivial
 |cons y r=>exact h.2
end Go.Ix
set_option maxRecDepth 100000
namespace Go.Proofs.YtbcmiinhjgbkdaaGreatDoor
open Go.ChangeShapes Go.WideShapes Go.ChangeAt Go.RowKit Go.Ix
theorem Tryz.own:ownKnob Tryz.prog.godebug=none:=by kernel_rfl
theorem Tryz.laidOut:laidOutB Tryz.prog=true:=by kernel_rfl
theorem x194{q:List AV}(h:Sh Tryz.prog x111 q):∃n,q=[I n]:=by
 obtain⟨n,h,-⟩:=Sh.int_inv (t:=x111) (k:=.i64) (by kernel_rfl) h
 exact⟨n,h⟩
theorem sh_str{q:List AV}(h:Sh Tryz.prog x0 q):∃s,q=[T s]:=by
 have ht:Tryz.prog.underlying x0=some .string:=by kernel_rfl
 cases h with
 |string h' s hs=>exact⟨s,rfl⟩
 |int h'=>rw[ht]at h';cases h'
 |nilS h'=>rw[ht]at h';cases h'
 |slice h'=>rw[ht]at h';cases h'
 |bool h'=>rw[ht]at h';cases h'
 |float h'=>rw[ht]at h';cases h'
 |struct h'=>rw[ht]at h';cases h'
 |array h'=>rw[ht]at h';cases h'
theorem sl_sh{α:Type}{enc:α->List AV}{P:Program}{t e:TypeId}{z:AV}(ht:P.underlying t=some (.slice e))(hr:∀r,r.length=P.cellsOf e->Sh P e r->∃x,r=enc x)(f:Sh P t [z]):∃l,Sl enc z l:=by
 rcases Sh.slice_inv ht f with h1|⟨rows,x,h1,h2,h3,h4⟩
 .simp at h1;exact⟨[],Or.inl ⟨h1,rfl⟩⟩
 .obtain⟨l,rfl⟩:=x1dy (enc:=enc) λr hm=>hr r (h2 r hm) (h3 r hm)
  simp at h1
  exact⟨l,Or.inr ⟨x,by simpa[List.flatMap]using h1⟩⟩
theorem two_sh{t:TypeId}{fs:Array Field}{r:List AV}(ht:Tryz.prog.underlying t=some (.struct fs))(hf:(fs.toList.map λf=>(f.type,f.offset))=[(x111,0),(x111,1)])(hc:Tryz.prog.cellsOf t=2)(h:Sh Tryz.prog t r):∃a b,r=[I a,I b]:=by
 obtain⟨hl,hff⟩:=Sh.struct_inv ht h
 rw[hc]at hl
 have hci:Tryz.prog.cellsOf x111=1:=by kernel_rfl
 match r,hl with
 |[x,y],_=>
  have:∀p∈fs.toList.map (λf=>(f.type,f.offset)),Sh Tryz.prog p.1 (([x,y].drop p.2).take (Tryz.prog.cellsOf p.1)):=λp hp=>by
   obtain⟨f,hf,rfl⟩:=x1mz.mp hp
   exact hff f hf
  rw[hf]at this
  have a1:=this _ (x1mr ..)
  have a2:=this (x111,1) (by simp)
  simp only[hci,x1mi,x1pb,x1oi,x1oo]at a1 a2
  obtain⟨p,hp⟩:=x194 a1
  obtain⟨q,hq⟩:=x194 a2
  simp at hp hq
  exact⟨p,q,by rw[hp,hq]⟩
theorem fs_of{t:TypeId}{l:List (TypeId×Nat)}(h:((Tryz.prog.underlying t).bind λd=>match d with | .struct fs=>some (fs.toList.map λf=>(f.type,f.offset))|_=>none)=some l):∃fs,Tryz.prog.underlying t=some (.struct fs)/\(fs.toList.map λf=>(f.type,f.offset))=l:=by
 cases hu:Tryz.prog.underlying t with
 |none=>rw[hu]at h;cases h
 |some d=>
  rw[hu]at h
  cases d<;>first|exact⟨_,rfl,by simpa using h⟩|cases h
theorem pairs_sh{z:AV}(f:Sh Tryz.prog x8 [z]):∃l,Sl Pq.c z l:=sl_sh (e:=xa) (by kernel_rfl) (λr _ hr=>by
 obtain⟨fs,h1,h2⟩:=fs_of (t:=xa) (l:=[(x111,0),(x111,1)]) (by kernel_rfl)
 obtain⟨a,b,e⟩:=two_sh h1 h2 (by kernel_rfl) hr
 exact⟨⟨a,b⟩,e⟩) f
theorem scenes_sh{z:AV}(f:Sh Tryz.prog x7 [z]):∃l,Sl Scene.c z l:=sl_sh (e:=xk) (by kernel_rfl) (λr hl hr=>by
 obtain⟨fs,h1,h2⟩:=fs_of (t:=xk) (l:=[(x0,0),(x111,1),(x111,2)]) (by kernel_rfl)
 obtain⟨-,hff⟩:=Sh.struct_inv h1 hr
 have hc:Tryz.prog.cellsOf xk=3:=by kernel_rfl
 have hci:Tryz.prog.cellsOf x111=1:=by kernel_rfl
 have hcs:Tryz.prog.cellsOf x0=1:=by kernel_rfl
 rw[hc]at hl
 match r,hl with
 |[x,y,w],_=>
  have:∀p∈fs.toList.map (λf=>(f.type,f.offset)),Sh Tryz.prog p.1 (([x,y,w].drop p.2).take (Tryz.prog.cellsOf p.1)):=λp hp=>by
   obtain⟨f,hf,rfl⟩:=x1mz.mp hp
   exact hff f hf
  rw[h2]at this
  have a0:=this _ (x1mr ..)
  have a1:=this (x111,1) (by simp)
  have a2:=this (x111,2) (by simp)
  simp only[hci,hcs,x1mi,x1pb,x1oi,x1oo]at a0 a1 a2
  obtain⟨s,hs⟩:=sh_str a0
  obtain⟨p,hp⟩:=x194 a1
  obtain⟨q,hq⟩:=x194 a2
  simp at hs hp hq
  exact⟨⟨s,p,q⟩,by rw[hs,hp,hq];rfl⟩) f
theorem net7_sh{q:List AV}(hq:Sh Tryz.prog xo q):∃s p l k,q=[s,p]/\Sl Scene.c s l/\Sl Pq.c p k:=by
 obtain⟨fs,h1,h2⟩:=fs_of (t:=xo) (l:=[(x7,0),(x8,1)]) (by kernel_rfl)
 obtain⟨hl,hff⟩:=Sh.struct_inv h1 hq
 have hc:Tryz.prog.cellsOf xo=2:=by kernel_rfl
 have hc1:Tryz.prog.cellsOf x7=1:=by kernel_rfl
 have hc2:Tryz.prog.cellsOf x8=1:=by kernel_rfl
 rw[hc]at hl
 match q,hl with
 |[x,y],_=>
  have:∀p∈fs.toList.map (λf=>(f.type,f.offset)),Sh Tryz.prog p.1 (([x,y].drop p.2).take (Tryz.prog.cellsOf p.1)):=λp hp=>by
   obtain⟨f,hf,rfl⟩:=x1mz.mp hp
   exact hff f hf
  rw[h2]at this
  have a0:=this _ (x1mr ..)
  have a1:=this (x8,1) (by simp)
  simp only[hc1,hc2,x1mi,x1pb,x1oi,x1oo]at a0 a1
  obtain⟨l,hl⟩:=scenes_sh a0
  obtain⟨k,hk⟩:=pairs_sh a1
  exact⟨x,y,l,k,rfl,hl,hk⟩
theorem net7_in{a:AV}(h:ArgSh Tryz.prog xo a):∃s p l k,a=.agg [s,p]/\Sl Scene.c s l/\Sl Pq.c p k:=by
 obtain⟨fs,h1,-⟩:=fs_of (t:=xo) (l:=[(x7,0),(x8,1)]) (by kernel_rfl)
 obtain⟨q,rfl,hq⟩:=h.struct h1
 obtain⟨s,p,l,k,rfl,h3,h4⟩:=net7_sh hq
 exact⟨s,p,l,k,rfl,h3,h4⟩
end Go.Proofs.YtbcmiinhjgbkdaaGreatDoor
