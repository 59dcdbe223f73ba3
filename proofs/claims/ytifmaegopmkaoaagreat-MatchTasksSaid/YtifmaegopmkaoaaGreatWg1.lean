import Derived.Test.YtifmaegopmkaoaaGreatWg0
import Derived.Laws.Strings
import Derived.Test.YtifmaegopmkaoaaGreatFxSound
import Derived.Laws.StructEq
import Derived.Test.YtifmaegopmkaoaaGreatRows
import Derived.Test.YtifmaegopmkaoaaGreatFxLaw
set_option linter.unusedSimpArgs false
namespace Go.Ix
open Go.Proofs
abbrev T(s:ByteArray):AV:=.sc (.string s)
@[simp] theorem sLenS_T(s:ByteArray):sLenS (T s)=some (I s.size):=rfl
structure Scene where
 nm:ByteArray
 day:Int
 bl:Int
def Scene.c(s:Scene):List AV:=[T s.nm,I s.day,I s.bl]
theorem Scene.len(s:Scene):s.c.length=3:=rfl
@[simp] theorem cells_T(s:ByteArray):(T s).cells=[T s]:=rfl
@[simp] theorem one_T(s:ByteArray):(T s).one=true:=rfl
end Go.Ix
set_option linter.unusedVariables false
namespace Go.Ix
open Go.Proofs
variable{P:Program}
theorem xgm{α β:Type}(f:α->Sem β):∀s:Sem α,xev P (s >>= f)=(xev P s).bind λa=>xev P (f a):=by
 intro s
 show xev P (Sem.bind s f)=_
 induction s with
 |pure a=>rfl
 |program k ih=>exact ih P
 |mark x k ih=>exact ih
 |_=>rfl
theorem xk1{α:Type}(a:α):xev P (pure a:Sem α)=some a:=rfl
theorem xo6:xev P program=some P:=rfl
theorem xo7{t:TypeId}{d:TypeDesc}(h:P.underlying t=some d):xev P (underlying t)=some d:=by
 simp only[underlying,xgm,xo6,xf2,h]
 rfl
theorem xra(d:Nat)(t:TypeId)(xs ys:Array Value)(ht:P.underlying t=some (.struct (P.fieldsOf t)))(hp:P.stoodInHeld t=false) :
 xev P (Op.equalIn (d+1) t (.agg xs) (.agg ys))=xev P (Op.eqFields d xs ys (P.fieldsOf t).toList):=by
 simp only[Op.equalIn,xgm,xo7 ht,xf2,xo6,hp,xx2,xwn]
 rw[<-Array.forIn_toList]
 generalize (P.fieldsOf t).toList=fs
 clear ht
 induction fs with
 |nil=>simp[Op.eqFields,xk1]
 |cons f fs ih=>
  simp only[List.forIn_cons,Op.eqFields,xgm]
  split
  .simp only[xgm]
   generalize xev P (part f.type xs f.offset)=r1
   cases r1 with
   |none=>rfl
   |some a=>
    generalize hb:xev P (part f.type ys f.offset)=r2
    cases r2 with
    |none=>simp[hb]
    |some b=>
     simp only[hb,xf2]
     generalize xev P (Op.equalIn d f.type a b)=r3
     cases r3 with
     |none=>rfl
     |some r=>
      cases r
      .rfl
      .exact ih
  .exact ih
theorem xo8(d:Nat)(t:TypeId)(k k':IntKind)(a b:Int)(h:P.underlying t=some (.int k')):xev P (Op.equalIn (d+1) t (.int k a) (.int k b))=some (a == b):=by
 simp[Op.equalIn,xgm,xo7 h,xk1]
theorem xtx(op:BinOp)(t:TypeId)(x y:Operand)(xs ys:Array Value)(hm:P.eqGuardType P.depth t=false):xev P (eqGuard op t x y (.agg xs) (.agg ys))=some ():=by
 cases op<;>simp[eqGuard,xgm,xo6,xk1,hm]
theorem xrb{t:TypeId}{x y:Operand}{xs ys:List Value}{r:Bool}(hm:P.eqGuardType P.depth t=false)(hr:xev P (Op.equalIn 10000 t (.agg xs.toArray) (.agg ys.toArray))=some r)(hx:∃k,scs k=some xs) :
 ∀kx ky,scs kx=some xs->scs ky=some ys->sBin P .neq t x y (.agg kx) (.agg ky)=some (B (!r)):=by
 intro kx ky h1 h2
 refine xg1 ?_
 simp only[bin0,xf1,h1,h2,xgm,xtx _ _ _ _ _ _ hm,xf2]
 have:xev P (binOp .neq t (.agg xs.toArray) (.agg ys.toArray))=some (.bool (!r)):=by
  show xev P (do pure (Value.bool (!(<-Op.equal t (.agg xs.toArray) (.agg ys.toArray)))))=_
  simp only[xgm,Op.equal,Op.maxDepth,hr,xf2,xk1]
 rw[this];rfl
theorem xo9:Tryz.prog.underlying xey=some (.int .i64):=by kernel_rfl
theorem xrc(d:Nat)(xs ys:Array Value)(ga gb:Nat->Int):∀fs:List Field,(∀f∈fs,f.name≠"_"/\f.type=xey/\xev Tryz.prog (part xey xs f.offset)=some (.int .i64 (ga f.offset))/\xev Tryz.prog (part xey ys f.offset)=some (.int .i64 (gb f.offset))) ->
 xev Tryz.prog (Op.eqFields (d+1) xs ys fs)=some (fs.all λf=>ga f.offset == gb f.offset)
 |[],_=>rfl
 |f::fs,h=>by
  obtain⟨h1,h2,h3,h4⟩:=h f (xwg ..)
  have ih:=xrc d xs ys ga gb fs λg hg=>h g (xwe _ hg)
  simp only[Op.eqFields,h1,ne_eq,not_false_eq_true,xws,h2,xgm,h3,h4,xf2,xo8 _ _ _ _ _ _ xo9,xy8]
  cases ga f.offset == gb f.offset
  .rfl
  .exact ih
theorem eq_ints{t:TypeId}{offs:List Nat}{xs ys:Array Value}{ga gb:Nat->Int}(hS:Tryz.prog.underlying t=some (.struct (Tryz.prog.fieldsOf t)))(hs:Tryz.prog.stoodInHeld t=false)(hF:((Tryz.prog.fieldsOf t).toList.map λf=>(f.type,f.offset,decide (f.name = "_")))=offs.map λo=>(xey,o,false))(hp:∀o∈offs,xev Tryz.prog (part xey xs o)=some (.int .i64 (ga o))/\xev Tryz.prog (part xey ys o)=some (.int .i64 (gb o))) :
 xev Tryz.prog (Op.equalIn 10000 t (.agg xs) (.agg ys))=some (offs.all λo=>ga o == gb o):=by
 rw[show(10000:Nat)=9998+1+1 from rfl,xra _ _ _ _ hS hs]
 generalize (Tryz.prog.fieldsOf t).toList=fs at hF
 rw[xrc 9998 xs ys ga gb fs]
 .have:(fs.map λf=>f.offset)=offs:=by
   have:=congrArg (List.map λx:TypeId×Nat×Bool=>x.2.1) hF
   simpa[List.map_map,Function.comp_def]using this
  rw[<-this,List.all_map]
  rfl
 .intro f hf
  have h1:(f.type,f.offset,decide (f.name = "_"))∈offs.map λo=>(xey,o,false):=by
   rw[<-hF];exact List.mem_map_of_mem hf
  obtain⟨o,ho,e⟩:=xwr.mp h1
  simp only[xw8]at e
  obtain⟨e1,e2,e3⟩:=e
  subst e2
  exact⟨of_decide_eq_false e3.symm,e1.symm,hp _ ho⟩
structure Pq where
 a:Int
 b:Int
def Pq.c(p:Pq):List AV:=[I p.a,I p.b]
theorem Pq.len(p:Pq):p.c.length=2:=rfl
theorem Pq.still(p:Pq):p.c.all still1=true:=rfl
def Pq.same(p q:Pq):Bool:=decide (p.a=q.a)&&decide (p.b=q.b)
def InB(l:List Scene):Prop:=∀s∈l,(0<=s.day/\s.day<=100000)/\(-100000<=s.bl/\s.bl<=100000)
structure Sp where
 p:Int
 s:Int
def Sp.c(x:Sp):List AV:=[I x.p,I x.s]
theorem Sp.len(x:Sp):x.c.length=2:=rfl
theorem Sp.still(x:Sp):x.c.all still1=true:=rfl
def prAt(P:List Pq)(i:Int):Pq:=P.getD i.toNat ⟨0,0⟩
def frS(P:List Pq)(x:Sp):Int:=if x.s<0 then(prAt P x.p).b else(prAt P x.p).a
def toS(P:List Pq)(x:Sp):Int:=if x.s<0 then(prAt P x.p).a else(prAt P x.p).b
def Wk(P:List Pq):List Sp->Int->Int->Prop
 |[],a,b=>a=b
 |x::r,a,b=>frS P x=a/\Wk P r (toS P x) b
variable{P:List Pq}{F:List Int}
theorem Wk.app:∀{v w:List Sp} {a b c:Int},Wk P v a b->Wk P w b c->Wk P (v++w) a c
 |[],_,_,_,_,h,h2=>by cases h;exact h2
 |x::r,_,_,_,_,h,h2=>⟨h.1,h.2.app h2⟩
theorem Wk.split:∀{v w:List Sp} {a c:Int},Wk P (v++w) a c->∃b,Wk P v a b/\Wk P w b c
 |[],_,a,_,h=>⟨a,rfl,h⟩
 |x::r,_,_,_,h=>by
  obtain⟨b,h1,h2⟩:=Wk.split (v:=r) h.2
  exact⟨b,⟨h.1,h1⟩,h2⟩
def InF(F:List Int)(x:Sp):Prop:=x.p∈F/\(x.s=1\/x.s=-1)
def AllF(F:List Int)(w:List Sp):Prop:=∀x∈w,InF F x
theorem AllF.tail{x:Sp}{r:List Sp}(h:AllF F (x::r)):AllF F r:=λy hy=>h y (xwe _ hy)
theorem AllF.head{x:Sp}{r:List Sp}(h:AllF F (x::r)):InF F x:=h x (xwg ..)
theorem AllF.app{v w:List Sp}(h:AllF F v)(h2:AllF F w):AllF F (v++w):=λy hy=>by
 rcases xxl.mp hy with hy|hy
 .exact h y hy
 .exact h2 y hy
def xiq(x:Sp):Sp:=⟨x.p,-x.s⟩
theorem flip_fr{x:Sp}(h:InF F x):frS P (xiq x)=toS P x:=by
 unfold frS toS xiq
 rcases h.2 with e|e<;>rw[e]<;>simp
theorem flip_to{x:Sp}(h:InF F x):toS P (xiq x)=frS P x:=by
 unfold frS toS xiq
 rcases h.2 with e|e<;>rw[e]<;>simp
theorem flip_in{x:Sp}(h:InF F x):InF F (xiq x):=by
 refine⟨h.1,?_⟩
 unfold xiq
 rcases h.2 with e|e<;>rw[e]<;>simp
theorem Wk.back:∀{w:List Sp} {a b:Int},Wk P w a b->AllF F w->∃v,Wk P v b a/\AllF F v
 |[],_,_,h,_=>⟨[],h.symm,λ_ h=>by cases h⟩
 |x::r,_,_,h,hF=>by
  obtain⟨v,h1,h2⟩:=Wk.back h.2 hF.tail
  refine⟨v++[xiq x],h1.app ⟨flip_fr hF.head,?_⟩,h2.app ?_⟩
  .show toS P (xiq x)=_
   rw[flip_to hF.head];exact h.1
  .intro y hy
   simp at hy
   subst hy
   exact flip_in hF.head
def Cut(P:List Pq)(F:List Int):Prop:=∀i∈F,∃s:Int->Bool,s (prAt P i).a≠s (prAt P i).b/\∀j∈F,j≠i->s (prAt P j).a=s (prAt P j).b
theorem xoa{i:Int}{s:Int->Bool}(h:∀j∈F,j≠i->s (prAt P j).a=s (prAt P j).b):∀{w:List Sp} {a b:Int},Wk P w a b->AllF F w->i∉w.map Sp.p->s a=s b
 |[],_,_,hw,_,_=>by cases hw;rfl
 |x::r,a,b,hw,hF,hi=>by
  simp only[xwi,xwh,not_or]at hi
  have h1:=h x.p hF.head.1 (Ne.symm hi.1)
  have h2:=xoa h hw.2 hF.tail hi.2
  rw[<-h2,<-hw.1]
  unfold frS toS
  split<;>simp[h1]
theorem side_ends{i:Int}{s:Int->Bool}(h:s (prAt P i).a≠s (prAt P i).b){x y:Sp}(hx:x.p=i)(hy:y.p=i)(he:s (frS P y)=s (toS P x)):frS P y=toS P x/\toS P y=frS P x:=by
 unfold frS toS at *
 rw[hx,hy]at *
 by_cases c1:x.s<0<;>by_cases c2:y.s<0<;>simp only[c1,c2,xws,xwn]at*<;> first|exact⟨trivial,trivial⟩|exact⟨rfl,rfl⟩|exact absurd he h|exact absurd he (Ne.symm h)
theorem side_step{i:Int}{s:Int->Bool}(h:s (prAt P i).a≠s (prAt P i).b){x:Sp}(hx:x.p=i):s (frS P x)≠s (toS P x):=by
 unfold frS toS
 rw[hx]
 split
 .exact h.symm
 .exact h
theorem no_loop(hC:Cut P F){x:Sp}{r:List Sp}{a:Int}(hw:Wk P (x::r) a a)(hF:AllF F (x::r))(hn:x.p∉r.map Sp.p):False:=by
 obtain⟨s,h1,h2⟩:=hC x.p hF.head.1
 have h3:=xoa h2 hw.2 hF.tail hn
 exact side_step h1 rfl (by rw[hw.1,h3])
def NB(P:List Pq):List Sp->Prop
 |[]=>True
 |[_]=>True
 |x::y::r=>toS P y≠frS P x/\NB P (y::r)
theorem NB.tail{x:Sp}{r:List Sp}(h:NB P (x::r)):NB P r:=by
 cases r with
 |nil=>trivial
 |cons y r=>exact h.2
theorem xrd(hC:Cut P F):∀{w:List Sp} {a b:Int},Wk P w a b->AllF F w->NB P w->(w.map Sp.p).Nodup
 |[],_,_,_,_,_=>List.nodup_nil
 |x::r,a,b,hw,hF,hn=>by
  have ih:=xrd hC hw.2 hF.tail hn.tail
  rw[xwi,xyc]
  refine⟨λhm=>?_,ih⟩
  obtain⟨y,hy,hyp⟩:=xwr.mp hm
  obtain⟨r1,r2,rfl⟩:=List.append_of_mem hy
  obtain⟨c,w1,w2⟩:=hw.2.split
  obtain⟨s,h1,h2⟩:=hC x.p hF.head.1
  have hi1:x.p∉r1.map Sp.p:=by
   rw[xzk,xyf]at ih
   intro hmem
   exact ih.2.2 _ hmem y.p (by simp) hyp.symm
  have hF1:AllF F r1:=λz hz=>hF.tail z (xye _ hz)
  have e:=xoa h2 w1 hF1 hi1
  obtain⟨e1,e2⟩:=side_ends h1 (x:=x) (y:=y) rfl hyp (by rw[w2.1,e])
  cases r1 with
  |nil=>exact hn.1 e2
  |cons z r1=>
   refine no_loop (r:=r1) (x:=z) (a:=toS P x) hC ?_ hF1 ?_
   .have:c=toS P x:=by rw[<-e1];exact w2.1.symm
    rw[this]at w1
    exact w1
   .rw[xzk,xyf]at ih
    have:=ih.1
    rw[xwi,xyc]at this
    exact this.1
theorem nb_of:∀{w:List Sp} {a b:Int},Wk P w a b->AllF F w->∃v,Wk P v a b/\AllF F v/\NB P v
 |[],_,_,h,hF=>⟨[],h,hF,trivial⟩
 |x::r,a,b,h,hF=>by
  obtain⟨v,h1,h2,h3⟩:=nb_of h.2 hF.tail
  cases v with
  |nil=>exact⟨[x],⟨h.1,h1⟩,λy hy=>by simp at hy;subst hy;exact hF.head,trivial⟩
  |cons y v=>
   by_cases c:toS P y=frS P x
   .refine⟨v,?_,h2.tail,h3.tail⟩
    have:=h1.2
    rw[c,h.1]at this
    exact this
   .refine⟨x::y::v,⟨h.1,h1⟩,λz hz=>?_,c,h3⟩
    rcases xwh.mp hz with rfl|hz
    .exact hF.head
    .exact h2 z hz
theorem xob{l k:List Int}(hn:l.Nodup)(h:∀x∈l,x∈k):l.length<=k.length:=by
 induction l generalizing k with
 |nil=>simp
 |cons x r ih=>
  rw[xyc]at hn
  have hx:=h x (xwg ..)
  have:=ih (k:=k.erase x) hn.2 λy hy=>by
   rw[List.mem_erase_of_ne (by rintro rfl;exact hn.1 hy)]
   exact h y (xwe _ hy)
  rw[List.length_erase_of_mem hx]at this
  have h0:0<k.length:=List.length_pos_of_mem hx
  simp only[xwk]
  omega
theorem nb_len(hC:Cut P F){w:List Sp}{a b:Int}(hw:Wk P w a b)(hF:AllF F w)(hn:NB P w):w.length<=F.length:=by
 have:=xob (xrd hC hw hF hn) (k:=F) λi hi=>by
  obtain⟨x,hx,rfl⟩:=xwr.mp hi
  exact(hF x hx).1
 simpa using this
end Go.Ix
set_option maxRecDepth 100000
namespace Go.Proofs.YtifmaegopmkaoaaGreat
open Go.ChangeShapes Go.WideShapes Go.ChangeAt Go.RowKit Go.Ix
theorem Tryz.own:ownKnob Tryz.prog.godebug=none:=by kernel_rfl
theorem Tryz.laidOut:laidOutB Tryz.prog=true:=by kernel_rfl
theorem sh_int{q:List AV}(h:Sh Tryz.prog xey q):∃n,q=[I n]:=by
 obtain⟨n,h,-⟩:=Sh.int_inv (t:=xey) (k:=.i64) (by kernel_rfl) h
 exact⟨n,h⟩
theorem sl_sh{α:Type}{enc:α->List AV}{P:Program}{t e:TypeId}{z:AV}(ht:P.underlying t=some (.slice e))(hr:∀r,r.length=P.cellsOf e->Sh P e r->∃x,r=enc x)(f:Sh P t [z]):∃l,Sl enc z l:=by
 rcases Sh.slice_inv ht f with h1|⟨rows,x,h1,h2,h3,h4⟩
 .simp at h1;exact⟨[],Or.inl ⟨h1,rfl⟩⟩
 .obtain⟨l,rfl⟩:=xqr (enc:=enc) λr hm=>hr r (h2 r hm) (h3 r hm)
  simp at h1
  exact⟨l,Or.inr ⟨x,by simpa[List.flatMap]using h1⟩⟩
theorem fs_of{t:TypeId}{l:List (TypeId×Nat)}(h:((Tryz.prog.underlying t).bind λd=>match d with | .struct fs=>some (fs.toList.map λf=>(f.type,f.offset))|_=>none)=some l):∃fs,Tryz.prog.underlying t=some (.struct fs)/\(fs.toList.map λf=>(f.type,f.offset))=l:=by
 cases hu:Tryz.prog.underlying t with
 |none=>rw[hu]at h;cases h
 |some d=>
  rw[hu]at h
  cases d<;>first|exact⟨_,rfl,by simpa using h⟩|cases h
end Go.Proofs.YtifmaegopmkaoaaGreat
namespace Go.Ix
structure Mp where
 ln:Int
 sm:Int
 b0:Int
 b1:Int
 sc:Int
def Mp.c(x:Mp):List AV:=[I x.ln,I x.sm,I x.b0,I x.b1,I x.sc]
theorem Mp.len(x:Mp):x.c.length=5:=rfl
theorem Mp.still(x:Mp):x.c.all still1=true:=rfl
def su(f:Mp->Int):List Mp->Int
 |[]=>0
 |x::l=>f x+su f l
theorem su_le{f:Mp->Int}{b:Int}:∀{l:List Mp},(∀x∈l,-b<=f x/\f x<=b)->-(l.length*b)<=su f l/\su f l<=l.length*b
 |[],_=>by simp[su]
 |x::l,h=>by
  have h1:=h x (xwg ..)
  have h2:=su_le (l:=l) λy hy=>h y (xwe _ hy)
  simp only[su,xwk]
  have e:((l.length+1:Nat):Int)*b=l.length*b+b:=by rw[Int.natCast_add,xxs];omega
  rw[e]
  omega
def sE(l:List Mp):Int:=su (λx=>x.sm*x.sm) l
def pr(f x y:Mp):Int:=(x.ln-f.ln)*(y.sm-f.sm)-(x.sm-f.sm)*(y.ln-f.ln)
def Mp.at(f x:Mp):Prop:=x.ln=f.ln/\x.sm=f.sm
instance (f x:Mp):Decidable (f.at x):=by unfold Mp.at;infer_instance
end Go.Ix
