import Derived.Test.YtpeakdjfagbpcaaGreatWg1
import Derived.Test.YtpeakdjfagbpcaaGreatRows
import Derived.Test.YtpeakdjfagbpcaaGreatFxLaw
import Derived.Test.YtpeakdjfagbpcaaGreatWg0
import Derived.ProofKit
set_option linter.unusedSimpArgs false
set_option linter.unusedVariables false
namespace Go.Ix
structure Sp where
 p:Int
 s:Int
def Sp.c(x:Sp):List AV:=[I x.p,I x.s]
theorem Sp.len(x:Sp):x.c.length=2:=rfl
theorem Sp.still(x:Sp):x.c.all still1=true:=rfl
def prAt(P:List Pq)(i:Int):Pq:=P.getD i.toNat ⟨0,0⟩
def frS(P:List Pq)(x:Sp):Int:=if x.s<0 then(prAt P x.p).b else(prAt P x.p).a
def toS(P:List Pq)(x:Sp):Int:=if x.s<0 then(prAt P x.p).a else(prAt P x.p).b
def Wk(P:List Pq):List Sp->Int->Int->Prop
 |[],a,b=>a=b
 |x::r,a,b=>frS P x=a/\Wk P r (toS P x) b
variable{P:List Pq}{F:List Int}
theorem Wk.app:∀{v w:List Sp} {a b c:Int},Wk P v a b->Wk P w b c->Wk P (v++w) a c
 |[],_,_,_,_,h,h2=>by cases h;exact h2
 |x::r,_,_,_,_,h,h2=>⟨h.1,h.2.app h2⟩
theorem Wk.split:∀{v w:List Sp} {a c:Int},Wk P (v++w) a c->∃b,Wk P v a b/\Wk P w b c
 |[],_,a,_,h=>⟨a,rfl,h⟩
 |x::r,_,_,_,h=>by
  obtain⟨b,h1,h2⟩:=Wk.split (v:=r) h.2
  exact⟨b,⟨h.1,h1⟩,h2⟩
def InF(F:List Int)(x:Sp):Prop:=x.p∈F/\(x.s=1\/x.s=-1)
def AllF(F:List Int)(w:List Sp):Prop:=∀x∈w,InF F x
theorem AllF.tail{x:Sp}{r:List Sp}(h:AllF F (x::r)):AllF F r:=fun y hy=>h y (List.mem_cons_of_mem _ hy)
theorem AllF.head{x:Sp}{r:List Sp}(h:AllF F (x::r)):InF F x:=h x (List.mem_cons_self ..)
theorem AllF.app{v w:List Sp}(h:AllF F v)(h2:AllF F w):AllF F (v++w):=fun y hy=>by
 rcases List.mem_append.mp hy with hy|hy
 .exact h y hy
 .exact h2 y hy
def x2hm(x:Sp):Sp:=⟨x.p,-x.s⟩
theorem flip_fr{x:Sp}(h:InF F x):frS P (x2hm x)=toS P x:=by
 unfold frS toS x2hm
 rcases h.2 with e|e<;>rw[e]<;>simp
theorem flip_to{x:Sp}(h:InF F x):toS P (x2hm x)=frS P x:=by
 unfold frS toS x2hm
 rcases h.2 with e|e<;>rw[e]<;>simp
theorem flip_in{x:Sp}(h:InF F x):InF F (x2hm x):=by
 refine⟨h.1,?_⟩
 unfold x2hm
 rcases h.2 with e|e<;>rw[e]<;>simp
theorem Wk.back:∀{w:List Sp} {a b:Int},Wk P w a b->AllF F w->∃v,Wk P v b a/\AllF F v
 |[],_,_,h,_=>⟨[],h.symm,fun _ h=>by cases h⟩
 |x::r,_,_,h,hF=>by
  obtain⟨v,h1,h2⟩:=Wk.back h.2 hF.tail
  refine⟨v++[x2hm x],h1.app ⟨flip_fr hF.head,?_⟩,h2.app ?_⟩
  .show toS P (x2hm x)=_
   rw[flip_to hF.head];exact h.1
  .intro y hy
   simp at hy
   subst hy
   exact flip_in hF.head
def Cut(P:List Pq)(F:List Int):Prop:=∀i∈F,∃s:Int->Bool,s (prAt P i).a≠s (prAt P i).b/\∀j∈F,j≠i->s (prAt P j).a=s (prAt P j).b
theorem x2jm{i:Int}{s:Int->Bool}(h:∀j∈F,j≠i->s (prAt P j).a=s (prAt P j).b):∀{w:List Sp} {a b:Int},Wk P w a b->AllF F w->i∉w.map Sp.p->s a=s b
 |[],_,_,hw,_,_=>by cases hw;rfl
 |x::r,a,b,hw,hF,hi=>by
  simp only[List.map_cons,List.mem_cons,not_or]at hi
  have h1:=h x.p hF.head.1 (Ne.symm hi.1)
  have h2:=x2jm h hw.2 hF.tail hi.2
  rw[<-h2,<-hw.1]
  unfold frS toS
  split<;>simp[h1]
theorem side_ends{i:Int}{s:Int->Bool}(h:s (prAt P i).a≠s (prAt P i).b){x y:Sp}(hx:x.p=i)(hy:y.p=i)(he:s (frS P y)=s (toS P x)):frS P y=toS P x/\toS P y=frS P x:=by
 unfold frS toS at *
 rw[hx,hy]at *
 by_cases c1:x.s<0<;>by_cases c2:y.s<0<;>simp only[c1,c2,if_true,if_false]at*<;> first|exact⟨trivial,trivial⟩|exact⟨rfl,rfl⟩|exact absurd he h|exact absurd he (Ne.symm h)
theorem x2mu{i:Int}{s:Int->Bool}(h:s (prAt P i).a≠s (prAt P i).b){x:Sp}(hx:x.p=i):s (frS P x)≠s (toS P x):=by
 unfold frS toS
 rw[hx]
 split
 .exact h.symm
 .exact h
theorem x2mv(hC:Cut P F){x:Sp}{r:List Sp}{a:Int}(hw:Wk P (x::r) a a)(hF:AllF F (x::r))(hn:x.p∉r.map Sp.p):False:=by
 obtain⟨s,h1,h2⟩:=hC x.p hF.head.1
 have h3:=x2jm h2 hw.2 hF.tail hn
 exact x2mu h1 rfl (by rw[hw.1,h3])
def NB(P:List Pq):List Sp->Prop
 |[]=>True
 |[_]=>True
 |x::y::r=>toS P y≠frS P x/\NB P (y::r)
theorem NB.tail{x:Sp}{r:List Sp}(h:NB P (x::r)):NB P r:=by
 cases r with
 |nil=>trivial
 |cons y r=>exact h.2
theorem x2l8(hC:Cut P F):∀{w:List Sp} {a b:Int},Wk P w a b->AllF F w->NB P w->(w.map Sp.p).Nodup
 |[],_,_,_,_,_=>List.nodup_nil
 |x::r,a,b,hw,hF,hn=>by
  have ih:=x2l8 hC hw.2 hF.tail hn.tail
  rw[List.map_cons,List.nodup_cons]
  refine⟨fun hm=>?_,ih⟩
  obtain⟨y,hy,hyp⟩:=List.mem_map.mp hm
  obtain⟨r1,r2,rfl⟩:=List.append_of_mem hy
  obtain⟨c,w1,w2⟩:=hw.2.split
  obtain⟨s,h1,h2⟩:=hC x.p hF.head.1
  have hi1:x.p∉r1.map Sp.p:=by
   rw[List.map_append,List.nodup_append]at ih
   intro hmem
   exact ih.2.2 _ hmem y.p (by simp) hyp.symm
  have hF1:AllF F r1:=fun z hz=>hF.tail z (List.mem_append_left _ hz)
  have e:=x2jm h2 w1 hF1 hi1
  obtain⟨e1,e2⟩:=side_ends h1 (x:=x) (y:=y) rfl hyp (by rw[w2.1,e])
  cases r1 with
  |nil=>exact hn.1 e2
  |cons z r1=>
   refine x2mv (r:=r1) (x:=z) (a:=toS P x) hC ?_ hF1 ?_
   .have:c=toS P x:=by rw[<-e1];exact w2.1.symm
    rw[this]at w1
    exact w1
   .rw[List.map_append,List.nodup_append]at ih
    have:=ih.1
    rw[List.map_cons,List.nodup_cons]at this
    exact this.1
theorem x2ph(hC:Cut P F):∀{w v:List Sp} {a b:Int},Wk P w a b->Wk P v a b->AllF F w->AllF F v->(w.map Sp.p).Nodup->(v.map Sp.p).Nodup->w=v
 |[],[],_,_,_,_,_,_,_,_=>rfl
 |[],y::v,_,_,hw,hv,_,hF,_,hn=>by
  cases hw
  rw[List.map_cons,List.nodup_cons]at hn
  exact(x2mv hC hv hF hn.1).elim
 |x::r,v,a,b,hw,hv,hF,hG,hn,hm=>by
  rw[List.map_cons,List.nodup_cons]at hn
  obtain⟨s,h1,h2⟩:=hC x.p hF.head.1
  have hr:=x2jm h2 hw.2 hF.tail hn.1
  have hab:s a≠s b:=by rw[<-hr,<-hw.1];exact x2mu h1 rfl
  have hmem:x.p∈v.map Sp.p:=Classical.byContradiction fun hc=>hab (x2jm h2 hv hG hc)
  obtain⟨y,hy,hyp⟩:=List.mem_map.mp hmem
  obtain⟨v1,v2,rfl⟩:=List.append_of_mem hy
  obtain⟨c,w1,w2⟩:=hv.split
  have hm':=hm
  rw[List.map_append,List.nodup_append]at hm'
  have hi1:x.p∉v1.map Sp.p:=fun hmem=>hm'.2.2 _ hmem y.p (by simp) hyp.symm
  have hF1:AllF F v1:=fun z hz=>hG z (List.mem_append_left _ hz)
  have e:=x2jm h2 w1 hF1 hi1
  have hne:=x2mu h1 (x:=x) rfl
  have hfx:frS P y=frS P x/\y.s<0↔frS P y=frS P x/\x.s<0:=by
   constructor
   .rintro⟨q,q2⟩
    refine⟨q,?_⟩
    unfold frS at q
    rw[hyp,if_pos q2]at q
    by_cases c2:x.s<0
    .exact c2
    .rw[if_neg c2]at q;exact absurd (by rw[q]) h1
   .rintro⟨q,q2⟩
    refine⟨q,?_⟩
    unfold frS at q
    rw[hyp,if_pos q2]at q
    by_cases c2:y.s<0
    .exact c2
    .rw[if_neg c2]at q;exact absurd (by rw[q]) h1
  have hfe:frS P y=frS P x:=by
   have hsy:s (frS P y)=s (frS P x):=by rw[w2.1,hw.1,e]
   unfold frS at hsy hne ⊢
   unfold toS at hne
   rw[hyp]at hsy ⊢
   by_cases c1:x.s<0<;>by_cases c2:y.s<0<;>simp only[c1,c2,if_true,if_false]at*<;> first|rfl|exact absurd hsy h1|exact absurd hsy.symm h1
  have hxy:y=x:=by
   have hs:y.s=x.s:=by
    have hy2:=(hG y (List.mem_append_right _ (List.mem_cons_self ..))).2
    have hx2:=hF.head.2
    by_cases c2:y.s<0
    .have:=(hfx.mp ⟨hfe,c2⟩).2;omega
    .have:¬x.s<0:=fun q=>c2 (hfx.mpr ⟨hfe,q⟩).2
     omega
   cases x;cases y;simp at hyp hs;rw[hyp,hs]
  subst hxy
  have hca:c=a:=by rw[<-w2.1];exact hw.1
  rw[hca]at w1
  cases v1 with
  |cons z v1=>
   have:=hm'.1
   rw[List.map_cons,List.nodup_cons]at this
   exact(x2mv hC w1 hF1 this.1).elim
  |nil=>
   have hm2:=hm'.2.1
   rw[List.map_cons,List.nodup_cons]at hm2
   have:=x2ph hC hw.2 w2.2 hF.tail hG.tail hn.2 hm2.2
   rw[this];rfl
theorem nb_unique(hC:Cut P F){w v:List Sp}{a b:Int}(hw:Wk P w a b)(hv:Wk P v a b)(hF:AllF F w)(hG:AllF F v)(hn:NB P w)(hm:NB P v):w=v:=
 x2ph hC hw hv hF hG (x2l8 hC hw hF hn) (x2l8 hC hv hG hm)
theorem nb_of:∀{w:List Sp} {a b:Int},Wk P w a b->AllF F w->∃v,Wk P v a b/\AllF F v/\NB P v
 |[],_,_,h,hF=>⟨[],h,hF,trivial⟩
 |x::r,a,b,h,hF=>by
  obtain⟨v,h1,h2,h3⟩:=nb_of h.2 hF.tail
  cases v with
  |nil=>exact⟨[x],⟨h.1,h1⟩,fun y hy=>by simp at hy;subst hy;exact hF.head,trivial⟩
  |cons y v=>
   by_cases c:toS P y=frS P x
   .refine⟨v,?_,h2.tail,h3.tail⟩
    have:=h1.2
    rw[c,h.1]at this
    exact this
   .refine⟨x::y::v,⟨h.1,h1⟩,fun z hz=>?_,c,h3⟩
    rcases List.mem_cons.mp hz with rfl|hz
    .exact hF.head
    .exact h2 z hz
def x2g1(F:List Int):List Sp:=F.flatMap fun i=>[⟨i,1⟩,⟨i,-1⟩]
theorem mem_stepsOf{F:List Int}{x:Sp}:x∈x2g1 F↔InF F x:=by
 unfold x2g1 InF
 rw[List.mem_flatMap]
 constructor
 .rintro⟨i,hi,hx⟩
  simp only[List.mem_cons,List.not_mem_nil,or_false]at hx
  rcases hx with rfl|rfl
  .exact⟨hi,Or.inl rfl⟩
  .exact⟨hi,Or.inr rfl⟩
 .rintro⟨h1,h2⟩
  refine⟨x.p,h1,?_⟩
  cases x
  rcases h2 with e|e<;>simp at e<;>subst e<;>simp
theorem x2mw{l k:List Int}(hn:l.Nodup)(h:∀x∈l,x∈k):l.length<=k.length:=by
 induction l generalizing k with
 |nil=>simp
 |cons x r ih=>
  rw[List.nodup_cons]at hn
  have hx:=h x (List.mem_cons_self ..)
  have:=ih (k:=k.erase x) hn.2 fun y hy=>by
   rw[List.mem_erase_of_ne (by rintro rfl;exact hn.1 hy)]
   exact h y (List.mem_cons_of_mem _ hy)
  rw[List.length_erase_of_mem hx]at this
  have h0:0<k.length:=List.length_pos_of_mem hx
  simp only[List.length_cons]
  omega
theorem x2l9(hC:Cut P F){w:List Sp}{a b:Int}(hw:Wk P w a b)(hF:AllF F w)(hn:NB P w):w.length<=F.length:=by
 have:=x2mw (x2l8 hC hw hF hn) (k:=F) fun i hi=>by
  obtain⟨x,hx,rfl⟩:=List.mem_map.mp hi
  exact(hF x hx).1
 simpa using this
end Go.Ix
set_option maxRecDepth 100000
namespace Go.Proofs.YtpeakdjfagbpcaaGreat
open Go.ChangeShapes Go.WideShapes Go.ChangeAt Go.RowKit Go.Ix
theorem Tryz.own:ownKnob Tryz.prog.godebug=none:=by kernel_rfl
theorem Tryz.laidOut:laidOutB Tryz.prog=true:=by kernel_rfl
theorem x2kf{q:List AV}(h:Sh Tryz.prog x2d3 q):∃n,q=[I n]:=by
 obtain⟨n,h,-⟩:=Sh.int_inv (t:=x2d3) (k:=.i64) (by kernel_rfl) h
 exact⟨n,h⟩
theorem sh_str{q:List AV}(h:Sh Tryz.prog xn q):∃s,q=[T s]:=by
 have ht:Tryz.prog.underlying xn=some .string:=by kernel_rfl
 cases h with
 |string h' s hs=>exact⟨s,rfl⟩
 |int h'=>rw[ht]at h';cases h'
 |nilS h'=>rw[ht]at h';cases h'
 |slice h'=>rw[ht]at h';cases h'
 |bool h'=>rw[ht]at h';cases h'
 |float h'=>rw[ht]at h';cases h'
 |struct h'=>rw[ht]at h';cases h'
 |array h'=>rw[ht]at h';cases h'
theorem sl_sh{α:Type}{enc:α->List AV}{P:Program}{t e:TypeId}{z:AV}(ht:P.underlying t=some (.slice e))(hr:∀r,r.length=P.cellsOf e->Sh P e r->∃x,r=enc x)(f:Sh P t [z]):∃l,Sl enc z l:=by
 rcases Sh.slice_inv ht f with h1|⟨rows,x,h1,h2,h3,h4⟩
 .simp at h1;exact⟨[],Or.inl ⟨h1,rfl⟩⟩
 .obtain⟨l,rfl⟩:=x2os (enc:=enc) fun r hm=>hr r (h2 r hm) (h3 r hm)
  simp at h1
  exact⟨l,Or.inr ⟨x,by simpa[List.flatMap]using h1⟩⟩
theorem int_in{a:AV}(h:ArgSh Tryz.prog x2d3 a):∃n,a=I n:=by
 obtain⟨n,h,-⟩:=h.int (t:=x2d3) (k:=.i64) (by kernel_rfl)
 exact⟨n,h⟩
theorem ints_sh{z:AV}(f:Sh Tryz.prog x2 [z]):∃l,Ints z l:=sl_sh (e:=x2d3) (by kernel_rfl) (fun _ _ hr=>x2kf hr) f
theorem two_sh{t:TypeId}{fs:Array Field}{r:List AV}(ht:Tryz.prog.underlying t=some (.struct fs))(hf:(fs.toList.map fun f=>(f.type,f.offset))=[(x2d3,0),(x2d3,1)])(hc:Tryz.prog.cellsOf t=2)(h:Sh Tryz.prog t r):∃a b,r=[I a,I b]:=by
 obtain⟨hl,hff⟩:=Sh.struct_inv ht h
 rw[hc]at hl
 have hci:Tryz.prog.cellsOf x2d3=1:=by kernel_rfl
 match r,hl with
 |[x,y],_=>
  have:∀p∈fs.toList.map (fun f=>(f.type,f.offset)),Sh Tryz.prog p.1 (([x,y].drop p.2).take (Tryz.prog.cellsOf p.1)):=fun p hp=>by
   obtain⟨f,hf,rfl⟩:=List.mem_map.mp hp
   exact hff f hf
  rw[hf]at this
  have a1:=this _ (List.mem_cons_self ..)
  have a2:=this (x2d3,1) (by simp)
  simp only[hci,List.drop_zero,List.take_succ_cons,List.take_zero,List.drop_succ_cons]at a1 a2
  obtain⟨p,hp⟩:=x2kf a1
  obtain⟨q,hq⟩:=x2kf a2
  simp at hp hq
  exact⟨p,q,by rw[hp,hq]⟩
theorem fs_of{t:TypeId}{l:List (TypeId×Nat)}(h:((Tryz.prog.underlying t).bind fun d=>match d with | .struct fs=>some (fs.toList.map fun f=>(f.type,f.offset))|_=>none)=some l):∃fs,Tryz.prog.underlying t=some (.struct fs)/\(fs.toList.map fun f=>(f.type,f.offset))=l:=by
 cases hu:Tryz.prog.underlying t with
 |none=>rw[hu]at h;cases h
 |some d=>
  rw[hu]at h
  cases d<;>first|exact⟨_,rfl,by simpa using h⟩|cases h
theorem pairs_sh{z:AV}(f:Sh Tryz.prog x3 [z]):∃l,Sl Pq.c z l:=sl_sh (e:=xe) (by kernel_rfl) (fun r _ hr=>by
 obtain⟨fs,h1,h2⟩:=fs_of (t:=xe) (l:=[(x2d3,0),(x2d3,1)]) (by kernel_rfl)
 obtain⟨a,b,e⟩:=two_sh h1 h2 (by kernel_rfl) hr
 exact⟨⟨a,b⟩,e⟩) f
theorem scenes_sh{z:AV}(f:Sh Tryz.prog x4 [z]):∃l,Sl Scene.c z l:=sl_sh (e:=x6n) (by kernel_rfl) (fun r hl hr=>by
 obtain⟨fs,h1,h2⟩:=fs_of (t:=x6n) (l:=[(xn,0),(x2d3,1),(x2d3,2)]) (by kernel_rfl)
 obtain⟨-,hff⟩:=Sh.struct_inv h1 hr
 have hc:Tryz.prog.cellsOf x6n=3:=by kernel_rfl
 have hci:Tryz.prog.cellsOf x2d3=1:=by kernel_rfl
 have hcs:Tryz.prog.cellsOf xn=1:=by kernel_rfl
 rw[hc]at hl
 match r,hl with
 |[x,y,w],_=>
  have:∀p∈fs.toList.map (fun f=>(f.type,f.offset)),Sh Tryz.prog p.1 (([x,y,w].drop p.2).take (Tryz.prog.cellsOf p.1)):=fun p hp=>by
   obtain⟨f,hf,rfl⟩:=List.mem_map.mp hp
   exact hff f hf
  rw[h2]at this
  have a0:=this _ (List.mem_cons_self ..)
  have a1:=this (x2d3,1) (by simp)
  have a2:=this (x2d3,2) (by simp)
  simp only[hci,hcs,List.drop_zero,List.take_succ_cons,List.take_zero,List.drop_succ_cons]at a0 a1 a2
  obtain⟨s,hs⟩:=sh_str a0
  obtain⟨p,hp⟩:=x2kf a1
  obtain⟨q,hq⟩:=x2kf a2
  simp at hs hp hq
  exact⟨⟨s,p,q⟩,by rw[hs,hp,hq];rfl⟩) f
theorem net7_sh{q:List AV}(hq:Sh Tryz.prog x57 q):∃s p l k,q=[s,p]/\Sl Scene.c s l/\Sl Pq.c p k:=by
 obtain⟨fs,h1,h2⟩:=fs_of (t:=x57) (l:=[(x4,0),(x3,1)]) (by kernel_rfl)
 obtain⟨hl,hff⟩:=Sh.struct_inv h1 hq
 have hc:Tryz.prog.cellsOf x57=2:=by kernel_rfl
 have hc1:Tryz.prog.cellsOf x4=1:=by kernel_rfl
 have hc2:Tryz.prog.cellsOf x3=1:=by kernel_rfl
 rw[hc]at hl
 match q,hl with
 |[x,y],_=>
  have:∀p∈fs.toList.map (fun f=>(f.type,f.offset)),Sh Tryz.prog p.1 (([x,y].drop p.2).take (Tryz.prog.cellsOf p.1)):=fun p hp=>by
   obtain⟨f,hf,rfl⟩:=List.mem_map.mp hp
   exact hff f hf
  rw[h2]at this
  have a0:=this _ (List.mem_cons_self ..)
  have a1:=this (x3,1) (by simp)
  simp only[hc1,hc2,List.drop_zero,List.take_succ_cons,List.take_zero,List.drop_succ_cons]at a0 a1
  obtain⟨l,hl⟩:=scenes_sh a0
  obtain⟨k,hk⟩:=pairs_sh a1
  exact⟨x,y,l,k,rfl,hl,hk⟩
theorem task7_in{a:AV}(h:ArgSh Tryz.prog x85 a):∃s p ph wt l k f g,a=.agg [s,p,ph,wt]/\Sl Scene.c s l/\Sl Pq.c p k/\Ints ph f/\Ints wt g:=by
 obtain⟨fs,h1,h2⟩:=fs_of (t:=x85) (l:=[(x57,0),(x2,2),(x2,3)]) (by kernel_rfl)
 obtain⟨q,rfl,hq⟩:=h.struct h1
 obtain⟨hl,hff⟩:=Sh.struct_inv h1 hq
 have hc:Tryz.prog.cellsOf x85=4:=by kernel_rfl
 have hc1:Tryz.prog.cellsOf x57=2:=by kernel_rfl
 have hc2:Tryz.prog.cellsOf x2=1:=by kernel_rfl
 rw[hc]at hl
 match q,hl with
 |[x,y,v,w],_=>
  have:∀p∈fs.toList.map (fun f=>(f.type,f.offset)),Sh Tryz.prog p.1 (([x,y,v,w].drop p.2).take (Tryz.prog.cellsOf p.1)):=fun p hp=>by
   obtain⟨f,hf,rfl⟩:=List.mem_map.mp hp
   exact hff f hf
  rw[h2]at this
  have a0:=this _ (List.mem_cons_self ..)
  have a1:=this (x2,2) (by simp)
  have a2:=this (x2,3) (by simp)
  simp only[hc1,hc2,List.drop_zero,List.take_succ_cons,List.take_zero,List.drop_succ_cons]at a0 a1 a2
  obtain⟨s,p,l,k,e,h3,h4⟩:=net7_sh a0
  obtain⟨f,hf⟩:=ints_sh a1
  obtain⟨g,hg⟩:=ints_sh a2
  simp at e
  obtain⟨rfl,rfl⟩:=e
  exact⟨_,_,v,w,l,k,f,g,rfl,h3,h4,hf,hg⟩
end Go.Proofs.YtpeakdjfagbpcaaGreat
namespace Go.Ix
open Go.Proofs
theorem mkLit_P{p q:Int}{id:Id}{m:Mem}{R:Type}{k:AV->Mem->Option R}:x2cy [I 0,I 0] [(0,2,.agg [I p,I q])] 1 2 id m k=k (.slit [I p,I q] 1 true) m:=by
 simp[x2cy,x2e9,x2dn,List.range_succ,clean1,AV.one,Value.oneCell']
theorem InB.get{l:List Scene}(h:InB l){k:Nat}(hk:k<l.length):(0<=l[k].day/\l[k].day<=100000)/\(-100000<=l[k].bl/\l[k].bl<=100000):=h _ (List.getElem_mem hk)
theorem e_awake7:((x2cl 30 [] x5a [] mem0).map (fun p=>p.1))=some (B true):=by kernel_rfl
theorem w_awake7(m:Mem):x2cm (x2cl 30) x5a [] m=some (B true,m):=by
 have h:=e_awake7
 rw[Option.map_eq_some_iff]at h
 obtain⟨⟨r,m'⟩,h1,rfl⟩:=h
 exact call0 rfl h1 rfl
def x2id(l:List Scene):Bool:=l.all fun s=>decide (s.nm.size<=20)
theorem Scene.stillA(s:Scene):s.c.all still1=true:=rfl
end Go.Ix
