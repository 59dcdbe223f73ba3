import Derived.Test.YtdfahbenacjgeaaGreatRows
import Derived.Test.YtdfahbenacjgeaaGreatFxLaw
import Derived.Test.YtdfahbenacjgeaaGreatWg0
import Derived.Test.YtdfahbenacjgeaaGreatWg1
import Derived.ProofKit
set_option maxRecDepth 100000
namespace Go.Proofs.YtdfahbenacjgeaaGreat
open Go.ChangeShapes Go.WideShapes Go.ChangeAt Go.RowKit Go.Ix
theorem Tryz.own:ownKnob Tryz.prog.godebug=none:=by kernel_rfl
theorem Tryz.laidOut:laidOutB Tryz.prog=true:=by kernel_rfl
theorem xqt{q:List AV}(h:Sh Tryz.prog xkv q):∃n,q=[I n]:=by
 obtain⟨n,h,-⟩:=Sh.int_inv (t:=xkv) (k:=.i64) (by kernel_rfl) h
 exact⟨n,h⟩
theorem sh_str{q:List AV}(h:Sh Tryz.prog x7 q):∃s,q=[T s]:=by
 have ht:Tryz.prog.underlying x7=some .string:=by kernel_rfl
 cases h with
 |string h' s hs=>exact⟨s,rfl⟩
 |int h'=>rw[ht]at h';cases h'
 |nilS h'=>rw[ht]at h';cases h'
 |slice h'=>rw[ht]at h';cases h'
 |bool h'=>rw[ht]at h';cases h'
 |float h'=>rw[ht]at h';cases h'
 |struct h'=>rw[ht]at h';cases h'
 |array h'=>rw[ht]at h';cases h'
theorem sl_sh{α:Type}{enc:α->List AV}{P:Program}{t e:TypeId}{z:AV}(ht:P.underlying t=some (.slice e))(hr:∀r,r.length=P.cellsOf e->Sh P e r->∃x,r=enc x)(f:Sh P t [z]):∃l,Sl enc z l:=by
 rcases Sh.slice_inv ht f with h1|⟨rows,x,h1,h2,h3,h4⟩
 .simp at h1;exact⟨[],Or.inl ⟨h1,rfl⟩⟩
 .obtain⟨l,rfl⟩:=xvy (enc:=enc) λr hm=>hr r (h2 r hm) (h3 r hm)
  simp at h1
  exact⟨l,Or.inr ⟨x,by simpa[List.flatMap]using h1⟩⟩
theorem xru{z:AV}(f:Sh Tryz.prog x2 [z]):∃l,Ints z l:=sl_sh (e:=xkv) (by kernel_rfl) (λ_ _ hr=>xqt hr) f
theorem two_sh{t:TypeId}{fs:Array Field}{r:List AV}(ht:Tryz.prog.underlying t=some (.struct fs))(hf:(fs.toList.map λf=>(f.type,f.offset))=[(xkv,0),(xkv,1)])(hc:Tryz.prog.cellsOf t=2)(h:Sh Tryz.prog t r):∃a b,r=[I a,I b]:=by
 obtain⟨hl,hff⟩:=Sh.struct_inv ht h
 rw[hc]at hl
 have hci:Tryz.prog.cellsOf xkv=1:=by kernel_rfl
 match r,hl with
 |[x,y],_=>
  have:∀p∈fs.toList.map (λf=>(f.type,f.offset)),Sh Tryz.prog p.1 (([x,y].drop p.2).take (Tryz.prog.cellsOf p.1)):=λp hp=>by
   obtain⟨f,hf,rfl⟩:=x12r.mp hp
   exact hff f hf
  rw[hf]at this
  have a1:=this _ (x12m ..)
  have a2:=this (xkv,1) (by simp)
  simp only[hci,x12j,x15d,x14u,x146]at a1 a2
  obtain⟨p,hp⟩:=xqt a1
  obtain⟨q,hq⟩:=xqt a2
  simp at hp hq
  exact⟨p,q,by rw[hp,hq]⟩
theorem xpy{t:TypeId}{l:List (TypeId×Nat)}(h:((Tryz.prog.underlying t).bind λd=>match d with | .struct fs=>some (fs.toList.map λf=>(f.type,f.offset))|_=>none)=some l):∃fs,Tryz.prog.underlying t=some (.struct fs)/\(fs.toList.map λf=>(f.type,f.offset))=l:=by
 cases hu:Tryz.prog.underlying t with
 |none=>rw[hu]at h;cases h
 |some d=>
  rw[hu]at h
  cases d<;>first|exact⟨_,rfl,by simpa using h⟩|cases h
theorem pairs_sh{z:AV}(f:Sh Tryz.prog x4 [z]):∃l,Sl Pq.c z l:=sl_sh (e:=x6) (by kernel_rfl) (λr _ hr=>by
 obtain⟨fs,h1,h2⟩:=xpy (t:=x6) (l:=[(xkv,0),(xkv,1)]) (by kernel_rfl)
 obtain⟨a,b,e⟩:=two_sh h1 h2 (by kernel_rfl) hr
 exact⟨⟨a,b⟩,e⟩) f
theorem steps_sh{z:AV}(f:Sh Tryz.prog x3r [z]):∃l,Sl Sp.c z l:=sl_sh (e:=x92) (by kernel_rfl) (λr _ hr=>by
 obtain⟨fs,h1,h2⟩:=xpy (t:=x92) (l:=[(xkv,0),(xkv,1)]) (by kernel_rfl)
 obtain⟨a,b,e⟩:=two_sh h1 h2 (by kernel_rfl) hr
 exact⟨⟨a,b⟩,e⟩) f
theorem scenes_sh{z:AV}(f:Sh Tryz.prog x3 [z]):∃l,Sl Scene.c z l:=sl_sh (e:=x2h) (by kernel_rfl) (λr hl hr=>by
 obtain⟨fs,h1,h2⟩:=xpy (t:=x2h) (l:=[(x7,0),(xkv,1),(xkv,2)]) (by kernel_rfl)
 obtain⟨-,hff⟩:=Sh.struct_inv h1 hr
 have hc:Tryz.prog.cellsOf x2h=3:=by kernel_rfl
 have hci:Tryz.prog.cellsOf xkv=1:=by kernel_rfl
 have hcs:Tryz.prog.cellsOf x7=1:=by kernel_rfl
 rw[hc]at hl
 match r,hl with
 |[x,y,w],_=>
  have:∀p∈fs.toList.map (λf=>(f.type,f.offset)),Sh Tryz.prog p.1 (([x,y,w].drop p.2).take (Tryz.prog.cellsOf p.1)):=λp hp=>by
   obtain⟨f,hf,rfl⟩:=x12r.mp hp
   exact hff f hf
  rw[h2]at this
  have a0:=this _ (x12m ..)
  have a1:=this (xkv,1) (by simp)
  have a2:=this (xkv,2) (by simp)
  simp only[hci,hcs,x12j,x15d,x14u,x146]at a0 a1 a2
  obtain⟨s,hs⟩:=sh_str a0
  obtain⟨p,hp⟩:=xqt a1
  obtain⟨q,hq⟩:=xqt a2
  simp at hs hp hq
  exact⟨⟨s,p,q⟩,by rw[hs,hp,hq];rfl⟩) f
theorem net7_sh{q:List AV}(hq:Sh Tryz.prog x2g q):∃s p l k,q=[s,p]/\Sl Scene.c s l/\Sl Pq.c p k:=by
 obtain⟨fs,h1,h2⟩:=xpy (t:=x2g) (l:=[(x3,0),(x4,1)]) (by kernel_rfl)
 obtain⟨hl,hff⟩:=Sh.struct_inv h1 hq
 have hc:Tryz.prog.cellsOf x2g=2:=by kernel_rfl
 have hc1:Tryz.prog.cellsOf x3=1:=by kernel_rfl
 have hc2:Tryz.prog.cellsOf x4=1:=by kernel_rfl
 rw[hc]at hl
 match q,hl with
 |[x,y],_=>
  have:∀p∈fs.toList.map (λf=>(f.type,f.offset)),Sh Tryz.prog p.1 (([x,y].drop p.2).take (Tryz.prog.cellsOf p.1)):=λp hp=>by
   obtain⟨f,hf,rfl⟩:=x12r.mp hp
   exact hff f hf
  rw[h2]at this
  have a0:=this _ (x12m ..)
  have a1:=this (x4,1) (by simp)
  simp only[hc1,hc2,x12j,x15d,x14u,x146]at a0 a1
  obtain⟨l,hl⟩:=scenes_sh a0
  obtain⟨k,hk⟩:=pairs_sh a1
  exact⟨x,y,l,k,rfl,hl,hk⟩
theorem task7_in{a:AV}(h:ArgSh Tryz.prog x4x a):∃s p ph wt l k f g,a=.agg [s,p,ph,wt]/\Sl Scene.c s l/\Sl Pq.c p k/\Ints ph f/\Ints wt g:=by
 obtain⟨fs,h1,h2⟩:=xpy (t:=x4x) (l:=[(x2g,0),(x2,2),(x2,3)]) (by kernel_rfl)
 obtain⟨q,rfl,hq⟩:=h.struct h1
 obtain⟨hl,hff⟩:=Sh.struct_inv h1 hq
 have hc:Tryz.prog.cellsOf x4x=4:=by kernel_rfl
 have hc1:Tryz.prog.cellsOf x2g=2:=by kernel_rfl
 have hc2:Tryz.prog.cellsOf x2=1:=by kernel_rfl
 rw[hc]at hl
 match q,hl with
 |[x,y,v,w],_=>
  have:∀p∈fs.toList.map (λf=>(f.type,f.offset)),Sh Tryz.prog p.1 (([x,y,v,w].drop p.2).take (Tryz.prog.cellsOf p.1)):=λp hp=>by
   obtain⟨f,hf,rfl⟩:=x12r.mp hp
   exact hff f hf
  rw[h2]at this
  have a0:=this _ (x12m ..)
  have a1:=this (x2,2) (by simp)
  have a2:=this (x2,3) (by simp)
  simp only[hc1,hc2,x12j,x15d,x14u,x146]at a0 a1 a2
  obtain⟨s,p,l,k,e,h3,h4⟩:=net7_sh a0
  obtain⟨f,hf⟩:=xru a1
  obtain⟨g,hg⟩:=xru a2
  simp at e
  obtain⟨rfl,rfl⟩:=e
  exact⟨_,_,v,w,l,k,f,g,rfl,h3,h4,hf,hg⟩
end Go.Proofs.YtdfahbenacjgeaaGreat
set_option linter.unusedSimpArgs false
set_option linter.unusedVariables false
namespace Go.Proofs.YtdfahbenacjgeaaGreat
open Go.ChangeShapes Go.WideShapes Go.ChangeAt Go.RowKit Go.Ix
theorem forests_in{a:AV}(h:ArgSh Tryz.prog xf2 a):∃x y z F G W,a=.agg [x,y,z]/\Ints x F/\Ints y G/\Sl Sp.c z W:=by
 obtain⟨fs,h1,h2⟩:=xpy (t:=xf2) (l:=[(x2,0),(x2,1),(x3r,2)]) (by kernel_rfl)
 obtain⟨q,rfl,hq⟩:=h.struct h1
 obtain⟨hl,hff⟩:=Sh.struct_inv h1 hq
 have hc:Tryz.prog.cellsOf xf2=3:=by kernel_rfl
 have hc2:Tryz.prog.cellsOf x2=1:=by kernel_rfl
 have hc3:Tryz.prog.cellsOf x3r=1:=by kernel_rfl
 rw[hc]at hl
 match q,hl with
 |[x,y,z],_=>
  have:∀p∈fs.toList.map (λf=>(f.type,f.offset)),Sh Tryz.prog p.1 (([x,y,z].drop p.2).take (Tryz.prog.cellsOf p.1)):=λp hp=>by
   obtain⟨f,hf,rfl⟩:=x12r.mp hp
   exact hff f hf
  rw[h2]at this
  have a0:=this (x2,0) (by simp)
  have a1:=this (x2,1) (by simp)
  have a2:=this (x3r,2) (by simp)
  simp only[hc2,hc3,x12j,x15d,x14u,x146]at a0 a1 a2
  obtain⟨F,hF⟩:=xru a0
  obtain⟨G,hG⟩:=xru a1
  obtain⟨W,hW⟩:=steps_sh a2
  exact⟨x,y,z,F,G,W,rfl,hF,hG,hW⟩
end Go.Proofs.YtdfahbenacjgeaaGreat
namespace Go.Ix
open Go.Proofs
theorem mkLit_P{p q:Int}{id:Id}{m:Mem}{R:Type}{k:AV->Mem->Option R}:xl3 [I 0,I 0] [(0,2,.agg [I p,I q])] 1 2 id m k=k (.slit [I p,I q] 1 true) m:=by
 simp[xl3,xle,xld,x15b,clean1,AV.one,Value.oneCell']
theorem InB.get{l:List Scene}(h:InB l){k:Nat}(hk:k<l.length):(0<=l[k].day/\l[k].day<=100000)/\(-100000<=l[k].bl/\l[k].bl<=100000):=h _ (x12s hk)
theorem callR{T:AV->Prop}{call:xk3}{f:FuncId}{l l':List AV}{m:Mem}(hl:l.mapM (Go.Ix.frz m.get deep)=some l')(h:RetF T (call [] f l' mem0)) :
 ∃a m2,T a/\xk4 call f l m=some (a,m2)/\m2.next=m.next/\∀i cs v b,m.get i=some (.row cs v b)->∃b',m2.get i=some (.row cs v b'):=by
 obtain⟨a,m',a',h1,h2,h3⟩:=h
 obtain⟨m2,h4,h5,h6⟩:=xwh hl h1 h2
 exact⟨a',m2,h3,h4,h5,h6⟩
def xph(l:List Scene):Bool:=l.all λs=>decide (s.nm.size<=20)
theorem Scene.stillA(s:Scene):s.c.all still1=true:=rfl
def Pq.v(p:Pq):Value:=.agg [.int .i64 p.a,.int .i64 p.b].toArray
def mpP(E:List (Pq×AV)):List (Value×AV):=E.map λx=>(x.1.v,x.2)
def lkP:List (Pq×AV)->Pq->Option AV
 |[],_=>none
 |x::r,p=>if p.same x.1=true then some x.2 else lkP r p
theorem xrv(p q:Pq):xln p.v q.v=p.same q:=by
 unfold xln Pq.v Pq.same
 simp[xp0]
 by_cases h:p.a=q.a<;>by_cases h2:p.b=q.b<;>simp[h,h2]
theorem find_mpP(E:List (Pq×AV))(p:Pq):findKey p.v (mpP E)=lkP E p:=by
 induction E with
 |nil=>rfl
 |cons x r ih=>
  unfold mpP at ih ⊢
  simp only[x12p,findKey,lkP,xrv]
  rw[ih]
theorem set_mpP(E:List (Pq×AV))(p:Pq)(v:AV)(h:lkP E p=none):setKey p.v v (mpP E)=mpP (E++[(p,v)]):=by
 induction E with
 |nil=>rfl
 |cons x r ih=>
  simp only[lkP]at h
  unfold mpP at ih ⊢
  simp only[x12p,x141,setKey,xrv]
  by_cases c:p.same x.1=true
  .rw[x12c c]at h;cases h
  .rw[x12b c]at h
   rw[x12b c,ih h]
theorem chk_t(p:Pq):(xk9 Tryz.prog (Instr.checkKey true 10000 x6 p.v)).isSome=true:=by kernel_rfl
theorem chk_f(p:Pq):(xk9 Tryz.prog (Instr.checkKey false 10000 x6 p.v)).isSome=true:=by kernel_rfl
theorem equal_pq(p q:Pq):xk9 Tryz.prog (Op.equal x6 p.v q.v)=some (p.same q):=xwl p q
theorem xwo{d:TypeDesc}(hd:Tryz.prog.underlying x6=some d)(E:List (Pq×AV))(p:Pq):xne Tryz.prog x6 d p.v (mpP E)=true:=by
 obtain⟨fs,hf⟩:∃fs,d=.struct fs:=by
  have:((Tryz.prog.underlying x6).bind λd=>match d with | .struct fs=>some ()|_=>none)=some ():=by kernel_rfl
  rw[hd]at this
  cases d<;>first|exact⟨_,rfl⟩|cases this
 subst hf
 have h1:xsf Tryz.prog x6 (.struct fs) p.v (mpP E)=true:=by
  show(xln p.v p.v&&((xk9 Tryz.prog (Instr.checkKey true 10000 x6 p.v)).isSome&&(xk9 Tryz.prog (Instr.checkKey false 10000 x6 p.v)).isSome) &&
   (mpP E).all λe=>match e.1,xk9 Tryz.prog (Op.equal x6 p.v e.1)with
    | .agg _,some b=>b == xln p.v e.1
    |_,_=>false)=true
  rw[chk_t,chk_f,xrv,Pq.same_self]
  simp only[x150,x13l,x12k]
  intro e he
  unfold mpP at he
  obtain⟨x,-,rfl⟩:=x12r.mp he
  rw[equal_pq,xrv]
  show(p.same x.1 == p.same x.1)=true
  simp
 unfold xne
 rw[h1,Bool.or_true]
theorem xwp(p:Pq):xks (.agg p.c)=some p.v:=rfl
theorem um_pq:∃d,Tryz.prog.underlying x6=some d:=by
 obtain⟨d,h⟩:∃d,(Tryz.prog.underlying x6).isSome=d:=⟨_,rfl⟩
 have:(Tryz.prog.underlying x6).isSome=true:=by kernel_rfl
 exact x16m.mp this
theorem look_pq{t et:TypeId}{z:AV}(ht:Tryz.prog.underlying t=some (.map x6 et))(hz:xpm Tryz.prog et=some z)(id:Id)(E:List (Pq×AV))(p:Pq)(ok:Bool)(m:Mem)(h:m.get id=some (.map (mpP E))) :
 xof Tryz.prog t (.mp id) (.agg p.c) ok m=some (if ok then .tup [(lkP E p).getD z,B (lkP E p).isSome]else(lkP E p).getD z):=by
 obtain⟨d,hd⟩:=um_pq
 unfold xof
 simp only[ht,xwp,hd,hz,xo7,h]
 rw[x12c (xwo hd E p),find_mpP]
theorem up_pq{R:Type}{t et:TypeId}(ht:Tryz.prog.underlying t=some (.map x6 et))(id:Id)(E:List (Pq×AV))(p:Pq)(v:AV)(m:Mem)(k:Mem->Option R)(h:m.get id=some (.map (mpP E)))(hn:lkP E p=none) :
 xog Tryz.prog t (.mp id) (.agg p.c) v m k=k (m.set id (.map (mpP (E++[(p,v)])))):=by
 obtain⟨d,hd⟩:=um_pq
 unfold xog
 simp only[ht,xwp,hd,h]
 rw[x12c (xwo hd E p),set_mpP E p v hn]
theorem lkP_app(E:List (Pq×AV))(p q:Pq)(v:AV)(h:lkP E p=none):lkP (E++[(p,v)]) q=if q.same p=true then some v else lkP E q:=by
 induction E with
 |nil=>simp[lkP]
 |cons x r ih=>
  simp only[lkP,x141]at h ⊢
  by_cases c:p.same x.1=true
  .rw[x12c c]at h;cases h
  .rw[x12b c]at h
   rw[ih h]
   by_cases e:q.same x.1=true
   .rw[x12c e,x12b,x12c e]
    intro e2
    rw[Pq.same_iff]at e e2 c
    exact c (by rw[<-e2,e])
   .rw[x12b e,x12b e]
def xnm(n:Int)(P:List Pq):Nat->List Pq->Int×Int
 |_,[]=>(0,0)
 |k,p::r=>
  bif !(wi p.a 0 (n-1))||!(wi p.b 0 (n-1))then((k:Int),6)
  else bif decide (p.b<=p.a)then((k:Int),9)
  else bif(P.take k).any (λq=>q.same p)then((k:Int),28)
  else xnm n P (k+1) r
def net7(l:List Scene)(P:List Pq):Int×Int:=bif !decide ((xm1 l).2=0)then xm1 l else bif decide (200<P.length)then(0,8)else xnm l.length P 0 P
theorem zv_bool:xpm Tryz.prog x11=some (B false):=by kernel_rfl
theorem um_pb:Tryz.prog.underlying xdh=some (.map x6 x11):=by kernel_rfl
theorem xwq{P:List Pq}{k:Nat}(hk:k<P.length)(q:Pq):(P.take (k+1)).any (λx=>x.same q)=((P.take k).any (λx=>x.same q)||P[k].same q):=by
 rw[x12y hk,List.any_append]
 simp
theorem same_symm{p q:Pq}:p.same q=q.same p:=by
 rw[x16z,Pq.same_iff,Pq.same_iff]
 exact eq_comm
def Seen(P:List Pq)(k:Nat)(E:List (Pq×AV)):Prop:=∀q,lkP E q=bif(P.take k).any (λx=>x.same q)then some (B true)else none
theorem xzh(d s24:Nat){s p:AV}{l:List Scene}{P:List Pq}(hs:Sl Scene.c s l)(hp:Sl Pq.c p P)(hl:l.length<=60)(hP:P.length<=200){T:Int×Int} :
 ∀(n k:Nat) (x:Unit) (m:Mem) (fc:Nat),k<=P.length->P.length<n+k->(m.get (0,0,1)=some (.row [s,p] 0 false)/\(∃E,m.get (0,s24,24)=some (.map (mpP E))/\Seen P k E)/\xnm l.length P k (P.drop k)=T) ->
 RetF (λv=>v=.tup [I T.1,I T.2]) (x27 (xk2 (d+2)) [] 0 n (.ptr (0,0,1) 0 0) (.mp (0,s24,24)) p (I P.length) (I k) m fc):=by
 refine xkq (λn k _ m fc=>x27 (xk2 (d+2)) [] 0 n (.ptr (0,0,1) 0 0) (.mp (0,s24,24)) p (I P.length) (I k) m fc)
  (λk _ m=>m.get (0,0,1)=some (.row [s,p] 0 false)/\(∃E,m.get (0,s24,24)=some (.map (mpP E))/\Seen P k E)/\xnm l.length P k (P.drop k)=T) _ ?_ ?_
 .rintro n k-m fc hk ⟨hg,⟨E,hE,hS⟩,hT⟩ next
  have hk':(k:Int)<(P.length:Int):=by omega
  have ix:=hp.ix Pq.len hk
  have ld:=xlt (m:=m) Pq.len (by omega) hk
  rw[xl7 hk]at hT
  have hta:=xwq hk
  generalize P[k]=e at ld hT hta
  simp only[x27]
  unfold x7d
  simp only[xkx,hk',x12o,xku,xka,ix,ld,xrl,xmn,xok,Mem.get_new,x12v,xqr]
  simp(disch:=omega) [Pq.c]
  generalize hm1:Mem.set _ _ _=m1
  have h1:m1.get (0,0,1)=some (.row [s,p] 0 false):=by rw[<-hm1];simp[hg]
  have h8:m1.get (0,fc+4,8)=some (.row [I e.a,I e.b] 0 false):=by rw[<-hm1];simp
  have h24:m1.get (0,s24,24)=some (.map (mpP E)):=by rw[<-hm1];simp[hE]
  have hlk:=look_pq um_pb zv_bool (0,s24,24) E e false m1 h24
  have hse:=hS e
  simp[hg,hs.len xl8]
  rw[xk6 (by omega) (by omega)]
  simp[xon]
  simp only[xnm]at hT
  cases c1:wi e.a 0 ((l.length:Int)-1)with
  |false=>
   simp[c1]at hT ⊢
   exact RetF.tup rfl (by rw[<-hT])
  |true=>
   simp[h8,xon]
   cases c2:wi e.b 0 ((l.length:Int)-1)with
   |false=>
    simp[c1,c2]at hT ⊢
    exact RetF.tup rfl (by rw[<-hT])
   |true=>
    simp[c1,c2]at hT
    simp[h8]
    by_cases c3:e.b<=e.a
    .simp[c3]at hT ⊢
     exact RetF.tup rfl (by rw[<-hT])
    .simp[c3]at hT
     simp[c3,h8]
     rw[show AV.agg [I e.a,I e.b]=.agg e.c from rfl,hlk,hse]
     cases c4:(P.take k).any λx=>x.same e with
     |true=>
      simp[c4]at hT ⊢
      exact RetF.tup rfl (by rw[<-hT])
     |false=>
      rw[c4]at hT hse
      simp[h8]
      rw[up_pq um_pb (0,s24,24) E e (B true) m1 _ h24 hse]
      refine next () _ _ ⟨by simp[h1],⟨E++[(e,B true)],by simp,λq=>?_⟩,hT⟩
      rw[lkP_app E e q _ hse,hta q,hS q,same_symm (p:=e)]
      cases q.same e<;>cases(P.take k).any λx=>x.same q<;>rfl
 .rintro n-m fc ⟨hg,-,hT⟩
  have hk:¬((P.length:Int)<(P.length:Int)):=by omega
  simp only[x27]
  unfold x7d xdg
  rw[x134 (x12f _)]at hT
  simp[hk]
  exact RetF.tup rfl (by rw[<-hT];rfl)
theorem xzi(d:Nat){s p:AV}{l:List Scene}{P:List Pq}(hs:Sl Scene.c s l)(hp:Sl Pq.c p P)(m:Mem):xk4 (xk2 (d+5)) x2q [.agg [s,p]] m=some (.tup [I (net7 l P).1,I (net7 l P).2],m):=by
 refine xlu (by simp[hs.still1,hp.still1]) ?_ m
 rw[xgp]
 unfold xaa x7e net7
 simp[hs.one,hp.one,mem0,xz9 d hs]
 by_cases he:(xm1 l).2=0
 .obtain⟨hl,-⟩:=xts he
  simp[he,hp.len xlc]
  by_cases h200:200<P.length
  .have h2:(200:Int)<(P.length:Int):=by omega
   simp[h200,h2]
   exact RetF.tup rfl rfl
  .have h2:¬(200:Int)<(P.length:Int):=by omega
   simp[h200,h2,xqh]
   unfold xdi
   simp[hp.len xlc]
   exact xzh (d+2) 17 hs hp hl (by omega) NN 0 () _ _ (by omega) (by rw[xkj];omega) ⟨by simp,⟨[],by simp;rfl,λq=>by simp[lkP]⟩,by simp⟩
 .simp[he]
  exact RetF.tup rfl rfl
theorem xrw(d:Nat){s p:AV}{l:List Scene}{P:List Pq}(hs:Sl Scene.c s l)(hp:Sl Pq.c p P)(m:Mem):xk4 (xk2 (d+6)) xk [.agg [s,p]] m=some (I (net7 l P).2,m):=by
 refine xlu (by simp[hs.still1,hp.still1]) ?_ m
 rw[xg1]
 unfold x9m x60
 simp[hs.one,hp.one,mem0,xzi d hs hp]
 exact RetF.st rfl rfl
theorem xzj(d:Nat){s p:AV}{P:List Pq}(hp:Sl Pq.c p P)(hP:P.length<=200){i:Nat}(hi:i<P.length){e:Pq}(s7:Nat)(rec0:AV->AV->Mem->Nat->O2)(Q:O2->Prop){m:Mem}(hg:m.get (0,0,1)=some (.row [s,p] 0 false))(h7:m.get (0,s7,7)=some (.row [I e.a,I e.b] 0 false))(ht:(P.take i).any (λx=>x.same e)=true->Q (some (.tup [I i,I 28],m)))(hf:(P.take i).any (λx=>x.same e)=false->∀fc,Q (rec0 (.ptr (0,0,1) 0 0) (I ((i:Int)+1)) m fc)) :
 ∀(n k:Nat) (x:Unit) (m':Mem) (fc:Nat),k<=i->i<n+k->(m'=m/\(P.take k).any (λx=>x.same e)=false) ->
 Q (x28 (xk2 (d+1)) [] 0 rec0 n (.ptr (0,0,1) 0 0) (I i) (.ptr (0,s7,7) 0 0) (I k) m' fc):=by
 refine xkq (λn k _ m fc=>x28 (xk2 (d+1)) [] 0 rec0 n (.ptr (0,0,1) 0 0) (I i) (.ptr (0,s7,7) 0 0) (I k) m fc) (λk _ m'=>m'=m/\(P.take k).any (λx=>x.same e)=false) Q ?_ ?_
 .rintro n k-m' fc hk ⟨rfl,hA⟩ next
  have hk':(k:Int)<(i:Int):=by omega
  have hk2:k<P.length:=by omega
  have ix:=hp.ix Pq.len hk2
  have ld:=xlt (m:=m') Pq.len (by omega) hk2
  have hta:=xwq hk2 e
  have hts:P[k].same e=true->(P.take i).any (λx=>x.same e)=true:=λh=>by
   rw[x15l]
   exact⟨P[k],by rw[List.mem_take_iff_getElem];exact⟨k,by omega,rfl⟩,h⟩
  generalize P[k]=y at ld hta hts
  have heq:=eq_pair7 (.tmp 69) (.tmp 70) y e
  simp only[x28]
  unfold x7l
  simp[hk',hg,ix,ld,h7]
  rw[show AV.agg [I e.a,I e.b]=.agg e.c from rfl,heq]
  cases c:y.same e with
  |true=>
   simp
   exact ht (hts c)
  |false=>
   simp(disch:=omega) [xk6]
   exact next () _ _ ⟨rfl,by rw[hta,hA,c];rfl⟩
 .rintro n-m' fc ⟨rfl,hA⟩
  simp only[x28]
  unfold x7l xdo
  simp(disch:=omega) [xk6]
  exact hf hA _
theorem xzk(d:Nat){s p:AV}{l:List Scene}{P:List Pq}(hs:Sl Scene.c s l)(hp:Sl Pq.c p P)(hl:l.length<=60)(hP:P.length<=200){T:Int×Int} :
 ∀(n k:Nat) (x:Unit) (m:Mem) (fc:Nat),k<=P.length->P.length<n+k->(m.get (0,0,1)=some (.row [s,p] 0 false)/\xnm l.length P k (P.drop k)=T) ->
 RetF (λv=>v=.tup [I T.1,I T.2]) (x14 (xk2 (d+1)) [] 0 n (.ptr (0,0,1) 0 0) (I k) m fc):=by
 refine xkq (λn k _ m fc=>x14 (xk2 (d+1)) [] 0 n (.ptr (0,0,1) 0 0) (I k) m fc)
  (λk _ m=>m.get (0,0,1)=some (.row [s,p] 0 false)/\xnm l.length P k (P.drop k)=T) _ ?_ ?_
 .rintro n k-m fc hk ⟨hg,hT⟩ next
  have hk':(k:Int)<(P.length:Int):=by omega
  have ix:=hp.ix Pq.len hk
  have ld:=xlt (m:=m) Pq.len (by omega) hk
  rw[xl7 hk]at hT
  generalize P[k]=e at ld hT
  simp only[x14]
  unfold x7m xdp
  simp[hg,hp.len xlc,hs.len xl8,hk',ix,ld,xmn,Pq.c]
  rw[xk6 (by omega) (by omega)]
  simp[xom]
  generalize hm1:Mem.set _ _ _=m1
  have h1:m1.get (0,0,1)=some (.row [s,p] 0 false):=by rw[<-hm1];simp[hg]
  have h7:m1.get (0,fc+5+5,7)=some (.row [I e.a,I e.b] 0 false):=by rw[<-hm1];simp
  simp only[xnm]at hT
  cases c1:wi e.a 0 ((l.length:Int)-1)with
  |false=>
   simp[c1]at hT ⊢
   exact RetF.tup rfl (by rw[<-hT])
  |true=>
   simp[h7,h1,hs.len xl8]
   rw[xk6 (by omega) (by omega)]
   simp[xom]
   cases c2:wi e.b 0 ((l.length:Int)-1)with
   |false=>
    simp[c1,c2]at hT ⊢
    exact RetF.tup rfl (by rw[<-hT])
   |true=>
    simp[c1,c2]at hT
    simp[h7]
    by_cases c3:e.b<=e.a
    .simp[c3]at hT ⊢
     exact RetF.tup rfl (by rw[<-hT])
    .simp[c3]at hT
     simp[c3]
     refine xzj d (s:=s) hp hP hk (fc+5+5) (x14 (xk2 (d+1)) [] 0 n) _ h1 h7 (λha=>?_) (λha fc=>?_) NN 0 () m1 _ (by omega) (by rw[xkj];omega) ⟨rfl,by simp⟩
     .simp[ha]at hT
      exact RetF.tup rfl (by rw[<-hT])
     .rw[ha]at hT
      exact next () m1 fc ⟨h1,hT⟩
 .rintro n-m fc ⟨hg,hT⟩
  have hk:¬((P.length:Int)<(P.length:Int)):=by omega
  simp only[x14]
  unfold x7m xdn
  rw[x134 (x12f _)]at hT
  simp[hk,hg,hp.len xlc]
  exact RetF.tup rfl (by rw[<-hT];rfl)
theorem xzl(d:Nat){s p:AV}{l:List Scene}{P:List Pq}(hs:Sl Scene.c s l)(hp:Sl Pq.c p P)(m:Mem):xk4 (xk2 (d+3)) x2s [.agg [s,p]] m=some (.tup [I (net7 l P).1,I (net7 l P).2],m):=by
 refine xlu (by simp[hs.still1,hp.still1]) ?_ m
 rw[xgu]
 unfold xae x7n net7
 simp[hs.one,hp.one,mem0,xzc d hs]
 by_cases he:(xm1 l).2=0
 .obtain⟨hl,-⟩:=xts he
  simp[he,hp.len xlc]
  by_cases h200:200<P.length
  .have h2:(200:Int)<(P.length:Int):=by omega
   simp[h200,h2]
   exact RetF.tup rfl rfl
  .have h2:¬(200:Int)<(P.length:Int):=by omega
   simp[h200,h2]
   unfold xdq
   exact xzk (d+1) hs hp hl (by omega) NN 0 () _ _ (by omega) (by rw[xkj];omega) ⟨by simp,by simp⟩
 .simp[he]
  exact RetF.tup rfl rfl
theorem w_Err7(d:Nat){s p:AV}{l:List Scene}{P:List Pq}(hs:Sl Scene.c s l)(hp:Sl Pq.c p P)(m:Mem):xk4 (xk2 (d+4)) x2o [.agg [s,p]] m=some (I (net7 l P).2,m):=by
 refine xlu (by simp[hs.still1,hp.still1]) ?_ m
 rw[xgg]
 unfold xa1 x6x
 simp[hs.one,hp.one,mem0,xzl d hs hp]
 exact RetF.st rfl rfl
def few7(l:List Scene)(P:List Pq):Bool:=
 bif(decide (8<l.length)&&decide (l.length<=60))||decide (62<l.length)||(decide (14<P.length)&&decide (P.length<=200))||decide (202<P.length)then false else xph l
theorem w_Few7(d:Nat){s p:AV}{l:List Scene}{P:List Pq}(hs:Sl Scene.c s l)(hp:Sl Pq.c p P)(m:Mem):xk4 (xk2 (d+1)) x2u [.agg [s,p]] m=some (B (few7 l P),m):=by
 refine xlu (by simp[hs.still1,hp.still1]) ?_ m
 rw[xgw]
 unfold xag x7r
 have hb:∀fc,few7 l P=xph l->l.length<=62->RetF (λv=>v=B (few7 l P)) (x7q (xk2 d) [] 0 (.ptr (0,0,1) 0 0) (((⟨[],1⟩:Mem).new (0,0,1) (.row [s,p] 0 false))) fc):=λfc he hl=>by
  rw[he]
  unfold x7q
  obtain⟨m0,hm0⟩:∃m0,m0=(⟨[],1⟩:Mem).new (0,0,1) (.row [s,p] 0 false):=⟨_,rfl⟩
  have hg:m0.get (0,0,1)=some (.row [s,p] 0 false):=by rw[hm0];simp
  rw[<-hm0]
  refine xkq (N:=l.length) (σ:=Unit) (λn k _ m fc=>x43 (xk2 d) [] 0 n (.ptr (0,0,1) 0 0) (I k) m fc) (λk _ m=>m=m0/\xph l=xph (l.drop k)) _ ?_ ?_ NN 0 () m0 _ (by omega) (by rw[xkj];omega) ⟨rfl,by simp⟩
  .rintro n k-m fc hk ⟨rfl,hS⟩ next
   have hk':(k:Int)<(l.length:Int):=by omega
   have ix:=hs.ix Scene.len hk
   have f1:=xmy (enc:=Scene.c) (m:=m) hk 0 rfl
   simp only[x12j]at f1
   have hS':xph l=(decide (l[k].nm.size<=20)&&xph (l.drop (k+1))):=by rw[hS,xl7 hk];rfl
   simp only[x43]
   unfold x7p
   simp only[hg,hs.len xl8,xoj,xlb,xmf,xka,xkx]
   simp[hs.len xl8,hk',ix,f1]
   by_cases c:(20:Int)<(l[k].nm.size:Int)
   .simp[c]
    exact RetF.st rfl (by rw[hS',x14b (show ¬l[k].nm.size<=20 by omega)];rfl)
   .simp(disch:=omega) [c,xk6]
    refine next () m _ ⟨rfl,?_⟩
    rw[hS',x13e (show l[k].nm.size<=20 by omega)];rfl
  .rintro n-m fc ⟨rfl,hS⟩
   have hk:¬((l.length:Int)<(l.length:Int)):=by omega
   simp only[x43]
   unfold x7p xdr
   rw[x134 (x12f _)]at hS
   simp[hg,hs.len xl8,hk]
   exact RetF.st rfl (by rw[hS];rfl)
 have e1:decide ((8:Int)<(l.length:Int))=decide (8<l.length):=decide_eq_decide.mpr (by omega)
 have e2:decide ((l.length:Int)<=60)=decide (l.length<=60):=decide_eq_decide.mpr (by omega)
 have e3:decide ((62:Int)<(l.length:Int))=decide (62<l.length):=decide_eq_decide.mpr (by omega)
 have e4:decide ((14:Int)<(P.length:Int))=decide (14<P.length):=decide_eq_decide.mpr (by omega)
 have e5:decide ((P.length:Int)<=200)=decide (P.length<=200):=decide_eq_decide.mpr (by omega)
 have e6:decide ((202:Int)<(P.length:Int))=decide (202<P.length):=decide_eq_decide.mpr (by omega)
 simp only[mem0,xrp,xtj,x13o,x14l,hs.one,hp.one,x150,xlf,xoj,xlb,xmf,xka,Mem.get_new,x12v,sLe_I,xkx,xpe]
 simp only[x13c,x12j,x146,show Nat.beq 0 0=true from rfl,xlf,rd_f,xka,hs.len xl8,hp.len xlc,xpe,sLe_I,e1,e2,e3,e4,e5,e6]
 have hfe:few7 l P=bif(decide (8<l.length)&&decide (l.length<=60))||decide (62<l.length)||(decide (14<P.length)&&decide (P.length<=200))||decide (202<P.length)then false else xph l:=rfl
 by_cases h62:62<l.length
 .have:¬l.length<=60:=by omega
  have h8:8<l.length:=by omega
  rw[hfe]
  simp[h62,this,h8,e1,e2,e3,hs.len xl8,hp.len xlc,Mem.get_new]
  exact RetF.st rfl rfl
 cases a1:decide (8<l.length)<;>cases a2:decide (l.length<=60)<;>cases a4:decide (14<P.length)<;>cases a5:decide (P.length<=200)<;>cases a6:decide (202<P.length) <;>
  simp only[a1,a2,a4,a5,a6,h62,x13k,x15a,Bool.and_false,x13l,Bool.false_and,Bool.or_true,Bool.or_false,x14i,x15c,xlf,cond_f]at hfe <;>
  simp[a1,a2,a4,a5,a6,h62,e1,e2,e3,e4,e5,e6,hs.len xl8,hp.len xlc,Mem.get_new] <;>
  first
  |exact RetF.st rfl (by rw[hfe])
  |exact hb _ hfe (by omega)
theorem Edge.still(e:Edge):e.c.all still1=true:=rfl
theorem xwr(d:Nat){a:AV}{l:List Int}(h:Ints a l)(hl:l.length<=1000000)(m:Mem):∃a',Ints a' l/\xk4 (xk2 (d+1)) xc [a] m=some (a',m):=by
 have hr:xkg l.length 8:=by unfold xkg;omega
 have he:=h.elems xk7
 by_cases h0:l=[]
 .subst h0
  refine⟨.slit [] 0 true,Sl.lit [] true,call0 (m':=⟨[],1⟩) (by simp[h.still]) ?_ rfl⟩
  rw[xb4]
  unfold x4d x39
  have hr0:xkg 0 8:=by unfold xkg;omega
  simp[mem0,he,xrq hr0]
 .have hq:l.length≠0:=by simpa using h0
  have hlen:=xme xk7 l
  refine⟨.slit (l.flatMap intE) l.length false,Sl.lit l false,xwc (m':=(⟨[],1⟩:Mem).new (0,3,5) (.row (l.flatMap intE) 0 false)) (r:=.sref (0,3,5) 0 0 l.length 1 true) (by simp[h.still]) ?_ ?_⟩
  .rw[xb4]
   unfold x4d x39
   simp[mem0,he,xrq hr,hq,h0]
  .have:=xol (objs:=((⟨[],1⟩:Mem).new (0,3,5) (.row (l.flatMap intE) 0 false)).get) (id:=(0,3,5)) (cs:=l.flatMap intE) (ver:=0) (off:=0) (n:=l.length) (z:=1) (k:=4) (f:=false) (x:=true) (by simp) (by omega) (by
    rw[x12j,x12g (by omega)];exact xny xm5 l)
   rw[x12j,x12g (by omega)]at this
   exact this
def fewE:List Edge->Bool
 |[]=>true
 |e::r=>bif decide (20<e.wt)||decide (5<(e.jump.natAbs:Int))then false else fewE r
def few(n:Int)(l:List Edge):Bool:=
 bif !decide ((checkNet n l).2=0)then decide ((l.length:Int)<=16)||(decide (600<(l.length:Int))&&decide ((l.length:Int)<=602))
 else bif decide (10<n)||decide (16<(l.length:Int))then false else fewE l
theorem xtw{α:Type}{enc:α->List AV}{z bytes:Nat}(hz:∀x,(enc x).length=z){a:AV}{l:List α}(h:Sl enc a l)(hr:xkg l.length bytes)(id:Id)(m:Mem) :
 (l=[]/\∀{R:Type} (k:AV->Mem->Option R),sApp z bytes id (elems m.get z a) (.slit [] 0 true) m k=k (.slit [] 0 true) m) \/
 (l≠[]/\∀{R:Type} (k:AV->Mem->Option R),sApp z bytes id (elems m.get z a) (.slit [] 0 true) m k=k (.sref id 0 0 l.length z true) (m.new id (.row (l.flatMap enc) 0 false))):=by
 have he:=h.elems hz m.get
 by_cases hq:l.length=0
 .refine .inl ⟨x144.mp hq,λk=>?_⟩
  rw[he,xrq hr,x13e hq]
  rfl
 .refine .inr ⟨λe=>hq (by rw[e];rfl),λk=>?_⟩
  rw[he,xrq hr,x14b hq]
  rfl
theorem xoq{α:Type}{enc:α->List AV}{z k:Nat}(hz:∀x,(enc x).length=z)(hs:∀x,(enc x).all still1=true){objs:Id->Option Ob}{id:Id}{l:List α}{x:Bool}(hg:objs id=some (.row (l.flatMap enc) 0 false)) :
 frz objs (k+2) (.sref id 0 0 l.length z x)=some (.slit (l.flatMap enc) l.length false):=by
 have hl:=xme hz l
 have:=xol (objs:=objs) (id:=id) (cs:=l.flatMap enc) (ver:=0) (off:=0) (n:=l.length) (z:=z) (k:=k) (f:=false) (x:=x) hg (by omega) (by
  rw[x12j,x12g (by omega)];exact xny hs l)
 rw[x12j,x12g (by omega)]at this
 exact this
theorem xrx{objs:Id->Option Ob}{a b a' b':AV}{k:Nat}(ha:frz objs (k+1) a=some a')(hb:frz objs (k+1) b=some b'):frz objs (k+2) (.agg [a,b])=some (.agg [a',b']):=by
 show([a,b].mapM (frz objs (k+1))).map AV.agg=_
 simp only[x135,x13p,ha,hb]
 rfl
theorem z_snet:xbi=[nilS,nilS]:=by kernel_rfl
theorem xry(d:Nat){s p:AV}{l:List Scene}{P:List Pq}(hs:Sl Scene.c s l)(hp:Sl Pq.c p P)(hl:l.length<=1000000)(hP:P.length<=1000000)(m:Mem) :
 ∃s' p',Sl Scene.c s' l/\Sl Pq.c p' P/\xk4 (xk2 (d+1)) xe [.agg [s,p]] m=some (.agg [s',p'],m):=by
 have hr:xkg l.length 32:=by unfold xkg;omega
 have hr2:xkg P.length 16:=by unfold xkg;omega
 have key:RetF (λv=>∃s' p',v=.agg [s',p']/\Sl Scene.c s' l/\Sl Pq.c p' P) (xk2 (d+1) [] xe [.agg [s,p]] mem0):=by
  rw[xfo]
  unfold x99 x59
  have a1:=λm=>xtw Scene.len hs hr (0,5,6) m
  have a2:=λm=>xtw Pq.len hp hr2 (0,9,10) m
  have hx:=hs.tX
  have hx2:=hp.tX
  simp[mem0,hs.one,hp.one,z_snet]
  generalize hm1:Mem.new _ _ _=m1
  rcases a1 m1 with ⟨rfl,h1⟩|⟨h0,h1⟩
  .simp only[h1]
   simp[<-hm1]
   rcases a2 m1 with ⟨rfl,h2⟩|⟨h02,h2⟩<;>rw[<-hm1]at h2
   .simp[h2,xkr,xle,sLdP,tR,tA,hx,hx2,xk8,disj,<-hm1]
    exact RetF.st rfl ⟨_,_,rfl,Sl.lit [] true,Sl.lit [] true⟩
   .simp[h2,xkr,xle,sLdP,tR,tA,hx,hx2,xk8,disj,<-hm1]
    refine RetF.mk (xrx rfl (xoq (k:=3) Pq.len Pq.still (x:=true) (l:=P) ?_)) ⟨_,_,rfl,Sl.lit [] true,Sl.lit P false⟩
    simp
  .simp only[h1]
   simp[<-hm1]
   generalize hm2:Mem.new (Mem.new _ _ _) (0,5,6) _=m2
   rcases a2 m2 with ⟨rfl,h2⟩|⟨h02,h2⟩
   .simp only[h2]
    simp[xkr,xle,sLdP,tR,tA,hx,hx2,xk8,disj,<-hm2]
    refine RetF.mk (xrx (xoq (k:=3) Scene.len Scene.stillA (x:=true) (l:=l) ?_) rfl) ⟨_,_,rfl,Sl.lit l false,Sl.lit [] true⟩
    simp
   .simp only[h2]
    simp[xkr,xle,sLdP,tR,tA,hx,hx2,xk8,disj,<-hm2]
    refine RetF.mk (xrx (xoq (k:=3) Scene.len Scene.stillA (x:=true) (l:=l) ?_) (xoq (k:=3) Pq.len Pq.still (x:=true) (l:=P) ?_)) ⟨_,_,rfl,Sl.lit l false,Sl.lit P false⟩<;>simp
 obtain⟨v,⟨s',p',rfl,h1,h2⟩,hc⟩:=xlq (by simp[hs.still1,hp.still1]) key m
 exact⟨s',p',h1,h2,hc⟩
end Go.Ix
namespace Go.Ix
variable{R:Type}{m:Mem}
theorem xo0:∀l:List Int,l.flatMap intE=l.map I
 |[]=>rfl
 |x::l=>by rw[x139,xo0 l];rfl
theorem xo1(l:List Int):(l.flatMap intE).length=l.length:=by rw[xo0];simp
abbrev srI(id:Id)(n:Nat):AV:=.sref id 0 0 n 1 true
theorem ix_own{id:Id}{n:Nat}{k:Int}(h0:0<=k)(hk:k<n):sIx 1 (srI id n) (I k)=some (.ptr id 0 k.toNat):=by
 simp[sIx,asI,h0,hk]
@[simp high] theorem ldRow_int{l:List Int}{k:Nat}{fz:Bool}(hk:k<l.length):xpw false 1 0 k (some (.row (l.flatMap intE) 0 fz))=some (I (at0 l k)):=by
  simp only[xpw,x13j,cond_true,rd,x138,x12w]
  rw[xo0,<-List.map_drop,xl7 hk,xkl hk]
  rfl
@[simp high] theorem stRow_int{l:List Int}{k:Nat}{v:Int}(hk:k<l.length):stRow 1 0 k (I v) (some (.row (l.flatMap intE) 0 false))=some (.row ((l.set k v).flatMap intE) 0 false):=by
  have h:(0:Nat)=0/\(I v).cells.length=1/\k+1<=(l.flatMap intE).length/\((I v).cells.all AV.one)=true:=⟨rfl,rfl,by rw[xo1];omega,rfl⟩
  rw[xqr,x13e h,cond_true]
  simp only[xo0,xkz,xti]
  congr 2
  rw[List.map_set,x176,x12c (by simpa using hk)]
  simp
theorem xrz{l:List Int}{k j:Nat}{v:Int}(hk:k<l.length):at0 (l.set k v) j=if j=k then v else at0 l j:=by
 unfold at0
 rw[x12n,x12n,x15o]
 by_cases h:k=j
 .subst h;simp[hk]
 .rw[x12b h,x12b (λe=>h e.symm)]
def mn(x y:Int):Int:=if y<x then y else x
def xl1(u:List Int)(p:Pq):List Int:=u.map λx=>if x=at0 u p.a.toNat\/x=at0 u p.b.toNat then mn (at0 u p.a.toNat) (at0 u p.b.toNat)else x
def joinsM(u:List Int)(l:List Pq):List Int:=l.foldl xl1 u
def freshM(n:Nat):List Int:=(List.range n).map λ(i:Nat)=>(i:Int)
def PqIn(n:Nat)(p:Pq):Prop:=0<=p.a/\p.a<p.b/\p.b<n
structure Lab (n:Nat) (u:List Int):Prop where
 len:u.length=n
 ok:∀v,v<n->0<=at0 u v/\at0 u v<=v/\at0 u (at0 u v).toNat=at0 u v
theorem xs0(u:List Int)(p:Pq):(xl1 u p).length=u.length:=by unfold xl1;simp
theorem xo2{u:List Int}{p:Pq}{v:Nat}(h:v<u.length):at0 (xl1 u p) v=if at0 u v=at0 u p.a.toNat\/at0 u v=at0 u p.b.toNat then mn (at0 u p.a.toNat) (at0 u p.b.toNat)else at0 u v:=by
 rw[xkl (by rw[xs0];exact h),xkl h]
 unfold xl1
 rw[x167]
theorem mn_or(a b:Int):mn a b=a/\a<=b\/mn a b=b/\b<a:=by
 unfold mn
 split
 .right;exact⟨rfl,by assumption⟩
 .left;exact⟨rfl,by omega⟩
theorem Lab.fresh(n:Nat):Lab n (freshM n):=by
 refine⟨by simp[freshM],λv hv=>?_⟩
 have:∀w,w<n->at0 (freshM n) w=w:=λw hw=>by
  rw[xkl (by simpa[freshM]using hw)]
  simp[freshM]
 rw[this v hv]
 refine⟨by omega,by omega,?_⟩
 rw[x12t,this v hv]
theorem Lab.get_fresh{n v:Nat}(h:v<n):at0 (freshM n) v=v:=by
 rw[xkl (by simpa[freshM]using h)]
 simp[freshM]
theorem Lab.lt{n:Nat}{u:List Int}(h:Lab n u){v:Nat}(hv:v<n):(at0 u v).toNat<n:=by
 have:=h.ok v hv
 omega
theorem Lab.join{n:Nat}{u:List Int}(h:Lab n u){p:Pq}(hp:PqIn n p):Lab n (xl1 u p):=by
 obtain⟨h0,h1,h2⟩:=hp
 have ea:=h.ok p.a.toNat (by omega)
 have eb:=h.ok p.b.toNat (by omega)
 refine⟨by rw[xs0];exact h.len,λv hv=>?_⟩
 have ev:=h.ok v hv
 rw[xo2 (by rw[h.len];exact hv)]
 obtain⟨m,hm⟩:∃m,m=mn (at0 u p.a.toNat) (at0 u p.b.toNat):=⟨_,rfl⟩
 have hmo:=mn_or (at0 u p.a.toNat) (at0 u p.b.toNat)
 rw[<-hm]at hmo ⊢
 by_cases c:at0 u v=at0 u p.a.toNat\/at0 u v=at0 u p.b.toNat
 .rw[x12c c]
  refine⟨by omega,by omega,?_⟩
  rw[xo2 (by rw[h.len];omega),<-hm]
  have:at0 u m.toNat=at0 u p.a.toNat\/at0 u m.toNat=at0 u p.b.toNat:=by
   rcases hmo with ⟨e,-⟩|⟨e,-⟩
   .rw[e,ea.2.2];exact Or.inl rfl
   .rw[e,eb.2.2];exact Or.inr rfl
  rw[x12c this]
 .rw[x12b c]
  refine⟨ev.1,ev.2.1,?_⟩
  rw[xo2 (by rw[h.len];omega),ev.2.2,x12b c]
theorem Lab.joins{n:Nat}:∀{l:List Pq} {u:List Int},Lab n u->(∀p∈l,PqIn n p)->Lab n (joinsM u l)
 |[],_,h,_=>h
 |p::l,u,h,hp=>Lab.joins (l:=l) (h.join (hp p (x12m ..))) λq hq=>hp q (x12l _ hq)
def Sm(u:List Int)(v w:Nat):Prop:=at0 u v=at0 u w
theorem join_aux(x y a b m:Int)(hmo:m=a/\a<=b\/m=b/\b<a):((if x=a\/x=b then m else x)=(if y=a\/y=b then m else y))↔(x=y\/(x=a/\y=b)\/(x=b/\y=a)):=by
 by_cases c1:x=a\/x=b<;>by_cases c2:y=a\/y=b<;>(first|rw[x12c c1]|rw[x12b c1])<;>(first|rw[x12c c2]|rw[x12b c2])<;>omega
theorem xtx{n:Nat}{u:List Int}{p:Pq}(h:Lab n u){v w:Nat}(hv:v<n)(hw:w<n) :
 Sm (xl1 u p) v w↔Sm u v w\/(Sm u v p.a.toNat/\Sm u w p.b.toNat)\/(Sm u v p.b.toNat/\Sm u w p.a.toNat):=by
 unfold Sm
 rw[xo2 (by rw[h.len];exact hv),xo2 (by rw[h.len];exact hw)]
 exact join_aux _ _ _ _ _ (mn_or _ _)
theorem xws(u:List Int)(l k:List Pq):joinsM u (l++k)=joinsM (joinsM u l) k:=by unfold joinsM;rw[x168]
theorem join_mono{n:Nat}{u:List Int}{p:Pq}(h:Lab n u){v w:Nat}(hv:v<n)(hw:w<n)(e:Sm u v w):Sm (xl1 u p) v w:=(xtx h hv hw).mpr (Or.inl e)
theorem xwt{n:Nat}:∀{l:List Pq} {u:List Int},Lab n u->(∀p∈l,PqIn n p)->∀{v w:Nat},v<n->w<n->Sm u v w->Sm (joinsM u l) v w
 |[],_,_,_,_,_,_,_,e=>e
 |p::l,u,h,hp,v,w,hv,hw,e=>xwt (l:=l) (h.join (hp p (x12m ..))) (λq hq=>hp q (x12l _ hq)) hv hw (join_mono h hv hw e)
theorem join_ends{n:Nat}{u:List Int}{p:Pq}(h:Lab n u)(hp:PqIn n p):Sm (xl1 u p) p.a.toNat p.b.toNat:=by
 obtain⟨h0,h1,h2⟩:=hp
 exact(xtx h (by omega) (by omega)).mpr (Or.inr (Or.inl ⟨rfl,rfl⟩))
theorem xor{n:Nat}:∀{l:List Pq} {u:List Int},Lab n u->(∀p∈l,PqIn n p)->∀p∈l,Sm (joinsM u l) p.a.toNat p.b.toNat
 |[],_,_,_,p,hp=>by cases hp
 |q::l,u,h,hp,p,hm=>by
  have hq:=hp q (x12m ..)
  have hl:∀p∈l,PqIn n p:=λp h=>hp p (x12l _ h)
  rcases x12q.mp hm with rfl|hm
  .have:PqIn n p:=hq
   obtain⟨h0,h1,h2⟩:=hq
   exact xwt (l:=l) (h.join this) hl (by omega) (by omega) (join_ends h this)
  .exact xor (h.join hq) hl p hm
theorem xty{n:Nat}{R:Nat->Nat->Prop}(hs:∀{a b},R a b->R b a)(ht:∀{a b c},R a b->R b c->R a c):∀{l:List Pq} {u:List Int},Lab n u->(∀p∈l,PqIn n p)->(∀p∈l,R p.a.toNat p.b.toNat)->(∀v w,v<n->w<n->Sm u v w->R v w)->∀v w,v<n->w<n->Sm (joinsM u l) v w->R v w
 |[],_,_,_,_,h=>h
 |p::l,u,h,hp,hR,hu=>by
  have hq:=hp p (x12m ..)
  refine xty (R:=R) hs ht (l:=l) (h.join hq) (λq hq=>hp q (x12l _ hq)) (λq hq=>hR q (x12l _ hq)) λv w hv hw e=>?_
  obtain⟨h0,h1,h2⟩:=hq
  have hr:=hR p (x12m ..)
  rcases(xtx h hv hw).mp e with e|⟨e1,e2⟩|⟨e1,e2⟩
  .exact hu v w hv hw e
  .exact ht (hu v _ hv (by omega) e1) (ht hr (hs (hu w _ hw (by omega) e2)))
  .exact ht (hu v _ hv (by omega) e1) (ht (hs hr) (hs (hu w _ hw (by omega) e2)))
theorem Lab.ext{n:Nat}{u t:List Int}(h:Lab n u)(k:Lab n t)(he:∀v w,v<n->w<n->(Sm u v w↔Sm t v w)):u=t:=by
 apply x15p
 .rw[h.len,k.len]
 .intro v hv hv'
  rw[h.len]at hv
  rw[<-xkl,<-xkl]
  have a:=h.ok v hv
  have b:=k.ok v hv
  have e1:at0 t (at0 u v).toNat=at0 t v:=(he _ v (by omega) hv).mp (by unfold Sm;exact a.2.2)
  have e2:at0 u (at0 t v).toNat=at0 u v:=(he _ v (by omega) hv).mpr (by unfold Sm;exact b.2.2)
  have a2:=k.ok (at0 u v).toNat (by omega)
  have b2:=h.ok (at0 t v).toNat (by omega)
  omega
def Indep(u:List Int):List Pq->Prop
 |[]=>True
 |p::l=>¬Sm u p.a.toNat p.b.toNat/\Indep (xl1 u p) l
theorem Indep.app{u:List Int}:∀{l k:List Pq} ,Indep u (l++k)↔Indep u l/\Indep (joinsM u l) k:=by
 intro l
 induction l generalizing u with
 |nil=>intro k;simp[Indep,joinsM]
 |cons p l ih=>
  intro k
  simp only[x141,Indep]
  rw[ih]
  simp[joinsM,and_assoc]
def xn0(n:Nat)(u:List Int):Nat:=((List.range n).filter λ(v:Nat)=>decide (at0 u v=(v:Int))).length
theorem count_ne{n:Nat}{p q:Nat->Bool}{w:Nat}(hw:w<n)(h1:p w=true)(h2:q w=false)(h:∀v,v<n->v≠w->p v=q v):((List.range n).filter p).length=((List.range n).filter q).length+1:=by
 induction n with
 |zero=>omega
 |succ n ih=>
  rw[x15b,x14x,x14x,x149,x149]
  by_cases c:w=n
  .subst c
   have e:(List.range w).filter p=(List.range w).filter q:=by
    apply List.filter_congr
    intro v hv
    have:=x132.mp hv
    exact h v (by omega) (by omega)
   rw[e]
   simp[h1,h2]
  .have:=ih (by omega) λv hv=>h v (by omega)
   have e:=h n (by omega) (by omega)
   simp only[x159,e,List.filter_nil]
   omega
theorem xtz{n:Nat}{u:List Int}{p:Pq}(h:Lab n u)(hp:PqIn n p)(hne:¬Sm u p.a.toNat p.b.toNat):xn0 n u=xn0 n (xl1 u p)+1:=by
 have hp':=hp
 obtain⟨h0,h1,h2⟩:=hp
 have ea:=h.ok p.a.toNat (by omega)
 have eb:=h.ok p.b.toNat (by omega)
 unfold Sm at hne
 have hmo:=mn_or (at0 u p.a.toNat) (at0 u p.b.toNat)
 obtain⟨w,hw⟩:∃w:Int,w=if at0 u p.b.toNat<at0 u p.a.toNat then at0 u p.a.toNat else at0 u p.b.toNat:=⟨_,rfl⟩
 have hwor:w=at0 u p.a.toNat/\at0 u p.b.toNat<at0 u p.a.toNat\/w=at0 u p.b.toNat/\at0 u p.a.toNat<at0 u p.b.toNat:=by
  rw[hw];split<;>omega
 unfold xn0
 refine count_ne (w:=w.toNat) (by omega) ?_ ?_ λv hv hne'=>?_
 .rw[x15m]
  rcases hwor with ⟨e,-⟩|⟨e,-⟩
  .rw[e,ea.2.2];omega
  .rw[e,eb.2.2];omega
 .rw[decide_eq_false_iff_not,xo2 (by rw[h.len];omega)]
  have:at0 u w.toNat=w:=by
   rcases hwor with ⟨e,-⟩|⟨e,-⟩
   .rw[e];exact ea.2.2
   .rw[e];exact eb.2.2
  rw[this,x12c (by omega)]
  omega
 .rw[x16z,x15m,x15m,xo2 (by rw[h.len];omega)]
  have ev:=h.ok v hv
  by_cases c:at0 u v=at0 u p.a.toNat\/at0 u v=at0 u p.b.toNat
  .rw[x12c c]
   constructor
   .intro e
    omega
   .intro e
    rcases hmo with ⟨q,-⟩|⟨q,-⟩
    .rw[q]at e;rw[e]at ea;have:=ea.2.2;simpa using this
    .rw[q]at e;rw[e]at eb;have:=eb.2.2;simpa using this
  .rw[x12b c]
theorem xs1{n:Nat}:∀{l:List Pq} {u:List Int},Lab n u->(∀p∈l,PqIn n p)->Indep u l->xn0 n u=xn0 n (joinsM u l)+l.length
 |[],_,_,_,_=>rfl
 |p::l,u,h,hp,hi=>by
  have hq:=hp p (x12m ..)
  have:=xs1 (h.join hq) (λq hq=>hp q (x12l _ hq)) hi.2
  have h1:=xtz h hq hi.1
  have e:joinsM u (p::l)=joinsM (xl1 u p) l:=rfl
  rw[e,x12x]
  omega
theorem xwu(n:Nat):xn0 n (freshM n)=n:=by
 unfold xn0
 have:(List.range n).filter (λ(v:Nat)=>decide (at0 (freshM n) v=(v:Int)))=List.range n:=by
  rw[x15k]
  intro v hv
  rw[Lab.get_fresh (x132.mp hv)]
  simp
 rw[this,List.length_range]
variable{P:List Pq}
def prs(P:List Pq)(F:List Int):List Pq:=F.map (prAt P)
structure For (n:Nat) (P:List Pq) (F:List Int):Prop where
 rng:∀i∈F,0<=i/\i<P.length
 nod:F.Nodup
 ind:Indep (freshM n) (prs P F)
theorem xqu{n:Nat}(hP:∀p∈P,PqIn n p){i:Int}(h:0<=i/\i<P.length):PqIn n (prAt P i):=by
 unfold prAt
 have:i.toNat<P.length:=by omega
 rw[x12n,x12z this]
 exact hP _ (x12s this)
theorem xm2{n:Nat}(hP:∀p∈P,PqIn n p){F:List Int}(h:∀i∈F,0<=i/\i<P.length):∀p∈prs P F,PqIn n p:=λp hp=>by
 obtain⟨i,hi,rfl⟩:=x12r.mp hp
 exact xqu hP (h i hi)
theorem For.take{n:Nat}{F G:List Int}(h:For n P (F++G)):For n P F:=by
 refine⟨λi hi=>h.rng i (x14h _ hi),(x148.mp h.nod).1,?_⟩
 have:=h.ind
 unfold prs at this
 rw[x13q]at this
 exact(Indep.app.mp this).1
theorem For.cut{n:Nat}(hP:∀p∈P,PqIn n p){F:List Int}(h:For n P F):Cut P F:=by
 have main:∀(k:Nat) (F:List Int),F.length=k->For n P F->Cut P F:=by
  intro k
  induction k with
  |zero=>intro F hl _ i hi;rw[x144.mp hl]at hi;cases hi
  |succ k ih=>
   intro F hl h
   obtain⟨G,q,rfl⟩:∃G q,F=G++[q]:=by
    have hne:F≠[]:=by rintro rfl;simp at hl
    exact⟨F.dropLast,F.getLast hne,(x170 hne).symm⟩
   have hG:=h.take
   have hc:=ih G (by simpa using hl) hG
   have hq:=xqu hP (h.rng q (by simp))
   obtain⟨u,hu⟩:∃u,u=joinsM (freshM n) (prs P G):=⟨_,rfl⟩
   have hL:Lab n u:=by rw[hu];exact(Lab.fresh n).joins (xm2 hP hG.rng)
   have hind:=h.ind
   unfold prs at hind
   rw[x13q]at hind
   have hne:¬Sm u (prAt P q).a.toNat (prAt P q).b.toNat:=by
    have:=(Indep.app.mp hind).2
    rw[show List.map (prAt P) [q]=[prAt P q]from rfl]at this
    rw[hu]
    exact this.1
   have hqG:q∉G:=λhm=>(x148.mp h.nod).2.2 q hm q (by simp) rfl
   have hends:∀j∈G,Sm u (prAt P j).a.toNat (prAt P j).b.toNat:=λj hj=>by
    rw[hu]
    exact xor (Lab.fresh n) (xm2 hP hG.rng) _ (x12r.mpr ⟨j,hj,rfl⟩)
   unfold Sm at hne hends
   intro i hi
   rcases x136.mp hi with hi|hi
   .obtain⟨s,h1,h2⟩:=hc i hi
    by_cases c:s (prAt P q).a=s (prAt P q).b
    .refine⟨s,h1,λj hj hji=>?_⟩
     rcases x136.mp hj with hj|hj
     .exact h2 j hj hji
     .simp at hj;subst hj;exact c
    .refine⟨λv=>if at0 u v.toNat=at0 u (prAt P q).b.toNat then !(s v)else s v,?_,λj hj hji=>?_⟩
     .have:=hends i hi
      simp only
      rw[this]
      split
      .simpa using h1
      .exact h1
     .simp only
      rcases x136.mp hj with hj|hj
      .have:=hends j hj
       rw[this,h2 j hj hji]
      .simp at hj;subst hj
       rw[x12b hne,x12c rfl]
       cases h3:s (prAt P j).a<;>cases h4:s (prAt P j).b<;>simp_all
   .simp at hi;subst hi
    refine⟨λv=>decide (at0 u v.toNat=at0 u (prAt P i).a.toNat),?_,λj hj hji=>?_⟩
    .simp[Ne.symm hne]
    .rcases x136.mp hj with hj|hj
     .simp only;rw[hends j hj]
     .simp at hj;exact absurd hj hji
 exact main _ F rfl h
theorem xs2{n:Nat}(hP:∀p∈P,PqIn n p){F:List Int}(hr:∀i∈F,0<=i/\i<P.length):∀{v w:Nat},v<n->w<n->Sm (joinsM (freshM n) (prs P F)) v w->∃l,Wk P l v w/\AllF F l:=by
 intro v w hv hw hs
 let R:Nat->Nat->Prop:=λv w=>∃l,Wk P l v w/\AllF F l
 have hsym:∀{a b},R a b->R b a:=λ⟨l,h1,h2⟩=>by
  obtain⟨v,h3,h4⟩:=h1.back h2
  exact⟨v,h3,h4⟩
 have htr:∀{a b c},R a b->R b c->R a c:=λ⟨l,h1,h2⟩ ⟨k,h3,h4⟩=>⟨l++k,h1.app h3,h2.app h4⟩
 refine xty (R:=R) hsym htr (Lab.fresh n) (xm2 hP hr) (λp hp=>?_) (λv w hv hw e=>?_) v w hv hw hs
 .obtain⟨i,hi,rfl⟩:=x12r.mp hp
  have hq:=xqu hP (hr i hi)
  obtain⟨h0,h1,h2⟩:=hq
  refine⟨[⟨i,1⟩],⟨?_,?_⟩,λx hx=>?_⟩
  .unfold frS;simp;omega
  .show toS P ⟨i,1⟩=_
   unfold toS;simp;omega
  .simp at hx;subst hx;exact⟨hi,Or.inl rfl⟩
 .unfold Sm at e
  rw[Lab.get_fresh hv,Lab.get_fresh hw]at e
  exact⟨[],by show(v:Int)=w;exact e,λ_ h=>by cases h⟩
theorem For.len{n:Nat}(hP:∀p∈P,PqIn n p){F:List Int}(h:For n P F):F.length<=n:=by
 have:=xs1 (Lab.fresh n) (xm2 hP h.rng) h.ind
 rw[xwu]at this
 have e:(prs P F).length=F.length:=by unfold prs;simp
 omega
end Go.Ix
