import Derived.Test.YtpeakdjfagbpcaaGreatRows
import Derived.Test.YtpeakdjfagbpcaaGreatFxLaw
import Derived.Test.YtpeakdjfagbpcaaGreatWg0
import Derived.Test.YtpeakdjfagbpcaaGreatWg1
import Derived.ProofKit
set_option maxRecDepth 100000
namespace Go.Proofs.YtpeakdjfagbpcaaGreat
open Go.ChangeShapes Go.WideShapes Go.ChangeAt Go.RowKit Go.Ix
theorem Tryz.own:ownKnob Tryz.prog.godebug=none:=by kernel_rfl
theorem Tryz.laidOut:laidOutB Tryz.prog=true:=by kernel_rfl
theorem x1a7{q:List AV}(h:Sh Tryz.prog x13x q):∃n,q=[I n]:=by
 obtain⟨n,h,-⟩:=Sh.int_inv (t:=x13x) (k:=.i64) (by kernel_rfl) h
 exact⟨n,h⟩
theorem sh_str{q:List AV}(h:Sh Tryz.prog xh q):∃s,q=[T s]:=by
 have ht:Tryz.prog.underlying xh=some .string:=by kernel_rfl
 cases h with
 |string h' s hs=>exact⟨s,rfl⟩
 |int h'=>rw[ht]at h';cases h'
 |nilS h'=>rw[ht]at h';cases h'
 |slice h'=>rw[ht]at h';cases h'
 |bool h'=>rw[ht]at h';cases h'
 |float h'=>rw[ht]at h';cases h'
 |struct h'=>rw[ht]at h';cases h'
 |array h'=>rw[ht]at h';cases h'
theorem sl_sh{α:Type}{enc:α->List AV}{P:Program}{t e:TypeId}{z:AV}(ht:P.underlying t=some (.slice e))(hr:∀r,r.length=P.cellsOf e->Sh P e r->∃x,r=enc x)(f:Sh P t [z]):∃l,Sl enc z l:=by
 rcases Sh.slice_inv ht f with h1|⟨rows,x,h1,h2,h3,h4⟩
 .simp at h1;exact⟨[],Or.inl ⟨h1,rfl⟩⟩
 .obtain⟨l,rfl⟩:=x1es (enc:=enc) fun r hm=>hr r (h2 r hm) (h3 r hm)
  simp at h1
  exact⟨l,Or.inr ⟨x,by simpa[List.flatMap]using h1⟩⟩
theorem ints_sh{z:AV}(f:Sh Tryz.prog x2 [z]):∃l,Ints z l:=sl_sh (e:=x13x) (by kernel_rfl) (fun _ _ hr=>x1a7 hr) f
theorem two_sh{t:TypeId}{fs:Array Field}{r:List AV}(ht:Tryz.prog.underlying t=some (.struct fs))(hf:(fs.toList.map fun f=>(f.type,f.offset))=[(x13x,0),(x13x,1)])(hc:Tryz.prog.cellsOf t=2)(h:Sh Tryz.prog t r):∃a b,r=[I a,I b]:=by
 obtain⟨hl,hff⟩:=Sh.struct_inv ht h
 rw[hc]at hl
 have hci:Tryz.prog.cellsOf x13x=1:=by kernel_rfl
 match r,hl with
 |[x,y],_=>
  have:∀p∈fs.toList.map (fun f=>(f.type,f.offset)),Sh Tryz.prog p.1 (([x,y].drop p.2).take (Tryz.prog.cellsOf p.1)):=fun p hp=>by
   obtain⟨f,hf,rfl⟩:=List.mem_map.mp hp
   exact hff f hf
  rw[hf]at this
  have a1:=this _ (List.mem_cons_self ..)
  have a2:=this (x13x,1) (by simp)
  simp only[hci,List.drop_zero,List.take_succ_cons,List.take_zero,List.drop_succ_cons]at a1 a2
  obtain⟨p,hp⟩:=x1a7 a1
  obtain⟨q,hq⟩:=x1a7 a2
  simp at hp hq
  exact⟨p,q,by rw[hp,hq]⟩
theorem fs_of{t:TypeId}{l:List (TypeId×Nat)}(h:((Tryz.prog.underlying t).bind fun d=>match d with | .struct fs=>some (fs.toList.map fun f=>(f.type,f.offset))|_=>none)=some l):∃fs,Tryz.prog.underlying t=some (.struct fs)/\(fs.toList.map fun f=>(f.type,f.offset))=l:=by
 cases hu:Tryz.prog.underlying t with
 |none=>rw[hu]at h;cases h
 |some d=>
  rw[hu]at h
  cases d<;>first|exact⟨_,rfl,by simpa using h⟩|cases h
theorem pairs_sh{z:AV}(f:Sh Tryz.prog x5 [z]):∃l,Sl Pq.c z l:=sl_sh (e:=x8) (by kernel_rfl) (fun r _ hr=>by
 obtain⟨fs,h1,h2⟩:=fs_of (t:=x8) (l:=[(x13x,0),(x13x,1)]) (by kernel_rfl)
 obtain⟨a,b,e⟩:=two_sh h1 h2 (by kernel_rfl) hr
 exact⟨⟨a,b⟩,e⟩) f
theorem steps_sh{z:AV}(f:Sh Tryz.prog x9 [z]):∃l,Sl Sp.c z l:=sl_sh (e:=x1k) (by kernel_rfl) (fun r _ hr=>by
 obtain⟨fs,h1,h2⟩:=fs_of (t:=x1k) (l:=[(x13x,0),(x13x,1)]) (by kernel_rfl)
 obtain⟨a,b,e⟩:=two_sh h1 h2 (by kernel_rfl) hr
 exact⟨⟨a,b⟩,e⟩) f
theorem steps_in{a:AV}(h:ArgSh Tryz.prog x9 a):∃l,Sl Sp.c a l:=steps_sh (h.slice (t:=x9) (e:=x1k) (by kernel_rfl))
theorem scenes_sh{z:AV}(f:Sh Tryz.prog x7 [z]):∃l,Sl Scene.c z l:=sl_sh (e:=x47) (by kernel_rfl) (fun r hl hr=>by
 obtain⟨fs,h1,h2⟩:=fs_of (t:=x47) (l:=[(xh,0),(x13x,1),(x13x,2)]) (by kernel_rfl)
 obtain⟨-,hff⟩:=Sh.struct_inv h1 hr
 have hc:Tryz.prog.cellsOf x47=3:=by kernel_rfl
 have hci:Tryz.prog.cellsOf x13x=1:=by kernel_rfl
 have hcs:Tryz.prog.cellsOf xh=1:=by kernel_rfl
 rw[hc]at hl
 match r,hl with
 |[x,y,w],_=>
  have:∀p∈fs.toList.map (fun f=>(f.type,f.offset)),Sh Tryz.prog p.1 (([x,y,w].drop p.2).take (Tryz.prog.cellsOf p.1)):=fun p hp=>by
   obtain⟨f,hf,rfl⟩:=List.mem_map.mp hp
   exact hff f hf
  rw[h2]at this
  have a0:=this _ (List.mem_cons_self ..)
  have a1:=this (x13x,1) (by simp)
  have a2:=this (x13x,2) (by simp)
  simp only[hci,hcs,List.drop_zero,List.take_succ_cons,List.take_zero,List.drop_succ_cons]at a0 a1 a2
  obtain⟨s,hs⟩:=sh_str a0
  obtain⟨p,hp⟩:=x1a7 a1
  obtain⟨q,hq⟩:=x1a7 a2
  simp at hs hp hq
  exact⟨⟨s,p,q⟩,by rw[hs,hp,hq];rfl⟩) f
theorem net7_sh{q:List AV}(hq:Sh Tryz.prog x46 q):∃s p l k,q=[s,p]/\Sl Scene.c s l/\Sl Pq.c p k:=by
 obtain⟨fs,h1,h2⟩:=fs_of (t:=x46) (l:=[(x7,0),(x5,1)]) (by kernel_rfl)
 obtain⟨hl,hff⟩:=Sh.struct_inv h1 hq
 have hc:Tryz.prog.cellsOf x46=2:=by kernel_rfl
 have hc1:Tryz.prog.cellsOf x7=1:=by kernel_rfl
 have hc2:Tryz.prog.cellsOf x5=1:=by kernel_rfl
 rw[hc]at hl
 match q,hl with
 |[x,y],_=>
  have:∀p∈fs.toList.map (fun f=>(f.type,f.offset)),Sh Tryz.prog p.1 (([x,y].drop p.2).take (Tryz.prog.cellsOf p.1)):=fun p hp=>by
   obtain⟨f,hf,rfl⟩:=List.mem_map.mp hp
   exact hff f hf
  rw[h2]at this
  have a0:=this _ (List.mem_cons_self ..)
  have a1:=this (x5,1) (by simp)
  simp only[hc1,hc2,List.drop_zero,List.take_succ_cons,List.take_zero,List.drop_succ_cons]at a0 a1
  obtain⟨l,hl⟩:=scenes_sh a0
  obtain⟨k,hk⟩:=pairs_sh a1
  exact⟨x,y,l,k,rfl,hl,hk⟩
theorem task7_in{a:AV}(h:ArgSh Tryz.prog x66 a):∃s p ph wt l k f g,a=.agg [s,p,ph,wt]/\Sl Scene.c s l/\Sl Pq.c p k/\Ints ph f/\Ints wt g:=by
 obtain⟨fs,h1,h2⟩:=fs_of (t:=x66) (l:=[(x46,0),(x2,2),(x2,3)]) (by kernel_rfl)
 obtain⟨q,rfl,hq⟩:=h.struct h1
 obtain⟨hl,hff⟩:=Sh.struct_inv h1 hq
 have hc:Tryz.prog.cellsOf x66=4:=by kernel_rfl
 have hc1:Tryz.prog.cellsOf x46=2:=by kernel_rfl
 have hc2:Tryz.prog.cellsOf x2=1:=by kernel_rfl
 rw[hc]at hl
 match q,hl with
 |[x,y,v,w],_=>
  have:∀p∈fs.toList.map (fun f=>(f.type,f.offset)),Sh Tryz.prog p.1 (([x,y,v,w].drop p.2).take (Tryz.prog.cellsOf p.1)):=fun p hp=>by
   obtain⟨f,hf,rfl⟩:=List.mem_map.mp hp
   exact hff f hf
  rw[h2]at this
  have a0:=this _ (List.mem_cons_self ..)
  have a1:=this (x2,2) (by simp)
  have a2:=this (x2,3) (by simp)
  simp only[hc1,hc2,List.drop_zero,List.take_succ_cons,List.take_zero,List.drop_succ_cons]at a0 a1 a2
  obtain⟨s,p,l,k,e,h3,h4⟩:=net7_sh a0
  obtain⟨f,hf⟩:=ints_sh a1
  obtain⟨g,hg⟩:=ints_sh a2
  simp at e
  obtain⟨rfl,rfl⟩:=e
  exact⟨_,_,v,w,l,k,f,g,rfl,h3,h4,hf,hg⟩
end Go.Proofs.YtpeakdjfagbpcaaGreat
set_option linter.unusedSimpArgs false
set_option linter.unusedVariables false
namespace Go.Ix
open Go.Proofs
theorem x1a8{p q:Int}{id:Id}{m:Mem}{R:Type}{k:AV->Mem->Option R}:x14a [I 0,I 0] [(0,2,.agg [I p,I q])] 1 2 id m k=k (.slit [I p,I q] 1 true) m:=by
 simp[x14a,x14k,x149,List.range_succ,clean1,AV.one,Value.oneCell']
theorem InB.get{l:List Scene}(h:InB l){k:Nat}(hk:k<l.length):(0<=l[k].day/\l[k].day<=100000)/\(-100000<=l[k].bl/\l[k].bl<=100000):=h _ (List.getElem_mem hk)
theorem e_awake7:((x13e 30 [] xas [] mem0).map (fun p=>p.1))=some (B true):=by kernel_rfl
theorem w_awake7(m:Mem):x13f (x13e 30) xas [] m=some (B true,m):=by
 have h:=e_awake7
 rw[Option.map_eq_some_iff]at h
 obtain⟨⟨r,m'⟩,h1,rfl⟩:=h
 exact call0 rfl h1 rfl
def x189(l:List Scene):Bool:=l.all fun s=>decide (s.nm.size<=20)
theorem Scene.stillA(s:Scene):s.c.all still1=true:=rfl
def Pq.v(p:Pq):Value:=.agg [.int .i64 p.a,.int .i64 p.b].toArray
def mpP(E:List (Pq×AV)):List (Value×AV):=E.map fun x=>(x.1.v,x.2)
def lkP:List (Pq×AV)->Pq->Option AV
 |[],_=>none
 |x::r,p=>if p.same x.1=true then some x.2 else lkP r p
theorem x1b3(p q:Pq):x14r p.v q.v=p.same q:=by
 unfold x14r Pq.v Pq.same
 simp[x17p]
 by_cases h:p.a=q.a<;>by_cases h2:p.b=q.b<;>simp[h,h2]
theorem find_mpP(E:List (Pq×AV))(p:Pq):findKey p.v (mpP E)=lkP E p:=by
 induction E with
 |nil=>rfl
 |cons x r ih=>
  unfold mpP at ih ⊢
  simp only[List.map_cons,findKey,lkP,x1b3]
  rw[ih]
theorem set_mpP(E:List (Pq×AV))(p:Pq)(v:AV)(h:lkP E p=none):setKey p.v v (mpP E)=mpP (E++[(p,v)]):=by
 induction E with
 |nil=>rfl
 |cons x r ih=>
  simp only[lkP]at h
  unfold mpP at ih ⊢
  simp only[List.map_cons,List.cons_append,setKey,x1b3]
  by_cases c:p.same x.1=true
  .rw[if_pos c]at h;cases h
  .rw[if_neg c]at h
   rw[if_neg c,ih h]
theorem chk_t(p:Pq):(x13h Tryz.prog (Instr.checkKey true 10000 x8 p.v)).isSome=true:=by kernel_rfl
theorem chk_f(p:Pq):(x13h Tryz.prog (Instr.checkKey false 10000 x8 p.v)).isSome=true:=by kernel_rfl
theorem equal_pq(p q:Pq):x13h Tryz.prog (Op.equal x8 p.v q.v)=some (p.same q):=x1fh p q
theorem x1fl{d:TypeDesc}(hd:Tryz.prog.underlying x8=some d)(E:List (Pq×AV))(p:Pq):x176 Tryz.prog x8 d p.v (mpP E)=true:=by
 obtain⟨fs,hf⟩:∃fs,d=.struct fs:=by
  have:((Tryz.prog.underlying x8).bind fun d=>match d with | .struct fs=>some ()|_=>none)=some ():=by kernel_rfl
  rw[hd]at this
  cases d<;>first|exact⟨_,rfl⟩|cases this
 subst hf
 have h1:x1bh Tryz.prog x8 (.struct fs) p.v (mpP E)=true:=by
  show(x14r p.v p.v&&((x13h Tryz.prog (Instr.checkKey true 10000 x8 p.v)).isSome&&(x13h Tryz.prog (Instr.checkKey false 10000 x8 p.v)).isSome) &&
   (mpP E).all fun e=>match e.1,x13h Tryz.prog (Op.equal x8 p.v e.1)with
    | .agg _,some b=>b == x14r p.v e.1
    |_,_=>false)=true
  rw[chk_t,chk_f,x1b3,Pq.same_self]
  simp only[Bool.and_self,Bool.true_and,List.all_eq_true]
  intro e he
  unfold mpP at he
  obtain⟨x,-,rfl⟩:=List.mem_map.mp he
  rw[equal_pq,x1b3]
  show(p.same x.1 == p.same x.1)=true
  simp
 unfold x176
 rw[h1,Bool.or_true]
theorem x1fm(p:Pq):x13t (.agg p.c)=some p.v:=rfl
theorem um_pq:∃d,Tryz.prog.underlying x8=some d:=by
 obtain⟨d,h⟩:∃d,(Tryz.prog.underlying x8).isSome=d:=⟨_,rfl⟩
 have:(Tryz.prog.underlying x8).isSome=true:=by kernel_rfl
 exact Option.isSome_iff_exists.mp this
theorem look_pq{t et:TypeId}{z:AV}(ht:Tryz.prog.underlying t=some (.map x8 et))(hz:x19g Tryz.prog et=some z)(id:Id)(E:List (Pq×AV))(p:Pq)(ok:Bool)(m:Mem)(h:m.get id=some (.map (mpP E))) :
 sLook Tryz.prog t (.mp id) (.agg p.c) ok m=some (if ok then .tup [(lkP E p).getD z,B (lkP E p).isSome]else(lkP E p).getD z):=by
 obtain⟨d,hd⟩:=um_pq
 unfold sLook
 simp only[ht,x1fm,hd,hz,x17q,h]
 rw[if_pos (x1fl hd E p),find_mpP]
theorem up_pq{R:Type}{t et:TypeId}(ht:Tryz.prog.underlying t=some (.map x8 et))(id:Id)(E:List (Pq×AV))(p:Pq)(v:AV)(m:Mem)(k:Mem->Option R)(h:m.get id=some (.map (mpP E)))(hn:lkP E p=none) :
 x19r Tryz.prog t (.mp id) (.agg p.c) v m k=k (m.set id (.map (mpP (E++[(p,v)])))):=by
 obtain⟨d,hd⟩:=um_pq
 unfold x19r
 simp only[ht,x1fm,hd,h]
 rw[if_pos (x1fl hd E p),set_mpP E p v hn]
theorem lkP_app(E:List (Pq×AV))(p q:Pq)(v:AV)(h:lkP E p=none):lkP (E++[(p,v)]) q=if q.same p=true then some v else lkP E q:=by
 induction E with
 |nil=>simp[lkP]
 |cons x r ih=>
  simp only[lkP,List.cons_append]at h ⊢
  by_cases c:p.same x.1=true
  .rw[if_pos c]at h;cases h
  .rw[if_neg c]at h
   rw[ih h]
   by_cases e:q.same x.1=true
   .rw[if_pos e,if_neg,if_pos e]
    intro e2
    rw[Pq.same_iff]at e e2 c
    exact c (by rw[<-e2,e])
   .rw[if_neg e,if_neg e]
def x16n(n:Int)(P:List Pq):Nat->List Pq->Int×Int
 |_,[]=>(0,0)
 |k,p::r=>
  bif !(wi p.a 0 (n-1))||!(wi p.b 0 (n-1))then((k:Int),6)
  else bif decide (p.b<=p.a)then((k:Int),9)
  else bif(P.take k).any (fun q=>q.same p)then((k:Int),28)
  else x16n n P (k+1) r
def net7(l:List Scene)(P:List Pq):Int×Int:=bif !decide ((x150 l).2=0)then x150 l else bif decide (200<P.length)then(0,8)else x16n l.length P 0 P
theorem zv_bool:x19g Tryz.prog x65=some (B false):=by kernel_rfl
theorem um_pb:Tryz.prog.underlying xc8=some (.map x8 x65):=by kernel_rfl
theorem x1fn{P:List Pq}{k:Nat}(hk:k<P.length)(q:Pq):(P.take (k+1)).any (fun x=>x.same q)=((P.take k).any (fun x=>x.same q)||P[k].same q):=by
 rw[List.take_succ_eq_append_getElem hk,List.any_append]
 simp
theorem same_symm{p q:Pq}:p.same q=q.same p:=by
 rw[Bool.eq_iff_iff,Pq.same_iff,Pq.same_iff]
 exact eq_comm
def Seen(P:List Pq)(k:Nat)(E:List (Pq×AV)):Prop:=∀q,lkP E q=bif(P.take k).any (fun x=>x.same q)then some (B true)else none
theorem x1i7(d s24:Nat){s p:AV}{l:List Scene}{P:List Pq}(hs:Sl Scene.c s l)(hp:Sl Pq.c p P)(hl:l.length<=60)(hP:P.length<=200){T:Int×Int} :
 ∀(n k:Nat) (x:Unit) (m:Mem) (fc:Nat),k<=P.length->P.length<n+k->(m.get (0,0,1)=some (.row [s,p] 0 false)/\(∃E,m.get (0,s24,24)=some (.map (mpP E))/\Seen P k E)/\x16n l.length P k (P.drop k)=T) ->
 RetF (fun v=>v=.tup [I T.1,I T.2]) (x1t (x13e (d+2)) [] 0 n (.ptr (0,0,1) 0 0) (.mp (0,s24,24)) p (I P.length) (I k) m fc):=by
 refine x142 (fun n k _ m fc=>x1t (x13e (d+2)) [] 0 n (.ptr (0,0,1) 0 0) (.mp (0,s24,24)) p (I P.length) (I k) m fc)
  (fun k _ m=>m.get (0,0,1)=some (.row [s,p] 0 false)/\(∃E,m.get (0,s24,24)=some (.map (mpP E))/\Seen P k E)/\x16n l.length P k (P.drop k)=T) _ ?_ ?_
 .rintro n k-m fc hk ⟨hg,⟨E,hE,hS⟩,hT⟩ next
  have hk':(k:Int)<(P.length:Int):=by omega
  have ix:=hp.ix Pq.len hk
  have ld:=x14s (m:=m) Pq.len (by omega) hk
  rw[x14f hk]at hT
  have hta:=x1fn hk
  generalize P[k]=e at ld hT hta
  simp only[x1t]
  unfold x87
  simp only[x14b,hk',decide_true,x14c,x13n,ix,ld,x1ay,x16m,x184,Mem.get_new,if_true,x1a2]
  simp(disch:=omega) [Pq.c]
  generalize hm1:Mem.set _ _ _=m1
  have h1:m1.get (0,0,1)=some (.row [s,p] 0 false):=by rw[<-hm1];simp[hg]
  have h8:m1.get (0,fc+4,8)=some (.row [I e.a,I e.b] 0 false):=by rw[<-hm1];simp
  have h24:m1.get (0,s24,24)=some (.map (mpP E)):=by rw[<-hm1];simp[hE]
  have hlk:=look_pq um_pb zv_bool (0,s24,24) E e false m1 h24
  have hse:=hS e
  simp[hg,hs.len x14p]
  rw[x13j (by omega) (by omega)]
  simp[x197]
  simp only[x16n]at hT
  cases c1:wi e.a 0 ((l.length:Int)-1)with
  |false=>
   simp[c1]at hT ⊢
   exact RetF.tup rfl (by rw[<-hT])
  |true=>
   simp[h8,x197]
   cases c2:wi e.b 0 ((l.length:Int)-1)with
   |false=>
    simp[c1,c2]at hT ⊢
    exact RetF.tup rfl (by rw[<-hT])
   |true=>
    simp[c1,c2]at hT
    simp[h8]
    by_cases c3:e.b<=e.a
    .simp[c3]at hT ⊢
     exact RetF.tup rfl (by rw[<-hT])
    .simp[c3]at hT
     simp[c3,h8]
     rw[show AV.agg [I e.a,I e.b]=.agg e.c from rfl,hlk,hse]
     cases c4:(P.take k).any fun x=>x.same e with
     |true=>
      simp[c4]at hT ⊢
      exact RetF.tup rfl (by rw[<-hT])
     |false=>
      rw[c4]at hT hse
      simp[h8]
      rw[up_pq um_pb (0,s24,24) E e (B true) m1 _ h24 hse]
      refine next () _ _ ⟨by simp[h1],⟨E++[(e,B true)],by simp,fun q=>?_⟩,hT⟩
      rw[lkP_app E e q _ hse,hta q,hS q,same_symm (p:=e)]
      cases q.same e<;>cases(P.take k).any fun x=>x.same q<;>rfl
 .rintro n-m fc ⟨hg,-,hT⟩
  have hk:¬((P.length:Int)<(P.length:Int)):=by omega
  simp only[x1t]
  unfold x87 x33
  rw[List.drop_of_length_le (Nat.le_refl _)]at hT
  simp[hk]
  exact RetF.tup rfl (by rw[<-hT];rfl)
theorem x1i8(d:Nat){s p:AV}{l:List Scene}{P:List Pq}(hs:Sl Scene.c s l)(hp:Sl Pq.c p P)(m:Mem):x13f (x13e (d+5)) x4t [.agg [s,p]] m=some (.tup [I (net7 l P).1,I (net7 l P).2],m):=by
 refine x14g (by simp[hs.still1,hp.still1]) ?_ m
 rw[xmp]
 unfold xa9 xc9 net7
 simp[hs.one,hp.one,mem0,x1hz d hs]
 by_cases he:(x150 l).2=0
 .obtain⟨hl,-⟩:=x1co he
  simp[he,hp.len x14n]
  by_cases h200:200<P.length
  .have h2:(200:Int)<(P.length:Int):=by omega
   simp[h200,h2]
   exact RetF.tup rfl rfl
  .have h2:¬(200:Int)<(P.length:Int):=by omega
   simp[h200,h2,sMkMap]
   unfold x88
   simp[hp.len x14n]
   exact x1i7 (d+2) 17 hs hp hl (by omega) NN 0 () _ _ (by omega) (by rw[x13p];omega) ⟨by simp,⟨[],by simp;rfl,fun q=>by simp[lkP]⟩,by simp⟩
 .simp[he]
  exact RetF.tup rfl rfl
theorem x1fo(d:Nat){s p:AV}{l:List Scene}{P:List Pq}(hs:Sl Scene.c s l)(hp:Sl Pq.c p P)(m:Mem):x13f (x13e (d+6)) x3m [.agg [s,p]] m=some (I (net7 l P).2,m):=by
 refine x14g (by simp[hs.still1,hp.still1]) ?_ m
 rw[xm3]
 unfold x9n xbm
 simp[hs.one,hp.one,mem0,x1i8 d hs hp]
 exact RetF.st rfl rfl
theorem x1i9(d:Nat){s p:AV}{P:List Pq}(hp:Sl Pq.c p P)(hP:P.length<=200){i:Nat}(hi:i<P.length){e:Pq}(s7:Nat)(rec0:AV->AV->Mem->Nat->O2)(Q:O2->Prop){m:Mem}(hg:m.get (0,0,1)=some (.row [s,p] 0 false))(h7:m.get (0,s7,7)=some (.row [I e.a,I e.b] 0 false))(ht:(P.take i).any (fun x=>x.same e)=true->Q (some (.tup [I i,I 28],m)))(hf:(P.take i).any (fun x=>x.same e)=false->∀fc,Q (rec0 (.ptr (0,0,1) 0 0) (I ((i:Int)+1)) m fc)) :
 ∀(n k:Nat) (x:Unit) (m':Mem) (fc:Nat),k<=i->i<n+k->(m'=m/\(P.take k).any (fun x=>x.same e)=false) ->
 Q (x1n (x13e (d+1)) [] 0 rec0 n (.ptr (0,0,1) 0 0) (I i) (.ptr (0,s7,7) 0 0) (I k) m' fc):=by
 refine x142 (fun n k _ m fc=>x1n (x13e (d+1)) [] 0 rec0 n (.ptr (0,0,1) 0 0) (I i) (.ptr (0,s7,7) 0 0) (I k) m fc) (fun k _ m'=>m'=m/\(P.take k).any (fun x=>x.same e)=false) Q ?_ ?_
 .rintro n k-m' fc hk ⟨rfl,hA⟩ next
  have hk':(k:Int)<(i:Int):=by omega
  have hk2:k<P.length:=by omega
  have ix:=hp.ix Pq.len hk2
  have ld:=x14s (m:=m') Pq.len (by omega) hk2
  have hta:=x1fn hk2 e
  have hts:P[k].same e=true->(P.take i).any (fun x=>x.same e)=true:=fun h=>by
   rw[List.any_eq_true]
   exact⟨P[k],by rw[List.mem_take_iff_getElem];exact⟨k,by omega,rfl⟩,h⟩
  generalize P[k]=y at ld hta hts
  have heq:=eq_pair7 (.tmp 69) (.tmp 70) y e
  simp only[x1n]
  unfold x7i
  simp[hk',hg,ix,ld,h7]
  rw[show AV.agg [I e.a,I e.b]=.agg e.c from rfl,heq]
  cases c:y.same e with
  |true=>
   simp
   exact ht (hts c)
  |false=>
   simp(disch:=omega) [x13j]
   exact next () _ _ ⟨rfl,by rw[hta,hA,c];rfl⟩
 .rintro n-m' fc ⟨rfl,hA⟩
  simp only[x1n]
  unfold x7i xr
  simp(disch:=omega) [x13j]
  exact hf hA _
theorem x1ia(d:Nat){s p:AV}{l:List Scene}{P:List Pq}(hs:Sl Scene.c s l)(hp:Sl Pq.c p P)(hl:l.length<=60)(hP:P.length<=200){T:Int×Int} :
 ∀(n k:Nat) (x:Unit) (m:Mem) (fc:Nat),k<=P.length->P.length<n+k->(m.get (0,0,1)=some (.row [s,p] 0 false)/\x16n l.length P k (P.drop k)=T) ->
 RetF (fun v=>v=.tup [I T.1,I T.2]) (x17 (x13e (d+1)) [] 0 n (.ptr (0,0,1) 0 0) (I k) m fc):=by
 refine x142 (fun n k _ m fc=>x17 (x13e (d+1)) [] 0 n (.ptr (0,0,1) 0 0) (I k) m fc)
  (fun k _ m=>m.get (0,0,1)=some (.row [s,p] 0 false)/\x16n l.length P k (P.drop k)=T) _ ?_ ?_
 .rintro n k-m fc hk ⟨hg,hT⟩ next
  have hk':(k:Int)<(P.length:Int):=by omega
  have ix:=hp.ix Pq.len hk
  have ld:=x14s (m:=m) Pq.len (by omega) hk
  rw[x14f hk]at hT
  generalize P[k]=e at ld hT
  simp only[x17]
  unfold x7j x5n
  simp[hg,hp.len x14n,hs.len x14p,hk',ix,ld,x16m,Pq.c]
  rw[x13j (by omega) (by omega)]
  simp[x186]
  generalize hm1:Mem.set _ _ _=m1
  have h1:m1.get (0,0,1)=some (.row [s,p] 0 false):=by rw[<-hm1];simp[hg]
  have h7:m1.get (0,fc+5+5,7)=some (.row [I e.a,I e.b] 0 false):=by rw[<-hm1];simp
  simp only[x16n]at hT
  cases c1:wi e.a 0 ((l.length:Int)-1)with
  |false=>
   simp[c1]at hT ⊢
   exact RetF.tup rfl (by rw[<-hT])
  |true=>
   simp[h7,h1,hs.len x14p]
   rw[x13j (by omega) (by omega)]
   simp[x186]
   cases c2:wi e.b 0 ((l.length:Int)-1)with
   |false=>
    simp[c1,c2]at hT ⊢
    exact RetF.tup rfl (by rw[<-hT])
   |true=>
    simp[c1,c2]at hT
    simp[h7]
    by_cases c3:e.b<=e.a
    .simp[c3]at hT ⊢
     exact RetF.tup rfl (by rw[<-hT])
    .simp[c3]at hT
     simp[c3]
     refine x1i9 d (s:=s) hp hP hk (fc+5+5) (x17 (x13e (d+1)) [] 0 n) _ h1 h7 (fun ha=>?_) (fun ha fc=>?_) NN 0 () m1 _ (by omega) (by rw[x13p];omega) ⟨rfl,by simp⟩
     .simp[ha]at hT
      exact RetF.tup rfl (by rw[<-hT])
     .rw[ha]at hT
      exact next () m1 fc ⟨h1,hT⟩
 .rintro n-m fc ⟨hg,hT⟩
  have hk:¬((P.length:Int)<(P.length:Int)):=by omega
  simp only[x17]
  unfold x7j xn
  rw[List.drop_of_length_le (Nat.le_refl _)]at hT
  simp[hk,hg,hp.len x14n]
  exact RetF.tup rfl (by rw[<-hT];rfl)
theorem x1ib(d:Nat){s p:AV}{l:List Scene}{P:List Pq}(hs:Sl Scene.c s l)(hp:Sl Pq.c p P)(m:Mem):x13f (x13e (d+3)) x4k [.agg [s,p]] m=some (.tup [I (net7 l P).1,I (net7 l P).2],m):=by
 refine x14g (by simp[hs.still1,hp.still1]) ?_ m
 rw[xm6]
 unfold x9q xbp net7
 simp[hs.one,hp.one,mem0,x1i2 d hs]
 by_cases he:(x150 l).2=0
 .obtain⟨hl,-⟩:=x1co he
  simp[he,hp.len x14n]
  by_cases h200:200<P.length
  .have h2:(200:Int)<(P.length:Int):=by omega
   simp[h200,h2]
   exact RetF.tup rfl rfl
  .have h2:¬(200:Int)<(P.length:Int):=by omega
   simp[h200,h2]
   unfold x7k
   exact x1ia (d+1) hs hp hl (by omega) NN 0 () _ _ (by omega) (by rw[x13p];omega) ⟨by simp,by simp⟩
 .simp[he]
  exact RetF.tup rfl rfl
theorem w_Err7(d:Nat){s p:AV}{l:List Scene}{P:List Pq}(hs:Sl Scene.c s l)(hp:Sl Pq.c p P)(m:Mem):x13f (x13e (d+4)) x4a [.agg [s,p]] m=some (I (net7 l P).2,m):=by
 refine x14g (by simp[hs.still1,hp.still1]) ?_ m
 rw[xlk]
 unfold x95 xb3
 simp[hs.one,hp.one,mem0,x1ib d hs hp]
 exact RetF.st rfl rfl
def few7(l:List Scene)(P:List Pq):Bool:=
 bif(decide (8<l.length)&&decide (l.length<=60))||decide (62<l.length)||(decide (14<P.length)&&decide (P.length<=200))||decide (202<P.length)then false else x189 l
theorem few7_len{l:List Scene}{P:List Pq}(h:few7 l P=true):l.length<=62/\P.length<=202:=by
 unfold few7 at h
 by_cases h1:62<l.length
 .simp[h1]at h
 .by_cases h2:202<P.length
  .simp[h2]at h
  .omega
theorem w_Few7(d:Nat){s p:AV}{l:List Scene}{P:List Pq}(hs:Sl Scene.c s l)(hp:Sl Pq.c p P)(m:Mem):x13f (x13e (d+1)) x49 [.agg [s,p]] m=some (B (few7 l P),m):=by
 refine x14g (by simp[hs.still1,hp.still1]) ?_ m
 rw[xlh]
 unfold x92 xaz
 have hb:∀fc,few7 l P=x189 l->l.length<=62->RetF (fun v=>v=B (few7 l P)) (x5c (x13e d) [] 0 (.ptr (0,0,1) 0 0) (((⟨[],1⟩:Mem).new (0,0,1) (.row [s,p] 0 false))) fc):=fun fc he hl=>by
  rw[he]
  unfold x5c
  obtain⟨m0,hm0⟩:∃m0,m0=(⟨[],1⟩:Mem).new (0,0,1) (.row [s,p] 0 false):=⟨_,rfl⟩
  have hg:m0.get (0,0,1)=some (.row [s,p] 0 false):=by rw[hm0];simp
  rw[<-hm0]
  refine x142 (N:=l.length) (σ:=Unit) (fun n k _ m fc=>x2c (x13e d) [] 0 n (.ptr (0,0,1) 0 0) (I k) m fc) (fun k _ m=>m=m0/\x189 l=x189 (l.drop k)) _ ?_ ?_ NN 0 () m0 _ (by omega) (by rw[x13p];omega) ⟨rfl,by simp⟩
  .rintro n k-m fc hk ⟨rfl,hS⟩ next
   have hk':(k:Int)<(l.length:Int):=by omega
   have ix:=hs.ix Scene.len hk
   have f1:=x171 (enc:=Scene.c) (m:=m) hk 0 rfl
   simp only[List.drop_zero]at f1
   have hS':x189 l=(decide (l[k].nm.size<=20)&&x189 (l.drop (k+1))):=by rw[hS,x14f hk];rfl
   simp only[x2c]
   unfold x6g
   simp only[hg,hs.len x14p,x183,x15b,x170,x13n,x14b]
   simp[hs.len x14p,hk',ix,f1]
   by_cases c:(20:Int)<(l[k].nm.size:Int)
   .simp[c]
    exact RetF.st rfl (by rw[hS',decide_eq_false (show ¬l[k].nm.size<=20 by omega)];rfl)
   .simp(disch:=omega) [c,x13j]
    refine next () m _ ⟨rfl,?_⟩
    rw[hS',decide_eq_true (show l[k].nm.size<=20 by omega)];rfl
  .rintro n-m fc ⟨rfl,hS⟩
   have hk:¬((l.length:Int)<(l.length:Int)):=by omega
   simp only[x2c]
   unfold x6g x2b
   rw[List.drop_of_length_le (Nat.le_refl _)]at hS
   simp[hg,hs.len x14p,hk]
   exact RetF.st rfl (by rw[hS];rfl)
 have e1:decide ((8:Int)<(l.length:Int))=decide (8<l.length):=decide_eq_decide.mpr (by omega)
 have e2:decide ((l.length:Int)<=60)=decide (l.length<=60):=decide_eq_decide.mpr (by omega)
 have e3:decide ((62:Int)<(l.length:Int))=decide (62<l.length):=decide_eq_decide.mpr (by omega)
 have e4:decide ((14:Int)<(P.length:Int))=decide (14<P.length):=decide_eq_decide.mpr (by omega)
 have e5:decide ((P.length:Int)<=200)=decide (P.length<=200):=decide_eq_decide.mpr (by omega)
 have e6:decide ((202:Int)<(P.length:Int))=decide (202<P.length):=decide_eq_decide.mpr (by omega)
 simp only[mem0,x1a3,x1a0,List.all_cons,List.all_nil,hs.one,hp.one,Bool.and_self,x14t,x183,x15b,x170,x13n,Mem.get_new,if_true,sLe_I,x14b,x191]
 simp only[Nat.zero_add,List.drop_zero,List.drop_succ_cons,show Nat.beq 0 0=true from rfl,x14t,rd_f,x13n,hs.len x14p,hp.len x14n,x191,sLe_I,e1,e2,e3,e4,e5,e6]
 have hfe:few7 l P=bif(decide (8<l.length)&&decide (l.length<=60))||decide (62<l.length)||(decide (14<P.length)&&decide (P.length<=200))||decide (202<P.length)then false else x189 l:=rfl
 by_cases h62:62<l.length
 .have:¬l.length<=60:=by omega
  have h8:8<l.length:=by omega
  rw[hfe]
  simp[h62,this,h8,e1,e2,e3,hs.len x14p,hp.len x14n,Mem.get_new]
  exact RetF.st rfl rfl
 cases a1:decide (8<l.length)<;>cases a2:decide (l.length<=60)<;>cases a4:decide (14<P.length)<;>cases a5:decide (P.length<=200)<;>cases a6:decide (202<P.length) <;>
  simp only[a1,a2,a4,a5,a6,h62,decide_false,Bool.and_true,Bool.and_false,Bool.true_and,Bool.false_and,Bool.or_true,Bool.or_false,Bool.true_or,Bool.false_or,x14t,cond_f]at hfe <;>
  simp[a1,a2,a4,a5,a6,h62,e1,e2,e3,e4,e5,e6,hs.len x14p,hp.len x14n,Mem.get_new] <;>
  first
  |exact RetF.st rfl (by rw[hfe])
  |exact hb _ hfe (by omega)
end Go.Ix
