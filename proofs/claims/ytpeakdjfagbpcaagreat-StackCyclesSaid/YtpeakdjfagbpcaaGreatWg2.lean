import Derived.Test.YtpeakdjfagbpcaaGreatWg1
import Derived.Test.YtpeakdjfagbpcaaGreatWg0
import Derived.ProofKit
set_option linter.unusedSimpArgs false
set_option linter.unusedVariables false
namespace Go.Ix
open Go.Proofs
theorem x113{p q:Int}{id:Id}{m:Mem}{R:Type}{k:AV->Mem->Option R}:xvp [I 0,I 0] [(0,2,.agg [I p,I q])] 1 2 id m k=k (.slit [I p,I q] 1 true) m:=by
 simp[xvp,xvx,xvq,List.range_succ,clean1,AV.one,Value.oneCell']
theorem InB.get{l:List Scene}(h:InB l){k:Nat}(hk:k<l.length):(0<=l[k].day/\l[k].day<=100000)/\(-100000<=l[k].bl/\l[k].bl<=100000):=h _ (List.getElem_mem hk)
theorem e_awake7:((xuu 30 [] x8s [] mem0).map (fun p=>p.1))=some (B true):=by kernel_rfl
theorem w_awake7(m:Mem):xuv (xuu 30) x8s [] m=some (B true,m):=by
 have h:=e_awake7
 rw[Option.map_eq_some_iff]at h
 obtain⟨⟨r,m'⟩,h1,rfl⟩:=h
 exact call0 rfl h1 rfl
theorem callR{T:AV->Prop}{call:xut}{f:FuncId}{l l':List AV}{m:Mem}(hl:l.mapM (Go.Ix.frz m.get deep)=some l')(h:RetF T (call [] f l' mem0)) :
 ∃a m2,T a/\xuv call f l m=some (a,m2)/\m2.next=m.next/\∀i cs v b,m.get i=some (.row cs v b)->∃b',m2.get i=some (.row cs v b'):=by
 obtain⟨a,m',a',h1,h2,h3⟩:=h
 obtain⟨m2,h4,h5,h6⟩:=x164 hl h1 h2
 exact⟨a',m2,h3,h4,h5,h6⟩
def xza(l:List Scene):Bool:=l.all fun s=>decide (s.nm.size<=20)
theorem Scene.stillA(s:Scene):s.c.all still1=true:=rfl
def Pq.v(p:Pq):Value:=.agg [.int .i64 p.a,.int .i64 p.b].toArray
def mpP(E:List (Pq×AV)):List (Value×AV):=E.map fun x=>(x.1.v,x.2)
def lkP:List (Pq×AV)->Pq->Option AV
 |[],_=>none
 |x::r,p=>if p.same x.1=true then some x.2 else lkP r p
theorem x11y(p q:Pq):xw2 p.v q.v=p.same q:=by
 unfold xw2 Pq.v Pq.same
 simp[xys]
 by_cases h:p.a=q.a<;>by_cases h2:p.b=q.b<;>simp[h,h2]
theorem find_mpP(E:List (Pq×AV))(p:Pq):findKey p.v (mpP E)=lkP E p:=by
 induction E with
 |nil=>rfl
 |cons x r ih=>
  unfold mpP at ih ⊢
  simp only[List.map_cons,findKey,lkP,x11y]
  rw[ih]
theorem set_mpP(E:List (Pq×AV))(p:Pq)(v:AV)(h:lkP E p=none):setKey p.v v (mpP E)=mpP (E++[(p,v)]):=by
 induction E with
 |nil=>rfl
 |cons x r ih=>
  simp only[lkP]at h
  unfold mpP at ih ⊢
  simp only[List.map_cons,List.cons_append,setKey,x11y]
  by_cases c:p.same x.1=true
  .rw[if_pos c]at h;cases h
  .rw[if_neg c]at h
   rw[if_neg c,ih h]
theorem chk_t(p:Pq):(xux Tryz.prog (Instr.checkKey true 10000 x9 p.v)).isSome=true:=by kernel_rfl
theorem chk_f(p:Pq):(xux Tryz.prog (Instr.checkKey false 10000 x9 p.v)).isSome=true:=by kernel_rfl
theorem equal_pq(p q:Pq):xux Tryz.prog (Op.equal x9 p.v q.v)=some (p.same q):=x169 p q
theorem x16d{d:TypeDesc}(hd:Tryz.prog.underlying x9=some d)(E:List (Pq×AV))(p:Pq):xy8 Tryz.prog x9 d p.v (mpP E)=true:=by
 obtain⟨fs,hf⟩:∃fs,d=.struct fs:=by
  have:((Tryz.prog.underlying x9).bind fun d=>match d with | .struct fs=>some ()|_=>none)=some ():=by kernel_rfl
  rw[hd]at this
  cases d<;>first|exact⟨_,rfl⟩|cases this
 subst hf
 have h1:x12b Tryz.prog x9 (.struct fs) p.v (mpP E)=true:=by
  show(xw2 p.v p.v&&((xux Tryz.prog (Instr.checkKey true 10000 x9 p.v)).isSome&&(xux Tryz.prog (Instr.checkKey false 10000 x9 p.v)).isSome) &&
   (mpP E).all fun e=>match e.1,xux Tryz.prog (Op.equal x9 p.v e.1)with
    | .agg _,some b=>b == xw2 p.v e.1
    |_,_=>false)=true
  rw[chk_t,chk_f,x11y,Pq.same_self]
  simp only[Bool.and_self,Bool.true_and,List.all_eq_true]
  intro e he
  unfold mpP at he
  obtain⟨x,-,rfl⟩:=List.mem_map.mp he
  rw[equal_pq,x11y]
  show(p.same x.1 == p.same x.1)=true
  simp
 unfold xy8
 rw[h1,Bool.or_true]
theorem x16e(p:Pq):xv9 (.agg p.c)=some p.v:=rfl
theorem um_pq:∃d,Tryz.prog.underlying x9=some d:=by
 obtain⟨d,h⟩:∃d,(Tryz.prog.underlying x9).isSome=d:=⟨_,rfl⟩
 have:(Tryz.prog.underlying x9).isSome=true:=by kernel_rfl
 exact Option.isSome_iff_exists.mp this
theorem look_pq{t et:TypeId}{z:AV}(ht:Tryz.prog.underlying t=some (.map x9 et))(hz:xzs Tryz.prog et=some z)(id:Id)(E:List (Pq×AV))(p:Pq)(ok:Bool)(m:Mem)(h:m.get id=some (.map (mpP E))) :
 xy2 Tryz.prog t (.mp id) (.agg p.c) ok m=some (if ok then .tup [(lkP E p).getD z,B (lkP E p).isSome]else(lkP E p).getD z):=by
 obtain⟨d,hd⟩:=um_pq
 unfold xy2
 simp only[ht,x16e,hd,hz,xyt,h]
 rw[if_pos (x16d hd E p),find_mpP]
theorem up_pq{R:Type}{t et:TypeId}(ht:Tryz.prog.underlying t=some (.map x9 et))(id:Id)(E:List (Pq×AV))(p:Pq)(v:AV)(m:Mem)(k:Mem->Option R)(h:m.get id=some (.map (mpP E)))(hn:lkP E p=none) :
 xzy Tryz.prog t (.mp id) (.agg p.c) v m k=k (m.set id (.map (mpP (E++[(p,v)])))):=by
 obtain⟨d,hd⟩:=um_pq
 unfold xzy
 simp only[ht,x16e,hd,h]
 rw[if_pos (x16d hd E p),set_mpP E p v hn]
theorem lkP_app(E:List (Pq×AV))(p q:Pq)(v:AV)(h:lkP E p=none):lkP (E++[(p,v)]) q=if q.same p=true then some v else lkP E q:=by
 induction E with
 |nil=>simp[lkP]
 |cons x r ih=>
  simp only[lkP,List.cons_append]at h ⊢
  by_cases c:p.same x.1=true
  .rw[if_pos c]at h;cases h
  .rw[if_neg c]at h
   rw[ih h]
   by_cases e:q.same x.1=true
   .rw[if_pos e,if_neg,if_pos e]
    intro e2
    rw[Pq.same_iff]at e e2 c
    exact c (by rw[<-e2,e])
   .rw[if_neg e,if_neg e]
def xxs(n:Int)(P:List Pq):Nat->List Pq->Int×Int
 |_,[]=>(0,0)
 |k,p::r=>
  bif !(wi p.a 0 (n-1))||!(wi p.b 0 (n-1))then((k:Int),6)
  else bif decide (p.b<=p.a)then((k:Int),9)
  else bif(P.take k).any (fun q=>q.same p)then((k:Int),28)
  else xxs n P (k+1) r
def net7(l:List Scene)(P:List Pq):Int×Int:=bif !decide ((xwg l).2=0)then xwg l else bif decide (200<P.length)then(0,8)else xxs l.length P 0 P
theorem zv_bool:xzs Tryz.prog x4x=some (B false):=by kernel_rfl
theorem um_pb:Tryz.prog.underlying xa1=some (.map x9 x4x):=by kernel_rfl
theorem x16f{P:List Pq}{k:Nat}(hk:k<P.length)(q:Pq):(P.take (k+1)).any (fun x=>x.same q)=((P.take k).any (fun x=>x.same q)||P[k].same q):=by
 rw[List.take_succ_eq_append_getElem hk,List.any_append]
 simp
theorem same_symm{p q:Pq}:p.same q=q.same p:=by
 rw[Bool.eq_iff_iff,Pq.same_iff,Pq.same_iff]
 exact eq_comm
def Seen(P:List Pq)(k:Nat)(E:List (Pq×AV)):Prop:=∀q,lkP E q=bif(P.take k).any (fun x=>x.same q)then some (B true)else none
theorem x190(d s24:Nat){s p:AV}{l:List Scene}{P:List Pq}(hs:Sl Scene.c s l)(hp:Sl Pq.c p P)(hl:l.length<=60)(hP:P.length<=200){T:Int×Int} :
 ∀(n k:Nat) (x:Unit) (m:Mem) (fc:Nat),k<=P.length->P.length<n+k->(m.get (0,0,1)=some (.row [s,p] 0 false)/\(∃E,m.get (0,s24,24)=some (.map (mpP E))/\Seen P k E)/\xxs l.length P k (P.drop k)=T) ->
 RetF (fun v=>v=.tup [I T.1,I T.2]) (x1m (xuu (d+2)) [] 0 n (.ptr (0,0,1) 0 0) (.mp (0,s24,24)) p (I P.length) (I k) m fc):=by
 refine xvh (fun n k _ m fc=>x1m (xuu (d+2)) [] 0 n (.ptr (0,0,1) 0 0) (.mp (0,s24,24)) p (I P.length) (I k) m fc)
  (fun k _ m=>m.get (0,0,1)=some (.row [s,p] 0 false)/\(∃E,m.get (0,s24,24)=some (.map (mpP E))/\Seen P k E)/\xxs l.length P k (P.drop k)=T) _ ?_ ?_
 .rintro n k-m fc hk ⟨hg,⟨E,hE,hS⟩,hT⟩ next
  have hk':(k:Int)<(P.length:Int):=by omega
  have ix:=hp.ix Pq.len hk
  have ld:=xw8 (m:=m) Pq.len (by omega) hk
  rw[xvs hk]at hT
  have hta:=x16f hk
  generalize P[k]=e at ld hT hta
  simp only[x1m]
  unfold x6r
  simp only[xwd,hk',decide_true,xw4,xv4,ix,ld,x11s,xx4,xz6,Mem.get_new,if_true,x10y]
  simp(disch:=omega) [Pq.c]
  generalize hm1:Mem.set _ _ _=m1
  have h1:m1.get (0,0,1)=some (.row [s,p] 0 false):=by rw[<-hm1];simp[hg]
  have h8:m1.get (0,fc+4,8)=some (.row [I e.a,I e.b] 0 false):=by rw[<-hm1];simp
  have h24:m1.get (0,s24,24)=some (.map (mpP E)):=by rw[<-hm1];simp[hE]
  have hlk:=look_pq um_pb zv_bool (0,s24,24) E e false m1 h24
  have hse:=hS e
  simp[hg,hs.len xvf]
  rw[xv1 (by omega) (by omega)]
  simp[x107]
  simp only[xxs]at hT
  cases c1:wi e.a 0 ((l.length:Int)-1)with
  |false=>
   simp[c1]at hT ⊢
   exact RetF.tup rfl (by rw[<-hT])
  |true=>
   simp[h8,x107]
   cases c2:wi e.b 0 ((l.length:Int)-1)with
   |false=>
    simp[c1,c2]at hT ⊢
    exact RetF.tup rfl (by rw[<-hT])
   |true=>
    simp[c1,c2]at hT
    simp[h8]
    by_cases c3:e.b<=e.a
    .simp[c3]at hT ⊢
     exact RetF.tup rfl (by rw[<-hT])
    .simp[c3]at hT
     simp[c3,h8]
     rw[show AV.agg [I e.a,I e.b]=.agg e.c from rfl,hlk,hse]
     cases c4:(P.take k).any fun x=>x.same e with
     |true=>
      simp[c4]at hT ⊢
      exact RetF.tup rfl (by rw[<-hT])
     |false=>
      rw[c4]at hT hse
      simp[h8]
      rw[up_pq um_pb (0,s24,24) E e (B true) m1 _ h24 hse]
      refine next () _ _ ⟨by simp[h1],⟨E++[(e,B true)],by simp,fun q=>?_⟩,hT⟩
      rw[lkP_app E e q _ hse,hta q,hS q,same_symm (p:=e)]
      cases q.same e<;>cases(P.take k).any fun x=>x.same q<;>rfl
 .rintro n-m fc ⟨hg,-,hT⟩
  have hk:¬((P.length:Int)<(P.length:Int)):=by omega
  simp only[x1m]
  unfold x6r x2p
  rw[List.drop_of_length_le (Nat.le_refl _)]at hT
  simp[hk]
  exact RetF.tup rfl (by rw[<-hT];rfl)
theorem x191(d:Nat){s p:AV}{l:List Scene}{P:List Pq}(hs:Sl Scene.c s l)(hp:Sl Pq.c p P)(m:Mem):xuv (xuu (d+5)) x44 [.agg [s,p]] m=some (.tup [I (net7 l P).1,I (net7 l P).2],m):=by
 refine xw5 (by simp[hs.still1,hp.still1]) ?_ m
 rw[xi5]
 unfold x8i xa2 net7
 simp[hs.one,hp.one,mem0,x18s d hs]
 by_cases he:(xwg l).2=0
 .obtain⟨hl,-⟩:=x13l he
  simp[he,hp.len xw3]
  by_cases h200:200<P.length
  .have h2:(200:Int)<(P.length:Int):=by omega
   simp[h200,h2]
   exact RetF.tup rfl rfl
  .have h2:¬(200:Int)<(P.length:Int):=by omega
   simp[h200,h2,x10o]
   unfold x6s
   simp[hp.len xw3]
   exact x190 (d+2) 17 hs hp hl (by omega) NN 0 () _ _ (by omega) (by rw[xv8];omega) ⟨by simp,⟨[],by simp;rfl,fun q=>by simp[lkP]⟩,by simp⟩
 .simp[he]
  exact RetF.tup rfl rfl
theorem x13p(d:Nat){s p:AV}{l:List Scene}{P:List Pq}(hs:Sl Scene.c s l)(hp:Sl Pq.c p P)(m:Mem):xuv (xuu (d+6)) x3a [.agg [s,p]] m=some (I (net7 l P).2,m):=by
 refine xw5 (by simp[hs.still1,hp.still1]) ?_ m
 rw[xhk]
 unfold x7x x9f
 simp[hs.one,hp.one,mem0,x191 d hs hp]
 exact RetF.st rfl rfl
theorem x192(d:Nat){s p:AV}{P:List Pq}(hp:Sl Pq.c p P)(hP:P.length<=200){i:Nat}(hi:i<P.length){e:Pq}(s7:Nat)(rec0:AV->AV->Mem->Nat->O2)(Q:O2->Prop){m:Mem}(hg:m.get (0,0,1)=some (.row [s,p] 0 false))(h7:m.get (0,s7,7)=some (.row [I e.a,I e.b] 0 false))(ht:(P.take i).any (fun x=>x.same e)=true->Q (some (.tup [I i,I 28],m)))(hf:(P.take i).any (fun x=>x.same e)=false->∀fc,Q (rec0 (.ptr (0,0,1) 0 0) (I ((i:Int)+1)) m fc)) :
 ∀(n k:Nat) (x:Unit) (m':Mem) (fc:Nat),k<=i->i<n+k->(m'=m/\(P.take k).any (fun x=>x.same e)=false) ->
 Q (x1g (xuu (d+1)) [] 0 rec0 n (.ptr (0,0,1) 0 0) (I i) (.ptr (0,s7,7) 0 0) (I k) m' fc):=by
 refine xvh (fun n k _ m fc=>x1g (xuu (d+1)) [] 0 rec0 n (.ptr (0,0,1) 0 0) (I i) (.ptr (0,s7,7) 0 0) (I k) m fc) (fun k _ m'=>m'=m/\(P.take k).any (fun x=>x.same e)=false) Q ?_ ?_
 .rintro n k-m' fc hk ⟨rfl,hA⟩ next
  have hk':(k:Int)<(i:Int):=by omega
  have hk2:k<P.length:=by omega
  have ix:=hp.ix Pq.len hk2
  have ld:=xw8 (m:=m') Pq.len (by omega) hk2
  have hta:=x16f hk2 e
  have hts:P[k].same e=true->(P.take i).any (fun x=>x.same e)=true:=fun h=>by
   rw[List.any_eq_true]
   exact⟨P[k],by rw[List.mem_take_iff_getElem];exact⟨k,by omega,rfl⟩,h⟩
  generalize P[k]=y at ld hta hts
  have heq:=eq_pair7 (.tmp 69) (.tmp 70) y e
  simp only[x1g]
  unfold x68
  simp[hk',hg,ix,ld,h7]
  rw[show AV.agg [I e.a,I e.b]=.agg e.c from rfl,heq]
  cases c:y.same e with
  |true=>
   simp
   exact ht (hts c)
  |false=>
   simp(disch:=omega) [xv1]
   exact next () _ _ ⟨rfl,by rw[hta,hA,c];rfl⟩
 .rintro n-m' fc ⟨rfl,hA⟩
  simp only[x1g]
  unfold x68 xr
  simp(disch:=omega) [xv1]
  exact hf hA _
theorem x193(d:Nat){s p:AV}{l:List Scene}{P:List Pq}(hs:Sl Scene.c s l)(hp:Sl Pq.c p P)(hl:l.length<=60)(hP:P.length<=200){T:Int×Int} :
 ∀(n k:Nat) (x:Unit) (m:Mem) (fc:Nat),k<=P.length->P.length<n+k->(m.get (0,0,1)=some (.row [s,p] 0 false)/\xxs l.length P k (P.drop k)=T) ->
 RetF (fun v=>v=.tup [I T.1,I T.2]) (x14 (xuu (d+1)) [] 0 n (.ptr (0,0,1) 0 0) (I k) m fc):=by
 refine xvh (fun n k _ m fc=>x14 (xuu (d+1)) [] 0 n (.ptr (0,0,1) 0 0) (I k) m fc)
  (fun k _ m=>m.get (0,0,1)=some (.row [s,p] 0 false)/\xxs l.length P k (P.drop k)=T) _ ?_ ?_
 .rintro n k-m fc hk ⟨hg,hT⟩ next
  have hk':(k:Int)<(P.length:Int):=by omega
  have ix:=hp.ix Pq.len hk
  have ld:=xw8 (m:=m) Pq.len (by omega) hk
  rw[xvs hk]at hT
  generalize P[k]=e at ld hT
  simp only[x14]
  unfold x69 x4l
  simp[hg,hp.len xw3,hs.len xvf,hk',ix,ld,xx4,Pq.c]
  rw[xv1 (by omega) (by omega)]
  simp[x106]
  generalize hm1:Mem.set _ _ _=m1
  have h1:m1.get (0,0,1)=some (.row [s,p] 0 false):=by rw[<-hm1];simp[hg]
  have h7:m1.get (0,fc+5+5,7)=some (.row [I e.a,I e.b] 0 false):=by rw[<-hm1];simp
  simp only[xxs]at hT
  cases c1:wi e.a 0 ((l.length:Int)-1)with
  |false=>
   simp[c1]at hT ⊢
   exact RetF.tup rfl (by rw[<-hT])
  |true=>
   simp[h7,h1,hs.len xvf]
   rw[xv1 (by omega) (by omega)]
   simp[x106]
   cases c2:wi e.b 0 ((l.length:Int)-1)with
   |false=>
    simp[c1,c2]at hT ⊢
    exact RetF.tup rfl (by rw[<-hT])
   |true=>
    simp[c1,c2]at hT
    simp[h7]
    by_cases c3:e.b<=e.a
    .simp[c3]at hT ⊢
     exact RetF.tup rfl (by rw[<-hT])
    .simp[c3]at hT
     simp[c3]
     refine x192 d (s:=s) hp hP hk (fc+5+5) (x14 (xuu (d+1)) [] 0 n) _ h1 h7 (fun ha=>?_) (fun ha fc=>?_) NN 0 () m1 _ (by omega) (by rw[xv8];omega) ⟨rfl,by simp⟩
     .simp[ha]at hT
      exact RetF.tup rfl (by rw[<-hT])
     .rw[ha]at hT
      exact next () m1 fc ⟨h1,hT⟩
 .rintro n-m fc ⟨hg,hT⟩
  have hk:¬((P.length:Int)<(P.length:Int)):=by omega
  simp only[x14]
  unfold x69 xo
  rw[List.drop_of_length_le (Nat.le_refl _)]at hT
  simp[hk,hg,hp.len xw3]
  exact RetF.tup rfl (by rw[<-hT];rfl)
theorem x194(d:Nat){s p:AV}{l:List Scene}{P:List Pq}(hs:Sl Scene.c s l)(hp:Sl Pq.c p P)(m:Mem):xuv (xuu (d+3)) x3w [.agg [s,p]] m=some (.tup [I (net7 l P).1,I (net7 l P).2],m):=by
 refine xw5 (by simp[hs.still1,hp.still1]) ?_ m
 rw[xhq]
 unfold x83 x9m net7
 simp[hs.one,hp.one,mem0,x18v d hs]
 by_cases he:(xwg l).2=0
 .obtain⟨hl,-⟩:=x13l he
  simp[he,hp.len xw3]
  by_cases h200:200<P.length
  .have h2:(200:Int)<(P.length:Int):=by omega
   simp[h200,h2]
   exact RetF.tup rfl rfl
  .have h2:¬(200:Int)<(P.length:Int):=by omega
   simp[h200,h2]
   unfold x6a
   exact x193 (d+1) hs hp hl (by omega) NN 0 () _ _ (by omega) (by rw[xv8];omega) ⟨by simp,by simp⟩
 .simp[he]
  exact RetF.tup rfl rfl
theorem w_Err7(d:Nat){s p:AV}{l:List Scene}{P:List Pq}(hs:Sl Scene.c s l)(hp:Sl Pq.c p P)(m:Mem):xuv (xuu (d+4)) x3p [.agg [s,p]] m=some (I (net7 l P).2,m):=by
 refine xw5 (by simp[hs.still1,hp.still1]) ?_ m
 rw[xh4]
 unfold x7i x8z
 simp[hs.one,hp.one,mem0,x194 d hs hp]
 exact RetF.st rfl rfl
def few7(l:List Scene)(P:List Pq):Bool:=
 bif(decide (8<l.length)&&decide (l.length<=60))||decide (62<l.length)||(decide (14<P.length)&&decide (P.length<=200))||decide (202<P.length)then false else xza l
theorem few7_len{l:List Scene}{P:List Pq}(h:few7 l P=true):l.length<=62/\P.length<=202:=by
 unfold few7 at h
 by_cases h1:62<l.length
 .simp[h1]at h
 .by_cases h2:202<P.length
  .simp[h2]at h
  .omega
theorem w_Few7(d:Nat){s p:AV}{l:List Scene}{P:List Pq}(hs:Sl Scene.c s l)(hp:Sl Pq.c p P)(m:Mem):xuv (xuu (d+1)) x3o [.agg [s,p]] m=some (B (few7 l P),m):=by
 refine xw5 (by simp[hs.still1,hp.still1]) ?_ m
 rw[xh1]
 unfold x7f x8v
 have hb:∀fc,few7 l P=xza l->l.length<=62->RetF (fun v=>v=B (few7 l P)) (x4e (xuu d) [] 0 (.ptr (0,0,1) 0 0) (((⟨[],1⟩:Mem).new (0,0,1) (.row [s,p] 0 false))) fc):=fun fc he hl=>by
  rw[he]
  unfold x4e
  obtain⟨m0,hm0⟩:∃m0,m0=(⟨[],1⟩:Mem).new (0,0,1) (.row [s,p] 0 false):=⟨_,rfl⟩
  have hg:m0.get (0,0,1)=some (.row [s,p] 0 false):=by rw[hm0];simp
  rw[<-hm0]
  refine xvh (N:=l.length) (σ:=Unit) (fun n k _ m fc=>x1y (xuu d) [] 0 n (.ptr (0,0,1) 0 0) (I k) m fc) (fun k _ m=>m=m0/\xza l=xza (l.drop k)) _ ?_ ?_ NN 0 () m0 _ (by omega) (by rw[xv8];omega) ⟨rfl,by simp⟩
  .rintro n k-m fc hk ⟨rfl,hS⟩ next
   have hk':(k:Int)<(l.length:Int):=by omega
   have ix:=hs.ix Scene.len hk
   have f1:=xxf (enc:=Scene.c) (m:=m) hk 0 rfl
   simp only[List.drop_zero]at f1
   have hS':xza l=(decide (l[k].nm.size<=20)&&xza (l.drop (k+1))):=by rw[hS,xvs hk];rfl
   simp only[x1y]
   unfold x54
   simp only[hg,hs.len xvf,x11r,xxd,xz8,xv4,xwd]
   simp[hs.len xvf,hk',ix,f1]
   by_cases c:(20:Int)<(l[k].nm.size:Int)
   .simp[c]
    exact RetF.st rfl (by rw[hS',decide_eq_false (show ¬l[k].nm.size<=20 by omega)];rfl)
   .simp(disch:=omega) [c,xv1]
    refine next () m _ ⟨rfl,?_⟩
    rw[hS',decide_eq_true (show l[k].nm.size<=20 by omega)];rfl
  .rintro n-m fc ⟨rfl,hS⟩
   have hk:¬((l.length:Int)<(l.length:Int)):=by omega
   simp only[x1y]
   unfold x54 x1x
   rw[List.drop_of_length_le (Nat.le_refl _)]at hS
   simp[hg,hs.len xvf,hk]
   exact RetF.st rfl (by rw[hS];rfl)
 have e1:decide ((8:Int)<(l.length:Int))=decide (8<l.length):=decide_eq_decide.mpr (by omega)
 have e2:decide ((l.length:Int)<=60)=decide (l.length<=60):=decide_eq_decide.mpr (by omega)
 have e3:decide ((62:Int)<(l.length:Int))=decide (62<l.length):=decide_eq_decide.mpr (by omega)
 have e4:decide ((14:Int)<(P.length:Int))=decide (14<P.length):=decide_eq_decide.mpr (by omega)
 have e5:decide ((P.length:Int)<=200)=decide (P.length<=200):=decide_eq_decide.mpr (by omega)
 have e6:decide ((202:Int)<(P.length:Int))=decide (202<P.length):=decide_eq_decide.mpr (by omega)
 simp only[mem0,xz7,x103,List.all_cons,List.all_nil,hs.one,hp.one,Bool.and_self,xwb,x11r,xxd,xz8,xv4,Mem.get_new,if_true,sLe_I,xwd,sGt_I]
 simp only[Nat.zero_add,List.drop_zero,List.drop_succ_cons,show Nat.beq 0 0=true from rfl,xwb,rd_f,xv4,hs.len xvf,hp.len xw3,sGt_I,sLe_I,e1,e2,e3,e4,e5,e6]
 have hfe:few7 l P=bif(decide (8<l.length)&&decide (l.length<=60))||decide (62<l.length)||(decide (14<P.length)&&decide (P.length<=200))||decide (202<P.length)then false else xza l:=rfl
 by_cases h62:62<l.length
 .have:¬l.length<=60:=by omega
  have h8:8<l.length:=by omega
  rw[hfe]
  simp[h62,this,h8,e1,e2,e3,hs.len xvf,hp.len xw3,Mem.get_new]
  exact RetF.st rfl rfl
 cases a1:decide (8<l.length)<;>cases a2:decide (l.length<=60)<;>cases a4:decide (14<P.length)<;>cases a5:decide (P.length<=200)<;>cases a6:decide (202<P.length) <;>
  simp only[a1,a2,a4,a5,a6,h62,decide_false,Bool.and_true,Bool.and_false,Bool.true_and,Bool.false_and,Bool.or_true,Bool.or_false,Bool.true_or,Bool.false_or,xwb,cond_f]at hfe <;>
  simp[a1,a2,a4,a5,a6,h62,e1,e2,e3,e4,e5,e6,hs.len xvf,hp.len xw3,Mem.get_new] <;>
  first
  |exact RetF.st rfl (by rw[hfe])
  |exact hb _ hfe (by omega)
theorem Edge.still(e:Edge):e.c.all still1=true:=rfl
theorem x195(d:Nat){a:AV}{l:List Int}(h:Ints a l)(hl:l.length<=1000000)(m:Mem):∃a',Ints a' l/\xuv (xuu (d+1)) x2z [a] m=some (a',m):=by
 have hr:xv2 l.length 8:=by unfold xv2;omega
 have he:=h.elems xvu
 by_cases h0:l=[]
 .subst h0
  refine⟨.slit [] 0 true,Sl.lit [] true,call0 (m':=⟨[],1⟩) (by simp[h.still]) ?_ rfl⟩
  rw[xbp]
  unfold x4y x57
  have hr0:xv2 0 8:=by unfold xv2;omega
  simp[mem0,he,x11t hr0]
 .have hq:l.length≠0:=by simpa using h0
  have hlen:=xwp xvu l
  refine⟨.slit (l.flatMap intE) l.length false,Sl.lit l false,x162 (m':=(⟨[],1⟩:Mem).new (0,3,5) (.row (l.flatMap intE) 0 false)) (r:=.sref (0,3,5) 0 0 l.length 1 true) (by simp[h.still]) ?_ ?_⟩
  .rw[xbp]
   unfold x4y x57
   simp[mem0,he,x11t hr,hq,h0]
  .have:=xz9 (objs:=((⟨[],1⟩:Mem).new (0,3,5) (.row (l.flatMap intE) 0 false)).get) (id:=(0,3,5)) (cs:=l.flatMap intE) (ver:=0) (off:=0) (n:=l.length) (z:=1) (k:=4) (f:=false) (x:=true) (by simp) (by omega) (by
    rw[List.drop_zero,List.take_of_length_le (by omega)];exact xyj x10z l)
   rw[List.drop_zero,List.take_of_length_le (by omega)]at this
   exact this
theorem x16g{α:Type}{enc:α->List AV}{z bytes:Nat}(hz:∀x,(enc x).length=z){a:AV}{l:List α}(h:Sl enc a l)(hr:xv2 l.length bytes)(id:Id)(m:Mem) :
 (l=[]/\∀{R:Type} (k:AV->Mem->Option R),sApp z bytes id (elems m.get z a) (.slit [] 0 true) m k=k (.slit [] 0 true) m) \/
 (l≠[]/\∀{R:Type} (k:AV->Mem->Option R),sApp z bytes id (elems m.get z a) (.slit [] 0 true) m k=k (.sref id 0 0 l.length z true) (m.new id (.row (l.flatMap enc) 0 false))):=by
 have he:=h.elems hz m.get
 by_cases hq:l.length=0
 .refine .inl ⟨List.length_eq_zero_iff.mp hq,fun k=>?_⟩
  rw[he,x11t hr,decide_eq_true hq]
  rfl
 .refine .inr ⟨fun e=>hq (by rw[e];rfl),fun k=>?_⟩
  rw[he,x11t hr,decide_eq_false hq]
  rfl
theorem xzb{α:Type}{enc:α->List AV}{z k:Nat}(hz:∀x,(enc x).length=z)(hs:∀x,(enc x).all still1=true){objs:Id->Option Ob}{id:Id}{l:List α}{x:Bool}(hg:objs id=some (.row (l.flatMap enc) 0 false)) :
 frz objs (k+2) (.sref id 0 0 l.length z x)=some (.slit (l.flatMap enc) l.length false):=by
 have hl:=xwp hz l
 have:=xz9 (objs:=objs) (id:=id) (cs:=l.flatMap enc) (ver:=0) (off:=0) (n:=l.length) (z:=z) (k:=k) (f:=false) (x:=x) hg (by omega) (by
  rw[List.drop_zero,List.take_of_length_le (by omega)];exact xyj hs l)
 rw[List.drop_zero,List.take_of_length_le (by omega)]at this
 exact this
theorem x13q{objs:Id->Option Ob}{a b a' b':AV}{k:Nat}(ha:frz objs (k+1) a=some a')(hb:frz objs (k+1) b=some b'):frz objs (k+2) (.agg [a,b])=some (.agg [a',b']):=by
 show([a,b].mapM (frz objs (k+1))).map AV.agg=_
 simp only[List.mapM_cons,List.mapM_nil,ha,hb]
 rfl
theorem z_snet:x8y=[nilS,nilS]:=by kernel_rfl
theorem x196(d:Nat){s p:AV}{l:List Scene}{P:List Pq}(hs:Sl Scene.c s l)(hp:Sl Pq.c p P)(hl:l.length<=1000000)(hP:P.length<=1000000)(m:Mem) :
 ∃s' p',Sl Scene.c s' l/\Sl Pq.c p' P/\xuv (xuu (d+1)) x17 [.agg [s,p]] m=some (.agg [s',p'],m):=by
 have hr:xv2 l.length 32:=by unfold xv2;omega
 have hr2:xv2 P.length 16:=by unfold xv2;omega
 have key:RetF (fun v=>∃s' p',v=.agg [s',p']/\Sl Scene.c s' l/\Sl Pq.c p' P) (xuu (d+1) [] x17 [.agg [s,p]] mem0):=by
  rw[xh3]
  unfold x7h x8x
  have a1:=fun m=>x16g Scene.len hs hr (0,5,6) m
  have a2:=fun m=>x16g Pq.len hp hr2 (0,9,10) m
  have hx:=hs.tX
  have hx2:=hp.tX
  simp[mem0,hs.one,hp.one,z_snet]
  generalize hm1:Mem.new _ _ _=m1
  rcases a1 m1 with ⟨rfl,h1⟩|⟨h0,h1⟩
  .simp only[h1]
   simp[<-hm1]
   rcases a2 m1 with ⟨rfl,h2⟩|⟨h02,h2⟩<;>rw[<-hm1]at h2
   .simp[h2,xv6,xvx,sLdP,tR,tA,hx,hx2,xuy,disj,<-hm1]
    exact RetF.st rfl ⟨_,_,rfl,Sl.lit [] true,Sl.lit [] true⟩
   .simp[h2,xv6,xvx,sLdP,tR,tA,hx,hx2,xuy,disj,<-hm1]
    refine RetF.mk (x13q rfl (xzb (k:=3) Pq.len Pq.still (x:=true) (l:=P) ?_)) ⟨_,_,rfl,Sl.lit [] true,Sl.lit P false⟩
    simp
  .simp only[h1]
   simp[<-hm1]
   generalize hm2:Mem.new (Mem.new _ _ _) (0,5,6) _=m2
   rcases a2 m2 with ⟨rfl,h2⟩|⟨h02,h2⟩
   .simp only[h2]
    simp[xv6,xvx,sLdP,tR,tA,hx,hx2,xuy,disj,<-hm2]
    refine RetF.mk (x13q (xzb (k:=3) Scene.len Scene.stillA (x:=true) (l:=l) ?_) rfl) ⟨_,_,rfl,Sl.lit l false,Sl.lit [] true⟩
    simp
   .simp only[h2]
    simp[xv6,xvx,sLdP,tR,tA,hx,hx2,xuy,disj,<-hm2]
    refine RetF.mk (x13q (xzb (k:=3) Scene.len Scene.stillA (x:=true) (l:=l) ?_) (xzb (k:=3) Pq.len Pq.still (x:=true) (l:=P) ?_)) ⟨_,_,rfl,Sl.lit l false,Sl.lit P false⟩<;>simp
 obtain⟨v,⟨s',p',rfl,h1,h2⟩,hc⟩:=xwq (by simp[hs.still1,hp.still1]) key m
 exact⟨s',p',h1,h2,hc⟩
end Go.Ix
