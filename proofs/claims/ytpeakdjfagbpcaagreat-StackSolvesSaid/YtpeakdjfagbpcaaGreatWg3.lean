import Derived.Test.YtpeakdjfagbpcaaGreatWg1
import Derived.Test.YtpeakdjfagbpcaaGreatWg2
import Derived.Test.YtpeakdjfagbpcaaGreatWg0
set_option linter.unusedSimpArgs false
set_option linter.unusedVariables false
namespace Go.Ix
open Go.Proofs
def Pq.v(p:Pq):Value:=.agg [.int .i64 p.a,.int .i64 p.b].toArray
def mpP(E:List (Pq×AV)):List (Value×AV):=E.map fun x=>(x.1.v,x.2)
def lkP:List (Pq×AV)->Pq->Option AV
 |[],_=>none
 |x::r,p=>if p.same x.1=true then some x.2 else lkP r p
theorem x2la(p q:Pq):x2e6 p.v q.v=p.same q:=by
 unfold x2e6 Pq.v Pq.same
 simp[x2hx]
 by_cases h:p.a=q.a<;>by_cases h2:p.b=q.b<;>simp[h,h2]
theorem find_mpP(E:List (Pq×AV))(p:Pq):findKey p.v (mpP E)=lkP E p:=by
 induction E with
 |nil=>rfl
 |cons x r ih=>
  unfold mpP at ih ⊢
  simp only[List.map_cons,findKey,lkP,x2la]
  rw[ih]
theorem set_mpP(E:List (Pq×AV))(p:Pq)(v:AV)(h:lkP E p=none):setKey p.v v (mpP E)=mpP (E++[(p,v)]):=by
 induction E with
 |nil=>rfl
 |cons x r ih=>
  simp only[lkP]at h
  unfold mpP at ih ⊢
  simp only[List.map_cons,List.cons_append,setKey,x2la]
  by_cases c:p.same x.1=true
  .rw[if_pos c]at h;cases h
  .rw[if_neg c]at h
   rw[if_neg c,ih h]
theorem chk_t(p:Pq):(x2cr Tryz.prog (Instr.checkKey true 10000 xe p.v)).isSome=true:=by kernel_rfl
theorem chk_f(p:Pq):(x2cr Tryz.prog (Instr.checkKey false 10000 xe p.v)).isSome=true:=by kernel_rfl
theorem equal_pq(p q:Pq):x2cr Tryz.prog (Op.equal xe p.v q.v)=some (p.same q):=x2pf p q
theorem x2pi{d:TypeDesc}(hd:Tryz.prog.underlying xe=some d)(E:List (Pq×AV))(p:Pq):x2h8 Tryz.prog xe d p.v (mpP E)=true:=by
 obtain⟨fs,hf⟩:∃fs,d=.struct fs:=by
  have:((Tryz.prog.underlying xe).bind fun d=>match d with | .struct fs=>some ()|_=>none)=some ():=by kernel_rfl
  rw[hd]at this
  cases d<;>first|exact⟨_,rfl⟩|cases this
 subst hf
 have h1:x2lq Tryz.prog xe (.struct fs) p.v (mpP E)=true:=by
  show(x2e6 p.v p.v&&((x2cr Tryz.prog (Instr.checkKey true 10000 xe p.v)).isSome&&(x2cr Tryz.prog (Instr.checkKey false 10000 xe p.v)).isSome) &&
   (mpP E).all fun e=>match e.1,x2cr Tryz.prog (Op.equal xe p.v e.1)with
    | .agg _,some b=>b == x2e6 p.v e.1
    |_,_=>false)=true
  rw[chk_t,chk_f,x2la,Pq.same_self]
  simp only[Bool.and_self,Bool.true_and,List.all_eq_true]
  intro e he
  unfold mpP at he
  obtain⟨x,-,rfl⟩:=List.mem_map.mp he
  rw[equal_pq,x2la]
  show(p.same x.1 == p.same x.1)=true
  simp
 unfold x2h8
 rw[h1,Bool.or_true]
theorem x2pj(p:Pq):x2d8 (.agg p.c)=some p.v:=rfl
theorem um_pq:∃d,Tryz.prog.underlying xe=some d:=by
 obtain⟨d,h⟩:∃d,(Tryz.prog.underlying xe).isSome=d:=⟨_,rfl⟩
 have:(Tryz.prog.underlying xe).isSome=true:=by kernel_rfl
 exact Option.isSome_iff_exists.mp this
theorem look_pq{t et:TypeId}{z:AV}(ht:Tryz.prog.underlying t=some (.map xe et))(hz:x2js Tryz.prog et=some z)(id:Id)(E:List (Pq×AV))(p:Pq)(ok:Bool)(m:Mem)(h:m.get id=some (.map (mpP E))) :
 x2i6 Tryz.prog t (.mp id) (.agg p.c) ok m=some (if ok then .tup [(lkP E p).getD z,B (lkP E p).isSome]else(lkP E p).getD z):=by
 obtain⟨d,hd⟩:=um_pq
 unfold x2i6
 simp only[ht,x2pj,hd,hz,x2hy,h]
 rw[if_pos (x2pi hd E p),find_mpP]
theorem up_pq{R:Type}{t et:TypeId}(ht:Tryz.prog.underlying t=some (.map xe et))(id:Id)(E:List (Pq×AV))(p:Pq)(v:AV)(m:Mem)(k:Mem->Option R)(h:m.get id=some (.map (mpP E)))(hn:lkP E p=none) :
 x2jd Tryz.prog t (.mp id) (.agg p.c) v m k=k (m.set id (.map (mpP (E++[(p,v)])))):=by
 obtain⟨d,hd⟩:=um_pq
 unfold x2jd
 simp only[ht,x2pj,hd,h]
 rw[if_pos (x2pi hd E p),set_mpP E p v hn]
theorem lkP_app(E:List (Pq×AV))(p q:Pq)(v:AV)(h:lkP E p=none):lkP (E++[(p,v)]) q=if q.same p=true then some v else lkP E q:=by
 induction E with
 |nil=>simp[lkP]
 |cons x r ih=>
  simp only[lkP,List.cons_append]at h ⊢
  by_cases c:p.same x.1=true
  .rw[if_pos c]at h;cases h
  .rw[if_neg c]at h
   rw[ih h]
   by_cases e:q.same x.1=true
   .rw[if_pos e,if_neg,if_pos e]
    intro e2
    rw[Pq.same_iff]at e e2 c
    exact c (by rw[<-e2,e])
   .rw[if_neg e,if_neg e]
def x2gg(n:Int)(P:List Pq):Nat->List Pq->Int×Int
 |_,[]=>(0,0)
 |k,p::r=>
  bif !(wi p.a 0 (n-1))||!(wi p.b 0 (n-1))then((k:Int),6)
  else bif decide (p.b<=p.a)then((k:Int),9)
  else bif(P.take k).any (fun q=>q.same p)then((k:Int),28)
  else x2gg n P (k+1) r
def net7(l:List Scene)(P:List Pq):Int×Int:=bif !decide ((x2el l).2=0)then x2el l else bif decide (200<P.length)then(0,8)else x2gg l.length P 0 P
theorem zv_bool:x2js Tryz.prog x77=some (B false):=by kernel_rfl
theorem um_pb:Tryz.prog.underlying xjm=some (.map xe x77):=by kernel_rfl
theorem x2pk{P:List Pq}{k:Nat}(hk:k<P.length)(q:Pq):(P.take (k+1)).any (fun x=>x.same q)=((P.take k).any (fun x=>x.same q)||P[k].same q):=by
 rw[List.take_succ_eq_append_getElem hk,List.any_append]
 simp
theorem same_symm{p q:Pq}:p.same q=q.same p:=by
 rw[Bool.eq_iff_iff,Pq.same_iff,Pq.same_iff]
 exact eq_comm
def Seen(P:List Pq)(k:Nat)(E:List (Pq×AV)):Prop:=∀q,lkP E q=bif(P.take k).any (fun x=>x.same q)then some (B true)else none
theorem x2sc(d s24:Nat){s p:AV}{l:List Scene}{P:List Pq}(hs:Sl Scene.c s l)(hp:Sl Pq.c p P)(hl:l.length<=60)(hP:P.length<=200){T:Int×Int} :
 ∀(n k:Nat) (x:Unit) (m:Mem) (fc:Nat),k<=P.length->P.length<n+k->(m.get (0,0,1)=some (.row [s,p] 0 false)/\(∃E,m.get (0,s24,24)=some (.map (mpP E))/\Seen P k E)/\x2gg l.length P k (P.drop k)=T) ->
 RetF (fun v=>v=.tup [I T.1,I T.2]) (x33 (x2cl (d+2)) [] 0 n (.ptr (0,0,1) 0 0) (.mp (0,s24,24)) p (I P.length) (I k) m fc):=by
 refine x2de (fun n k _ m fc=>x33 (x2cl (d+2)) [] 0 n (.ptr (0,0,1) 0 0) (.mp (0,s24,24)) p (I P.length) (I k) m fc)
  (fun k _ m=>m.get (0,0,1)=some (.row [s,p] 0 false)/\(∃E,m.get (0,s24,24)=some (.map (mpP E))/\Seen P k E)/\x2gg l.length P k (P.drop k)=T) _ ?_ ?_
 .rintro n k-m fc hk ⟨hg,⟨E,hE,hS⟩,hT⟩ next
  have hk':(k:Int)<(P.length:Int):=by omega
  have ix:=hp.ix Pq.len hk
  have ld:=x2eg (m:=m) Pq.len (by omega) hk
  rw[x2e2 hk]at hT
  have hta:=x2pk hk
  generalize P[k]=e at ld hT hta
  simp only[x33]
  unfold xen
  simp only[x2db,hk',decide_true,x2d9,x2cs,ix,ld,x2l4,x2fo,x2hj,Mem.get_new,if_true,x2kd]
  simp(disch:=omega) [Pq.c]
  generalize hm1:Mem.set _ _ _=m1
  have h1:m1.get (0,0,1)=some (.row [s,p] 0 false):=by rw[<-hm1];simp[hg]
  have h8:m1.get (0,fc+4,8)=some (.row [I e.a,I e.b] 0 false):=by rw[<-hm1];simp
  have h24:m1.get (0,s24,24)=some (.map (mpP E)):=by rw[<-hm1];simp[hE]
  have hlk:=look_pq um_pb zv_bool (0,s24,24) E e false m1 h24
  have hse:=hS e
  simp[hg,hs.len x2dr]
  rw[x2cq (by omega) (by omega)]
  simp[x2jl]
  simp only[x2gg]at hT
  cases c1:wi e.a 0 ((l.length:Int)-1)with
  |false=>
   simp[c1]at hT ⊢
   exact RetF.tup rfl (by rw[<-hT])
  |true=>
   simp[h8,x2jl]
   cases c2:wi e.b 0 ((l.length:Int)-1)with
   |false=>
    simp[c1,c2]at hT ⊢
    exact RetF.tup rfl (by rw[<-hT])
   |true=>
    simp[c1,c2]at hT
    simp[h8]
    by_cases c3:e.b<=e.a
    .simp[c3]at hT ⊢
     exact RetF.tup rfl (by rw[<-hT])
    .simp[c3]at hT
     simp[c3,h8]
     rw[show AV.agg [I e.a,I e.b]=.agg e.c from rfl,hlk,hse]
     cases c4:(P.take k).any fun x=>x.same e with
     |true=>
      simp[c4]at hT ⊢
      exact RetF.tup rfl (by rw[<-hT])
     |false=>
      rw[c4]at hT hse
      simp[h8]
      rw[up_pq um_pb (0,s24,24) E e (B true) m1 _ h24 hse]
      refine next () _ _ ⟨by simp[h1],⟨E++[(e,B true)],by simp,fun q=>?_⟩,hT⟩
      rw[lkP_app E e q _ hse,hta q,hS q,same_symm (p:=e)]
      cases q.same e<;>cases(P.take k).any fun x=>x.same q<;>rfl
 .rintro n-m fc ⟨hg,-,hT⟩
  have hk:¬((P.length:Int)<(P.length:Int)):=by omega
  simp only[x33]
  unfold xen x4w
  rw[List.drop_of_length_le (Nat.le_refl _)]at hT
  simp[hk]
  exact RetF.tup rfl (by rw[<-hT];rfl)
theorem x2sd(d:Nat){s p:AV}{l:List Scene}{P:List Pq}(hs:Sl Scene.c s l)(hp:Sl Pq.c p P)(m:Mem):x2cm (x2cl (d+5)) x6x [.agg [s,p]] m=some (.tup [I (net7 l P).1,I (net7 l P).2],m):=by
 refine x2ek (by simp[hs.still1,hp.still1]) ?_ m
 rw[x1by]
 unfold xh8 xjn net7
 simp[hs.one,hp.one,mem0,x2s4 d hs]
 by_cases he:(x2el l).2=0
 .obtain⟨hl,-⟩:=x2mt he
  simp[he,hp.len x2e0]
  by_cases h200:200<P.length
  .have h2:(200:Int)<(P.length:Int):=by omega
   simp[h200,h2]
   exact RetF.tup rfl rfl
  .have h2:¬(200:Int)<(P.length:Int):=by omega
   simp[h200,h2,x2ku]
   unfold xeo
   simp[hp.len x2e0]
   exact x2sc (d+2) 17 hs hp hl (by omega) NN 0 () _ _ (by omega) (by rw[x2cz];omega) ⟨by simp,⟨[],by simp;rfl,fun q=>by simp[lkP]⟩,by simp⟩
 .simp[he]
  exact RetF.tup rfl rfl
theorem w_netErr(d:Nat){s p:AV}{l:List Scene}{P:List Pq}(hs:Sl Scene.c s l)(hp:Sl Pq.c p P)(m:Mem):x2cm (x2cl (d+6)) x2o [.agg [s,p]] m=some (I (net7 l P).2,m):=by
 refine x2ek (by simp[hs.still1,hp.still1]) ?_ m
 rw[x1be]
 unfold xgl xiz
 simp[hs.one,hp.one,mem0,x2sd d hs hp]
 exact RetF.st rfl rfl
theorem x2se(d:Nat){s p:AV}{P:List Pq}(hp:Sl Pq.c p P)(hP:P.length<=200){i:Nat}(hi:i<P.length){e:Pq}(s7:Nat)(rec0:AV->AV->Mem->Nat->O2)(Q:O2->Prop){m:Mem}(hg:m.get (0,0,1)=some (.row [s,p] 0 false))(h7:m.get (0,s7,7)=some (.row [I e.a,I e.b] 0 false))(ht:(P.take i).any (fun x=>x.same e)=true->Q (some (.tup [I i,I 28],m)))(hf:(P.take i).any (fun x=>x.same e)=false->∀fc,Q (rec0 (.ptr (0,0,1) 0 0) (I ((i:Int)+1)) m fc)) :
 ∀(n k:Nat) (x:Unit) (m':Mem) (fc:Nat),k<=i->i<n+k->(m'=m/\(P.take k).any (fun x=>x.same e)=false) ->
 Q (x2w (x2cl (d+1)) [] 0 rec0 n (.ptr (0,0,1) 0 0) (I i) (.ptr (0,s7,7) 0 0) (I k) m' fc):=by
 refine x2de (fun n k _ m fc=>x2w (x2cl (d+1)) [] 0 rec0 n (.ptr (0,0,1) 0 0) (I i) (.ptr (0,s7,7) 0 0) (I k) m fc) (fun k _ m'=>m'=m/\(P.take k).any (fun x=>x.same e)=false) Q ?_ ?_
 .rintro n k-m' fc hk ⟨rfl,hA⟩ next
  have hk':(k:Int)<(i:Int):=by omega
  have hk2:k<P.length:=by omega
  have ix:=hp.ix Pq.len hk2
  have ld:=x2eg (m:=m') Pq.len (by omega) hk2
  have hta:=x2pk hk2 e
  have hts:P[k].same e=true->(P.take i).any (fun x=>x.same e)=true:=fun h=>by
   rw[List.any_eq_true]
   exact⟨P[k],by rw[List.mem_take_iff_getElem];exact⟨k,by omega,rfl⟩,h⟩
  generalize P[k]=y at ld hta hts
  have heq:=eq_pair7 (.tmp 69) (.tmp 70) y e
  simp only[x2w]
  unfold xdt
  simp[hk',hg,ix,ld,h7]
  rw[show AV.agg [I e.a,I e.b]=.agg e.c from rfl,heq]
  cases c:y.same e with
  |true=>
   simp
   exact ht (hts c)
  |false=>
   simp(disch:=omega) [x2cq]
   exact next () _ _ ⟨rfl,by rw[hta,hA,c];rfl⟩
 .rintro n-m' fc ⟨rfl,hA⟩
  simp only[x2w]
  unfold xdt x1b
  simp(disch:=omega) [x2cq]
  exact hf hA _
theorem x2sf(d:Nat){s p:AV}{l:List Scene}{P:List Pq}(hs:Sl Scene.c s l)(hp:Sl Pq.c p P)(hl:l.length<=60)(hP:P.length<=200){T:Int×Int} :
 ∀(n k:Nat) (x:Unit) (m:Mem) (fc:Nat),k<=P.length->P.length<n+k->(m.get (0,0,1)=some (.row [s,p] 0 false)/\x2gg l.length P k (P.drop k)=T) ->
 RetF (fun v=>v=.tup [I T.1,I T.2]) (x25 (x2cl (d+1)) [] 0 n (.ptr (0,0,1) 0 0) (I k) m fc):=by
 refine x2de (fun n k _ m fc=>x25 (x2cl (d+1)) [] 0 n (.ptr (0,0,1) 0 0) (I k) m fc)
  (fun k _ m=>m.get (0,0,1)=some (.row [s,p] 0 false)/\x2gg l.length P k (P.drop k)=T) _ ?_ ?_
 .rintro n k-m fc hk ⟨hg,hT⟩ next
  have hk':(k:Int)<(P.length:Int):=by omega
  have ix:=hp.ix Pq.len hk
  have ld:=x2eg (m:=m) Pq.len (by omega) hk
  rw[x2e2 hk]at hT
  generalize P[k]=e at ld hT
  simp only[x25]
  unfold xdu x93
  simp[hg,hp.len x2e0,hs.len x2dr,hk',ix,ld,x2fo,Pq.c]
  rw[x2cq (by omega) (by omega)]
  simp[x2ib]
  generalize hm1:Mem.set _ _ _=m1
  have h1:m1.get (0,0,1)=some (.row [s,p] 0 false):=by rw[<-hm1];simp[hg]
  have h7:m1.get (0,fc+5+5,7)=some (.row [I e.a,I e.b] 0 false):=by rw[<-hm1];simp
  simp only[x2gg]at hT
  cases c1:wi e.a 0 ((l.length:Int)-1)with
  |false=>
   simp[c1]at hT ⊢
   exact RetF.tup rfl (by rw[<-hT])
  |true=>
   simp[h7,h1,hs.len x2dr]
   rw[x2cq (by omega) (by omega)]
   simp[x2ib]
   cases c2:wi e.b 0 ((l.length:Int)-1)with
   |false=>
    simp[c1,c2]at hT ⊢
    exact RetF.tup rfl (by rw[<-hT])
   |true=>
    simp[c1,c2]at hT
    simp[h7]
    by_cases c3:e.b<=e.a
    .simp[c3]at hT ⊢
     exact RetF.tup rfl (by rw[<-hT])
    .simp[c3]at hT
     simp[c3]
     refine x2se d (s:=s) hp hP hk (fc+5+5) (x25 (x2cl (d+1)) [] 0 n) _ h1 h7 (fun ha=>?_) (fun ha fc=>?_) NN 0 () m1 _ (by omega) (by rw[x2cz];omega) ⟨rfl,by simp⟩
     .simp[ha]at hT
      exact RetF.tup rfl (by rw[<-hT])
     .rw[ha]at hT
      exact next () m1 fc ⟨h1,hT⟩
 .rintro n-m fc ⟨hg,hT⟩
  have hk:¬((P.length:Int)<(P.length:Int)):=by omega
  simp only[x25]
  unfold xdu x10
  rw[List.drop_of_length_le (Nat.le_refl _)]at hT
  simp[hk,hg,hp.len x2e0]
  exact RetF.tup rfl (by rw[<-hT];rfl)
theorem x2sg(d:Nat){s p:AV}{l:List Scene}{P:List Pq}(hs:Sl Scene.c s l)(hp:Sl Pq.c p P)(m:Mem):x2cm (x2cl (d+3)) x6t [.agg [s,p]] m=some (.tup [I (net7 l P).1,I (net7 l P).2],m):=by
 refine x2ek (by simp[hs.still1,hp.still1]) ?_ m
 rw[x1bh]
 unfold xgo xj4 net7
 simp[hs.one,hp.one,mem0,x2s7 d hs]
 by_cases he:(x2el l).2=0
 .obtain⟨hl,-⟩:=x2mt he
  simp[he,hp.len x2e0]
  by_cases h200:200<P.length
  .have h2:(200:Int)<(P.length:Int):=by omega
   simp[h200,h2]
   exact RetF.tup rfl rfl
  .have h2:¬(200:Int)<(P.length:Int):=by omega
   simp[h200,h2]
   unfold xdv
   exact x2sf (d+1) hs hp hl (by omega) NN 0 () _ _ (by omega) (by rw[x2cz];omega) ⟨by simp,by simp⟩
 .simp[he]
  exact RetF.tup rfl rfl
theorem w_Err7(d:Nat){s p:AV}{l:List Scene}{P:List Pq}(hs:Sl Scene.c s l)(hp:Sl Pq.c p P)(m:Mem):x2cm (x2cl (d+4)) x6p [.agg [s,p]] m=some (I (net7 l P).2,m):=by
 refine x2ek (by simp[hs.still1,hp.still1]) ?_ m
 rw[x1ax]
 unfold xg1 xi7
 simp[hs.one,hp.one,mem0,x2sg d hs hp]
 exact RetF.st rfl rfl
def few7(l:List Scene)(P:List Pq):Bool:=
 bif(decide (8<l.length)&&decide (l.length<=60))||decide (62<l.length)||(decide (14<P.length)&&decide (P.length<=200))||decide (202<P.length)then false else x2id l
theorem few7_len{l:List Scene}{P:List Pq}(h:few7 l P=true):l.length<=62/\P.length<=202:=by
 unfold few7 at h
 by_cases h1:62<l.length
 .simp[h1]at h
 .by_cases h2:202<P.length
  .simp[h2]at h
  .omega
theorem w_Few7(d:Nat){s p:AV}{l:List Scene}{P:List Pq}(hs:Sl Scene.c s l)(hp:Sl Pq.c p P)(m:Mem):x2cm (x2cl (d+1)) x6o [.agg [s,p]] m=some (B (few7 l P),m):=by
 refine x2ek (by simp[hs.still1,hp.still1]) ?_ m
 rw[x1au]
 unfold xfx xi3
 have hb:∀fc,few7 l P=x2id l->l.length<=62->RetF (fun v=>v=B (few7 l P)) (x8p (x2cl d) [] 0 (.ptr (0,0,1) 0 0) (((⟨[],1⟩:Mem).new (0,0,1) (.row [s,p] 0 false))) fc):=fun fc he hl=>by
  rw[he]
  unfold x8p
  obtain⟨m0,hm0⟩:∃m0,m0=(⟨[],1⟩:Mem).new (0,0,1) (.row [s,p] 0 false):=⟨_,rfl⟩
  have hg:m0.get (0,0,1)=some (.row [s,p] 0 false):=by rw[hm0];simp
  rw[<-hm0]
  refine x2de (N:=l.length) (σ:=Unit) (fun n k _ m fc=>x41 (x2cl d) [] 0 n (.ptr (0,0,1) 0 0) (I k) m fc) (fun k _ m=>m=m0/\x2id l=x2id (l.drop k)) _ ?_ ?_ NN 0 () m0 _ (by omega) (by rw[x2cz];omega) ⟨rfl,by simp⟩
  .rintro n k-m fc hk ⟨rfl,hS⟩ next
   have hk':(k:Int)<(l.length:Int):=by omega
   have ix:=hs.ix Scene.len hk
   have f1:=x2h1 (enc:=Scene.c) (m:=m) hk 0 rfl
   simp only[List.drop_zero]at f1
   have hS':x2id l=(decide (l[k].nm.size<=20)&&x2id (l.drop (k+1))):=by rw[hS,x2e2 hk];rfl
   simp only[x41]
   unfold xcr
   simp only[hg,hs.len x2dr,x2ji,x2eh,x2g0,x2cs,x2db]
   simp[hs.len x2dr,hk',ix,f1]
   by_cases c:(20:Int)<(l[k].nm.size:Int)
   .simp[c]
    exact RetF.st rfl (by rw[hS',decide_eq_false (show ¬l[k].nm.size<=20 by omega)];rfl)
   .simp(disch:=omega) [c,x2cq]
    refine next () m _ ⟨rfl,?_⟩
    rw[hS',decide_eq_true (show l[k].nm.size<=20 by omega)];rfl
  .rintro n-m fc ⟨rfl,hS⟩
   have hk:¬((l.length:Int)<(l.length:Int)):=by omega
   simp only[x41]
   unfold xcr x40
   rw[List.drop_of_length_le (Nat.le_refl _)]at hS
   simp[hg,hs.len x2dr,hk]
   exact RetF.st rfl (by rw[hS];rfl)
 have e1:decide ((8:Int)<(l.length:Int))=decide (8<l.length):=decide_eq_decide.mpr (by omega)
 have e2:decide ((l.length:Int)<=60)=decide (l.length<=60):=decide_eq_decide.mpr (by omega)
 have e3:decide ((62:Int)<(l.length:Int))=decide (62<l.length):=decide_eq_decide.mpr (by omega)
 have e4:decide ((14:Int)<(P.length:Int))=decide (14<P.length):=decide_eq_decide.mpr (by omega)
 have e5:decide ((P.length:Int)<=200)=decide (P.length<=200):=decide_eq_decide.mpr (by omega)
 have e6:decide ((202:Int)<(P.length:Int))=decide (202<P.length):=decide_eq_decide.mpr (by omega)
 simp only[mem0,x2l5,x2p4,List.all_cons,List.all_nil,hs.one,hp.one,Bool.and_self,x2e7,x2ji,x2eh,x2g0,x2cs,Mem.get_new,if_true,sLe_I,x2db,x2hh]
 simp only[Nat.zero_add,List.drop_zero,List.drop_succ_cons,show Nat.beq 0 0=true from rfl,x2e7,rd_f,x2cs,hs.len x2dr,hp.len x2e0,x2hh,sLe_I,e1,e2,e3,e4,e5,e6]
 have hfe:few7 l P=bif(decide (8<l.length)&&decide (l.length<=60))||decide (62<l.length)||(decide (14<P.length)&&decide (P.length<=200))||decide (202<P.length)then false else x2id l:=rfl
 by_cases h62:62<l.length
 .have:¬l.length<=60:=by omega
  have h8:8<l.length:=by omega
  rw[hfe]
  simp[h62,this,h8,e1,e2,e3,hs.len x2dr,hp.len x2e0,Mem.get_new]
  exact RetF.st rfl rfl
 cases a1:decide (8<l.length)<;>cases a2:decide (l.length<=60)<;>cases a4:decide (14<P.length)<;>cases a5:decide (P.length<=200)<;>cases a6:decide (202<P.length) <;>
  simp only[a1,a2,a4,a5,a6,h62,decide_false,Bool.and_true,Bool.and_false,Bool.true_and,Bool.false_and,Bool.or_true,Bool.or_false,Bool.true_or,Bool.false_or,x2e7,cond_f]at hfe <;>
  simp[a1,a2,a4,a5,a6,h62,e1,e2,e3,e4,e5,e6,hs.len x2dr,hp.len x2e0,Mem.get_new] <;>
  first
  |exact RetF.st rfl (by rw[hfe])
  |exact hb _ hfe (by omega)
theorem Edge.still(e:Edge):e.c.all still1=true:=rfl
def fewE:List Edge->Bool
 |[]=>true
 |e::r=>bif decide (20<e.wt)||decide (5<(e.jump.natAbs:Int))then false else fewE r
def few(n:Int)(l:List Edge):Bool:=
 bif !decide ((checkNet n l).2=0)then decide ((l.length:Int)<=16)||(decide (600<(l.length:Int))&&decide ((l.length:Int)<=602))
 else bif decide (10<n)||decide (16<(l.length:Int))then false else fewE l
theorem x2mx{α:Type}{enc:α->List AV}{z bytes:Nat}(hz:∀x,(enc x).length=z){a:AV}{l:List α}(h:Sl enc a l)(hr:x2cx l.length bytes)(id:Id)(m:Mem) :
 (l=[]/\∀{R:Type} (k:AV->Mem->Option R),sApp z bytes id (elems m.get z a) (.slit [] 0 true) m k=k (.slit [] 0 true) m) \/
 (l≠[]/\∀{R:Type} (k:AV->Mem->Option R),sApp z bytes id (elems m.get z a) (.slit [] 0 true) m k=k (.sref id 0 0 l.length z true) (m.new id (.row (l.flatMap enc) 0 false))):=by
 have he:=h.elems hz m.get
 by_cases hq:l.length=0
 .refine .inl ⟨List.length_eq_zero_iff.mp hq,fun k=>?_⟩
  rw[he,x2p5 hr,decide_eq_true hq]
  rfl
 .refine .inr ⟨fun e=>hq (by rw[e];rfl),fun k=>?_⟩
  rw[he,x2p5 hr,decide_eq_false hq]
  rfl
theorem x2ie{α:Type}{enc:α->List AV}{z k:Nat}(hz:∀x,(enc x).length=z)(hs:∀x,(enc x).all still1=true){objs:Id->Option Ob}{id:Id}{l:List α}{x:Bool}(hg:objs id=some (.row (l.flatMap enc) 0 false)) :
 frz objs (k+2) (.sref id 0 0 l.length z x)=some (.slit (l.flatMap enc) l.length false):=by
 have hl:=x2f4 hz l
 have:=x2ia (objs:=objs) (id:=id) (cs:=l.flatMap enc) (ver:=0) (off:=0) (n:=l.length) (z:=z) (k:=k) (f:=false) (x:=x) hg (by omega) (by
  rw[List.drop_zero,List.take_of_length_le (by omega)];exact x2hk hs l)
 rw[List.drop_zero,List.take_of_length_le (by omega)]at this
 exact this
theorem x2my{objs:Id->Option Ob}{a b a' b':AV}{k:Nat}(ha:frz objs (k+1) a=some a')(hb:frz objs (k+1) b=some b'):frz objs (k+2) (.agg [a,b])=some (.agg [a',b']):=by
 show([a,b].mapM (frz objs (k+1))).map AV.agg=_
 simp only[List.mapM_cons,List.mapM_nil,ha,hb]
 rfl
theorem z_snet:x8r=[nilS,nilS]:=by kernel_rfl
theorem x2sh(d:Nat){s p:AV}{l:List Scene}{P:List Pq}(hs:Sl Scene.c s l)(hp:Sl Pq.c p P)(hl:l.length<=1000000)(hP:P.length<=1000000)(m:Mem) :
 ∃s' p',Sl Scene.c s' l/\Sl Pq.c p' P/\x2cm (x2cl (d+1)) x5e [.agg [s,p]] m=some (.agg [s',p'],m):=by
 have hr:x2cx l.length 32:=by unfold x2cx;omega
 have hr2:x2cx P.length 16:=by unfold x2cx;omega
 have key:RetF (fun v=>∃s' p',v=.agg [s',p']/\Sl Scene.c s' l/\Sl Pq.c p' P) (x2cl (d+1) [] x5e [.agg [s,p]] mem0):=by
  rw[x1av]
  unfold xfz xi5
  have a1:=fun m=>x2mx Scene.len hs hr (0,5,6) m
  have a2:=fun m=>x2mx Pq.len hp hr2 (0,9,10) m
  have hx:=hs.tX
  have hx2:=hp.tX
  simp[mem0,hs.one,hp.one,z_snet]
  generalize hm1:Mem.new _ _ _=m1
  rcases a1 m1 with ⟨rfl,h1⟩|⟨h0,h1⟩
  .simp only[h1]
   simp[<-hm1]
   rcases a2 m1 with ⟨rfl,h2⟩|⟨h02,h2⟩<;>rw[<-hm1]at h2
   .simp[h2,x2d0,x2e9,sLdP,tR,tA,hx,hx2,x2cn,disj,<-hm1]
    exact RetF.st rfl ⟨_,_,rfl,Sl.lit [] true,Sl.lit [] true⟩
   .simp[h2,x2d0,x2e9,sLdP,tR,tA,hx,hx2,x2cn,disj,<-hm1]
    refine RetF.mk (x2my rfl (x2ie (k:=3) Pq.len Pq.still (x:=true) (l:=P) ?_)) ⟨_,_,rfl,Sl.lit [] true,Sl.lit P false⟩
    simp
  .simp only[h1]
   simp[<-hm1]
   generalize hm2:Mem.new (Mem.new _ _ _) (0,5,6) _=m2
   rcases a2 m2 with ⟨rfl,h2⟩|⟨h02,h2⟩
   .simp only[h2]
    simp[x2d0,x2e9,sLdP,tR,tA,hx,hx2,x2cn,disj,<-hm2]
    refine RetF.mk (x2my (x2ie (k:=3) Scene.len Scene.stillA (x:=true) (l:=l) ?_) rfl) ⟨_,_,rfl,Sl.lit l false,Sl.lit [] true⟩
    simp
   .simp only[h2]
    simp[x2d0,x2e9,sLdP,tR,tA,hx,hx2,x2cn,disj,<-hm2]
    refine RetF.mk (x2my (x2ie (k:=3) Scene.len Scene.stillA (x:=true) (l:=l) ?_) (x2ie (k:=3) Pq.len Pq.still (x:=true) (l:=P) ?_)) ⟨_,_,rfl,Sl.lit l false,Sl.lit P false⟩<;>simp
 obtain⟨v,⟨s',p',rfl,h1,h2⟩,hc⟩:=x2ei (by simp[hs.still1,hp.still1]) key m
 exact⟨s',p',h1,h2,hc⟩
end Go.Ix
namespace Go.Ix
variable{R:Type}{m:Mem}
theorem x2hn:∀l:List Int,l.flatMap intE=l.map I
 |[]=>rfl
 |x::l=>by rw[List.flatMap_cons,x2hn l];rfl
theorem x2ho(l:List Int):(l.flatMap intE).length=l.length:=by rw[x2hn];simp
abbrev srI(id:Id)(n:Nat):AV:=.sref id 0 0 n 1 true
theorem ix_own{id:Id}{n:Nat}{k:Int}(h0:0<=k)(hk:k<n):sIx 1 (srI id n) (I k)=some (.ptr id 0 k.toNat):=by
 simp[sIx,asI,h0,hk]
@[simp high] theorem ldRow_int{l:List Int}{k:Nat}{fz:Bool}(hk:k<l.length):x2jj false 1 0 k (some (.row (l.flatMap intE) 0 fz))=some (I (at0 l k)):=by
  simp only[x2jj,Nat.beq_refl,cond_true,rd,Bool.false_eq_true,if_false]
  rw[x2hn,<-List.map_drop,x2e2 hk,x2d4 hk]
  rfl
@[simp high] theorem stRow_int{l:List Int}{k:Nat}{v:Int}(hk:k<l.length):stRow 1 0 k (I v) (some (.row (l.flatMap intE) 0 false))=some (.row ((l.set k v).flatMap intE) 0 false):=by
  have h:(0:Nat)=0/\(I v).cells.length=1/\k+1<=(l.flatMap intE).length/\((I v).cells.all AV.one)=true:=⟨rfl,rfl,by rw[x2ho];omega,rfl⟩
  rw[x2kd,decide_eq_true h,cond_true]
  simp only[x2hn,x2dh,x2mn]
  congr 2
  rw[List.map_set,List.set_eq_take_append_cons_drop,if_pos (by simpa using hk)]
  simp
theorem at0_set{l:List Int}{k j:Nat}{v:Int}(hk:k<l.length):at0 (l.set k v) j=if j=k then v else at0 l j:=by
 unfold at0
 rw[List.getD_eq_getElem?_getD,List.getD_eq_getElem?_getD,List.getElem?_set]
 by_cases h:k=j
 .subst h;simp[hk]
 .rw[if_neg h,if_neg (fun e=>h e.symm)]
theorem zeros_int(n:Nat):x2dn [I 0] (n*1)=(List.replicate n (0:Int)).flatMap intE:=by
 rw[x2hn,Nat.mul_one]
 simp only[x2dn,List.map_replicate]
 apply List.ext_getElem
 .simp
 .intro i h1 h2
  simp[Nat.mod_one]
theorem mkSl_int{n:Int}{id:Id}{k:AV->Mem->Option R}(h0:0<=n)(h1:n<=1000000):x2dq [I 0] 1 8 (I n) (I n) id m k=k (srI id n.toNat) (m.new id (.row ((List.replicate n.toNat (0:Int)).flatMap intE) 0 false)):=by
 simp only[x2dq,asI]
 rw[if_pos ⟨h0,Int.le_refl _,by omega,by omega⟩,zeros_int]
def mn(x y:Int):Int:=if y<x then y else x
def x2df(u:List Int)(p:Pq):List Int:=u.map fun x=>if x=at0 u p.a.toNat\/x=at0 u p.b.toNat then mn (at0 u p.a.toNat) (at0 u p.b.toNat)else x
def joinsM(u:List Int)(l:List Pq):List Int:=l.foldl x2df u
def freshM(n:Nat):List Int:=(List.range n).map fun(i:Nat)=>(i:Int)
def PqIn(n:Nat)(p:Pq):Prop:=0<=p.a/\p.a<p.b/\p.b<n
structure Lab (n:Nat) (u:List Int):Prop where
 len:u.length=n
 ok:∀v,v<n->0<=at0 u v/\at0 u v<=v/\at0 u (at0 u v).toNat=at0 u v
theorem x2lb(u:List Int)(p:Pq):(x2df u p).length=u.length:=by unfold x2df;simp
theorem x2h3{u:List Int}{p:Pq}{v:Nat}(h:v<u.length):at0 (x2df u p) v=if at0 u v=at0 u p.a.toNat\/at0 u v=at0 u p.b.toNat then mn (at0 u p.a.toNat) (at0 u p.b.toNat)else at0 u v:=by
 rw[x2d4 (by rw[x2lb];exact h),x2d4 h]
 unfold x2df
 rw[List.getElem_map]
theorem mn_or(a b:Int):mn a b=a/\a<=b\/mn a b=b/\b<a:=by
 unfold mn
 split
 .right;exact⟨rfl,by assumption⟩
 .left;exact⟨rfl,by omega⟩
theorem Lab.fresh(n:Nat):Lab n (freshM n):=by
 refine⟨by simp[freshM],fun v hv=>?_⟩
 have:∀w,w<n->at0 (freshM n) w=w:=fun w hw=>by
  rw[x2d4 (by simpa[freshM]using hw)]
  simp[freshM]
 rw[this v hv]
 refine⟨by omega,by omega,?_⟩
 rw[Int.toNat_natCast,this v hv]
theorem Lab.get_fresh{n v:Nat}(h:v<n):at0 (freshM n) v=v:=by
 rw[x2d4 (by simpa[freshM]using h)]
 simp[freshM]
theorem Lab.lt{n:Nat}{u:List Int}(h:Lab n u){v:Nat}(hv:v<n):(at0 u v).toNat<n:=by
 have:=h.ok v hv
 omega
theorem Lab.join{n:Nat}{u:List Int}(h:Lab n u){p:Pq}(hp:PqIn n p):Lab n (x2df u p):=by
 obtain⟨h0,h1,h2⟩:=hp
 have ea:=h.ok p.a.toNat (by omega)
 have eb:=h.ok p.b.toNat (by omega)
 refine⟨by rw[x2lb];exact h.len,fun v hv=>?_⟩
 have ev:=h.ok v hv
 rw[x2h3 (by rw[h.len];exact hv)]
 obtain⟨m,hm⟩:∃m,m=mn (at0 u p.a.toNat) (at0 u p.b.toNat):=⟨_,rfl⟩
 have hmo:=mn_or (at0 u p.a.toNat) (at0 u p.b.toNat)
 rw[<-hm]at hmo ⊢
 by_cases c:at0 u v=at0 u p.a.toNat\/at0 u v=at0 u p.b.toNat
 .rw[if_pos c]
  refine⟨by omega,by omega,?_⟩
  rw[x2h3 (by rw[h.len];omega),<-hm]
  have:at0 u m.toNat=at0 u p.a.toNat\/at0 u m.toNat=at0 u p.b.toNat:=by
   rcases hmo with ⟨e,-⟩|⟨e,-⟩
   .rw[e,ea.2.2];exact Or.inl rfl
   .rw[e,eb.2.2];exact Or.inr rfl
  rw[if_pos this]
 .rw[if_neg c]
  refine⟨ev.1,ev.2.1,?_⟩
  rw[x2h3 (by rw[h.len];omega),ev.2.2,if_neg c]
theorem Lab.joins{n:Nat}:∀{l:List Pq} {u:List Int},Lab n u->(∀p∈l,PqIn n p)->Lab n (joinsM u l)
 |[],_,h,_=>h
 |p::l,u,h,hp=>Lab.joins (l:=l) (h.join (hp p (List.mem_cons_self ..))) fun q hq=>hp q (List.mem_cons_of_mem _ hq)
def Sm(u:List Int)(v w:Nat):Prop:=at0 u v=at0 u w
theorem join_aux(x y a b m:Int)(hmo:m=a/\a<=b\/m=b/\b<a):((if x=a\/x=b then m else x)=(if y=a\/y=b then m else y))↔(x=y\/(x=a/\y=b)\/(x=b/\y=a)):=by
 by_cases c1:x=a\/x=b<;>by_cases c2:y=a\/y=b<;>(first|rw[if_pos c1]|rw[if_neg c1])<;>(first|rw[if_pos c2]|rw[if_neg c2])<;>omega
theorem x2mz{n:Nat}{u:List Int}{p:Pq}(h:Lab n u){v w:Nat}(hv:v<n)(hw:w<n) :
 Sm (x2df u p) v w↔Sm u v w\/(Sm u v p.a.toNat/\Sm u w p.b.toNat)\/(Sm u v p.b.toNat/\Sm u w p.a.toNat):=by
 unfold Sm
 rw[x2h3 (by rw[h.len];exact hv),x2h3 (by rw[h.len];exact hw)]
 exact join_aux _ _ _ _ _ (mn_or _ _)
theorem x2pl(u:List Int)(l k:List Pq):joinsM u (l++k)=joinsM (joinsM u l) k:=by unfold joinsM;rw[List.foldl_append]
theorem join_mono{n:Nat}{u:List Int}{p:Pq}(h:Lab n u){v w:Nat}(hv:v<n)(hw:w<n)(e:Sm u v w):Sm (x2df u p) v w:=(x2mz h hv hw).mpr (Or.inl e)
theorem x2pm{n:Nat}:∀{l:List Pq} {u:List Int},Lab n u->(∀p∈l,PqIn n p)->∀{v w:Nat},v<n->w<n->Sm u v w->Sm (joinsM u l) v w
 |[],_,_,_,_,_,_,_,e=>e
 |p::l,u,h,hp,v,w,hv,hw,e=>x2pm (l:=l) (h.join (hp p (List.mem_cons_self ..))) (fun q hq=>hp q (List.mem_cons_of_mem _ hq)) hv hw (join_mono h hv hw e)
theorem join_ends{n:Nat}{u:List Int}{p:Pq}(h:Lab n u)(hp:PqIn n p):Sm (x2df u p) p.a.toNat p.b.toNat:=by
 obtain⟨h0,h1,h2⟩:=hp
 exact(x2mz h (by omega) (by omega)).mpr (Or.inr (Or.inl ⟨rfl,rfl⟩))
theorem x2h4{n:Nat}:∀{l:List Pq} {u:List Int},Lab n u->(∀p∈l,PqIn n p)->∀p∈l,Sm (joinsM u l) p.a.toNat p.b.toNat
 |[],_,_,_,p,hp=>by cases hp
 |q::l,u,h,hp,p,hm=>by
  have hq:=hp q (List.mem_cons_self ..)
  have hl:∀p∈l,PqIn n p:=fun p h=>hp p (List.mem_cons_of_mem _ h)
  rcases List.mem_cons.mp hm with rfl|hm
  .have:PqIn n p:=hq
   obtain⟨h0,h1,h2⟩:=hq
   exact x2pm (l:=l) (h.join this) hl (by omega) (by omega) (join_ends h this)
  .exact x2h4 (h.join hq) hl p hm
theorem x2n0{n:Nat}{R:Nat->Nat->Prop}(hs:∀{a b},R a b->R b a)(ht:∀{a b c},R a b->R b c->R a c):∀{l:List Pq} {u:List Int},Lab n u->(∀p∈l,PqIn n p)->(∀p∈l,R p.a.toNat p.b.toNat)->(∀v w,v<n->w<n->Sm u v w->R v w)->∀v w,v<n->w<n->Sm (joinsM u l) v w->R v w
 |[],_,_,_,_,h=>h
 |p::l,u,h,hp,hR,hu=>by
  have hq:=hp p (List.mem_cons_self ..)
  refine x2n0 (R:=R) hs ht (l:=l) (h.join hq) (fun q hq=>hp q (List.mem_cons_of_mem _ hq)) (fun q hq=>hR q (List.mem_cons_of_mem _ hq)) fun v w hv hw e=>?_
  obtain⟨h0,h1,h2⟩:=hq
  have hr:=hR p (List.mem_cons_self ..)
  rcases(x2mz h hv hw).mp e with e|⟨e1,e2⟩|⟨e1,e2⟩
  .exact hu v w hv hw e
  .exact ht (hu v _ hv (by omega) e1) (ht hr (hs (hu w _ hw (by omega) e2)))
  .exact ht (hu v _ hv (by omega) e1) (ht (hs hr) (hs (hu w _ hw (by omega) e2)))
theorem Lab.ext{n:Nat}{u t:List Int}(h:Lab n u)(k:Lab n t)(he:∀v w,v<n->w<n->(Sm u v w↔Sm t v w)):u=t:=by
 apply List.ext_getElem
 .rw[h.len,k.len]
 .intro v hv hv'
  rw[h.len]at hv
  rw[<-x2d4,<-x2d4]
  have a:=h.ok v hv
  have b:=k.ok v hv
  have e1:at0 t (at0 u v).toNat=at0 t v:=(he _ v (by omega) hv).mp (by unfold Sm;exact a.2.2)
  have e2:at0 u (at0 t v).toNat=at0 u v:=(he _ v (by omega) hv).mpr (by unfold Sm;exact b.2.2)
  have a2:=k.ok (at0 u v).toNat (by omega)
  have b2:=h.ok (at0 t v).toNat (by omega)
  omega
def Indep(u:List Int):List Pq->Prop
 |[]=>True
 |p::l=>¬Sm u p.a.toNat p.b.toNat/\Indep (x2df u p) l
theorem Indep.app{u:List Int}:∀{l k:List Pq} ,Indep u (l++k)↔Indep u l/\Indep (joinsM u l) k:=by
 intro l
 induction l generalizing u with
 |nil=>intro k;simp[Indep,joinsM]
 |cons p l ih=>
  intro k
  simp only[List.cons_append,Indep]
  rw[ih]
  simp[joinsM,and_assoc]
def x2fp(n:Nat)(u:List Int):Nat:=((List.range n).filter fun(v:Nat)=>decide (at0 u v=(v:Int))).length
theorem count_ne{n:Nat}{p q:Nat->Bool}{w:Nat}(hw:w<n)(h1:p w=true)(h2:q w=false)(h:∀v,v<n->v≠w->p v=q v):((List.range n).filter p).length=((List.range n).filter q).length+1:=by
 induction n with
 |zero=>omega
 |succ n ih=>
  rw[List.range_succ,List.filter_append,List.filter_append,List.length_append,List.length_append]
  by_cases c:w=n
  .subst c
   have e:(List.range w).filter p=(List.range w).filter q:=by
    apply List.filter_congr
    intro v hv
    have:=List.mem_range.mp hv
    exact h v (by omega) (by omega)
   rw[e]
   simp[h1,h2]
  .have:=ih (by omega) fun v hv=>h v (by omega)
   have e:=h n (by omega) (by omega)
   simp only[List.filter_cons,e,List.filter_nil]
   omega
theorem x2n1{n:Nat}{u:List Int}{p:Pq}(h:Lab n u)(hp:PqIn n p)(hne:¬Sm u p.a.toNat p.b.toNat):x2fp n u=x2fp n (x2df u p)+1:=by
 have hp':=hp
 obtain⟨h0,h1,h2⟩:=hp
 have ea:=h.ok p.a.toNat (by omega)
 have eb:=h.ok p.b.toNat (by omega)
 unfold Sm at hne
 have hmo:=mn_or (at0 u p.a.toNat) (at0 u p.b.toNat)
 obtain⟨w,hw⟩:∃w:Int,w=if at0 u p.b.toNat<at0 u p.a.toNat then at0 u p.a.toNat else at0 u p.b.toNat:=⟨_,rfl⟩
 have hwor:w=at0 u p.a.toNat/\at0 u p.b.toNat<at0 u p.a.toNat\/w=at0 u p.b.toNat/\at0 u p.a.toNat<at0 u p.b.toNat:=by
  rw[hw];split<;>omega
 unfold x2fp
 refine count_ne (w:=w.toNat) (by omega) ?_ ?_ fun v hv hne'=>?_
 .rw[decide_eq_true_iff]
  rcases hwor with ⟨e,-⟩|⟨e,-⟩
  .rw[e,ea.2.2];omega
  .rw[e,eb.2.2];omega
 .rw[decide_eq_false_iff_not,x2h3 (by rw[h.len];omega)]
  have:at0 u w.toNat=w:=by
   rcases hwor with ⟨e,-⟩|⟨e,-⟩
   .rw[e];exact ea.2.2
   .rw[e];exact eb.2.2
  rw[this,if_pos (by omega)]
  omega
 .rw[Bool.eq_iff_iff,decide_eq_true_iff,decide_eq_true_iff,x2h3 (by rw[h.len];omega)]
  have ev:=h.ok v hv
  by_cases c:at0 u v=at0 u p.a.toNat\/at0 u v=at0 u p.b.toNat
  .rw[if_pos c]
   constructor
   .intro e
    omega
   .intro e
    rcases hmo with ⟨q,-⟩|⟨q,-⟩
    .rw[q]at e;rw[e]at ea;have:=ea.2.2;simpa using this
    .rw[q]at e;rw[e]at eb;have:=eb.2.2;simpa using this
  .rw[if_neg c]
theorem x2lc{n:Nat}:∀{l:List Pq} {u:List Int},Lab n u->(∀p∈l,PqIn n p)->Indep u l->x2fp n u=x2fp n (joinsM u l)+l.length
 |[],_,_,_,_=>rfl
 |p::l,u,h,hp,hi=>by
  have hq:=hp p (List.mem_cons_self ..)
  have:=x2lc (h.join hq) (fun q hq=>hp q (List.mem_cons_of_mem _ hq)) hi.2
  have h1:=x2n1 h hq hi.1
  have e:joinsM u (p::l)=joinsM (x2df u p) l:=rfl
  rw[e,List.length_cons]
  omega
theorem x2pn(n:Nat):x2fp n (freshM n)=n:=by
 unfold x2fp
 have:(List.range n).filter (fun(v:Nat)=>decide (at0 (freshM n) v=(v:Int)))=List.range n:=by
  rw[List.filter_eq_self]
  intro v hv
  rw[Lab.get_fresh (List.mem_range.mp hv)]
  simp
 rw[this,List.length_range]
variable{P:List Pq}
def prs(P:List Pq)(F:List Int):List Pq:=F.map (prAt P)
structure For (n:Nat) (P:List Pq) (F:List Int):Prop where
 rng:∀i∈F,0<=i/\i<P.length
 nod:F.Nodup
 ind:Indep (freshM n) (prs P F)
theorem x2kg{n:Nat}(hP:∀p∈P,PqIn n p){i:Int}(h:0<=i/\i<P.length):PqIn n (prAt P i):=by
 unfold prAt
 have:i.toNat<P.length:=by omega
 rw[List.getD_eq_getElem?_getD,List.getElem?_eq_getElem this]
 exact hP _ (List.getElem_mem this)
theorem x2em{n:Nat}(hP:∀p∈P,PqIn n p){F:List Int}(h:∀i∈F,0<=i/\i<P.length):∀p∈prs P F,PqIn n p:=fun p hp=>by
 obtain⟨i,hi,rfl⟩:=List.mem_map.mp hp
 exact x2kg hP (h i hi)
theorem For.take{n:Nat}{F G:List Int}(h:For n P (F++G)):For n P F:=by
 refine⟨fun i hi=>h.rng i (List.mem_append_left _ hi),(List.nodup_append.mp h.nod).1,?_⟩
 have:=h.ind
 unfold prs at this
 rw[List.map_append]at this
 exact(Indep.app.mp this).1
theorem For.cut{n:Nat}(hP:∀p∈P,PqIn n p){F:List Int}(h:For n P F):Cut P F:=by
 have main:∀(k:Nat) (F:List Int),F.length=k->For n P F->Cut P F:=by
  intro k
  induction k with
  |zero=>intro F hl _ i hi;rw[List.length_eq_zero_iff.mp hl]at hi;cases hi
  |succ k ih=>
   intro F hl h
   obtain⟨G,q,rfl⟩:∃G q,F=G++[q]:=by
    have hne:F≠[]:=by rintro rfl;simp at hl
    exact⟨F.dropLast,F.getLast hne,(List.dropLast_concat_getLast hne).symm⟩
   have hG:=h.take
   have hc:=ih G (by simpa using hl) hG
   have hq:=x2kg hP (h.rng q (by simp))
   obtain⟨u,hu⟩:∃u,u=joinsM (freshM n) (prs P G):=⟨_,rfl⟩
   have hL:Lab n u:=by rw[hu];exact(Lab.fresh n).joins (x2em hP hG.rng)
   have hind:=h.ind
   unfold prs at hind
   rw[List.map_append]at hind
   have hne:¬Sm u (prAt P q).a.toNat (prAt P q).b.toNat:=by
    have:=(Indep.app.mp hind).2
    rw[show List.map (prAt P) [q]=[prAt P q]from rfl]at this
    rw[hu]
    exact this.1
   have hqG:q∉G:=fun hm=>(List.nodup_append.mp h.nod).2.2 q hm q (by simp) rfl
   have hends:∀j∈G,Sm u (prAt P j).a.toNat (prAt P j).b.toNat:=fun j hj=>by
    rw[hu]
    exact x2h4 (Lab.fresh n) (x2em hP hG.rng) _ (List.mem_map.mpr ⟨j,hj,rfl⟩)
   unfold Sm at hne hends
   intro i hi
   rcases List.mem_append.mp hi with hi|hi
   .obtain⟨s,h1,h2⟩:=hc i hi
    by_cases c:s (prAt P q).a=s (prAt P q).b
    .refine⟨s,h1,fun j hj hji=>?_⟩
     rcases List.mem_append.mp hj with hj|hj
     .exact h2 j hj hji
     .simp at hj;subst hj;exact c
    .refine⟨fun v=>if at0 u v.toNat=at0 u (prAt P q).b.toNat then !(s v)else s v,?_,fun j hj hji=>?_⟩
     .have:=hends i hi
      simp only
      rw[this]
      split
      .simpa using h1
      .exact h1
     .simp only
      rcases List.mem_append.mp hj with hj|hj
      .have:=hends j hj
       rw[this,h2 j hj hji]
      .simp at hj;subst hj
       rw[if_neg hne,if_pos rfl]
       cases h3:s (prAt P j).a<;>cases h4:s (prAt P j).b<;>simp_all
   .simp at hi;subst hi
    refine⟨fun v=>decide (at0 u v.toNat=at0 u (prAt P i).a.toNat),?_,fun j hj hji=>?_⟩
    .simp[Ne.symm hne]
    .rcases List.mem_append.mp hj with hj|hj
     .simp only;rw[hends j hj]
     .simp at hj;exact absurd hj hji
 exact main _ F rfl h
theorem x2n2{n:Nat}(hP:∀p∈P,PqIn n p){F:List Int}(hr:∀i∈F,0<=i/\i<P.length):∀{v w:Nat},v<n->w<n->Sm (joinsM (freshM n) (prs P F)) v w->∃l,Wk P l v w/\AllF F l:=by
 intro v w hv hw hs
 let R:Nat->Nat->Prop:=fun v w=>∃l,Wk P l v w/\AllF F l
 have hsym:∀{a b},R a b->R b a:=fun⟨l,h1,h2⟩=>by
  obtain⟨v,h3,h4⟩:=h1.back h2
  exact⟨v,h3,h4⟩
 have htr:∀{a b c},R a b->R b c->R a c:=fun⟨l,h1,h2⟩ ⟨k,h3,h4⟩=>⟨l++k,h1.app h3,h2.app h4⟩
 refine x2n0 (R:=R) hsym htr (Lab.fresh n) (x2em hP hr) (fun p hp=>?_) (fun v w hv hw e=>?_) v w hv hw hs
 .obtain⟨i,hi,rfl⟩:=List.mem_map.mp hp
  have hq:=x2kg hP (hr i hi)
  obtain⟨h0,h1,h2⟩:=hq
  refine⟨[⟨i,1⟩],⟨?_,?_⟩,fun x hx=>?_⟩
  .unfold frS;simp;omega
  .show toS P ⟨i,1⟩=_
   unfold toS;simp;omega
  .simp at hx;subst hx;exact⟨hi,Or.inl rfl⟩
 .unfold Sm at e
  rw[Lab.get_fresh hv,Lab.get_fresh hw]at e
  exact⟨[],by show(v:Int)=w;exact e,fun _ h=>by cases h⟩
theorem For.len{n:Nat}(hP:∀p∈P,PqIn n p){F:List Int}(h:For n P F):F.length<=n:=by
 have:=x2lc (Lab.fresh n) (x2em hP h.rng) h.ind
 rw[x2pn]at this
 have e:(prs P F).length=F.length:=by unfold prs;simp
 omega
end Go.Ix
