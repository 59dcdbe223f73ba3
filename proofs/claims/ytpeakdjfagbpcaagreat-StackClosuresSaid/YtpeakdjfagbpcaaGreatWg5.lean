import Derived.Test.YtpeakdjfagbpcaaGreatWg4
import Derived.Test.YtpeakdjfagbpcaaGreatWg3
set_option linter.unusedSimpArgs false
set_option linter.unusedVariables false
namespace Go.Ix
theorem x1d7(l:List Scene)(P:List Pq):∀(F:List Int) (s:Int),sumL l P s F=s+(F.map fun i=>lenP l (prAt P i)).sum
 |[],s=>by simp[sumL]
 |i::r,s=>by
  rw[sumL,x1d7 l P r,List.map_cons,List.sum_cons]
  omega
open Go.Proofs
theorem x1d8{objs:Id->Option Ob}{id:Id}{cs:List AV}{v off k:Nat}{f:Bool}(h:objs id=some (.row cs v f)):Go.Ix.frz objs (k+1) (.ptr id v off)=((cs.drop off).mapM (Go.Ix.frz objs k)).map AV.plit:=by
 simp only[Go.Ix.frz,h,if_true]
theorem x1d9{objs:Id->Option Ob}{id:Id}{a a':AV}{v k:Nat}{f:Bool}(h:objs id=some (.row [a] v f))(ha:Go.Ix.frz objs k a=some a'):Go.Ix.frz objs (k+1) (.ptr id v 0)=some (.plit [a']):=by
 rw[x1d8 h]
 simp only[List.drop_zero,List.mapM_cons,List.mapM_nil,ha]
 rfl
theorem x1da:x6i=[nilS,nilS]:=by kernel_rfl
theorem sumL_in{l:List Scene}{P:List Pq}(hb:InB l):∀{F:List Int},Rng l.length P F->0<=sumL l P 0 F/\sumL l P 0 F<=F.length*300000
 |[],_=>by simp[sumL]
 |i::r,h=>by
  have ih:=sumL_in hb (F:=r) fun j hj=>h j (List.mem_cons_of_mem _ hj)
  have:=x1b7 hb (h i (List.mem_cons_self ..)).2
  rw[x1d7]at ih ⊢
  rw[List.map_cons,List.sum_cons,List.length_cons]
  omega
theorem x155:Tryz.prog.underlying x9=some (.slice x1k):=by kernel_rfl
theorem x15m:xa=[I 0,I 0]:=by kernel_rfl
theorem w_ends(d:Nat){s p:AV}{P:List Pq}(hs:s.one=true/\still1 s=true)(hp:Sl Pq.c p P){x:Sp}(hx:0<=x.p/\x.p<P.length)(m:Mem) :
 x13f (x13e (d+1)) x3p [.agg [s,p],.agg [I x.p,I x.s]] m=some (.tup [I (frS P x),I (toS P x)],m):=by
 refine x14g (by simp[hs.2,hp.still1]) ?_ m
 have ip:=hp.ixz Pq.len hx.1 hx.2
 have lp:=fun m=>x14s (m:=m) (enc:=Pq.c) Pq.len (by omega) (show x.p.toNat<P.length by omega)
 rw[<-x18d (by omega)]at lp
 unfold frS toS
 generalize prAt P x.p=q at *
 simp only[Pq.c]at lp
 rw[xmb]
 unfold x9v xbu
 by_cases c:x.s<0
 .simp[mem0,hs.1,hp.one,ip,lp,x16m,c]
  exact RetF.tup rfl rfl
 .simp[mem0,hs.1,hp.one,ip,lp,x16m,c]
  exact RetF.tup rfl rfl
theorem x1bb(d:Nat){s p:AV}{P:List Pq}(hs:s.one=true/\still1 s=true)(hp:Sl Pq.c p P){x:Sp}(hx:0<=x.p/\x.p<P.length)(h1:x.s=1\/x.s=-1)(m:Mem) :
 x13f (x13e (d+1)) x21 [.agg [s,p],.agg [I x.p,I x.s]] m=some (.tup [I (frS P x),I (toS P x)],m):=by
 refine x14g (by simp[hs.2,hp.still1]) ?_ m
 have ip:=hp.ixz Pq.len hx.1 hx.2
 have lp:=fun m=>x14s (m:=m) (enc:=Pq.c) Pq.len (by omega) (show x.p.toNat<P.length by omega)
 rw[<-x18d (by omega)]at lp
 unfold frS toS
 generalize prAt P x.p=q at *
 simp only[Pq.c]at lp
 rw[xmc]
 unfold x9w xbv
 rcases h1 with c|c
 .simp[mem0,hs.1,hp.one,ip,lp,x16m,c]
  exact RetF.tup rfl rfl
 .simp[mem0,hs.1,hp.one,ip,lp,x16m,c]
  exact RetF.tup rfl rfl
def cyE(P:List Pq):Nat->Int->Int->List Sp->Int
 |_,b,e,[]=>bif !decide (b=e)then 25 else 0
 |k,b,e,x::r=>
  bif !(wi x.p 0 ((P.length:Int)-1))then 6
  else bif !decide (x.s=1)&&!decide (x.s=-1)then 2
  else bif decide (k=0)then cyE P (k+1) (frS P x) (toS P x) r
  else bif !decide (frS P x=e)then 14
  else cyE P (k+1) b (toS P x) r
def cycE(P:List Pq)(w:List Sp):Int:=bif decide (w.length=0)then 10 else bif decide (400<w.length)then 8 else cyE P 0 0 0 w
theorem x1ie(d:Nat){s p c:AV}{l:List Scene}{P:List Pq}{w:List Sp}(hs:Sl Scene.c s l)(hp:Sl Pq.c p P)(hc:Sl Sp.c c w)(hw:w.length<=1000)(m:Mem) :
 x13f (x13e (d+8)) x4b [.agg [s,p],c] m=some (I (bif !decide ((net7 l P).2=0)then(net7 l P).2 else cycE P w),m):=by
 refine x14g (by simp[hs.still1,hp.still1,hc.still]) ?_ m
 rw[xlm]
 unfold x96 xb5
 simp[hs.one,hp.one,mem0,x1fo (d+1) hs hp]
 by_cases he:(net7 l P).2=0
 rotate_left
 .simp[he]
  exact RetF.st rfl rfl
 have hR:=x1fw he
 have hpl:=hR.pl
 simp[he,hc.len x155]
 by_cases c1:w.length=0
 .have:w=[]:=List.length_eq_zero_iff.mp c1
  simp[this]
  exact RetF.st rfl (by simp[cycE,c1])
 have c1':¬(w.length:Int)=0:=by omega
 have c1'':¬w=[]:=fun e=>c1 (by rw[e];rfl)
 simp[c1'']
 by_cases c2:400<w.length
 .have c2':(400:Int)<(w.length:Int):=by omega
  simp[c2']
  exact RetF.st rfl (by simp[cycE,c1,c2])
 have c2':¬(400:Int)<(w.length:Int):=by omega
 have hE:cycE P w=cyE P 0 0 0 w:=by simp[cycE,c1,c2]
 simp[c2',hE]
 unfold x6k
 simp[hc.len x155]
 refine x142 (N:=w.length) (fun n k (b:Int×Int) m fc=>x1h (x13e (d+7)) [] 0 n (.ptr (0,0,2) 0 0) (I b.1) (I b.2) c (I w.length) (I k) m fc)
  (fun k b m=>m.get (0,0,2)=some (.row [s,p] 0 false)/\cyE P k b.1 b.2 (w.drop k)=cyE P 0 0 0 w) _ ?_ ?_ NN 0 (0,0) _ _ (by omega) (by rw[x13p];omega) ⟨by simp,by simp⟩
 .rintro n k ⟨b,e⟩ m fc hk ⟨g2,hT⟩ next
  have hk':(k:Int)<(w.length:Int):=by omega
  have ix:=hc.ix Sp.len hk
  have ld:=fun m=>x14s (m:=m) (enc:=Sp.c) Sp.len (by omega) hk
  rw[x14f hk]at hT
  generalize w[k]=x at *
  simp only[cyE]at hT
  simp only[x1h]
  unfold x6j x5f
  simp only[Sp.c]at ld
  simp[hk',ix,ld,x15m]
  generalize hm1:Mem.set _ _ _=m1
  have q2:m1.get (0,0,2)=some (.row [s,p] 0 false):=by rw[<-hm1];simp[g2]
  have q9:m1.get (0,fc+1+3,9)=some (.row [I x.p,I x.s] 0 false):=by rw[<-hm1];simp
  simp[q2,g2,hp.len x14n]
  rw[x13j (by omega) (by omega)]
  simp[x197]
  cases c3:wi x.p 0 ((P.length:Int)-1)with
  |false=>
   simp[c3]at hT ⊢
   exact RetF.st rfl (by rw[<-hT])
  |true=>
   have hx:=wi_t c3
   have he2:=fun m=>w_ends (d+6) ⟨hs.one,hs.still1⟩ hp (x:=x) ⟨hx.1,by omega⟩ m
   have tl:(x.s=1\/x.s=-1)->∀fc2,RetF (fun v=>v=I (cyE P 0 0 0 w)) (x5e (x13e (d+7)) [] 0 (x1h (x13e (d+7)) [] 0 n) (.ptr (0,0,2) 0 0) (I b) (I e) (I k) (I (frS P x)) (I (toS P x)) c (I w.length) (I k) m1 fc2):=fun hs1 fc2=>by
    have hs2:(!decide (x.s=1)&&!decide (x.s=-1))=false:=by rcases hs1 with q|q<;>simp[q]
    rw[c3,hs2]at hT
    unfold x5e x5d xx
    by_cases c4:k=0
    .simp[c4]at hT
     simp(disch:=omega) [c4,x13j]
     have:=next (frS P x,toS P x) m1 (fc2+5+2+2) ⟨q2,by simpa[c4]using hT⟩
     simpa[c4]using this
    .have c4':¬(k:Int)=0:=by omega
     by_cases c5:frS P x=e
     .simp[c4,c5]at hT
      simp(disch:=omega) [c4,c5,x13j]
      exact next (b,toS P x) m1 _ ⟨q2,hT⟩
     .simp[c4,c5]at hT
      simp[c4,c5]
      exact RetF.st rfl (by rw[<-hT])
   simp[q9]
   by_cases s1:x.s=1
   .have:=tl (.inl s1)
    simp[s1,q2,q9,x1da,x13z,x14k]
    rw[<-s1]
    simp[he2]
    exact this _
   .simp[s1,q9]
    by_cases s2:x.s=-1
    .have:=tl (.inr s2)
     simp[s2,q2,q9,x1da,x13z,x14k]
     rw[<-s2]
     simp[he2]
     exact this _
    .simp[c3,s1,s2]at hT
     simp[s2]
     exact RetF.st rfl (by rw[<-hT])
 .rintro n ⟨b,e⟩ m fc ⟨g2,hT⟩
  rw[List.drop_of_length_le (Nat.le_refl _)]at hT
  simp only[cyE]at hT
  simp only[x1h]
  unfold x6j xl
  rw[<-hT]
  by_cases c:b=e
  .simp[c]
   exact RetF.st rfl rfl
  .simp[c]
   exact RetF.st rfl rfl
theorem x1if(d:Nat){s p c:AV}{l:List Scene}{P:List Pq}{w:List Sp}(hs:Sl Scene.c s l)(hp:Sl Pq.c p P)(hc:Sl Sp.c c w)(hw:w.length<=1000)(hR:Right7 l P)(m:Mem) :
 x13f (x13e (d+2)) x4d [.agg [s,p],c] m=some (I (cycE P w),m):=by
 refine x14g (by simp[hs.still1,hp.still1,hc.still]) ?_ m
 rw[xlo]
 unfold x98 xb7
 have hpl:=hR.pl
 simp[hs.one,hp.one,mem0,hc.len x155]
 by_cases c1:w.length=0
 .have:w=[]:=List.length_eq_zero_iff.mp c1
  simp[this]
  exact RetF.st rfl (by simp[cycE,c1])
 have c1'':¬w=[]:=fun e=>c1 (by rw[e];rfl)
 simp[c1'']
 by_cases c2:400<w.length
 .have c2':(400:Int)<(w.length:Int):=by omega
  simp[c2']
  exact RetF.st rfl (by simp[cycE,c1,c2])
 have c2':¬(400:Int)<(w.length:Int):=by omega
 have hE:cycE P w=cyE P 0 0 0 w:=by simp[cycE,c1,c2]
 simp[c2',hE]
 unfold x6m
 refine x142 (N:=w.length) (fun n k (b:Int×Int) m fc=>x1i (x13e (d+1)) [] 0 n c (.ptr (0,0,2) 0 0) (I b.1) (I b.2) (I k) m fc)
  (fun k b m=>m.get (0,0,2)=some (.row [s,p] 0 false)/\cyE P k b.1 b.2 (w.drop k)=cyE P 0 0 0 w) _ ?_ ?_ NN 0 (0,0) _ _ (by omega) (by rw[x13p];omega) ⟨by simp,by simp⟩
 .rintro n k ⟨b,e⟩ m fc hk ⟨g2,hT⟩ next
  have hk':(k:Int)<(w.length:Int):=by omega
  have ix:=hc.ix Sp.len hk
  have ld:=fun m=>x14s (m:=m) (enc:=Sp.c) Sp.len (by omega) hk
  rw[x14f hk]at hT
  generalize w[k]=x at *
  simp only[cyE]at hT
  simp only[x1i]
  unfold x6l x5i
  simp only[Sp.c]at ld
  simp[hc.len x155,hk',ix,ld,x15m]
  generalize hm1:Mem.set _ _ _=m1
  have q2:m1.get (0,0,2)=some (.row [s,p] 0 false):=by rw[<-hm1];simp[g2]
  have q9:m1.get (0,fc+4+4,8)=some (.row [I x.p,I x.s] 0 false):=by rw[<-hm1];simp
  simp[q2,g2,hp.len x14n]
  rw[x13j (by omega) (by omega)]
  simp[x186]
  cases c3:wi x.p 0 ((P.length:Int)-1)with
  |false=>
   simp[c3]at hT ⊢
   exact RetF.st rfl (by rw[<-hT])
  |true=>
   have hx:=wi_t c3
   have tl:(x.s=1\/x.s=-1)->∀fc2,RetF (fun v=>v=I (cyE P 0 0 0 w)) (x5h (x13e (d+1)) [] 0 (x1i (x13e (d+1)) [] 0 n) c (.ptr (0,0,2) 0 0) (I b) (I e) (I k) (I (frS P x)) (I (toS P x)) m1 fc2):=fun hs1 fc2=>by
    have hs2:(!decide (x.s=1)&&!decide (x.s=-1))=false:=by rcases hs1 with q|q<;>simp[q]
    rw[c3,hs2]at hT
    unfold x5h x5g xy
    by_cases c4:k=0
    .simp[c4]at hT
     simp(disch:=omega) [c4,x13j]
     have:=next (frS P x,toS P x) m1 (fc2+4+2+3) ⟨q2,by simpa[c4]using hT⟩
     simpa[c4]using this
    .have c4':¬(k:Int)=0:=by omega
     by_cases c5:frS P x=e
     .simp[c4,c5]at hT
      simp(disch:=omega) [c4,c5,x13j]
      exact next (b,toS P x) m1 _ ⟨q2,hT⟩
     .simp[c4,c5]at hT
      simp[c4,c5]
      exact RetF.st rfl (by rw[<-hT])
   simp[q9]
   by_cases s1:x.s=1
   .have:=tl (.inl s1)
    have he2:=fun m=>x1bb d ⟨hs.one,hs.still1⟩ hp (x:=x) ⟨hx.1,by omega⟩ (.inl s1) m
    simp[s1,q2,q9]
    rw[<-s1]
    simp[he2]
    exact this _
   .simp[s1,q9]
    by_cases s2:x.s=-1
    .have:=tl (.inr s2)
     have he2:=fun m=>x1bb d ⟨hs.one,hs.still1⟩ hp (x:=x) ⟨hx.1,by omega⟩ (.inr s2) m
     simp[s2,q2,q9]
     rw[<-s2]
     simp[he2]
     exact this _
    .simp[c3,s1,s2]at hT
     simp[s2]
     exact RetF.st rfl (by rw[<-hT])
 .rintro n ⟨b,e⟩ m fc ⟨g2,hT⟩
  rw[List.drop_of_length_le (Nat.le_refl _)]at hT
  simp only[cyE]at hT
  simp only[x1i]
  unfold x6l xm
  rw[<-hT]
  by_cases c:b=e
  .simp[hc.len x155,c]
   exact RetF.st rfl rfl
  .simp[hc.len x155,c,Ne.symm c]
   exact RetF.st rfl rfl
theorem z_2i:xez=[I 0,I 0]:=by kernel_rfl
theorem idx_2i0:sIdx Tryz.prog x5w (.agg [I 1,I (-1)]) (I 0)=some (I 1):=by kernel_rfl
theorem idx_2i1:sIdx Tryz.prog x5w (.agg [I 1,I (-1)]) (I 1)=some (I (-1)):=by kernel_rfl
theorem w_from(d:Nat){s p f:AV}{l:List Scene}{P:List Pq}{F:List Int}(hs:Sl Scene.c s l)(hp:Sl Pq.c p P)(hf:Ints f F)(v:Int)(m:Mem) :
 x13f (x13e (d+1)) x4q [.agg [s,p],I v,f] m=some (.clo x23 [.plit [f],.plit [s,p],.plit [I v]],m):=by
 refine x14g (by simp[hs.still1,hp.still1,hf.still]) ?_ m
 rw[xml]
 unfold xa5 xc4
 simp[mem0,hs.one,hp.one,hf.one,hf.cells]
 generalize hm:Mem.new _ _ _=m1
 have g5:m1.get (0,2,5)=some (.row [f] 0 false):=by rw[<-hm];simp
 have g3:m1.get (0,0,3)=some (.row [s,p] 0 false):=by rw[<-hm];simp
 have g4:m1.get (0,1,4)=some (.row [I v] 0 false):=by rw[<-hm];simp
 have e5:Go.Ix.frz m1.get 5 (.ptr (0,2,5) 0 0)=some (.plit [f]):=x1d9 g5 (x14x _ 2 hf.still)
 have e4:Go.Ix.frz m1.get 5 (.ptr (0,1,4) 0 0)=some (.plit [I v]):=x1d9 g4 rfl
 have e3:Go.Ix.frz m1.get 5 (.ptr (0,0,3) 0 0)=some (.plit [s,p]):=by
  rw[x1d8 g3]
  simp only[List.drop_zero,List.mapM_cons,List.mapM_nil,x14x m1.get 2 hs.still,x14x m1.get 2 hp.still]
  rfl
 refine RetF.mk (a':=.clo x23 [.plit [f],.plit [s,p],.plit [I v]]) ?_ rfl
 show(([AV.ptr (0,2,5) 0 0,.ptr (0,0,3) 0 0,.ptr (0,1,4) 0 0].mapM (Go.Ix.frz m1.get 5)).map fun l=>AV.clo _ l)=_
 simp only[List.mapM_cons,List.mapM_nil,e5,e4,e3]
 rfl
theorem x1ig{F:List Int}{k:Nat}(hk:k<F.length):x168 (F.take (k+1))=x168 (F.take k)++[⟨at0 F k,1⟩]++[⟨at0 F k,-1⟩]:=by
 unfold x168
 rw[List.take_succ_eq_append_getElem hk,List.flatMap_append,x13s hk]
 simp
theorem c_from2(d:Nat){hh:FHs}{id:Id}{h:List AV->Mem->Option Mem}{s p f:AV}{l:List Scene}{P:List Pq}{F:List Int}(hs:Sl Scene.c s l)(hp:Sl Pq.c p P)(hf:Ints f F)(hF:F.length<=1000)(hr:∀i∈F,0<=i/\i<P.length)(hl:x15v hh id=some h)(v:Int){m0:Mem}(Inv:List Sp->Mem->Prop)(Fin:Mem->Prop)(hst:∀pre m m',Inv pre m->m'.next=m.next->(∀i:Id,¬i.1=m0.next->m'.get i=m.get i)->Inv pre m')(hy:∀pre x m,InF F x->frS P x=v->Inv pre m->∃m2,h [.agg [I x.p,I x.s],I (toS P x)] m=some m2/\(live m2.get id=true/\Inv (pre++[x]) m2\/live m2.get id=false/\Fin m2))(hn:∀pre x m,InF F x->frS P x≠v->Inv pre m->Inv (pre++[x]) m)(h0:∀m,m.next=m0.next+1->(∀i:Id,m.get i=m0.get i)->Inv [] m) :
 ∃m',x13e (d+2) hh x23 [.yld id,.plit [f],.plit [s,p],.plit [I v]] m0=some (.tup [],m')/\(Inv (x168 F) m'\/Fin m'):=by
 rw[xmy]
 unfold xah xcj
 generalize hu:m0.next=u at *
 simp only[sLd_cons,rd_f,x13n,hf.len x13w]
 refine x142 (N:=F.length) (σ:=Unit) (fun n k _ m fc=>x19 (x13e (d+1)) hh u n (.yld id) (.plit [s,p]) (.plit [I v]) f (I F.length) (I k) m fc) (fun k _ m=>Inv (x168 (F.take k)) m)
  (fun r=>∃m',r=some (.tup [],m')/\(Inv (x168 F) m'\/Fin m')) ?_ ?_ NN 0 () _ _ (by omega) (by rw[x13p];omega) (by simpa[x168]using h0 ⟨m0.hp,u+1⟩ rfl (fun _=>rfl))
 .rintro n k-m fc hk hI next
  have hk':(k:Int)<(F.length:Int):=by omega
  have ix:=hf.ix x14m hk
  have ld:=fun m=>x15w (m:=m) hk
  have hmem:at0 F k∈F:=by rw[x13s hk];exact List.getElem_mem hk
  have hx:=hr _ hmem
  have hsc:=x1ig hk
  generalize at0 F k=i at *
  simp only[x19]
  unfold x8j x5x
  simp only[x14b,hk',decide_true,x14c,x13n,ix,ld,z_2i]
  rw[show x13z [I 0,I 0] [(0,1,I 1),(1,1,I (-1))]=some (.agg [I 1,I (-1)]) by simp[x13z,x14k]]
  simp only[x13n]
  have one:∀(sg:Int) (q:Int) (pre:List Sp) (m:Mem) (fc n1:Nat),(sg=1\/sg=-1)->q<2->0<=q->sIdx Tryz.prog x5w (.agg [I 1,I (-1)]) (I q)=some (I sg)->Inv pre m ->
   (∀m' fc',Inv (pre++[⟨i,sg⟩]) m'->∃m2,x1u (x13e (d+1)) hh u (x19 (x13e (d+1)) hh u n) n1 (.yld id) (.plit [s,p]) (.plit [I v]) (I i) f (I F.length) (I k) (.agg [I 1,I (-1)]) (I (q+1)) m' fc'=some (.tup [],m2)/\(Inv (x168 F) m2\/Fin m2)) ->
   ∃m2,x1u (x13e (d+1)) hh u (x19 (x13e (d+1)) hh u n) (n1+1) (.yld id) (.plit [s,p]) (.plit [I v]) (I i) f (I F.length) (I k) (.agg [I 1,I (-1)]) (I q) m fc=some (.tup [],m2)/\(Inv (x168 F) m2\/Fin m2):=by
   intro sg q pre m fc n1 hsg hq2 hq0 hidx hI2 go
   have hIn:InF F ⟨i,sg⟩:=⟨hmem,hsg⟩
   have he:=fun m=>w_ends d ⟨hs.one,hs.still1⟩ hp (x:=⟨i,sg⟩) hx m
   simp only[x1u]
   unfold x8i
   simp only[x14b,hq2,decide_true,x14c,x13n,hidx,x15m]
   rw[show x13z [I 0,I 0] [(0,1,I i),(1,1,I sg)]=some (.agg [I i,I sg]) by simp[x13z,x14k]]
   simp
   generalize hm1:Mem.set _ _ _=m1
   have q9:m1.get (u,fc+6,9)=some (.row [I i,I sg] 0 false):=by rw[<-hm1];simp
   have hI3:Inv pre m1:=hst pre m m1 hI2 (by rw[<-hm1];rfl) fun j hj=>by
    rw[<-hm1,Mem.get_set,if_neg (by rintro rfl;exact hj rfl),Mem.get_new,if_neg (by rintro rfl;exact hj rfl)]
   simp[q9,he]
   rw[x13j (by omega) (by omega)]
   by_cases c:frS P ⟨i,sg⟩=v
   .obtain⟨m2,h1,h2⟩:=hy pre ⟨i,sg⟩ m1 hIn c hI3
    have hinv:x15a (x13e (d+1)) hh 2 (.yld id) [.agg [I i,I sg],I (toS P ⟨i,sg⟩)] m1=some (B (live m2.get id),m2):=by
     show(match x15v hh id with
      |some h=>(h [.agg [I i,I sg],I (toS P ⟨i,sg⟩)] m1).map fun(m':Mem)=>(B (live m'.get id),m')
      |none=>none)=_
     rw[hl]
     simp only
     rw[h1]
     rfl
    rcases h2 with ⟨hlv,h2⟩|⟨hlv,h2⟩
    .rw[hlv]at hinv
     simp[c,q9,hinv]
     exact go m2 _ h2
    .rw[hlv]at hinv
     simp[c,q9,hinv]
     exact .inr h2
   .simp[c]
    exact go m1 _ (hn pre ⟨i,sg⟩ m1 hIn c hI3)
  obtain⟨NM,hNM⟩:∃NM,NN=NM+1+1+1:=⟨NN-3,by have:=x13p;omega⟩
  rw[hNM]
  refine one 1 0 _ m _ _ (.inl rfl) (by omega) (by omega) idx_2i0 hI fun m1 fc1 h1=>?_
  refine one (-1) 1 _ m1 _ _ (.inr rfl) (by omega) (by omega) idx_2i1 h1 fun m2 fc2 h2=>?_
  simp only[x1u]
  unfold x8i xt
  simp(disch:=omega) [x13j]
  exact next () m2 _ (by rw[hsc];exact h2)
 .rintro n-m fc hI
  rw[List.take_of_length_le (Nat.le_refl _)]at hI
  simp only[x19]
  unfold x8j
  simp
  exact .inl hI
def bE(b:Bool):List AV:=[B b]
theorem bE_len(b:Bool):(bE b).length=1:=rfl
variable{α:Type}{z:Nat}{enc:α->List AV}
def Ow(enc:α->List AV)(m:Mem)(id:Id)(l:List α):Prop:=m.get id=some (.row (l.flatMap enc) 0 false)
theorem Ow.fr{m m':Mem}{id:Id}{l:List α}(h:Ow enc m id l)(e:m'.get id=m.get id):Ow enc m' id l:=by unfold Ow;rw[e];exact h
theorem ow_ix{id:Id}{n:Nat}{k:Int}(h0:0<=k)(h1:k<n):sIx z (.sref id 0 0 n z true) (I k)=some (.ptr id 0 (k.toNat*z)):=by
 simp[sIx,asI,h0,h1]
theorem Ow.ld(hz:∀x,(enc x).length=z){m:Mem}{id:Id}{l:List α}(h:Ow enc m id l){k:Nat}(hk:k<l.length){g:Bool}:sLd g z (.ptr id 0 (k*z)) m=rd g z (enc l[k]++(l.drop (k+1)).flatMap enc):=by
 rw[ld_ptr h,x1cm hz,x14f hk,List.flatMap_cons]
theorem Ow.ldS(hz:∀x,(enc x).length=z){m:Mem}{id:Id}{l:List α}(h:Ow enc m id l){k:Nat}(hk:k<l.length):sLd true z (.ptr id 0 (k*z)) m=some (.agg (enc l[k])):=by
 rw[h.ld hz hk,rd_t,decide_eq_true (by simp[hz]),List.take_append_of_le_length (by rw[hz];exact Nat.le_refl _),List.take_of_length_le (by rw[hz];exact Nat.le_refl _)]
 rfl
theorem x1gc(hz:∀x,(enc x).length=z)(x:α):∀(l:List α) (k:Nat),k<l.length->x13y (l.flatMap enc) (k*z) (enc x)=(l.set k x).flatMap enc
 |[],_,h=>by simp at h
 |y::r,0,_=>by
  simp only[x13y,Nat.zero_mul,Nat.zero_add,List.take_zero,List.nil_append,List.set_cons_zero,List.flatMap_cons]
  rw[hz,<-hz y,List.drop_append_of_le_length (Nat.le_refl _),List.drop_of_length_le (Nat.le_refl _),List.nil_append]
 |y::r,k+1,h=>by
  have ih:=x1gc hz x r k (by simpa using h)
  simp only[x13y,List.set_cons_succ,List.flatMap_cons]at ih ⊢
  rw[Nat.succ_mul,show k*z+z=(enc y).length+k*z by rw[hz];omega,List.take_length_add_append,Nat.add_assoc,List.drop_append,List.append_assoc,<-ih]
  have e:(enc y).length+(k*z+(enc x).length)-(enc y).length=k*z+(enc x).length:=by omega
  rw[e,List.drop_of_length_le (by omega),List.nil_append]
theorem Ow.st(hz:∀x,(enc x).length=z){m:Mem}{id:Id}{l:List α}(h:Ow enc m id l){k:Nat}(hk:k<l.length){x:α}{v:AV}(hv:v.cells=enc x)(h1:(enc x).all AV.one=true) :
 (∀{R:Type} (K:Mem->Option R),sSt z (.ptr id 0 (k*z)) v m K=K (m.set id (.row ((l.set k x).flatMap enc) 0 false)))/\Ow enc (m.set id (.row ((l.set k x).flatMap enc) 0 false)) id (l.set k x):=by
 refine⟨fun K=>?_,by unfold Ow;simp⟩
 have hl:=x15l hz l
 rw[st_ptr (z:=z) (x:=v) (k:=K) h (by rw[hv,hz]) (by rw[hl];have:=Nat.mul_le_mul_right z (show k+1<=l.length from hk);rw[Nat.succ_mul]at this;exact this) (by rw[hv];exact h1),hv,x1gc hz x l k hk]
theorem zeros_c{z:List AV}{c:AV}(hc:∀i,i<z.length->z.getD i (.sc undef)=c)(h0:0<z.length)(k:Nat):x149 z k=List.replicate k c:=by
 unfold x149
 apply List.ext_getElem
 .simp
 .intro i h1 h2
  simp only[List.getElem_map,List.getElem_range,List.getElem_replicate]
  exact hc _ (Nat.mod_lt _ h0)
theorem rep_flat(n:Nat)(c:AV)(x:α)(hx:enc x=List.replicate z c):(List.replicate n x).flatMap enc=List.replicate (n*z) c:=by
 induction n with
 |zero=>simp
 |succ n ih=>
  rw[List.replicate_succ,List.flatMap_cons,ih,hx,Nat.succ_mul,Nat.add_comm,List.replicate_append_replicate]
theorem mkSl_c{R:Type}{zc:List AV}{c:AV}{bytes:Nat}(hb:bytes<=64)(hzl:zc.length=z)(hc:∀i,i<zc.length->zc.getD i (.sc undef)=c)(h0:0<zc.length){x:α}(hx:enc x=List.replicate z c){n:Nat}(hn:n<=1000000)(id:Id)(m:Mem)(k:AV->Mem->Option R) :
 x16v zc z bytes (I n) (I n) id m k=k (.sref id 0 0 n z true) (m.new id (.row ((List.replicate n x).flatMap enc) 0 false)):=by
 have h1:bytes*n<=64*1000000:=Nat.mul_le_mul hb hn
 simp only[x16v,asI]
 rw[if_pos ⟨by omega,Int.le_refl _,by omega,by omega⟩,zeros_c hc h0,rep_flat n c x hx]
 simp
theorem zb_b7:x52=[B false]:=by kernel_rfl
theorem mkSl_b{R:Type}{n:Nat}(hn:n<=1000000)(id:Id)(m:Mem)(k:AV->Mem->Option R):x16v x52 1 1 (I n) (I n) id m k=k (.sref id 0 0 n 1 true) (m.new id (.row ((List.replicate n false).flatMap bE) 0 false)):=
 mkSl_c (enc:=bE) (c:=B false) (by omega) (by rw[zb_b7];rfl) (by rw[zb_b7];intro i hi;simp at hi;subst hi;rfl) (by rw[zb_b7];simp) rfl hn id m k
theorem x1db:xa=[I 0,I 0]:=by kernel_rfl
theorem mkSl_s{R:Type}{n:Nat}(hn:n<=1000000)(id:Id)(m:Mem)(k:AV->Mem->Option R):x16v xa 2 16 (I n) (I n) id m k=k (.sref id 0 0 n 2 true) (m.new id (.row ((List.replicate n (⟨0,0⟩:Sp)).flatMap Sp.c) 0 false)):=
 mkSl_c (enc:=Sp.c) (c:=I 0) (by omega) (by rw[x1db];rfl) (by
  rw[x1db];intro i hi
  match i,hi with
  |0,_=>rfl
  |1,_=>rfl
  |i+2,h=>simp at h;omega) (by rw[x1db];simp) rfl hn id m k
theorem Ow.ldB{m:Mem}{id:Id}{l:List Bool}(h:Ow bE m id l){k:Int}(h0:0<=k)(hk:k<l.length):sLd false 1 (.ptr id 0 k.toNat) m=some (B (l.getD k.toNat false)):=by
 have h1:k.toNat<l.length:=by omega
 have:=h.ld bE_len h1 (g:=false)
 rw[Nat.mul_one]at this
 rw[this,List.getD_eq_getElem?_getD,List.getElem?_eq_getElem h1]
 rfl
theorem x1a9{id:Id}{n:Nat}{k:Int}(h0:0<=k)(h1:k<n):sIx 1 (.sref id 0 0 n 1 true) (I k)=some (.ptr id 0 k.toNat):=by
 simpa using ow_ix (z:=1) (id:=id) h0 h1
theorem Ow.st1{g:α->AV}(he:∀x,enc x=[g x]){m:Mem}{id:Id}{l:List α}(h:Ow enc m id l){k:Int}(h0:0<=k)(hk:k<l.length){x:α}(hc:(g x).cells=[g x])(h1:(g x).one=true) :
 (∀{R:Type} (K:Mem->Option R),sSt 1 (.ptr id 0 k.toNat) (g x) m K=K (m.set id (.row ((l.set k.toNat x).flatMap enc) 0 false)))/\Ow enc (m.set id (.row ((l.set k.toNat x).flatMap enc) 0 false)) id (l.set k.toNat x):=by
 have:=h.st (z:=1) (fun x=>by rw[he];rfl) (k:=k.toNat) (by omega) (x:=x) (v:=g x) (by rw[hc,he]) (by rw[he];simp[h1])
 simpa using this
end Go.Ix
