import Derived.Test.YtpeakdjfagbpcaaGreatWg6
import Derived.Test.YtpeakdjfagbpcaaGreatWg5
import Derived.Test.YtpeakdjfagbpcaaGreatWg2
import Derived.Test.YtpeakdjfagbpcaaGreatWg4
set_option linter.unusedSimpArgs false
set_option linter.unusedVariables false
namespace Go.Ix
open Go.Proofs
def cyOE(l:List Scene)(P:List Pq)(F:List Int)(i:Int):Int:=
 bif !decide (cfE l P F=0)then cfE l P F else bif !(wi i 0 ((P.length:Int)-1))then 6 else bif F.any (fun y=>decide (y=i))then 28 else 0
theorem x173{l:List Scene}{P:List Pq}{F:List Int}(h:cfE l P F=0):(net7 l P).2=0/\Right7 l P/\Tree l.length P F:=by
 unfold cfE at h
 by_cases c:(net7 l P).2=0
 .have hR:=x117 c
  rw[c]at h
  simp at h
  exact⟨c,hR,(x16x hR).mp h⟩
 .simp[c]at h
theorem w_CycleOf(d:Nat){s p f:AV}{l:List Scene}{P:List Pq}{F:List Int}{i:Int}(hs:Sl Scene.c s l)(hp:Sl Pq.c p P)(hf:Ints f F)(hF:F.length<=1000)(hl:(net7 l P).2=0->l.length<=8)(m:Mem) :
 ∃v,Sl Sp.c v (if cyOE l P F i=0 then cycC P F i else[])/\xuv (xuu (d+14)) x34 [.agg [s,p],f,I i] m=some (.tup [v,I (cyOE l P F i)],m):=by
 have key:RetF (fun a=>∃v,Sl Sp.c v (if cyOE l P F i=0 then cycC P F i else[])/\a=.tup [v,I (cyOE l P F i)]) (xuu (d+14) [] x34 [.agg [s,p],f,I i] mem0):=by
  rw[xha]
  unfold x7n x95
  generalize hm1:(⟨[],1⟩:Mem).new (0,0,3) (.row [s,p] 0 false)=m1
  have g3:m1.get (0,0,3)=some (.row [s,p] 0 false):=by rw[<-hm1];simp
  simp[mem0,hs.one,hp.one,hm1,g3,x16z (d+5) hs hp hf hF]
  by_cases c:cfE l P F=0
  rotate_left
  .have e:cyOE l P F i=cfE l P F:=by simp[cyOE,c]
   simp[c,e]
   exact RetF.mk (T:=fun a=>∃v,Sl Sp.c v []/\a=.tup [v,I (cfE l P F)]) (xxe rfl rfl) ⟨nilS,.inl ⟨rfl,rfl⟩,rfl⟩
  obtain⟨hn,hR,hT⟩:=x173 c
  have hPl:=hR.pl
  simp[c,g3,hp.len xw3]
  rw[xv1 (by omega) (by omega)]
  simp[x107]
  cases c2:wi i 0 ((P.length:Int)-1)with
  |false=>
   have e:cyOE l P F i=6:=by simp[cyOE,c,c2]
   simp[e]
   exact RetF.mk (T:=fun a=>∃v,Sl Sp.c v []/\a=.tup [v,I 6]) (xxe rfl rfl) ⟨nilS,.inl ⟨rfl,rfl⟩,rfl⟩
  |true=>
   have hi:=wi_t c2
   simp[x172 (d+11) (x:=i) hf (by omega)]
   cases c3:F.any fun y=>decide (y=i)with
   |true=>
    have e:cyOE l P F i=28:=by simp only[cyOE,c,c2,c3];rfl
    simp[e]
    exact RetF.mk (T:=fun a=>∃v,Sl Sp.c v []/\a=.tup [v,I 28]) (xxe rfl rfl) ⟨nilS,.inl ⟨rfl,rfl⟩,rfl⟩
   |false=>
    have e:cyOE l P F i=0:=by simp only[cyOE,c,c2,c3];rfl
    obtain⟨v,hv,hvc⟩:=w_cycle d hs hp hf (hl hn) hR.pr hT (i:=i) (by omega) (by omega) m1
    have hb:xv6 x49 [(0,2,.agg [s,p])]=some (.agg [s,p]):=by rw[x140];simp[xv6,xvx]
    simp[g3,hb,hvc,e]
    exact RetF.mk (T:=fun a=>∃v,Sl Sp.c v (cycC P F i)/\a=.tup [v,I 0]) (xxe (xwe _ 3 hv.still) rfl) ⟨v,hv,rfl⟩
 obtain⟨a,⟨v,hv,rfl⟩,h⟩:=xwq (by simp[hs.still1,hp.still1,hf.still]) key m
 exact⟨v,hv,h⟩
theorem w_Cycles(d:Nat){s p f:AV}{l:List Scene}{P:List Pq}{F:List Int}(hs:Sl Scene.c s l)(hp:Sl Pq.c p P)(hf:Ints f F)(hF:F.length<=1000)(hl:(net7 l P).2=0->l.length<=8)(m:Mem) :
 ∃v L,Sl Wv.c v L/\L.map Wv.w=(if cfE l P F=0 then(xw6 P F).map (cycC P F)else[])/\xuv (xuu (d+17)) x32 [.agg [s,p],f] m=some (.tup [v,I (cfE l P F)],m):=by
 have key:RetF (fun a=>∃v L,Sl Wv.c v L/\L.map Wv.w=(if cfE l P F=0 then(xw6 P F).map (cycC P F)else[])/\a=.tup [v,I (cfE l P F)]) (xuu (d+17) [] x32 [.agg [s,p],f] mem0):=by
  rw[xh7]
  unfold x7k x92
  generalize hm1:(⟨[],1⟩:Mem).new (0,0,2) (.row [s,p] 0 false)=m1
  have g3:m1.get (0,0,2)=some (.row [s,p] 0 false):=by rw[<-hm1];simp
  simp[mem0,hs.one,hp.one,hm1,g3,x16z (d+8) hs hp hf hF]
  by_cases c:cfE l P F=0
  rotate_left
  .simp[c]
   exact RetF.mk (T:=fun a=>∃v L,Sl Wv.c v L/\L=[]/\a=.tup [v,I (cfE l P F)]) (xxe rfl rfl) ⟨nilS,[],.inl ⟨rfl,rfl⟩,rfl,rfl⟩
  obtain⟨hn,hR,hT⟩:=x173 c
  have hPl:=hR.pl
  have hb:xv6 x49 [(0,2,.agg [s,p])]=some (.agg [s,p]):=by rw[x140];simp[xv6,xvx]
  obtain⟨v,L,h1,h2,h3⟩:=w_Collect d hs hp hf (hl hn) (by omega) hR.pr hT m1
  simp[c,g3,hb,w_cycles (d+15) hs hp hf,h3]
  exact RetF.mk (T:=fun a=>∃v L,Sl Wv.c v L/\L.map Wv.w=(xw6 P F).map (cycC P F)/\a=.tup [v,I 0]) (xxe (xwe _ 3 h1.still) rfl) ⟨v,L,h1,h2,rfl⟩
 obtain⟨a,⟨v,L,h1,h2,rfl⟩,h⟩:=xwq (by simp[hs.still1,hp.still1,hf.still]) key m
 exact⟨v,L,h1,h2,h⟩
theorem x174(d:Nat){s p f:AV}{l:List Scene}{P:List Pq}{F:List Int}{i:Int}(hs:Sl Scene.c s l)(hp:Sl Pq.c p P)(hf:Ints f F)(hR:Right7 l P)(hT:Tree l.length P F)(h0:0<=i)(h1:i<P.length)(m:Mem) :
 ∃v,Sl Sp.c v (cycC P F i)/\xuv (xuu (d+3)) x37 [.agg [s,p],f,I i] m=some (v,m):=by
 refine xwq (T:=fun v=>Sl Sp.c v (cycC P F i)) (by simp[hs.still1,hp.still1,hf.still]) ?_ m
 have hP:=hR.pr
 have hl60:=hR.ll
 obtain⟨w1,w2,w3,w4⟩:=x125 hP hT h0 h1
 obtain⟨a0,a1,a2⟩:=xzc hP ⟨h0,h1⟩
 rw[xhe]
 unfold x7r x99
 generalize hm1:(⟨[],1⟩:Mem).new (0,0,3) (.row [s,p] 0 false)=m1
 have g3:m1.get (0,0,3)=some (.row [s,p] 0 false):=by rw[<-hm1];simp
 have ix:=hp.ixI Pq.len h0 h1
 have fa:=fun m=>xxf (enc:=Pq.c) (m:=m) (l:=P) (k:=i.toNat) (by omega) 0 (v:=I (prAt P i).a) (by rw[x143 (by omega)];rfl)
 have fb:=fun m=>xxf (enc:=Pq.c) (m:=m) (l:=P) (k:=i.toNat) (by omega) 1 (v:=I (prAt P i).b) (by rw[x143 (by omega)];rfl)
 rw[List.drop_zero]at fa
 have hb:xv6 x5 [(0,1,I i),(1,1,I 1)]=some (.agg [I i,I 1]):=by rw[xxi];simp[xv6,xvx]
 obtain⟨y,hy,hyc⟩:=xwq (by simp[hs.still1,hp.still1,hf.still]) (a_rway d hs hp hf hl60 hP hT.fo (by omega) (by omega) (by omega) (by omega) w1 w2 w3) m1
 obtain⟨o,m2,e1,-,⟨y',e4,e5⟩,-,-⟩:=x142 hy (by omega) (0,20,25) ⟨i,1⟩ m1
 simp only[mem0,xz7,x103,List.all_cons,List.all_nil,hs.one,hp.one,Bool.and_self,Bool.and_true,xwb,hm1,hb,xv4]
 simp only[xxi,x113,x11r,xxd,g3,xz8,Nat.beq_refl,xwb,List.drop_zero,List.drop_succ_cons,rd_2,rd_f,xv4,Nat.zero_add,ix,x160,fa,fb,hyc]
 rw[e1]
 simp[tR,xuy,disj,cAp,hs.clean1,hp.clean1,hf.clean]
 exact RetF.mk (e5 m2 4 rfl) e4
theorem w_rCycles(d:Nat){s p f:AV}{l:List Scene}{P:List Pq}{F:List Int}(hs:Sl Scene.c s l)(hp:Sl Pq.c p P)(hf:Ints f F)(hR:Right7 l P)(hT:Tree l.length P F)(m:Mem) :
 ∃v L,Sl Wv.c v L/\L.map Wv.w=(xw6 P F).map (cycC P F)/\xuv (xuu (d+4)) x3s [.agg [s,p],f] m=some (v,m):=by
 have hPl:=hR.pl
 have hFl:=hT.fo.len hR.pr
 have hl60:=hR.ll
 refine(fun⟨v,⟨L,h1,h2⟩,h3⟩=>⟨v,L,h1,h2,h3⟩:(∃v,(∃L,Sl Wv.c v L/\L.map Wv.w=(xw6 P F).map (cycC P F))/\_)->_) (xwq (T:=fun v=>∃L,Sl Wv.c v L/\L.map Wv.w=(xw6 P F).map (cycC P F)) (by simp[hs.still1,hp.still1,hf.still]) ?_ m)
 rw[xhd]
 unfold x7q x98 x5w
 generalize hm1:(⟨[],1⟩:Mem).new (0,0,2) (.row [s,p] 0 false)=m1
 have g3:m1.get (0,0,2)=some (.row [s,p] 0 false):=by rw[<-hm1];simp
 simp only[mem0,xz7,x103,List.all_cons,List.all_nil,hs.one,hp.one,Bool.and_self,Bool.and_true,xwb,hm1]
 refine xvh (N:=P.length) (fun n k t5 m fc=>x2b (xuu (d+3)) [] 0 n f (.ptr (0,0,2) 0 0) t5 (I k) m fc)
  (fun k t5 m=>m.get (0,0,2)=some (.row [s,p] 0 false)/\∃L,Gr 1 Wv.c 0 24 m t5 L/\L.map Wv.w=(xvz F ((freshM P.length).take k)).map (cycC P F)) _ ?_ ?_ NN 0 nilS _ _ (by omega) (by rw[xv8];omega) ⟨g3,[],Gr.nil,by simp[xvz]⟩
 .rintro n k t5 m fc hk ⟨hg,L,hG,hL⟩ next
  have hk':(k:Int)<(P.length:Int):=by omega
  have hc:=fun m=>w_Has (d+2) (x:=(k:Int)) hf (by omega) m
  rw[<-x115 hk,x126]at next
  simp only[x2b]
  unfold x5v x5u x4j
  simp(disch:=omega) [hg,hp.len xw3,hk',hc]
  cases hh2:F.any fun y=>decide (y=(k:Int))with
  |true=>
   have e:xvz F [(k:Int)]=[]:=by simp[xvz,hh2]
   rw[e,List.append_nil]at next
   simp
   exact next t5 m _ ⟨hg,L,hG,hL⟩
  |false=>
   have e:xvz F [(k:Int)]=[(k:Int)]:=by simp[xvz,hh2]
   rw[e]at next
   have hLl:L.length=(xvz F ((freshM P.length).take k)).length:=by simpa using congrArg List.length hL
   have hpl:(xvz F ((freshM P.length).take k)).length<P.length:=by
    have:=List.length_filter_le (fun i=>!(F.any fun y=>decide (y=i))) ((freshM P.length).take k)
    rw[List.length_take]at this
    unfold xvz
    omega
   obtain⟨v,hv,hvc⟩:=x174 d hs hp hf hR hT (i:=(k:Int)) (by omega) (by omega) m
   have he:∀M:Mem,elems M.get 1 (.slit [v] 1 true)=some (Wv.c ⟨v,_,hv⟩,1):=fun M=>by simp[elems,Wv.c]
   obtain⟨a',m2,k1,k2,k3,k4⟩:=hG.app (s0:=fc+5+10) (bytes:=24) Wv.len (by omega) (by unfold xv2;omega) ⟨v,_,hv⟩
   simp[hg,hvc,x127,x110 hv.cells hv.one hv.clean1,he,k1]
   exact next a' m2 _ ⟨by rw[k4 _ (by simp)];exact hg,L++[⟨v,_,hv⟩],k2,by simp[hL]⟩
 .rintro n t5 m fc ⟨hg,L,hG,hL⟩
  rw[List.take_of_length_le (by simp[freshM])]at hL
  simp only[x2b]
  unfold x5v xz
  simp[hg,hp.len xw3]
  obtain⟨a',f1,f2⟩:=hG.frz Wv.len Wv.still
  exact RetF.mk f2 ⟨L,f1,hL⟩
theorem pr_steps(p q:Sp):xux Tryz.prog (Op.equalIn 10000 x4a (.agg [.int .i64 p.p,.int .i64 p.s].toArray) (.agg [.int .i64 q.p,.int .i64 q.s].toArray))=some (decide (p.p=q.p)&&decide (p.s=q.s)):=by
 refine(eq_ints (offs:=[0,1]) (ga:=fun o=>[p.p,p.s].getD o 0) (gb:=fun o=>[q.p,q.s].getD o 0) (by kernel_rfl) (by kernel_rfl) (by kernel_rfl) fun o ho=>⟨x11v _ _ o ho,x11v _ _ o ho⟩).trans ?_
 simp[List.getD]
 by_cases h0:p.p=q.p<;>by_cases h1:p.s=q.s<;>simp[h0,h1]
theorem x19e(x y:Operand)(p:Sp):sBin Tryz.prog .neq x4a x y (.agg p.c) (.agg p.c)=some (B false):=by
 have:sBin Tryz.prog .neq x4a x y (.agg p.c) (.agg p.c)=some (B (!(decide (p.p=p.p)&&decide (p.s=p.s)))):=x18y (xs:=[.int .i64 p.p,.int .i64 p.s]) (ys:=[.int .i64 p.p,.int .i64 p.s]) (by kernel_rfl) (pr_steps p p) ⟨p.c,rfl⟩ _ _ rfl rfl
 simpa using this
theorem x175(d:Nat){a b:AV}{l:List Sp}(ha:Sl Sp.c a l)(hb:Sl Sp.c b l)(hl:l.length<1000000)(m:Mem):xuv (xuu (d+1)) x33 [a,b] m=some (B true,m):=by
 refine xw5 (by simp[ha.still,hb.still]) ?_ m
 rw[xh9]
 unfold x7m x94 x5e
 simp[ha.len xyq,hb.len xyq,mem0]
 refine xvh (N:=l.length) (σ:=Unit) (fun n k _ m fc=>x27 (xuu d) [] 0 n a b (I k) m fc) (fun k _ m=>True) _ ?_ ?_ NN 0 () _ _ (by omega) (by rw[xv8];omega) trivial
 .rintro n k-m fc hk-next
  have hk':(k:Int)<(l.length:Int):=by omega
  have ix:=ha.ix Sp.len hk
  have ix2:=hb.ix Sp.len hk
  have ld:=xw8 (m:=m) Sp.len (by omega) hk
  simp only[x27]
  unfold x5d
  simp only[ha.len xyq,xv4,xwd,hk',decide_true,xw4,ix,ix2,ld,x19e,x13f]
  simp(disch:=omega) [xv1]
  exact next () m _ trivial
 .rintro n-m fc -
  simp only[x27]
  unfold x5d
  simp[ha.len xyq,x26]
  exact RetF.st rfl rfl
theorem ld_walk{m:Mem}{L:List Wv}{k:Nat}(hk:k<L.length):sLd false 1 (.plit ((L.drop k).flatMap Wv.c)) m=some L[k].v:=by
 rw[xvs hk,List.flatMap_cons]
 rfl
theorem x176(d:Nat){a b:AV}{L K:List Wv}(ha:Sl Wv.c a L)(hb:Sl Wv.c b K)(he:L.map Wv.w=K.map Wv.w)(hl:L.length<1000000)(hw:∀x∈L,x.w.length<1000000)(m:Mem):xuv (xuu (d+2)) x36 [a,b] m=some (B true,m):=by
 have hLK:L.length=K.length:=by simpa using congrArg List.length he
 have hKc:(K.length:Int)=(L.length:Int):=by omega
 refine xw5 (by simp[ha.still,hb.still]) ?_ m
 rw[xhb]
 unfold x7o x96 x5o
 simp[ha.len xyr,hb.len xyr,mem0,hKc]
 refine xvh (N:=L.length) (σ:=Unit) (fun n k _ m fc=>x2a (xuu (d+1)) [] 0 n a b (I k) m fc) (fun k _ m=>True) _ ?_ ?_ NN 0 () _ _ (by omega) (by rw[xv8];omega) trivial
 .rintro n k-m fc hk-next
  have hk':(k:Int)<(L.length:Int):=by omega
  have ix:=ha.ix Wv.len hk
  have ix2:=hb.ix Wv.len (show k<K.length by omega)
  have ld:=ld_walk (m:=m) hk
  have ld2:=ld_walk (m:=m) (show k<K.length by omega)
  have hwe:L[k].w=K[k].w:=by
   have h1:(L.map Wv.w)[k]'(by simpa using hk)=(K.map Wv.w)[k]'(by simp;omega):=by simp only[he]
   simpa using h1
  have hs:=fun m=>x175 d (a:=L[k].v) (b:=K[k].v) (l:=L[k].w) L[k].h (by rw[hwe];exact K[k].h) (hw _ (List.getElem_mem hk)) m
  simp only[x2a]
  unfold x5n
  simp(disch:=omega) [ha.len xyr,hk',ix,ix2,ld,ld2,hs]
  exact next () m _ trivial
 .rintro n-m fc -
  simp only[x2a]
  unfold x5n
  simp[ha.len xyr,x29]
  exact RetF.st rfl rfl
theorem cyc_len{n:Nat}{P:List Pq}{F:List Int}(hP:∀p∈P,PqIn n p)(hT:Tree n P F){L:List Wv}(h:L.map Wv.w=(xw6 P F).map (cycC P F)):L.length<=P.length/\∀x∈L,∃i:Int,0<=i/\i<P.length/\i∉F/\x.w=cycC P F i/\x.w.length<=n+1:=by
 have hl:L.length=(xw6 P F).length:=by simpa using congrArg List.length h
 have hr:(xw6 P F).length<=P.length:=by
  have:=List.length_filter_le (fun i=>!(F.any fun y=>decide (y=i))) (freshM P.length)
  unfold xw6 xvz
  simpa[freshM]using this
 refine⟨by omega,fun x hx=>?_⟩
 have hm:x.w∈(xw6 P F).map (cycC P F):=by rw[<-h];exact List.mem_map_of_mem hx
 obtain⟨i,hi,e⟩:=List.mem_map.mp hm
 unfold xw6 xvz at hi
 rw[List.mem_filter]at hi
 obtain⟨hi1,hi2⟩:=hi
 have hi3:=fresh_mem.mp hi1
 refine⟨i,hi3.1,hi3.2,fun hF=>?_,e.symm,?_⟩
 .rw[Bool.not_eq_true',List.any_eq_false]at hi2
  have:=hi2 i hF
  simp at this
 .rw[<-e]
  have:=(x125 hP hT hi3.1 hi3.2).2.2.2
  simp only[cycC,List.length_cons]
  omega
def pidM(p:Pq):List Pq->Int->Int
 |[],_=>-1
 |q::r,k=>if p.same q=true then k else pidM p r (k+1)
def pid(P:List Pq)(a b:Int):Int:=pidM ⟨a,b⟩ P 0
theorem pidM_in(p:Pq):∀(l:List Pq) (k:Int),0<=k->pidM p l k=-1\/(0<=pidM p l k/\pidM p l k<k+l.length)
 |[],_,_=>.inl rfl
 |q::r,k,h=>by
  rw[pidM]
  split
  .exact .inr ⟨h,by simp;omega⟩
  .rcases pidM_in p r (k+1) (by omega)with e|e
   .exact .inl e
   .exact .inr ⟨e.1,by simp;omega⟩
theorem pidM_no{p:Pq}:∀{l:List Pq} {k:Int},p∉l->pidM p l k=-1
 |[],_,_=>rfl
 |q::r,k,h=>by
  rw[pidM,if_neg fun e=>h (by rw[Pq.same_iff.mp e];exact List.mem_cons_self ..)]
  exact pidM_no fun e=>h (List.mem_cons_of_mem _ e)
def numE:List Pq->Int->List (Pq×AV)
 |[],_=>[]
 |p::r,k=>(p,I k)::numE r (k+1)
theorem x177(p:Pq):∀(l:List Pq) (k:Int),numE (l++[p]) k=numE l k++[(p,I (k+l.length))]
 |[],k=>by simp[numE]
 |q::r,k=>by
  rw[show k+((q::r).length:Int)=k+1+(r.length:Int) by simp;omega]
  simp only[List.cons_append,numE,x177 p r (k+1)]
theorem x144(p:Pq):∀(l:List Pq) (k:Int),0<=k->lkP (numE l k) p=if pidM p l k=-1 then none else some (I (pidM p l k))
 |[],_,_=>rfl
 |q::r,k,h=>by
  simp only[numE,lkP,pidM]
  split
  .rw[if_neg (by omega)]
  .exact x144 p r (k+1) (by omega)
def triC(P:List Pq)(a b c:Int):List (List Sp):=if 0<=pid P a b/\0<=pid P b c/\0<=pid P a c then[[⟨pid P a b,1⟩,⟨pid P b c,1⟩,⟨pid P a c,-1⟩]]else[]
def triB(P:List Pq)(n:Nat)(a b:Int)(k:Nat):List (List Sp):=((List.range n).drop k).flatMap fun(c:Nat)=>triC P a b c
def triA(P:List Pq)(n:Nat)(a:Int)(k:Nat):List (List Sp):=((List.range n).drop k).flatMap fun(b:Nat)=>triB P n a b (b+1)
def triN(P:List Pq)(n:Nat)(k:Nat):List (List Sp):=((List.range n).drop k).flatMap fun(a:Nat)=>triA P n a (a+1)
theorem x145{n k:Nat}(h:k<n):(List.range n).drop k=k::(List.range n).drop (k+1):=by
 rw[xvs (by simpa using h)]
 simp
theorem x178{P:List Pq}{n:Nat}{a b:Int}{k:Nat}(h:k<n):triB P n a b k=triC P a b k++triB P n a b (k+1):=by
 unfold triB;rw[x145 h];rfl
theorem x179{P:List Pq}{n:Nat}{a:Int}{k:Nat}(h:k<n):triA P n a k=triB P n a k (k+1)++triA P n a (k+1):=by
 unfold triA;rw[x145 h];rfl
theorem x17a{P:List Pq}{n:Nat}{k:Nat}(h:k<n):triN P n k=triA P n k (k+1)++triN P n (k+1):=by
 unfold triN;rw[x145 h];rfl
theorem x146{n k:Nat}(h:n<=k):(List.range n).drop k=[]:=List.drop_of_length_le (by simpa using h)
theorem x17b{P:List Pq}{n:Nat}{a b:Int}{k:Nat}(h:n<=k):triB P n a b k=[]:=by unfold triB;rw[x146 h];rfl
theorem x17c{P:List Pq}{n:Nat}{a:Int}{k:Nat}(h:n<=k):triA P n a k=[]:=by unfold triA;rw[x146 h];rfl
theorem x17d{P:List Pq}{n:Nat}{k:Nat}(h:n<=k):triN P n k=[]:=by unfold triN;rw[x146 h];rfl
theorem triB_no{P:List Pq}{n:Nat}{a b:Int}{k:Nat}(h:¬0<=pid P a b):triB P n a b k=[]:=by
 unfold triB
 rw[List.flatMap_eq_nil_iff]
 intro c _
 unfold triC
 rw[if_neg fun e=>h e.1]
theorem x128{α β:Type}{f:α->List β}{M:Nat}:∀{l:List α},(∀x∈l,(f x).length<=M)->(l.flatMap f).length<=l.length*M
 |[],_=>by simp
 |x::l,h=>by
  have h1:=h x (List.mem_cons_self ..)
  have h2:=x128 (l:=l) fun y hy=>h y (List.mem_cons_of_mem _ hy)
  rw[List.flatMap_cons,List.length_append,List.length_cons,Nat.succ_mul]
  omega
theorem x147(P:List Pq){n:Nat}(h:n<=8):(triN P n 0).length<=392:=by
 have hC:∀a b c,(triC P a b c).length<=1:=fun a b c=>by unfold triC;split<;>simp
 have hB:∀a b k,1<=k->(triB P n a b k).length<=7:=fun a b k hk=>by
  have:=x128 (l:=(List.range n).drop k) (f:=fun(c:Nat)=>triC P a b c) (M:=1) fun x _=>hC _ _ _
  rw[List.length_drop,List.length_range]at this
  unfold triB
  omega
 have hA:∀a k,1<=k->(triA P n a k).length<=49:=fun a k hk=>by
  have:=x128 (l:=(List.range n).drop k) (f:=fun(b:Nat)=>triB P n a b (b+1)) (M:=7) fun x _=>hB _ _ _ (by omega)
  rw[List.length_drop,List.length_range]at this
  unfold triA
  omega
 have:=x128 (l:=(List.range n).drop 0) (f:=fun(a:Nat)=>triA P n a (a+1)) (M:=49) fun x _=>hA _ _ (by omega)
 rw[List.length_drop,List.length_range]at this
 unfold triN
 omega
theorem w_pairOf(d:Nat){s p:AV}{l:List Scene}{P:List Pq}(hs:Sl Scene.c s l)(hp:Sl Pq.c p P)(hl:P.length<=1000)(a b:Int)(m:Mem):xuv (xuu (d+1)) x1r [.agg [s,p],I a,I b] m=some (I (pid P a b),m):=by
 refine xw5 (by simp[hs.still1,hp.still1]) ?_ m
 rw[xhz]
 unfold x8c x9v x6h
 generalize hm1:(⟨[],1⟩:Mem).new (0,0,3) (.row [s,p] 0 false)=m1
 have g3:m1.get (0,0,3)=some (.row [s,p] 0 false):=by rw[<-hm1];simp
 simp only[mem0,xz7,x103,List.all_cons,List.all_nil,hs.one,hp.one,Bool.and_self,Bool.and_true,xwb,hm1]
 refine xvh (N:=P.length) (σ:=Unit) (fun n k _ m fc=>x2l (xuu d) [] 0 n (I a) (I b) (.ptr (0,0,3) 0 0) (I k) m fc) (fun k _ m=>m=m1/\pidM ⟨a,b⟩ (P.drop k) k=pid P a b) _ ?_ ?_ NN 0 () m1 _ (by omega) (by rw[xv8];omega) ⟨rfl,by simp[pid]⟩
 .rintro n k-m fc hk ⟨hm,hI⟩ next
  rw[hm]
  have hk':(k:Int)<(P.length:Int):=by omega
  have ix:=hp.ix Pq.len hk
  have f0:=fun m=>xxf (enc:=Pq.c) (m:=m) (l:=P) hk 0 (v:=I (P[k]).a) rfl
  have f1:=fun m=>xxf (enc:=Pq.c) (m:=m) (l:=P) hk 1 (v:=I (P[k]).b) rfl
  rw[List.drop_zero]at f0
  simp only[List.drop_one]at f1
  rw[xvs hk,pidM]at hI
  generalize P[k]=q at *
  simp only[x2l]
  unfold x6g
  simp(disch:=omega) [g3,hp.len xw3,hk',ix,f0]
  by_cases c1:q.a=a
  .simp(disch:=omega) [g3,c1,ix,f1]
   by_cases c2:q.b=b
   .rw[if_pos (by simp[Pq.same,c1,c2])]at hI
    simp[c2]
    exact RetF.st rfl (by rw[hI])
   .rw[if_neg (by simp[Pq.same,Ne.symm c2])]at hI
    simp[c2]
    exact next () _ _ ⟨rfl,by rw[<-hI];norm_cast⟩
  .rw[if_neg (by simp[Pq.same,Ne.symm c1])]at hI
   simp[c1]
   exact next () _ _ ⟨rfl,by rw[<-hI];norm_cast⟩
 .rintro n-m fc ⟨hm,hI⟩
  rw[hm]
  rw[List.drop_length]at hI
  simp only[x2l]
  unfold x6g x2k
  simp[g3,hp.len xw3]
  exact RetF.st rfl (by rw[<-hI];rfl)
structure TI (s p:AV) (t:Nat) (T:List (List Sp)) (a:AV) (rest:List (List Sp)) (m:Mem):Prop where
 g:m.get (0,0,1)=some (.row [s,p] 0 false)
 nx:1<=m.next
 ok:∃L,Gr 1 Wv.c 0 t m a L/\L.map Wv.w++rest=T
def triV(x y z:Int):Wv:=⟨.slit [I x,I 1,I y,I 1,I z,I (-1)] 3 true,[⟨x,1⟩,⟨y,1⟩,⟨z,-1⟩],Or.inr ⟨true,rfl⟩⟩
theorem x17e{a b c d e f:Int}{id:Id}{m:Mem}{R:Type}{k:AV->Mem->Option R} :
 xvp [I 0,I 0] [(0,2,.agg [I a,I b]),(2,2,.agg [I c,I d]),(4,2,.agg [I e,I f])] 3 2 id m k=k (.slit [I a,I b,I c,I d,I e,I f] 3 true) m:=by
 simp[xvp,xvx,xvq,List.range_succ,xvc]
theorem build_S(x y:Int):xv6 [I 0,I 0] [(0,1,I x),(1,1,I y)]=some (.agg [I x,I y]):=by simp[xv6,xvx]
theorem TI.app{s p:AV}{t:Nat}{T:List (List Sp)}{a:AV}{rest:List (List Sp)}{m:Mem}{x y z:Int}(h:TI s p t T a ([⟨x,1⟩,⟨y,1⟩,⟨z,-1⟩]::rest) m)(hT:T.length<=1000)(ht:t≠1)(s0:Nat) :
 ∃a' m',(∀{R:Type} (k:AV->Mem->Option R),sApp 1 24 (0,s0,t) (some ([.slit [I x,I 1,I y,I 1,I z,I (-1)] 3 true],1)) a m k=k a' m')/\TI s p t T a' rest m'/\(∀j:Id,j.2.2≠t->m'.get j=m.get j):=by
 obtain⟨L,hG,hL⟩:=h.ok
 have hLl:L.length<=T.length:=by rw[<-hL];simp
 obtain⟨a',m',k1,k2,k3,k4⟩:=hG.app (s0:=s0) (bytes:=24) Wv.len (by omega) (by unfold xv2;omega) (triV x y z)
 refine⟨a',m',fun K=>k1 K,⟨by rw[k4 _ (by simpa using ht.symm)];exact h.g,by rw[k3];exact h.nx,L++[triV x y z],k2,?_⟩,k4⟩
 rw[<-hL,List.map_append,List.append_assoc]
 rfl
theorem x19f(d:Nat){s p:AV}{l:List Scene}{P:List Pq}(hs:Sl Scene.c s l)(hp:Sl Pq.c p P)(hl:l.length<=8)(hPl:P.length<=1000)(m:Mem) :
 ∃v L,Sl Wv.c v L/\L.map Wv.w=triN P l.length 0/\xuv (xuu (d+2)) x3r [.agg [s,p]] m=some (v,m):=by
 refine(fun⟨v,⟨L,h1,h2⟩,h3⟩=>⟨v,L,h1,h2,h3⟩:(∃v,(∃L,Sl Wv.c v L/\L.map Wv.w=triN P l.length 0)/\_)->_) (xwq (T:=fun v=>∃L,Sl Wv.c v L/\L.map Wv.w=triN P l.length 0) (by simp[hs.still1,hp.still1]) ?_ m)
 have hTl:=x147 P hl
 generalize hT:triN P l.length 0=T at *
 rw[xhc]
 unfold x7p x97 x5t
 generalize hm1:(⟨[],1⟩:Mem).new (0,0,1) (.row [s,p] 0 false)=m1
 have g3:m1.get (0,0,1)=some (.row [s,p] 0 false):=by rw[<-hm1];simp
 have hn1:1<=m1.next:=by rw[<-hm1];exact Nat.le_refl _
 simp only[mem0,xz7,x103,List.all_cons,List.all_nil,hs.one,hp.one,Bool.and_self,Bool.and_true,xwb,hm1]
 have pf:=fun a b m=>w_pairOf d hs hp hPl a b m
 refine xvh (N:=l.length) (fun n k t3 m fc=>xn (xuu (d+1)) [] 0 n (.ptr (0,0,1) 0 0) t3 (I k) m fc) (fun k t3 m=>TI s p 66 T t3 (triN P l.length k) m) _ ?_ ?_ NN 0 nilS m1 _ (by omega) (by rw[xv8];omega) ⟨g3,hn1,[],Gr.nil,by simpa using hT⟩
 .rintro n k t3 m fc hk hI next
  have hk':(k:Int)<(l.length:Int):=by omega
  rw[x17a hk]at hI
  simp only[xn]
  unfold x5s x4i
  simp(disch:=omega) [hI.g,hs.len xvf,hk']
  refine xvh (N:=l.length) (fun n2 b t3 m fc=>xy (xuu (d+1)) [] 0 (xn (xuu (d+1)) [] 0 n) n2 (.ptr (0,0,1) 0 0) t3 (I k) (I b) m fc) (fun b t3 m=>TI s p 66 T t3 (triA P l.length k b++triN P l.length (k+1)) m) _ ?_ ?_ NN (k+1) t3 m _ (by omega) (by rw[xv8];omega) hI
  .rintro n2 b t3 m fc hb hI next2
   have hb':(b:Int)<(l.length:Int):=by omega
   rw[x179 hb,List.append_assoc]at hI
   simp only[xy]
   unfold x5r x4h
   simp(disch:=omega) [hI.g,hs.len xvf,hb',pf]
   refine xvh (N:=l.length) (fun n3 c t3 m fc=>x1d (xuu (d+1)) [] 0 (xn (xuu (d+1)) [] 0 n) (xy (xuu (d+1)) [] 0 (xn (xuu (d+1)) [] 0 n) n2) n3 (.ptr (0,0,1) 0 0) t3 (I k) (I b) (I (pid P k b)) (I c) m fc) (fun c t3 m=>TI s p 66 T t3 (triB P l.length k b c++(triA P l.length k (b+1)++triN P l.length (k+1))) m) _ ?_ ?_ NN (b+1) t3 m _ (by omega) (by rw[xv8];omega) hI
   .rintro n3 c t3 m fc hc hI next3
    have hc':(c:Int)<(l.length:Int):=by omega
    have hnx:=hI.nx
    simp only[x1d]
    unfold x5q
    by_cases c1:0<=pid P k b
    rotate_left
    .rw[triB_no c1]at hI
     simp[c1]
     unfold xc
     simp(disch:=omega) [xv1]
     exact next2 t3 m _ hI
    simp(disch:=omega) [c1,hI.g,hs.len xvf,hc']
    rw[x178 hc,List.append_assoc]at hI
    unfold x5p
    have hblt:Nat.blt 0 m.next=true:=Nat.ble_eq_true_of_le (by omega)
    have hno:triC P k b c=[]->∀fc,RetF (fun v=>∃L,Sl Wv.c v L/\L.map Wv.w=T) (x3j (xuu (d+1)) [] 0 (xn (xuu (d+1)) [] 0 n) (xy (xuu (d+1)) [] 0 (xn (xuu (d+1)) [] 0 n) n2) (x1d (xuu (d+1)) [] 0 (xn (xuu (d+1)) [] 0 n) (xy (xuu (d+1)) [] 0 (xn (xuu (d+1)) [] 0 n) n2) n3) (.ptr (0,0,1) 0 0) t3 (I k) (I b) (I (pid P k b)) (I c) m fc):=fun e fc=>by
     rw[e,List.nil_append]at hI
     unfold x3j
     simp(disch:=omega) [xv1]
     exact next3 t3 m _ hI
    simp[hI.g,pf,cAp,tR,hs.clean1,hp.clean1,hblt]
    by_cases c2:0<=pid P b c
    .by_cases c3:0<=pid P k c
     .have e:triC P k b c=[[⟨pid P k b,1⟩,⟨pid P b c,1⟩,⟨pid P k c,-1⟩]]:=if_pos ⟨c1,c2,c3⟩
      rw[e,List.cons_append,List.nil_append]at hI
      obtain⟨a',m',k1,k2,k3⟩:=hI.app (by omega) (by omega) (fc+9+25)
      have he:∀M:Mem,elems M.get 1 (.slit [.slit [I (pid P k b),I 1,I (pid P b c),I 1,I (pid P k c),I (-1)] 3 true] 1 true)=some ([.slit [I (pid P k b),I 1,I (pid P b c),I 1,I (pid P k c),I (-1)] 3 true],1):=fun M=>by simp[elems]
      simp only[sGe_I,c2,c3,decide_true,sW_t,xwb,xv4,sPick_B,xw4,build_S,xxi,x17e,x127,x110 (x15y _ _ _) (x15z _ _ _) (x161 _ _ _),he]
      rw[k1]
      unfold x3j
      simp(disch:=omega) [xv1]
      exact next3 a' m' _ k2
     .simp[c2,c3]
      exact hno (if_neg fun e=>c3 e.2.2) _
    .simp[c2]
     exact hno (if_neg fun e=>c2 e.2.1) _
   .rintro n3 t3 m fc hI
    rw[x17b (Nat.le_refl _),List.nil_append]at hI
    simp only[x1d]
    unfold x5q xc
    by_cases c1:0<=pid P k b
    .simp(disch:=omega) [c1,hI.g,hs.len xvf]
     exact next2 t3 m _ hI
    .simp(disch:=omega) [c1,xv1]
     exact next2 t3 m _ hI
  .rintro n2 t3 m fc hI
   rw[x17c (Nat.le_refl _),List.nil_append]at hI
   simp only[xy]
   unfold x5r x1
   simp(disch:=omega) [hI.g,hs.len xvf]
   exact next t3 m _ hI
 .rintro n t3 m fc hI
  rw[x17d (Nat.le_refl _)]at hI
  obtain⟨L,hG,hL⟩:=hI.ok
  simp only[xn]
  unfold x5s x6
  simp(disch:=omega) [hI.g,hs.len xvf]
  obtain⟨a',f1,f2⟩:=hG.frz Wv.len Wv.still
  exact RetF.mk f2 ⟨L,f1,by simpa using hL⟩
theorem um_pi:Tryz.prog.underlying x4b=some (.map x9 xve):=by kernel_rfl
theorem zv_intT:xzs Tryz.prog xve=some (I 0):=by kernel_rfl
theorem look_tri{id:Id}{P:List Pq}{m:Mem}(h:m.get id=some (.map (mpP (numE P 0))))(a b:Int) :
 xy2 Tryz.prog x4b (.mp id) (.agg [I a,I b]) true m=some (.tup [I (if 0<=pid P a b then pid P a b else 0),B (decide (0<=pid P a b))]):=by
 have:=look_pq um_pi zv_intT id (numE P 0) ⟨a,b⟩ true m h
 rw[if_pos rfl,x144 _ _ _ (by omega)]at this
 refine this.trans ?_
 show some (AV.tup [(if pid P a b=-1 then none else some (I (pid P a b))).getD (I 0),B (if pid P a b=-1 then none else some (I (pid P a b))).isSome])=_
 by_cases c:0<=pid P a b
 .rw[if_neg (by omega),if_pos c];simp[c]
 .have:pid P a b=-1:=by
   rcases pidM_in ⟨a,b⟩ P 0 (by omega)with e|e
   .exact e
   .exact absurd e.1 c
  rw[if_pos this,if_neg c];simp[c]
theorem x17f(a b:Int):xv6 xq [(0,1,I a),(1,1,I b)]=some (.agg [I a,I b]):=by rw[xx4];simp[xv6,xvx]
def LsR(T:List (List Sp))(v:AV):Prop:=∃t L,v=.tup [t,I 0]/\Sl Wv.c t L/\L.map Wv.w=T
theorem x19g(d:Nat){s p:AV}{l:List Scene}{P:List Pq}(hs:Sl Scene.c s l)(hp:Sl Pq.c p P)(hl:l.length<=8){T:List (List Sp)}(hT:triN P l.length 0=T)(hTl:T.length<=392){m:Mem}(fc:Nat)(h1:m.get (0,0,1)=some (.row [s,p] 0 false))(h2:1<=m.next)(h3:m.get (0,8,23)=some (.map (mpP (numE P 0)))) :
 RetF (LsR T) (x1c (xuu (d+7)) [] 0 (.ptr (0,0,1) 0 0) (.mp (0,8,23)) m fc):=by
 have lk:=fun a b (m:Mem) h=>look_tri (id:=(0,8,23)) (P:=P) (m:=m) h a b
 unfold x1c x5j
 simp[h1,hs.len xvf]
 refine xvh (N:=l.length) (fun n k t3 m fc=>xm (xuu (d+7)) [] 0 n (.ptr (0,0,1) 0 0) (.mp (0,8,23)) t3 (I l.length) (I k) m fc) (fun k t3 m=>TI s p 100 T t3 (triN P l.length k) m/\m.get (0,8,23)=some (.map (mpP (numE P 0)))) _ ?_ ?_ NN 0 nilS m _ (by omega) (by rw[xv8];omega) ⟨⟨h1,h2,[],Gr.nil,by simpa using hT⟩,h3⟩
 .rintro n k t3 m fc hk ⟨hI,hM⟩ next
  have hk':(k:Int)<(l.length:Int):=by omega
  rw[x17a hk]at hI
  simp only[xm]
  unfold x5i x4g
  simp(disch:=omega) [hk']
  refine xvh (N:=l.length) (fun n2 b t3 m fc=>xx (xuu (d+7)) [] 0 (xm (xuu (d+7)) [] 0 n) n2 (.ptr (0,0,1) 0 0) (.mp (0,8,23)) t3 (I k) (I b) (I l.length) (I k) m fc) (fun b t3 m=>TI s p 100 T t3 (triA P l.length k b++triN P l.length (k+1)) m/\m.get (0,8,23)=some (.map (mpP (numE P 0)))) _ ?_ ?_ NN (k+1) t3 m _ (by omega) (by rw[xv8];omega) ⟨hI,hM⟩
  .rintro n2 b t3 m fc hb ⟨hI,hM⟩ next2
   have hb':(b:Int)<(l.length:Int):=by omega
   rw[x179 hb,List.append_assoc]at hI
   simp only[xx]
   unfold x5h x4f
   simp(disch:=omega) [hI.g,hs.len xvf,hb',x17f,lk _ _ _ hM]
   simp only[List.getElem?_cons_zero,xv4]
   refine xvh (N:=l.length) (fun n3 c t3 m fc=>x1b (xuu (d+7)) [] 0 (xm (xuu (d+7)) [] 0 n) (xx (xuu (d+7)) [] 0 (xm (xuu (d+7)) [] 0 n) n2) n3 (.ptr (0,0,1) 0 0) (.mp (0,8,23)) t3 (I k) (I b) (I (if 0<=pid P k b then pid P k b else 0)) (B (decide (0<=pid P k b))) (I c) (I l.length) (I k) m fc) (fun c t3 m=>TI s p 100 T t3 (triB P l.length k b c++(triA P l.length k (b+1)++triN P l.length (k+1))) m/\m.get (0,8,23)=some (.map (mpP (numE P 0)))) _ ?_ ?_ NN (b+1) t3 m _ (by omega) (by rw[xv8];omega) ⟨hI,hM⟩
   .rintro n3 c t3 m fc hc ⟨hI,hM⟩ next3
    have hc':(c:Int)<(l.length:Int):=by omega
    simp only[x1b]
    unfold x5g
    simp(disch:=omega) [hI.g,hs.len xvf,hc']
    rw[x178 hc,List.append_assoc]at hI
    unfold x5f
    have hno:triC P k b c=[]->∀fc,RetF (LsR T) (x3h (xuu (d+7)) [] 0 (xm (xuu (d+7)) [] 0 n) (xx (xuu (d+7)) [] 0 (xm (xuu (d+7)) [] 0 n) n2) (x1b (xuu (d+7)) [] 0 (xm (xuu (d+7)) [] 0 n) (xx (xuu (d+7)) [] 0 (xm (xuu (d+7)) [] 0 n) n2) n3) (.ptr (0,0,1) 0 0) (.mp (0,8,23)) t3 (I k) (I b) (I (if 0<=pid P k b then pid P k b else 0)) (B (decide (0<=pid P k b))) (I c) (I l.length) (I k) m fc):=fun e fc=>by
     rw[e,List.nil_append]at hI
     unfold x3h
     simp(disch:=omega) [xv1]
     exact next3 t3 m _ ⟨hI,hM⟩
    simp[x17f,lk _ _ _ hM]
    by_cases c1:0<=pid P k b
    rotate_left
    .simp[c1]at hno ⊢
     exact hno (if_neg fun e=>c1 e.1) _
    by_cases c2:0<=pid P b c
    rotate_left
    .simp[c1,c2]at hno ⊢
     exact hno (if_neg fun e=>c2 e.2.1) _
    by_cases c3:0<=pid P k c
    rotate_left
    .simp[c1,c2,c3]at hno ⊢
     exact hno (if_neg fun e=>c3 e.2.2) _
    have e:triC P k b c=[[⟨pid P k b,1⟩,⟨pid P b c,1⟩,⟨pid P k c,-1⟩]]:=if_pos ⟨c1,c2,c3⟩
    rw[e,List.cons_append,List.nil_append]at hI
    obtain⟨a',m',k1,k2,k3⟩:=hI.app (by omega) (by omega) (fc+5+36)
    have he:∀M:Mem,elems M.get 1 (.slit [.slit [I (pid P k b),I 1,I (pid P b c),I 1,I (pid P k c),I (-1)] 3 true] 1 true)=some ([.slit [I (pid P k b),I 1,I (pid P b c),I 1,I (pid P k c),I (-1)] 3 true],1):=fun M=>by simp[elems]
    simp only[c1,c2,c3,decide_true,if_true,sW_t,xwb,xv4,sPick_B,xw4,xxi,build_S,x17e,x127,x110 (x15y _ _ _) (x15z _ _ _) (x161 _ _ _),he]
    rw[k1]
    unfold x3h
    simp(disch:=omega) [xv1]
    have:=next3 a' m' (fc+5+38+3) ⟨k2,by rw[k3 _ (by simp)];exact hM⟩
    simpa[c1]using this
   .rintro n3 t3 m fc ⟨hI,hM⟩
    rw[x17b (Nat.le_refl _),List.nil_append]at hI
    simp only[x1b]
    unfold x5g xd
    simp(disch:=omega) [hI.g,hs.len xvf]
    exact next2 t3 m _ ⟨hI,hM⟩
  .rintro n2 t3 m fc ⟨hI,hM⟩
   rw[x17c (Nat.le_refl _),List.nil_append]at hI
   simp only[xx]
   unfold x5h x0
   simp(disch:=omega) [hI.g,hs.len xvf]
   exact next t3 m _ ⟨hI,hM⟩
 .rintro n t3 m fc ⟨hI,hM⟩
  rw[x17d (Nat.le_refl _)]at hI
  obtain⟨L,hG,hL⟩:=hI.ok
  have hLl:L.length<=392:=by rw[<-hL]at hTl;simpa using hTl
  have hL4:¬(400:Int)<(L.length:Int):=by omega
  simp only[xm]
  unfold x5i x4
  simp(disch:=omega) [hG.len xyr,hL4]
  obtain⟨a',f1,f2⟩:=hG.frzk (k:=3) Wv.len Wv.still
  exact RetF.mk (T:=LsR T) (xxe f2 (frz_I (k:=4))) ⟨a',L,rfl,f1,by simpa using hL⟩
theorem x19h(d:Nat){s p:AV}{l:List Scene}{P:List Pq}(hs:Sl Scene.c s l)(hp:Sl Pq.c p P)(hl:l.length<=8)(hR:Right7 l P)(hn:(net7 l P).2=0) :
 RetF (LsR (triN P l.length 0)) (xuu (d+8) [] x35 [.agg [s,p]] mem0):=by
 have hTl:=x147 P hl
 have hPl:=hR.pl
 generalize hT:triN P l.length 0=T at *
 rw[xbq]
 unfold x4z x5m x5l
 generalize hm1:(⟨[],1⟩:Mem).new (0,0,1) (.row [s,p] 0 false)=m1
 have g1:m1.get (0,0,1)=some (.row [s,p] 0 false):=by rw[<-hm1];simp
 have hn1:m1.next=1:=by rw[<-hm1];rfl
 simp[mem0,hs.one,hp.one,hm1,g1,x13p (d+1) hs hp,hn,x10o,hp.len xw3]
 generalize hm0:Mem.new m1 _ _=m0
 refine xvh (N:=P.length) (σ:=Unit) (fun n k _ m fc=>x28 (xuu (d+7)) [] 0 n (.ptr (0,0,1) 0 0) (.mp (0,8,23)) p (I P.length) (I k) m fc)
  (fun k _ m=>m.get (0,0,1)=some (.row [s,p] 0 false)/\1<=m.next/\m.get (0,8,23)=some (.map (mpP (numE (P.take k) 0)))) _ ?_ ?_ NN 0 () _ _ (by omega) (by rw[xv8];omega) ⟨by rw[<-hm0];simp[g1],by rw[<-hm0];simp[hn1],by rw[<-hm0];simp[numE,mpP]⟩
 .rintro n k-m fc hk ⟨h1,h2,h3⟩ next
  have hk':(k:Int)<(P.length:Int):=by omega
  have ix:=hp.ix Pq.len hk
  have ld:=fun m=>xw8 (m:=m) Pq.len (by omega) hk
  have hnl:lkP (numE (P.take k) 0) P[k]=none:=by
   rw[x144 _ _ _ (by omega),if_pos]
   refine pidM_no fun hmem=>?_
   have hnd:=hR.nd
   obtain⟨j,hj,e⟩:=List.getElem_of_mem hmem
   rw[List.getElem_take]at e
   have:=(List.getElem_inj hnd).mp e
   simp at hj
   omega
  have hup:=fun{R:Type} (m:Mem) (K:Mem->Option R) (h:m.get (0,8,23)=some (.map (mpP (numE (P.take k) 0))))=>up_pq um_pi (0,8,23) (numE (P.take k) 0) P[k] (I k) m K h hnl
  have htk:numE (P.take k) 0++[(P[k],I k)]=numE (P.take (k+1)) 0:=by
   rw[List.take_succ_eq_append_getElem hk,x177,List.length_take,Nat.min_eq_left (by omega)]
   simp
  rw[htk]at hup
  generalize P[k]=q at *
  simp only[x28]
  unfold x5k
  simp only[Pq.c]at ld hup
  simp[hk',ix,ld,xx4]
  generalize hm2:Mem.set _ _ _=m2
  have e2:∀j:Id,j.2.2≠7->m2.get j=m.get j:=fun j hj=>by
   rw[<-hm2,Mem.get_set,if_neg (by rintro rfl;exact hj rfl),Mem.get_new,if_neg (by rintro rfl;exact hj rfl)]
  have q7:m2.get (0,fc+4,7)=some (.row [I q.a,I q.b] 0 false):=by rw[<-hm2];simp
  have hm2n:m2.next=m.next:=by rw[<-hm2];rfl
  rw[hup m2 _ (by rw[e2 _ (by simp)];exact h3)]
  generalize hm3:Mem.set m2 _ _=m3
  simp(disch:=omega) [xv1]
  exact next () m3 _ ⟨by rw[<-hm3,Mem.get_set,if_neg (by simp),e2 _ (by simp)];exact h1,by rw[<-hm3];simp[hm2n];exact h2,by rw[<-hm3];simp⟩
 rintro n-m fc ⟨h1,h2,h3⟩
 rw[List.take_length]at h3
 simp only[x28]
 unfold x5k
 simp
 exact x19g d hs hp hl hT hTl _ h1 h2 h3
theorem x19i(d:Nat){s p:AV}{l:List Scene}{P:List Pq}(hs:Sl Scene.c s l)(hp:Sl Pq.c p P)(hl:(net7 l P).2=0->l.length<=8)(m:Mem) :
 ∃t L,Sl Wv.c t L/\L.map Wv.w=(if(net7 l P).2=0 then triN P l.length 0 else[])/\xuv (xuu (d+8)) x35 [.agg [s,p]] m=some (.tup [t,I (net7 l P).2],m):=by
 by_cases hn:(net7 l P).2=0
 .obtain⟨v,⟨t,L,rfl,h1,h2⟩,h3⟩:=xwq (by simp[hs.still1,hp.still1]) (x19h d hs hp (hl hn) (x117 hn) hn) m
  exact⟨t,L,h1,by rw[if_pos hn];exact h2,by rw[hn];exact h3⟩
 .refine⟨nilS,[],.inl ⟨rfl,rfl⟩,by rw[if_neg hn];rfl,xw5 (by simp[hs.still1,hp.still1]) ?_ m⟩
  rw[xbq]
  unfold x4z x5m
  generalize hm1:(⟨[],1⟩:Mem).new (0,0,1) (.row [s,p] 0 false)=m1
  have g1:m1.get (0,0,1)=some (.row [s,p] 0 false):=by rw[<-hm1];simp
  simp[mem0,hs.one,hp.one,hm1,g1,x13p (d+1) hs hp,hn]
  exact RetF.mk (T:=fun v=>v=.tup [nilS,I (net7 l P).2]) (xxe rfl rfl) rfl
end Go.Ix
