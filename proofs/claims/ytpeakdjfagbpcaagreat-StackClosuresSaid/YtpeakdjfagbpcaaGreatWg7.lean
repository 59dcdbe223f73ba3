import Derived.Test.YtpeakdjfagbpcaaGreatWg6
import Derived.Test.YtpeakdjfagbpcaaGreatWg5
import Derived.Test.YtpeakdjfagbpcaaGreatWg4
import Derived.Test.YtpeakdjfagbpcaaGreatWg3
set_option linter.unusedSimpArgs false
set_option linter.unusedVariables false
namespace Go.Ix
open Go.Proofs
theorem x1ij(d:Nat){s p f:AV}{l:List Scene}{P:List Pq}{F:List Int}{i:Int}(hs:Sl Scene.c s l)(hp:Sl Pq.c p P)(hf:Ints f F)(hR:Right7 l P)(hT:Tree l.length P F)(h0:0<=i)(h1:i<P.length)(m:Mem) :
 ∃v,Sl Sp.c v (cycC P F i)/\x13f (x13e (d+3)) x4h [.agg [s,p],f,I i] m=some (v,m):=by
 refine x15c (T:=fun v=>Sl Sp.c v (cycC P F i)) (by simp[hs.still1,hp.still1,hf.still]) ?_ m
 have hP:=hR.pr
 have hl60:=hR.ll
 obtain⟨w1,w2,w3,w4⟩:=x19c hP hT h0 h1
 obtain⟨a0,a1,a2⟩:=x18b hP ⟨h0,h1⟩
 rw[xlx]
 unfold x9h xbg
 generalize hm1:(⟨[],1⟩:Mem).new (0,0,3) (.row [s,p] 0 false)=m1
 have g3:m1.get (0,0,3)=some (.row [s,p] 0 false):=by rw[<-hm1];simp
 have ix:=hp.ixI Pq.len h0 h1
 have fa:=fun m=>x171 (enc:=Pq.c) (m:=m) (l:=P) (k:=i.toNat) (by omega) 0 (v:=I (prAt P i).a) (by rw[x1dd (by omega)];rfl)
 have fb:=fun m=>x171 (enc:=Pq.c) (m:=m) (l:=P) (k:=i.toNat) (by omega) 1 (v:=I (prAt P i).b) (by rw[x1dd (by omega)];rfl)
 rw[List.drop_zero]at fa
 have hb:x13z xa [(0,1,I i),(1,1,I 1)]=some (.agg [I i,I 1]):=by rw[x15m];simp[x13z,x14k]
 obtain⟨y,hy,hyc⟩:=x15c (by simp[hs.still1,hp.still1,hf.still]) (a_rway d hs hp hf hl60 hP hT.fo (by omega) (by omega) (by omega) (by omega) w1 w2 w3) m1
 obtain⟨o,m2,e1,-,⟨y',e4,e5⟩,-,-⟩:=x1dc hy (by omega) (0,20,25) ⟨i,1⟩ m1
 simp only[mem0,x1a3,x1a0,List.all_cons,List.all_nil,hs.one,hp.one,Bool.and_self,Bool.and_true,x14t,hm1,hb,x13n]
 simp only[x15m,x1a8,x183,x15b,g3,x170,Nat.beq_refl,x14t,List.drop_zero,List.drop_succ_cons,rd_2,rd_f,x13n,Nat.zero_add,ix,x1f5,fa,fb,hyc]
 rw[e1]
 simp[tR,x13i,disj,cAp,hs.clean1,hp.clean1,hf.clean]
 exact RetF.mk (e5 m2 4 rfl) e4
theorem w_rCycles(d:Nat){s p f:AV}{l:List Scene}{P:List Pq}{F:List Int}(hs:Sl Scene.c s l)(hp:Sl Pq.c p P)(hf:Ints f F)(hR:Right7 l P)(hT:Tree l.length P F)(m:Mem) :
 ∃v L,Sl Wv.c v L/\L.map Wv.w=(x14u P F).map (cycC P F)/\x13f (x13e (d+4)) x4g [.agg [s,p],f] m=some (v,m):=by
 have hPl:=hR.pl
 have hFl:=hT.fo.len hR.pr
 have hl60:=hR.ll
 refine(fun⟨v,⟨L,h1,h2⟩,h3⟩=>⟨v,L,h1,h2,h3⟩:(∃v,(∃L,Sl Wv.c v L/\L.map Wv.w=(x14u P F).map (cycC P F))/\_)->_) (x15c (T:=fun v=>∃L,Sl Wv.c v L/\L.map Wv.w=(x14u P F).map (cycC P F)) (by simp[hs.still1,hp.still1,hf.still]) ?_ m)
 rw[xlw]
 unfold x9g xbf x78
 generalize hm1:(⟨[],1⟩:Mem).new (0,0,2) (.row [s,p] 0 false)=m1
 have g3:m1.get (0,0,2)=some (.row [s,p] 0 false):=by rw[<-hm1];simp
 simp only[mem0,x1a3,x1a0,List.all_cons,List.all_nil,hs.one,hp.one,Bool.and_self,Bool.and_true,x14t,hm1]
 refine x142 (N:=P.length) (fun n k t5 m fc=>x2o (x13e (d+3)) [] 0 n f (.ptr (0,0,2) 0 0) t5 (I k) m fc)
  (fun k t5 m=>m.get (0,0,2)=some (.row [s,p] 0 false)/\∃L,Gr 1 Wv.c 0 24 m t5 L/\L.map Wv.w=(x14l F ((freshM P.length).take k)).map (cycC P F)) _ ?_ ?_ NN 0 nilS _ _ (by omega) (by rw[x13p];omega) ⟨g3,[],Gr.nil,by simp[x14l]⟩
 .rintro n k t5 m fc hk ⟨hg,L,hG,hL⟩ next
  have hk':(k:Int)<(P.length:Int):=by omega
  have hc:=fun m=>w_Has (d+2) (x:=(k:Int)) hf (by omega) m
  rw[<-x18c hk,x1bc]at next
  simp only[x2o]
  unfold x77 x76 x5l
  simp(disch:=omega) [hg,hp.len x14n,hk',hc]
  cases hh2:F.any fun y=>decide (y=(k:Int))with
  |true=>
   have e:x14l F [(k:Int)]=[]:=by simp[x14l,hh2]
   rw[e,List.append_nil]at next
   simp
   exact next t5 m _ ⟨hg,L,hG,hL⟩
  |false=>
   have e:x14l F [(k:Int)]=[(k:Int)]:=by simp[x14l,hh2]
   rw[e]at next
   have hLl:L.length=(x14l F ((freshM P.length).take k)).length:=by simpa using congrArg List.length hL
   have hpl:(x14l F ((freshM P.length).take k)).length<P.length:=by
    have:=List.length_filter_le (fun i=>!(F.any fun y=>decide (y=i))) ((freshM P.length).take k)
    rw[List.length_take]at this
    unfold x14l
    omega
   obtain⟨v,hv,hvc⟩:=x1ij d hs hp hf hR hT (i:=(k:Int)) (by omega) (by omega) m
   have he:∀M:Mem,elems M.get 1 (.slit [v] 1 true)=some (Wv.c ⟨v,_,hv⟩,1):=fun M=>by simp[elems,Wv.c]
   obtain⟨a',m2,k1,k2,k3,k4⟩:=hG.app (s0:=fc+5+10) (bytes:=24) Wv.len (by omega) (by unfold x13o;omega) ⟨v,_,hv⟩
   simp[hg,hvc,z_walks,x1f7 hv.cells hv.one hv.clean1,he,k1]
   exact next a' m2 _ ⟨by rw[k4 _ (by simp)];exact hg,L++[⟨v,_,hv⟩],k2,by simp[hL]⟩
 .rintro n t5 m fc ⟨hg,L,hG,hL⟩
  rw[List.take_of_length_le (by simp[freshM])]at hL
  simp only[x2o]
  unfold x77 x10
  simp[hg,hp.len x14n]
  obtain⟨a',f1,f2⟩:=hG.frz Wv.len Wv.still
  exact RetF.mk f2 ⟨L,f1,hL⟩
theorem pr_steps(p q:Sp):x13h Tryz.prog (Op.equalIn 10000 x1k (.agg [.int .i64 p.p,.int .i64 p.s].toArray) (.agg [.int .i64 q.p,.int .i64 q.s].toArray))=some (decide (p.p=q.p)&&decide (p.s=q.s)):=by
 refine(eq_ints (offs:=[0,1]) (ga:=fun o=>[p.p,p.s].getD o 0) (gb:=fun o=>[q.p,q.s].getD o 0) (by kernel_rfl) (by kernel_rfl) (by kernel_rfl) fun o ho=>⟨x1b1 _ _ o ho,x1b1 _ _ o ho⟩).trans ?_
 simp[List.getD]
 by_cases h0:p.p=q.p<;>by_cases h1:p.s=q.s<;>simp[h0,h1]
theorem x1ik(x y:Operand)(p:Sp):sBin Tryz.prog .neq x1k x y (.agg p.c) (.agg p.c)=some (B false):=by
 have:sBin Tryz.prog .neq x1k x y (.agg p.c) (.agg p.c)=some (B (!(decide (p.p=p.p)&&decide (p.s=p.s)))):=x1i5 (xs:=[.int .i64 p.p,.int .i64 p.s]) (ys:=[.int .i64 p.p,.int .i64 p.s]) (by kernel_rfl) (pr_steps p p) ⟨p.c,rfl⟩ _ _ rfl rfl
 simpa using this
theorem x1il(d:Nat){a b:AV}{l:List Sp}(ha:Sl Sp.c a l)(hb:Sl Sp.c b l)(hl:l.length<1000000)(m:Mem):x13f (x13e (d+1)) x4f [a,b] m=some (B true,m):=by
 refine x14g (by simp[ha.still,hb.still]) ?_ m
 rw[xlu]
 unfold x9e xbd x73
 simp[ha.len x155,hb.len x155,mem0]
 refine x142 (N:=l.length) (σ:=Unit) (fun n k _ m fc=>x2l (x13e d) [] 0 n a b (I k) m fc) (fun k _ m=>True) _ ?_ ?_ NN 0 () _ _ (by omega) (by rw[x13p];omega) trivial
 .rintro n k-m fc hk-next
  have hk':(k:Int)<(l.length:Int):=by omega
  have ix:=ha.ix Sp.len hk
  have ix2:=hb.ix Sp.len hk
  have ld:=x14s (m:=m) Sp.len (by omega) hk
  simp only[x2l]
  unfold x72
  simp only[ha.len x155,x13n,x14b,hk',decide_true,x14c,ix,ix2,ld,x1ik,x17f]
  simp(disch:=omega) [x13j]
  exact next () m _ trivial
 .rintro n-m fc -
  simp only[x2l]
  unfold x72
  simp[ha.len x155,x2k]
  exact RetF.st rfl rfl
theorem ld_walk{m:Mem}{L:List Wv}{k:Nat}(hk:k<L.length):sLd false 1 (.plit ((L.drop k).flatMap Wv.c)) m=some L[k].v:=by
 rw[x14f hk,List.flatMap_cons]
 rfl
theorem cyc_len{n:Nat}{P:List Pq}{F:List Int}(hP:∀p∈P,PqIn n p)(hT:Tree n P F){L:List Wv}(h:L.map Wv.w=(x14u P F).map (cycC P F)):L.length<=P.length/\∀x∈L,∃i:Int,0<=i/\i<P.length/\i∉F/\x.w=cycC P F i/\x.w.length<=n+1:=by
 have hl:L.length=(x14u P F).length:=by simpa using congrArg List.length h
 have hr:(x14u P F).length<=P.length:=by
  have:=List.length_filter_le (fun i=>!(F.any fun y=>decide (y=i))) (freshM P.length)
  unfold x14u x14l
  simpa[freshM]using this
 refine⟨by omega,fun x hx=>?_⟩
 have hm:x.w∈(x14u P F).map (cycC P F):=by rw[<-h];exact List.mem_map_of_mem hx
 obtain⟨i,hi,e⟩:=List.mem_map.mp hm
 unfold x14u x14l at hi
 rw[List.mem_filter]at hi
 obtain⟨hi1,hi2⟩:=hi
 have hi3:=fresh_mem.mp hi1
 refine⟨i,hi3.1,hi3.2,fun hF=>?_,e.symm,?_⟩
 .rw[Bool.not_eq_true',List.any_eq_false]at hi2
  have:=hi2 i hF
  simp at this
 .rw[<-e]
  have:=(x19c hP hT hi3.1 hi3.2).2.2.2
  simp only[cycC,List.length_cons]
  omega
def bubM(lt:Int->Int->Bool):Nat->List Int->List Int
 |0,L=>L
 |j+1,L=>if lt (at0 L (j+1)) (at0 L j)=true then bubM lt j ((L.set (j+1) (at0 L j)).set j (at0 L (j+1)))else L
theorem bub_len(lt:Int->Int->Bool):∀(j:Nat) (L:List Int),(bubM lt j L).length=L.length
 |0,_=>rfl
 |j+1,L=>by
  rw[bubM]
  split
  .rw[bub_len lt j];simp
  .rfl
theorem bub_ok{R:Int->Int->Prop}(ht:∀{a b c},R a b->R b c->R a c){lt:Int->Int->Bool}{x:Int}:∀(A B:List Int),A.Pairwise R->(∀v∈A,(lt x v=true->R x v)/\(lt x v=false->R v x)) ->
 ∃C,bubM lt A.length (A++x::B)=C++B/\C.Pairwise R/\C.Perm (A++[x]):=by
 intro A
 generalize hn:A.length=n
 induction n generalizing A with
 |zero=>
  intro B _ _
  have:=List.length_eq_zero_iff.mp hn
  subst this
  exact⟨[x],rfl,by simp,List.Perm.refl _⟩
 |succ n ih=>
  intro B hA hx
  obtain⟨A',y,rfl⟩:∃A' y,A=A'++[y]:=by
   have hne:A≠[]:=by rintro rfl;simp at hn
   exact⟨A.dropLast,A.getLast hne,(List.dropLast_concat_getLast hne).symm⟩
  have hn':A'.length=n:=by simpa using hn
  have e0:A'++[y]++x::B=A'++y::x::B:=by simp
  have g1:at0 (A'++y::x::B) (n+1)=x:=by
   rw[x13s (by simp;omega),List.getElem_append_right (by omega)]
   simp[hn']
  have g0:at0 (A'++y::x::B) n=y:=by
   rw[x13s (by simp;omega),List.getElem_append_right (by omega)]
   simp[hn']
  have hs:((A'++y::x::B).set (n+1) y).set n x=A'++x::y::B:=by
   rw[List.set_append_right _ _ (by omega),List.set_append_right _ _ (by omega)]
   simp[hn']
  rw[List.pairwise_append]at hA
  obtain⟨c1,c2⟩:=hx y (by simp)
  rw[e0,bubM,g1,g0,hs]
  by_cases c:lt x y=true
  .rw[if_pos c]
   obtain⟨C,h1,h2,h3⟩:=ih A' hn' (y::B) hA.1 fun v hv=>hx v (by simp[hv])
   refine⟨C++[y],by rw[h1];simp,?_,?_⟩
   .rw[List.pairwise_append]
    refine⟨h2,by simp,fun a ha b hb=>?_⟩
    simp at hb
    subst hb
    rcases List.mem_append.mp (h3.mem_iff.mp ha)with ha|ha
    .exact hA.2.2 a ha b (by simp)
    .simp at ha;subst ha;exact c1 c
   .refine(h3.append_right [y]).trans ?_
    rw[List.append_assoc,List.append_assoc]
    exact List.Perm.append_left A' (List.Perm.swap y x [])
  .rw[if_neg c]
   have c':lt x y=false:=by simpa using c
   refine⟨A'++[y]++[x],by simp,?_,List.Perm.refl _⟩
   rw[List.pairwise_append]
   refine⟨List.pairwise_append.mpr hA,by simp,fun a ha b hb=>?_⟩
   simp at hb
   subst hb
   rcases List.mem_append.mp ha with ha|ha
   .exact ht (hA.2.2 a ha y (by simp)) (c2 c')
   .simp at ha;subst ha;exact c2 c'
def isoM(lt:Int->Int->Bool)(k:Nat)(L:List Int):List Int:=(List.range' 1 k).foldl (fun L i=>bubM lt i L) L
theorem x1aa(lt:Int->Int->Bool)(k:Nat)(L:List Int):isoM lt (k+1) L=bubM lt (k+1) (isoM lt k L):=by
 unfold isoM
 rw[List.range'_concat,List.foldl_append]
 simp[Nat.add_comm]
theorem iso_len(lt:Int->Int->Bool)(k:Nat)(L:List Int):(isoM lt k L).length=L.length:=by
 induction k with
 |zero=>rfl
 |succ k ih=>rw[x1aa,bub_len,ih]
theorem iso_ok{R:Int->Int->Prop}(ht:∀{a b c},R a b->R b c->R a c){lt:Int->Int->Bool}{L:List Int}(h:∀(i:Nat) (hi:i<L.length),∀v∈L.take i,(lt L[i] v=true->R L[i] v)/\(lt L[i] v=false->R v L[i])) :
 ∀k,k<L.length->∃C,isoM lt k L=C++L.drop (k+1)/\C.Pairwise R/\C.Perm (L.take (k+1)):=by
 intro k
 induction k with
 |zero=>
  intro hk
  refine⟨L.take 1,?_,?_,List.Perm.refl _⟩
  .exact(List.take_append_drop 1 L).symm
  .cases L with
   |nil=>simp
   |cons a l=>simp
 |succ k ih=>
  intro hk
  obtain⟨C,h1,h2,h3⟩:=ih (by omega)
  have hlen:C.length=k+1:=by rw[h3.length_eq];simp;omega
  rw[x1aa,h1,x14f hk]
  obtain⟨D,d1,d2,d3⟩:=bub_ok (R:=R) ht (lt:=lt) (x:=L[k+1]) C (L.drop (k+1+1)) h2 fun v hv=>h (k+1) hk v (h3.mem_iff.mp hv)
  rw[hlen]at d1
  refine⟨D,d1,d2,d3.trans ?_⟩
  rw[List.take_succ_eq_append_getElem hk]
  exact h3.append_right _
theorem iso_all{R:Int->Int->Prop}(ht:∀{a b c},R a b->R b c->R a c){lt:Int->Int->Bool}{L:List Int}(h:∀(i:Nat) (hi:i<L.length),∀v∈L.take i,(lt L[i] v=true->R L[i] v)/\(lt L[i] v=false->R v L[i])) :
 (isoM lt (L.length-1) L).Pairwise R/\(isoM lt (L.length-1) L).Perm L:=by
 by_cases h0:L.length=0
 .have:=List.length_eq_zero_iff.mp h0
  subst this
  exact⟨List.Pairwise.nil,List.Perm.refl _⟩
 .obtain⟨C,h1,h2,h3⟩:=iso_ok (R:=R) (lt:=lt) (L:=L) ht h (L.length-1) (by omega)
  have e:L.length-1+1=L.length:=by omega
  rw[e,List.drop_of_length_le (Nat.le_refl _),List.append_nil]at h1
  rw[e,List.take_of_length_le (Nat.le_refl _)]at h3
  rw[h1]
  exact⟨h2,h3⟩
theorem x1ge{N i:Nat}(h:i<(freshM N).length):(freshM N)[i]=i:=by simp[freshM]
theorem iso_ord(f:Int->Int)(N:Nat):isoM (fun x y=>decide (f x<f y)) ((freshM N).length-1) (freshM N)=ordM f N:=by
 obtain⟨h1,h2⟩:=iso_all (R:=lx f) x1fz (lt:=fun x y=>decide (f x<f y)) (L:=freshM N) fun i hi v hv=>by
  rw[x1ge hi]
  obtain⟨j,hj,rfl⟩:=List.mem_iff_getElem.mp hv
  rw[List.getElem_take,x1ge]
  simp at hj
  constructor
  .intro h;simp at h;exact .inl h
  .intro h;simp at h;unfold lx;omega
 exact Ordd.one ⟨h1,fun x=>by rw[h2.mem_iff,fresh_mem]⟩ (x174 f N)
theorem iso_asc{L:List Int}(hn:L.Nodup):Asc (isoM (fun x y=>decide (x<y)) (L.length-1) L)/\∀x,x∈isoM (fun x y=>decide (x<y)) (L.length-1) L↔x∈L:=by
 obtain⟨h1,h2⟩:=iso_all (R:=fun a b:Int=>a<b) (fun h k=>by omega) (lt:=fun x y=>decide (x<y)) (L:=L) fun i hi v hv=>by
  have hne:v≠L[i]:=by
   rintro rfl
   obtain⟨j,hj,e⟩:=List.mem_iff_getElem.mp hv
   rw[List.getElem_take]at e
   simp at hj
   have:=List.pairwise_iff_getElem.mp hn j i (by omega) hi (by omega)
   exact this e
  constructor
  .intro h;simpa using h
  .intro h;simp at h;omega
 exact⟨h1,fun x=>h2.mem_iff⟩
def x169(ok:Id->Prop)(m m':Mem):Prop:=∀j:Id,¬ok j->m'.get j=m.get j
def Cmps(call:x13d)(f:AV)(b:Id)(o:Ob)(n:Nat)(c:Int->Int->Int):Prop:=∀(hs:FHs) (x y:Int) (m:Mem),0<=x->x<n->0<=y->y<n->m.get b=some o->∃n',m.next<=n'/\x15a call hs 2 f [I x,I y] m=some (I (c x y),⟨m.hp,n'⟩)
def InN(n:Nat)(L:List Int):Prop:=∀x∈L,0<=x/\x<n
theorem InN.get{n:Nat}{L:List Int}(h:InN n L){k:Nat}(hk:k<L.length):0<=at0 L k/\at0 L k<n:=by rw[x13s hk];exact h _ (List.getElem_mem hk)
theorem InN.set{n:Nat}{L:List Int}(h:InN n L){k:Nat}{x:Int}(hx:0<=x/\x<n):InN n (L.set k x):=fun y hy=>by
 rcases List.mem_or_eq_of_mem_set hy with hy|rfl
 .exact h y hy
 .exact hx
theorem l_bubF(call:x13d)(hs:FHs)(u:Nat){a f:AV}{b:Id}{o:Ob}{n:Nat}{c:Int->Int->Int}(hf:Cmps call f b o n c){ok:Id->Prop}(hb:¬ok b)(rec0:AV->AV->AV->AV->AV->Mem->Nat->O2)(e8:Int)(t2:AV)(Q:O2->Prop){m0:Mem}{LL:Nat}(hLL:LL<=1000)(h8:0<=e8/\e8<=1000)(F:List Int)(hQ:∀m fc,Gk 1 intE ok m a F->(∀j,¬ok j->m.get j=m0.get j)->m0.next<=m.next->Q (rec0 a (I 0) t2 f (I (e8+1)) m fc)) :
 ∀(j k:Nat) (L:List Int) (m:Mem) (fc:Nat),L.length=LL->j<L.length->j<k->InN n L->bubM (fun x y=>decide (c x y<0)) j L=F->Gk 1 intE ok m a L->(∀i,¬ok i->m.get i=m0.get i)->m0.next<=m.next->m0.get b=some o ->
 Q (x3c call hs u rec0 k a (I 0) t2 f (I e8) (I j) m fc):=by
 intro j
 induction j with
 |zero=>
  intro k L m fc hL hj hk hn hB hG hm hn0 hbm
  obtain⟨k,rfl⟩:∃i,k=i+1:=⟨k-1,by omega⟩
  simp only[x3c]
  unfold x8q xp
  simp(disch:=omega) [x13j]
  rw[bubM]at hB
  subst hB
  exact hQ m _ hG hm hn0
 |succ j ih=>
  intro k L m fc hL hj hk hn hB hG hm hn0 hbm
  obtain⟨k,rfl⟩:∃i,k=i+1:=⟨k-1,by omega⟩
  obtain⟨q1,i1,l1,-⟩:=hG.at (k:=((j+1:Nat):Int)) (by omega) (by omega)
  obtain⟨q0,i0,l0,-⟩:=hG.at (k:=(j:Int)) (by omega) (by omega)
  rw[Int.toNat_natCast]at l1 l0
  have hx1:=hn.get (k:=j+1) (by omega)
  have hx0:=hn.get (k:=j) (by omega)
  obtain⟨n',hn',hc⟩:=hf hs (at0 L (j+1)) (at0 L j) m hx1.1 hx1.2 hx0.1 hx0.2 (by rw[hm b hb];exact hbm)
  have hj1:((j+1:Nat):Int)-1=(j:Int):=by omega
  have hjp:(0:Int)<((j+1:Nat):Int):=by omega
  have hw:w64 (((j+1:Nat):Int)-1)=(j:Int):=by rw[x13j (by omega) (by omega),hj1]
  have hG':Gk 1 intE ok (⟨m.hp,n'⟩:Mem) a L:=hG.frame fun id _=>rfl
  obtain⟨p1,j1,r1,-⟩:=hG'.at (k:=((j+1:Nat):Int)) (by omega) (by omega)
  obtain⟨p0,j0,r0,-⟩:=hG'.at (k:=(j:Int)) (by omega) (by omega)
  rw[Int.toNat_natCast]at r1 r0
  obtain⟨p2,j2,-,st2⟩:=hG'.at (k:=((j+1:Nat):Int)) (by omega) (by omega)
  obtain⟨m2,e1,e2,e3,e4⟩:=st2 (at0 L j)
  rw[Int.toNat_natCast]at e2
  obtain⟨p3,j3,-,st3⟩:=e2.at (k:=(j:Int)) (by omega) (by simp;omega)
  obtain⟨m3,f1,f2,f3,f4⟩:=st3 (at0 L (j+1))
  rw[Int.toNat_natCast]at f2
  obtain rfl:p1=q1:=by rw[j1]at i1;cases i1;rfl
  obtain rfl:p0=q0:=by rw[j0]at i0;cases i0;rfl
  obtain rfl:p2=p1:=by rw[j2]at i1;cases i1;rfl
  obtain rfl:p3=p0:=by rw[j3]at i0;cases i0;rfl
  rw[bubM]at hB
  simp only[x3c]
  unfold x8q
  simp only[x191,hjp,decide_true,x14t,sW_t,x13n,i1,l1,x190]
  rw[x13j (by omega) (by omega),hj1]
  simp only[x191,hjp,decide_true,x14t,sW_t,x13n,i0,l0,hc,x14b,sPick_B,i0,r0,i1,r1,x190]
  by_cases ct:c (at0 L (j+1)) (at0 L j)<0
  .rw[if_pos (by simpa using ct)]at hB
   simp only[ct,decide_true,x14c,x13n,i0,i1,e1,f1,x190,hw]
   exact ih k _ m3 _ (by simpa using hL) (by simp;omega) (by omega) ((hn.set hx0).set hx1) hB f2 (fun i hi=>by rw[f4 i hi,e4 i hi];exact hm i hi) (by rw[f3,e3];show m0.next<=n';omega) hbm
  .rw[if_neg (by simpa using ct)]at hB
   subst hB
   simp only[ct,decide_false,x17f]
   unfold xp
   simp(disch:=omega) [x13j]
   exact hQ _ _ hG' (fun i hi=>by rw[<-hm i hi];rfl) (by show m0.next<=n';omega)
theorem bub_in{n:Nat}{lt:Int->Int->Bool}:∀(j:Nat) (L:List Int),j<L.length->InN n L->InN n (bubM lt j L)
 |0,_,_,h=>h
 |j+1,L,hj,h=>by
  rw[bubM]
  split
  .exact bub_in j _ (by simp;omega) ((h.set (h.get (by omega))).set (h.get (by omega)))
  .exact h
theorem c_insertF(d:Nat)(hs:FHs){a f:AV}{b:Id}{o:Ob}{n:Nat}{c:Int->Int->Int}(hf:Cmps (x13e d) f b o n c){ok:Id->Prop}(hb:¬ok b){L:List Int}{m:Mem}(hL:L.length<=1000)(hn:InN n L)(hG:Gk 1 intE ok m a L)(hbm:m.get b=some o) :
 ∃m',x13e (d+1) hs x3y [a,I 0,I L.length,f] m=some (.tup [],m')/\Gk 1 intE ok m' a (isoM (fun x y=>decide (c x y<0)) (L.length-1) L)/\m.next<=m'.next/\x169 ok m m':=by
 rw[xn3]
 unfold xam xct
 simp(disch:=omega) [x13j]
 have hone:isoM (fun x y=>decide (c x y<0)) 0 L=L:=rfl
 by_cases h0:L.length=0
 .obtain⟨NM,hNM⟩:∃NM,NN=NM+1:=⟨NN-1,by have:=x13p;omega⟩
  rw[hNM]
  simp only[x1a]
  unfold x60
  have:¬((1:Int)<(L.length:Int)):=by omega
  simp[h0]
  exact⟨hG.frame fun _ _=>rfl,fun j _=>rfl⟩
 .refine x142 (N:=L.length-1) (σ:=Unit) (fun j k _ m' fc=>x1a (x13e d) hs m.next j a (I 0) (I L.length) f (I ((k+1:Nat):Int)) m' fc)
   (fun k _ m'=>Gk 1 intE ok m' a (isoM (fun x y=>decide (c x y<0)) k L)/\InN n (isoM (fun x y=>decide (c x y<0)) k L)/\m.next<=m'.next/\x169 ok m m')
   (fun r=>∃m',r=some (.tup [],m')/\Gk 1 intE ok m' a (isoM (fun x y=>decide (c x y<0)) (L.length-1) L)/\m.next<=m'.next/\x169 ok m m') ?_ ?_ NN 0 () _ _ (by omega) (by rw[x13p];omega) ⟨hG.frame fun _ _=>rfl,hn,by show m.next<=m.next+1;omega,fun j _=>rfl⟩
  .rintro j k-m1 fc hk ⟨h1,h2,h3,h4⟩ next
   have hk':(((k+1:Nat):Int))<(L.length:Int):=by omega
   simp only[x1a]
   unfold x60 x5z
   simp only[x14b,hk',decide_true,x14c,x13n]
   have hil:=iso_len (fun x y=>decide (c x y<0)) k L
   refine l_bubF (x13e d) hs m.next hf hb (x1a (x13e d) hs m.next j) ((k+1:Nat):Int) (I L.length) (fun r=>∃m',r=some (.tup [],m')/\Gk 1 intE ok m' a (isoM (fun x y=>decide (c x y<0)) (L.length-1) L)/\m.next<=m'.next/\x169 ok m m') (m0:=m1) (LL:=L.length) hL (by omega) (isoM (fun x y=>decide (c x y<0)) (k+1) L) (fun m2 fc2 g1 g2 g3=>?_) (k+1) NN (isoM (fun x y=>decide (c x y<0)) k L) m1 _ hil (by omega) (by rw[x13p];omega) h2 (x1aa _ k L).symm h1 (fun _ _=>rfl) (Nat.le_refl _) (by rw[h4 b hb];exact hbm)
   exact next () m2 fc2 ⟨g1,by rw[x1aa];exact bub_in _ _ (by omega) h2,by omega,fun j hj=>by rw[g2 j hj,h4 j hj]⟩
  .rintro j-m1 fc ⟨h1,h2,h3,h4⟩
   have hk':¬(((L.length-1+1:Nat):Int))<(L.length:Int):=by omega
   simp only[x1a]
   unfold x60
   simp only[x14b,hk',decide_false,x17f,x13n]
   exact⟨m1,rfl,h1,h3,h4⟩
theorem x1im(d:Nat)(hs:FHs){a f:AV}{b:Id}{o:Ob}{n:Nat}{c:Int->Int->Int}(hf:Cmps (x13e d) f b o n c){ok:Id->Prop}(hb:¬ok b){L:List Int}{m:Mem}(hL:L.length<20)(hn:InN n L)(hG:Gk 1 intE ok m a L)(hbm:m.get b=some o) :
 ∃m',x13e (d+3) hs x4u [a,f] m=some (.tup [],m')/\Gk 1 intE ok m' a (isoM (fun x y=>decide (c x y<0)) (L.length-1) L)/\m.next<=m'.next/\x169 ok m m':=by
 rw[xms]
 unfold xab xcc
 simp[hG.len x13w]
 rw[xn0]
 unfold xaj xco
 obtain⟨NM,hNM⟩:∃NM,NN=NM+1:=⟨NN-1,by have:=x13p;omega⟩
 rw[hNM]
 simp only[x44]
 have h20:¬(20:Int)<=(L.length:Int):=by omega
 have h20':¬(20:Int)<(L.length:Int):=by omega
 obtain⟨m',e1,e2,e3,e4⟩:=c_insertF d hs hf hb (m:=⟨m.hp,m.next+1+1⟩) (by omega) hn (hG.frame fun _ _=>rfl) (by rw[<-hbm];rfl)
 unfold xcn x43
 simp[h20,e1]
 obtain⟨NM,hNM⟩:∃NM,NN=NM+1:=⟨NN-1,by have:=x13p;omega⟩
 rw[hNM]
 simp only[x56]
 unfold xcm
 simp[h20']
 exact⟨e2,by have:m.next+1+1<=m'.next:=e3;omega,fun j hj=>by rw[e4 j hj];rfl⟩
theorem w_Less(d:Nat)(x y:Int)(m:Mem):x13f (x13e (d+2)) x3z [I x,I y] m=some (B (decide (x<y)),m):=by
 have h1:∀(x:Int) (m:Mem),x13f (x13e (d+1)) x40 [I x] m=some (B false,m):=fun x m=>by
  refine x14g rfl ?_ m
  rw[xn7]
  unfold xaq xcx
  simp[mem0]
  exact RetF.st rfl rfl
 refine x14g rfl ?_ m
 rw[xn5]
 unfold xao xcv
 simp[mem0,h1]
 exact RetF.st rfl rfl
theorem l_bubO(d:Nat)(hs:FHs)(u:Nat){a:AV}{ok:Id->Prop}(rec0:AV->AV->AV->AV->Mem->Nat->O2)(e8:Int)(t2:AV)(Q:O2->Prop){m0:Mem}{LL:Nat}(hLL:LL<=1000)(h8:0<=e8/\e8<=1000)(F:List Int)(hQ:∀m fc,Gk 1 intE ok m a F->(∀j,¬ok j->m.get j=m0.get j)->m.next=m0.next->Q (rec0 a (I 0) t2 (I (e8+1)) m fc)) :
 ∀(j k:Nat) (L:List Int) (m:Mem) (fc:Nat),L.length=LL->j<L.length->j<k->bubM (fun x y=>decide (x<y)) j L=F->Gk 1 intE ok m a L->(∀i,¬ok i->m.get i=m0.get i)->m.next=m0.next ->
 Q (x3d (x13e (d+2)) hs u rec0 k a (I 0) t2 (I e8) (I j) m fc):=by
 intro j
 induction j with
 |zero=>
  intro k L m fc hL hj hk hB hG hm hn0
  obtain⟨k,rfl⟩:∃i,k=i+1:=⟨k-1,by omega⟩
  simp only[x3d]
  unfold x8r xq
  simp(disch:=omega) [x13j]
  rw[bubM]at hB
  subst hB
  exact hQ m _ hG hm hn0
 |succ j ih=>
  intro k L m fc hL hj hk hB hG hm hn0
  obtain⟨k,rfl⟩:∃i,k=i+1:=⟨k-1,by omega⟩
  obtain⟨q1,i1,l1,st2⟩:=hG.at (k:=((j+1:Nat):Int)) (by omega) (by omega)
  obtain⟨q0,i0,l0,-⟩:=hG.at (k:=(j:Int)) (by omega) (by omega)
  rw[Int.toNat_natCast]at l1 l0
  have hj1:((j+1:Nat):Int)-1=(j:Int):=by omega
  have hjp:(0:Int)<((j+1:Nat):Int):=by omega
  have hw:w64 (((j+1:Nat):Int)-1)=(j:Int):=by rw[x13j (by omega) (by omega),hj1]
  obtain⟨m2,e1,e2,e3,e4⟩:=st2 (at0 L j)
  rw[Int.toNat_natCast]at e2
  obtain⟨p3,j3,-,st3⟩:=e2.at (k:=(j:Int)) (by omega) (by simp;omega)
  obtain⟨m3,f1,f2,f3,f4⟩:=st3 (at0 L (j+1))
  rw[Int.toNat_natCast]at f2
  obtain rfl:p3=q0:=by rw[j3]at i0;cases i0;rfl
  rw[bubM]at hB
  simp only[x3d]
  unfold x8r
  simp only[x191,hjp,decide_true,x14t,sW_t,x13n,i1,l1,x190]
  rw[x13j (by omega) (by omega),hj1]
  simp only[x191,hjp,decide_true,x14t,sW_t,x13n,i0,l0,w_Less d,x14b,sPick_B,i1,l1,x190]
  by_cases ct:at0 L (j+1)<at0 L j
  .rw[if_pos (by simpa using ct)]at hB
   simp only[ct,decide_true,x14c,x13n,i0,i1,e1,f1,x190,hw]
   exact ih k _ m3 _ (by simpa using hL) (by simp;omega) (by omega) hB f2 (fun i hi=>by rw[f4 i hi,e4 i hi];exact hm i hi) (by rw[f3,e3];exact hn0)
  .rw[if_neg (by simpa using ct)]at hB
   subst hB
   simp only[ct,decide_false,x17f]
   unfold xq
   simp(disch:=omega) [x13j]
   exact hQ _ _ hG hm hn0
theorem c_insertO(d:Nat)(hs:FHs){a:AV}{ok:Id->Prop}{L:List Int}{m:Mem}(hL:L.length<=1000)(hG:Gk 1 intE ok m a L) :
 ∃m',x13e (d+3) hs x4z [a,I 0,I L.length] m=some (.tup [],m')/\Gk 1 intE ok m' a (isoM (fun x y=>decide (x<y)) (L.length-1) L)/\m'.next=m.next+1/\x169 ok m m':=by
 rw[xn4]
 unfold xan xcu
 simp(disch:=omega) [x13j]
 by_cases h0:L.length=0
 .obtain⟨NM,hNM⟩:∃NM,NN=NM+1:=⟨NN-1,by have:=x13p;omega⟩
  rw[hNM]
  simp only[x1b]
  unfold x62
  simp[h0]
  exact⟨hG.frame fun _ _=>rfl,fun j _=>rfl⟩
 .refine x142 (N:=L.length-1) (σ:=Unit) (fun j k _ m' fc=>x1b (x13e (d+2)) hs m.next j a (I 0) (I L.length) (I ((k+1:Nat):Int)) m' fc)
   (fun k _ m'=>Gk 1 intE ok m' a (isoM (fun x y=>decide (x<y)) k L)/\m'.next=m.next+1/\x169 ok m m')
   (fun r=>∃m',r=some (.tup [],m')/\Gk 1 intE ok m' a (isoM (fun x y=>decide (x<y)) (L.length-1) L)/\m'.next=m.next+1/\x169 ok m m') ?_ ?_ NN 0 () _ _ (by omega) (by rw[x13p];omega) ⟨hG.frame fun _ _=>rfl,rfl,fun j _=>rfl⟩
  .rintro j k-m1 fc hk ⟨h1,h3,h4⟩ next
   have hk':(((k+1:Nat):Int))<(L.length:Int):=by omega
   simp only[x1b]
   unfold x62 x61
   simp only[x14b,hk',decide_true,x14c,x13n]
   have hil:=iso_len (fun x y=>decide (x<y)) k L
   refine l_bubO d hs m.next (x1b (x13e (d+2)) hs m.next j) ((k+1:Nat):Int) (I L.length) (fun r=>∃m',r=some (.tup [],m')/\Gk 1 intE ok m' a (isoM (fun x y=>decide (x<y)) (L.length-1) L)/\m'.next=m.next+1/\x169 ok m m') (m0:=m1) (LL:=L.length) hL (by omega) (isoM (fun x y=>decide (x<y)) (k+1) L) (fun m2 fc2 g1 g2 g3=>?_) (k+1) NN (isoM (fun x y=>decide (x<y)) k L) m1 _ hil (by omega) (by rw[x13p];omega) (x1aa _ k L).symm h1 (fun _ _=>rfl) rfl
   exact next () m2 fc2 ⟨g1,by omega,fun j hj=>by rw[g2 j hj,h4 j hj]⟩
  .rintro j-m1 fc ⟨h1,h3,h4⟩
   have hk':¬(((L.length-1+1:Nat):Int))<(L.length:Int):=by omega
   simp only[x1b]
   unfold x62
   simp only[x14b,hk',decide_false,x17f,x13n]
   exact⟨m1,rfl,h1,h3,h4⟩
theorem cvt_small:∀n:Nat,n<=12->sCvt Tryz.prog x13x xcf (I n)=some (.sc (.int .u64 n))
 |0,_=>by kernel_rfl
 |1,_=>by kernel_rfl
 |2,_=>by kernel_rfl
 |3,_=>by kernel_rfl
 |4,_=>by kernel_rfl
 |5,_=>by kernel_rfl
 |6,_=>by kernel_rfl
 |7,_=>by kernel_rfl
 |8,_=>by kernel_rfl
 |9,_=>by kernel_rfl
 |10,_=>by kernel_rfl
 |11,_=>by kernel_rfl
 |12,_=>by kernel_rfl
 |n+13,h=>by omega
theorem a_Len64(call:x13d):∀n:Nat,n<=12->∃v:Int,xap call [] [.sc (.int .u64 n)] mem0=some (I v,⟨[],1⟩)
 |0,_=>⟨0,by kernel_rfl⟩
 |1,_=>⟨1,by kernel_rfl⟩
 |2,_=>⟨2,by kernel_rfl⟩
 |3,_=>⟨2,by kernel_rfl⟩
 |4,_=>⟨3,by kernel_rfl⟩
 |5,_=>⟨3,by kernel_rfl⟩
 |6,_=>⟨3,by kernel_rfl⟩
 |7,_=>⟨3,by kernel_rfl⟩
 |8,_=>⟨4,by kernel_rfl⟩
 |9,_=>⟨4,by kernel_rfl⟩
 |10,_=>⟨4,by kernel_rfl⟩
 |11,_=>⟨4,by kernel_rfl⟩
 |12,_=>⟨4,by kernel_rfl⟩
 |n+13,h=>by omega
theorem w_bitsLen(d:Nat){n:Nat}(hn:n<=12)(m:Mem):∃v:Int,x13f (x13e (d+2)) x4y [.sc (.int .u64 n)] m=some (I v,m):=by
 obtain⟨v,hv⟩:=a_Len64 (x13e d) n hn
 have h64:∀m,x13f (x13e (d+1)) x50 [.sc (.int .u64 n)] m=some (I v,m):=fun m=>by
  refine x14g rfl ?_ m
  rw[xn6,hv]
  exact RetF.st rfl rfl
 refine⟨v,x14g rfl ?_ m⟩
 rw[xn2]
 unfold xal xcs
 simp[mem0,h64]
 exact RetF.st rfl rfl
theorem c_Sort(d:Nat)(hs:FHs){a:AV}{ok:Id->Prop}{L:List Int}{m:Mem}(hL:L.length<=12)(hG:Gk 1 intE ok m a L) :
 ∃m',x13e (d+5) hs x4v [a] m=some (.tup [],m')/\Gk 1 intE ok m' a (isoM (fun x y=>decide (x<y)) (L.length-1) L)/\m.next<=m'.next/\x169 ok m m':=by
 rw[xmu]
 unfold xad xce
 obtain⟨v,hv⟩:=w_bitsLen (d+2) hL (⟨m.hp,m.next+1⟩:Mem)
 simp only[hG.len x13w,x13n,cvt_small _ hL,hv]
 rw[xn1]
 unfold xak xcr
 obtain⟨NM,hNM⟩:∃NM,NN=NM+1:=⟨NN-1,by have:=x13p;omega⟩
 rw[hNM]
 simp only[x57]
 unfold x8p
 obtain⟨m',e1,e2,e3,e4⟩:=c_insertO d hs (L:=L) (m:=⟨m.hp,m.next+1+1⟩) (by omega) (hG.frame fun _ _=>rfl)
 have h12:(L.length:Int)<=12:=by omega
 simp[e1]
 rw[x13j (by omega) (by omega)]
 simp[h12]
 exact⟨e2,by have:m'.next=m.next+1+1+1:=e3;omega,fun j hj=>by rw[e4 j hj];rfl⟩
def fW(l:List Scene)(P:List Pq)(i:Int):Int:=lenP l (prAt P i)
theorem x1in(d:Nat){s p:AV}{l:List Scene}{P:List Pq}(hs:Sl Scene.c s l)(hp:Sl Pq.c p P)(hR:Right7 l P)(id:Id)(hid:id.1=0):Cmps (x13e (d+3)) (.clo x3w [.ptr id 0 0]) id (.row [s,p] 0 false) P.length (fun x y=>fW l P x-fW l P y):=by
 intro hh x y m x0 x1 y0 y1 hg
 refine⟨m.next+1,by omega,?_⟩
 show x13e (d+3) hh x3w [I x,I y,.ptr id 0 0] m=_
 have hx:=hR.at (i:=x) ⟨x0,x1⟩
 have hy:=hR.at (i:=y) ⟨y0,y1⟩
 have i1:=x1b7 hR.ib hx
 have i2:=x1b7 hR.ib hy
 rw[xmt]
 unfold xac xcd
 have hg':(⟨m.hp,m.next+1⟩:Mem).get id=some (.row [s,p] 0 false):=hg
 obtain⟨i,j,k⟩:=id
 simp at hid
 subst hid
 have hb:Nat.ble 1 (m.next+1)=true:=by rw[Nat.ble_eq];omega
 unfold fW
 simp[hb,hg',x1ft d hs hp hR.ib ⟨x0,x1⟩ hx,x1ft d hs hp hR.ib ⟨y0,y1⟩ hy,hs.clean1,hp.clean1,cAp,tR,Nat.blt]
 rw[x13j (by omega) (by omega)]
theorem ord_rng{f:Int->Int}{N:Nat}:InN N (ordM f N):=fun x hx=>((x174 f N).2 x).mp hx
theorem x1ab(f:Int->Int)(N:Nat):(ordM f N).length=N:=by
 have:=x1g0 (x174 f N).nodup (x1d3 N).nodup fun x=>((x174 f N).2 x).trans fresh_mem.symm
 rw[this];simp[freshM]
theorem ord_Rng{l:List Scene}{P:List Pq}(hR:Right7 l P)(f:Int->Int)(k:Nat):Rng l.length P ((ordM f P.length).take k):=fun i hi=>by
 have:=ord_rng _ (List.mem_of_mem_take hi)
 exact⟨this,hR.at this⟩
theorem x1io(d:Nat){s p:AV}{l:List Scene}{P:List Pq}(hs:Sl Scene.c s l)(hp:Sl Pq.c p P)(hR:Right7 l P)(hl:l.length<=8)(hP:P.length<=14) :
 RetF (fun v=>Ints v (x143 (fW l P) l.length P)) (x13e (d+7) [] x3q [.agg [s,p]] mem0):=by
 rw[xmd]
 unfold x9x xbw x7v
 simp[mem0,hs.one,hp.one,hp.len x14n]
 refine x142 (N:=P.length) (fun n k a m fc=>x2x (x13e (d+6)) [] 0 n (.ptr (0,0,1) 0 0) a nilS (I P.length) (I k) m fc)
  (fun k a m=>m.get (0,0,1)=some (.row [s,p] 0 false)/\Gk 1 intE (okZ 19) m a ((freshM P.length).take k)/\m.next=1) _ ?_ ?_ NN 0 nilS _ _ (by omega) (by rw[x13p];omega) ⟨by simp,by simpa using Gk.nil,rfl⟩
 .rintro n k a m fc hk ⟨hg,hG,hn⟩ next
  have hk':(k:Int)<(P.length:Int):=by omega
  have hlt:((freshM P.length).take k).length=k:=by simp[freshM];omega
  obtain⟨a2,m2,e1,e2,-,-,e3,e4⟩:=hG.app (bytes:=8) (id0:=(0,fc+6,19)) x14m (by omega) ⟨rfl,rfl⟩ (by unfold x13o;omega) (k:Int)
  simp only[x2x]
  unfold x7u
  simp(disch:=omega) [hk',x17h,x13j]
  rw[show elems m.get 1 (.slit [I (k:Int)] 1 true)=some (intE (k:Int),1)from rfl,e1]
  exact next a2 m2 _ ⟨by rw[e4 _ (by unfold okZ;simp)];exact hg,by rw[<-x18c hk];exact e2,by omega⟩
 .rintro n a m fc ⟨hg,hG,hn⟩
  have hk:¬((P.length:Int)<(P.length:Int)):=by omega
  rw[List.take_of_length_le (by simp[freshM])]at hG
  have hfl:(freshM P.length).length=P.length:=by simp[freshM]
  obtain⟨m1,c1,c2,c3,c4⟩:=x1im (d+3) [] (x1in d hs hp hR (0,0,1) rfl) (ok:=okZ 19) (by unfold okZ;simp) (by omega) (fun x hx=>fresh_mem.mp hx) hG hg
  rw[show(fun x y=>decide (fW l P x-fW l P y<0))=fun x y=>decide (fW l P x<fW l P y)from by funext x y;exact decide_eq_decide.mpr (by omega),iso_ord]at c2
  have hg1:m1.get (0,0,1)=some (.row [s,p] 0 false):=by rw[c4 _ (by unfold okZ;simp)];exact hg
  obtain⟨ua,M,hc,hU,hM,hfr⟩:=x1id (d+5) (n:=l.length) (by omega) m1
  simp only[x2x]
  unfold x7u x2w
  simp[c1,hg1,hs.len x14p,hc]
  have hgM:M.get (0,0,1)=some (.row [s,p] 0 false):=by rw[hfr _ (by show 0<m1.next;omega)];exact hg1
  have hGM:Gk 1 intE (okZ 19) M a (ordM (fW l P) P.length):=c2.frame fun j hj=>hfr j (by obtain⟨h1,h2⟩:=hj;omega)
  have hol:=x1ab (fW l P) P.length
  unfold x7t
  simp only[hGM.len x13w,x13n]
  generalize hN1:m1.next=N1 at *
  have hN0:1<=N1:=by omega
  refine x142 (N:=(ordM (fW l P) P.length).length) (fun n k o m fc=>x2v (x13e (d+6)) [] 0 n (.ptr (0,0,1) 0 0) o ua a (I (ordM (fW l P) P.length).length) (I k) m fc)
   (fun k o m=>(m.get (0,0,1)=some (.row [s,p] 0 false)/\N1<m.next)/\Gk 1 intE (okZ 19) m a (ordM (fW l P) P.length)/\Gk 1 intE (fun id=>id.1=N1) m ua (uniM l.length P ((ordM (fW l P) P.length).take k)) /\
    Gk 1 intE (okZ 46) m o (takeM P (freshM l.length) ((ordM (fW l P) P.length).take k))) _ ?_ ?_ NN 0 nilS _ _ (by omega) (by rw[x13p];omega) ⟨⟨hgM,by omega⟩,hGM,by simpa[uniM,prs,joinsM]using hU,by simpa[takeM]using Gk.nil⟩
  .rintro n k o m fc hk ⟨⟨hg,hmn⟩,hO,hU,hT⟩ next
   have hk':(k:Int)<((ordM (fW l P) P.length).length:Int):=by omega
   obtain⟨q,i1,l1,-⟩:=hO.at (k:=(k:Int)) (by omega) hk'
   rw[Int.toNat_natCast]at l1
   have hx:=ord_rng.get hk
   have hRk:=ord_Rng hR (fW l P) k
   have hL:=(x1cz hRk).len
   have hq:=hR.at hx
   have ip:=hp.ixz Pq.len hx.1 hx.2
   have lp:=fun m=>x14s (m:=m) (enc:=Pq.c) Pq.len (by omega) (show(at0 (ordM (fW l P) P.length) k).toNat<P.length by omega)
   rw[<-x18d (by omega)]at lp
   have hus:=x1fu (n:=l.length) (P:=P) hk
   have hts:takeM P (freshM l.length) ((ordM (fW l P) P.length).take (k+1))=takeM P (freshM l.length) ((ordM (fW l P) P.length).take k)++(if at0 (uniM l.length P ((ordM (fW l P) P.length).take k)) (prAt P (at0 (ordM (fW l P) P.length) k)).a.toNat=at0 (uniM l.length P ((ordM (fW l P) P.length).take k)) (prAt P (at0 (ordM (fW l P) P.length) k)).b.toNat then[]else[at0 (ordM (fW l P) P.length) k]):=by
    rw[List.take_succ_eq_append_getElem hk,x1fx,x13s hk]
    rfl
   have htl:(takeM P (freshM l.length) ((ordM (fW l P) P.length).take k)).length<=14:=by
    have h1:=(x17l (P:=P) ((ordM (fW l P) P.length).take k) (freshM l.length)).length_le
    simp at h1
    omega
   obtain⟨m2,e1,e2,e3,e4⟩:=c_join (d+5) [] hU (fun j hj=>by have hj':j.1=N1:=hj;omega) (p:=prAt P (at0 (ordM (fW l P) P.length) k)) (by rw[hL];exact hq) (by rw[hL];omega)
   have keep:∀j:Id,j.1=0->m2.get j=m.get j:=fun j hj=>e4 j (by show ¬j.1=N1;omega) (by omega)
   simp only[Pq.c]at lp
   simp only[x2v]
   unfold x7s x7r
   have hO2:Gk 1 intE (okZ 19) m2 a (ordM (fW l P) P.length):=hO.frame fun j hj=>keep j hj.1
   have hT2:Gk 1 intE (okZ 46) m2 o (takeM P (freshM l.length) ((ordM (fW l P) P.length).take k)):=hT.frame fun j hj=>keep j hj.1
   have hg2:m2.get (0,0,1)=some (.row [s,p] 0 false):=by rw[keep _ rfl];exact hg
   rw[<-hus]at e2
   simp only[x14b,hk',decide_true,x14c,x13n,i1,l1]
   simp[hg,ip,lp,e1]
   by_cases c3:at0 (uniM l.length P ((ordM (fW l P) P.length).take k)) (prAt P (at0 (ordM (fW l P) P.length) k)).a.toNat=at0 (uniM l.length P ((ordM (fW l P) P.length).take k)) (prAt P (at0 (ordM (fW l P) P.length) k)).b.toNat
   .rw[if_pos c3,List.append_nil]at hts
    simp[c3]
    unfold x54
    simp(disch:=omega) [x13j]
    exact next o m2 _ ⟨⟨hg2,by omega⟩,hO2,e2,by rw[hts];exact hT2⟩
   .rw[if_neg c3]at hts
    obtain⟨o2,m3,a1,a2,-,-,a3,a4⟩:=hT2.app (bytes:=8) (id0:=(0,fc+1+14,46)) x14m (by omega) ⟨rfl,rfl⟩ (by unfold x13o;omega) (at0 (ordM (fW l P) P.length) k)
    simp[c3,x17h]
    rw[show ∀x:Int,elems m2.get 1 (.slit [I x] 1 true)=some (intE x,1)from fun _=>rfl,a1]
    unfold x54
    simp(disch:=omega) [x13j]
    refine next o2 m3 _ ⟨⟨by rw[a4 _ (by unfold okZ;simp)];exact hg2,by omega⟩,hO2.frame fun j hj=>a4 j (by obtain⟨h1,h2⟩:=hj;unfold okZ;omega),e2.frame fun j hj=>a4 j (by have hj':j.1=N1:=hj;unfold okZ;omega),by rw[hts];exact a2⟩
  .rintro n o m fc ⟨⟨hg,hmn⟩,hO,hU,hT⟩
   rw[List.take_of_length_le (Nat.le_refl _)]at hT
   have hTL:takeM P (freshM l.length) (ordM (fW l P) P.length)=x14h (fW l P) l.length P:=rfl
   rw[hTL]at hT
   have hlen:=(x1d5 hR.pr (fW l P)).len hR.pr
   obtain⟨m2,e1,e2,e3,e4⟩:=c_Sort (d+1) [] (by omega) hT
   obtain⟨s1,s2⟩:=iso_asc (x1g7 (n:=l.length) (P:=P) (fW l P))
   have hfin:isoM (fun x y=>decide (x<y)) ((x14h (fW l P) l.length P).length-1) (x14h (fW l P) l.length P)=x143 (fW l P) l.length P:=s1.one (x1d4 _) fun x=>(s2 x).trans light_mem.symm
   rw[hfin]at e2
   simp only[x2v]
   unfold x7s x12
   simp[e1]
   obtain⟨v,h1,h2⟩:=e2.sl1 4
   exact RetF.mk h2 h1
theorem x1ip(d:Nat){s p:AV}{l:List Scene}{P:List Pq}(hs:Sl Scene.c s l)(hp:Sl Pq.c p P)(hR:Right7 l P)(hl:l.length<=8)(hP:P.length<=14)(m:Mem) :
 ∃v,Ints v (x143 (fW l P) l.length P)/\x13f (x13e (d+7)) x3q [.agg [s,p]] m=some (v,m):=
 x15c (by simp[hs.still1,hp.still1]) (x1io d hs hp hR hl hP) m
end Go.Ix
