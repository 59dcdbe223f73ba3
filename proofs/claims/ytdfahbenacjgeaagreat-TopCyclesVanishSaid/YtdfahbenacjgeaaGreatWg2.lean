import Derived.Test.YtdfahbenacjgeaaGreatWg1
import Derived.Test.YtdfahbenacjgeaaGreatWg0
import Derived.ProofKit
set_option linter.unusedSimpArgs false
set_option linter.unusedVariables false
set_option maxRecDepth 100000
namespace Go.Proofs.YtdfahbenacjgeaaGreat
open Go.ChangeShapes Go.WideShapes Go.ChangeAt Go.RowKit Go.Ix
theorem forests_in{a:AV}(h:ArgSh Tryz.prog xla a):∃x y z F G W,a=.agg [x,y,z]/\Ints x F/\Ints y G/\Sl Sp.c z W:=by
 obtain⟨fs,h1,h2⟩:=xzz (t:=xla) (l:=[(x4,0),(x4,1),(xg,2)]) (by kernel_rfl)
 obtain⟨q,rfl,hq⟩:=h.struct h1
 obtain⟨hl,hff⟩:=Sh.struct_inv h1 hq
 have hc:Tryz.prog.cellsOf xla=3:=by kernel_rfl
 have hc2:Tryz.prog.cellsOf x4=1:=by kernel_rfl
 have hc3:Tryz.prog.cellsOf xg=1:=by kernel_rfl
 rw[hc]at hl
 match q,hl with
 |[x,y,z],_=>
  have:∀p∈fs.toList.map (λf=>(f.type,f.offset)),Sh Tryz.prog p.1 (([x,y,z].drop p.2).take (Tryz.prog.cellsOf p.1)):=λp hp=>by
   obtain⟨f,hf,rfl⟩:=x1gs.mp hp
   exact hff f hf
  rw[h2]at this
  have a0:=this (x4,0) (by simp)
  have a1:=this (x4,1) (by simp)
  have a2:=this (xg,2) (by simp)
  simp only[hc2,hc3,x1g8,x1js,x1hw,x1gr]at a0 a1 a2
  obtain⟨F,hF⟩:=x128 a0
  obtain⟨G,hG⟩:=x128 a1
  obtain⟨W,hW⟩:=steps_sh a2
  exact⟨x,y,z,F,G,W,rfl,hF,hG,hW⟩
end Go.Proofs.YtdfahbenacjgeaaGreat
namespace Go.Ix
open Go.Proofs
theorem x129{p q:Int}{id:Id}{m:Mem}{R:Type}{k:AV->Mem->Option R}:xtc [I 0,I 0] [(0,2,.agg [I p,I q])] 1 2 id m k=k (.slit [I p,I q] 1 true) m:=by
 simp[xtc,xtj,xtq,x1jb,clean1,AV.one,Value.oneCell']
theorem InB.get{l:List Scene}(h:InB l){k:Nat}(hk:k<l.length):(0<=l[k].day/\l[k].day<=100000)/\(-100000<=l[k].bl/\l[k].bl<=100000):=h _ (x1go hk)
theorem callR{T:AV->Prop}{call:xsj}{f:FuncId}{l l':List AV}{m:Mem}(hl:l.mapM (Go.Ix.frz m.get deep)=some l')(h:RetF T (call [] f l' mem0)) :
 ∃a m2,T a/\xsl call f l m=some (a,m2)/\m2.next=m.next/\∀i cs v b,m.get i=some (.row cs v b)->∃b',m2.get i=some (.row cs v b'):=by
 obtain⟨a,m',a',h1,h2,h3⟩:=h
 obtain⟨m2,h4,h5,h6⟩:=x17o hl h1 h2
 exact⟨a',m2,h3,h4,h5,h6⟩
def xz3(l:List Scene):Bool:=l.all λs=>decide (s.nm.size<=20)
theorem Scene.stillA(s:Scene):s.c.all still1=true:=rfl
def Pq.v(p:Pq):Value:=.agg [.int .i64 p.a,.int .i64 p.b].toArray
def mpP(E:List (Pq×AV)):List (Value×AV):=E.map λx=>(x.1.v,x.2)
def lkP:List (Pq×AV)->Pq->Option AV
 |[],_=>none
 |x::r,p=>if p.same x.1=true then some x.2 else lkP r p
theorem x12a(p q:Pq):xuk p.v q.v=p.same q:=by
 unfold xuk Pq.v Pq.same
 simp[xym]
 by_cases h:p.a=q.a<;>by_cases h2:p.b=q.b<;>simp[h,h2]
theorem find_mpP(E:List (Pq×AV))(p:Pq):findKey p.v (mpP E)=lkP E p:=by
 induction E with
 |nil=>rfl
 |cons x r ih=>
  unfold mpP at ih ⊢
  simp only[x1gt,findKey,lkP,x12a]
  rw[ih]
theorem set_mpP(E:List (Pq×AV))(p:Pq)(v:AV)(h:lkP E p=none):setKey p.v v (mpP E)=mpP (E++[(p,v)]):=by
 induction E with
 |nil=>rfl
 |cons x r ih=>
  simp only[lkP]at h
  unfold mpP at ih ⊢
  simp only[x1gt,x1i0,setKey,x12a]
  by_cases c:p.same x.1=true
  .rw[x1g7 c]at h;cases h
  .rw[x1g6 c]at h
   rw[x1g6 c,ih h]
theorem chk_t(p:Pq):(xsx Tryz.prog (Instr.checkKey true 10000 x7 p.v)).isSome=true:=by kernel_rfl
theorem chk_f(p:Pq):(xsx Tryz.prog (Instr.checkKey false 10000 x7 p.v)).isSome=true:=by kernel_rfl
theorem equal_pq(p q:Pq):xsx Tryz.prog (Op.equal x7 p.v q.v)=some (p.same q):=x17s p q
theorem x17w{d:TypeDesc}(hd:Tryz.prog.underlying x7=some d)(E:List (Pq×AV))(p:Pq):xwu Tryz.prog x7 d p.v (mpP E)=true:=by
 obtain⟨fs,hf⟩:∃fs,d=.struct fs:=by
  have:((Tryz.prog.underlying x7).bind λd=>match d with | .struct fs=>some ()|_=>none)=some ():=by kernel_rfl
  rw[hd]at this
  cases d<;>first|exact⟨_,rfl⟩|cases this
 subst hf
 have h1:x12y Tryz.prog x7 (.struct fs) p.v (mpP E)=true:=by
  show(xuk p.v p.v&&((xsx Tryz.prog (Instr.checkKey true 10000 x7 p.v)).isSome&&(xsx Tryz.prog (Instr.checkKey false 10000 x7 p.v)).isSome) &&
   (mpP E).all λe=>match e.1,xsx Tryz.prog (Op.equal x7 p.v e.1)with
    | .agg _,some b=>b == xuk p.v e.1
    |_,_=>false)=true
  rw[chk_t,chk_f,x12a,Pq.same_self]
  simp only[x1hp,x1hq,x1gj]
  intro e he
  unfold mpP at he
  obtain⟨x,-,rfl⟩:=x1gs.mp he
  rw[equal_pq,x12a]
  show(p.same x.1 == p.same x.1)=true
  simp
 unfold xwu
 rw[h1,Bool.or_true]
theorem x17x(p:Pq):xtk (.agg p.c)=some p.v:=rfl
theorem um_pq:∃d,Tryz.prog.underlying x7=some d:=by
 obtain⟨d,h⟩:∃d,(Tryz.prog.underlying x7).isSome=d:=⟨_,rfl⟩
 have:(Tryz.prog.underlying x7).isSome=true:=by kernel_rfl
 exact x1l2.mp this
theorem look_pq{t et:TypeId}{z:AV}(ht:Tryz.prog.underlying t=some (.map x7 et))(hz:xyn Tryz.prog et=some z)(id:Id)(E:List (Pq×AV))(p:Pq)(ok:Bool)(m:Mem)(h:m.get id=some (.map (mpP E))) :
 xvl Tryz.prog t (.mp id) (.agg p.c) ok m=some (if ok then .tup [(lkP E p).getD z,B (lkP E p).isSome]else(lkP E p).getD z):=by
 obtain⟨d,hd⟩:=um_pq
 unfold xvl
 simp only[ht,x17x,hd,hz,xxb,h]
 rw[x1g7 (x17w hd E p),find_mpP]
theorem up_pq{R:Type}{t et:TypeId}(ht:Tryz.prog.underlying t=some (.map x7 et))(id:Id)(E:List (Pq×AV))(p:Pq)(v:AV)(m:Mem)(k:Mem->Option R)(h:m.get id=some (.map (mpP E)))(hn:lkP E p=none) :
 xx0 Tryz.prog t (.mp id) (.agg p.c) v m k=k (m.set id (.map (mpP (E++[(p,v)])))):=by
 obtain⟨d,hd⟩:=um_pq
 unfold xx0
 simp only[ht,x17x,hd,h]
 rw[x1g7 (x17w hd E p),set_mpP E p v hn]
theorem lkP_app(E:List (Pq×AV))(p q:Pq)(v:AV)(h:lkP E p=none):lkP (E++[(p,v)]) q=if q.same p=true then some v else lkP E q:=by
 induction E with
 |nil=>simp[lkP]
 |cons x r ih=>
  simp only[lkP,x1i0]at h ⊢
  by_cases c:p.same x.1=true
  .rw[x1g7 c]at h;cases h
  .rw[x1g6 c]at h
   rw[ih h]
   by_cases e:q.same x.1=true
   .rw[x1g7 e,x1g6,x1g7 e]
    intro e2
    rw[Pq.same_iff]at e e2 c
    exact c (by rw[<-e2,e])
   .rw[x1g6 e,x1g6 e]
def xx5(n:Int)(P:List Pq):Nat->List Pq->Int×Int
 |_,[]=>(0,0)
 |k,p::r=>
  bif !(wi p.a 0 (n-1))||!(wi p.b 0 (n-1))then((k:Int),6)
  else bif decide (p.b<=p.a)then((k:Int),9)
  else bif(P.take k).any (λq=>q.same p)then((k:Int),28)
  else xx5 n P (k+1) r
def net7(l:List Scene)(P:List Pq):Int×Int:=bif !decide ((xv2 l).2=0)then xv2 l else bif decide (200<P.length)then(0,8)else xx5 l.length P 0 P
theorem zv_bool:xyn Tryz.prog x7l=some (B false):=by kernel_rfl
theorem um_pb:Tryz.prog.underlying xiq=some (.map x7 x7l):=by kernel_rfl
theorem x17y{P:List Pq}{k:Nat}(hk:k<P.length)(q:Pq):(P.take (k+1)).any (λx=>x.same q)=((P.take k).any (λx=>x.same q)||P[k].same q):=by
 rw[x1gz hk,List.any_append]
 simp
theorem same_symm{p q:Pq}:p.same q=q.same p:=by
 rw[x1lf,Pq.same_iff,Pq.same_iff]
 exact eq_comm
def Seen(P:List Pq)(k:Nat)(E:List (Pq×AV)):Prop:=∀q,lkP E q=bif(P.take k).any (λx=>x.same q)then some (B true)else none
theorem x1bw(d s24:Nat){s p:AV}{l:List Scene}{P:List Pq}(hs:Sl Scene.c s l)(hp:Sl Pq.c p P)(hl:l.length<=60)(hP:P.length<=200){T:Int×Int} :
 ∀(n k:Nat) (x:Unit) (m:Mem) (fc:Nat),k<=P.length->P.length<n+k->(m.get (0,0,1)=some (.row [s,p] 0 false)/\(∃E,m.get (0,s24,24)=some (.map (mpP E))/\Seen P k E)/\xx5 l.length P k (P.drop k)=T) ->
 RetF (λv=>v=.tup [I T.1,I T.2]) (x3g (xsi (d+2)) [] 0 n (.ptr (0,0,1) 0 0) (.mp (0,s24,24)) p (I P.length) (I k) m fc):=by
 refine xtd (λn k _ m fc=>x3g (xsi (d+2)) [] 0 n (.ptr (0,0,1) 0 0) (.mp (0,s24,24)) p (I P.length) (I k) m fc)
  (λk _ m=>m.get (0,0,1)=some (.row [s,p] 0 false)/\(∃E,m.get (0,s24,24)=some (.map (mpP E))/\Seen P k E)/\xx5 l.length P k (P.drop k)=T) _ ?_ ?_
 .rintro n k-m fc hk ⟨hg,⟨E,hE,hS⟩,hT⟩ next
  have hk':(k:Int)<(P.length:Int):=by omega
  have ix:=hp.ix Pq.len hk
  have ld:=xtz (m:=m) Pq.len (by omega) hk
  rw[xtm hk]at hT
  have hta:=x17y hk
  generalize P[k]=e at ld hT hta
  simp only[x3g]
  unfold xad
  simp only[xta,hk',x1gm,xt9,xsn,ix,ld,xvs,xv3,xtp,Mem.get_new,x1gp,xvw]
  simp(disch:=omega) [Pq.c]
  generalize hm1:Mem.set _ _ _=m1
  have h1:m1.get (0,0,1)=some (.row [s,p] 0 false):=by rw[<-hm1];simp[hg]
  have h8:m1.get (0,fc+4,8)=some (.row [I e.a,I e.b] 0 false):=by rw[<-hm1];simp
  have h24:m1.get (0,s24,24)=some (.map (mpP E)):=by rw[<-hm1];simp[hE]
  have hlk:=look_pq um_pb zv_bool (0,s24,24) E e false m1 h24
  have hse:=hS e
  simp[hg,hs.len xtt]
  rw[xso (by omega) (by omega)]
  simp[xy9]
  simp only[xx5]at hT
  cases c1:wi e.a 0 ((l.length:Int)-1)with
  |false=>
   simp[c1]at hT ⊢
   exact RetF.tup rfl (by rw[<-hT])
  |true=>
   simp[h8,xy9]
   cases c2:wi e.b 0 ((l.length:Int)-1)with
   |false=>
    simp[c1,c2]at hT ⊢
    exact RetF.tup rfl (by rw[<-hT])
   |true=>
    simp[c1,c2]at hT
    simp[h8]
    by_cases c3:e.b<=e.a
    .simp[c3]at hT ⊢
     exact RetF.tup rfl (by rw[<-hT])
    .simp[c3]at hT
     simp[c3,h8]
     rw[show AV.agg [I e.a,I e.b]=.agg e.c from rfl,hlk,hse]
     cases c4:(P.take k).any λx=>x.same e with
     |true=>
      simp[c4]at hT ⊢
      exact RetF.tup rfl (by rw[<-hT])
     |false=>
      rw[c4]at hT hse
      simp[h8]
      rw[up_pq um_pb (0,s24,24) E e (B true) m1 _ h24 hse]
      refine next () _ _ ⟨by simp[h1],⟨E++[(e,B true)],by simp,λq=>?_⟩,hT⟩
      rw[lkP_app E e q _ hse,hta q,hS q,same_symm (p:=e)]
      cases q.same e<;>cases(P.take k).any λx=>x.same q<;>rfl
 .rintro n-m fc ⟨hg,-,hT⟩
  have hk:¬((P.length:Int)<(P.length:Int)):=by omega
  simp only[x3g]
  unfold xad xip
  rw[x1h5 (x1ga _)]at hT
  simp[hk]
  exact RetF.tup rfl (by rw[<-hT];rfl)
theorem x1bx(d:Nat){s p:AV}{l:List Scene}{P:List Pq}(hs:Sl Scene.c s l)(hp:Sl Pq.c p P)(m:Mem):xsl (xsi (d+5)) x4f [.agg [s,p]] m=some (.tup [I (net7 l P).1,I (net7 l P).2],m):=by
 refine xua (by simp[hs.still1,hp.still1]) ?_ m
 rw[xnf]
 unfold xex xae net7
 simp[hs.one,hp.one,mem0,x1bo d hs]
 by_cases he:(xv2 l).2=0
 .obtain⟨hl,-⟩:=x14a he
  simp[he,hp.len xu7]
  by_cases h200:200<P.length
  .have h2:(200:Int)<(P.length:Int):=by omega
   simp[h200,h2]
   exact RetF.tup rfl rfl
  .have h2:¬(200:Int)<(P.length:Int):=by omega
   simp[h200,h2,xyz]
   unfold xir
   simp[hp.len xu7]
   exact x1bw (d+2) 17 hs hp hl (by omega) NN 0 () _ _ (by omega) (by rw[xsu];omega) ⟨by simp,⟨[],by simp;rfl,λq=>by simp[lkP]⟩,by simp⟩
 .simp[he]
  exact RetF.tup rfl rfl
theorem x111(d:Nat){s p:AV}{l:List Scene}{P:List Pq}(hs:Sl Scene.c s l)(hp:Sl Pq.c p P)(m:Mem):xsl (xsi (d+6)) x12 [.agg [s,p]] m=some (I (net7 l P).2,m):=by
 refine xua (by simp[hs.still1,hp.still1]) ?_ m
 rw[xml]
 unfold xe4 x8t
 simp[hs.one,hp.one,mem0,x1bx d hs hp]
 exact RetF.st rfl rfl
theorem x1by(d:Nat){s p:AV}{P:List Pq}(hp:Sl Pq.c p P)(hP:P.length<=200){i:Nat}(hi:i<P.length){e:Pq}(s7:Nat)(rec0:AV->AV->Mem->Nat->O2)(Q:O2->Prop){m:Mem}(hg:m.get (0,0,1)=some (.row [s,p] 0 false))(h7:m.get (0,s7,7)=some (.row [I e.a,I e.b] 0 false))(ht:(P.take i).any (λx=>x.same e)=true->Q (some (.tup [I i,I 28],m)))(hf:(P.take i).any (λx=>x.same e)=false->∀fc,Q (rec0 (.ptr (0,0,1) 0 0) (I ((i:Int)+1)) m fc)) :
 ∀(n k:Nat) (x:Unit) (m':Mem) (fc:Nat),k<=i->i<n+k->(m'=m/\(P.take k).any (λx=>x.same e)=false) ->
 Q (x3j (xsi (d+1)) [] 0 rec0 n (.ptr (0,0,1) 0 0) (I i) (.ptr (0,s7,7) 0 0) (I k) m' fc):=by
 refine xtd (λn k _ m fc=>x3j (xsi (d+1)) [] 0 rec0 n (.ptr (0,0,1) 0 0) (I i) (.ptr (0,s7,7) 0 0) (I k) m fc) (λk _ m'=>m'=m/\(P.take k).any (λx=>x.same e)=false) Q ?_ ?_
 .rintro n k-m' fc hk ⟨rfl,hA⟩ next
  have hk':(k:Int)<(i:Int):=by omega
  have hk2:k<P.length:=by omega
  have ix:=hp.ix Pq.len hk2
  have ld:=xtz (m:=m') Pq.len (by omega) hk2
  have hta:=x17y hk2 e
  have hts:P[k].same e=true->(P.take i).any (λx=>x.same e)=true:=λh=>by
   rw[x1k6]
   exact⟨P[k],by rw[List.mem_take_iff_getElem];exact⟨k,by omega,rfl⟩,h⟩
  generalize P[k]=y at ld hta hts
  have heq:=eq_pair7 (.tmp 69) (.tmp 70) y e
  simp only[x3j]
  unfold xat
  simp[hk',hg,ix,ld,h7]
  rw[show AV.agg [I e.a,I e.b]=.agg e.c from rfl,heq]
  cases c:y.same e with
  |true=>
   simp
   exact ht (hts c)
  |false=>
   simp(disch:=omega) [xso]
   exact next () _ _ ⟨rfl,by rw[hta,hA,c];rfl⟩
 .rintro n-m' fc ⟨rfl,hA⟩
  simp only[x3j]
  unfold xat xj5
  simp(disch:=omega) [xso]
  exact hf hA _
theorem x1bz(d:Nat){s p:AV}{l:List Scene}{P:List Pq}(hs:Sl Scene.c s l)(hp:Sl Pq.c p P)(hl:l.length<=60)(hP:P.length<=200){T:Int×Int} :
 ∀(n k:Nat) (x:Unit) (m:Mem) (fc:Nat),k<=P.length->P.length<n+k->(m.get (0,0,1)=some (.row [s,p] 0 false)/\xx5 l.length P k (P.drop k)=T) ->
 RetF (λv=>v=.tup [I T.1,I T.2]) (x1s (xsi (d+1)) [] 0 n (.ptr (0,0,1) 0 0) (I k) m fc):=by
 refine xtd (λn k _ m fc=>x1s (xsi (d+1)) [] 0 n (.ptr (0,0,1) 0 0) (I k) m fc)
  (λk _ m=>m.get (0,0,1)=some (.row [s,p] 0 false)/\xx5 l.length P k (P.drop k)=T) _ ?_ ?_
 .rintro n k-m fc hk ⟨hg,hT⟩ next
  have hk':(k:Int)<(P.length:Int):=by omega
  have ix:=hp.ix Pq.len hk
  have ld:=xtz (m:=m) Pq.len (by omega) hk
  rw[xtm hk]at hT
  generalize P[k]=e at ld hT
  simp only[x1s]
  unfold xau xj6
  simp[hg,hp.len xu7,hs.len xtt,hk',ix,ld,xv3,Pq.c]
  rw[xso (by omega) (by omega)]
  simp[xy5]
  generalize hm1:Mem.set _ _ _=m1
  have h1:m1.get (0,0,1)=some (.row [s,p] 0 false):=by rw[<-hm1];simp[hg]
  have h7:m1.get (0,fc+5+5,7)=some (.row [I e.a,I e.b] 0 false):=by rw[<-hm1];simp
  simp only[xx5]at hT
  cases c1:wi e.a 0 ((l.length:Int)-1)with
  |false=>
   simp[c1]at hT ⊢
   exact RetF.tup rfl (by rw[<-hT])
  |true=>
   simp[h7,h1,hs.len xtt]
   rw[xso (by omega) (by omega)]
   simp[xy5]
   cases c2:wi e.b 0 ((l.length:Int)-1)with
   |false=>
    simp[c1,c2]at hT ⊢
    exact RetF.tup rfl (by rw[<-hT])
   |true=>
    simp[c1,c2]at hT
    simp[h7]
    by_cases c3:e.b<=e.a
    .simp[c3]at hT ⊢
     exact RetF.tup rfl (by rw[<-hT])
    .simp[c3]at hT
     simp[c3]
     refine x1by d (s:=s) hp hP hk (fc+5+5) (x1s (xsi (d+1)) [] 0 n) _ h1 h7 (λha=>?_) (λha fc=>?_) NN 0 () m1 _ (by omega) (by rw[xsu];omega) ⟨rfl,by simp⟩
     .simp[ha]at hT
      exact RetF.tup rfl (by rw[<-hT])
     .rw[ha]at hT
      exact next () m1 fc ⟨h1,hT⟩
 .rintro n-m fc ⟨hg,hT⟩
  have hk:¬((P.length:Int)<(P.length:Int)):=by omega
  simp only[x1s]
  unfold xau xj4
  rw[x1h5 (x1ga _)]at hT
  simp[hk,hg,hp.len xu7]
  exact RetF.tup rfl (by rw[<-hT];rfl)
theorem x1c0(d:Nat){s p:AV}{l:List Scene}{P:List Pq}(hs:Sl Scene.c s l)(hp:Sl Pq.c p P)(m:Mem):xsl (xsi (d+3)) x4h [.agg [s,p]] m=some (.tup [I (net7 l P).1,I (net7 l P).2],m):=by
 refine xua (by simp[hs.still1,hp.still1]) ?_ m
 rw[xnp]
 unfold xf5 xav net7
 simp[hs.one,hp.one,mem0,x1br d hs]
 by_cases he:(xv2 l).2=0
 .obtain⟨hl,-⟩:=x14a he
  simp[he,hp.len xu7]
  by_cases h200:200<P.length
  .have h2:(200:Int)<(P.length:Int):=by omega
   simp[h200,h2]
   exact RetF.tup rfl rfl
  .have h2:¬(200:Int)<(P.length:Int):=by omega
   simp[h200,h2]
   unfold xj7
   exact x1bz (d+1) hs hp hl (by omega) NN 0 () _ _ (by omega) (by rw[xsu];omega) ⟨by simp,by simp⟩
 .simp[he]
  exact RetF.tup rfl rfl
theorem w_Err7(d:Nat){s p:AV}{l:List Scene}{P:List Pq}(hs:Sl Scene.c s l)(hp:Sl Pq.c p P)(m:Mem):xsl (xsi (d+4)) x4a [.agg [s,p]] m=some (I (net7 l P).2,m):=by
 refine xua (by simp[hs.still1,hp.still1]) ?_ m
 rw[xn2]
 unfold xek x9p
 simp[hs.one,hp.one,mem0,x1c0 d hs hp]
 exact RetF.st rfl rfl
def few7(l:List Scene)(P:List Pq):Bool:=
 bif(decide (8<l.length)&&decide (l.length<=60))||decide (62<l.length)||(decide (14<P.length)&&decide (P.length<=200))||decide (202<P.length)then false else xz3 l
theorem w_Few7(d:Nat){s p:AV}{l:List Scene}{P:List Pq}(hs:Sl Scene.c s l)(hp:Sl Pq.c p P)(m:Mem):xsl (xsi (d+1)) x4k [.agg [s,p]] m=some (B (few7 l P),m):=by
 refine xua (by simp[hs.still1,hp.still1]) ?_ m
 rw[xnv]
 unfold xfb xb5
 have hb:∀fc,few7 l P=xz3 l->l.length<=62->RetF (λv=>v=B (few7 l P)) (xb4 (xsi d) [] 0 (.ptr (0,0,1) 0 0) (((⟨[],1⟩:Mem).new (0,0,1) (.row [s,p] 0 false))) fc):=λfc he hl=>by
  rw[he]
  unfold xb4
  obtain⟨m0,hm0⟩:∃m0,m0=(⟨[],1⟩:Mem).new (0,0,1) (.row [s,p] 0 false):=⟨_,rfl⟩
  have hg:m0.get (0,0,1)=some (.row [s,p] 0 false):=by rw[hm0];simp
  rw[<-hm0]
  refine xtd (N:=l.length) (σ:=Unit) (λn k _ m fc=>x62 (xsi d) [] 0 n (.ptr (0,0,1) 0 0) (I k) m fc) (λk _ m=>m=m0/\xz3 l=xz3 (l.drop k)) _ ?_ ?_ NN 0 () m0 _ (by omega) (by rw[xsu];omega) ⟨rfl,by simp⟩
  .rintro n k-m fc hk ⟨rfl,hS⟩ next
   have hk':(k:Int)<(l.length:Int):=by omega
   have ix:=hs.ix Scene.len hk
   have f1:=xy8 (enc:=Scene.c) (m:=m) hk 0 rfl
   simp only[x1g8]at f1
   have hS':xz3 l=(decide (l[k].nm.size<=20)&&xz3 (l.drop (k+1))):=by rw[hS,xtm hk];rfl
   simp only[x62]
   unfold xb3
   simp only[hg,hs.len xtt,xtn,xsv,xt1,xsn,xta]
   simp[hs.len xtt,hk',ix,f1]
   by_cases c:(20:Int)<(l[k].nm.size:Int)
   .simp[c]
    exact RetF.st rfl (by rw[hS',x1ib (show ¬l[k].nm.size<=20 by omega)];rfl)
   .simp(disch:=omega) [c,xso]
    refine next () m _ ⟨rfl,?_⟩
    rw[hS',x1h6 (show l[k].nm.size<=20 by omega)];rfl
  .rintro n-m fc ⟨rfl,hS⟩
   have hk:¬((l.length:Int)<(l.length:Int)):=by omega
   simp only[x62]
   unfold xb3 xjc
   rw[x1h5 (x1ga _)]at hS
   simp[hg,hs.len xtt,hk]
   exact RetF.st rfl (by rw[hS];rfl)
 have e1:decide ((8:Int)<(l.length:Int))=decide (8<l.length):=decide_eq_decide.mpr (by omega)
 have e2:decide ((l.length:Int)<=60)=decide (l.length<=60):=decide_eq_decide.mpr (by omega)
 have e3:decide ((62:Int)<(l.length:Int))=decide (62<l.length):=decide_eq_decide.mpr (by omega)
 have e4:decide ((14:Int)<(P.length:Int))=decide (14<P.length):=decide_eq_decide.mpr (by omega)
 have e5:decide ((P.length:Int)<=200)=decide (P.length<=200):=decide_eq_decide.mpr (by omega)
 have e6:decide ((202:Int)<(P.length:Int))=decide (202<P.length):=decide_eq_decide.mpr (by omega)
 simp only[mem0,xxi,x142,x1h4,x1hn,hs.one,hp.one,x1hp,xsr,xtn,xsv,xt1,xsn,Mem.get_new,x1gp,sLe_I,xta,xxh]
 simp only[x1gl,x1g8,x1gr,show Nat.beq 0 0=true from rfl,xsr,rd_f,xsn,hs.len xtt,hp.len xu7,xxh,sLe_I,e1,e2,e3,e4,e5,e6]
 have hfe:few7 l P=bif(decide (8<l.length)&&decide (l.length<=60))||decide (62<l.length)||(decide (14<P.length)&&decide (P.length<=200))||decide (202<P.length)then false else xz3 l:=rfl
 by_cases h62:62<l.length
 .have:¬l.length<=60:=by omega
  have h8:8<l.length:=by omega
  rw[hfe]
  simp[h62,this,h8,e1,e2,e3,hs.len xtt,hp.len xu7,Mem.get_new]
  exact RetF.st rfl rfl
 cases a1:decide (8<l.length)<;>cases a2:decide (l.length<=60)<;>cases a4:decide (14<P.length)<;>cases a5:decide (P.length<=200)<;>cases a6:decide (202<P.length) <;>
  simp only[a1,a2,a4,a5,a6,h62,x1h9,x1if,Bool.and_false,x1hq,Bool.false_and,Bool.or_true,Bool.or_false,x1ie,x1jc,xsr,xzv]at hfe <;>
  simp[a1,a2,a4,a5,a6,h62,e1,e2,e3,e4,e5,e6,hs.len xtt,hp.len xu7,Mem.get_new] <;>
  first
  |exact RetF.st rfl (by rw[hfe])
  |exact hb _ hfe (by omega)
theorem Edge.still(e:Edge):e.c.all still1=true:=rfl
theorem x17z(d:Nat){a:AV}{l:List Int}(h:Ints a l)(hl:l.length<=1000000)(m:Mem):∃a',Ints a' l/\xsl (xsi (d+1)) xo [a] m=some (a',m):=by
 have hr:xt6 l.length 8:=by unfold xt6;omega
 have he:=h.elems xt2
 by_cases h0:l=[]
 .subst h0
  refine⟨.slit [] 0 true,Sl.lit [] true,call0 (m':=⟨[],1⟩) (by simp[h.still]) ?_ rfl⟩
  rw[xg6]
  unfold x6k x54
  have hr0:xt6 0 8:=by unfold xt6;omega
  simp[mem0,he,x10z hr0]
 .have hq:l.length≠0:=by simpa using h0
  have hlen:=xut xt2 l
  refine⟨.slit (l.flatMap intE) l.length false,Sl.lit l false,x124 (m':=(⟨[],1⟩:Mem).new (0,3,5) (.row (l.flatMap intE) 0 false)) (r:=.sref (0,3,5) 0 0 l.length 1 true) (by simp[h.still]) ?_ ?_⟩
  .rw[xg6]
   unfold x6k x54
   simp[mem0,he,x10z hr,hq,h0]
  .have:=xx3 (objs:=((⟨[],1⟩:Mem).new (0,3,5) (.row (l.flatMap intE) 0 false)).get) (id:=(0,3,5)) (cs:=l.flatMap intE) (ver:=0) (off:=0) (n:=l.length) (z:=1) (k:=4) (f:=false) (x:=true) (by simp) (by omega) (by
    rw[x1g8,x1gg (by omega)];exact xwm xvc l)
   rw[x1g8,x1gg (by omega)]at this
   exact this
def fewE:List Edge->Bool
 |[]=>true
 |e::r=>bif decide (20<e.wt)||decide (5<(e.jump.natAbs:Int))then false else fewE r
def few(n:Int)(l:List Edge):Bool:=
 bif !decide ((xv1 n l).2=0)then decide ((l.length:Int)<=16)||(decide (600<(l.length:Int))&&decide ((l.length:Int)<=602))
 else bif decide (10<n)||decide (16<(l.length:Int))then false else fewE l
theorem x14e{α:Type}{enc:α->List AV}{z bytes:Nat}(hz:∀x,(enc x).length=z){a:AV}{l:List α}(h:Sl enc a l)(hr:xt6 l.length bytes)(id:Id)(m:Mem) :
 (l=[]/\∀{R:Type} (k:AV->Mem->Option R),sApp z bytes id (elems m.get z a) (.slit [] 0 true) m k=k (.slit [] 0 true) m) \/
 (l≠[]/\∀{R:Type} (k:AV->Mem->Option R),sApp z bytes id (elems m.get z a) (.slit [] 0 true) m k=k (.sref id 0 0 l.length z true) (m.new id (.row (l.flatMap enc) 0 false))):=by
 have he:=h.elems hz m.get
 by_cases hq:l.length=0
 .refine .inl ⟨x1hv.mp hq,λk=>?_⟩
  rw[he,x10z hr,x1h6 hq]
  rfl
 .refine .inr ⟨λe=>hq (by rw[e];rfl),λk=>?_⟩
  rw[he,x10z hr,x1ib hq]
  rfl
theorem xxm{α:Type}{enc:α->List AV}{z k:Nat}(hz:∀x,(enc x).length=z)(hs:∀x,(enc x).all still1=true){objs:Id->Option Ob}{id:Id}{l:List α}{x:Bool}(hg:objs id=some (.row (l.flatMap enc) 0 false)) :
 frz objs (k+2) (.sref id 0 0 l.length z x)=some (.slit (l.flatMap enc) l.length false):=by
 have hl:=xut hz l
 have:=xx3 (objs:=objs) (id:=id) (cs:=l.flatMap enc) (ver:=0) (off:=0) (n:=l.length) (z:=z) (k:=k) (f:=false) (x:=x) hg (by omega) (by
  rw[x1g8,x1gg (by omega)];exact xwm hs l)
 rw[x1g8,x1gg (by omega)]at this
 exact this
theorem x12b{objs:Id->Option Ob}{a b a' b':AV}{k:Nat}(ha:frz objs (k+1) a=some a')(hb:frz objs (k+1) b=some b'):frz objs (k+2) (.agg [a,b])=some (.agg [a',b']):=by
 show([a,b].mapM (frz objs (k+1))).map AV.agg=_
 simp only[x1gw,x1hd,ha,hb]
 rfl
theorem z_snet:xgh=[nilS,nilS]:=by kernel_rfl
theorem x14f(d:Nat){s p:AV}{l:List Scene}{P:List Pq}(hs:Sl Scene.c s l)(hp:Sl Pq.c p P)(hl:l.length<=1000000)(hP:P.length<=1000000)(m:Mem) :
 ∃s' p',Sl Scene.c s' l/\Sl Pq.c p' P/\xsl (xsi (d+1)) x10 [.agg [s,p]] m=some (.agg [s',p'],m):=by
 have hr:xt6 l.length 32:=by unfold xt6;omega
 have hr2:xt6 P.length 16:=by unfold xt6;omega
 have key:RetF (λv=>∃s' p',v=.agg [s',p']/\Sl Scene.c s' l/\Sl Pq.c p' P) (xsi (d+1) [] x10 [.agg [s,p]] mem0):=by
  rw[xm6]
  unfold xdp x7z
  have a1:=λm=>x14e Scene.len hs hr (0,5,6) m
  have a2:=λm=>x14e Pq.len hp hr2 (0,9,10) m
  have hx:=hs.tX
  have hx2:=hp.tX
  simp[mem0,hs.one,hp.one,z_snet]
  generalize hm1:Mem.new _ _ _=m1
  rcases a1 m1 with ⟨rfl,h1⟩|⟨h0,h1⟩
  .simp only[h1]
   simp[<-hm1]
   rcases a2 m1 with ⟨rfl,h2⟩|⟨h02,h2⟩<;>rw[<-hm1]at h2
   .simp[h2,xsw,xtj,sLdP,tR,tA,hx,hx2,xsm,disj,<-hm1]
    exact RetF.st rfl ⟨_,_,rfl,Sl.lit [] true,Sl.lit [] true⟩
   .simp[h2,xsw,xtj,sLdP,tR,tA,hx,hx2,xsm,disj,<-hm1]
    refine RetF.mk (x12b rfl (xxm (k:=3) Pq.len Pq.still (x:=true) (l:=P) ?_)) ⟨_,_,rfl,Sl.lit [] true,Sl.lit P false⟩
    simp
  .simp only[h1]
   simp[<-hm1]
   generalize hm2:Mem.new (Mem.new _ _ _) (0,5,6) _=m2
   rcases a2 m2 with ⟨rfl,h2⟩|⟨h02,h2⟩
   .simp only[h2]
    simp[xsw,xtj,sLdP,tR,tA,hx,hx2,xsm,disj,<-hm2]
    refine RetF.mk (x12b (xxm (k:=3) Scene.len Scene.stillA (x:=true) (l:=l) ?_) rfl) ⟨_,_,rfl,Sl.lit l false,Sl.lit [] true⟩
    simp
   .simp only[h2]
    simp[xsw,xtj,sLdP,tR,tA,hx,hx2,xsm,disj,<-hm2]
    refine RetF.mk (x12b (xxm (k:=3) Scene.len Scene.stillA (x:=true) (l:=l) ?_) (xxm (k:=3) Pq.len Pq.still (x:=true) (l:=P) ?_)) ⟨_,_,rfl,Sl.lit l false,Sl.lit P false⟩<;>simp
 obtain⟨v,⟨s',p',rfl,h1,h2⟩,hc⟩:=xu6 (by simp[hs.still1,hp.still1]) key m
 exact⟨s',p',h1,h2,hc⟩
end Go.Ix
namespace Go.Ix
variable{R:Type}{m:Mem}
theorem xwa:∀l:List Int,l.flatMap intE=l.map I
 |[]=>rfl
 |x::l=>by rw[x1gy,xwa l];rfl
theorem xvx(l:List Int):(l.flatMap intE).length=l.length:=by rw[xwa];simp
def OwnI(m:Mem)(id:Id)(l:List Int):Prop:=m.get id=some (.row (l.flatMap intE) 0 false)
abbrev srI(id:Id)(n:Nat):AV:=.sref id 0 0 n 1 true
theorem xtu{id:Id}{n:Nat}{k:Int}(h0:0<=k)(hk:k<n):sIx 1 (srI id n) (I k)=some (.ptr id 0 k.toNat):=by
 simp[sIx,asI,h0,hk]
@[simp high] theorem xum{l:List Int}{k:Nat}{fz:Bool}(hk:k<l.length):xxj false 1 0 k (some (.row (l.flatMap intE) 0 fz))=some (I (at0 l k)):=by
  simp only[xxj,x1gd,cond_true,rd,x1h3,x1gu]
  rw[xwa,<-x1jv,xtm hk,xt5 hk]
  rfl
@[simp high] theorem xvf{l:List Int}{k:Nat}{v:Int}(hk:k<l.length):xui 1 0 k (I v) (some (.row (l.flatMap intE) 0 false))=some (.row ((l.set k v).flatMap intE) 0 false):=by
  have h:(0:Nat)=0/\(I v).cells.length=1/\k+1<=(l.flatMap intE).length/\((I v).cells.all AV.one)=true:=⟨rfl,rfl,by rw[xvx];omega,rfl⟩
  rw[xvw,x1h6 h,cond_true]
  simp only[xwa,xth,x121]
  congr 2
  rw[List.map_set,x1kl,x1g7 (by simpa using hk)]
  simp
theorem xue{l:List Int}{k j:Nat}{v:Int}(hk:k<l.length):at0 (l.set k v) j=if j=k then v else at0 l j:=by
 unfold at0
 rw[x1gk,x1gk,x1jd]
 by_cases h:k=j
 .subst h;simp[hk]
 .rw[x1g6 h,x1g6 (λe=>h e.symm)]
theorem zeros_int(n:Nat):xtq [I 0] (n*1)=(List.replicate n (0:Int)).flatMap intE:=by
 rw[xwa,x1i4]
 simp only[xtq,List.map_replicate]
 apply x1j2
 .simp
 .intro i h1 h2
  simp[Nat.mod_one]
theorem x12c(n k:Nat):at0 (List.replicate n 0) k=0:=by
 unfold at0
 rw[x1gk,x1jw]
 split<;>rfl
theorem x112{n:Int}{id:Id}{k:AV->Mem->Option R}(h0:0<=n)(h1:n<=1000000):xty [I 0] 1 8 (I n) (I n) id m k=k (srI id n.toNat) (m.new id (.row ((List.replicate n.toNat (0:Int)).flatMap intE) 0 false)):=by
 simp only[xty,asI]
 rw[x1g7 ⟨h0,x1ho _,by omega,by omega⟩,zeros_int]
theorem frz_own{l:List Int}{id:Id}(h:OwnI m id l):frz m.get deep (srI id l.length)=some (.slit (l.flatMap intE) l.length false):=by
 have hl:=xvx l
 have:=xx3 (objs:=m.get) (id:=id) (cs:=l.flatMap intE) (ver:=0) (off:=0) (n:=l.length) (z:=1) (k:=4) (f:=false) (x:=true) h (by omega) (by
  rw[x1g8,x1gg (by omega)];exact xwm xvc l)
 rw[x1g8,x1gg (by omega)]at this
 exact this
def mn(x y:Int):Int:=if y<x then y else x
def xtx(u:List Int)(p:Pq):List Int:=u.map λx=>if x=at0 u p.a.toNat\/x=at0 u p.b.toNat then mn (at0 u p.a.toNat) (at0 u p.b.toNat)else x
def joinsM(u:List Int)(l:List Pq):List Int:=l.foldl xtx u
def freshM(n:Nat):List Int:=(List.range n).map λ(i:Nat)=>(i:Int)
def PqIn(n:Nat)(p:Pq):Prop:=0<=p.a/\p.a<p.b/\p.b<n
structure Lab (n:Nat) (u:List Int):Prop where
 len:u.length=n
 ok:∀v,v<n->0<=at0 u v/\at0 u v<=v/\at0 u (at0 u v).toNat=at0 u v
theorem x12d(u:List Int)(p:Pq):(xtx u p).length=u.length:=by unfold xtx;simp
theorem xxn{u:List Int}{p:Pq}{v:Nat}(h:v<u.length):at0 (xtx u p) v=if at0 u v=at0 u p.a.toNat\/at0 u v=at0 u p.b.toNat then mn (at0 u p.a.toNat) (at0 u p.b.toNat)else at0 u v:=by
 rw[xt5 (by rw[x12d];exact h),xt5 h]
 unfold xtx
 rw[x1k7]
theorem mn_or(a b:Int):mn a b=a/\a<=b\/mn a b=b/\b<a:=by
 unfold mn
 split
 .right;exact⟨rfl,by assumption⟩
 .left;exact⟨rfl,by omega⟩
theorem Lab.fresh(n:Nat):Lab n (freshM n):=by
 refine⟨by simp[freshM],λv hv=>?_⟩
 have:∀w,w<n->at0 (freshM n) w=w:=λw hw=>by
  rw[xt5 (by simpa[freshM]using hw)]
  simp[freshM]
 rw[this v hv]
 refine⟨by omega,by omega,?_⟩
 rw[x1gb,this v hv]
theorem Lab.get_fresh{n v:Nat}(h:v<n):at0 (freshM n) v=v:=by
 rw[xt5 (by simpa[freshM]using h)]
 simp[freshM]
theorem Lab.lt{n:Nat}{u:List Int}(h:Lab n u){v:Nat}(hv:v<n):(at0 u v).toNat<n:=by
 have:=h.ok v hv
 omega
theorem Lab.join{n:Nat}{u:List Int}(h:Lab n u){p:Pq}(hp:PqIn n p):Lab n (xtx u p):=by
 obtain⟨h0,h1,h2⟩:=hp
 have ea:=h.ok p.a.toNat (by omega)
 have eb:=h.ok p.b.toNat (by omega)
 refine⟨by rw[x12d];exact h.len,λv hv=>?_⟩
 have ev:=h.ok v hv
 rw[xxn (by rw[h.len];exact hv)]
 obtain⟨m,hm⟩:∃m,m=mn (at0 u p.a.toNat) (at0 u p.b.toNat):=⟨_,rfl⟩
 have hmo:=mn_or (at0 u p.a.toNat) (at0 u p.b.toNat)
 rw[<-hm]at hmo ⊢
 by_cases c:at0 u v=at0 u p.a.toNat\/at0 u v=at0 u p.b.toNat
 .rw[x1g7 c]
  refine⟨by omega,by omega,?_⟩
  rw[xxn (by rw[h.len];omega),<-hm]
  have:at0 u m.toNat=at0 u p.a.toNat\/at0 u m.toNat=at0 u p.b.toNat:=by
   rcases hmo with ⟨e,-⟩|⟨e,-⟩
   .rw[e,ea.2.2];exact Or.inl rfl
   .rw[e,eb.2.2];exact Or.inr rfl
  rw[x1g7 this]
 .rw[x1g6 c]
  refine⟨ev.1,ev.2.1,?_⟩
  rw[xxn (by rw[h.len];omega),ev.2.2,x1g6 c]
theorem Lab.joins{n:Nat}:∀{l:List Pq} {u:List Int},Lab n u->(∀p∈l,PqIn n p)->Lab n (joinsM u l)
 |[],_,h,_=>h
 |p::l,u,h,hp=>Lab.joins (l:=l) (h.join (hp p (x1gf ..))) λq hq=>hp q (x1ge _ hq)
def Sm(u:List Int)(v w:Nat):Prop:=at0 u v=at0 u w
theorem join_aux(x y a b m:Int)(hmo:m=a/\a<=b\/m=b/\b<a):((if x=a\/x=b then m else x)=(if y=a\/y=b then m else y))↔(x=y\/(x=a/\y=b)\/(x=b/\y=a)):=by
 by_cases c1:x=a\/x=b<;>by_cases c2:y=a\/y=b<;>(first|rw[x1g7 c1]|rw[x1g6 c1])<;>(first|rw[x1g7 c2]|rw[x1g6 c2])<;>omega
theorem x14g{n:Nat}{u:List Int}{p:Pq}(h:Lab n u){v w:Nat}(hv:v<n)(hw:w<n) :
 Sm (xtx u p) v w↔Sm u v w\/(Sm u v p.a.toNat/\Sm u w p.b.toNat)\/(Sm u v p.b.toNat/\Sm u w p.a.toNat):=by
 unfold Sm
 rw[xxn (by rw[h.len];exact hv),xxn (by rw[h.len];exact hw)]
 exact join_aux _ _ _ _ _ (mn_or _ _)
theorem x180(u:List Int)(l k:List Pq):joinsM u (l++k)=joinsM (joinsM u l) k:=by unfold joinsM;rw[x1km]
theorem join_mono{n:Nat}{u:List Int}{p:Pq}(h:Lab n u){v w:Nat}(hv:v<n)(hw:w<n)(e:Sm u v w):Sm (xtx u p) v w:=(x14g h hv hw).mpr (Or.inl e)
theorem x181{n:Nat}:∀{l:List Pq} {u:List Int},Lab n u->(∀p∈l,PqIn n p)->∀{v w:Nat},v<n->w<n->Sm u v w->Sm (joinsM u l) v w
 |[],_,_,_,_,_,_,_,e=>e
 |p::l,u,h,hp,v,w,hv,hw,e=>x181 (l:=l) (h.join (hp p (x1gf ..))) (λq hq=>hp q (x1ge _ hq)) hv hw (join_mono h hv hw e)
theorem join_ends{n:Nat}{u:List Int}{p:Pq}(h:Lab n u)(hp:PqIn n p):Sm (xtx u p) p.a.toNat p.b.toNat:=by
 obtain⟨h0,h1,h2⟩:=hp
 exact(x14g h (by omega) (by omega)).mpr (Or.inr (Or.inl ⟨rfl,rfl⟩))
theorem xxo{n:Nat}:∀{l:List Pq} {u:List Int},Lab n u->(∀p∈l,PqIn n p)->∀p∈l,Sm (joinsM u l) p.a.toNat p.b.toNat
 |[],_,_,_,p,hp=>by cases hp
 |q::l,u,h,hp,p,hm=>by
  have hq:=hp q (x1gf ..)
  have hl:∀p∈l,PqIn n p:=λp h=>hp p (x1ge _ h)
  rcases x1gn.mp hm with rfl|hm
  .have:PqIn n p:=hq
   obtain⟨h0,h1,h2⟩:=hq
   exact x181 (l:=l) (h.join this) hl (by omega) (by omega) (join_ends h this)
  .exact xxo (h.join hq) hl p hm
theorem x14h{n:Nat}{R:Nat->Nat->Prop}(hs:∀{a b},R a b->R b a)(ht:∀{a b c},R a b->R b c->R a c):∀{l:List Pq} {u:List Int},Lab n u->(∀p∈l,PqIn n p)->(∀p∈l,R p.a.toNat p.b.toNat)->(∀v w,v<n->w<n->Sm u v w->R v w)->∀v w,v<n->w<n->Sm (joinsM u l) v w->R v w
 |[],_,_,_,_,h=>h
 |p::l,u,h,hp,hR,hu=>by
  have hq:=hp p (x1gf ..)
  refine x14h (R:=R) hs ht (l:=l) (h.join hq) (λq hq=>hp q (x1ge _ hq)) (λq hq=>hR q (x1ge _ hq)) λv w hv hw e=>?_
  obtain⟨h0,h1,h2⟩:=hq
  have hr:=hR p (x1gf ..)
  rcases(x14g h hv hw).mp e with e|⟨e1,e2⟩|⟨e1,e2⟩
  .exact hu v w hv hw e
  .exact ht (hu v _ hv (by omega) e1) (ht hr (hs (hu w _ hw (by omega) e2)))
  .exact ht (hu v _ hv (by omega) e1) (ht (hs hr) (hs (hu w _ hw (by omega) e2)))
theorem Lab.ext{n:Nat}{u t:List Int}(h:Lab n u)(k:Lab n t)(he:∀v w,v<n->w<n->(Sm u v w↔Sm t v w)):u=t:=by
 apply x1j2
 .rw[h.len,k.len]
 .intro v hv hv'
  rw[h.len]at hv
  rw[<-xt5,<-xt5]
  have a:=h.ok v hv
  have b:=k.ok v hv
  have e1:at0 t (at0 u v).toNat=at0 t v:=(he _ v (by omega) hv).mp (by unfold Sm;exact a.2.2)
  have e2:at0 u (at0 t v).toNat=at0 u v:=(he _ v (by omega) hv).mpr (by unfold Sm;exact b.2.2)
  have a2:=k.ok (at0 u v).toNat (by omega)
  have b2:=h.ok (at0 t v).toNat (by omega)
  omega
def Indep(u:List Int):List Pq->Prop
 |[]=>True
 |p::l=>¬Sm u p.a.toNat p.b.toNat/\Indep (xtx u p) l
theorem Indep.app{u:List Int}:∀{l k:List Pq} ,Indep u (l++k)↔Indep u l/\Indep (joinsM u l) k:=by
 intro l
 induction l generalizing u with
 |nil=>intro k;simp[Indep,joinsM]
 |cons p l ih=>
  intro k
  simp only[x1i0,Indep]
  rw[ih]
  simp[joinsM,and_assoc]
def xwb(n:Nat)(u:List Int):Nat:=((List.range n).filter λ(v:Nat)=>decide (at0 u v=(v:Int))).length
theorem count_ne{n:Nat}{p q:Nat->Bool}{w:Nat}(hw:w<n)(h1:p w=true)(h2:q w=false)(h:∀v,v<n->v≠w->p v=q v):((List.range n).filter p).length=((List.range n).filter q).length+1:=by
 induction n with
 |zero=>omega
 |succ n ih=>
  rw[x1jb,x1iq,x1iq,x1hu,x1hu]
  by_cases c:w=n
  .subst c
   have e:(List.range w).filter p=(List.range w).filter q:=by
    apply x1l9
    intro v hv
    have:=x1h0.mp hv
    exact h v (by omega) (by omega)
   rw[e]
   simp[h1,h2]
  .have:=ih (by omega) λv hv=>h v (by omega)
   have e:=h n (by omega) (by omega)
   simp only[x1ja,e,List.filter_nil]
   omega
theorem x14i{n:Nat}{u:List Int}{p:Pq}(h:Lab n u)(hp:PqIn n p)(hne:¬Sm u p.a.toNat p.b.toNat):xwb n u=xwb n (xtx u p)+1:=by
 have hp':=hp
 obtain⟨h0,h1,h2⟩:=hp
 have ea:=h.ok p.a.toNat (by omega)
 have eb:=h.ok p.b.toNat (by omega)
 unfold Sm at hne
 have hmo:=mn_or (at0 u p.a.toNat) (at0 u p.b.toNat)
 obtain⟨w,hw⟩:∃w:Int,w=if at0 u p.b.toNat<at0 u p.a.toNat then at0 u p.a.toNat else at0 u p.b.toNat:=⟨_,rfl⟩
 have hwor:w=at0 u p.a.toNat/\at0 u p.b.toNat<at0 u p.a.toNat\/w=at0 u p.b.toNat/\at0 u p.a.toNat<at0 u p.b.toNat:=by
  rw[hw];split<;>omega
 unfold xwb
 refine count_ne (w:=w.toNat) (by omega) ?_ ?_ λv hv hne'=>?_
 .rw[x1il]
  rcases hwor with ⟨e,-⟩|⟨e,-⟩
  .rw[e,ea.2.2];omega
  .rw[e,eb.2.2];omega
 .rw[decide_eq_false_iff_not,xxn (by rw[h.len];omega)]
  have:at0 u w.toNat=w:=by
   rcases hwor with ⟨e,-⟩|⟨e,-⟩
   .rw[e];exact ea.2.2
   .rw[e];exact eb.2.2
  rw[this,x1g7 (by omega)]
  omega
 .rw[x1lf,x1il,x1il,xxn (by rw[h.len];omega)]
  have ev:=h.ok v hv
  by_cases c:at0 u v=at0 u p.a.toNat\/at0 u v=at0 u p.b.toNat
  .rw[x1g7 c]
   constructor
   .intro e
    omega
   .intro e
    rcases hmo with ⟨q,-⟩|⟨q,-⟩
    .rw[q]at e;rw[e]at ea;have:=ea.2.2;simpa using this
    .rw[q]at e;rw[e]at eb;have:=eb.2.2;simpa using this
  .rw[x1g6 c]
theorem x12e{n:Nat}:∀{l:List Pq} {u:List Int},Lab n u->(∀p∈l,PqIn n p)->Indep u l->xwb n u=xwb n (joinsM u l)+l.length
 |[],_,_,_,_=>rfl
 |p::l,u,h,hp,hi=>by
  have hq:=hp p (x1gf ..)
  have:=x12e (h.join hq) (λq hq=>hp q (x1ge _ hq)) hi.2
  have h1:=x14i h hq hi.1
  have e:joinsM u (p::l)=joinsM (xtx u p) l:=rfl
  rw[e,x1gq]
  omega
theorem x182(n:Nat):xwb n (freshM n)=n:=by
 unfold xwb
 have:(List.range n).filter (λ(v:Nat)=>decide (at0 (freshM n) v=(v:Int)))=List.range n:=by
  rw[x1k5]
  intro v hv
  rw[Lab.get_fresh (x1h0.mp hv)]
  simp
 rw[this,x1je]
variable{P:List Pq}
def prs(P:List Pq)(F:List Int):List Pq:=F.map (prAt P)
structure For (n:Nat) (P:List Pq) (F:List Int):Prop where
 rng:∀i∈F,0<=i/\i<P.length
 nod:F.Nodup
 ind:Indep (freshM n) (prs P F)
theorem x100{n:Nat}(hP:∀p∈P,PqIn n p){i:Int}(h:0<=i/\i<P.length):PqIn n (prAt P i):=by
 unfold prAt
 have:i.toNat<P.length:=by omega
 rw[x1gk,x1gv this]
 exact hP _ (x1go this)
theorem xv4{n:Nat}(hP:∀p∈P,PqIn n p){F:List Int}(h:∀i∈F,0<=i/\i<P.length):∀p∈prs P F,PqIn n p:=λp hp=>by
 obtain⟨i,hi,rfl⟩:=x1gs.mp hp
 exact x100 hP (h i hi)
theorem For.take{n:Nat}{F G:List Int}(h:For n P (F++G)):For n P F:=by
 refine⟨λi hi=>h.rng i (x1j1 _ hi),(x1io.mp h.nod).1,?_⟩
 have:=h.ind
 unfold prs at this
 rw[x1hr]at this
 exact(Indep.app.mp this).1
theorem For.cut{n:Nat}(hP:∀p∈P,PqIn n p){F:List Int}(h:For n P F):Cut P F:=by
 have main:∀(k:Nat) (F:List Int),F.length=k->For n P F->Cut P F:=by
  intro k
  induction k with
  |zero=>intro F hl _ i hi;rw[x1hv.mp hl]at hi;cases hi
  |succ k ih=>
   intro F hl h
   obtain⟨G,q,rfl⟩:∃G q,F=G++[q]:=by
    have hne:F≠[]:=by rintro rfl;simp at hl
    exact⟨F.dropLast,F.getLast hne,(x1lg hne).symm⟩
   have hG:=h.take
   have hc:=ih G (by simpa using hl) hG
   have hq:=x100 hP (h.rng q (by simp))
   obtain⟨u,hu⟩:∃u,u=joinsM (freshM n) (prs P G):=⟨_,rfl⟩
   have hL:Lab n u:=by rw[hu];exact(Lab.fresh n).joins (xv4 hP hG.rng)
   have hind:=h.ind
   unfold prs at hind
   rw[x1hr]at hind
   have hne:¬Sm u (prAt P q).a.toNat (prAt P q).b.toNat:=by
    have:=(Indep.app.mp hind).2
    rw[show List.map (prAt P) [q]=[prAt P q]from rfl]at this
    rw[hu]
    exact this.1
   have hqG:q∉G:=λhm=>(x1io.mp h.nod).2.2 q hm q (by simp) rfl
   have hends:∀j∈G,Sm u (prAt P j).a.toNat (prAt P j).b.toNat:=λj hj=>by
    rw[hu]
    exact xxo (Lab.fresh n) (xv4 hP hG.rng) _ (x1gs.mpr ⟨j,hj,rfl⟩)
   unfold Sm at hne hends
   intro i hi
   rcases x1h2.mp hi with hi|hi
   .obtain⟨s,h1,h2⟩:=hc i hi
    by_cases c:s (prAt P q).a=s (prAt P q).b
    .refine⟨s,h1,λj hj hji=>?_⟩
     rcases x1h2.mp hj with hj|hj
     .exact h2 j hj hji
     .simp at hj;subst hj;exact c
    .refine⟨λv=>if at0 u v.toNat=at0 u (prAt P q).b.toNat then !(s v)else s v,?_,λj hj hji=>?_⟩
     .have:=hends i hi
      simp only
      rw[this]
      split
      .simpa using h1
      .exact h1
     .simp only
      rcases x1h2.mp hj with hj|hj
      .have:=hends j hj
       rw[this,h2 j hj hji]
      .simp at hj;subst hj
       rw[x1g6 hne,x1g7 rfl]
       cases h3:s (prAt P j).a<;>cases h4:s (prAt P j).b<;>simp_all
   .simp at hi;subst hi
    refine⟨λv=>decide (at0 u v.toNat=at0 u (prAt P i).a.toNat),?_,λj hj hji=>?_⟩
    .simp[Ne.symm hne]
    .rcases x1h2.mp hj with hj|hj
     .simp only;rw[hends j hj]
     .simp at hj;exact absurd hj hji
 exact main _ F rfl h
theorem x12f{n:Nat}(hP:∀p∈P,PqIn n p){F:List Int}(hr:∀i∈F,0<=i/\i<P.length):∀{v w:Nat},v<n->w<n->Sm (joinsM (freshM n) (prs P F)) v w->∃l,Wk P l v w/\AllF F l:=by
 intro v w hv hw hs
 let R:Nat->Nat->Prop:=λv w=>∃l,Wk P l v w/\AllF F l
 have hsym:∀{a b},R a b->R b a:=λ⟨l,h1,h2⟩=>by
  obtain⟨v,h3,h4⟩:=h1.back h2
  exact⟨v,h3,h4⟩
 have htr:∀{a b c},R a b->R b c->R a c:=λ⟨l,h1,h2⟩ ⟨k,h3,h4⟩=>⟨l++k,h1.app h3,h2.app h4⟩
 refine x14h (R:=R) hsym htr (Lab.fresh n) (xv4 hP hr) (λp hp=>?_) (λv w hv hw e=>?_) v w hv hw hs
 .obtain⟨i,hi,rfl⟩:=x1gs.mp hp
  have hq:=x100 hP (hr i hi)
  obtain⟨h0,h1,h2⟩:=hq
  refine⟨[⟨i,1⟩],⟨?_,?_⟩,λx hx=>?_⟩
  .unfold frS;simp;omega
  .show toS P ⟨i,1⟩=_
   unfold toS;simp;omega
  .simp at hx;subst hx;exact⟨hi,Or.inl rfl⟩
 .unfold Sm at e
  rw[Lab.get_fresh hv,Lab.get_fresh hw]at e
  exact⟨[],by show(v:Int)=w;exact e,λ_ h=>by cases h⟩
theorem For.len{n:Nat}(hP:∀p∈P,PqIn n p){F:List Int}(h:For n P F):F.length<=n:=by
 have:=x12e (Lab.fresh n) (xv4 hP h.rng) h.ind
 rw[x182]at this
 have e:(prs P F).length=F.length:=by unfold prs;simp
 omega
end Go.Ix
