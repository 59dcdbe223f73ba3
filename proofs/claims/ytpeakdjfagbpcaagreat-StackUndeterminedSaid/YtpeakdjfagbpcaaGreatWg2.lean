import Derived.Test.YtpeakdjfagbpcaaGreatWg1
import Derived.Test.YtpeakdjfagbpcaaGreatWg0
import Derived.ProofKit
set_option linter.unusedSimpArgs false
set_option linter.unusedVariables false
namespace Go.Ix
open Go.Proofs
theorem mkLit_P{p q:Int}{id:Id}{m:Mem}{R:Type}{k:AV->Mem->Option R}:xs0 [I 0,I 0] [(0,2,.agg [I p,I q])] 1 2 id m k=k (.slit [I p,I q] 1 true) m:=by
 simp[xs0,xsd,xsc,x1hb,clean1,AV.one,Value.oneCell']
theorem InB.get{l:List Scene}(h:InB l){k:Nat}(hk:k<l.length):(0<=l[k].day/\l[k].day<=100000)/\(-100000<=l[k].bl/\l[k].bl<=100000):=h _ (x1fg hk)
theorem e_awake7:((xr4 30 [] xfo [] mem0).map (λp=>p.1))=some (B true):=by kernel_rfl
theorem w_awake7(m:Mem):xr8 (xr4 30) xfo [] m=some (B true,m):=by
 have h:=e_awake7
 rw[x1fc]at h
 obtain⟨⟨r,m'⟩,h1,rfl⟩:=h
 exact call0 rfl h1 rfl
theorem callR{T:AV->Prop}{call:xr5}{f:FuncId}{l l':List AV}{m:Mem}(hl:l.mapM (Go.Ix.frz m.get deep)=some l')(h:RetF T (call [] f l' mem0)) :
 ∃a m2,T a/\xr8 call f l m=some (a,m2)/\m2.next=m.next/\∀i cs v b,m.get i=some (.row cs v b)->∃b',m2.get i=some (.row cs v b'):=by
 obtain⟨a,m',a',h1,h2,h3⟩:=h
 obtain⟨m2,h4,h5,h6⟩:=x16h hl h1 h2
 exact⟨a',m2,h3,h4,h5,h6⟩
def xxx(l:List Scene):Bool:=l.all λs=>decide (s.nm.size<=20)
theorem Scene.stillA(s:Scene):s.c.all still1=true:=rfl
def Pq.v(p:Pq):Value:=.agg [.int .i64 p.a,.int .i64 p.b].toArray
def mpP(E:List (Pq×AV)):List (Value×AV):=E.map λx=>(x.1.v,x.2)
def lkP:List (Pq×AV)->Pq->Option AV
 |[],_=>none
 |x::r,p=>if p.same x.1=true then some x.2 else lkP r p
theorem x114(p q:Pq):xta p.v q.v=p.same q:=by
 unfold xta Pq.v Pq.same
 simp[xxe]
 by_cases h:p.a=q.a<;>by_cases h2:p.b=q.b<;>simp[h,h2]
theorem find_mpP(E:List (Pq×AV))(p:Pq):findKey p.v (mpP E)=lkP E p:=by
 induction E with
 |nil=>rfl
 |cons x r ih=>
  unfold mpP at ih ⊢
  simp only[x1fl,findKey,lkP,x114]
  rw[ih]
theorem set_mpP(E:List (Pq×AV))(p:Pq)(v:AV)(h:lkP E p=none):setKey p.v v (mpP E)=mpP (E++[(p,v)]):=by
 induction E with
 |nil=>rfl
 |cons x r ih=>
  simp only[lkP]at h
  unfold mpP at ih ⊢
  simp only[x1fl,x1gw,setKey,x114]
  by_cases c:p.same x.1=true
  .rw[x1ez c]at h;cases h
  .rw[x1ey c]at h
   rw[x1ey c,ih h]
theorem chk_t(p:Pq):(xrl Tryz.prog (Instr.checkKey true 10000 x8 p.v)).isSome=true:=by kernel_rfl
theorem chk_f(p:Pq):(xrl Tryz.prog (Instr.checkKey false 10000 x8 p.v)).isSome=true:=by kernel_rfl
theorem equal_pq(p q:Pq):xrl Tryz.prog (Op.equal x8 p.v q.v)=some (p.same q):=x16l p q
theorem x16o{d:TypeDesc}(hd:Tryz.prog.underlying x8=some d)(E:List (Pq×AV))(p:Pq):xvu Tryz.prog x8 d p.v (mpP E)=true:=by
 obtain⟨fs,hf⟩:∃fs,d=.struct fs:=by
  have:((Tryz.prog.underlying x8).bind λd=>match d with | .struct fs=>some ()|_=>none)=some ():=by kernel_rfl
  rw[hd]at this
  cases d<;>first|exact⟨_,rfl⟩|cases this
 subst hf
 have h1:x120 Tryz.prog x8 (.struct fs) p.v (mpP E)=true:=by
  show(xta p.v p.v&&((xrl Tryz.prog (Instr.checkKey true 10000 x8 p.v)).isSome&&(xrl Tryz.prog (Instr.checkKey false 10000 x8 p.v)).isSome) &&
   (mpP E).all λe=>match e.1,xrl Tryz.prog (Op.equal x8 p.v e.1)with
    | .agg _,some b=>b == xta p.v e.1
    |_,_=>false)=true
  rw[chk_t,chk_f,x114,Pq.same_self]
  simp only[x1gr,x1gu,x1fa]
  intro e he
  unfold mpP at he
  obtain⟨x,-,rfl⟩:=x1fj.mp he
  rw[equal_pq,x114]
  show(p.same x.1 == p.same x.1)=true
  simp
 unfold xvu
 rw[h1,Bool.or_true]
theorem x16p(p:Pq):xs8 (.agg p.c)=some p.v:=rfl
theorem um_pq:∃d,Tryz.prog.underlying x8=some d:=by
 obtain⟨d,h⟩:∃d,(Tryz.prog.underlying x8).isSome=d:=⟨_,rfl⟩
 have:(Tryz.prog.underlying x8).isSome=true:=by kernel_rfl
 exact x1jy.mp this
theorem look_pq{t et:TypeId}{z:AV}(ht:Tryz.prog.underlying t=some (.map x8 et))(hz:xyb Tryz.prog et=some z)(id:Id)(E:List (Pq×AV))(p:Pq)(ok:Bool)(m:Mem)(h:m.get id=some (.map (mpP E))) :
 xvl Tryz.prog t (.mp id) (.agg p.c) ok m=some (if ok then .tup [(lkP E p).getD z,B (lkP E p).isSome]else(lkP E p).getD z):=by
 obtain⟨d,hd⟩:=um_pq
 unfold xvl
 simp only[ht,x16p,hd,hz,xw6,h]
 rw[x1ez (x16o hd E p),find_mpP]
theorem up_pq{R:Type}{t et:TypeId}(ht:Tryz.prog.underlying t=some (.map x8 et))(id:Id)(E:List (Pq×AV))(p:Pq)(v:AV)(m:Mem)(k:Mem->Option R)(h:m.get id=some (.map (mpP E)))(hn:lkP E p=none) :
 xwa Tryz.prog t (.mp id) (.agg p.c) v m k=k (m.set id (.map (mpP (E++[(p,v)])))):=by
 obtain⟨d,hd⟩:=um_pq
 unfold xwa
 simp only[ht,x16p,hd,h]
 rw[x1ez (x16o hd E p),set_mpP E p v hn]
theorem lkP_app(E:List (Pq×AV))(p q:Pq)(v:AV)(h:lkP E p=none):lkP (E++[(p,v)]) q=if q.same p=true then some v else lkP E q:=by
 induction E with
 |nil=>simp[lkP]
 |cons x r ih=>
  simp only[lkP,x1gw]at h ⊢
  by_cases c:p.same x.1=true
  .rw[x1ez c]at h;cases h
  .rw[x1ey c]at h
   rw[ih h]
   by_cases e:q.same x.1=true
   .rw[x1ez e,x1ey,x1ez e]
    intro e2
    rw[Pq.same_iff]at e e2 c
    exact c (by rw[<-e2,e])
   .rw[x1ey e,x1ey e]
def xw3(n:Int)(P:List Pq):Nat->List Pq->Int×Int
 |_,[]=>(0,0)
 |k,p::r=>
  bif !(wi p.a 0 (n-1))||!(wi p.b 0 (n-1))then((k:Int),6)
  else bif decide (p.b<=p.a)then((k:Int),9)
  else bif(P.take k).any (λq=>q.same p)then((k:Int),28)
  else xw3 n P (k+1) r
def net7(l:List Scene)(P:List Pq):Int×Int:=bif !decide ((xtv l).2=0)then xtv l else bif decide (200<P.length)then(0,8)else xw3 l.length P 0 P
theorem zv_bool:xyb Tryz.prog xd4=some (B false):=by kernel_rfl
theorem um_pb:Tryz.prog.underlying xid=some (.map x8 xd4):=by kernel_rfl
theorem x16q{P:List Pq}{k:Nat}(hk:k<P.length)(q:Pq):(P.take (k+1)).any (λx=>x.same q)=((P.take k).any (λx=>x.same q)||P[k].same q):=by
 rw[x1g3 hk,List.any_append]
 simp
theorem same_symm{p q:Pq}:p.same q=q.same p:=by
 rw[x1jg,Pq.same_iff,Pq.same_iff]
 exact eq_comm
def Seen(P:List Pq)(k:Nat)(E:List (Pq×AV)):Prop:=∀q,lkP E q=bif(P.take k).any (λx=>x.same q)then some (B true)else none
theorem x1aw(d s24:Nat){s p:AV}{l:List Scene}{P:List Pq}(hs:Sl Scene.c s l)(hp:Sl Pq.c p P)(hl:l.length<=60)(hP:P.length<=200){T:Int×Int} :
 ∀(n k:Nat) (x:Unit) (m:Mem) (fc:Nat),k<=P.length->P.length<n+k->(m.get (0,0,1)=some (.row [s,p] 0 false)/\(∃E,m.get (0,s24,24)=some (.map (mpP E))/\Seen P k E)/\xw3 l.length P k (P.drop k)=T) ->
 RetF (λv=>v=.tup [I T.1,I T.2]) (x3j (xr4 (d+2)) [] 0 n (.ptr (0,0,1) 0 0) (.mp (0,s24,24)) p (I P.length) (I k) m fc):=by
 refine xsf (λn k _ m fc=>x3j (xr4 (d+2)) [] 0 n (.ptr (0,0,1) 0 0) (.mp (0,s24,24)) p (I P.length) (I k) m fc)
  (λk _ m=>m.get (0,0,1)=some (.row [s,p] 0 false)/\(∃E,m.get (0,s24,24)=some (.map (mpP E))/\Seen P k E)/\xw3 l.length P k (P.drop k)=T) _ ?_ ?_
 .rintro n k-m fc hk ⟨hg,⟨E,hE,hS⟩,hT⟩ next
  have hk':(k:Int)<(P.length:Int):=by omega
  have ix:=hp.ix Pq.len hk
  have ld:=xsy (m:=m) Pq.len (by omega) hk
  rw[xsj hk]at hT
  have hta:=x16q hk
  generalize P[k]=e at ld hT hta
  simp only[x3j]
  unfold xat
  simp only[xry,hk',x1ff,xrw,xr9,ix,ld,xu9,xus,xs9,Mem.get_new,x1fh,xuj]
  simp(disch:=omega) [Pq.c]
  generalize hm1:Mem.set _ _ _=m1
  have h1:m1.get (0,0,1)=some (.row [s,p] 0 false):=by rw[<-hm1];simp[hg]
  have h8:m1.get (0,fc+4,8)=some (.row [I e.a,I e.b] 0 false):=by rw[<-hm1];simp
  have h24:m1.get (0,s24,24)=some (.map (mpP E)):=by rw[<-hm1];simp[hE]
  have hlk:=look_pq um_pb zv_bool (0,s24,24) E e false m1 h24
  have hse:=hS e
  simp[hg,hs.len xt5]
  rw[xrc (by omega) (by omega)]
  simp[xzp]
  simp only[xw3]at hT
  cases c1:wi e.a 0 ((l.length:Int)-1)with
  |false=>
   simp[c1]at hT ⊢
   exact RetF.tup rfl (by rw[<-hT])
  |true=>
   simp[h8,xzp]
   cases c2:wi e.b 0 ((l.length:Int)-1)with
   |false=>
    simp[c1,c2]at hT ⊢
    exact RetF.tup rfl (by rw[<-hT])
   |true=>
    simp[c1,c2]at hT
    simp[h8]
    by_cases c3:e.b<=e.a
    .simp[c3]at hT ⊢
     exact RetF.tup rfl (by rw[<-hT])
    .simp[c3]at hT
     simp[c3,h8]
     rw[show AV.agg [I e.a,I e.b]=.agg e.c from rfl,hlk,hse]
     cases c4:(P.take k).any λx=>x.same e with
     |true=>
      simp[c4]at hT ⊢
      exact RetF.tup rfl (by rw[<-hT])
     |false=>
      rw[c4]at hT hse
      simp[h8]
      rw[up_pq um_pb (0,s24,24) E e (B true) m1 _ h24 hse]
      refine next () _ _ ⟨by simp[h1],⟨E++[(e,B true)],by simp,λq=>?_⟩,hT⟩
      rw[lkP_app E e q _ hse,hta q,hS q,same_symm (p:=e)]
      cases q.same e<;>cases(P.take k).any λx=>x.same q<;>rfl
 .rintro n-m fc ⟨hg,-,hT⟩
  have hk:¬((P.length:Int)<(P.length:Int)):=by omega
  simp only[x3j]
  unfold xat xic
  rw[x1g4 (x1f3 _)]at hT
  simp[hk]
  exact RetF.tup rfl (by rw[<-hT];rfl)
theorem x1ax(d:Nat){s p:AV}{l:List Scene}{P:List Pq}(hs:Sl Scene.c s l)(hp:Sl Pq.c p P)(m:Mem):xr8 (xr4 (d+5)) x4p [.agg [s,p]] m=some (.tup [I (net7 l P).1,I (net7 l P).2],m):=by
 refine xth (by simp[hs.still1,hp.still1]) ?_ m
 rw[xmp]
 unfold xeu xau net7
 simp[hs.one,hp.one,mem0,x1ao d hs]
 by_cases he:(xtv l).2=0
 .obtain⟨hl,-⟩:=x13a he
  simp[he,hp.len xt9]
  by_cases h200:200<P.length
  .have h2:(200:Int)<(P.length:Int):=by omega
   simp[h200,h2]
   exact RetF.tup rfl rfl
  .have h2:¬(200:Int)<(P.length:Int):=by omega
   simp[h200,h2,xzb]
   unfold xie
   simp[hp.len xt9]
   exact x1aw (d+2) 17 hs hp hl (by omega) NN 0 () _ _ (by omega) (by rw[xrg];omega) ⟨by simp,⟨[],by simp;rfl,λq=>by simp[lkP]⟩,by simp⟩
 .simp[he]
  exact RetF.tup rfl rfl
theorem w_netErr(d:Nat){s p:AV}{l:List Scene}{P:List Pq}(hs:Sl Scene.c s l)(hp:Sl Pq.c p P)(m:Mem):xr8 (xr4 (d+6)) x4d [.agg [s,p]] m=some (I (net7 l P).2,m):=by
 refine xth (by simp[hs.still1,hp.still1]) ?_ m
 rw[xly]
 unfold xe4 x9j
 simp[hs.one,hp.one,mem0,x1ax d hs hp]
 exact RetF.st rfl rfl
theorem x1ay(d:Nat){s p:AV}{P:List Pq}(hp:Sl Pq.c p P)(hP:P.length<=200){i:Nat}(hi:i<P.length){e:Pq}(s7:Nat)(rec0:AV->AV->Mem->Nat->O2)(Q:O2->Prop){m:Mem}(hg:m.get (0,0,1)=some (.row [s,p] 0 false))(h7:m.get (0,s7,7)=some (.row [I e.a,I e.b] 0 false))(ht:(P.take i).any (λx=>x.same e)=true->Q (some (.tup [I i,I 28],m)))(hf:(P.take i).any (λx=>x.same e)=false->∀fc,Q (rec0 (.ptr (0,0,1) 0 0) (I ((i:Int)+1)) m fc)) :
 ∀(n k:Nat) (x:Unit) (m':Mem) (fc:Nat),k<=i->i<n+k->(m'=m/\(P.take k).any (λx=>x.same e)=false) ->
 Q (x3e (xr4 (d+1)) [] 0 rec0 n (.ptr (0,0,1) 0 0) (I i) (.ptr (0,s7,7) 0 0) (I k) m' fc):=by
 refine xsf (λn k _ m fc=>x3e (xr4 (d+1)) [] 0 rec0 n (.ptr (0,0,1) 0 0) (I i) (.ptr (0,s7,7) 0 0) (I k) m fc) (λk _ m'=>m'=m/\(P.take k).any (λx=>x.same e)=false) Q ?_ ?_
 .rintro n k-m' fc hk ⟨rfl,hA⟩ next
  have hk':(k:Int)<(i:Int):=by omega
  have hk2:k<P.length:=by omega
  have ix:=hp.ix Pq.len hk2
  have ld:=xsy (m:=m') Pq.len (by omega) hk2
  have hta:=x16q hk2 e
  have hts:P[k].same e=true->(P.take i).any (λx=>x.same e)=true:=λh=>by
   rw[x1ja]
   exact⟨P[k],by rw[List.mem_take_iff_getElem];exact⟨k,by omega,rfl⟩,h⟩
  generalize P[k]=y at ld hta hts
  have heq:=eq_pair7 (.tmp 69) (.tmp 70) y e
  simp only[x3e]
  unfold x9p
  simp[hk',hg,ix,ld,h7]
  rw[show AV.agg [I e.a,I e.b]=.agg e.c from rfl,heq]
  cases c:y.same e with
  |true=>
   simp
   exact ht (hts c)
  |false=>
   simp(disch:=omega) [xrc]
   exact next () _ _ ⟨rfl,by rw[hta,hA,c];rfl⟩
 .rintro n-m' fc ⟨rfl,hA⟩
  simp only[x3e]
  unfold x9p xhf
  simp(disch:=omega) [xrc]
  exact hf hA _
theorem x1az(d:Nat){s p:AV}{l:List Scene}{P:List Pq}(hs:Sl Scene.c s l)(hp:Sl Pq.c p P)(hl:l.length<=60)(hP:P.length<=200){T:Int×Int} :
 ∀(n k:Nat) (x:Unit) (m:Mem) (fc:Nat),k<=P.length->P.length<n+k->(m.get (0,0,1)=some (.row [s,p] 0 false)/\xw3 l.length P k (P.drop k)=T) ->
 RetF (λv=>v=.tup [I T.1,I T.2]) (x1m (xr4 (d+1)) [] 0 n (.ptr (0,0,1) 0 0) (I k) m fc):=by
 refine xsf (λn k _ m fc=>x1m (xr4 (d+1)) [] 0 n (.ptr (0,0,1) 0 0) (I k) m fc)
  (λk _ m=>m.get (0,0,1)=some (.row [s,p] 0 false)/\xw3 l.length P k (P.drop k)=T) _ ?_ ?_
 .rintro n k-m fc hk ⟨hg,hT⟩ next
  have hk':(k:Int)<(P.length:Int):=by omega
  have ix:=hp.ix Pq.len hk
  have ld:=xsy (m:=m) Pq.len (by omega) hk
  rw[xsj hk]at hT
  generalize P[k]=e at ld hT
  simp only[x1m]
  unfold x9q xhg
  simp[hg,hp.len xt9,hs.len xt5,hk',ix,ld,xus,Pq.c]
  rw[xrc (by omega) (by omega)]
  simp[xxv]
  generalize hm1:Mem.set _ _ _=m1
  have h1:m1.get (0,0,1)=some (.row [s,p] 0 false):=by rw[<-hm1];simp[hg]
  have h7:m1.get (0,fc+5+5,7)=some (.row [I e.a,I e.b] 0 false):=by rw[<-hm1];simp
  simp only[xw3]at hT
  cases c1:wi e.a 0 ((l.length:Int)-1)with
  |false=>
   simp[c1]at hT ⊢
   exact RetF.tup rfl (by rw[<-hT])
  |true=>
   simp[h7,h1,hs.len xt5]
   rw[xrc (by omega) (by omega)]
   simp[xxv]
   cases c2:wi e.b 0 ((l.length:Int)-1)with
   |false=>
    simp[c1,c2]at hT ⊢
    exact RetF.tup rfl (by rw[<-hT])
   |true=>
    simp[c1,c2]at hT
    simp[h7]
    by_cases c3:e.b<=e.a
    .simp[c3]at hT ⊢
     exact RetF.tup rfl (by rw[<-hT])
    .simp[c3]at hT
     simp[c3]
     refine x1ay d (s:=s) hp hP hk (fc+5+5) (x1m (xr4 (d+1)) [] 0 n) _ h1 h7 (λha=>?_) (λha fc=>?_) NN 0 () m1 _ (by omega) (by rw[xrg];omega) ⟨rfl,by simp⟩
     .simp[ha]at hT
      exact RetF.tup rfl (by rw[<-hT])
     .rw[ha]at hT
      exact next () m1 fc ⟨h1,hT⟩
 .rintro n-m fc ⟨hg,hT⟩
  have hk:¬((P.length:Int)<(P.length:Int)):=by omega
  simp only[x1m]
  unfold x9q xhe
  rw[x1g4 (x1f3 _)]at hT
  simp[hk,hg,hp.len xt9]
  exact RetF.tup rfl (by rw[<-hT];rfl)
theorem x1b0(d:Nat){s p:AV}{l:List Scene}{P:List Pq}(hs:Sl Scene.c s l)(hp:Sl Pq.c p P)(m:Mem):xr8 (xr4 (d+3)) x4f [.agg [s,p]] m=some (.tup [I (net7 l P).1,I (net7 l P).2],m):=by
 refine xth (by simp[hs.still1,hp.still1]) ?_ m
 rw[xm1]
 unfold xe7 x9r net7
 simp[hs.one,hp.one,mem0,x1ar d hs]
 by_cases he:(xtv l).2=0
 .obtain⟨hl,-⟩:=x13a he
  simp[he,hp.len xt9]
  by_cases h200:200<P.length
  .have h2:(200:Int)<(P.length:Int):=by omega
   simp[h200,h2]
   exact RetF.tup rfl rfl
  .have h2:¬(200:Int)<(P.length:Int):=by omega
   simp[h200,h2]
   unfold xhh
   exact x1az (d+1) hs hp hl (by omega) NN 0 () _ _ (by omega) (by rw[xrg];omega) ⟨by simp,by simp⟩
 .simp[he]
  exact RetF.tup rfl rfl
theorem w_Err7(d:Nat){s p:AV}{l:List Scene}{P:List Pq}(hs:Sl Scene.c s l)(hp:Sl Pq.c p P)(m:Mem):xr8 (xr4 (d+4)) x48 [.agg [s,p]] m=some (I (net7 l P).2,m):=by
 refine xth (by simp[hs.still1,hp.still1]) ?_ m
 rw[xle]
 unfold xdl x8h
 simp[hs.one,hp.one,mem0,x1b0 d hs hp]
 exact RetF.st rfl rfl
def few7(l:List Scene)(P:List Pq):Bool:=
 bif(decide (8<l.length)&&decide (l.length<=60))||decide (62<l.length)||(decide (14<P.length)&&decide (P.length<=200))||decide (202<P.length)then false else xxx l
theorem few7_len{l:List Scene}{P:List Pq}(h:few7 l P=true):l.length<=62/\P.length<=202:=by
 unfold few7 at h
 by_cases h1:62<l.length
 .simp[h1]at h
 .by_cases h2:202<P.length
  .simp[h2]at h
  .omega
theorem w_Few7(d:Nat){s p:AV}{l:List Scene}{P:List Pq}(hs:Sl Scene.c s l)(hp:Sl Pq.c p P)(m:Mem):xr8 (xr4 (d+1)) x46 [.agg [s,p]] m=some (B (few7 l P),m):=by
 refine xth (by simp[hs.still1,hp.still1]) ?_ m
 rw[xlc]
 unfold xdj x8f
 have hb:∀fc,few7 l P=xxx l->l.length<=62->RetF (λv=>v=B (few7 l P)) (x8e (xr4 d) [] 0 (.ptr (0,0,1) 0 0) (((⟨[],1⟩:Mem).new (0,0,1) (.row [s,p] 0 false))) fc):=λfc he hl=>by
  rw[he]
  unfold x8e
  obtain⟨m0,hm0⟩:∃m0,m0=(⟨[],1⟩:Mem).new (0,0,1) (.row [s,p] 0 false):=⟨_,rfl⟩
  have hg:m0.get (0,0,1)=some (.row [s,p] 0 false):=by rw[hm0];simp
  rw[<-hm0]
  refine xsf (N:=l.length) (σ:=Unit) (λn k _ m fc=>x56 (xr4 d) [] 0 n (.ptr (0,0,1) 0 0) (I k) m fc) (λk _ m=>m=m0/\xxx l=xxx (l.drop k)) _ ?_ ?_ NN 0 () m0 _ (by omega) (by rw[xrg];omega) ⟨rfl,by simp⟩
  .rintro n k-m fc hk ⟨rfl,hS⟩ next
   have hk':(k:Int)<(l.length:Int):=by omega
   have ix:=hs.ix Scene.len hk
   have f1:=xw1 (enc:=Scene.c) (m:=m) hk 0 rfl
   simp only[x1f0]at f1
   have hS':xxx l=(decide (l[k].nm.size<=20)&&xxx (l.drop (k+1))):=by rw[hS,xsj hk];rfl
   simp only[x56]
   unfold x8d
   simp only[hg,hs.len xt5,xs5,xrh,xri,xr9,xry]
   simp[hs.len xt5,hk',ix,f1]
   by_cases c:(20:Int)<(l[k].nm.size:Int)
   .simp[c]
    exact RetF.st rfl (by rw[hS',x1h4 (show ¬l[k].nm.size<=20 by omega)];rfl)
   .simp(disch:=omega) [c,xrc]
    refine next () m _ ⟨rfl,?_⟩
    rw[hS',x1fy (show l[k].nm.size<=20 by omega)];rfl
  .rintro n-m fc ⟨rfl,hS⟩
   have hk:¬((l.length:Int)<(l.length:Int)):=by omega
   simp only[x56]
   unfold x8d xg1
   rw[x1g4 (x1f3 _)]at hS
   simp[hg,hs.len xt5,hk]
   exact RetF.st rfl (by rw[hS];rfl)
 have e1:decide ((8:Int)<(l.length:Int))=decide (8<l.length):=decide_eq_decide.mpr (by omega)
 have e2:decide ((l.length:Int)<=60)=decide (l.length<=60):=decide_eq_decide.mpr (by omega)
 have e3:decide ((62:Int)<(l.length:Int))=decide (62<l.length):=decide_eq_decide.mpr (by omega)
 have e4:decide ((14:Int)<(P.length:Int))=decide (14<P.length):=decide_eq_decide.mpr (by omega)
 have e5:decide ((P.length:Int)<=200)=decide (P.length<=200):=decide_eq_decide.mpr (by omega)
 have e6:decide ((202:Int)<(P.length:Int))=decide (202<P.length):=decide_eq_decide.mpr (by omega)
 simp only[mem0,xwd,x135,x1ga,x1gq,hs.one,hp.one,x1gr,xre,xs5,xrh,xri,xr9,Mem.get_new,x1fh,sLe_I,xry,xx0]
 simp only[x1f9,x1f0,x1fk,show Nat.beq 0 0=true from rfl,xre,rd_f,xr9,hs.len xt5,hp.len xt9,xx0,sLe_I,e1,e2,e3,e4,e5,e6]
 have hfe:few7 l P=bif(decide (8<l.length)&&decide (l.length<=60))||decide (62<l.length)||(decide (14<P.length)&&decide (P.length<=200))||decide (202<P.length)then false else xxx l:=rfl
 by_cases h62:62<l.length
 .have:¬l.length<=60:=by omega
  have h8:8<l.length:=by omega
  rw[hfe]
  simp[h62,this,h8,e1,e2,e3,hs.len xt5,hp.len xt9,Mem.get_new]
  exact RetF.st rfl rfl
 cases a1:decide (8<l.length)<;>cases a2:decide (l.length<=60)<;>cases a4:decide (14<P.length)<;>cases a5:decide (P.length<=200)<;>cases a6:decide (202<P.length) <;>
  simp only[a1,a2,a4,a5,a6,h62,x1g1,x1jb,Bool.and_false,x1gu,Bool.false_and,Bool.or_true,Bool.or_false,x1hq,x1i1,xre,xxu]at hfe <;>
  simp[a1,a2,a4,a5,a6,h62,e1,e2,e3,e4,e5,e6,hs.len xt5,hp.len xt9,Mem.get_new] <;>
  first
  |exact RetF.st rfl (by rw[hfe])
  |exact hb _ hfe (by omega)
theorem Edge.still(e:Edge):e.c.all still1=true:=rfl
theorem x1b1(d:Nat){a:AV}{l:List Int}(h:Ints a l)(hl:l.length<=1000000)(m:Mem):∃a',Ints a' l/\xr8 (xr4 (d+1)) xf [a] m=some (a',m):=by
 have hr:xrq l.length 8:=by unfold xrq;omega
 have he:=h.elems xrm
 by_cases h0:l=[]
 .subst h0
  refine⟨.slit [] 0 true,Sl.lit [] true,call0 (m':=⟨[],1⟩) (by simp[h.still]) ?_ rfl⟩
  rw[x7v]
  unfold x47 x37
  have hr0:xrq 0 8:=by unfold xrq;omega
  simp[mem0,he,xzm hr0]
 .have hq:l.length≠0:=by simpa using h0
  have hlen:=xu2 xrm l
  refine⟨.slit (l.flatMap intE) l.length false,Sl.lit l false,xw0 (m':=(⟨[],1⟩:Mem).new (0,3,5) (.row (l.flatMap intE) 0 false)) (r:=.sref (0,3,5) 0 0 l.length 1 true) (by simp[h.still]) ?_ ?_⟩
  .rw[x7v]
   unfold x47 x37
   simp[mem0,he,xzm hr,hq,h0]
  .have:=xvp (objs:=((⟨[],1⟩:Mem).new (0,3,5) (.row (l.flatMap intE) 0 false)).get) (id:=(0,3,5)) (cs:=l.flatMap intE) (ver:=0) (off:=0) (n:=l.length) (z:=1) (k:=4) (f:=false) (x:=true) (by simp) (by omega) (by
    rw[x1f0,x1f8 (by omega)];exact xv6 xto l)
   rw[x1f0,x1f8 (by omega)]at this
   exact this
def fewE:List Edge->Bool
 |[]=>true
 |e::r=>bif decide (20<e.wt)||decide (5<(e.jump.natAbs:Int))then false else fewE r
def few(n:Int)(l:List Edge):Bool:=
 bif !decide ((xur n l).2=0)then decide ((l.length:Int)<=16)||(decide (600<(l.length:Int))&&decide ((l.length:Int)<=602))
 else bif decide (10<n)||decide (16<(l.length:Int))then false else fewE l
theorem x115{α:Type}{enc:α->List AV}{z bytes:Nat}(hz:∀x,(enc x).length=z){a:AV}{l:List α}(h:Sl enc a l)(hr:xrq l.length bytes)(id:Id)(m:Mem) :
 (l=[]/\∀{R:Type} (k:AV->Mem->Option R),sApp z bytes id (elems m.get z a) (.slit [] 0 true) m k=k (.slit [] 0 true) m) \/
 (l≠[]/\∀{R:Type} (k:AV->Mem->Option R),sApp z bytes id (elems m.get z a) (.slit [] 0 true) m k=k (.sref id 0 0 l.length z true) (m.new id (.row (l.flatMap enc) 0 false))):=by
 have he:=h.elems hz m.get
 by_cases hq:l.length=0
 .refine .inl ⟨x1h9.mp hq,λk=>?_⟩
  rw[he,xzm hr,x1fy hq]
  rfl
 .refine .inr ⟨λe=>hq (by rw[e];rfl),λk=>?_⟩
  rw[he,xzm hr,x1h4 hq]
  rfl
theorem xx5{α:Type}{enc:α->List AV}{z k:Nat}(hz:∀x,(enc x).length=z)(hs:∀x,(enc x).all still1=true){objs:Id->Option Ob}{id:Id}{l:List α}{x:Bool}(hg:objs id=some (.row (l.flatMap enc) 0 false)) :
 frz objs (k+2) (.sref id 0 0 l.length z x)=some (.slit (l.flatMap enc) l.length false):=by
 have hl:=xu2 hz l
 have:=xvp (objs:=objs) (id:=id) (cs:=l.flatMap enc) (ver:=0) (off:=0) (n:=l.length) (z:=z) (k:=k) (f:=false) (x:=x) hg (by omega) (by
  rw[x1f0,x1f8 (by omega)];exact xv6 hs l)
 rw[x1f0,x1f8 (by omega)]at this
 exact this
theorem x116{objs:Id->Option Ob}{a b a' b':AV}{k:Nat}(ha:frz objs (k+1) a=some a')(hb:frz objs (k+1) b=some b'):frz objs (k+2) (.agg [a,b])=some (.agg [a',b']):=by
 show([a,b].mapM (frz objs (k+1))).map AV.agg=_
 simp only[x1fq,x1g8,ha,hb]
 rfl
theorem z_snet:xg2=[nilS,nilS]:=by kernel_rfl
theorem x1b2(d:Nat){s p:AV}{l:List Scene}{P:List Pq}(hs:Sl Scene.c s l)(hp:Sl Pq.c p P)(hl:l.length<=1000000)(hP:P.length<=1000000)(m:Mem) :
 ∃s' p',Sl Scene.c s' l/\Sl Pq.c p' P/\xr8 (xr4 (d+1)) x25 [.agg [s,p]] m=some (.agg [s',p'],m):=by
 have hr:xrq l.length 32:=by unfold xrq;omega
 have hr2:xrq P.length 16:=by unfold xrq;omega
 have key:RetF (λv=>∃s' p',v=.agg [s',p']/\Sl Scene.c s' l/\Sl Pq.c p' P) (xr4 (d+1) [] x25 [.agg [s,p]] mem0):=by
  rw[xld]
  unfold xdk x8g
  have a1:=λm=>x115 Scene.len hs hr (0,5,6) m
  have a2:=λm=>x115 Pq.len hp hr2 (0,9,10) m
  have hx:=hs.tX
  have hx2:=hp.tX
  simp[mem0,hs.one,hp.one,z_snet]
  generalize hm1:Mem.new _ _ _=m1
  rcases a1 m1 with ⟨rfl,h1⟩|⟨h0,h1⟩
  .simp only[h1]
   simp[<-hm1]
   rcases a2 m1 with ⟨rfl,h2⟩|⟨h02,h2⟩<;>rw[<-hm1]at h2
   .simp[h2,xrr,xsd,sLdP,tR,tA,hx,hx2,xr6,disj,<-hm1]
    exact RetF.st rfl ⟨_,_,rfl,Sl.lit [] true,Sl.lit [] true⟩
   .simp[h2,xrr,xsd,sLdP,tR,tA,hx,hx2,xr6,disj,<-hm1]
    refine RetF.mk (x116 rfl (xx5 (k:=3) Pq.len Pq.still (x:=true) (l:=P) ?_)) ⟨_,_,rfl,Sl.lit [] true,Sl.lit P false⟩
    simp
  .simp only[h1]
   simp[<-hm1]
   generalize hm2:Mem.new (Mem.new _ _ _) (0,5,6) _=m2
   rcases a2 m2 with ⟨rfl,h2⟩|⟨h02,h2⟩
   .simp only[h2]
    simp[xrr,xsd,sLdP,tR,tA,hx,hx2,xr6,disj,<-hm2]
    refine RetF.mk (x116 (xx5 (k:=3) Scene.len Scene.stillA (x:=true) (l:=l) ?_) rfl) ⟨_,_,rfl,Sl.lit l false,Sl.lit [] true⟩
    simp
   .simp only[h2]
    simp[xrr,xsd,sLdP,tR,tA,hx,hx2,xr6,disj,<-hm2]
    refine RetF.mk (x116 (xx5 (k:=3) Scene.len Scene.stillA (x:=true) (l:=l) ?_) (xx5 (k:=3) Pq.len Pq.still (x:=true) (l:=P) ?_)) ⟨_,_,rfl,Sl.lit l false,Sl.lit P false⟩<;>simp
 obtain⟨v,⟨s',p',rfl,h1,h2⟩,hc⟩:=xtg (by simp[hs.still1,hp.still1]) key m
 exact⟨s',p',h1,h2,hc⟩
end Go.Ix
namespace Go.Ix
variable{R:Type}{m:Mem}
theorem xuk:∀l:List Int,l.flatMap intE=l.map I
 |[]=>rfl
 |x::l=>by rw[x1fo,xuk l];rfl
theorem xul(l:List Int):(l.flatMap intE).length=l.length:=by rw[xuk];simp
def OwnI(m:Mem)(id:Id)(l:List Int):Prop:=m.get id=some (.row (l.flatMap intE) 0 false)
abbrev srI(id:Id)(n:Nat):AV:=.sref id 0 0 n 1 true
theorem xs7{id:Id}{n:Nat}{k:Int}(h0:0<=k)(hk:k<n):sIx 1 (srI id n) (I k)=some (.ptr id 0 k.toNat):=by
 simp[sIx,asI,h0,hk]
@[simp high] theorem xsv{l:List Int}{k:Nat}{fz:Bool}(hk:k<l.length):xwe false 1 0 k (some (.row (l.flatMap intE) 0 fz))=some (I (at0 l k)):=by
  simp only[xwe,x1f4,cond_true,rd,x1fu,x1fm]
  rw[xuk,<-x1if,xsj hk,xrn hk]
  rfl
@[simp high] theorem xtm{l:List Int}{k:Nat}{v:Int}(hk:k<l.length):xsz 1 0 k (I v) (some (.row (l.flatMap intE) 0 false))=some (.row ((l.set k v).flatMap intE) 0 false):=by
  have h:(0:Nat)=0/\(I v).cells.length=1/\k+1<=(l.flatMap intE).length/\((I v).cells.all AV.one)=true:=⟨rfl,rfl,by rw[xul];omega,rfl⟩
  rw[xuj,x1fy h,cond_true]
  simp only[xuk,xs3,x10u]
  congr 2
  rw[List.map_set,x1jh,x1ez (by simpa using hk)]
  simp
theorem xt0{l:List Int}{k j:Nat}{v:Int}(hk:k<l.length):at0 (l.set k v) j=if j=k then v else at0 l j:=by
 unfold at0
 rw[x1fd,x1fd,x1i3]
 by_cases h:k=j
 .subst h;simp[hk]
 .rw[x1ey h,x1ey (λe=>h e.symm)]
theorem zeros_int(n:Nat):xsc [I 0] (n*1)=(List.replicate n (0:Int)).flatMap intE:=by
 rw[xuk,x1gz]
 simp only[xsc,List.map_replicate]
 apply x1hr
 .simp
 .intro i h1 h2
  simp[Nat.mod_one]
theorem xzr(n k:Nat):at0 (List.replicate n 0) k=0:=by
 unfold at0
 rw[x1fd,x1ig]
 split<;>rfl
theorem xxy{n:Int}{id:Id}{k:AV->Mem->Option R}(h0:0<=n)(h1:n<=1000000):xsh [I 0] 1 8 (I n) (I n) id m k=k (srI id n.toNat) (m.new id (.row ((List.replicate n.toNat (0:Int)).flatMap intE) 0 false)):=by
 simp only[xsh,asI]
 rw[x1ez ⟨h0,x1ft _,by omega,by omega⟩,zeros_int]
theorem frz_own{l:List Int}{id:Id}(h:OwnI m id l):frz m.get deep (srI id l.length)=some (.slit (l.flatMap intE) l.length false):=by
 have hl:=xul l
 have:=xvp (objs:=m.get) (id:=id) (cs:=l.flatMap intE) (ver:=0) (off:=0) (n:=l.length) (z:=1) (k:=4) (f:=false) (x:=true) h (by omega) (by
  rw[x1f0,x1f8 (by omega)];exact xv6 xto l)
 rw[x1f0,x1f8 (by omega)]at this
 exact this
end Go.Ix
