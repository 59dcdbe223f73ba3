import Derived.Test.YtbcmiinhjgbkdaaGreatDoorWg13
import Derived.Test.YtbcmiinhjgbkdaaGreatDoorWg3
import Derived.Test.YtbcmiinhjgbkdaaGreatDoorWg2
import Derived.Test.YtbcmiinhjgbkdaaGreatDoorWg1
import Derived.ProofKit
set_option linter.unusedSimpArgs false
set_option linter.unusedVariables false
set_option maxRecDepth 10000
namespace Go.Ix
open Go.Proofs
theorem ldS{m:Mem}{i:Id}{x:AV}(h:m.get i=some (.row [x] 0 false))(hx:x.one=true):sLd false 1 (.ptr i 0 0) m=some x:=by
 rw[x11g h]
 simp[hx]
def twoM(ws:List (List UInt8)):Option (Int×Int):=match ws with
 |[u,v]=>match nbrM u 7,nbrM v 7 with
  |some a,some b=>some (a,b)
  |_,_=>none
 |_=>none
structure Into (m:Mem) (pid rid:Id) (pre:List AV) (a b:Int):Prop where
 p:m.get pid=some (.row [.ptr rid 0 pre.length,.ptr rid 0 (pre.length+1)] 0 false)
 r:m.get rid=some (.row (pre++[I a,I b]) 0 false)
 ne:pid≠rid
 one:pre.all AV.one=true
theorem u_pints:Tryz.prog.underlying x81=some (.slice xqq):=by kernel_rfl
theorem putA(pre:List AV)(a b n:Int):x11e (pre++[I a,I b]) pre.length [I n]=pre++[I n,I b]:=by
 unfold x11e
 simp
theorem putB(pre:List AV)(a b n:Int):x11e (pre++[I a,I b]) (pre.length+1) [I n]=pre++[I a,I n]:=by
 unfold x11e
 rw[show pre++[I a,I b]=(pre++[I a])++[I b] by simp,show pre.length+1=(pre++[I a]).length by simp,List.take_left]
 simp
variable{pid rid:Id}{pre:List AV}
theorem b_int7(d:Nat)(hs:FHs)(u:Nat)(rec0:x10v){x:AV}{ws:List (List UInt8)}(hx:Sl strE x ws)(hw:∀w∈ws,w.length<=100000){a b:Int}{m:Mem}(h:Into m pid rid pre a b){k:Nat}(hk:k<2){w:List UInt8}(hkw:ws[k]?=some w)(fc:Nat) :
 match nbrM w 7 with
 |some n=>x34 (x10p (d+3)) hs u rec0 x (.sref pid 0 0 2 1 true) (I 2) (I k) m fc=rec0 x (.sref pid 0 0 2 1 true) (I 2) (I (k+1:Nat)) (m.set rid (.row (pre++(if k=0 then[I n,I b]else[I a,I n])) 0 false)) (fc+42)
 |none=>x34 (x10p (d+3)) hs u rec0 x (.sref pid 0 0 2 1 true) (I 2) (I k) m fc=some (B false,m):=by
 have hlt:(k:Int)<2:=by omega
 have hkl:k<ws.length:=(x1mw.mp hkw).1
 have hwk:ws[k]=w:=(x1mw.mp hkw).2
 have hwl:w.length<=100000:=hw w (by rw[<-hwk];exact x1nc hkl)
 have hix:=hx.ix x13p hkl
 rw[x1nu hkl,hwk,x1mj]at hix
 simp only[strE,x1pp]at hix
 have hp:sIx 1 (.sref pid 0 0 2 1 true) (I k)=some (.ptr pid 0 k):=by
  simp only[sIx,asI]
  rw[x1m1 ⟨by omega,by omega,trivial⟩]
  simp
 have hld:sLd false 1 (.ptr pid 0 k) m=some (.ptr rid 0 (pre.length+k)):=by
  rw[x11g h.p]
  match k,hk with
  |0,_=>rfl
  |1,_=>rfl
 have w1:w64 ((k:Int)+1)=((k+1:Nat):Int):=by rw[x11k (by omega) (by omega)];omega
 have hst:∀(n:Int) {R:Type} (K:Mem->Option R),sSt 1 (.ptr rid 0 (pre.length+k)) (I n) m K=K (m.set rid (.row (pre++(if k=0 then[I n,I b]else[I a,I n])) 0 false)):=λn R K=>by
  rw[x124 (z:=1) (x:=I n) h.r rfl (by simp;omega) rfl]
  congr 2
  match k,hk with
  |0,_=>rw[x1m1 rfl];congr 1;exact putA pre a b n
  |1,_=>rw[x1m0 (by omega)];congr 1;exact putB pre a b n
 rw[<-tst_num w (by omega:7<=18)]
 unfold x34
 simp only[x11t,hlt,x1m6,x10r,x112,hp,hld,hix,x12c,rd_f,List.head?_cons]
 rcases w_Atoi (d+2) (l:=w) (by omega) m with ⟨n,hn,hA⟩|⟨hn,n,hA⟩
 .have hin:=atoi_in hn
  unfold tstM
  rw[hn]
  have hit:=λm=>w_Itoa (d+2) hin.1 hin.2 m
  simp only[hA,x10r,x144,x1nd,x1ne,nil_ne,x11p,x11y,x167,sW_f,x1md,x119,hit,x_ne,x11b,x11i,hix,x12c,rd_f,List.head?_cons]
  have hm1:mkM 0 [I n]=2:=rfl
  have hcap:∀q:List AV,cAp (some m.next) (tR (.plit q)) 2=true:=λq=>rfl
  by_cases c1:decM n=w
  .have hux:(unsg w).length<=w.length:=by unfold unsg;split<;>simp
   simp only[c1,x1m6,x1mh,x1md,x119,x10r,hix,x12c,rd_f,List.head?_cons,w_Trim,x120,x12x,x11b,x11i,true_and,hcap,hm1,show Nat.ble 1 2=true from rfl,x1ny]
   by_cases c2:(unsg w).length<=7
   .have c3:¬(7:Int)<(unsg w).length:=by omega
    rw[x1m1 c2]
    simp only[c3,x1m9,x116,sNil,x10r,hst,x12k,w1]
   .have c3:(7:Int)<(unsg w).length:=by omega
    rw[x1m0 c2]
    simp only[c3,x1m6,x112]
  .rw[x1m0 (by rintro⟨h,-⟩;exact c1 h)]
   simp only[c1,x1m9,x1md,x1mh,x119,x10r,x11b,x11i,x112,hcap,hm1,show Nat.ble 1 2=true from rfl,x1ny]
 .have ht:tstM w 7=none:=by
   unfold tstM
   split
   .rename_i q h;exact absurd h (hn q)
   .rfl
  rw[ht]
  have hm1:mkM 0 [U]=2:=rfl
  have hcap:cAp (some m.next) (tR U) 2=true:=rfl
  simp only[hA,x10r,x144,x1nd,x1ne,err_ne,x11p,x11y,x167,sW_f,x1mh,x11i,x11b,x119,x112,hcap,hm1,show Nat.ble 1 2=true from rfl,x1ny]
theorem x1eg(d:Nat)(hs:FHs){x:AV}{ws:List (List UInt8)}(hx:Sl strE x ws)(hw:∀w∈ws,w.length<=100000){m:Mem}(h:Into m pid rid pre 0 0) :
 ∃m' a b,x10p (d+4) hs xn [x,.sref pid 0 0 2 1 true] m=some (B (twoM ws).isSome,m')/\(∀q,twoM ws=some q->q=(a,b))/\m'.get rid=some (.row (pre++[I a,I b]) 0 false)/\m.next<=m'.next/\∀j,j≠rid->m'.get j=m.get j:=by
 rw[xuz]
 unfold x9s x82
 have hl2:sLen Tryz.prog x81 (.sref pid 0 0 2 1 true)=some (I 2):=by
  simp[sLen,u_pints]
 simp only[hx.len x153,hl2,x10r,x143]
 obtain⟨m1,hm1⟩:∃m1:Mem,m1=⟨m.hp,m.next+1⟩:=⟨_,rfl⟩
 have hI:Into m1 pid rid pre 0 0:=by subst hm1;exact⟨h.p,h.r,h.ne,h.one⟩
 have hg1:∀j,m1.get j=m.get j:=λj=>by subst hm1;rfl
 have hn1:m.next<=m1.next:=by subst hm1;exact x1om _
 rw[<-hm1]
 by_cases hlen:ws.length=2
 .have:(ws.length:Int)=2:=by omega
  simp only[this,x1m6,x1mh,x116]
  unfold xcg
  obtain⟨NM,hNM⟩:∃NM,NN=NM+3:=⟨NN-3,by have:=x12a;omega⟩
  simp only[hl2,x10r,hNM,x80]
  match ws,hlen with
  |[u,v],_=>
   have s0:=λR fc=>b_int7 d hs m.next R hx hw hI (k:=0) (by omega) (w:=u) rfl fc
   cases hu:nbrM u 7 with
   |none=>
    rw[hu]at s0
    simp only at s0
    rw[show(I 0)=I ((0:Nat):Int)from rfl,s0,show twoM [u,v]=none by simp[twoM,hu]]
    exact⟨m1,0,0,rfl,λq hq=>(by cases hq),hI.r,hn1,λj _=>hg1 j⟩
   |some a=>
    rw[hu]at s0
    simp only[x1mo]at s0
    rw[show(I 0)=I ((0:Nat):Int)from rfl,s0]
    obtain⟨m2,hm2⟩:∃m2:Mem,m2=m1.set rid (.row (pre++[I a,I 0]) 0 false):=⟨_,rfl⟩
    rw[<-hm2]
    have hI2:Into m2 pid rid pre a 0:=⟨by rw[hm2,Mem.get_set,x1m0 hI.ne];exact hI.p,by rw[hm2,Mem.get_set,x1m1 rfl],hI.ne,hI.one⟩
    have s1:=λR fc=>b_int7 d hs m.next R hx hw hI2 (k:=1) (by omega) (w:=v) rfl fc
    cases hv:nbrM v 7 with
    |none=>
     rw[hv]at s1
     simp only at s1
     rw[s1,show twoM [u,v]=none by simp[twoM,hu,hv]]
     refine⟨m2,a,0,rfl,λq hq=>(by cases hq),hI2.r,by rw[hm2];exact hn1,λj hj=>by rw[hm2,Mem.get_set,x1m0 hj];exact hg1 j⟩
    |some b=>
     rw[hv]at s1
     simp only[show ¬((1:Nat)=0)from by omega,x1mg]at s1
     rw[s1,show twoM [u,v]=some (a,b) by simp[twoM,hu,hv]]
     unfold x34
     simp only[x11t,show decide ((((1+1:Nat)):Int)<2)=false from rfl,x10r,x116]
     unfold xcf
     refine⟨_,a,b,rfl,λq hq=>(by cases hq;rfl),by rw[Mem.get_set,x1m1 rfl],by rw[hm2];exact hn1,λj hj=>by rw[Mem.get_set,x1m0 hj,hm2,Mem.get_set,x1m0 hj];exact hg1 j⟩
 .have hne:¬((ws.length:Int)=2):=by omega
  simp only[hne,x1m9,x1md,x112]
  have ht:twoM ws=none:=by
   unfold twoM
   split
   .exact absurd rfl hlen
   .rfl
  rw[ht]
  exact⟨m1,0,0,rfl,λq hq=>(by cases hq),hI.r,hn1,λj _=>hg1 j⟩
theorem InB.get{l:List Scene}(h:InB l){k:Nat}(hk:k<l.length):(0<=l[k].day/\l[k].day<=100000)/\(-100000<=l[k].bl/\l[k].bl<=100000):=h _ (x1nc hk)
theorem e_awake7:((x10p 30 [] x1z [] mem0).map (λp=>p.1))=some (B true):=by kernel_rfl
theorem w_awake7(m:Mem):x10o (x10p 30) x1z [] m=some (B true,m):=by
 have h:=e_awake7
 rw[x1m4]at h
 obtain⟨⟨r,m'⟩,h1,rfl⟩:=h
 exact call0 rfl h1 rfl
def x16f(l:List Scene):Bool:=l.all λs=>decide (s.nm.size<=20)
theorem Scene.stillA(s:Scene):s.c.all still1=true:=rfl
def Pq.v(p:Pq):Value:=.agg [.int .i64 p.a,.int .i64 p.b].toArray
def mpP(E:List (Pq×AV)):List (Value×AV):=E.map λx=>(x.1.v,x.2)
def lkP:List (Pq×AV)->Pq->Option AV
 |[],_=>none
 |x::r,p=>if p.same x.1=true then some x.2 else lkP r p
theorem x19d(p q:Pq):x126 p.v q.v=p.same q:=by
 unfold x126 Pq.v Pq.same
 simp[x15p]
 by_cases h:p.a=q.a<;>by_cases h2:p.b=q.b<;>simp[h,h2]
theorem find_mpP(E:List (Pq×AV))(p:Pq):findKey p.v (mpP E)=lkP E p:=by
 induction E with
 |nil=>rfl
 |cons x r ih=>
  unfold mpP at ih ⊢
  simp only[x1mm,findKey,lkP,x19d]
  rw[ih]
theorem set_mpP(E:List (Pq×AV))(p:Pq)(v:AV)(h:lkP E p=none):setKey p.v v (mpP E)=mpP (E++[(p,v)]):=by
 induction E with
 |nil=>rfl
 |cons x r ih=>
  simp only[lkP]at h
  unfold mpP at ih ⊢
  simp only[x1mm,x1np,setKey,x19d]
  by_cases c:p.same x.1=true
  .rw[x1m1 c]at h;cases h
  .rw[x1m0 c]at h
   rw[x1m0 c,ih h]
theorem chk_t(p:Pq):(x10w Tryz.prog (Instr.checkKey true 10000 xa p.v)).isSome=true:=by kernel_rfl
theorem chk_f(p:Pq):(x10w Tryz.prog (Instr.checkKey false 10000 xa p.v)).isSome=true:=by kernel_rfl
theorem equal_pq(p q:Pq):x10w Tryz.prog (Op.equal xa p.v q.v)=some (p.same q):=x1ay p q
theorem x1eh{d:TypeDesc}(hd:Tryz.prog.underlying xa=some d)(E:List (Pq×AV))(p:Pq):x14n Tryz.prog xa d p.v (mpP E)=true:=by
 obtain⟨fs,hf⟩:∃fs,d=.struct fs:=by
  have:((Tryz.prog.underlying xa).bind λd=>match d with | .struct fs=>some ()|_=>none)=some ():=by kernel_rfl
  rw[hd]at this
  cases d<;>first|exact⟨_,rfl⟩|cases this
 subst hf
 have h1:x19j Tryz.prog xa (.struct fs) p.v (mpP E)=true:=by
  show(x126 p.v p.v&&((x10w Tryz.prog (Instr.checkKey true 10000 xa p.v)).isSome&&(x10w Tryz.prog (Instr.checkKey false 10000 xa p.v)).isSome) &&
   (mpP E).all λe=>match e.1,x10w Tryz.prog (Op.equal xa p.v e.1)with
    | .agg _,some b=>b == x126 p.v e.1
    |_,_=>false)=true
  rw[chk_t,chk_f,x19d,Pq.same_self]
  simp only[x1oh,x1n6,x1m7]
  intro e he
  unfold mpP at he
  obtain⟨x,-,rfl⟩:=x1mz.mp he
  rw[equal_pq,x19d]
  show(p.same x.1 == p.same x.1)=true
  simp
 unfold x14n
 rw[h1,x1pe]
theorem x1ei(p:Pq):x118 (.agg p.c)=some p.v:=rfl
theorem um_pq:∃d,Tryz.prog.underlying xa=some d:=by
 obtain⟨d,h⟩:∃d,(Tryz.prog.underlying xa).isSome=d:=⟨_,rfl⟩
 have:(Tryz.prog.underlying xa).isSome=true:=by kernel_rfl
 exact x1p7.mp this
theorem look_pq{t et:TypeId}{z:AV}(ht:Tryz.prog.underlying t=some (.map xa et))(hz:x176 Tryz.prog et=some z)(id:Id)(E:List (Pq×AV))(p:Pq)(ok:Bool)(m:Mem)(h:m.get id=some (.map (mpP E))) :
 x15s Tryz.prog t (.mp id) (.agg p.c) ok m=some (if ok then .tup [(lkP E p).getD z,B (lkP E p).isSome]else(lkP E p).getD z):=by
 obtain⟨d,hd⟩:=um_pq
 unfold x15s
 simp only[ht,x1ei,hd,hz,x146,h]
 rw[x1m1 (x1eh hd E p),find_mpP]
theorem up_pq{R:Type}{t et:TypeId}(ht:Tryz.prog.underlying t=some (.map xa et))(id:Id)(E:List (Pq×AV))(p:Pq)(v:AV)(m:Mem)(k:Mem->Option R)(h:m.get id=some (.map (mpP E)))(hn:lkP E p=none) :
 x15a Tryz.prog t (.mp id) (.agg p.c) v m k=k (m.set id (.map (mpP (E++[(p,v)])))):=by
 obtain⟨d,hd⟩:=um_pq
 unfold x15a
 simp only[ht,x1ei,hd,h]
 rw[x1m1 (x1eh hd E p),set_mpP E p v hn]
theorem lkP_app(E:List (Pq×AV))(p q:Pq)(v:AV)(h:lkP E p=none):lkP (E++[(p,v)]) q=if q.same p=true then some v else lkP E q:=by
 induction E with
 |nil=>simp[lkP]
 |cons x r ih=>
  simp only[lkP,x1np]at h ⊢
  by_cases c:p.same x.1=true
  .rw[x1m1 c]at h;cases h
  .rw[x1m0 c]at h
   rw[ih h]
   by_cases e:q.same x.1=true
   .rw[x1m1 e,x1m0,x1m1 e]
    intro e2
    rw[Pq.same_iff]at e e2 c
    exact c (by rw[<-e2,e])
   .rw[x1m0 e,x1m0 e]
def x14j(n:Int)(P:List Pq):Nat->List Pq->Int×Int
 |_,[]=>(0,0)
 |k,p::r=>
  bif !(wi p.a 0 (n-1))||!(wi p.b 0 (n-1))then((k:Int),6)
  else bif decide (p.b<=p.a)then((k:Int),9)
  else bif(P.take k).any (λq=>q.same p)then((k:Int),28)
  else x14j n P (k+1) r
def net7(l:List Scene)(P:List Pq):Int×Int:=bif !decide ((x12u l).2=0)then x12u l else bif decide (200<P.length)then(0,8)else x14j l.length P 0 P
theorem zv_bool:x176 Tryz.prog x8t=some (B false):=by kernel_rfl
theorem um_pb:Tryz.prog.underlying xaa=some (.map xa x8t):=by kernel_rfl
theorem x1ej{P:List Pq}{k:Nat}(hk:k<P.length)(q:Pq):(P.take (k+1)).any (λx=>x.same q)=((P.take k).any (λx=>x.same q)||P[k].same q):=by
 rw[List.take_succ_eq_append_getElem hk,List.any_append]
 simp
theorem same_symm{p q:Pq}:p.same q=q.same p:=by
 rw[Bool.eq_iff_iff,Pq.same_iff,Pq.same_iff]
 exact eq_comm
def Seen(P:List Pq)(k:Nat)(E:List (Pq×AV)):Prop:=∀q,lkP E q=bif(P.take k).any (λx=>x.same q)then some (B true)else none
theorem x1h8(d s24:Nat){s p:AV}{l:List Scene}{P:List Pq}(hs:Sl Scene.c s l)(hp:Sl Pq.c p P)(hl:l.length<=60)(hP:P.length<=200){T:Int×Int} :
 ∀(n k:Nat) (x:Unit) (m:Mem) (fc:Nat),k<=P.length->P.length<n+k->(m.get (0,0,1)=some (.row [s,p] 0 false)/\(∃E,m.get (0,s24,24)=some (.map (mpP E))/\Seen P k E)/\x14j l.length P k (P.drop k)=T) ->
 RetF (λv=>v=.tup [I T.1,I T.2]) (x1r (x10p (d+2)) [] 0 n (.ptr (0,0,1) 0 0) (.mp (0,s24,24)) p (I P.length) (I k) m fc):=by
 refine loopW (λn k _ m fc=>x1r (x10p (d+2)) [] 0 n (.ptr (0,0,1) 0 0) (.mp (0,s24,24)) p (I P.length) (I k) m fc)
  (λk _ m=>m.get (0,0,1)=some (.row [s,p] 0 false)/\(∃E,m.get (0,s24,24)=some (.map (mpP E))/\Seen P k E)/\x14j l.length P k (P.drop k)=T) _ ?_ ?_
 .rintro n k-m fc hk ⟨hg,⟨E,hE,hS⟩,hT⟩ next
  have hk':(k:Int)<(P.length:Int):=by omega
  have ix:=hp.ix Pq.len hk
  have ld:=x15l (m:=m) Pq.len (by omega) hk
  rw[x151 hk]at hT
  have hta:=x1ej hk
  generalize P[k]=e at ld hT hta
  simp only[x1r]
  unfold x6j
  simp only[x11t,hk',x1m6,x112,x10r,ix,ld,x14h,x16c,sSt_ptr,Mem.get_new,x1mo,x18y]
  simp(disch:=omega) [Pq.c]
  generalize hm1:Mem.set _ _ _=m1
  have h1:m1.get (0,0,1)=some (.row [s,p] 0 false):=by rw[<-hm1];simp[hg]
  have h8:m1.get (0,fc+4,8)=some (.row [I e.a,I e.b] 0 false):=by rw[<-hm1];simp
  have h24:m1.get (0,s24,24)=some (.map (mpP E)):=by rw[<-hm1];simp[hE]
  have hlk:=look_pq um_pb zv_bool (0,s24,24) E e false m1 h24
  have hse:=hS e
  simp[hg,hs.len x12b]
  rw[x11k (by omega) (by omega)]
  simp[x193]
  simp only[x14j]at hT
  cases c1:wi e.a 0 ((l.length:Int)-1)with
  |false=>
   simp[c1]at hT ⊢
   exact RetF.tup rfl (by rw[<-hT])
  |true=>
   simp[h8,x193]
   cases c2:wi e.b 0 ((l.length:Int)-1)with
   |false=>
    simp[c1,c2]at hT ⊢
    exact RetF.tup rfl (by rw[<-hT])
   |true=>
    simp[c1,c2]at hT
    simp[h8]
    by_cases c3:e.b<=e.a
    .simp[c3]at hT ⊢
     exact RetF.tup rfl (by rw[<-hT])
    .simp[c3]at hT
     simp[c3,h8]
     rw[show AV.agg [I e.a,I e.b]=.agg e.c from rfl,hlk,hse]
     cases c4:(P.take k).any λx=>x.same e with
     |true=>
      simp[c4]at hT ⊢
      exact RetF.tup rfl (by rw[<-hT])
     |false=>
      rw[c4]at hT hse
      simp[h8]
      rw[up_pq um_pb (0,s24,24) E e (B true) m1 _ h24 hse]
      refine next () _ _ ⟨by simp[h1],⟨E++[(e,B true)],by simp,λq=>?_⟩,hT⟩
      rw[lkP_app E e q _ hse,hta q,hS q,same_symm (p:=e)]
      cases q.same e<;>cases(P.take k).any λx=>x.same q<;>rfl
 .rintro n-m fc ⟨hg,-,hT⟩
  have hk:¬((P.length:Int)<(P.length:Int)):=by omega
  simp only[x1r]
  unfold x6j xa9
  rw[x1nt (x1m8 _)]at hT
  simp[hk]
  exact RetF.tup rfl (by rw[<-hT];rfl)
theorem x1ek(d:Nat){s p:AV}{l:List Scene}{P:List Pq}(hs:Sl Scene.c s l)(hp:Sl Pq.c p P)(m:Mem):x10o (x10p (d+5)) x12 [.agg [s,p]] m=some (.tup [I (net7 l P).1,I (net7 l P).2],m):=by
 refine x16a (by simp[hs.still1,hp.still1]) ?_ m
 rw[xu4]
 unfold x8w x6k net7
 simp[hs.one,hp.one,mem0,x1gt d hs]
 by_cases he:(x12u l).2=0
 .obtain⟨hl,-⟩:=x1az he
  simp[he,hp.len x130]
  by_cases h200:200<P.length
  .have h2:(200:Int)<(P.length:Int):=by omega
   simp[h200,h2]
   exact RetF.tup rfl rfl
  .have h2:¬(200:Int)<(P.length:Int):=by omega
   simp[h200,h2,x187]
   unfold xab
   simp[hp.len x130]
   exact x1h8 (d+2) 17 hs hp hl (by omega) NN 0 () _ _ (by omega) (by rw[x12a];omega) ⟨by simp,⟨[],by simp;rfl,λq=>by simp[lkP]⟩,by simp⟩
 .simp[he]
  exact RetF.tup rfl rfl
theorem x1be(d:Nat){s p:AV}{l:List Scene}{P:List Pq}(hs:Sl Scene.c s l)(hp:Sl Pq.c p P)(m:Mem):x10o (x10p (d+6)) xq [.agg [s,p]] m=some (I (net7 l P).2,m):=by
 refine x16a (by simp[hs.still1,hp.still1]) ?_ m
 rw[xue]
 unfold x96 x74
 simp[hs.one,hp.one,mem0,x1ek d hs hp]
 exact RetF.st rfl rfl
theorem x1h9(d:Nat){s p:AV}{P:List Pq}(hp:Sl Pq.c p P)(hP:P.length<=200){i:Nat}(hi:i<P.length){e:Pq}(s7:Nat)(rec0:AV->AV->Mem->Nat->O2)(Q:O2->Prop){m:Mem}(hg:m.get (0,0,1)=some (.row [s,p] 0 false))(h7:m.get (0,s7,7)=some (.row [I e.a,I e.b] 0 false))(ht:(P.take i).any (λx=>x.same e)=true->Q (some (.tup [I i,I 28],m)))(hf:(P.take i).any (λx=>x.same e)=false->∀fc,Q (rec0 (.ptr (0,0,1) 0 0) (I ((i:Int)+1)) m fc)) :
 ∀(n k:Nat) (x:Unit) (m':Mem) (fc:Nat),k<=i->i<n+k->(m'=m/\(P.take k).any (λx=>x.same e)=false) ->
 Q (x1s (x10p (d+1)) [] 0 rec0 n (.ptr (0,0,1) 0 0) (I i) (.ptr (0,s7,7) 0 0) (I k) m' fc):=by
 refine loopW (λn k _ m fc=>x1s (x10p (d+1)) [] 0 rec0 n (.ptr (0,0,1) 0 0) (I i) (.ptr (0,s7,7) 0 0) (I k) m fc) (λk _ m'=>m'=m/\(P.take k).any (λx=>x.same e)=false) Q ?_ ?_
 .rintro n k-m' fc hk ⟨rfl,hA⟩ next
  have hk':(k:Int)<(i:Int):=by omega
  have hk2:k<P.length:=by omega
  have ix:=hp.ix Pq.len hk2
  have ld:=x15l (m:=m') Pq.len (by omega) hk2
  have hta:=x1ej hk2 e
  have hts:P[k].same e=true->(P.take i).any (λx=>x.same e)=true:=λh=>by
   rw[x1pu]
   exact⟨P[k],by rw[List.mem_take_iff_getElem];exact⟨k,by omega,rfl⟩,h⟩
  generalize P[k]=y at ld hta hts
  have heq:=eq_pair7 (.tmp 69) (.tmp 70) y e
  simp only[x1s]
  unfold x6p
  simp[hk',hg,ix,ld,h7]
  rw[show AV.agg [I e.a,I e.b]=.agg e.c from rfl,heq]
  cases c:y.same e with
  |true=>
   simp
   exact ht (hts c)
  |false=>
   simp(disch:=omega) [x11k]
   exact next () _ _ ⟨rfl,by rw[hta,hA,c];rfl⟩
 .rintro n-m' fc ⟨rfl,hA⟩
  simp only[x1s]
  unfold x6p xag
  simp(disch:=omega) [x11k]
  exact hf hA _
theorem x1ha(d:Nat){s p:AV}{l:List Scene}{P:List Pq}(hs:Sl Scene.c s l)(hp:Sl Pq.c p P)(hl:l.length<=60)(hP:P.length<=200){T:Int×Int} :
 ∀(n k:Nat) (x:Unit) (m:Mem) (fc:Nat),k<=P.length->P.length<n+k->(m.get (0,0,1)=some (.row [s,p] 0 false)/\x14j l.length P k (P.drop k)=T) ->
 RetF (λv=>v=.tup [I T.1,I T.2]) (x18 (x10p (d+1)) [] 0 n (.ptr (0,0,1) 0 0) (I k) m fc):=by
 refine loopW (λn k _ m fc=>x18 (x10p (d+1)) [] 0 n (.ptr (0,0,1) 0 0) (I k) m fc)
  (λk _ m=>m.get (0,0,1)=some (.row [s,p] 0 false)/\x14j l.length P k (P.drop k)=T) _ ?_ ?_
 .rintro n k-m fc hk ⟨hg,hT⟩ next
  have hk':(k:Int)<(P.length:Int):=by omega
  have ix:=hp.ix Pq.len hk
  have ld:=x15l (m:=m) Pq.len (by omega) hk
  rw[x151 hk]at hT
  generalize P[k]=e at ld hT
  simp only[x18]
  unfold x6q xah
  simp[hg,hp.len x130,hs.len x12b,hk',ix,ld,x16c,Pq.c]
  rw[x11k (by omega) (by omega)]
  simp[x191]
  generalize hm1:Mem.set _ _ _=m1
  have h1:m1.get (0,0,1)=some (.row [s,p] 0 false):=by rw[<-hm1];simp[hg]
  have h7:m1.get (0,fc+5+5,7)=some (.row [I e.a,I e.b] 0 false):=by rw[<-hm1];simp
  simp only[x14j]at hT
  cases c1:wi e.a 0 ((l.length:Int)-1)with
  |false=>
   simp[c1]at hT ⊢
   exact RetF.tup rfl (by rw[<-hT])
  |true=>
   simp[h7,h1,hs.len x12b]
   rw[x11k (by omega) (by omega)]
   simp[x191]
   cases c2:wi e.b 0 ((l.length:Int)-1)with
   |false=>
    simp[c1,c2]at hT ⊢
    exact RetF.tup rfl (by rw[<-hT])
   |true=>
    simp[c1,c2]at hT
    simp[h7]
    by_cases c3:e.b<=e.a
    .simp[c3]at hT ⊢
     exact RetF.tup rfl (by rw[<-hT])
    .simp[c3]at hT
     simp[c3]
     refine x1h9 d (s:=s) hp hP hk (fc+5+5) (x18 (x10p (d+1)) [] 0 n) _ h1 h7 (λha=>?_) (λha fc=>?_) NN 0 () m1 _ (by omega) (by rw[x12a];omega) ⟨rfl,by simp⟩
     .simp[ha]at hT
      exact RetF.tup rfl (by rw[<-hT])
     .rw[ha]at hT
      exact next () m1 fc ⟨h1,hT⟩
 .rintro n-m fc ⟨hg,hT⟩
  have hk:¬((P.length:Int)<(P.length:Int)):=by omega
  simp only[x18]
  unfold x6q xaf
  rw[x1nt (x1m8 _)]at hT
  simp[hk,hg,hp.len x130]
  exact RetF.tup rfl (by rw[<-hT];rfl)
theorem x1el(d:Nat){s p:AV}{l:List Scene}{P:List Pq}(hs:Sl Scene.c s l)(hp:Sl Pq.c p P)(m:Mem):x10o (x10p (d+3)) x13 [.agg [s,p]] m=some (.tup [I (net7 l P).1,I (net7 l P).2],m):=by
 refine x16a (by simp[hs.still1,hp.still1]) ?_ m
 rw[xu7]
 unfold x8z x6r net7
 simp[hs.one,hp.one,mem0,x1gw d hs]
 by_cases he:(x12u l).2=0
 .obtain⟨hl,-⟩:=x1az he
  simp[he,hp.len x130]
  by_cases h200:200<P.length
  .have h2:(200:Int)<(P.length:Int):=by omega
   simp[h200,h2]
   exact RetF.tup rfl rfl
  .have h2:¬(200:Int)<(P.length:Int):=by omega
   simp[h200,h2]
   unfold xai
   exact x1ha (d+1) hs hp hl (by omega) NN 0 () _ _ (by omega) (by rw[x12a];omega) ⟨by simp,by simp⟩
 .simp[he]
  exact RetF.tup rfl rfl
theorem w_Err7(d:Nat){s p:AV}{l:List Scene}{P:List Pq}(hs:Sl Scene.c s l)(hp:Sl Pq.c p P)(m:Mem):x10o (x10p (d+4)) x1n [.agg [s,p]] m=some (I (net7 l P).2,m):=by
 refine x16a (by simp[hs.still1,hp.still1]) ?_ m
 rw[xup]
 unfold x9g x7m
 simp[hs.one,hp.one,mem0,x1el d hs hp]
 exact RetF.st rfl rfl
def few7(l:List Scene)(P:List Pq):Bool:=
 bif(decide (8<l.length)&&decide (l.length<=60))||decide (62<l.length)||(decide (14<P.length)&&decide (P.length<=200))||decide (202<P.length)then false else x16f l
theorem few7_len{l:List Scene}{P:List Pq}(h:few7 l P=true):l.length<=62/\P.length<=202:=by
 unfold few7 at h
 by_cases h1:62<l.length
 .simp[h1]at h
 .by_cases h2:202<P.length
  .simp[h2]at h
  .omega
theorem w_Few7(d:Nat){s p:AV}{l:List Scene}{P:List Pq}(hs:Sl Scene.c s l)(hp:Sl Pq.c p P)(m:Mem):x10o (x10p (d+1)) x20 [.agg [s,p]] m=some (B (few7 l P),m):=by
 refine x16a (by simp[hs.still1,hp.still1]) ?_ m
 rw[xu3]
 unfold x8v x6i
 have hb:∀fc,few7 l P=x16f l->l.length<=62->RetF (λv=>v=B (few7 l P)) (x6h (x10p d) [] 0 (.ptr (0,0,1) 0 0) (((⟨[],1⟩:Mem).new (0,0,1) (.row [s,p] 0 false))) fc):=λfc he hl=>by
  rw[he]
  unfold x6h
  obtain⟨m0,hm0⟩:∃m0,m0=(⟨[],1⟩:Mem).new (0,0,1) (.row [s,p] 0 false):=⟨_,rfl⟩
  have hg:m0.get (0,0,1)=some (.row [s,p] 0 false):=by rw[hm0];simp
  rw[<-hm0]
  refine loopW (N:=l.length) (σ:=Unit) (λn k _ m fc=>x2r (x10p d) [] 0 n (.ptr (0,0,1) 0 0) (I k) m fc) (λk _ m=>m=m0/\x16f l=x16f (l.drop k)) _ ?_ ?_ NN 0 () m0 _ (by omega) (by rw[x12a];omega) ⟨rfl,by simp⟩
  .rintro n k-m fc hk ⟨rfl,hS⟩ next
   have hk':(k:Int)<(l.length:Int):=by omega
   have ix:=hs.ix Scene.len hk
   have f1:=ld_fld (enc:=Scene.c) (m:=m) hk 0 rfl
   simp only[x1mi]at f1
   have hS':x16f l=(decide (l[k].nm.size<=20)&&x16f (l.drop (k+1))):=by rw[hS,x151 hk];rfl
   simp only[x2r]
   unfold x6g
   simp only[hg,hs.len x12b,x12z,x18z,x1at,x10r,x11t]
   simp[hs.len x12b,hk',ix,f1]
   by_cases c:(20:Int)<(l[k].nm.size:Int)
   .simp[c]
    exact RetF.st rfl (by rw[hS',x1oe (show ¬l[k].nm.size<=20 by omega)];rfl)
   .simp(disch:=omega) [c,x11k]
    refine next () m _ ⟨rfl,?_⟩
    rw[hS',x1n8 (show l[k].nm.size<=20 by omega)];rfl
  .rintro n-m fc ⟨rfl,hS⟩
   have hk:¬((l.length:Int)<(l.length:Int)):=by omega
   simp only[x2r]
   unfold x6g xa8
   rw[x1nt (x1m8 _)]at hS
   simp[hg,hs.len x12b,hk]
   exact RetF.st rfl (by rw[hS];rfl)
 have e1:decide ((8:Int)<(l.length:Int))=decide (8<l.length):=decide_eq_decide.mpr (by omega)
 have e2:decide ((l.length:Int)<=60)=decide (l.length<=60):=decide_eq_decide.mpr (by omega)
 have e3:decide ((62:Int)<(l.length:Int))=decide (62<l.length):=decide_eq_decide.mpr (by omega)
 have e4:decide ((14:Int)<(P.length:Int))=decide (14<P.length):=decide_eq_decide.mpr (by omega)
 have e5:decide ((P.length:Int)<=200)=decide (P.length<=200):=decide_eq_decide.mpr (by omega)
 have e6:decide ((202:Int)<(P.length:Int))=decide (202<P.length):=decide_eq_decide.mpr (by omega)
 simp only[mem0,x168,x11z,x1n4,x1oz,hs.one,hp.one,x1oh,x119,x12z,x18z,x1at,x10r,Mem.get_new,x1mo,x16s,x11t,x12x]
 simp only[x1mn,x1mi,x1oo,show Nat.beq 0 0=true from rfl,x119,rd_f,x10r,hs.len x12b,hp.len x130,x12x,x16s,e1,e2,e3,e4,e5,e6]
 have hfe:few7 l P=bif(decide (8<l.length)&&decide (l.length<=60))||decide (62<l.length)||(decide (14<P.length)&&decide (P.length<=200))||decide (202<P.length)then false else x16f l:=rfl
 by_cases h62:62<l.length
 .have:¬l.length<=60:=by omega
  have h8:8<l.length:=by omega
  rw[hfe]
  simp[h62,this,h8,e1,e2,e3,hs.len x12b,hp.len x130,Mem.get_new]
  exact RetF.st rfl rfl
 cases a1:decide (8<l.length)<;>cases a2:decide (l.length<=60)<;>cases a4:decide (14<P.length)<;>cases a5:decide (P.length<=200)<;>cases a6:decide (202<P.length) <;>
  simp only[a1,a2,a4,a5,a6,h62,x1m9,x1ny,Bool.and_false,x1n6,x1qa,x1pe,Bool.or_false,Bool.true_or,Bool.false_or,x119,x11i]at hfe <;>
  simp[a1,a2,a4,a5,a6,h62,e1,e2,e3,e4,e5,e6,hs.len x12b,hp.len x130,Mem.get_new] <;>
  first
  |exact RetF.st rfl (by rw[hfe])
  |exact hb _ hfe (by omega)
end Go.Ix
