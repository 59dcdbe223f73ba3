import Derived.Test.YtdfahbenacjgeaaWg3
import Derived.Test.YtdfahbenacjgeaaWg2
import Derived.Test.YtdfahbenacjgeaaWg1
import Derived.Test.YtdfahbenacjgeaaWg0
import Derived.ProofKit
set_option linter.unusedSimpArgs false
set_option linter.unusedVariables false
namespace Go.Ix
open Go.Proofs
theorem l_isName8(call:qI)(hs:FHs)(u:Nat){s:ByteArray}(hl:s.size<=12)(h0:0<s.size):∀(suf:List UInt8) (k j:Nat) (m:Mem) (fc:Nat),s.data.toList.drop k=suf->suf.length<j->wL k suf=true ->
 cL call hs u j (T s) (I s.size) (I k) m fc=some (B true,m):=by
 have hsz:s.data.toList.length=s.size:=rfl;have e0:teq s ⟨#[]⟩=false:=by
  unfold teq;rw[ByteArray.toList_eq,ByteArray.toList_eq];cases hs:s.data.toList with
  |nil=>have:s.size=0:=(by show s.data.size=0;rw[<-xdk,hs];rfl);omega
  |cons x r=>simp
 intro suf;induction suf with
 |nil=>
  intro k j m fc hd hj hn;obtain⟨j,rfl⟩:∃i,j=i+1:=⟨j-1,by simp at hj;omega⟩;have hk:¬((k:Int)<(s.size:Int)):=(by have:=xe7.mp hd;omega);have e1:∀x y,qT Try.prog .neq aB x y (T s) (T ⟨#[]⟩)=some (B (!(teq s ⟨#[]⟩))):=λx y=>by kernel_rfl
  simp only[cL];unfold jJ pH;have e1':∀x y,qT Try.prog .neq aB x y (T s) (AV.sc (.string ⟨#[]⟩))=some (B true):=λx y=>by have:=e1 x y;rw[e0]at this;exact this
  have h12:(s.size:Int)<=12:=(by omega);simp[hk,e1',h12]
 |cons e r ih=>
  intro k j m fc hd hj hn;obtain⟨j,rfl⟩:∃i,j=i+1:=⟨j-1,by simp at hj;omega⟩;obtain⟨hk,he,hd⟩:=d6 hd;have hk':(k:Int)<(s.size:Int):=(by omega);have ix:=idx_T hk;simp only[wL,xc6]at hn;obtain⟨hn1,hn2⟩:=hn;have next:∀fc,cL call hs u j (T s) (I s.size) (I (w64 ((k:Int)+1))) m fc=some (B true,m):=λfc=>by rw[qQ (by omega) (by omega)];exact ih (k+1) j m fc hd (by simp at hj;omega) hn2
  rw[he]at ix;simp only[cL];unfold jJ;simp only[qV,sK,hk',xcc,sM,ix,A7];simp only[chOK]at hn1;generalize (e.toNat:Int)=c at *
  by_cases a1:97<=c<;>by_cases a2:c<=122<;>by_cases b1:65<=c<;>by_cases b2:c<=90<;>by_cases d1:c<48<;>by_cases d2:57<c<;>by_cases d0:c=45 <;>
   first
   |(exfalso;omega)
   |(have d1':(48<=c)=¬(c<48):=by rw[Int.not_lt]
     have d2':(c<=57)=¬(57<c):=by rw[Int.not_lt]
     by_cases hp:k=0<;>simp[a1,a2,b1,b2,d1,d2,d1',d2',d0,hp,xgd]at hn1<;>simp[a1,a2,b1,b2,d1,d2,d1',d2',d0,hp,xgd,A7,K7,K8,u8_ne,u8_lt,u8_gt,next]<;>(subst hp;have:=next (fc+42);simpa using this))
theorem w_isName8(d:Nat){s:ByteArray}(hn:tJ s=true)(m:Mem):qK (qG (d+1)) dG [T s] m=some (B true,m):=by refine call0 rfl (m':=⟨[],1⟩) ?_ rfl;rw[x1v];unfold tJ at hn;simp only[xc6,xer]at hn;have hsz:s.data.toList.length=s.size:=rfl;have hL:=l_isName8 (qG d) [] 0 (s:=s) hn.1.2 hn.1.1 s.data.toList 0 NN ⟨[],1⟩ (fc:=4) rfl (by rw[rQ];omega) hn.2;unfold mB jK pI;simp[mem0];exact hL
theorem xa1(d:Nat){s:ByteArray}{a:AV}{l:List Ep}(h:Sl Ep.c a l)(hn:tJ s=true)(m:Mem) :
 qK (qG (d+3)) dC [.agg [T s,a]] m=some (I (sH s l),m):=by
 refine tM (by simp[h.still1]) ?_ m;rw[x1m];unfold lS iX;generalize hm1:(⟨[],1⟩:Mem).new (0,0,1) (.row [T s,a] 0 false)=m1;have g1:m1.get (0,0,1)=some (.row [T s,a] 0 false):=(by rw[<-hm1];simp);simp[mem0,h.one,hm1,g1,w_isName8 _ hn];unfold sH;simp[hn,g1,h.len uA];by_cases h0:l.length=0
 .have h0':l=[]:=xdy.mp h0;simp[h0'];exact RetF.st rfl rfl
 have h0':¬l=[]:=λe=>h0 (by rw[e];rfl)
 simp[h0,h0'];by_cases h20:20<l.length
 .have h20':(20:Int)<(l.length:Int):=(by omega);simp[h20,h20',g1,h.len uA];exact RetF.st rfl rfl
 have h20':¬(20:Int)<(l.length:Int):=(by omega);simp[h20,h20',g1,h.len uA];unfold pB;simp[g1,h.len uA];refine tW (N:=l.length) (σ:=Unit) (λn k _ m fc=>bG (qG (d+2)) [] 0 n (.ptr (0,0,1) 0 0) a (I l.length) (I k) m fc) (λk _ m=>m.get (0,0,1)=some (.row [T s,a] 0 false)/\uS l 0 l=uS l k (l.drop k)) _ ?_ ?_ NN 0 () m1 _ (by omega) (by rw[rQ];omega) ⟨g1,rfl⟩
 .rintro n k-m fc hk ⟨hm,hE⟩ next;have hk':(k:Int)<(l.length:Int):=(by omega);have ix:=h.ix Ep.len hk;have ld:=λm=>vW (m:=m) Ep.len (by omega) hk
  have ix0:sIx 4 a (I 0)=some (.plit (l.flatMap Ep.c)):=(by simpa using h.ix Ep.len (show 0<l.length by omega));have ld0:∀m,sLd false 1 (.plit (l.flatMap Ep.c)) m=some (I (sP l 0)):=λm=>by have:=wK (enc:=Ep.c) (m:=m) (l:=l) (show 0<l.length by omega) 0 (v:=I (sP l 0)) (by rw[B1 (by omega)];rfl);simpa using this
  rw[uO hk,uS]at hE;have hfin:∀(z:Int) (m':Mem),epE l k l[k]=z->z≠0->RetF (λv=>v=I (uS l 0 l)) (some (I z,m')):=λz m' hz h0=>by rw[hE,hz];simp only[h0,xd2,uZ];exact RetF.st rfl rfl
  have hgo:∀(m':Mem) fc',m'.get (0,0,1)=some (.row [T s,a] 0 false)->epE l k l[k]=0->RetF (λv=>v=I (uS l 0 l)) (bG (qG (d+2)) [] 0 n (.ptr (0,0,1) 0 0) a (I l.length) (I ((k:Int)+1)) m' fc'):=λm' fc' g hz=>by refine next () m' fc' ⟨g,?_⟩;rw[hE,hz];rfl
  generalize hee:l[k]=e at *
  simp only[bG];unfold iW;simp[hm,h.len uA,hk,ix,ld,z_epoch,Ep.c];generalize hm2:Mem.set _ _ _=m2;have g2:m2.get (0,fc+4,4)=some (.row e.c 0 false):=(by rw[<-hm2];simp[Ep.c]);have g20:m2.get (0,0,1)=some (.row [T s,a] 0 false):=(by rw[<-hm2];simp[hm]);simp[g2,Ep.c,T6];cases c1:wi e.day 0 100000 with
  |false=>simp;exact hfin 2 _ (by simp[epE,uR,c1]) (by omega)
  |true=>
  simp[g2,Ep.c,T7];cases c2:wi e.bl (-100) 100 with
  |false=>simp;exact hfin 2 _ (by simp[epE,uR,c1,c2]) (by omega)
  |true=>
  simp[g2,Ep.c,T7];cases c3:wi e.ph (-16000) 16000 with
  |false=>simp;exact hfin 2 _ (by simp[epE,uR,c1,c2,c3]) (by omega)
  |true=>
  simp[g2,Ep.c,T6];cases c4:wi e.mg 0 2048 with
  |false=>simp;exact hfin 2 _ (by simp[epE,uR,c1,c2,c3,c4]) (by omega)
  |true=>
  have hb:uR e=false:=(by simp[uR,c1,c2,c3,c4]);have fin2:∀fc',(0<k->sP l (k-1)<e.day)->RetF (λv=>v=I (uS l 0 l)) (bif decide (400<w64 (e.day-sP l 0))then some (I 8,m2)else bG (qG (d+2)) [] 0 n (.ptr (0,0,1) 0 0) a (I l.length) (I ((k:Int)+1)) m2 fc'):=λfc' hp=>by
   have hp2:(decide (0<k)&&decide (e.day<=sP l (k-1)))=false:=by
    by_cases h1:0<k
    .have:=hp h1;simp[h1];omega
    .simp[h1]
   by_cases c6:400<w64 (e.day-sP l 0)
   .simp only[c6,xcc,sN];exact hfin 8 _ (by unfold epE sW2;rw[hb,hp2];simp[c6]) (by omega)
   .simp only[c6,xd2,uZ];exact hgo _ _ g20 (by unfold epE sW2;rw[hb,hp2];simp[c6])
  by_cases hk0:0<k
  .have hkI:(0:Int)<(k:Int):=(by omega);have hk1:((k:Int)-1)=((k-1:Nat):Int):=(by omega);have ix1:sIx 4 a (I ((k-1:Nat):Int))=some (.plit ((l.drop (k-1)).flatMap Ep.c)):=h.ix Ep.len (show k-1<l.length by omega);have ld1:∀m,sLd false 1 (.plit ((l.drop (k-1)).flatMap Ep.c)) m=some (I (sP l (k-1))):=λm=>by have:=wK (enc:=Ep.c) (m:=m) (l:=l) (show k-1<l.length by omega) 0 (v:=I (sP l (k-1))) (by rw[B1 (by omega)];rfl);simpa using this
   have hw:w64 ((k:Int)-1)=((k-1:Nat):Int):=(by rw[qQ (by omega) (by omega),hk1]);simp[hk0,hkI,g2,g20,Ep.c,hw,ix1,ld1];by_cases c5:e.day<=sP l (k-1)
   .simp[c5];exact hfin 9 _ (by unfold epE;rw[hb];simp[hk0,c5]) (by omega)
   .simp[c5,g2,g20,Ep.c,ix0,ld0,K4];rw[qQ (n:=(k:Int)+1) (by omega) (by omega)];exact fin2 _ (λ_=>by omega)
  .have:k=0:=(by omega);subst this;simp[g2,g20,Ep.c,ix0,ld0,K4];have:=fin2 (fc+57) (λh=>absurd h (by omega));simpa[qQ]using this
 .rintro n-m fc ⟨hm,hE⟩;rw[xdg (xc7 _)]at hE;simp only[bG];unfold iW pA;simp[hm,h.len uA];exact RetF.st rfl (by rw[hE];rfl)
theorem mkLit_P{p q:Int}{id:Id}{m:Mem}{R:Type}{k:AV->Mem->Option R}:sY [I 0,I 0] [(0,2,.agg [I p,I q])] 1 2 id m k=k (.slit [I p,I q] 1 true) m:=by simp[sY,tP,sF,xfe,clean1,AV.one,Value.oneCell']
theorem elems_P{p q:Int}(objs:Id->Option Ob):elems objs 2 (.slit [I p,I q] 1 true)=some (Pq.c ⟨p,q⟩,1):=rfl
theorem build_P{p q:Int}:rI [I 0,I 0] [(0,1,I p),(1,1,I q)]=some (.agg [I p,I q]):=by simp[rI,tP]
theorem InB.get{l:List Scene}(h:InB l){k:Nat}(hk:k<l.length):(0<=l[k].day/\l[k].day<=100000)/\(-100000<=l[k].bl/\l[k].bl<=100000):=h _ (xcp hk)
def U0(l:List Scene):Bool:=l.all λs=>decide (s.nm.size<=20)
theorem Scene.stillA(s:Scene):s.c.all still1=true:=rfl
def Pq.v(p:Pq):Value:=.agg [.int .i64 p.a,.int .i64 p.b].toArray
def mpP(E:List (Pq×AV)):List (Value×AV):=E.map λx=>(x.1.v,x.2)
def lkP:List (Pq×AV)->Pq->Option AV
 |[],_=>none
 |x::r,p=>if p.same x.1=true then some x.2 else lkP r p
theorem L3(p q:Pq):sV p.v q.v=p.same q:=by unfold sV Pq.v Pq.same;simp[l6];by_cases h:p.a=q.a<;>by_cases h2:p.b=q.b<;>simp[h,h2]
theorem find_mpP(E:List (Pq×AV))(p:Pq):findKey p.v (mpP E)=lkP E p:=by
 induction E with
 |nil=>rfl
 |cons x r ih=>unfold mpP at ih ⊢;simp only[xcj,findKey,lkP,L3];rw[ih]
theorem set_mpP(E:List (Pq×AV))(p:Pq)(v:AV)(h:lkP E p=none):setKey p.v v (mpP E)=mpP (E++[(p,v)]):=by
 induction E with
 |nil=>rfl
 |cons x r ih=>
  simp only[lkP]at h;unfold mpP at ih ⊢;simp only[xcj,xdw,setKey,L3];by_cases c:p.same x.1=true
  .rw[xc2 c]at h;cases h
  .rw[xc1 c]at h;rw[xc1 c,ih h]
theorem chk_t(p:Pq):(qR Try.prog (Instr.checkKey true 10000 aE p.v)).isSome=true:=by kernel_rfl
theorem chk_f(p:Pq):(qR Try.prog (Instr.checkKey false 10000 aE p.v)).isSome=true:=by kernel_rfl
theorem equal_pq(p q:Pq):qR Try.prog (Op.equal aE p.v q.v)=some (p.same q):=pr_pairs p q
theorem x6z{d:TypeDesc}(hd:Try.prog.underlying aE=some d)(E:List (Pq×AV))(p:Pq):yJ Try.prog aE d p.v (mpP E)=true:=by
 obtain⟨fs,hf⟩:∃fs,d=.struct fs:=(by have:((Try.prog.underlying aE).bind λd=>match d with | .struct fs=>some ()|_=>none)=some ():=(by kernel_rfl);rw[hd]at this;cases d<;>first|exact⟨_,rfl⟩|cases this);subst hf;have h1:M7 Try.prog aE (.struct fs) p.v (mpP E)=true:=by
  show(sV p.v p.v&&((qR Try.prog (Instr.checkKey true 10000 aE p.v)).isSome&&(qR Try.prog (Instr.checkKey false 10000 aE p.v)).isSome) &&
   (mpP E).all λe=>match e.1,qR Try.prog (Op.equal aE p.v e.1)with
    | .agg _,some b=>b == sV p.v e.1
    |_,_=>false)=true
  rw[chk_t,chk_f,L3,Pq.same_self];simp only[xez,xda,xc8];intro e he;unfold mpP at he;obtain⟨x,-,rfl⟩:=xch.mp he;rw[equal_pq,L3];show(p.same x.1 == p.same x.1)=true;simp
 unfold yJ;rw[h1,Bool.or_true]
theorem x70(p:Pq):rA (.agg p.c)=some p.v:=rfl
theorem um_pq:∃d,Try.prog.underlying aE=some d:=by obtain⟨d,h⟩:∃d,(Try.prog.underlying aE).isSome=d:=⟨_,rfl⟩;have:(Try.prog.underlying aE).isSome=true:=(by kernel_rfl);exact xf8.mp this
theorem look_pq{t et:TypeId}{z:AV}(ht:Try.prog.underlying t=some (.map aE et))(hz:B5 Try.prog et=some z)(id:Id)(E:List (Pq×AV))(p:Pq)(ok:Bool)(m:Mem)(h:m.get id=some (.map (mpP E))) :
 C9 Try.prog t (.mp id) (.agg p.c) ok m=some (if ok then .tup [(lkP E p).getD z,B (lkP E p).isSome]else(lkP E p).getD z):=by
 obtain⟨d,hd⟩:=um_pq;unfold C9;simp only[ht,x70,hd,hz,xH,h];rw[xc2 (x6z hd E p),find_mpP]
theorem up_pq{R:Type}{t et:TypeId}(ht:Try.prog.underlying t=some (.map aE et))(id:Id)(E:List (Pq×AV))(p:Pq)(v:AV)(m:Mem)(k:Mem->Option R)(h:m.get id=some (.map (mpP E)))(hn:lkP E p=none) :
 u1 Try.prog t (.mp id) (.agg p.c) v m k=k (m.set id (.map (mpP (E++[(p,v)])))):=by
 obtain⟨d,hd⟩:=um_pq;unfold u1;simp only[ht,x70,hd,h];rw[xc2 (x6z hd E p),set_mpP E p v hn]
theorem lkP_app(E:List (Pq×AV))(p q:Pq)(v:AV)(h:lkP E p=none):lkP (E++[(p,v)]) q=if q.same p=true then some v else lkP E q:=by
 induction E with
 |nil=>simp[lkP]
 |cons x r ih=>
  simp only[lkP,xdw]at h ⊢;by_cases c:p.same x.1=true
  .rw[xc2 c]at h;cases h
  .rw[xc1 c]at h;rw[ih h];by_cases e:q.same x.1=true
   .rw[xc2 e,xc1,xc2 e];intro e2;rw[Pq.same_iff]at e e2 c;exact c (by rw[<-e2,e])
   .rw[xc1 e,xc1 e]
def v5(n:Int)(P:List Pq):Nat->List Pq->Int×Int
 |_,[]=>(0,0)
 |k,p::r=>
  bif !(wi p.a 0 (n-1))||!(wi p.b 0 (n-1))then((k:Int),6)
  else bif decide (p.b<=p.a)then((k:Int),9)
  else bif(P.take k).any (λq=>q.same p)then((k:Int),28)
  else v5 n P (k+1) r
def yB(l:List Scene)(P:List Pq):Int×Int:=bif !decide ((xD l).2=0)then xD l else bif decide (200<P.length)then(0,8)else v5 l.length P 0 P
theorem zv_bool:B5 Try.prog kJ=some (B false):=by kernel_rfl
theorem um_pb:Try.prog.underlying oH=some (.map aE kJ):=by kernel_rfl
theorem take_any{P:List Pq}{k:Nat}(hk:k<P.length)(q:Pq):(P.take (k+1)).any (λx=>x.same q)=((P.take k).any (λx=>x.same q)||P[k].same q):=by rw[xd9 hk,List.any_append];simp
theorem same_symm{p q:Pq}:p.same q=q.same p:=by rw[Bool.eq_iff_iff,Pq.same_iff,Pq.same_iff];exact eq_comm
def Seen(P:List Pq)(k:Nat)(E:List (Pq×AV)):Prop:=∀q,lkP E q=bif(P.take k).any (λx=>x.same q)then some (B true)else none
theorem xa2(d s24:Nat){s p:AV}{l:List Scene}{P:List Pq}(hs:Sl Scene.c s l)(hp:Sl Pq.c p P)(hl:l.length<=60)(hP:P.length<=200){T:Int×Int} :
 ∀(n k:Nat) (x:Unit) (m:Mem) (fc:Nat),k<=P.length->P.length<n+k->(m.get (0,0,1)=some (.row [s,p] 0 false)/\(∃E,m.get (0,s24,24)=some (.map (mpP E))/\Seen P k E)/\v5 l.length P k (P.drop k)=T) ->
 RetF (λv=>v=.tup [I T.1,I T.2]) (cI (qG (d+2)) [] 0 n (.ptr (0,0,1) 0 0) (.mp (0,s24,24)) p (I P.length) (I k) m fc):=by
 refine tW (λn k _ m fc=>cI (qG (d+2)) [] 0 n (.ptr (0,0,1) 0 0) (.mp (0,s24,24)) p (I P.length) (I k) m fc)
  (λk _ m=>m.get (0,0,1)=some (.row [s,p] 0 false)/\(∃E,m.get (0,s24,24)=some (.map (mpP E))/\Seen P k E)/\v5 l.length P k (P.drop k)=T) _ ?_ ?_
 .rintro n k-m fc hk ⟨hg,⟨E,hE,hS⟩,hT⟩ next;have hk':(k:Int)<(P.length:Int):=(by omega);have ix:=hp.ix Pq.len hk;have ld:=vW (m:=m) Pq.len (by omega) hk;rw[uO hk]at hT;have hta:=take_any hk;generalize P[k]=e at ld hT hta;simp only[cI];unfold iF;simp only[sK,hk',xcc,sM,qV,ix,ld,x6k,v3,A3,Mem.get_new,xcm,F1];simp(disch:=omega) [Pq.c];generalize hm1:Mem.set _ _ _=m1;have h1:m1.get (0,0,1)=some (.row [s,p] 0 false):=(by rw[<-hm1];simp[hg]);have h8:m1.get (0,fc+4,8)=some (.row [I e.a,I e.b] 0 false):=(by rw[<-hm1];simp);have h24:m1.get (0,s24,24)=some (.map (mpP E)):=(by rw[<-hm1];simp[hE]);have hlk:=look_pq um_pb zv_bool (0,s24,24) E e false m1 h24;have hse:=hS e;simp[hg,hs.len yZ];rw[qQ (by omega) (by omega)];simp[A6];simp only[v5]at hT;cases c1:wi e.a 0 ((l.length:Int)-1)with
  |false=>simp[c1]at hT ⊢;exact RetF.tup rfl (by rw[<-hT])
  |true=>
   simp[h8,A6];cases c2:wi e.b 0 ((l.length:Int)-1)with
   |false=>simp[c1,c2]at hT ⊢;exact RetF.tup rfl (by rw[<-hT])
   |true=>
    simp[c1,c2]at hT;simp[h8];by_cases c3:e.b<=e.a
    .simp[c3]at hT ⊢;exact RetF.tup rfl (by rw[<-hT])
    .simp[c3]at hT;simp[c3,h8];rw[show AV.agg [I e.a,I e.b]=.agg e.c from rfl,hlk,hse];cases c4:(P.take k).any λx=>x.same e with
     |true=>simp[c4]at hT ⊢;exact RetF.tup rfl (by rw[<-hT])
     |false=>rw[c4]at hT hse;simp[h8];rw[up_pq um_pb (0,s24,24) E e (B true) m1 _ h24 hse];refine next () _ _ ⟨by simp[h1],⟨E++[(e,B true)],by simp,λq=>?_⟩,hT⟩;rw[lkP_app E e q _ hse,hta q,hS q,same_symm (p:=e)];cases q.same e<;>cases(P.take k).any λx=>x.same q<;>rfl
 .rintro n-m fc ⟨hg,-,hT⟩;have hk:¬((P.length:Int)<(P.length:Int)):=(by omega);simp only[cI];unfold iF oG;rw[xdg (xc7 _)]at hT;simp[hk];exact RetF.tup rfl (by rw[<-hT];rfl)
theorem xa3(d:Nat){s p:AV}{l:List Scene}{P:List Pq}(hs:Sl Scene.c s l)(hp:Sl Pq.c p P)(m:Mem):qK (qG (d+5)) dA [.agg [s,p]] m=some (.tup [I (yB l P).1,I (yB l P).2],m):=by
 refine tM (by simp[hs.still1,hp.still1]) ?_ m;rw[x1f];unfold lM iG yB;simp[hs.one,hp.one,mem0,x9u d hs];by_cases he:(xD l).2=0
 .obtain⟨hl,-⟩:=x6w he;simp[he,hp.len A8];by_cases h200:200<P.length
  .have h2:(200:Int)<(P.length:Int):=(by omega);simp[h200,h2];exact RetF.tup rfl rfl
  .have h2:¬(200:Int)<(P.length:Int):=(by omega);simp[h200,h2,Q8];unfold oI;simp[hp.len A8];exact xa2 (d+2) 17 hs hp hl (by omega) NN 0 () _ _ (by omega) (by rw[rQ];omega) ⟨by simp,⟨[],by simp;rfl,λq=>by simp[lkP]⟩,by simp⟩
 .simp[he];exact RetF.tup rfl rfl
theorem w_netErr(d:Nat){s p:AV}{l:List Scene}{P:List Pq}(hs:Sl Scene.c s l)(hp:Sl Pq.c p P)(m:Mem):qK (qG (d+6)) cY [.agg [s,p]] m=some (I (yB l P).2,m):=by refine tM (by simp[hs.still1,hp.still1]) ?_ m;rw[x14];unfold lA gP;simp[hs.one,hp.one,mem0,xa3 d hs hp];exact RetF.st rfl rfl
def few7(l:List Scene)(P:List Pq):Bool:=
 bif(decide (8<l.length)&&decide (l.length<=60))||decide (62<l.length)||(decide (14<P.length)&&decide (P.length<=200))||decide (202<P.length)then false else U0 l
theorem Edge.still(e:Edge):e.c.all still1=true:=rfl
theorem x71{α:Type}{enc:α->List AV}{z bytes:Nat}(hz:∀x,(enc x).length=z){a:AV}{l:List α}(h:Sl enc a l)(hr:qW l.length bytes)(id:Id)(m:Mem) :
 (l=[]/\∀{R:Type} (k:AV->Mem->Option R),rL z bytes id (elems m.get z a) (.slit [] 0 true) m k=k (.slit [] 0 true) m) \/
 (l≠[]/\∀{R:Type} (k:AV->Mem->Option R),rL z bytes id (elems m.get z a) (.slit [] 0 true) m k=k (.sref id 0 0 l.length z true) (m.new id (.row (l.flatMap enc) 0 false))):=by
 have he:=h.elems hz m.get;by_cases hq:l.length=0
 .refine .inl ⟨xdy.mp hq,λk=>?_⟩;rw[he,x6m hr,xdl hq];rfl
 .refine .inr ⟨λe=>hq (by rw[e];rfl),λk=>?_⟩;rw[he,x6m hr,xgc hq];rfl
theorem F4{α:Type}{enc:α->List AV}{z k:Nat}(hz:∀x,(enc x).length=z)(hs:∀x,(enc x).all still1=true){objs:Id->Option Ob}{id:Id}{l:List α}{x:Bool}(hg:objs id=some (.row (l.flatMap enc) 0 false)) :
 frz objs (k+2) (.sref id 0 0 l.length z x)=some (.slit (l.flatMap enc) l.length false):=by
 have hl:=vI hz l
 have:=u6 (objs:=objs) (id:=id) (cs:=l.flatMap enc) (ver:=0) (off:=0) (n:=l.length) (z:=z) (k:=k) (f:=false) (x:=x) hg (by omega) (by
  rw[xcd,xca (by omega)];exact d7 hs l)
 rw[xcd,xca (by omega)]at this;exact this
theorem x72{objs:Id->Option Ob}{a b a' b':AV}{k:Nat}(ha:frz objs (k+1) a=some a')(hb:frz objs (k+1) b=some b'):frz objs (k+2) (.agg [a,b])=some (.agg [a',b']):=by show([a,b].mapM (frz objs (k+1))).map AV.agg=_;simp only[xcx,xdm,ha,hb];rfl
end Go.Ix
namespace Go.Ix
variable{R:Type}{m:Mem}
theorem B2:∀l:List Int,l.flatMap intE=l.map I
 |[]=>rfl
 |x::l=>by rw[xct,B2 l];rfl
theorem v6(l:List Int):(l.flatMap intE).length=l.length:=by rw[B2];simp
abbrev srI(id:Id)(n:Nat):AV:=.sref id 0 0 n 1 true
@[simp high] theorem ldRow_int{l:List Int}{k:Nat}{fz:Bool}(hk:k<l.length):A4 false 1 0 k (some (.row (l.flatMap intE) 0 fz))=some (I (at0 l k)):=by simp only[A4,xdi,cond_true,rd,xcv,xck];rw[B2,<-List.map_drop,uO hk,rJ hk];rfl
@[simp high] theorem stRow_int{l:List Int}{k:Nat}{v:Int}(hk:k<l.length):xX 1 0 k (I v) (some (.row (l.flatMap intE) 0 false))=some (.row ((l.set k v).flatMap intE) 0 false):=by have h:(0:Nat)=0/\(I v).cells.length=1/\k+1<=(l.flatMap intE).length/\((I v).cells.all AV.one)=true:=⟨rfl,rfl,by rw[v6];omega,rfl⟩;rw[F1,xdl h,cond_true];simp only[B2,rK,S4];congr 2;rw[List.map_set,xgq,xc2 (by simpa using hk)];simp
end Go.Ix
namespace Go.Ix
open Go.Proofs
variable{α:Type}{z:Nat}{enc:α->List AV}{l:List α}{a:AV}
def Gq{α:Type}(z:Nat)(enc:α->List AV)(u:Nat)(T:List Nat)(m:Mem)(a:AV)(l:List α):Prop:=
 (a=nilS/\l=[])\/∃s t ver,t∈T/\a=.sref (u,s,t) ver 0 l.length z true/\m.get (u,s,t)=some (.row (l.flatMap enc) ver false)
theorem Gq.nil{u:Nat}{T:List Nat}{m:Mem}:Gq z enc u T m nilS []:=Or.inl ⟨rfl,rfl⟩
theorem Gq.frame{u:Nat}{T:List Nat}{m m':Mem}(h:Gq z enc u T m a l)(hm:∀s t,t∈T->m'.get (u,s,t)=m.get (u,s,t)):Gq z enc u T m' a l:=by
 rcases h with h|⟨s,t,ver,h0,h1,h2⟩
 .exact Or.inl h
 .exact Or.inr ⟨s,t,ver,h0,h1,by rw[hm _ _ h0];exact h2⟩
theorem Gq.app(hz:∀x,(enc x).length=z)(h0:0<z){u t0 s0 bytes:Nat}{T:List Nat}{m:Mem}(ht:t0∈T)(hr:qW (l.length+1) bytes)(h:Gq z enc u T m a l)(x:α) :
 ∃a' m',(∀{R:Type} (k:AV->Mem->Option R),rL z bytes (u,s0,t0) (some (enc x,1)) a m k=k a' m')/\Gq z enc u T m' a' (l++[x])/\m'.next=m.next/\∀j:Id,j.2.2∉T->m'.get j=m.get j:=by
 rcases h with ⟨rfl,rfl⟩|⟨s,t,ver,h1,rfl,hg⟩
 .refine⟨.sref (u,s0,t0) 0 0 1 z true,m.new (u,s0,t0) (.row (enc x) 0 false),λk=>?_,Or.inr ⟨s0,t0,0,ht,rfl,by simp⟩,rfl,λj hj=>?_⟩
  .simp only[rL];rw[xc1 (by omega),xc2 (by simpa using hr)]
  .rw[Mem.get_new,xc1 (by rintro rfl;exact hj ht)]
 .have hl:=vI hz l;refine⟨.sref (u,s,t) (ver+1) 0 (l.length+1) z true,m.set (u,s,t) (.row (l.flatMap enc++enc x) (ver+1) false),λk=>?_,Or.inr ⟨s,t,ver+1,h1,by simp,by simp⟩,rfl,λj hj=>?_⟩
  .simp only[rL,hg];rw[xc2 ⟨trivial,trivial,by omega,hr⟩,xc1 (by omega),xc1 (by rw[hl,xd6];omega),xcd,xca (by omega)]
  .rw[Mem.get_set,xc1 (by rintro rfl;exact hj h1)]
theorem Gq.frz(hz:∀x,(enc x).length=z)(hs:∀x,(enc x).all still1=true){u:Nat}{T:List Nat}{m:Mem}(h:Gq z enc u T m a l):∃a',Sl enc a' l/\Go.Ix.frz m.get qN a=some a':=by
 rcases h with ⟨rfl,rfl⟩|⟨s,t,ver,_,rfl,hg⟩
 .exact⟨nilS,Or.inl ⟨rfl,rfl⟩,rfl⟩
 .have hl:=vI hz l;refine⟨.slit (l.flatMap enc) l.length false,Sl.lit l false,?_⟩
  have:=u6 (objs:=m.get) (id:=(u,s,t)) (cs:=l.flatMap enc) (ver:=ver) (off:=0) (n:=l.length) (z:=z) (k:=4) (f:=false) (x:=true) hg (by omega) (by
   rw[xcd,xca (by omega)];exact d7 hs l)
  rw[xcd,xca (by omega)]at this;exact this
theorem Gq.len{u:Nat}{T:List Nat}{m:Mem}{t e:TypeId}(ht:Try.prog.underlying t=some (.slice e))(h:Gq z enc u T m a l):qJ Try.prog t a=some (I l.length):=by
 rcases h with ⟨rfl,rfl⟩|⟨s,t,ver,_,rfl,hg⟩
 .exact E9 ht
 .rfl
end Go.Ix
