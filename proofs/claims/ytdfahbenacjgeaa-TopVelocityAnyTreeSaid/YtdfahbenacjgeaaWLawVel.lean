import Derived.Test.YtdfahbenacjgeaaWg17
import Derived.Test.YtdfahbenacjgeaaWg16
set_option linter.unusedSimpArgs false
set_option linter.unusedVariables false
namespace Go.Ix
open Go.Proofs
theorem e_solved8:((qG 30 [] mU [] mem0).map (λp=>p.1))=some (B true):=by kernel_rfl
theorem w_solved8(m:Mem):qK (qG 30) mU [] m=some (B true,m):=by have h:=e_solved8;rw[xc5]at h;obtain⟨⟨r,m'⟩,h1,rfl⟩:=h;exact call0 rfl h1 rfl
theorem pr_frac(a b c e:Int):qR Try.prog (Op.equalIn 10000 cD (.agg [.int .i64 a,.int .i64 b].toArray) (.agg [.int .i64 c,.int .i64 e].toArray))=some (decide (a=c)&&decide (b=e)):=by refine(eq_ints (offs:=[0,1]) (ga:=λo=>[a,b].getD o 0) (gb:=λo=>[c,e].getD o 0) (by kernel_rfl) (by kernel_rfl) (by kernel_rfl) λo ho=>⟨L0 _ _ o ho,L0 _ _ o ho⟩).trans ?_;simp[List.getD];by_cases h0:a=c<;>by_cases h1:b=e<;>simp[h0,h1]
theorem ne_frac(x y:Operand)(a b:Int):qT Try.prog .neq cD x y (.agg [I a,I b]) (.agg [I a,I b])=some (B false):=by have:qT Try.prog .neq cD x y (.agg [I a,I b]) (.agg [I a,I b])=some (B (!(decide (a=a)&&decide (b=b)))):=x9y (xs:=[.int .i64 a,.int .i64 b]) (ys:=[.int .i64 a,.int .i64 b]) (by kernel_rfl) (pr_frac a b a b) ⟨[I a,I b],rfl⟩ _ _ rfl rfl;simpa using this
theorem zz22sl:mV=[nilS,nilS]:=by kernel_rfl
theorem l_vel2{s:ByteArray}{a b c:AV}{l:List Ep}(h:Sl Ep.c a l)(hn:tJ s=true)(h0:l≠[])(h8:l.length<=8)(hO:SerOK l)(hE:tF s l=0){D:Nat}(hD:D<l.length){p:AV}{ps:List Int}(hp:Ints p ps)(hpl:ps.length=l.length)(hps:∀i,i<l.length->at0 ps i=(atE l i).ph-(atE l D).ph\/at0 ps i=1000000000000){m:Mem}(fc:Nat)(rec0:qS)(i:Int)(g3:m.get (0,0,3)=some (.row [T s,a] 0 false))(g8:m.get (0,38,8)=some (.row (sQ s l) 0 false))(g10:m.get (0,48,10)=some (.row [b,c] 0 false))(w:Bool)(hw:w=true->∀k,k<l.length->at0 ps k≠1000000000000)(next:∀m' fc',m'.get (0,0,3)=some (.row [T s,a] 0 false)->m'.get (0,38,8)=some (.row (sQ s l) 0 false)->m'.get (0,48,10)=some (.row [b,c] 0 false)->m'.next=m.next->∃m2,rec0 (.ptr (0,0,3) 0 0) (I (D:Int)) (.ptr (0,38,8) 0 0) (.ptr (0,48,10) 0 0) (I (w64 (i+1))) m' fc'=some (B true,m2)) :
 ∃m2,fH (qG 30) [] 0 rec0 (.ptr (0,0,3) 0 0) (I (D:Int)) (.ptr (0,38,8) 0 0) (.ptr (0,48,10) 0 0) (I i) p (B w) m fc=some (B true,m2):=by
 unfold fH;have nxt:∀m' fc',m'.get (0,0,3)=some (.row [T s,a] 0 false)->m'.get (0,38,8)=some (.row (sQ s l) 0 false)->m'.get (0,48,10)=some (.row [b,c] 0 false)->m'.next=m.next->∃m2,aY (qG 30) [] 0 rec0 (.ptr (0,0,3) 0 0) (I (D:Int)) (.ptr (0,38,8) 0 0) (.ptr (0,48,10) 0 0) (I i) m' fc'=some (B true,m2):=λm' fc' x y z u=>by unfold aY;simp only[u5,qV];exact next m' _ x y z u
 cases w with
 |false=>simp;exact nxt _ _ g3 g8 g10 rfl
 |true=>
  have hps2:∀i,i<l.length->at0 ps i=(atE l i).ph-(atE l D).ph:=λi hi=>(hps i hi).resolve_right (hw rfl i hi)
  have hsh:=psL_sh hps2;have hf:=λm=>w_fitOf 22 h hp hn h0 h8 hpl m
  rw[hsh]at hf;obtain⟨x1,x2,x3,x4,x5,x6,hC⟩:=U4 s (l.map (Ep.sh (atE l D).ph));rw[hC]at hf;simp[g3,hf,F5];generalize hm2:Mem.set _ _ _=m2;have k3:m2.get (0,0,3)=some (.row [T s,a] 0 false):=(by rw[<-hm2];simp[g3]);have k8:m2.get (0,38,8)=some (.row (sQ s l) 0 false):=(by rw[<-hm2];simp[g8]);have k10:m2.get (0,48,10)=some (.row [b,c] 0 false):=(by rw[<-hm2];simp[g10]);have k18:m2.get (0,fc+8,18)=some (.row [I x1,I x2,I x3,I x4,I x5,I x6] 0 false):=(by rw[<-hm2];simp);have n2:m2.next=m.next:=(by rw[<-hm2];rfl);by_cases hS:tF s (l.map (Ep.sh (atE l D).ph))=0;rotate_left
  .simp[hS];exact nxt _ _ k3 k8 k10 n2
  obtain⟨f1,f2,f3,f4,f5,f6,e1,e2,⟨b1,b2⟩,⟨b3,b4⟩,⟨b5,b6⟩⟩:=sol_sh hE hS h8;rw[hC]at e2;have k8':=k8;rw[e1]at k8';rw[e2]at k18;have hix:sIx 4 a (I (D:Int))=some (.plit ((l.drop D).flatMap Ep.c)):=h.ix Ep.len hD;have hld:∀m,sLd false 1 (.plit (((l.drop D).flatMap Ep.c).drop 2)) m=some (I (atE l D).ph):=λm=>wK (enc:=Ep.c) (m:=m) hD 2 (v:=I (atE l D).ph) (by rw[xF hD];rfl)
  have hpb:=(hO.all _ (xcp hD)).p;rw[<-xF hD]at hpb;have hmul:((atE l D).ph*f6).natAbs<=16000*1000000000:=ml2 (by omega) (by omega);have hw1:w64 ((atE l D).ph*f6)=(atE l D).ph*f6:=qQ (by omega) (by omega);have hw2:w64 (f5-(f5-(atE l D).ph*f6))=(atE l D).ph*f6:=(by rw[qQ (by omega) (by omega)];omega);have ia:∀(id:Id) (k:Nat),k<3->tE 3 2 (.ptr id 0 0) (I (k:Int))=some (.ptr id 0 (k*2)):=λid k hk=>by have:(k:Int)<3:=(by omega);simp[tE,asI,this]
  have ia0:∀id:Id,tE 3 2 (.ptr id 0 0) (I 0)=some (.ptr id 0 0):=λid=>ia id 0 (by omega)
  have ia1:∀id:Id,tE 3 2 (.ptr id 0 0) (I 1)=some (.ptr id 0 2):=λid=>ia id 1 (by omega)
  have ia2:∀id:Id,tE 3 2 (.ptr id 0 0) (I 2)=some (.ptr id 0 4):=λid=>ia id 2 (by omega)
  simp[hS,ia0,ia1,ia2,k18,k8',ne_frac,k3,hix,hld,hw1,hw2];exact nxt _ _ k3 k8 k10 n2
theorem l_vel1{s:ByteArray}{a b c:AV}{l:List Ep}(h:Sl Ep.c a l)(hn:tJ s=true)(h0:l≠[])(h8:l.length<=8)(hO:SerOK l)(hE:tF s l=0){D:Nat}(hD:D<l.length){p:AV}{ps:List Int}(hp:Ints p ps)(hpl:ps.length=l.length)(hps:∀i,i<l.length->at0 ps i=(atE l i).ph-(atE l D).ph\/at0 ps i=1000000000000){m0:Mem}(fc:Nat)(rec0:qS)(i:Int)(g3:m0.get (0,0,3)=some (.row [T s,a] 0 false))(g8:m0.get (0,38,8)=some (.row (sQ s l) 0 false))(g10:m0.get (0,48,10)=some (.row [b,c] 0 false))(next:∀m' fc',m'.get (0,0,3)=some (.row [T s,a] 0 false)->m'.get (0,38,8)=some (.row (sQ s l) 0 false)->m'.get (0,48,10)=some (.row [b,c] 0 false)->m'.next=m0.next->∃m2,rec0 (.ptr (0,0,3) 0 0) (I (D:Int)) (.ptr (0,38,8) 0 0) (.ptr (0,48,10) 0 0) (I (w64 (i+1))) m' fc'=some (B true,m2)) :
 ∃m2,fJ (qG 30) [] 0 rec0 (.ptr (0,0,3) 0 0) (I (D:Int)) (.ptr (0,38,8) 0 0) (.ptr (0,48,10) 0 0) (I i) p (B true) m0 fc=some (B true,m2):=by
 unfold fJ;refine tW (N:=l.length) (σ:=Bool) (λn k w m fc=>aZ (qG 30) [] 0 rec0 n (.ptr (0,0,3) 0 0) (I (D:Int)) (.ptr (0,38,8) 0 0) (.ptr (0,48,10) 0 0) (I i) p (B w) (I k) m fc) (λk w m=>m=m0/\(w=true->∀j,j<k->at0 ps j≠1000000000000)) (λr=>∃m2,r=some (B true,m2)) ?_ ?_ NN 0 true m0 _ (by omega) (by rw[rQ];omega) ⟨rfl,λ_ j hj=>by omega⟩
 .rintro n k w m fc hk ⟨rfl,hw⟩ next2;have hk':(k:Int)<(l.length:Int):=(by omega);have ixp:=hp.ix rX (show k<ps.length by omega);have ldp:=λm=>vQ (m:=m) (show k<ps.length by omega)
  have hix:∀j:Nat,j<l.length->sIx 4 a (I (j:Int))=some (.plit ((l.drop j).flatMap Ep.c)):=λj hj=>h.ix Ep.len hj
  have hld:∀(j:Nat) (hj:j<l.length) m,sLd false 1 (.plit (((l.drop j).flatMap Ep.c).drop 2)) m=some (I (atE l j).ph):=λj hj m=>wK (enc:=Ep.c) (m:=m) hj 2 (v:=I (atE l j).ph) (by rw[xF hj];rfl)
  have ik:=hix k hk;have iD:=hix D hD;have lk:=hld k hk;have lD:=hld D hD;have bk:=(hO.all _ (xcp hk)).p;have bD:=(hO.all _ (xcp hD)).p;rw[<-xF hk]at bk;rw[<-xF hD]at bD;have hw1:w64 ((atE l k).ph-(atE l D).ph)=(atE l k).ph-(atE l D).ph:=qQ (by omega) (by omega);have hw2:w64 ((k:Int)+1)=((k+1:Nat):Int):=(by rw[qQ (by omega) (by omega)];rfl);have hcase:=hps k hk;simp only[aZ];unfold fI;by_cases c:at0 ps k=1000000000000
  .have hnx:∀fc',∃m2,aZ (qG 30) [] 0 rec0 n (.ptr (0,0,3) 0 0) (I (D:Int)) (.ptr (0,38,8) 0 0) (.ptr (0,48,10) 0 0) (I i) p (B false) (I ((k+1:Nat):Int)) m fc'=some (B true,m2):=λfc'=>next2 false m fc' ⟨rfl,λh=>by cases h⟩
   cases w with
   |true=>simp only[hp.len tH,hpl,qV,sK,hk',xcc,sM,yW,yX,yV,sN,ixp,ldp,c,z9,xdt,A0,sW_f,uZ,xdf,u5,hw2,vP];exact hnx _
   |false=>simp only[hp.len tH,hpl,qV,sK,hk',xcc,sM,yW,yX,yV,sN,ixp,ldp,c,z9,xdt,A0,sW_f,uZ,xdf,u5,hw2,vP];exact hnx _
  .have hv:=hcase.resolve_right c;have hc2:¬((atE l k).ph-(atE l D).ph=1000000000000):=by omega
   have hnx:∀fc',∃m2,aZ (qG 30) [] 0 rec0 n (.ptr (0,0,3) 0 0) (I (D:Int)) (.ptr (0,38,8) 0 0) (.ptr (0,48,10) 0 0) (I i) p (B w) (I ((k+1:Nat):Int)) m fc'=some (B true,m2):=λfc'=>next2 w m fc' ⟨rfl,λh j hj=>by
    rcases xcu j k with h1|h1
    .exact hw h j h1
    .have:j=k:=by omega
     subst this
     exact c⟩
   cases w with
   |true=>simp only[hp.len tH,hpl,qV,sK,hk',xcc,sM,yW,yX,yV,sN,ixp,ldp,hv,z9,hc2,xd2,xdt,A0,sW_f,uZ,xdf,u5,hw2,vP,A2,vJ,g3,xY,xdi,xd5,xe0,xcd,xZ,List.head?_cons,ik,iD,S7,lk,lD,xV,hw1];exact hnx _
   |false=>simp only[hp.len tH,hpl,qV,sK,hk',xcc,sM,yW,yX,yV,sN,ixp,ldp,hv,z9,hc2,xd2,xdt,A0,sW_f,uZ,xdf,u5,hw2,vP,A2,vJ,g3,xY,xdi,xd5,xe0,xcd,xZ,List.head?_cons,ik,iD,S7,lk,lD,xV,hw1];exact hnx _
 .rintro n w m fc ⟨rfl,hw⟩;have hkk:¬((l.length:Int)<(l.length:Int)):=(by omega);simp only[aZ];unfold fI;simp only[hp.len tH,hpl,qV,sK,hkk,xd2,vP];exact l_vel2 h hn h0 h8 hO hE hD hp hpl hps _ rec0 i g3 g8 g10 w (λh j hj=>hw h j hj) next
theorem at0_solM{l:List Scene}{P:List Pq}{ph:List Int}{D:Int}{v:Nat}(hv:v<l.length):at0 (vX l P ph D) v=yH l P ph D v:=by rw[rJ (by rw[M5];exact hv)];simp[vX,freshM]
theorem l_vel0{s:ByteArray}{a b c:AV}{l:List Ep}(h:Sl Ep.c a l)(hn:tJ s=true)(h0:l≠[])(h8:l.length<=8)(hO:SerOK l)(hE:tF s l=0){D:Nat}(hD:D<l.length){m:Mem}(fc:Nat)(rec0:qS)(i:Nat)(hi:i<2){v:AV}{P:List Pq}(hv:Sl Pq.c v P)(hP:P.length<=12)(hl:∀m',m'.get (0,48,10)=some (.row [b,c] 0 false)->sLd false 1 (.ptr (0,48,10) 0 i) m'=some v)(g3:m.get (0,0,3)=some (.row [T s,a] 0 false))(g8:m.get (0,38,8)=some (.row (sQ s l) 0 false))(g10:m.get (0,48,10)=some (.row [b,c] 0 false))(n1:m.next=1)(next:∀m' fc',m'.get (0,0,3)=some (.row [T s,a] 0 false)->m'.get (0,38,8)=some (.row (sQ s l) 0 false)->m'.get (0,48,10)=some (.row [b,c] 0 false)->m'.next=1->∃m2,rec0 (.ptr (0,0,3) 0 0) (I (D:Int)) (.ptr (0,38,8) 0 0) (.ptr (0,48,10) 0 0) (I ((i:Int)+1)) m' fc'=some (B true,m2)) :
 ∃m2,eP (qG 30) [] 0 rec0 (.ptr (0,0,3) 0 0) (I (D:Int)) (.ptr (0,38,8) 0 0) (.ptr (0,48,10) 0 0) (I (i:Int)) m fc=some (B true,m2):=by
 have hi':(i:Int)<2:=(by omega);have hw2:w64 ((i:Int)+1)=(i:Int)+1:=qQ (by omega) (by omega);have nxt:∀m' fc',m'.get (0,0,3)=some (.row [T s,a] 0 false)->m'.get (0,38,8)=some (.row (sQ s l) 0 false)->m'.get (0,48,10)=some (.row [b,c] 0 false)->m'.next=1->∃m2,aY (qG 30) [] 0 rec0 (.ptr (0,0,3) 0 0) (I (D:Int)) (.ptr (0,38,8) 0 0) (.ptr (0,48,10) 0 0) (I (i:Int)) m' fc'=some (B true,m2):=λm' fc' x y z u=>by unfold aY;simp only[u5,qV,hw2];exact next m' _ x y z u
 have hia:tE 2 1 (.ptr (0,48,10) 0 0) (I (i:Int))=some (.ptr (0,48,10) 0 i):=(by simp[tE,asI,hi']);obtain⟨st,⟨s4,p4,f4,g4,rfl,hs4,hp4,hf4,hg4⟩,hst⟩:=w_stackOf 24 (s:=s) h hv h0 h8 hP (λe he=>(hO.all e he).p) m;have hlv:=hl m g10;have hll:=yG l;have hpl:=ph8_le l P;have hon:(on8 P.length).length=P.length:=(by simp[on8]);unfold eP mS;simp only[sK,hi',xcc,sM,qV,vJ,g3,xY,xdi,sN,xcd,rd_2,hia];rw[<-vJ,hlv];simp[hst,z_task8,hs4.one,hp4.one,hf4.one,hg4.one,hs4.clean1,rB,vU,tR,n1];have hcA:cAp (some 1) (some [],some [(0,fc+2+5,12)]) (bif clean1 a&&clean v then 2 else 0)=true:=(by rw[h.clean1,hv.clean];rfl);simp only[hcA,sN];generalize hm2:Mem.set _ _ _=m2;have k3:m2.get (0,0,3)=some (.row [T s,a] 0 false):=(by rw[<-hm2];simp[g3]);have k8:m2.get (0,38,8)=some (.row (sQ s l) 0 false):=(by rw[<-hm2];simp[g8]);have k10:m2.get (0,48,10)=some (.row [b,c] 0 false):=(by rw[<-hm2];simp[g10]);have k12:m2.get (0,fc+2+5,12)=some (.row [s4,p4,f4,g4] 0 false):=(by rw[<-hm2];simp);have n2:m2.next=1:=(by rw[<-hm2];exact n1);simp[x81 22 hs4 hp4 hf4 hg4 (by omega) (by omega)];by_cases hT0:yF (scn8 l) P (ph8 l P) (on8 P.length)=0;rotate_left
 .simp[hT0];exact nxt _ _ k3 k8 k10 n2
 have hT:=x80 hT0;have hR:=hT.r;have hpr:∀p∈P,PqIn l.length p:=λp hp=>by have:=hR.pr p hp;rwa[yG]at this
 obtain⟨-,hO1⟩:=x83 hR (ψ:=psi8 l) λk hk=>ph8_at hpr hk
 have hwD:wi (D:Int) 0 (((scn8 l).length:Int)-1)=true:=wi_iff.mpr ⟨by omega,by omega⟩;have eE:wQ (scn8 l) P (ph8 l P) (on8 P.length) D=0:=(by unfold wQ;simp[hT0,hwD,hO1]);have eA:y3 (scn8 l) P (ph8 l P) (on8 P.length) D=vX (scn8 l) P (ph8 l P) D:=(by unfold y3;rw[eE];rfl);have eB:zG (scn8 l) P (ph8 l P) (on8 P.length) D=[]:=(by unfold zG;rw[hO1];cases(decide (yF (scn8 l) P (ph8 l P) (on8 P.length)=0)&&wi (D:Int) 0 (((scn8 l).length:Int)-1))<;>rfl);obtain⟨r,⟨pa,pb,rfl,hpa,hpb⟩,hsol⟩:=d8 (by simp[hs4.still1,hp4.still1,hf4.still1,hg4.still1]) (a_Solved 16 hs4 hp4 hf4 hg4 (by omega) (by omega) (few8 h8 hP) (D:Int)) m2;rw[eA]at hpa;rw[eB]at hpb;rw[eE]at hsol;have hsl:(vX (scn8 l) P (ph8 l P) D).length=l.length:=(by rw[M5,hll]);simp[hT0,k12,hsol,hpb.len tH,hpa.len tH,hsl,k3,h.len uA];refine l_vel1 h hn h0 h8 hO hE hD hpa hsl (λj hj=>?_) _ rec0 i k3 k8 k10 λm' fc' x y z u=>by rw[hw2];exact next m' fc' x y z (by rw[u,n2])
 rw[at0_solM (by rw[hll];exact hj)];exact sol8 hR hD hj
theorem law_TopVelocityAnyTree{s:ByteArray}{a b c:AV}{l:List Ep}{P Q:List Pq}(h:Sl Ep.c a l)(hb:Sl Pq.c b P)(hc:Sl Pq.c c Q)(x:Int):∃m',qG 31 [] eN [.agg [T s,a],.agg [b,c],I x] mem0=some (B true,m'):=by
 rw[xp];unfold kM fM;generalize hm1:((⟨[],1⟩:Mem).new (0,0,3) (.row [T s,a] 0 false)).new (0,1,4) (.row [b,c] 0 false)=m1;have g3:m1.get (0,0,3)=some (.row [T s,a] 0 false):=(by rw[<-hm1];simp);have g4:m1.get (0,1,4)=some (.row [b,c] 0 false):=(by rw[<-hm1];simp);have n1:m1.next=1:=(by rw[<-hm1];rfl);simp[mem0,h.one,hb.one,hc.one,hm1,w_solved8,g3,xa0 27 h];by_cases hS:sH s l=0;rotate_left
 .simp[hS]
 have hO:=F3 hS;have h0:=hO.ne;have hl0:0<l.length:=xga.mpr h0;have hn:tJ s=true:=by
  unfold sH at hS;cases hc:tJ s with
  |true=>rfl
  |false=>rw[hc]at hS;simp at hS
 simp[hS,g3,h.len uA];by_cases h8:(8:Int)<(l.length:Int)
 .simp[h8]
 simp[h8,g4,hb.len M3];by_cases h12:(12:Int)<(P.length:Int)
 .simp[h12]
 simp[h12,g4,hc.len M3];by_cases h13:(12:Int)<(Q.length:Int)
 .simp[h13]
 have hD0:0<=x % (l.length:Int):=Int.emod_nonneg _ (by omega);have hD1:x % (l.length:Int)<(l.length:Int):=Int.emod_lt_of_pos _ (by omega);obtain⟨D,hD⟩:∃D:Nat,x % (l.length:Int)=(D:Int):=⟨(x % (l.length:Int)).toNat,by omega⟩;have hmod:=λm=>w_Mod 29 (x:=x) (y:=(l.length:Int)) (by omega) (by omega) m
 rw[hD]at hmod;obtain⟨a',ha',hcp⟩:=w_Copy8 29 (s:=s) h h0 (by omega) m1;have hsv:=λm=>x7a 23 (s:=s) ha' hn (by omega) m
 obtain⟨f1,f2,f3,f4,f5,f6,hC⟩:=U4 s l;rw[hC]at hsv;simp[h13,g3,g4,h.len uA,hmod,hcp,hsv,F5];by_cases hE:tF s l=0;rotate_left
 .rcases solE_err hS with h1|h1|h1
  .exact absurd h1 hE
  .simp[h1]
  .simp[h1]
 have hbd:rI [nilS,nilS] [(0,1,b),(1,1,c)]=some (.agg [b,c]):=(by simp[rI,tP,hb.cells,hc.cells]);simp[hE,g4,zz22sl,hb.one,hc.one];simp only[hbd,qV,x6j];simp[hb.one,hc.one];generalize hm2:Mem.set _ _ _=m2;have k3:m2.get (0,0,3)=some (.row [T s,a] 0 false):=(by rw[<-hm2];simp[g3]);have k8:m2.get (0,38,8)=some (.row (sQ s l) 0 false):=(by rw[hC,<-hm2];simp);have k10:m2.get (0,48,10)=some (.row [b,c] 0 false):=(by rw[<-hm2];simp);have n2:m2.next=1:=(by rw[<-hm2];exact n1);unfold mT;obtain⟨j,hj⟩:∃j,NN=j+1+1+1:=⟨NN-3,by rw[rQ]⟩;rw[hj];have one:=λ{m:Mem} (fc:Nat) (rec0:qS) (i:Nat) hi {v:AV} {P:List Pq} hv hP hl g3 g8 g10 n1 next=>l_vel0 (b:=b) (c:=c) h hn h0 (by omega) hO hE (D:=D) (by omega) (m:=m) fc rec0 i hi (v:=v) (P:=P) hv hP hl g3 g8 g10 n1 next;simp only[fL];refine one _ _ 0 (by omega) hb (by omega) (λm' hg=>by rw[vJ,hg];simp) k3 k8 k10 n2 λm3 fc3 q3 q8 q10 qn=>?_
 refine one _ _ 1 (by omega) hc (by omega) (λm' hg=>by rw[vJ,hg];simp) q3 q8 q10 qn λm5 fc5 r3 r8 r10 rn=>?_
 unfold eP mR;simp
end Go.Ix
