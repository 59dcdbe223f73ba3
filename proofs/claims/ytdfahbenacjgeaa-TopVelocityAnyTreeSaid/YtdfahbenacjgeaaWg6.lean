import Derived.Test.YtdfahbenacjgeaaWg4
import Derived.Test.YtdfahbenacjgeaaWg5
set_option linter.unusedSimpArgs false
set_option linter.unusedVariables false
namespace Go.Ix
open Go.Proofs
theorem Gk.len{α:Type}{z:Nat}{enc:α->List AV}{l:List α}{a:AV}{ok:Id->Prop}{m:Mem}{y e:TypeId}(ht:Try.prog.underlying y=some (.slice e))(h:Gk z enc ok m a l):qJ Try.prog y a=some (I l.length):=by
 rcases h with ⟨rfl,rfl⟩|⟨id,ver,_,rfl,hg⟩
 .exact E9 ht
 .rfl
theorem Gk.at{a:AV}{l:List Int}{ok:Id->Prop}{m:Mem}(h:Gk 1 intE ok m a l){k:Int}(h0:0<=k)(hk:k<l.length) :
 ∃q,sIx 1 a (I k)=some q/\sLd false 1 q m=some (I (at0 l k.toNat))/\∀v:Int,∃m',(∀{R:Type} (K:Mem->Option R),sSt 1 q (I v) m K=K m')/\Gk 1 intE ok m' a (l.set k.toNat v)/\m'.next=m.next/\∀j,¬ok j->m'.get j=m.get j:=by
 rcases h with ⟨rfl,rfl⟩|⟨id,ver,hok,rfl,hg⟩
 .simp at hk;omega
 .have hkl:k.toNat<l.length:=(by omega);refine⟨.ptr id ver k.toNat,?_,?_,λv=>⟨m.set id (.row ((l.set k.toNat v).flatMap intE) ver false),λK=>?_,Or.inr ⟨id,ver,hok,by simp,by simp⟩,rfl,λj hj=>?_⟩⟩
  .simp[sIx,asI,h0,hk]
  .rw[ld_ptr hg,rd,xc1 (by simp),B2,<-List.map_drop,uO hkl,rJ hkl];rfl
  .rw[st_ptr (z:=1) (x:=I v) (k:=K) hg rfl (by rw[v6];omega) rfl];congr 3;simp only[B2,rK,S4];rw[List.map_set,xgq,xc2 (by simpa using hkl)];simp
  .rw[Mem.get_set,xc1 (by rintro rfl;exact hj hok)]
theorem mix_at{l X:List Int}(hX:X.length=l.length){k:Nat}(hk:k<l.length):at0 (X.take k++l.drop k) k=at0 l k:=by rw[rJ (by simp;omega),rJ hk,xgh (by simp;omega)];simp[hX,Nat.min_eq_left (Nat.le_of_lt hk)]
theorem mix_set{l X:List Int}(hX:X.length=l.length){k:Nat}(hk:k<l.length):(X.take k++l.drop k).set k (at0 X k)=X.take (k+1)++l.drop (k+1):=by have hl:(X.take k).length=k:=(by simp;omega);rw[List.set_append,xc1 (by omega),hl,Nat.sub_self,uO hk,List.set_cons_zero,xd9 (by omega),rJ (by omega),xfd];rfl
theorem mix_id{l X:List Int}(hX:X.length=l.length){k:Nat}(hk:k<l.length)(h:at0 X k=at0 l k):X.take k++l.drop k=X.take (k+1)++l.drop (k+1):=by rw[uO hk,xd9 (by omega),<-rJ (show k<X.length by omega),h,rJ hk];simp
theorem mix_len{l X:List Int}(hX:X.length=l.length){k:Nat}(hk:k<=l.length):(X.take k++l.drop k).length=l.length:=by simp;omega
theorem u_union:Try.prog.underlying xd=some (.slice sD):=by kernel_rfl
def Keep(ok:Id->Prop)(m m':Mem):Prop:=∀j:Id,¬ok j->j.1<m.next->m'.get j=m.get j
theorem c_join(d:Nat)(hs:FHs){ok:Id->Prop}{m:Mem}{a:AV}{l:List Int}{p:Pq}(hG:Gk 1 intE ok m a l)(hok:∀j,ok j->j.1<m.next)(hp:PqIn l.length p)(hl:l.length<=1000) :
 ∃m',qG (d+1) hs bU [a,.agg [I p.a,I p.b]] m=some (B (!decide (at0 l p.a.toNat=at0 l p.b.toNat)),m')/\Gk 1 intE ok m' a (sR l p)/\m'.next=m.next+1/\Keep ok m m':=by
 obtain⟨p0,p1,p2⟩:=hp;rw[x1l];unfold lR iV;obtain⟨m0,hm0⟩:∃m0,m0=(⟨m.hp,m.next+1⟩:Mem).new (m.next,0,3) (.row [I p.a,I p.b] 0 false):=⟨_,rfl⟩;have hf0:∀j:Id,j.1<m.next->m0.get j=m.get j:=λj hj=>by rw[hm0,Mem.get_new,xc1 (by rintro rfl;exact xfo _ hj)];rfl
 have hn0:m0.next=m.next+1:=(by rw[hm0];rfl);have hg:m0.get (m.next,0,3)=some (.row [I p.a,I p.b] 0 false):=(by rw[hm0];simp);have hG0:Gk 1 intE ok m0 a l:=hG.frame λj hj=>hf0 j (hok j hj)
 obtain⟨q1,i1,l1,-⟩:=hG0.at (k:=p.a) p0 (by omega);obtain⟨q2,i2,l2,-⟩:=hG0.at (k:=p.b) (by omega) p2;simp only[S8,x6j,xdo,xfc,one_I,xez,sN,<-hm0];simp[hg,i1,l1,i2,l2];unfold oZ;simp[hG0.len u_union];have hX:(sR l p).length=l.length:=U6 l p;refine tW (N:=l.length) (σ:=Unit) (λn k _ m' fc=>eJ (qG d) hs m.next n a (I (at0 l p.a.toNat)) (I (at0 l p.b.toNat)) a (I l.length) (I k) m' fc)
  (λk _ m'=>Gk 1 intE ok m' a ((sR l p).take k++l.drop k)/\m'.next=m.next+1/\Keep ok m m')
  (λr=>∃m',r=some (B (!decide (at0 l p.a.toNat=at0 l p.b.toNat)),m')/\Gk 1 intE ok m' a (sR l p)/\m'.next=m.next+1/\Keep ok m m') ?_ ?_ NN 0 () m0 _ (by omega) (by rw[rQ];omega) ⟨by simpa using hG0,hn0,λj _ hj=>hf0 j hj⟩
 .rintro n k-m1 fc hk ⟨h1,h2,h3⟩ next;have hk':(k:Int)<(l.length:Int):=(by omega);have hml:=mix_len (l:=l) (X:=sR l p) hX (k:=k) (by omega);obtain⟨q,i3,l3,st⟩:=h1.at (k:=(k:Int)) (by omega) (by omega);rw[xcr,mix_at hX hk]at l3;have hj:=l4 (u:=l) (p:=p) hk;simp only[eJ];unfold iU oX iT;by_cases c:at0 l k=at0 l p.a.toNat\/at0 l k=at0 l p.b.toNat
  .rw[xc2 c]at hj;obtain⟨m2,e1,e2,e3,e4⟩:=st (mn (at0 l p.a.toNat) (at0 l p.b.toNat));rw[xcr,<-hj,mix_set hX hk]at e2;unfold mn at e1;by_cases c1:at0 l k=at0 l p.a.toNat
   .simp(disch:=omega) [hk',i3,l3,c1,qQ];rw[e1];exact next () m2 _ ⟨e2,by omega,λj hj hj2=>by rw[e4 j hj];exact h3 j hj hj2⟩
   .have c2:at0 l k=at0 l p.b.toNat:=c.resolve_left c1;rw[c2]at l3 c1;simp(disch:=omega) [hk',i3,l3,c1,qQ];rw[e1];exact next () m2 _ ⟨e2,by omega,λj hj hj2=>by rw[e4 j hj];exact h3 j hj hj2⟩
  .rw[xc1 c]at hj;have c1:¬at0 l k=at0 l p.a.toNat:=λh=>c (Or.inl h)
   have c2:¬at0 l k=at0 l p.b.toNat:=λh=>c (Or.inr h)
   simp(disch:=omega) [hk',i3,l3,c1,c2,qQ];exact next () m1 _ ⟨by rw[<-mix_id hX hk hj];exact h1,h2,h3⟩
 .rintro n-m1 fc ⟨h1,h2,h3⟩;have hk:¬((l.length:Int)<(l.length:Int)):=(by omega);simp only[eJ];unfold iU oW;simp[hk];rw[xdg (xc7 _),xca (by omega),xe6]at h1;exact⟨h1,h2,h3⟩
theorem L5{n k:Nat}(h:k<n):(freshM n).take k++[(k:Int)]=(freshM n).take (k+1):=by rw[xd9 (by simpa[freshM]using h)];simp[freshM]
theorem x7e(d:Nat){n:Nat}(hn:n<=1000)(m:Mem):∃a M,c0 (qG (d+1)) aU [I n] m=some (a,M)/\Gk 1 intE (λid=>id.1=m.next) M a (freshM n)/\M.next=m.next+1/\∀j:Id,j.1<m.next->M.get j=m.get j:=by
 obtain⟨a,m',h1,h2,h3⟩:∃a m',qG (d+1) [] aU [I n] ⟨[],m.next⟩=some (a,m')/\Gk 1 intE (λid=>id.1=m.next) m' a (freshM n)/\m'.next=m.next+1:=by
  rw[x1k];unfold lQ iS oV;refine tW (N:=n) (λj k a m' fc=>eI (qG d) [] m.next j a (I n) (I k) m' fc) (λk a m'=>Gk 1 intE (λid=>id.1=m.next) m' a ((freshM n).take k)/\m'.next=m.next+1)
   (λr=>∃a m',r=some (a,m')/\Gk 1 intE (λid=>id.1=m.next) m' a (freshM n)/\m'.next=m.next+1) ?_ ?_ NN 0 nilS _ _ (by omega) (by rw[rQ];omega) ⟨by simpa using Gk.nil,rfl⟩
  .rintro j k a m1 fc hk ⟨hG,hN⟩ next;have hk':(k:Int)<(n:Int):=(by omega);have hlt:((freshM n).take k).length=k:=(by simp[freshM];omega);obtain⟨a2,m2,e1,e2,-,-,e3,-⟩:=Gk.app (ok:=λid=>id.1=m.next) (bytes:=8) (id0:=(m.next,fc+6,12)) rX (by omega) rfl (by unfold qW;omega) hG (k:Int);simp only[eI];unfold iR;simp(disch:=omega) [hk',wI,qQ];rw[show elems m1.get 1 (.slit [I (k:Int)] 1 true)=some ([I (k:Int)],1)from rfl];rw[show[I (k:Int)]=intE k from rfl,e1];exact next a2 m2 _ ⟨by rw[<-L5 hk];exact e2,by omega⟩
  .rintro j a m1 fc ⟨hG,hN⟩;have hk:¬((n:Int)<(n:Int)):=(by omega);simp only[eI];unfold iR oU;simp[hk];exact⟨a,m1,⟨rfl,rfl⟩,by rw[xca (by simp[freshM])]at hG;exact hG,hN⟩
 obtain⟨M,hc,hM,hj⟩:=call1 (l:=[I n]) rfl h1;refine⟨a,M,hc,h2.frame λj hjj=>?_,by omega,λj hlt=>?_⟩
 .rw[hj j,xc2 (by omega)]
 .rw[hj j,xc1 (by omega)]
def wO(l:List Scene)(i:Int):Scene:=l.getD i.toNat ⟨⟨#[]⟩,0,0⟩
def lenP(l:List Scene)(p:Pq):Int:=(((wO l p.a).day-(wO l p.b).day).natAbs:Int)+(((wO l p.a).bl-(wO l p.b).bl).natAbs:Int)
theorem scAt_lt{l:List Scene}{i:Int}(h:i.toNat<l.length):wO l i=l[i.toNat]:=by unfold wO;rw[xcg,xci h];rfl
theorem L6{P:List Pq}{i:Int}(h:i.toNat<P.length):qO P i=P[i.toNat]:=by unfold qO;rw[xcg,xci h];rfl
theorem L7{l:List Scene}(hb:InB l){i:Int}(h0:0<=i)(h:i<l.length):(0<=(wO l i).day/\(wO l i).day<=100000)/\(-100000<=(wO l i).bl/\(wO l i).bl<=100000):=by rw[scAt_lt (by omega)];exact hb.get (by omega)
theorem lenP_in{l:List Scene}(hb:InB l){p:Pq}(hp:PqIn l.length p):0<=lenP l p/\lenP l p<=300000:=by obtain⟨h0,h1,h2⟩:=hp;have a:=L7 hb (i:=p.a) h0 (by omega);have b:=L7 hb (i:=p.b) (by omega) h2;unfold lenP;omega
theorem Sl.ixz{α:Type}{enc:α->List AV}{z:Nat}{a:AV}{l:List α}(hz:∀x,(enc x).length=z)(h:Sl enc a l){k:Int}(h0:0<=k)(hk:k<l.length):sIx z a (I k)=some (.plit ((l.drop k.toNat).flatMap enc)):=by have:=h.ix hz (k:=k.toNat) (by omega);rwa[xd7 h0]at this
theorem x7f(d:Nat){s p:AV}{l:List Scene}{P:List Pq}(hs:Sl Scene.c s l)(hp:Sl Pq.c p P)(hb:InB l){i:Int}(hi:0<=i/\i<P.length)(hP:PqIn l.length (qO P i))(m:Mem) :
 qK (qG (d+2)) bX [.agg [s,p],I i] m=some (I (lenP l (qO P i)),m):=by
 refine tM (by simp[hs.still1,hp.still1]) ?_ m;obtain⟨h0,h1,h2⟩:=hP;have ba:=L7 hb (i:=(qO P i).a) h0 (by omega);have bb:=L7 hb (i:=(qO P i).b) (by omega) h2;have ip:=hp.ixz Pq.len hi.1 hi.2;have lp:=λm=>vW (m:=m) (enc:=Pq.c) Pq.len (by omega) (show i.toNat<P.length by omega)
 rw[<-L6 (by omega)]at lp;have ia:=hs.ixz Scene.len h0 (show(qO P i).a<l.length by omega);have ib:=hs.ixz Scene.len (show 0<=(qO P i).b by omega) h2;have la:=λm=>vW (m:=m) (enc:=Scene.c) Scene.len (by omega) (show(qO P i).a.toNat<l.length by omega)
 have lb:=λm=>vW (m:=m) (enc:=Scene.c) Scene.len (by omega) (show(qO P i).b.toNat<l.length by omega)
 rw[<-scAt_lt (by omega)]at la lb;unfold lenP;rw[x1r];unfold lX jD;generalize wO l (qO P i).a=x at *
 generalize wO l (qO P i).b=y at *
 generalize qO P i=e at *
 simp only[Pq.c]at lp;simp only[Scene.c]at la lb;simp(disch:=omega) [mem0,hs.one,hp.one,ip,lp,ia,ib,la,lb,v3,T1,tR,tS,rB,vU,qQ,w_size7,cAp,show Nat.blt 0 1=true from rfl];refine RetF.st ?_ ?_<;>rfl
def Rng(n:Nat)(P:List Pq)(F:List Int):Prop:=∀i∈F,(0<=i/\i<P.length)/\PqIn n (qO P i)
theorem Rng.get{n:Nat}{P:List Pq}{F:List Int}(h:Rng n P F){k:Nat}(hk:k<F.length):(0<=at0 F k/\at0 F k<P.length)/\PqIn n (qO P (at0 F k)):=by rw[rJ hk];exact h _ (xcp hk)
end Go.Ix
namespace Go.Ix
variable{α:Type}{z:Nat}{enc:α->List AV}
theorem x7g(hz:∀x,(enc x).length=z)(x:α):∀(l:List α) (k:Nat),k<l.length->rK (l.flatMap enc) (k*z) (enc x)=(l.set k x).flatMap enc
 |[],_,h=>by simp at h
 |y::r,0,_=>by simp only[rK,xdu,xd5,xeq,xej,List.set_cons_zero,xct];rw[hz,<-hz y,xgo (xc7 _),xdg (xc7 _),xej]
 |y::r,k+1,h=>by have ih:=x7g hz x r k (by simpa using h);simp only[rK,xgi,xct]at ih ⊢;rw[xd6,show k*z+z=(enc y).length+k*z by rw[hz];omega,xgp,xde,xfq,xfd,<-ih];have e:(enc y).length+(k*z+(enc x).length)-(enc y).length=k*z+(enc x).length:=(by omega);rw[e,xdg (by omega),xej]
open Go.Proofs
def bE(b:Bool):List AV:=[B b]
theorem bE_len(b:Bool):(bE b).length=1:=rfl
variable{α:Type}{z:Nat}{enc:α->List AV}
def Ow(enc:α->List AV)(m:Mem)(id:Id)(l:List α):Prop:=m.get id=some (.row (l.flatMap enc) 0 false)
theorem Ow.fr{m m':Mem}{id:Id}{l:List α}(h:Ow enc m id l)(e:m'.get id=m.get id):Ow enc m' id l:=by unfold Ow;rw[e];exact h
theorem ow_ix{id:Id}{n:Nat}{k:Int}(h0:0<=k)(h1:k<n):sIx z (.sref id 0 0 n z true) (I k)=some (.ptr id 0 (k.toNat*z)):=by simp[sIx,asI,h0,h1]
theorem Ow.ld(hz:∀x,(enc x).length=z){m:Mem}{id:Id}{l:List α}(h:Ow enc m id l){k:Nat}(hk:k<l.length){g:Bool}:sLd g z (.ptr id 0 (k*z)) m=rd g z (enc l[k]++(l.drop (k+1)).flatMap enc):=by rw[ld_ptr h,S6 hz,uO hk,xct]
theorem Ow.st(hz:∀x,(enc x).length=z){m:Mem}{id:Id}{l:List α}(h:Ow enc m id l){k:Nat}(hk:k<l.length){x:α}{v:AV}(hv:v.cells=enc x)(h1:(enc x).all AV.one=true) :
 (∀{R:Type} (K:Mem->Option R),sSt z (.ptr id 0 (k*z)) v m K=K (m.set id (.row ((l.set k x).flatMap enc) 0 false)))/\Ow enc (m.set id (.row ((l.set k x).flatMap enc) 0 false)) id (l.set k x):=by
 refine⟨λK=>?_,by unfold Ow;simp⟩;have hl:=vI hz l;rw[st_ptr (z:=z) (x:=v) (k:=K) h (by rw[hv,hz]) (by rw[hl];have:=xd8 z (show k+1<=l.length from hk);rw[xd6]at this;exact this) (by rw[hv];exact h1),hv,x7g hz x l k hk]
theorem zeros_c{z:List AV}{c:AV}(hc:∀i,i<z.length->z.getD i (.sc undef)=c)(h0:0<z.length)(k:Nat):sF z k=List.replicate k c:=by
 unfold sF;apply xfv
 .simp
 .intro i h1 h2;simp only[xgf,List.getElem_range,List.getElem_replicate];exact hc _ (xe4 _ h0)
theorem rep_flat(n:Nat)(c:AV)(x:α)(hx:enc x=List.replicate z c):(List.replicate n x).flatMap enc=List.replicate (n*z) c:=by
 induction n with
 |zero=>simp
 |succ n ih=>rw[List.replicate_succ,xct,ih,hx,xd6,Nat.add_comm,List.replicate_append_replicate]
theorem mkSl_c{R:Type}{zc:List AV}{c:AV}{bytes:Nat}(hb:bytes<=64)(hzl:zc.length=z)(hc:∀i,i<zc.length->zc.getD i (.sc undef)=c)(h0:0<zc.length){x:α}(hx:enc x=List.replicate z c){n:Nat}(hn:n<=1000000)(id:Id)(m:Mem)(k:AV->Mem->Option R) :
 b9 zc z bytes (I n) (I n) id m k=k (.sref id 0 0 n z true) (m.new id (.row ((List.replicate n x).flatMap enc) 0 false)):=by
 have h1:bytes*n<=64*1000000:=xfu hb hn;simp only[b9,asI];rw[xc2 ⟨by omega,xf3 _,by omega,by omega⟩,zeros_c hc h0,rep_flat n c x hx];simp
theorem zb_b7:nZ=[B false]:=by kernel_rfl
theorem mkSl_b{R:Type}{n:Nat}(hn:n<=1000000)(id:Id)(m:Mem)(k:AV->Mem->Option R):b9 nZ 1 1 (I n) (I n) id m k=k (.sref id 0 0 n 1 true) (m.new id (.row ((List.replicate n false).flatMap bE) 0 false)):=
 mkSl_c (enc:=bE) (c:=B false) (by omega) (by rw[zb_b7];rfl) (by rw[zb_b7];intro i hi;simp at hi;subst hi;rfl) (by rw[zb_b7];simp) rfl hn id m k
theorem mkSl_i{R:Type}{n:Nat}(hn:n<=1000000)(id:Id)(m:Mem)(k:AV->Mem->Option R):b9 wJ 1 8 (I n) (I n) id m k=k (.sref id 0 0 n 1 true) (m.new id (.row ((List.replicate n (0:Int)).flatMap intE) 0 false)):=
 mkSl_c (enc:=intE) (c:=I 0) (by omega) (by rw[wI];rfl) (by rw[wI];intro i hi;simp at hi;subst hi;rfl) (by rw[wI];simp) rfl hn id m k
theorem Ow.ldB{m:Mem}{id:Id}{l:List Bool}(h:Ow bE m id l){k:Int}(h0:0<=k)(hk:k<l.length):sLd false 1 (.ptr id 0 k.toNat) m=some (B (l.getD k.toNat false)):=by have h1:k.toNat<l.length:=(by omega);have:=h.ld bE_len h1 (g:=false);rw[xel]at this;rw[this,xcg,xci h1];rfl
theorem Ow.ldI{m:Mem}{id:Id}{l:List Int}(h:Ow intE m id l){k:Int}(h0:0<=k)(hk:k<l.length):sLd false 1 (.ptr id 0 k.toNat) m=some (I (at0 l k.toNat)):=by have h1:k.toNat<l.length:=(by omega);have:=h.ld rX h1 (g:=false);rw[xel]at this;rw[this,rJ h1];rfl
theorem F7{id:Id}{n:Nat}{k:Int}(h0:0<=k)(h1:k<n):sIx 1 (.sref id 0 0 n 1 true) (I k)=some (.ptr id 0 k.toNat):=by simpa using ow_ix (z:=1) (id:=id) h0 h1
theorem Ow.st1{g:α->AV}(he:∀x,enc x=[g x]){m:Mem}{id:Id}{l:List α}(h:Ow enc m id l){k:Int}(h0:0<=k)(hk:k<l.length){x:α}(hc:(g x).cells=[g x])(h1:(g x).one=true) :
 (∀{R:Type} (K:Mem->Option R),sSt 1 (.ptr id 0 k.toNat) (g x) m K=K (m.set id (.row ((l.set k.toNat x).flatMap enc) 0 false)))/\Ow enc (m.set id (.row ((l.set k.toNat x).flatMap enc) 0 false)) id (l.set k.toNat x):=by
 have:=h.st (z:=1) (λx=>by rw[he];rfl) (k:=k.toNat) (by omega) (x:=x) (v:=g x) (by rw[hc,he]) (by rw[he];simp[h1]);simpa using this
def Ep.ps(e:Ep)(x:Int):Ep:=⟨e.day,e.bl,x,e.mg⟩
theorem x7h:∀(l:List Ep) (k:Nat) (hk:k<l.length) (v:Int),rK (l.flatMap Ep.c) (k*4+2) [I v]=(l.set k (l[k].ps v)).flatMap Ep.c
 |e::r,0,_,v=>rfl
 |e::r,k+1,hk,v=>by have ih:=x7h r k (by simpa using hk) v;have e1:(k+1)*4+2=(k*4+2)+4:=(by omega);rw[xgi,xct,xct,List.getElem_cons_succ,<-ih,e1];rfl
theorem g_Copy8(d u:Nat){s:ByteArray}{a:AV}{l:List Ep}(h:Sl Ep.c a l)(h0:l≠[])(hl:l.length<=1000) :
 ∃m',qG (d+1) [] aP [.agg [T s,a]] ⟨[],u⟩=some (.agg [T s,.sref (u,5,6) 0 0 l.length 4 true],m')/\Ow Ep.c m' (u,5,6) l/\m'.next=u+1:=by
 rw[x8];unfold fG eR;rcases x71 (bytes:=32) Ep.len h (by unfold qW;omega) (u,5,6) (((⟨[],u+1⟩:Mem).new (u,0,1) (.row [T s,a] 0 false)).new (u,1,2) (.row [T ⟨#[]⟩,nilS] 0 false))with ⟨e,-⟩|⟨-,h1⟩
 .exact absurd e h0
 simp[h.one,U1,S9];rw[h1];simp[sG];unfold Ow;simp
theorem set_ph8{l L:List Ep}{ps:List Int}{k:Nat}(hk:k<l.length)(hL:L.length=l.length)(h:∀i (hi:i<l.length),L[i]?=some (if i<k then l[i].ps (at0 ps i)else l[i])) :
 ∀i (hi:i<l.length),(L.set k ((L[k]'(by omega)).ps (at0 ps k)))[i]?=some (if i<k+1 then l[i].ps (at0 ps i)else l[i]):=by
 intro i hi;have hLk:L[k]'(by omega)=l[k]:=(by have:=h k hk;rw[xci (by omega),xc1 (xfo k)]at this;exact xdn this);rw[xff];by_cases c:k=i
 .subst c;rw[xc2 rfl,xc2 (by omega),xc2 (by omega),hLk]
 .rw[xc1 c,h i hi];by_cases c2:i<k
  .rw[xc2 c2,xc2 (by omega)]
  .rw[xc1 c2,xc1 (by omega)]
def psL(l:List Ep)(ps:List Int):List Ep:=(List.range l.length).map λi=>match l[i]? with|some e=>e.ps (at0 ps i)|none=>⟨0,0,0,0⟩
theorem psL_len(l:List Ep)(ps:List Int):(psL l ps).length=l.length:=by simp[psL]
theorem psL_eq{l L:List Ep}{ps:List Int}(hL:L.length=l.length)(h:∀i (hi:i<l.length),L[i]?=some (l[i].ps (at0 ps i))):L=psL l ps:=by
 apply List.ext_getElem?;intro i;by_cases hi:i<l.length
 .rw[h i hi];simp[psL,hi]
 .rw[xef (by omega),xef (by rw[psL_len];omega)]
theorem w_fitOf(d:Nat){s:ByteArray}{a p:AV}{l:List Ep}{ps:List Int}(h:Sl Ep.c a l)(hp:Ints p ps)(hn:tJ s=true)(h0:l≠[])(h8:l.length<=8)(hpl:ps.length=l.length)(m:Mem) :
 qK (qG (d+8)) cT [.agg [T s,a],p] m=some (.tup [.agg (sQ s (psL l ps)),B (decide (tF s (psL l ps)=0))],m):=by
 refine tM (by simp[h.still1,hp.still]) ?_ m;rw[xx];unfold kT gF;generalize hm1:((⟨[],1⟩:Mem).new (0,0,2) (.row [T s,a] 0 false)).new (0,1,4) (.row [I 0,I 0,I 0,I 0,I 0,I 0] 0 false)=m1;have g2:m1.get (0,0,2)=some (.row [T s,a] 0 false):=(by rw[<-hm1];simp);have g4:m1.get (0,1,4)=some (.row [I 0,I 0,I 0,I 0,I 0,I 0] 0 false):=(by rw[<-hm1];simp);have n1:m1.next=1:=(by rw[<-hm1];rfl);obtain⟨mC,hc,hO,hCn⟩:=g_Copy8 (d+6) 1 (s:=s) h h0 (by omega);rw[<-n1]at hc;obtain⟨M,hM,hMn,hMg⟩:=call1 (l:=[.agg [T s,a]]) (m:=m1) (by simp[clean,h.clean1]) hc;have q4:M.get (0,1,4)=some (.row [I 0,I 0,I 0,I 0,I 0,I 0] 0 false):=(by rw[hMg,xc1 (by show ¬m1.next<=0;omega)];exact g4);rw[n1]at hM;have hO':Ow Ep.c M (1,5,6) l:=hO.fr (by rw[hMg,xc2 (by show m1.next<=1;omega)]);simp[mem0,h.one,F5,hm1,g2,hM,U1];have hlen:qJ Try.prog aD (.sref (1,5,6) 0 0 l.length 4 true)=some (I l.length):=rfl;simp[hp.len tH,hlen,hpl];generalize hm2:Mem.set _ _ _=m2;have r4:m2.get (0,1,4)=some (.row [I 0,I 0,I 0,I 0,I 0,I 0] 0 false):=(by rw[<-hm2];simp[q4]);have r6:m2.get (0,5,6)=some (.row [T s,.sref (1,5,6) 0 0 l.length 4 true] 0 false):=(by rw[<-hm2];simp);have rO:Ow Ep.c m2 (1,5,6) l:=hO'.fr (by rw[<-hm2];simp);unfold nN;refine tW (N:=l.length) (σ:=Unit) (λn k _ m fc=>dT (qG (d+7)) [] 0 n p (.ptr (0,1,4) 0 0) (.ptr (0,5,6) 0 0) (I k) m fc)
  (λk _ m=>m.get (0,1,4)=some (.row [I 0,I 0,I 0,I 0,I 0,I 0] 0 false)/\m.get (0,5,6)=some (.row [T s,.sref (1,5,6) 0 0 l.length 4 true] 0 false)/\∃L,L.length=l.length/\Ow Ep.c m (1,5,6) L/\∀i (hi:i<l.length),L[i]?=some (if i<k then l[i].ps (at0 ps i)else l[i])) _ ?_ ?_ NN 0 () m2 _ (by omega) (by rw[rQ];omega) ⟨r4,r6,l,rfl,rO,λi hi=>by rw[xci hi,xc1 (by omega)]⟩
 .rintro n k-m fc hk ⟨r4,r6,L,hL,rO,hA⟩ next;have hk':(k:Int)<(l.length:Int):=(by omega);have ix:=hp.ix rX (show k<ps.length by omega);have ld:=λm=>vQ (m:=m) (show k<ps.length by omega)
  have ixo:sIx 4 (.sref (1,5,6) 0 0 l.length 4 true) (I (k:Int))=some (.ptr (1,5,6) 0 ((k:Int).toNat*4)):=ow_ix (by omega) (by omega);rw[xcr]at ixo;have hfl:=vI Ep.len L;have hst:xX 1 0 (k*4+2) (I (at0 ps k)) (m.get (1,5,6))=some (.row ((L.set k ((L[k]'(by omega)).ps (at0 ps k))).flatMap Ep.c) 0 false):=(by unfold Ow at rO;rw[rO,F1,xdl (by refine⟨rfl,rfl,by rw[hfl];omega,rfl⟩),sN];rw[show(I (at0 ps k)).cells=[I (at0 ps k)]from rfl,x7h L k (by omega)]);simp only[dT];unfold gE;simp only[hp.len tH,hpl,sK,hk',xcc,sM,qV,A2,vJ,r6,xY,xdi,sN,xd5,xe0,xcd,xZ,List.head?_cons,ix,ixo];rw[ld];simp only[qV,A2,A3,hst];simp(disch:=omega) [qQ];generalize hm3:Mem.set m _ _=m3;refine next () m3 _ ⟨by rw[<-hm3];simp[r4],by rw[<-hm3];simp[r6],L.set k ((L[k]'(by omega)).ps (at0 ps k)),by rw[xe1];exact hL,?_,set_ph8 hk hL hA⟩;rw[<-hm3];unfold Ow;simp
 .rintro n-m fc ⟨r4,r6,L,hL,rO,hA⟩;have hE:L=psL l ps:=psL_eq hL λi hi=>by rw[hA i hi,xc2 hi]
  have hS:=λm=>x7a d (s:=s) (Sl.lit (enc:=Ep.c) L false) hn (by omega) m
  have hfz:[AV.agg [T s,.sref (1,5,6) 0 0 l.length 4 true]].mapM (Go.Ix.frz m.get qN)=some [.agg [T s,.slit (L.flatMap Ep.c) L.length false]]:=(by have e2:Go.Ix.frz m.get 5 (.sref (1,5,6) 0 0 L.length 4 true)=some (.slit (L.flatMap Ep.c) L.length false):=F4 (k:=3) Ep.len Ep.still rO;have e3:Go.Ix.frz m.get qN (.agg [T s,.sref (1,5,6) 0 0 L.length 4 true])=some (.agg [T s,.slit (L.flatMap Ep.c) L.length false]):=x72 rfl e2;rw[hL]at e3 ⊢;simp only[xcx,xdm,e3];rfl);have hth:=x74 hfz (by rfl) hS;have hids:[AV.agg [T s,.sref (1,5,6) 0 0 l.length 4 true]].flatMap (reach m.get qN)=[(1,5,6)]:=(by have e1:reach m.get 5 (.sref (1,5,6) 0 0 l.length 4 true)=[(1,5,6)]:=x76 (k:=3) rO (d7 Ep.still L);show(([T s,.sref (1,5,6) 0 0 l.length 4 true].flatMap (reach m.get 5))++[])=_;simp only[xct,xge,e1];rfl);rw[hids]at hth;have k4:(⟨uN [(1,5,6)] m.hp,m.next⟩:Mem).get (0,1,4)=some (.row [I 0,I 0,I 0,I 0,I 0,I 0] 0 false):=(by rw[x75 (by simp)];exact r4);generalize (⟨uN [(1,5,6)] m.hp,m.next⟩:Mem)=m3 at *
  obtain⟨x1,x2,x3,x4,x5,x6,hC⟩:=U4 s L;have hkk:¬((l.length:Int)<(l.length:Int)):=(by omega);simp only[dT];unfold gE nM;rw[hC]at hth;simp[hp.len tH,hpl,r6,hth,F5,k4,sG];rw[<-hE,hC];exact RetF.tup (by rfl) rfl
end Go.Ix
namespace Go.Ix
variable{P:List Pq}
theorem L8{u:List Int}{p:Pq}(h:at0 u p.a.toNat=at0 u p.b.toNat):sR u p=u:=by
 unfold sR;conv=>rhs;rw[<-List.map_id u]
 apply xg4;intro x _;show _=x;rw[h];by_cases c:x=at0 u p.b.toNat
 .rw[xc2 (Or.inl c),c];unfold mn;simp
 .rw[xc1 (by simp[c])]
def tG(P:List Pq):List Int->List Int->List Int
 |_,[]=>[]
 |u,i::r=>if at0 u (qO P i).a.toNat=at0 u (qO P i).b.toNat then tG P u r else i::tG P (sR u (qO P i)) r
theorem V2:∀(l u:List Int),joinsM u (prs P (tG P u l))=joinsM u (prs P l)
 |[],_=>rfl
 |i::r,u=>by
  rw[tG];by_cases c:at0 u (qO P i).a.toNat=at0 u (qO P i).b.toNat
  .rw[xc2 c,V2 r u];show _=joinsM (sR u (qO P i)) (prs P r);rw[L8 c]
  .rw[xc1 c];exact V2 r (sR u (qO P i))
theorem V3:∀(l u:List Int),Indep u (prs P (tG P u l))
 |[],_=>trivial
 |i::r,u=>by
  rw[tG];by_cases c:at0 u (qO P i).a.toNat=at0 u (qO P i).b.toNat
  .rw[xc2 c];exact V3 r u
  .rw[xc1 c];exact⟨c,V3 r _⟩
theorem F8:∀(l u:List Int),(tG P u l).Sublist l
 |[],_=>List.Sublist.slnil
 |i::r,u=>by
  rw[tG];by_cases c:at0 u (qO P i).a.toNat=at0 u (qO P i).b.toNat
  .rw[xc2 c];exact(F8 r u).cons i
  .rw[xc1 c];exact(F8 r _).cons_cons i
theorem V4:∀(l k u:List Int),tG P u (l++k)=tG P u l++tG P (joinsM u (prs P l)) k
 |[],_,_=>rfl
 |i::r,k,u=>by
  rw[xdw,tG,tG];by_cases c:at0 u (qO P i).a.toNat=at0 u (qO P i).b.toNat
  .rw[xc2 c,xc2 c,V4 r k u];show _=tG P u r++tG P (joinsM (sR u (qO P i)) (prs P r)) k;rw[L8 c]
  .rw[xc1 c,xc1 c,V4 r k _];rfl
theorem take_one(l u:List Int)(i:Int):tG P u (l++[i])=tG P u l++(if at0 (joinsM u (prs P l)) (qO P i).a.toNat=at0 (joinsM u (prs P l)) (qO P i).b.toNat then[]else[i]):=by rw[V4];congr 1
theorem V5{α:Type}{R:α->α->Prop}(hi:∀a,¬R a a)(ha:∀a b,R a b->R b a->False):∀{l k:List α},l.Pairwise R->k.Pairwise R->(∀x,x∈l↔x∈k)->l=k
 |[],[],_,_,_=>rfl
 |[],y::k,_,_,h=>by have:=(h y).mpr (xcf ..);cases this
 |x::l,[],_,_,h=>by have:=(h x).mp (xcf ..);cases this
 |x::l,y::k,h1,h2,h=>by
  rw[xdp]at h1 h2;have e:x=y:=by
   rcases xce.mp ((h x).mp (xcf ..))with e|e
   .exact e
   .rcases xce.mp ((h y).mpr (xcf ..))with e2|e2
    .exact e2.symm
    .exact(ha _ _ (h2.1 x e) (h1.1 y e2)).elim
  subst e;have:=V5 hi ha h1.2 h2.2 λz=>by
   constructor
   .intro hz;rcases xce.mp ((h z).mp (xc9 _ hz))with e|e
    .rw[e]at hz;exact(hi _ (h1.1 _ hz)).elim
    .exact e
   .intro hz;rcases xce.mp ((h z).mpr (xc9 _ hz))with e|e
    .rw[e]at hz;exact(hi _ (h2.1 _ hz)).elim
    .exact e
  rw[this]
theorem x7i{α:Type}{R:α->α->Prop}(hi:∀a,¬R a a){l:List α}(h:l.Pairwise R):l.Nodup:=List.Pairwise.imp (S:=λa b=>a≠b) (λ{a b} hr (e:a=b)=>hi a (by rw[<-e]at hr;exact hr)) h
def lx(f:Int->Int)(i j:Int):Prop:=f i<f j\/(f i=f j/\i<j)
theorem lx_irr{f:Int->Int}(i:Int):¬lx f i i:=by unfold lx;omega
theorem lx_asym{f:Int->Int}(i j:Int)(h:lx f i j)(h2:lx f j i):False:=by unfold lx at *;omega
theorem x7j{f:Int->Int}{i j k:Int}(h:lx f i j)(h2:lx f j k):lx f i k:=by unfold lx at *;omega
theorem lx_tot{f:Int->Int}{i j:Int}(h:i≠j):lx f i j\/lx f j i:=by unfold lx;omega
def Ordd(f:Int->Int)(N:Nat)(L:List Int):Prop:=L.Pairwise (lx f)/\∀x,x∈L↔(0<=x/\x<N)
theorem Ordd.one{f:Int->Int}{N:Nat}{L K:List Int}(h:Ordd f N L)(k:Ordd f N K):L=K:=V5 lx_irr lx_asym h.1 k.1 λx=>(h.2 x).trans (k.2 x).symm
theorem Ordd.nodup{f:Int->Int}{N:Nat}{L:List Int}(h:Ordd f N L):L.Nodup:=x7i lx_irr h.1
def Asc(F:List Int):Prop:=F.Pairwise (· < ·)
theorem Asc.one{F G:List Int}(h:Asc F)(k:Asc G)(e:∀x,x∈F↔x∈G):F=G:=V5 (λa=>by omega) (λa b=>by omega) h k e
theorem Asc.nodup{F:List Int}(h:Asc F):F.Nodup:=x7i (λa=>by omega) h
theorem x7k{l k:List Int}(hl:l.Nodup)(hk:k.Nodup)(h:∀x,x∈l↔x∈k):l.length=k.length:=by
 have:=T4 hl λx hx=>(h x).mp hx
 have:=T4 hk λx hx=>(h x).mpr hx
 omega
theorem fresh_mem{N:Nat}{x:Int}:x∈freshM N↔(0<=x/\x<N):=by
 unfold freshM;rw[xch];constructor
 .rintro⟨i,hi,rfl⟩;have:=xcs.mp hi;omega
 .rintro⟨h0,h1⟩;exact⟨x.toNat,xcs.mpr (by omega),by omega⟩
theorem V6(N:Nat):Asc (freshM N):=by unfold Asc freshM;rw[List.pairwise_map];exact xg7.imp λh=>by omega
theorem Asc.filter{F:List Int}(h:Asc F)(p:Int->Bool):Asc (F.filter p):=List.Pairwise.filter p h
variable{n:Nat}
theorem x7l{t:List Int}{l:List Pq}(hl:∀p∈l,PqIn n p)(h:∀p∈l,Sm t p.a.toNat p.b.toNat){v w:Nat}(hv:v<n)(hw:w<n)(hs:Sm (joinsM (freshM n) l) v w):Sm t v w:=by refine U9 (R:=Sm t) (λh=>h.symm) (λh1 h2=>h1.trans h2) (Lab.fresh n) hl h (λa b ha hb e=>?_) v w hv hw hs;unfold Sm at e;rw[Lab.get_fresh ha,Lab.get_fresh hb]at e;have:a=b:=(by omega);rw[this];rfl
theorem x7m{l k:List Pq}(hl:∀p∈l,PqIn n p)(hk:∀p∈k,PqIn n p)(h1:∀p∈l,Sm (joinsM (freshM n) k) p.a.toNat p.b.toNat)(h2:∀p∈k,Sm (joinsM (freshM n) l) p.a.toNat p.b.toNat):joinsM (freshM n) l=joinsM (freshM n) k:=
 ((Lab.fresh n).joins hl).ext ((Lab.fresh n).joins hk) λv w hv hw=>⟨x7l hl h1 hv hw,x7l hk h2 hv hw⟩
theorem x7n{l k:List Pq}(hl:∀p∈l,PqIn n p)(hk:∀p∈k,PqIn n p)(h:∀p,p∈l↔p∈k):joinsM (freshM n) l=joinsM (freshM n) k:=
 x7m hl hk (λp hp=>zD (Lab.fresh n) hk p ((h p).mp hp)) (λp hp=>zD (Lab.fresh n) hl p ((h p).mpr hp))
theorem x7o:∀{l:List Pq} {u:List Int},Lab n u->(∀p∈l,PqIn n p)->wN n u<=wN n (joinsM u l)+l.length
 |[],_,_,_=>xc7 _
 |p::l,u,h,hp=>by
  have hq:=hp p (xcf ..);have ih:=x7o (h.join hq) λq hq=>hp q (xc9 _ hq)
  have e:joinsM u (p::l)=joinsM (sR u p) l:=rfl;rw[e,xco];by_cases c:Sm u p.a.toNat p.b.toNat
  .rw[L8 c]at ih ⊢;omega
  .have:=V0 h hq c;omega
theorem x7p:∀{l:List Pq} {u:List Int},Lab n u->(∀p∈l,PqIn n p)->wN n (joinsM u l)+l.length<=wN n u->Indep u l
 |[],_,_,_,_=>trivial
 |p::l,u,h,hp,hr=>by
  have hq:=hp p (xcf ..);have hl:∀q∈l,PqIn n q:=λq hq=>hp q (xc9 _ hq)
  have e:joinsM u (p::l)=joinsM (sR u p) l:=rfl;rw[e,xco]at hr;by_cases c:Sm u p.a.toNat p.b.toNat
  .have:=x7o (h.join hq) hl;rw[L8 c]at this hr;omega
  .have:=V0 h hq c;exact⟨c,x7p (h.join hq) hl (by omega)⟩
theorem For.perm(hP:∀p∈P,PqIn n p){F G:List Int}(h:For n P F)(hG:G.Nodup)(he:∀x,x∈F↔x∈G):For n P G:=by
 have hr:∀i∈G,0<=i/\i<P.length:=λi hi=>h.rng i ((he i).mpr hi)
 refine⟨hr,hG,x7p (Lab.fresh n) (uT hP hr) ?_⟩;have h1:=L4 (Lab.fresh n) (uT hP h.rng) h.ind;have h2:joinsM (freshM n) (prs P G)=joinsM (freshM n) (prs P F):=x7n (uT hP hr) (uT hP h.rng) λp=>by unfold prs;rw[xch,xch];exact⟨λ⟨i,a,b⟩=>⟨i,(he i).mpr a,b⟩,λ⟨i,a,b⟩=>⟨i,(he i).mp a,b⟩⟩
 have h3:=x7k h.nod hG he;rw[h2];have e1:(prs P F).length=F.length:=(by unfold prs;simp);have e2:(prs P G).length=G.length:=(by unfold prs;simp);omega
theorem For.sub(hP:∀p∈P,PqIn n p){F G:List Int}(h:For n P F)(hG:G.Nodup)(hs:∀x∈G,x∈F):For n P G:=by
 refine(h.perm (G:=G++F.filter λx=>!(G.contains x)) hP ?_ λx=>?_).take
 .rw[xdv];refine⟨hG,h.nod.filter _,λa ha b hb e=>?_⟩;subst e;have:=(xcn.mp hb).2;simp at this;exact this ha
 .rw[xd0,xcn];by_cases c:x∈G
  .simp[c,hs x c]
  .simp[c]
theorem prs_fresh:prs P (freshM P.length)=P:=by
 apply xfv
 .simp[prs,freshM]
 .intro k h1 h2;have h3:k<P.length:=h2;simp[prs,freshM,qO,xcg,h3]
structure Tree (n:Nat) (P:List Pq) (F:List Int):Prop where
 fo:For n P F
 asc:Asc F
 all:∀p∈P,Sm (joinsM (freshM n) (prs P F)) p.a.toNat p.b.toNat
theorem mem_prs{F':List Int}(hr:∀i∈F',0<=i/\i<P.length):∀p∈prs P F',p∈P:=by intro p hp;obtain⟨i,hi,rfl⟩:=xch.mp hp;have:=hr i hi;have h2:i.toNat<P.length:=(by omega);unfold qO;rw[xcg,xci h2];exact xcp h2
theorem Tree.uni(hP:∀p∈P,PqIn n p){F:List Int}(h:Tree n P F):joinsM (freshM n) (prs P F)=joinsM (freshM n) P:=
 x7m (uT hP h.fo.rng) hP (λp hp=>zD (Lab.fresh n) hP p (mem_prs h.fo.rng p hp)) h.all
theorem Tree.len(hP:∀p∈P,PqIn n p){F:List Int}(h:Tree n P F):n=wN n (joinsM (freshM n) P)+F.length:=by have:=L4 (Lab.fresh n) (uT hP h.fo.rng) h.fo.ind;rw[x7d,h.uni hP]at this;have e:(prs P F).length=F.length:=(by unfold prs;simp);omega
def yC(f:Int->Int)(x:Int):List Int->List Int
 |[]=>[x]
 |y::r=>if f x<f y\/(f x=f y/\x<y)then x::y::r else y::yC f x r
theorem ins_mem{f:Int->Int}{x z:Int}:∀{l:List Int},z∈yC f x l↔z=x\/z∈l
 |[]=>by simp[yC]
 |y::r=>by
  rw[yC];split
  .simp
  .rw[xce,ins_mem,xce];constructor
   .rintro(h|h|h)<;>simp[h]
   .rintro(h|h|h)<;>simp[h]
theorem ins_srt{f:Int->Int}{x:Int}:∀{l:List Int},l.Pairwise (lx f)->x∉l->(yC f x l).Pairwise (lx f)
 |[],_,_=>by simp[yC]
 |y::r,h,hx=>by
  rw[yC];rw[xdp]at h;split
  .rename_i c;rw[xdp];refine⟨λz hz=>?_,xdp.mpr h⟩;rcases xce.mp hz with rfl|hz
   .exact c
   .exact x7j c (h.1 z hz)
  .rename_i c;rw[xdp];refine⟨λz hz=>?_,ins_srt h.2 λhm=>hx (xc9 _ hm)⟩;rcases ins_mem.mp hz with rfl|hz
   .rcases lx_tot (f:=f) (i:=z) (j:=y) (λe=>hx (by rw[e];exact xcf ..))with e|e
    .exact absurd e c
    .exact e
   .exact h.1 z hz
def qZ(f:Int->Int)(N:Nat):List Int:=(freshM N).foldr (yC f) []
theorem zE(f:Int->Int)(N:Nat):Ordd f N (qZ f N):=by
 have main:∀l:List Int,l.Nodup->(l.foldr (yC f) []).Pairwise (lx f)/\∀x,x∈l.foldr (yC f) []↔x∈l:=by
  intro l;induction l with
  |nil=>intro _;simp
  |cons y r ih=>intro h;rw[xe5]at h;obtain⟨h1,h2⟩:=ih h.2;rw[List.foldr_cons];exact⟨ins_srt h1 λhm=>h.1 ((h2 y).mp hm),λx=>by rw[ins_mem,h2,xce]⟩
 obtain⟨h1,h2⟩:=main (freshM N) (V6 N).nodup;exact⟨h1,λx=>(h2 x).trans fresh_mem⟩
def l5(f:Int->Int)(n:Nat)(P:List Pq):List Int:=tG P (freshM n) (qZ f P.length)
def sS(f:Int->Int)(n:Nat)(P:List Pq):List Int:=(freshM P.length).filter λi=>(l5 f n P).contains i
theorem x7q{f:Int->Int}{x:Int}(h:x∈l5 f n P):0<=x/\x<P.length:=((zE f P.length).2 x).mp ((F8 _ _).subset h)
theorem x7r(f:Int->Int):(l5 f n P).Nodup:=(F8 _ _).nodup (zE f P.length).nodup
theorem light_mem{f:Int->Int}{x:Int}:x∈sS f n P↔x∈l5 f n P:=by
 unfold sS;rw[xcn,fresh_mem];constructor
 .rintro⟨_,h⟩;simpa using h
 .intro h;exact⟨x7q h,by simpa using h⟩
theorem V7(f:Int->Int):Asc (sS f n P):=(V6 _).filter _
theorem V8(hP:∀p∈P,PqIn n p)(f:Int->Int):For n P (l5 f n P):=⟨λi hi=>x7q hi,x7r f,V3 _ _⟩
theorem F9(hP:∀p∈P,PqIn n p)(f:Int->Int):For n P (sS f n P):=(V8 hP f).perm hP (V7 f).nodup λx=>light_mem.symm
theorem x7s(hP:∀p∈P,PqIn n p)(f:Int->Int):Tree n P (sS f n P):=by
 refine⟨F9 hP f,V7 f,λp hp=>?_⟩;have hO:∀i∈qZ f P.length,0<=i/\i<P.length:=λi hi=>((zE f P.length).2 i).mp hi
 have e:joinsM (freshM n) (prs P (sS f n P))=joinsM (freshM n) (prs P (qZ f P.length)):=by
  rw[<-V2 (P:=P) (qZ f P.length)];refine x7n (uT hP (F9 hP f).rng) (uT hP (V8 hP f).rng) λq=>?_
  unfold prs;rw[xch,xch];exact⟨λ⟨i,a,b⟩=>⟨i,light_mem.mp a,b⟩,λ⟨i,a,b⟩=>⟨i,light_mem.mpr a,b⟩⟩
 rw[e];refine zD (Lab.fresh n) (uT hP hO) p ?_;unfold prs;rw[xch];obtain⟨k,hk,rfl⟩:=xfg.mp hp;refine⟨(k:Int),((zE f P.length).2 _).mpr (by omega),?_⟩;unfold qO;simp[xcg,hk]
theorem Ordd.split{f:Int->Int}{N:Nat}{L:List Int}(h:Ordd f N L)(c:Int):L=L.filter (λi=>decide (f i<=c))++L.filter (λi=>!decide (f i<=c)):=by
 refine h.one ⟨?_,λx=>?_⟩
 .rw[xeh];refine⟨h.1.filter _,h.1.filter _,λa ha b hb=>?_⟩;have h1:=(xcn.mp ha).2;have h2:=(xcn.mp hb).2;simp at h1 h2;unfold lx;omega
 .rw[<-h.2,xd0,xcn,xcn];cases decide (f x<=c)<;>simp
end Go.Ix
