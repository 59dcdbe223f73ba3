import Derived.Test.YtpeakdjfagbpcaaGreatWg4
import Derived.Test.YtpeakdjfagbpcaaGreatWg3
import Derived.Test.YtpeakdjfagbpcaaGreatWg0
set_option linter.unusedSimpArgs false
set_option linter.unusedVariables false
namespace Go.Ix
theorem x13t(l:List Scene)(P:List Pq):∀(F:List Int) (s:Int),sumL l P s F=s+(F.map λi=>lenP l (prAt P i)).sum
 |[],s=>by simp[sumL]
 |i::r,s=>by
  rw[sumL,x13t l P r,x1fl,List.sum_cons]
  omega
open Go.Proofs
theorem x17d{objs:Id->Option Ob}{id:Id}{cs:List AV}{v off k:Nat}{f:Bool}(h:objs id=some (.row cs v f)):Go.Ix.frz objs (k+1) (.ptr id v off)=((cs.drop off).mapM (Go.Ix.frz objs k)).map AV.plit:=by
 simp only[Go.Ix.frz,h,x1fh]
theorem frz_box{objs:Id->Option Ob}{id:Id}{a a':AV}{v k:Nat}{f:Bool}(h:objs id=some (.row [a] v f))(ha:Go.Ix.frz objs k a=some a'):Go.Ix.frz objs (k+1) (.ptr id v 0)=some (.plit [a']):=by
 rw[x17d h]
 simp only[x1f0,x1fq,x1g8,ha]
 rfl
theorem frz_two{objs:Id->Option Ob}{a b b':AV}(ha:still a=true)(hb:Go.Ix.frz objs deep b=some b'):[a,b].mapM (Go.Ix.frz objs deep)=some [a,b']:=by
 simp only[x1fq,x1g8,hb]
 rw[show Go.Ix.frz objs deep a=some a from xtu objs 4 ha]
 rfl
theorem z_graph:xgh=[nilS,nilS]:=by kernel_rfl
theorem sumL_in{l:List Scene}{P:List Pq}(hb:InB l):∀{F:List Int},Rng l.length P F->0<=sumL l P 0 F/\sumL l P 0 F<=F.length*300000
 |[],_=>by simp[sumL]
 |i::r,h=>by
  have ih:=sumL_in hb (F:=r) λj hj=>h j (x1f6 _ hj)
  have:=x11a hb (h i (x1f7 ..)).2
  rw[x13t]at ih ⊢
  rw[x1fl,List.sum_cons,x1fi]
  omega
theorem cvt_small:∀n:Nat,n<=12->sCvt Tryz.prog xs6 xd (I n)=some (.sc (.int .u64 n))
 |0,_=>by kernel_rfl
 |1,_=>by kernel_rfl
 |2,_=>by kernel_rfl
 |3,_=>by kernel_rfl
 |4,_=>by kernel_rfl
 |5,_=>by kernel_rfl
 |6,_=>by kernel_rfl
 |7,_=>by kernel_rfl
 |8,_=>by kernel_rfl
 |9,_=>by kernel_rfl
 |10,_=>by kernel_rfl
 |11,_=>by kernel_rfl
 |12,_=>by kernel_rfl
 |n+13,h=>by omega
theorem a_Len64(call:xr5):∀n:Nat,n<=12->∃v:Int,xfk call [] [.sc (.int .u64 n)] mem0=some (I v,⟨[],1⟩)
 |0,_=>⟨0,by kernel_rfl⟩
 |1,_=>⟨1,by kernel_rfl⟩
 |2,_=>⟨2,by kernel_rfl⟩
 |3,_=>⟨2,by kernel_rfl⟩
 |4,_=>⟨3,by kernel_rfl⟩
 |5,_=>⟨3,by kernel_rfl⟩
 |6,_=>⟨3,by kernel_rfl⟩
 |7,_=>⟨3,by kernel_rfl⟩
 |8,_=>⟨4,by kernel_rfl⟩
 |9,_=>⟨4,by kernel_rfl⟩
 |10,_=>⟨4,by kernel_rfl⟩
 |11,_=>⟨4,by kernel_rfl⟩
 |12,_=>⟨4,by kernel_rfl⟩
 |n+13,h=>by omega
theorem w_bitsLen(d:Nat){n:Nat}(hn:n<=12)(m:Mem):∃v:Int,xr8 (xr4 (d+2)) x4v [.sc (.int .u64 n)] m=some (I v,m):=by
 obtain⟨v,hv⟩:=a_Len64 (xr4 d) n hn
 have h64:∀m,xr8 (xr4 (d+1)) x4y [.sc (.int .u64 n)] m=some (I v,m):=λm=>by
  refine xth rfl ?_ m
  rw[xnr,hv]
  exact RetF.st rfl rfl
 refine⟨v,xth rfl ?_ m⟩
 rw[xnh]
 unfold xfe xcj
 simp[mem0,h64]
 exact RetF.st rfl rfl
theorem c_Sort(d:Nat)(hs:FHs){a:AV}{ok:Id->Prop}{L:List Int}{m:Mem}(hL:L.length<=12)(hG:Gk 1 intE ok m a L) :
 ∃m',xr4 (d+5) hs x4s [a] m=some (.tup [],m')/\Gk 1 intE ok m' a (isoM (λx y=>decide (x<y)) (L.length-1) L)/\m.next<=m'.next/\xvq ok m m':=by
 rw[xn0]
 unfold xf3 xbk
 obtain⟨v,hv⟩:=w_bitsLen (d+2) hL (⟨m.hp,m.next+1⟩:Mem)
 simp only[hG.len xru,xr9,cvt_small _ hL,hv]
 rw[xng]
 unfold xfd xci
 obtain⟨NM,hNM⟩:∃NM,NN=NM+1:=⟨NN-1,by have:=xrg;omega⟩
 rw[hNM]
 simp only[xch]
 unfold xjt
 obtain⟨m',e1,e2,e3,e4⟩:=c_insertO d hs (L:=L) (m:=⟨m.hp,m.next+1+1⟩) (by omega) (hG.frame λ_ _=>rfl)
 have h12:(L.length:Int)<=12:=by omega
 simp[e1]
 rw[xrc (by omega) (by omega)]
 simp[h12]
 exact⟨e2,by have:m'.next=m.next+1+1+1:=e3;omega,λj hj=>by rw[e4 j hj];rfl⟩
def fW(l:List Scene)(P:List Pq)(i:Int):Int:=lenP l (prAt P i)
theorem x1b7(d:Nat){s p:AV}{l:List Scene}{P:List Pq}(hs:Sl Scene.c s l)(hp:Sl Pq.c p P)(hR:Right7 l P)(id:Id)(hid:id.1=0):Cmps (xr4 (d+3)) (.clo x2v [.ptr id 0 0]) id (.row [s,p] 0 false) P.length (λx y=>fW l P x-fW l P y):=by
 intro hh x y m x0 x1 y0 y1 hg
 refine⟨m.next+1,by omega,?_⟩
 show xr4 (d+3) hh x2v [I x,I y,.ptr id 0 0] m=_
 have hx:=hR.at (i:=x) ⟨x0,x1⟩
 have hy:=hR.at (i:=y) ⟨y0,y1⟩
 have i1:=x11a hR.ib hx
 have i2:=x11a hR.ib hy
 rw[xmz]
 unfold xf2 xbj
 have hg':(⟨m.hp,m.next+1⟩:Mem).get id=some (.row [s,p] 0 false):=hg
 obtain⟨i,j,k⟩:=id
 simp at hid
 subst hid
 have hb:Nat.ble 1 (m.next+1)=true:=by rw[Nat.ble_eq];omega
 unfold fW
 simp[hb,hg',x16u d hs hp hR.ib ⟨x0,x1⟩ hx,x16u d hs hp hR.ib ⟨y0,y1⟩ hy,hs.clean1,hp.clean1,cAp,tR,Nat.blt]
 rw[xrc (by omega) (by omega)]
theorem ord_rng{f:Int->Int}{N:Nat}:InN N (ordM f N):=λx hx=>((xwk f N).2 x).mp hx
theorem xzw(f:Int->Int)(N:Nat):(ordM f N).length=N:=by
 have:=x16y (xwk f N).nodup (x13p N).nodup λx=>((xwk f N).2 x).trans fresh_mem.symm
 rw[this];simp[freshM]
theorem ord_Rng{l:List Scene}{P:List Pq}(hR:Right7 l P)(f:Int->Int)(k:Nat):Rng l.length P ((ordM f P.length).take k):=λi hi=>by
 have:=ord_rng _ (x1ih hi)
 exact⟨this,hR.at this⟩
theorem x1b8(d:Nat){s p:AV}{l:List Scene}{P:List Pq}(hs:Sl Scene.c s l)(hp:Sl Pq.c p P)(hR:Right7 l P)(hl:l.length<=8)(hP:P.length<=14) :
 RetF (λv=>Ints v (xsw (fW l P) l.length P)) (xr4 (d+7) [] x2l [.agg [s,p]] mem0):=by
 rw[xmg]
 unfold xel xac xhw
 simp[mem0,hs.one,hp.one,hp.len xt9]
 refine xsf (N:=P.length) (λn k a m fc=>x5s (xr4 (d+6)) [] 0 n (.ptr (0,0,1) 0 0) a nilS (I P.length) (I k) m fc)
  (λk a m=>m.get (0,0,1)=some (.row [s,p] 0 false)/\Gk 1 intE (okZ 19) m a ((freshM P.length).take k)/\m.next=1) _ ?_ ?_ NN 0 nilS _ _ (by omega) (by rw[xrg];omega) ⟨by simp,by simpa using Gk.nil,rfl⟩
 .rintro n k a m fc hk ⟨hg,hG,hn⟩ next
  have hk':(k:Int)<(P.length:Int):=by omega
  have hlt:((freshM P.length).take k).length=k:=by simp[freshM];omega
  obtain⟨a2,m2,e1,e2,-,-,e3,e4⟩:=hG.app (bytes:=8) (id0:=(0,fc+6,19)) xrm (by omega) ⟨rfl,rfl⟩ (by unfold xrq;omega) (k:Int)
  simp only[x5s]
  unfold xab
  simp(disch:=omega) [hk',xso,xrc]
  rw[show elems m.get 1 (.slit [I (k:Int)] 1 true)=some (intE (k:Int),1)from rfl,e1]
  exact next a2 m2 _ ⟨by rw[e4 _ (by unfold okZ;simp)];exact hg,by rw[<-xzt hk];exact e2,by omega⟩
 .rintro n a m fc ⟨hg,hG,hn⟩
  have hk:¬((P.length:Int)<(P.length:Int)):=by omega
  rw[x1f8 (by simp[freshM])]at hG
  have hfl:(freshM P.length).length=P.length:=by simp[freshM]
  obtain⟨m1,c1,c2,c3,c4⟩:=x1b5 (d+3) [] (x1b7 d hs hp hR (0,0,1) rfl) (ok:=okZ 19) (by unfold okZ;simp) (by omega) (λx hx=>fresh_mem.mp hx) hG hg
  rw[show(λx y=>decide (fW l P x-fW l P y<0))=λx y=>decide (fW l P x<fW l P y)from by funext x y;exact decide_eq_decide.mpr (by omega),iso_ord]at c2
  have hg1:m1.get (0,0,1)=some (.row [s,p] 0 false):=by rw[c4 _ (by unfold okZ;simp)];exact hg
  obtain⟨ua,M,hc,hU,hM,hfr⟩:=x1b3 (d+5) (n:=l.length) (by omega) m1
  simp only[x5s]
  unfold xab xhv
  simp[c1,hg1,hs.len xt5,hc]
  have hgM:M.get (0,0,1)=some (.row [s,p] 0 false):=by rw[hfr _ (by show 0<m1.next;omega)];exact hg1
  have hGM:Gk 1 intE (okZ 19) M a (ordM (fW l P) P.length):=c2.frame λj hj=>hfr j (by obtain⟨h1,h2⟩:=hj;omega)
  have hol:=xzw (fW l P) P.length
  unfold xhu
  simp only[hGM.len xru,xr9]
  generalize hN1:m1.next=N1 at *
  have hN0:1<=N1:=by omega
  refine xsf (N:=(ordM (fW l P) P.length).length) (λn k o m fc=>x5r (xr4 (d+6)) [] 0 n (.ptr (0,0,1) 0 0) o ua a (I (ordM (fW l P) P.length).length) (I k) m fc)
   (λk o m=>(m.get (0,0,1)=some (.row [s,p] 0 false)/\N1<m.next)/\Gk 1 intE (okZ 19) m a (ordM (fW l P) P.length)/\Gk 1 intE (λid=>id.1=N1) m ua (uniM l.length P ((ordM (fW l P) P.length).take k)) /\
    Gk 1 intE (okZ 46) m o (takeM P (freshM l.length) ((ordM (fW l P) P.length).take k))) _ ?_ ?_ NN 0 nilS _ _ (by omega) (by rw[xrg];omega) ⟨⟨hgM,by omega⟩,hGM,by simpa[uniM,prs,joinsM]using hU,by simpa[takeM]using Gk.nil⟩
  .rintro n k o m fc hk ⟨⟨hg,hmn⟩,hO,hU,hT⟩ next
   have hk':(k:Int)<((ordM (fW l P) P.length).length:Int):=by omega
   obtain⟨q,i1,l1,-⟩:=hO.at (k:=(k:Int)) (by omega) hk'
   rw[x1f1]at l1
   have hx:=ord_rng.get hk
   have hRk:=ord_Rng hR (fW l P) k
   have hL:=(x13s hRk).len
   have hq:=hR.at hx
   have ip:=hp.ixz Pq.len hx.1 hx.2
   have lp:=λm=>xsy (m:=m) (enc:=Pq.c) Pq.len (by omega) (show(at0 (ordM (fW l P) P.length) k).toNat<P.length by omega)
   rw[<-xx7 (by omega)]at lp
   have hus:=x177 (n:=l.length) (P:=P) hk
   have hts:takeM P (freshM l.length) ((ordM (fW l P) P.length).take (k+1))=takeM P (freshM l.length) ((ordM (fW l P) P.length).take k)++(if at0 (uniM l.length P ((ordM (fW l P) P.length).take k)) (prAt P (at0 (ordM (fW l P) P.length) k)).a.toNat=at0 (uniM l.length P ((ordM (fW l P) P.length).take k)) (prAt P (at0 (ordM (fW l P) P.length) k)).b.toNat then[]else[at0 (ordM (fW l P) P.length) k]):=by
    rw[x1g3 hk,x16v,xrn hk]
    rfl
   have htl:(takeM P (freshM l.length) ((ordM (fW l P) P.length).take k)).length<=14:=by
    have h1:=(xx8 (P:=P) ((ordM (fW l P) P.length).take k) (freshM l.length)).length_le
    simp at h1
    omega
   obtain⟨m2,e1,e2,e3,e4⟩:=c_join (d+5) [] hU (λj hj=>by have hj':j.1=N1:=hj;omega) (p:=prAt P (at0 (ordM (fW l P) P.length) k)) (by rw[hL];exact hq) (by rw[hL];omega)
   have keep:∀j:Id,j.1=0->m2.get j=m.get j:=λj hj=>e4 j (by show ¬j.1=N1;omega) (by omega)
   simp only[Pq.c]at lp
   simp only[x5r]
   unfold xaa xht
   have hO2:Gk 1 intE (okZ 19) m2 a (ordM (fW l P) P.length):=hO.frame λj hj=>keep j hj.1
   have hT2:Gk 1 intE (okZ 46) m2 o (takeM P (freshM l.length) ((ordM (fW l P) P.length).take k)):=hT.frame λj hj=>keep j hj.1
   have hg2:m2.get (0,0,1)=some (.row [s,p] 0 false):=by rw[keep _ rfl];exact hg
   rw[<-hus]at e2
   simp only[xry,hk',x1ff,xrw,xr9,i1,l1]
   simp[hg,ip,lp,e1]
   by_cases c3:at0 (uniM l.length P ((ordM (fW l P) P.length).take k)) (prAt P (at0 (ordM (fW l P) P.length) k)).a.toNat=at0 (uniM l.length P ((ordM (fW l P) P.length).take k)) (prAt P (at0 (ordM (fW l P) P.length) k)).b.toNat
   .rw[x1ez c3,x1g5]at hts
    simp[c3]
    unfold x6u
    simp(disch:=omega) [xrc]
    exact next o m2 _ ⟨⟨hg2,by omega⟩,hO2,e2,by rw[hts];exact hT2⟩
   .rw[x1ey c3]at hts
    obtain⟨o2,m3,a1,a2,-,-,a3,a4⟩:=hT2.app (bytes:=8) (id0:=(0,fc+1+14,46)) xrm (by omega) ⟨rfl,rfl⟩ (by unfold xrq;omega) (at0 (ordM (fW l P) P.length) k)
    simp[c3,xso]
    rw[show ∀x:Int,elems m2.get 1 (.slit [I x] 1 true)=some (intE x,1)from λ_=>rfl,a1]
    unfold x6u
    simp(disch:=omega) [xrc]
    refine next o2 m3 _ ⟨⟨by rw[a4 _ (by unfold okZ;simp)];exact hg2,by omega⟩,hO2.frame λj hj=>a4 j (by obtain⟨h1,h2⟩:=hj;unfold okZ;omega),e2.frame λj hj=>a4 j (by have hj':j.1=N1:=hj;unfold okZ;omega),by rw[hts];exact a2⟩
  .rintro n o m fc ⟨⟨hg,hmn⟩,hO,hU,hT⟩
   rw[x1f8 (x1f3 _)]at hT
   have hTL:takeM P (freshM l.length) (ordM (fW l P) P.length)=xt3 (fW l P) l.length P:=rfl
   rw[hTL]at hT
   have hlen:=(x13r hR.pr (fW l P)).len hR.pr
   obtain⟨m2,e1,e2,e3,e4⟩:=c_Sort (d+1) [] (by omega) hT
   obtain⟨s1,s2⟩:=iso_asc (x175 (n:=l.length) (P:=P) (fW l P))
   have hfin:isoM (λx y=>decide (x<y)) ((xt3 (fW l P) l.length P).length-1) (xt3 (fW l P) l.length P)=xsw (fW l P) l.length P:=s1.one (x13q _) λx=>(s2 x).trans light_mem.symm
   rw[hfin]at e2
   simp only[x5r]
   unfold xaa xhs
   simp[e1]
   obtain⟨v,h1,h2⟩:=e2.sl1 4
   exact RetF.mk h2 h1
theorem x1b9(d:Nat){s p:AV}{l:List Scene}{P:List Pq}(hs:Sl Scene.c s l)(hp:Sl Pq.c p P)(hR:Right7 l P)(hl:l.length<=8)(hP:P.length<=14)(m:Mem) :
 ∃v,Ints v (xsw (fW l P) l.length P)/\xr8 (xr4 (d+7)) x2l [.agg [s,p]] m=some (v,m):=
 xtg (by simp[hs.still1,hp.still1]) (x1b8 d hs hp hR hl hP) m
def bE(b:Bool):List AV:=[B b]
theorem bE_len(b:Bool):(bE b).length=1:=rfl
variable{α:Type}{z:Nat}{enc:α->List AV}
def Ow(enc:α->List AV)(m:Mem)(id:Id)(l:List α):Prop:=m.get id=some (.row (l.flatMap enc) 0 false)
theorem Ow.fr{m m':Mem}{id:Id}{l:List α}(h:Ow enc m id l)(e:m'.get id=m.get id):Ow enc m' id l:=by unfold Ow;rw[e];exact h
theorem ow_ix{id:Id}{n:Nat}{k:Int}(h0:0<=k)(h1:k<n):sIx z (.sref id 0 0 n z true) (I k)=some (.ptr id 0 (k.toNat*z)):=by
 simp[sIx,asI,h0,h1]
theorem Ow.ld(hz:∀x,(enc x).length=z){m:Mem}{id:Id}{l:List α}(h:Ow enc m id l){k:Nat}(hk:k<l.length){g:Bool}:sLd g z (.ptr id 0 (k*z)) m=rd g z (enc l[k]++(l.drop (k+1)).flatMap enc):=by
 rw[ld_ptr h,x10w hz,xsj hk,x1fo]
theorem Ow.ldS(hz:∀x,(enc x).length=z){m:Mem}{id:Id}{l:List α}(h:Ow enc m id l){k:Nat}(hk:k<l.length):sLd true z (.ptr id 0 (k*z)) m=some (.agg (enc l[k])):=by
 rw[h.ld hz hk,rd_t,x1fy (by simp[hz]),x1ic (by rw[hz];exact x1f3 _),x1f8 (by rw[hz];exact x1f3 _)]
 rfl
theorem x17e(hz:∀x,(enc x).length=z)(x:α):∀(l:List α) (k:Nat),k<l.length->xs3 (l.flatMap enc) (k*z) (enc x)=(l.set k x).flatMap enc
 |[],_,h=>by simp at h
 |y::r,0,_=>by
  simp only[xs3,x1h7,x1f9,x1gi,x1gp,x1ht,x1fo]
  rw[hz,<-hz y,x1kk (x1f3 _),x1g4 (x1f3 _),x1gp]
 |y::r,k+1,h=>by
  have ih:=x17e hz x r k (by simpa using h)
  simp only[xs3,x1i4,x1fo]at ih ⊢
  rw[x1fx,show k*z+z=(enc y).length+k*z by rw[hz];omega,x1kl,x1gs,x1i0,x1gy,<-ih]
  have e:(enc y).length+(k*z+(enc x).length)-(enc y).length=k*z+(enc x).length:=by omega
  rw[e,x1g4 (by omega),x1gp]
theorem Ow.st(hz:∀x,(enc x).length=z){m:Mem}{id:Id}{l:List α}(h:Ow enc m id l){k:Nat}(hk:k<l.length){x:α}{v:AV}(hv:v.cells=enc x)(h1:(enc x).all AV.one=true) :
 (∀{R:Type} (K:Mem->Option R),sSt z (.ptr id 0 (k*z)) v m K=K (m.set id (.row ((l.set k x).flatMap enc) 0 false)))/\Ow enc (m.set id (.row ((l.set k x).flatMap enc) 0 false)) id (l.set k x):=by
 refine⟨λK=>?_,by unfold Ow;simp⟩
 have hl:=xu2 hz l
 rw[st_ptr (z:=z) (x:=v) (k:=K) h (by rw[hv,hz]) (by rw[hl];have:=x1gm z (show k+1<=l.length from hk);rw[x1fx]at this;exact this) (by rw[hv];exact h1),hv,x17e hz x l k hk]
theorem zeros_c{z:List AV}{c:AV}(hc:∀i,i<z.length->z.getD i (.sc undef)=c)(h0:0<z.length)(k:Nat):xsc z k=List.replicate k c:=by
 unfold xsc
 apply x1hr
 .simp
 .intro i h1 h2
  simp only[x1ix,x1kc,List.getElem_replicate]
  exact hc _ (x1iq _ h0)
theorem rep_flat(n:Nat)(c:AV)(x:α)(hx:enc x=List.replicate z c):(List.replicate n x).flatMap enc=List.replicate (n*z) c:=by
 induction n with
 |zero=>simp
 |succ n ih=>
  rw[x1ii,x1fo,ih,hx,x1fx,x1io,x1kd]
theorem mkSl_c{R:Type}{zc:List AV}{c:AV}{bytes:Nat}(hb:bytes<=64)(hzl:zc.length=z)(hc:∀i,i<zc.length->zc.getD i (.sc undef)=c)(h0:0<zc.length){x:α}(hx:enc x=List.replicate z c){n:Nat}(hn:n<=1000000)(id:Id)(m:Mem)(k:AV->Mem->Option R) :
 xsh zc z bytes (I n) (I n) id m k=k (.sref id 0 0 n z true) (m.new id (.row ((List.replicate n x).flatMap enc) 0 false)):=by
 have h1:bytes*n<=64*1000000:=x1h1 hb hn
 simp only[xsh,asI]
 rw[x1ez ⟨by omega,x1ft _,by omega,by omega⟩,zeros_c hc h0,rep_flat n c x hx]
 simp
theorem zb_b7:x3b=[B false]:=by kernel_rfl
theorem mkSl_b{R:Type}{n:Nat}(hn:n<=1000000)(id:Id)(m:Mem)(k:AV->Mem->Option R):xsh x3b 1 1 (I n) (I n) id m k=k (.sref id 0 0 n 1 true) (m.new id (.row ((List.replicate n false).flatMap bE) 0 false)):=
 mkSl_c (enc:=bE) (c:=B false) (by omega) (by rw[zb_b7];rfl) (by rw[zb_b7];intro i hi;simp at hi;subst hi;rfl) (by rw[zb_b7];simp) rfl hn id m k
theorem mkSl_i{R:Type}{n:Nat}(hn:n<=1000000)(id:Id)(m:Mem)(k:AV->Mem->Option R):xsh xse 1 8 (I n) (I n) id m k=k (.sref id 0 0 n 1 true) (m.new id (.row ((List.replicate n (0:Int)).flatMap intE) 0 false)):=
 mkSl_c (enc:=intE) (c:=I 0) (by omega) (by rw[xso];rfl) (by rw[xso];intro i hi;simp at hi;subst hi;rfl) (by rw[xso];simp) rfl hn id m k
theorem x13u:xv=[I 0,I 0]:=by kernel_rfl
theorem mkSl_s{R:Type}{n:Nat}(hn:n<=1000000)(id:Id)(m:Mem)(k:AV->Mem->Option R):xsh xv 2 16 (I n) (I n) id m k=k (.sref id 0 0 n 2 true) (m.new id (.row ((List.replicate n (⟨0,0⟩:Sp)).flatMap Sp.c) 0 false)):=
 mkSl_c (enc:=Sp.c) (c:=I 0) (by omega) (by rw[x13u];rfl) (by
  rw[x13u];intro i hi
  match i,hi with
  |0,_=>rfl
  |1,_=>rfl
  |i+2,h=>simp at h;omega) (by rw[x13u];simp) rfl hn id m k
theorem Ow.ldB{m:Mem}{id:Id}{l:List Bool}(h:Ow bE m id l){k:Int}(h0:0<=k)(hk:k<l.length):sLd false 1 (.ptr id 0 k.toNat) m=some (B (l.getD k.toNat false)):=by
 have h1:k.toNat<l.length:=by omega
 have:=h.ld bE_len h1 (g:=false)
 rw[x1gz]at this
 rw[this,x1fd,x1fs h1]
 rfl
theorem Ow.ldI{m:Mem}{id:Id}{l:List Int}(h:Ow intE m id l){k:Int}(h0:0<=k)(hk:k<l.length):sLd false 1 (.ptr id 0 k.toNat) m=some (I (at0 l k.toNat)):=by
 have h1:k.toNat<l.length:=by omega
 have:=h.ld xrm h1 (g:=false)
 rw[x1gz]at this
 rw[this,xrn h1]
 rfl
theorem xvr{id:Id}{n:Nat}{k:Int}(h0:0<=k)(h1:k<n):sIx 1 (.sref id 0 0 n 1 true) (I k)=some (.ptr id 0 k.toNat):=by
 simpa using ow_ix (z:=1) (id:=id) h0 h1
theorem Ow.st1{g:α->AV}(he:∀x,enc x=[g x]){m:Mem}{id:Id}{l:List α}(h:Ow enc m id l){k:Int}(h0:0<=k)(hk:k<l.length){x:α}(hc:(g x).cells=[g x])(h1:(g x).one=true) :
 (∀{R:Type} (K:Mem->Option R),sSt 1 (.ptr id 0 k.toNat) (g x) m K=K (m.set id (.row ((l.set k.toNat x).flatMap enc) 0 false)))/\Ow enc (m.set id (.row ((l.set k.toNat x).flatMap enc) 0 false)) id (l.set k.toNat x):=by
 have:=h.st (z:=1) (λx=>by rw[he];rfl) (k:=k.toNat) (by omega) (x:=x) (v:=g x) (by rw[hc,he]) (by rw[he];simp[h1])
 simpa using this
theorem l_Has(d:Nat)(hs:FHs){a:AV}{l:List Int}{x:Int}(h:Ints a l)(hl:l.length<=1000000)(u:Nat):∀(suf:List Int) (k j:Nat) (m:Mem) (fc:Nat),l.drop k=suf->suf.length<j ->
 x5f (xr4 d) hs u j a (I x) (I k) m fc=some (B (suf.any λy=>decide (y=x)),m):=by
 intro suf
 induction suf with
 |nil=>
  intro k j m fc hd hj
  obtain⟨j,rfl⟩:∃i,j=i+1:=⟨j-1,by simp at hj;omega⟩
  have hk:¬((k:Int)<(l.length:Int)):=by have:=x1g2.mp hd;omega
  simp only[x5f]
  unfold x8u
  simp[h.len xru,hk,xgj]
 |cons y r ih=>
  intro k j m fc hd hj
  obtain⟨j,rfl⟩:∃i,j=i+1:=⟨j-1,by simp at hj;omega⟩
  obtain⟨hk,hke,hd⟩:=xtf hd
  have hk':(k:Int)<(l.length:Int):=by omega
  have ix:=h.ix xrm hk
  have e1:at0 l k=y:=by rw[xrn hk,hke]
  have ih':=ih (k+1) j m (fc+13) hd (by simp at hj;omega)
  simp only[x5f,x1hk]
  unfold x8u
  by_cases c:y=x
  .simp(disch:=omega) [h.len xru,hk',ix,xs2,e1,c]
  .simp(disch:=omega) [h.len xru,hk',ix,xs2,e1,c]
   simpa using ih'
theorem w_Has(d:Nat){a:AV}{l:List Int}{x:Int}(h:Ints a l)(hl:l.length<=1000000)(m:Mem):xr8 (xr4 (d+1)) x13 [a,I x] m=some (B (l.any λy=>decide (y=x)),m):=by
 refine Ans.call0 ?_ (by simp[h.still]) rfl
 unfold Ans
 refine⟨⟨[],1⟩,?_⟩
 rw[xlk]
 exact l_Has d [] h hl 0 l 0 NN ⟨[],1⟩ 2 rfl (by rw[xrg];omega)
def GkF(ok:Id->Prop)(m:Mem)(a:AV)(l:List Int):Prop:=(a=nilS/\l=[])\/∃id ver b,ok id/\a=.sref id ver 0 l.length 1 true/\m.get id=some (.row (l.flatMap intE) ver b)
theorem Gk.toF{ok:Id->Prop}{m:Mem}{a:AV}{l:List Int}(h:Gk 1 intE ok m a l):GkF ok m a l:=by
 rcases h with h|⟨id,ver,h1,h2,h3⟩
 .exact .inl h
 .exact .inr ⟨id,ver,false,h1,h2,h3⟩
theorem GkF.frame{ok:Id->Prop}{m m':Mem}{a:AV}{l:List Int}(h:GkF ok m a l)(hm:∀id,ok id->m'.get id=m.get id):GkF ok m' a l:=by
 rcases h with h|⟨id,ver,b,h0,h1,h2⟩
 .exact Or.inl h
 .exact Or.inr ⟨id,ver,b,h0,h1,by rw[hm _ h0];exact h2⟩
theorem x17f(objs:Id->Option Ob)(k:Nat):∀l:List Int,(l.flatMap intE).flatMap (xrk objs k)=[]
 |[]=>rfl
 |x::r=>by
  rw[x1fo,x1jm,x17f objs k r]
  cases k<;>rfl
theorem w_HasF(d:Nat){ok:Id->Prop}{m:Mem}{a:AV}{l:List Int}{x:Int}(h:GkF ok m a l)(hl:l.length<=1000000) :
 ∃m2,xr8 (xr4 (d+1)) x13 [a,I x] m=some (B (l.any λy=>decide (y=x)),m2)/\GkF ok m2 a l/\m2.next=m.next/\xvq ok m m2:=by
 rcases h with ⟨rfl,rfl⟩|⟨id,ver,b,h0,rfl,hg⟩
 .exact⟨m,w_Has d (Or.inl ⟨rfl,rfl⟩) (by simp) m,.inl ⟨rfl,rfl⟩,rfl,λ_ _=>rfl⟩
 .have hfl:=xul l
  obtain⟨a',ha',hfz⟩:∃a',Ints a' l/\Go.Ix.frz m.get deep (.sref id ver 0 l.length 1 true)=some a':=by
   refine⟨.slit (l.flatMap intE) l.length false,Sl.lit l false,?_⟩
   have:=xvp (objs:=m.get) (id:=id) (cs:=l.flatMap intE) (ver:=ver) (off:=0) (n:=l.length) (z:=1) (k:=4) (f:=b) (x:=true) hg (by omega) (by
    rw[x1f0,x1f8 (by omega)];exact xv6 xto l)
   rw[x1f0,x1f8 (by omega)]at this
   exact this
  have hw:=w_Has d (x:=x) ha' hl mem0
  have hl2:[a',I x].mapM (Go.Ix.frz mem0.get deep)=some [a',I x]:=x10v _ (by simp[ha'.still])
  unfold xr8 at hw ⊢
  rw[hl2]at hw
  rw[show[AV.sref id ver 0 l.length 1 true,I x].mapM (Go.Ix.frz m.get deep)=some [a',I x]from by simp only[x1fq,x1g8,hfz];rfl]
  simp only at hw ⊢
  cases hc:xr4 (d+1) [] x13 [a',I x] mem0 with
  |none=>rw[hc]at hw;cases hw
  |some r=>
   obtain⟨r,m'⟩:=r
   rw[hc]at hw
   simp only[x1fc,x1f2]at hw
   obtain⟨v,hv,rfl,-⟩:=hw
   have hr:[AV.sref id ver 0 l.length 1 true,I x].flatMap (xrk m.get deep)=[id]:=by
    have h1:xrk m.get deep (.sref id ver 0 l.length 1 true)=[id]:=by
     show(match m.get id with
      |some (.row cs _ _)=>id::((cs.drop 0).take (l.length*1)).flatMap (xrk m.get 5)
      |_=>[id])=[id]
     rw[hg]
     simp only[x1f0]
     rw[x1f8 (by omega),x17f]
    simp only[x1fo,x1j2,h1]
    rfl
   have hm2:∀j,(⟨xuo [id] m.hp,m.next⟩:Mem).get j=shut [id] m.get j:=λj=>congrFun (x10r [id] m.hp) j
   refine⟨⟨xuo [id] m.hp,m.next⟩,?_,.inr ⟨id,ver,true,h0,rfl,?_⟩,rfl,λj hj=>?_⟩
   .simp only[hv,hr]
    rfl
   .rw[hm2];unfold shut;rw[x1ez (by simp),hg]
   .rw[hm2];unfold shut;rw[x1ey (by simp;rintro rfl;exact hj h0)]
def BestI(f:Int->Int)(S:List Int)(i:Nat)(b:Int):Prop:=(b=-1/\∀j:Nat,j<i->(j:Int)∈S)\/((0<=b/\b<i)/\b∉S/\∀j:Nat,j<i->(j:Int)∉S->(j:Int)=b\/lx f b j)
theorem BestI.in_{f:Int->Int}{S:List Int}{i:Nat}{b:Int}(h:BestI f S i b)(hi:(i:Int)∈S):BestI f S (i+1) b:=by
 rcases h with ⟨h1,h2⟩|⟨h1,h2,h3⟩
 .refine .inl ⟨h1,λj hj=>?_⟩
  by_cases c:j=i
  .rw[c];exact hi
  .exact h2 j (by omega)
 .refine .inr ⟨by omega,h2,λj hj hn=>?_⟩
  by_cases c:j=i
  .rw[c]at hn;exact absurd hi hn
  .exact h3 j (by omega) hn
theorem BestI.take_{f:Int->Int}{S:List Int}{i:Nat}{b:Int}(h:BestI f S i b)(hi:(i:Int)∉S)(hc:b<0\/f i<f b):BestI f S (i+1) i:=by
 refine .inr ⟨by omega,hi,λj hj hn=>?_⟩
 by_cases c:j=i
 .exact .inl (by rw[c])
 .right
  rcases h with ⟨h1,h2⟩|⟨h1,h2,h3⟩
  .exact absurd (h2 j (by omega)) hn
  .have hfb:f i<f b:=hc.resolve_left (by omega)
   rcases h3 j (by omega) hn with e|e
   .rw[e];exact .inl hfb
   .unfold lx at *;omega
theorem BestI.leave{f:Int->Int}{S:List Int}{i:Nat}{b:Int}(h:BestI f S i b)(hi:(i:Int)∉S)(hb:0<=b)(hc:¬f i<f b):BestI f S (i+1) b:=by
 rcases h with ⟨h1,h2⟩|⟨h1,h2,h3⟩
 .omega
 .refine .inr ⟨by omega,h2,λj hj hn=>?_⟩
  by_cases c:j=i
  .right;rw[c];unfold lx;omega
  .exact h3 j (by omega) hn
theorem BestI.fin{f:Int->Int}{N:Nat}{k:Nat}{b:Int}(h:BestI f ((ordM f N).take k) N b)(hk:k<N):b=at0 (ordM f N) k:=by
 have hl:=xzw f N
 have hO:=xwk f N
 have hkl:k<(ordM f N).length:=by omega
 have hx:=(InN.get (ord_rng (f:=f) (N:=N)) hkl)
 have hnd:=hO.nodup
 have hxn:at0 (ordM f N) k∉(ordM f N).take k:=λhm=>by
  obtain⟨j,hj,e⟩:=x1hu.mp hm
  rw[x1je,xrn hkl]at e
  simp at hj
  exact x1km.mp hnd j k (by omega) hkl (by omega) e
 rcases h with ⟨h1,h2⟩|⟨h1,h2,h3⟩
 .have:=h2 (at0 (ordM f N) k).toNat (by omega)
  rw[x1ge hx.1]at this
  exact absurd this hxn
 .have h4:=h3 (at0 (ordM f N) k).toNat (by omega) (by rw[x1ge hx.1];exact hxn)
  rw[x1ge hx.1]at h4
  rcases h4 with e|e
  .exact e.symm
  .have hb:b∈ordM f N:=(hO.2 b).mpr h1
   rw[<-x1kb k (ordM f N),x1fw]at hb
   have hb2:=hb.resolve_left h2
   rw[xsj hkl,x1fe]at hb2
   rcases hb2 with e2|e2
   .rw[xrn hkl];exact e2
   .have hs:=hO.1
    rw[<-x1kb k (ordM f N),xsj hkl]at hs
    have:=(x1gn.mp (x1hz.mp hs).2.1).1 b e2
    rw[xrn hkl]at e
    exact(lx_asym _ _ this e).elim
end Go.Ix
