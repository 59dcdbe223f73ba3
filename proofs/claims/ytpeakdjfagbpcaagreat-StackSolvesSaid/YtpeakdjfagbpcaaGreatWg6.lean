import Derived.Test.YtpeakdjfagbpcaaGreatWg5
import Derived.Test.YtpeakdjfagbpcaaGreatWg4
set_option linter.unusedSimpArgs false
set_option linter.unusedVariables false
namespace Go.Ix
theorem x2nd(l:List Scene)(P:List Pq):∀(F:List Int) (s:Int),sumL l P s F=s+(F.map fun i=>lenP l (prAt P i)).sum
 |[],s=>by simp[sumL]
 |i::r,s=>by
  rw[sumL,x2nd l P r,List.map_cons,List.sum_cons]
  omega
open Go.Proofs
theorem x2qa{objs:Id->Option Ob}{id:Id}{cs:List AV}{v off k:Nat}{f:Bool}(h:objs id=some (.row cs v f)):Go.Ix.frz objs (k+1) (.ptr id v off)=((cs.drop off).mapM (Go.Ix.frz objs k)).map AV.plit:=by
 simp only[Go.Ix.frz,h,if_true]
theorem frz_box{objs:Id->Option Ob}{id:Id}{a a':AV}{v k:Nat}{f:Bool}(h:objs id=some (.row [a] v f))(ha:Go.Ix.frz objs k a=some a'):Go.Ix.frz objs (k+1) (.ptr id v 0)=some (.plit [a']):=by
 rw[x2qa h]
 simp only[List.drop_zero,List.mapM_cons,List.mapM_nil,ha]
 rfl
theorem z_graph:x3r=[nilS,nilS]:=by kernel_rfl
theorem sumL_in{l:List Scene}{P:List Pq}(hb:InB l):∀{F:List Int},Rng l.length P F->0<=sumL l P 0 F/\sumL l P 0 F<=F.length*300000
 |[],_=>by simp[sumL]
 |i::r,h=>by
  have ih:=sumL_in hb (F:=r) fun j hj=>h j (List.mem_cons_of_mem _ hj)
  have:=x2ld hb (h i (List.mem_cons_self ..)).2
  rw[x2nd]at ih ⊢
  rw[List.map_cons,List.sum_cons,List.length_cons]
  omega
theorem cvt_small:∀n:Nat,n<=12->sCvt Tryz.prog x2d3 x9 (I n)=some (.sc (.int .u64 n))
 |0,_=>by kernel_rfl
 |1,_=>by kernel_rfl
 |2,_=>by kernel_rfl
 |3,_=>by kernel_rfl
 |4,_=>by kernel_rfl
 |5,_=>by kernel_rfl
 |6,_=>by kernel_rfl
 |7,_=>by kernel_rfl
 |8,_=>by kernel_rfl
 |9,_=>by kernel_rfl
 |10,_=>by kernel_rfl
 |11,_=>by kernel_rfl
 |12,_=>by kernel_rfl
 |n+13,h=>by omega
theorem a_Len64(call:x2cj):∀n:Nat,n<=12->∃v:Int,xhl call [] [.sc (.int .u64 n)] mem0=some (I v,⟨[],1⟩)
 |0,_=>⟨0,by kernel_rfl⟩
 |1,_=>⟨1,by kernel_rfl⟩
 |2,_=>⟨2,by kernel_rfl⟩
 |3,_=>⟨2,by kernel_rfl⟩
 |4,_=>⟨3,by kernel_rfl⟩
 |5,_=>⟨3,by kernel_rfl⟩
 |6,_=>⟨3,by kernel_rfl⟩
 |7,_=>⟨3,by kernel_rfl⟩
 |8,_=>⟨4,by kernel_rfl⟩
 |9,_=>⟨4,by kernel_rfl⟩
 |10,_=>⟨4,by kernel_rfl⟩
 |11,_=>⟨4,by kernel_rfl⟩
 |12,_=>⟨4,by kernel_rfl⟩
 |n+13,h=>by omega
theorem w_bitsLen(d:Nat){n:Nat}(hn:n<=12)(m:Mem):∃v:Int,x2cm (x2cl (d+2)) x5s [.sc (.int .u64 n)] m=some (I v,m):=by
 obtain⟨v,hv⟩:=a_Len64 (x2cl d) n hn
 have h64:∀m,x2cm (x2cl (d+1)) x73 [.sc (.int .u64 n)] m=some (I v,m):=fun m=>by
  refine x2ek rfl ?_ m
  rw[x1cc,hv]
  exact RetF.st rfl rfl
 refine⟨v,x2ek rfl ?_ m⟩
 rw[x1c8]
 unfold xhh xkm
 simp[mem0,h64]
 exact RetF.st rfl rfl
theorem c_Sort(d:Nat)(hs:FHs){a:AV}{ok:Id->Prop}{L:List Int}{m:Mem}(hL:L.length<=12)(hG:Gk 1 intE ok m a L) :
 ∃m',x2cl (d+5) hs x70 [a] m=some (.tup [],m')/\Gk 1 intE ok m' a (isoM (fun x y=>decide (x<y)) (L.length-1) L)/\m.next<=m'.next/\x2g2 ok m m':=by
 rw[x1c3]
 unfold xhc xjz
 obtain⟨v,hv⟩:=w_bitsLen (d+2) hL (⟨m.hp,m.next+1⟩:Mem)
 simp only[hG.len x2cu,x2cs,cvt_small _ hL,hv]
 rw[x1c7]
 unfold xhg xkl
 obtain⟨NM,hNM⟩:∃NM,NN=NM+1:=⟨NN-1,by have:=x2cz;omega⟩
 rw[hNM]
 simp only[x7p]
 unfold xf6
 obtain⟨m',e1,e2,e3,e4⟩:=c_insertO d hs (L:=L) (m:=⟨m.hp,m.next+1+1⟩) (by omega) (hG.frame fun _ _=>rfl)
 have h12:(L.length:Int)<=12:=by omega
 simp[e1]
 rw[x2cq (by omega) (by omega)]
 simp[h12]
 exact⟨e2,by have:m'.next=m.next+1+1+1:=e3;omega,fun j hj=>by rw[e4 j hj];rfl⟩
def fW(l:List Scene)(P:List Pq)(i:Int):Int:=lenP l (prAt P i)
theorem x2sl(d:Nat){s p:AV}{l:List Scene}{P:List Pq}(hs:Sl Scene.c s l)(hp:Sl Pq.c p P)(hR:Right7 l P)(id:Id)(hid:id.1=0):Cmps (x2cl (d+3)) (.clo x5q [.ptr id 0 0]) id (.row [s,p] 0 false) P.length (fun x y=>fW l P x-fW l P y):=by
 intro hh x y m x0 x1 y0 y1 hg
 refine⟨m.next+1,by omega,?_⟩
 show x2cl (d+3) hh x5q [I x,I y,.ptr id 0 0] m=_
 have hx:=hR.at (i:=x) ⟨x0,x1⟩
 have hy:=hR.at (i:=y) ⟨y0,y1⟩
 have i1:=x2ld hR.ib hx
 have i2:=x2ld hR.ib hy
 rw[x1c2]
 unfold xhb xjy
 have hg':(⟨m.hp,m.next+1⟩:Mem).get id=some (.row [s,p] 0 false):=hg
 obtain⟨i,j,k⟩:=id
 simp at hid
 subst hid
 have hb:Nat.ble 1 (m.next+1)=true:=by rw[Nat.ble_eq];omega
 unfold fW
 simp[hb,hg',x2pq d hs hp hR.ib ⟨x0,x1⟩ hx,x2pq d hs hp hR.ib ⟨y0,y1⟩ hy,hs.clean1,hp.clean1,cAp,tR,Nat.blt]
 rw[x2cq (by omega) (by omega)]
theorem ord_rng{f:Int->Int}{N:Nat}:InN N (ordM f N):=fun x hx=>((x2h5 f N).2 x).mp hx
theorem x2ki(f:Int->Int)(N:Nat):(ordM f N).length=N:=by
 have:=x2pu (x2h5 f N).nodup (x2n9 N).nodup fun x=>((x2h5 f N).2 x).trans fresh_mem.symm
 rw[this];simp[freshM]
theorem ord_Rng{l:List Scene}{P:List Pq}(hR:Right7 l P)(f:Int->Int)(k:Nat):Rng l.length P ((ordM f P.length).take k):=fun i hi=>by
 have:=ord_rng _ (List.mem_of_mem_take hi)
 exact⟨this,hR.at this⟩
theorem x2sm(d:Nat){s p:AV}{l:List Scene}{P:List Pq}(hs:Sl Scene.c s l)(hp:Sl Pq.c p P)(hR:Right7 l P)(hl:l.length<=8)(hP:P.length<=14) :
 RetF (fun v=>Ints v (x2di (fW l P) l.length P)) (x2cl (d+7) [] x3i [.agg [s,p]] mem0):=by
 rw[x1bp]
 unfold xgy xjd xea
 simp[mem0,hs.one,hp.one,hp.len x2e0]
 refine x2de (N:=P.length) (fun n k a m fc=>x4s (x2cl (d+6)) [] 0 n (.ptr (0,0,1) 0 0) a nilS (I P.length) (I k) m fc)
  (fun k a m=>m.get (0,0,1)=some (.row [s,p] 0 false)/\Gk 1 intE (okZ 19) m a ((freshM P.length).take k)/\m.next=1) _ ?_ ?_ NN 0 nilS _ _ (by omega) (by rw[x2cz];omega) ⟨by simp,by simpa using Gk.nil,rfl⟩
 .rintro n k a m fc hk ⟨hg,hG,hn⟩ next
  have hk':(k:Int)<(P.length:Int):=by omega
  have hlt:((freshM P.length).take k).length=k:=by simp[freshM];omega
  obtain⟨a2,m2,e1,e2,-,-,e3,e4⟩:=hG.app (bytes:=8) (id0:=(0,fc+6,19)) x2cw (by omega) ⟨rfl,rfl⟩ (by unfold x2cx;omega) (k:Int)
  simp only[x4s]
  unfold xe9
  simp(disch:=omega) [hk',x2e3,x2cq]
  rw[show elems m.get 1 (.slit [I (k:Int)] 1 true)=some (intE (k:Int),1)from rfl,e1]
  exact next a2 m2 _ ⟨by rw[e4 _ (by unfold okZ;simp)];exact hg,by rw[<-x2if hk];exact e2,by omega⟩
 .rintro n a m fc ⟨hg,hG,hn⟩
  have hk:¬((P.length:Int)<(P.length:Int)):=by omega
  rw[List.take_of_length_le (by simp[freshM])]at hG
  have hfl:(freshM P.length).length=P.length:=by simp[freshM]
  obtain⟨m1,c1,c2,c3,c4⟩:=x2sj (d+3) [] (x2sl d hs hp hR (0,0,1) rfl) (ok:=okZ 19) (by unfold okZ;simp) (by omega) (fun x hx=>fresh_mem.mp hx) hG hg
  rw[show(fun x y=>decide (fW l P x-fW l P y<0))=fun x y=>decide (fW l P x<fW l P y)from by funext x y;exact decide_eq_decide.mpr (by omega),iso_ord]at c2
  have hg1:m1.get (0,0,1)=some (.row [s,p] 0 false):=by rw[c4 _ (by unfold okZ;simp)];exact hg
  obtain⟨ua,M,hc,hU,hM,hfr⟩:=x2pp (d+5) (n:=l.length) (by omega) m1
  simp only[x4s]
  unfold xe9 x4r
  simp[c1,hg1,hs.len x2dr,hc]
  have hgM:M.get (0,0,1)=some (.row [s,p] 0 false):=by rw[hfr _ (by show 0<m1.next;omega)];exact hg1
  have hGM:Gk 1 intE (okZ 19) M a (ordM (fW l P) P.length):=c2.frame fun j hj=>hfr j (by obtain⟨h1,h2⟩:=hj;omega)
  have hol:=x2ki (fW l P) P.length
  unfold xe8
  simp only[hGM.len x2cu,x2cs]
  generalize hN1:m1.next=N1 at *
  have hN0:1<=N1:=by omega
  refine x2de (N:=(ordM (fW l P) P.length).length) (fun n k o m fc=>x4q (x2cl (d+6)) [] 0 n (.ptr (0,0,1) 0 0) o ua a (I (ordM (fW l P) P.length).length) (I k) m fc)
   (fun k o m=>(m.get (0,0,1)=some (.row [s,p] 0 false)/\N1<m.next)/\Gk 1 intE (okZ 19) m a (ordM (fW l P) P.length)/\Gk 1 intE (fun id=>id.1=N1) m ua (uniM l.length P ((ordM (fW l P) P.length).take k)) /\
    Gk 1 intE (okZ 46) m o (takeM P (freshM l.length) ((ordM (fW l P) P.length).take k))) _ ?_ ?_ NN 0 nilS _ _ (by omega) (by rw[x2cz];omega) ⟨⟨hgM,by omega⟩,hGM,by simpa[uniM,prs,joinsM]using hU,by simpa[takeM]using Gk.nil⟩
  .rintro n k o m fc hk ⟨⟨hg,hmn⟩,hO,hU,hT⟩ next
   have hk':(k:Int)<((ordM (fW l P) P.length).length:Int):=by omega
   obtain⟨q,i1,l1,-⟩:=hO.at (k:=(k:Int)) (by omega) hk'
   rw[Int.toNat_natCast]at l1
   have hx:=ord_rng.get hk
   have hRk:=ord_Rng hR (fW l P) k
   have hL:=(x2lg hRk).len
   have hq:=hR.at hx
   have ip:=hp.ixz Pq.len hx.1 hx.2
   have lp:=fun m=>x2eg (m:=m) (enc:=Pq.c) Pq.len (by omega) (show(at0 (ordM (fW l P) P.length) k).toNat<P.length by omega)
   rw[<-x2hp (by omega)]at lp
   have hus:=x2q3 (n:=l.length) (P:=P) hk
   have hts:takeM P (freshM l.length) ((ordM (fW l P) P.length).take (k+1))=takeM P (freshM l.length) ((ordM (fW l P) P.length).take k)++(if at0 (uniM l.length P ((ordM (fW l P) P.length).take k)) (prAt P (at0 (ordM (fW l P) P.length) k)).a.toNat=at0 (uniM l.length P ((ordM (fW l P) P.length).take k)) (prAt P (at0 (ordM (fW l P) P.length) k)).b.toNat then[]else[at0 (ordM (fW l P) P.length) k]):=by
    rw[List.take_succ_eq_append_getElem hk,x2pr,x2d4 hk]
    rfl
   have htl:(takeM P (freshM l.length) ((ordM (fW l P) P.length).take k)).length<=14:=by
    have h1:=(x2hq (P:=P) ((ordM (fW l P) P.length).take k) (freshM l.length)).length_le
    simp at h1
    omega
   obtain⟨m2,e1,e2,e3,e4⟩:=c_join (d+5) [] hU (fun j hj=>by have hj':j.1=N1:=hj;omega) (p:=prAt P (at0 (ordM (fW l P) P.length) k)) (by rw[hL];exact hq) (by rw[hL];omega)
   have keep:∀j:Id,j.1=0->m2.get j=m.get j:=fun j hj=>e4 j (by show ¬j.1=N1;omega) (by omega)
   simp only[Pq.c]at lp
   simp only[x4q]
   unfold xe7 xe6
   have hO2:Gk 1 intE (okZ 19) m2 a (ordM (fW l P) P.length):=hO.frame fun j hj=>keep j hj.1
   have hT2:Gk 1 intE (okZ 46) m2 o (takeM P (freshM l.length) ((ordM (fW l P) P.length).take k)):=hT.frame fun j hj=>keep j hj.1
   have hg2:m2.get (0,0,1)=some (.row [s,p] 0 false):=by rw[keep _ rfl];exact hg
   rw[<-hus]at e2
   simp only[x2db,hk',decide_true,x2d9,x2cs,i1,l1]
   simp[hg,ip,lp,e1]
   by_cases c3:at0 (uniM l.length P ((ordM (fW l P) P.length).take k)) (prAt P (at0 (ordM (fW l P) P.length) k)).a.toNat=at0 (uniM l.length P ((ordM (fW l P) P.length).take k)) (prAt P (at0 (ordM (fW l P) P.length) k)).b.toNat
   .rw[if_pos c3,List.append_nil]at hts
    simp[c3]
    unfold x7i
    simp(disch:=omega) [x2cq]
    exact next o m2 _ ⟨⟨hg2,by omega⟩,hO2,e2,by rw[hts];exact hT2⟩
   .rw[if_neg c3]at hts
    obtain⟨o2,m3,a1,a2,-,-,a3,a4⟩:=hT2.app (bytes:=8) (id0:=(0,fc+1+14,46)) x2cw (by omega) ⟨rfl,rfl⟩ (by unfold x2cx;omega) (at0 (ordM (fW l P) P.length) k)
    simp[c3,x2e3]
    rw[show ∀x:Int,elems m2.get 1 (.slit [I x] 1 true)=some (intE x,1)from fun _=>rfl,a1]
    unfold x7i
    simp(disch:=omega) [x2cq]
    refine next o2 m3 _ ⟨⟨by rw[a4 _ (by unfold okZ;simp)];exact hg2,by omega⟩,hO2.frame fun j hj=>a4 j (by obtain⟨h1,h2⟩:=hj;unfold okZ;omega),e2.frame fun j hj=>a4 j (by have hj':j.1=N1:=hj;unfold okZ;omega),by rw[hts];exact a2⟩
  .rintro n o m fc ⟨⟨hg,hmn⟩,hO,hU,hT⟩
   rw[List.take_of_length_le (Nat.le_refl _)]at hT
   have hTL:takeM P (freshM l.length) (ordM (fW l P) P.length)=x2ds (fW l P) l.length P:=rfl
   rw[hTL]at hT
   have hlen:=(x2nb hR.pr (fW l P)).len hR.pr
   obtain⟨m2,e1,e2,e3,e4⟩:=c_Sort (d+1) [] (by omega) hT
   obtain⟨s1,s2⟩:=iso_asc (x2q1 (n:=l.length) (P:=P) (fW l P))
   have hfin:isoM (fun x y=>decide (x<y)) ((x2ds (fW l P) l.length P).length-1) (x2ds (fW l P) l.length P)=x2di (fW l P) l.length P:=s1.one (x2na _) fun x=>(s2 x).trans light_mem.symm
   rw[hfin]at e2
   simp only[x4q]
   unfold xe7 x1w
   simp[e1]
   obtain⟨v,h1,h2⟩:=e2.sl1 4
   exact RetF.mk h2 h1
theorem x2sn(d:Nat){s p:AV}{l:List Scene}{P:List Pq}(hs:Sl Scene.c s l)(hp:Sl Pq.c p P)(hR:Right7 l P)(hl:l.length<=8)(hP:P.length<=14)(m:Mem) :
 ∃v,Ints v (x2di (fW l P) l.length P)/\x2cm (x2cl (d+7)) x3i [.agg [s,p]] m=some (v,m):=
 x2ei (by simp[hs.still1,hp.still1]) (x2sm d hs hp hR hl hP) m
def bE(b:Bool):List AV:=[B b]
theorem bE_len(b:Bool):(bE b).length=1:=rfl
variable{α:Type}{z:Nat}{enc:α->List AV}
def Ow(enc:α->List AV)(m:Mem)(id:Id)(l:List α):Prop:=m.get id=some (.row (l.flatMap enc) 0 false)
theorem Ow.fr{m m':Mem}{id:Id}{l:List α}(h:Ow enc m id l)(e:m'.get id=m.get id):Ow enc m' id l:=by unfold Ow;rw[e];exact h
theorem ow_ix{id:Id}{n:Nat}{k:Int}(h0:0<=k)(h1:k<n):sIx z (.sref id 0 0 n z true) (I k)=some (.ptr id 0 (k.toNat*z)):=by
 simp[sIx,asI,h0,h1]
theorem Ow.ld(hz:∀x,(enc x).length=z){m:Mem}{id:Id}{l:List α}(h:Ow enc m id l){k:Nat}(hk:k<l.length){g:Bool}:sLd g z (.ptr id 0 (k*z)) m=rd g z (enc l[k]++(l.drop (k+1)).flatMap enc):=by
 rw[ld_ptr h,x2mq hz,x2e2 hk,List.flatMap_cons]
theorem Ow.ldS(hz:∀x,(enc x).length=z){m:Mem}{id:Id}{l:List α}(h:Ow enc m id l){k:Nat}(hk:k<l.length):sLd true z (.ptr id 0 (k*z)) m=some (.agg (enc l[k])):=by
 rw[h.ld hz hk,rd_t,decide_eq_true (by simp[hz]),List.take_append_of_le_length (by rw[hz];exact Nat.le_refl _),List.take_of_length_le (by rw[hz];exact Nat.le_refl _)]
 rfl
theorem x2qb(hz:∀x,(enc x).length=z)(x:α):∀(l:List α) (k:Nat),k<l.length->x2dh (l.flatMap enc) (k*z) (enc x)=(l.set k x).flatMap enc
 |[],_,h=>by simp at h
 |y::r,0,_=>by
  simp only[x2dh,Nat.zero_mul,Nat.zero_add,List.take_zero,List.nil_append,List.set_cons_zero,List.flatMap_cons]
  rw[hz,<-hz y,List.drop_append_of_le_length (Nat.le_refl _),List.drop_of_length_le (Nat.le_refl _),List.nil_append]
 |y::r,k+1,h=>by
  have ih:=x2qb hz x r k (by simpa using h)
  simp only[x2dh,List.set_cons_succ,List.flatMap_cons]at ih ⊢
  rw[Nat.succ_mul,show k*z+z=(enc y).length+k*z by rw[hz];omega,List.take_length_add_append,Nat.add_assoc,List.drop_append,List.append_assoc,<-ih]
  have e:(enc y).length+(k*z+(enc x).length)-(enc y).length=k*z+(enc x).length:=by omega
  rw[e,List.drop_of_length_le (by omega),List.nil_append]
theorem Ow.st(hz:∀x,(enc x).length=z){m:Mem}{id:Id}{l:List α}(h:Ow enc m id l){k:Nat}(hk:k<l.length){x:α}{v:AV}(hv:v.cells=enc x)(h1:(enc x).all AV.one=true) :
 (∀{R:Type} (K:Mem->Option R),sSt z (.ptr id 0 (k*z)) v m K=K (m.set id (.row ((l.set k x).flatMap enc) 0 false)))/\Ow enc (m.set id (.row ((l.set k x).flatMap enc) 0 false)) id (l.set k x):=by
 refine⟨fun K=>?_,by unfold Ow;simp⟩
 have hl:=x2f4 hz l
 rw[st_ptr (z:=z) (x:=v) (k:=K) h (by rw[hv,hz]) (by rw[hl];have:=Nat.mul_le_mul_right z (show k+1<=l.length from hk);rw[Nat.succ_mul]at this;exact this) (by rw[hv];exact h1),hv,x2qb hz x l k hk]
theorem zeros_c{z:List AV}{c:AV}(hc:∀i,i<z.length->z.getD i (.sc undef)=c)(h0:0<z.length)(k:Nat):x2dn z k=List.replicate k c:=by
 unfold x2dn
 apply List.ext_getElem
 .simp
 .intro i h1 h2
  simp only[List.getElem_map,List.getElem_range,List.getElem_replicate]
  exact hc _ (Nat.mod_lt _ h0)
theorem rep_flat(n:Nat)(c:AV)(x:α)(hx:enc x=List.replicate z c):(List.replicate n x).flatMap enc=List.replicate (n*z) c:=by
 induction n with
 |zero=>simp
 |succ n ih=>
  rw[List.replicate_succ,List.flatMap_cons,ih,hx,Nat.succ_mul,Nat.add_comm,List.replicate_append_replicate]
theorem mkSl_c{R:Type}{zc:List AV}{c:AV}{bytes:Nat}(hb:bytes<=64)(hzl:zc.length=z)(hc:∀i,i<zc.length->zc.getD i (.sc undef)=c)(h0:0<zc.length){x:α}(hx:enc x=List.replicate z c){n:Nat}(hn:n<=1000000)(id:Id)(m:Mem)(k:AV->Mem->Option R) :
 x2dq zc z bytes (I n) (I n) id m k=k (.sref id 0 0 n z true) (m.new id (.row ((List.replicate n x).flatMap enc) 0 false)):=by
 have h1:bytes*n<=64*1000000:=Nat.mul_le_mul hb hn
 simp only[x2dq,asI]
 rw[if_pos ⟨by omega,Int.le_refl _,by omega,by omega⟩,zeros_c hc h0,rep_flat n c x hx]
 simp
theorem zb_b7:x7d=[B false]:=by kernel_rfl
theorem mkSl_b{R:Type}{n:Nat}(hn:n<=1000000)(id:Id)(m:Mem)(k:AV->Mem->Option R):x2dq x7d 1 1 (I n) (I n) id m k=k (.sref id 0 0 n 1 true) (m.new id (.row ((List.replicate n false).flatMap bE) 0 false)):=
 mkSl_c (enc:=bE) (c:=B false) (by omega) (by rw[zb_b7];rfl) (by rw[zb_b7];intro i hi;simp at hi;subst hi;rfl) (by rw[zb_b7];simp) rfl hn id m k
theorem mkSl_i{R:Type}{n:Nat}(hn:n<=1000000)(id:Id)(m:Mem)(k:AV->Mem->Option R):x2dq x2d1 1 8 (I n) (I n) id m k=k (.sref id 0 0 n 1 true) (m.new id (.row ((List.replicate n (0:Int)).flatMap intE) 0 false)):=
 mkSl_c (enc:=intE) (c:=I 0) (by omega) (by rw[x2e3];rfl) (by rw[x2e3];intro i hi;simp at hi;subst hi;rfl) (by rw[x2e3];simp) rfl hn id m k
theorem x2ne:x1g=[I 0,I 0]:=by kernel_rfl
theorem mkSl_s{R:Type}{n:Nat}(hn:n<=1000000)(id:Id)(m:Mem)(k:AV->Mem->Option R):x2dq x1g 2 16 (I n) (I n) id m k=k (.sref id 0 0 n 2 true) (m.new id (.row ((List.replicate n (⟨0,0⟩:Sp)).flatMap Sp.c) 0 false)):=
 mkSl_c (enc:=Sp.c) (c:=I 0) (by omega) (by rw[x2ne];rfl) (by
  rw[x2ne];intro i hi
  match i,hi with
  |0,_=>rfl
  |1,_=>rfl
  |i+2,h=>simp at h;omega) (by rw[x2ne];simp) rfl hn id m k
theorem Ow.ldB{m:Mem}{id:Id}{l:List Bool}(h:Ow bE m id l){k:Int}(h0:0<=k)(hk:k<l.length):sLd false 1 (.ptr id 0 k.toNat) m=some (B (l.getD k.toNat false)):=by
 have h1:k.toNat<l.length:=by omega
 have:=h.ld bE_len h1 (g:=false)
 rw[Nat.mul_one]at this
 rw[this,List.getD_eq_getElem?_getD,List.getElem?_eq_getElem h1]
 rfl
theorem Ow.ldI{m:Mem}{id:Id}{l:List Int}(h:Ow intE m id l){k:Int}(h0:0<=k)(hk:k<l.length):sLd false 1 (.ptr id 0 k.toNat) m=some (I (at0 l k.toNat)):=by
 have h1:k.toNat<l.length:=by omega
 have:=h.ld x2cw h1 (g:=false)
 rw[Nat.mul_one]at this
 rw[this,x2d4 h1]
 rfl
theorem x2gh{id:Id}{n:Nat}{k:Int}(h0:0<=k)(h1:k<n):sIx 1 (.sref id 0 0 n 1 true) (I k)=some (.ptr id 0 k.toNat):=by
 simpa using ow_ix (z:=1) (id:=id) h0 h1
theorem Ow.st1{g:α->AV}(he:∀x,enc x=[g x]){m:Mem}{id:Id}{l:List α}(h:Ow enc m id l){k:Int}(h0:0<=k)(hk:k<l.length){x:α}(hc:(g x).cells=[g x])(h1:(g x).one=true) :
 (∀{R:Type} (K:Mem->Option R),sSt 1 (.ptr id 0 k.toNat) (g x) m K=K (m.set id (.row ((l.set k.toNat x).flatMap enc) 0 false)))/\Ow enc (m.set id (.row ((l.set k.toNat x).flatMap enc) 0 false)) id (l.set k.toNat x):=by
 have:=h.st (z:=1) (fun x=>by rw[he];rfl) (k:=k.toNat) (by omega) (x:=x) (v:=g x) (by rw[hc,he]) (by rw[he];simp[h1])
 simpa using this
end Go.Ix
