import Derived.Test.YtpeakdjfagbpcaaGreatWg5
import Derived.Test.YtpeakdjfagbpcaaGreatWg4
import Derived.Test.YtpeakdjfagbpcaaGreatWg3
import Derived.Test.YtpeakdjfagbpcaaGreatWg0
set_option linter.unusedSimpArgs false
set_option linter.unusedVariables false
namespace Go.Ix
open Go.Proofs
theorem ints_pre{a:AV}{l:List Int}(h:Ints a l){k:Nat}(hk:k<=l.length)(h0:0<l.length):∃a',Ints a' (l.take k)/\x2ir Tryz.prog x2 a none (some (I k))=some a':=by
 rcases h with ⟨_,rfl⟩|⟨x,rfl⟩
 .simp at h0
 obtain⟨i,hi,hs⟩:=info_int
 have hl:=x2l7 l
 refine⟨.slit ((l.take k).flatMap intE) (l.take k).length (x&&decide ((k:Int)=(l.length:Int))),Sl.lit _ _,?_⟩
 have e1:x2gl (.slit (l.flatMap intE) l.length x)=none:=_root_.id rfl
 have e2:asI (I (k:Int))=some (k:Int):=rfl
 have e3:asI (I 0)=some 0:=rfl
 unfold x2ir
 simp only[e1,x2hl,hi,Option.getD_some,Option.getD_none,e2,e3,hs,Nat.mul_one,Int.sub_zero,Int.toNat_natCast]
 rw[if_pos ⟨by omega,by omega,by omega,by omega⟩,List.length_take,Nat.min_eq_left hk,x2kl,x2kl,List.map_take]
 rfl
theorem cvt_small:∀n:Nat,n<=12->sCvt Tryz.prog x2gc x9 (I n)=some (.sc (.int .u64 n))
 |0,_=>by kernel_rfl
 |1,_=>by kernel_rfl
 |2,_=>by kernel_rfl
 |3,_=>by kernel_rfl
 |4,_=>by kernel_rfl
 |5,_=>by kernel_rfl
 |6,_=>by kernel_rfl
 |7,_=>by kernel_rfl
 |8,_=>by kernel_rfl
 |9,_=>by kernel_rfl
 |10,_=>by kernel_rfl
 |11,_=>by kernel_rfl
 |12,_=>by kernel_rfl
 |n+13,h=>by omega
theorem a_Len64(call:x2g1):∀n:Nat,n<=12->∃v:Int,xg3 call [] [.sc (.int .u64 n)] mem0=some (I v,⟨[],1⟩)
 |0,_=>⟨0,by kernel_rfl⟩
 |1,_=>⟨1,by kernel_rfl⟩
 |2,_=>⟨2,by kernel_rfl⟩
 |3,_=>⟨2,by kernel_rfl⟩
 |4,_=>⟨3,by kernel_rfl⟩
 |5,_=>⟨3,by kernel_rfl⟩
 |6,_=>⟨3,by kernel_rfl⟩
 |7,_=>⟨3,by kernel_rfl⟩
 |8,_=>⟨4,by kernel_rfl⟩
 |9,_=>⟨4,by kernel_rfl⟩
 |10,_=>⟨4,by kernel_rfl⟩
 |11,_=>⟨4,by kernel_rfl⟩
 |12,_=>⟨4,by kernel_rfl⟩
 |n+13,h=>by omega
theorem w_bitsLen(d:Nat){n:Nat}(hn:n<=12)(m:Mem):∃v:Int,x2g3 (x2g5 (d+2)) x4m [.sc (.int .u64 n)] m=some (I v,m):=by
 obtain⟨v,hv⟩:=a_Len64 (x2g5 d) n hn
 have h64:∀m,x2g3 (x2g5 (d+1)) x63 [.sc (.int .u64 n)] m=some (I v,m):=fun m=>by
  refine x2is rfl ?_ m
  rw[x1dw,hv]
  exact RetF.st rfl rfl
 refine⟨v,x2is rfl ?_ m⟩
 rw[x1ds]
 unfold xfz xjh
 simp[mem0,h64]
 exact RetF.st rfl rfl
theorem c_Sort(d:Nat)(hs:FHs){a:AV}{ok:Id->Prop}{L:List Int}{m:Mem}(hL:L.length<=12)(hG:Gk 1 intE ok m a L) :
 ∃m',x2g5 (d+5) hs x60 [a] m=some (.tup [],m')/\Gk 1 intE ok m' a (isoM (fun x y=>decide (x<y)) (L.length-1) L)/\m.next<=m'.next/\x2ji ok m m':=by
 rw[x1do]
 unfold xfv xiv
 obtain⟨v,hv⟩:=w_bitsLen (d+2) hL (⟨m.hp,m.next+1⟩:Mem)
 simp only[hG.len x2hl,x2go,cvt_small _ hL,hv]
 rw[x1dr]
 unfold xfy xjg
 obtain⟨NM,hNM⟩:∃NM,NN=NM+1:=⟨NN-1,by have:=x2gs;omega⟩
 rw[hNM]
 simp only[x6h]
 unfold xe9
 obtain⟨m',e1,e2,e3,e4⟩:=c_insertO d hs (L:=L) (m:=⟨m.hp,m.next+1+1⟩) (by omega) (hG.frame fun _ _=>rfl)
 have h12:(L.length:Int)<=12:=by omega
 simp[e1]
 rw[x2gh (by omega) (by omega)]
 simp[h12]
 exact⟨e2,by have:m'.next=m.next+1+1+1:=e3;omega,fun j hj=>by rw[e4 j hj];rfl⟩
def fW(l:List Scene)(P:List Pq)(i:Int):Int:=lenP l (prAt P i)
theorem x2uw(d:Nat){s p:AV}{l:List Scene}{P:List Pq}(hs:Sl Scene.c s l)(hp:Sl Pq.c p P)(hR:Right7 l P)(id:Id)(hid:id.1=0):Cmps (x2g5 (d+3)) (.clo x4k [.ptr id 0 0]) id (.row [s,p] 0 false) P.length (fun x y=>fW l P x-fW l P y):=by
 intro hh x y m x0 x1 y0 y1 hg
 refine⟨m.next+1,by omega,?_⟩
 show x2g5 (d+3) hh x4k [I x,I y,.ptr id 0 0] m=_
 have hx:=hR.at (i:=x) ⟨x0,x1⟩
 have hy:=hR.at (i:=y) ⟨y0,y1⟩
 have i1:=x2o4 hR.ib hx
 have i2:=x2o4 hR.ib hy
 rw[x1dn]
 unfold xfu xiu
 have hg':(⟨m.hp,m.next+1⟩:Mem).get id=some (.row [s,p] 0 false):=hg
 obtain⟨i,j,k⟩:=id
 simp at hid
 subst hid
 have hb:Nat.ble 1 (m.next+1)=true:=by rw[Nat.ble_eq];omega
 unfold fW
 simp[hb,hg',x2pz d hs hp hR.ib ⟨x0,x1⟩ hx,x2pz d hs hp hR.ib ⟨y0,y1⟩ hy,hs.clean1,hp.clean1,cAp,tR,Nat.blt]
 rw[x2gh (by omega) (by omega)]
theorem ord_rng{f:Int->Int}{N:Nat}:InN N (ordM f N):=fun x hx=>((x2ij f N).2 x).mp hx
theorem x2q6(f:Int->Int)(N:Nat):(ordM f N).length=N:=by
 have:=x2q1 (x2ij f N).nodup (x2q2 N).nodup fun x=>((x2ij f N).2 x).trans fresh_mem.symm
 rw[this];simp[freshM]
theorem ord_Rng{l:List Scene}{P:List Pq}(hR:Right7 l P)(f:Int->Int)(k:Nat):Rng l.length P ((ordM f P.length).take k):=fun i hi=>by
 have:=ord_rng _ (List.mem_of_mem_take hi)
 exact⟨this,hR.at this⟩
theorem x2ux(d:Nat){s p:AV}{l:List Scene}{P:List Pq}(hs:Sl Scene.c s l)(hp:Sl Pq.c p P)(hR:Right7 l P)(hl:l.length<=8)(hP:P.length<=14) :
 RetF (fun v=>Ints v (x2h3 (fW l P) l.length P)) (x2g5 (d+7) [] x3a [.agg [s,p]] mem0):=by
 rw[x1df]
 unfold xfl xia xdl
 simp[mem0,hs.one,hp.one,hp.len x2it]
 refine x2hu (N:=P.length) (fun n k a m fc=>x3y (x2g5 (d+6)) [] 0 n (.ptr (0,0,1) 0 0) a nilS (I P.length) (I k) m fc)
  (fun k a m=>m.get (0,0,1)=some (.row [s,p] 0 false)/\Gk 1 intE (okZ 19) m a ((freshM P.length).take k)/\m.next=1) _ ?_ ?_ NN 0 nilS _ _ (by omega) (by rw[x2gs];omega) ⟨by simp,by simpa using Gk.nil,rfl⟩
 .rintro n k a m fc hk ⟨hg,hG,hn⟩ next
  have hk':(k:Int)<(P.length:Int):=by omega
  have hlt:((freshM P.length).take k).length=k:=by simp[freshM];omega
  obtain⟨a2,m2,e1,e2,-,-,e3,e4⟩:=hG.app (bytes:=8) (id0:=(0,fc+6,19)) x2hc (by omega) ⟨rfl,rfl⟩ (by unfold x2ge;omega) (k:Int)
  simp only[x3y]
  unfold xdk
  simp(disch:=omega) [hk',x2n4,x2gh]
  rw[show elems m.get 1 (.slit [I (k:Int)] 1 true)=some (intE (k:Int),1)from rfl,e1]
  exact next a2 m2 _ ⟨by rw[e4 _ (by unfold okZ;simp)];exact hg,by rw[<-x2px hk];exact e2,by omega⟩
 .rintro n a m fc ⟨hg,hG,hn⟩
  have hk:¬((P.length:Int)<(P.length:Int)):=by omega
  rw[List.take_of_length_le (by simp[freshM])]at hG
  have hfl:(freshM P.length).length=P.length:=by simp[freshM]
  obtain⟨m1,c1,c2,c3,c4⟩:=x2ut (d+3) [] (x2uw d hs hp hR (0,0,1) rfl) (ok:=okZ 19) (by unfold okZ;simp) (by omega) (fun x hx=>fresh_mem.mp hx) hG hg
  rw[show(fun x y=>decide (fW l P x-fW l P y<0))=fun x y=>decide (fW l P x<fW l P y)from by funext x y;exact decide_eq_decide.mpr (by omega),iso_ord]at c2
  have hg1:m1.get (0,0,1)=some (.row [s,p] 0 false):=by rw[c4 _ (by unfold okZ;simp)];exact hg
  obtain⟨ua,M,hc,hU,hM,hfr⟩:=x2py (d+5) (n:=l.length) (by omega) m1
  simp only[x3y]
  unfold xdk x3x
  simp[c1,hg1,hs.len x2h9,hc]
  have hgM:M.get (0,0,1)=some (.row [s,p] 0 false):=by rw[hfr _ (by show 0<m1.next;omega)];exact hg1
  have hGM:Gk 1 intE (okZ 19) M a (ordM (fW l P) P.length):=c2.frame fun j hj=>hfr j (by obtain⟨h1,h2⟩:=hj;omega)
  have hol:=x2q6 (fW l P) P.length
  unfold xdj
  simp only[hGM.len x2hl,x2go]
  generalize hN1:m1.next=N1 at *
  have hN0:1<=N1:=by omega
  refine x2hu (N:=(ordM (fW l P) P.length).length) (fun n k o m fc=>x3w (x2g5 (d+6)) [] 0 n (.ptr (0,0,1) 0 0) o ua a (I (ordM (fW l P) P.length).length) (I k) m fc)
   (fun k o m=>(m.get (0,0,1)=some (.row [s,p] 0 false)/\N1<m.next)/\Gk 1 intE (okZ 19) m a (ordM (fW l P) P.length)/\Gk 1 intE (fun id=>id.1=N1) m ua (uniM l.length P ((ordM (fW l P) P.length).take k)) /\
    Gk 1 intE (okZ 46) m o (x2gv P (freshM l.length) ((ordM (fW l P) P.length).take k))) _ ?_ ?_ NN 0 nilS _ _ (by omega) (by rw[x2gs];omega) ⟨⟨hgM,by omega⟩,hGM,by simpa[uniM,prs,joinsM]using hU,by simpa[x2gv]using Gk.nil⟩
  .rintro n k o m fc hk ⟨⟨hg,hmn⟩,hO,hU,hT⟩ next
   have hk':(k:Int)<((ordM (fW l P) P.length).length:Int):=by omega
   obtain⟨q,i1,l1,-⟩:=hO.at (k:=(k:Int)) (by omega) hk'
   rw[Int.toNat_natCast]at l1
   have hx:=ord_rng.get hk
   have hRk:=ord_Rng hR (fW l P) k
   have hL:=(x2ob hRk).len
   have hq:=hR.at hx
   have ip:=hp.ixz Pq.len hx.1 hx.2
   have lp:=fun m=>x2ii (m:=m) (enc:=Pq.c) Pq.len (by omega) (show(at0 (ordM (fW l P) P.length) k).toNat<P.length by omega)
   rw[<-x2o2 (by omega)]at lp
   have hus:=x2sn (n:=l.length) (P:=P) hk
   have hts:x2gv P (freshM l.length) ((ordM (fW l P) P.length).take (k+1))=x2gv P (freshM l.length) ((ordM (fW l P) P.length).take k)++(if at0 (uniM l.length P ((ordM (fW l P) P.length).take k)) (prAt P (at0 (ordM (fW l P) P.length) k)).a.toNat=at0 (uniM l.length P ((ordM (fW l P) P.length).take k)) (prAt P (at0 (ordM (fW l P) P.length) k)).b.toNat then[]else[at0 (ordM (fW l P) P.length) k]):=by
    rw[List.take_succ_eq_append_getElem hk,take_one,x2gm hk]
    rfl
   have htl:(x2gv P (freshM l.length) ((ordM (fW l P) P.length).take k)).length<=14:=by
    have h1:=(x2kn (P:=P) ((ordM (fW l P) P.length).take k) (freshM l.length)).length_le
    simp at h1
    omega
   obtain⟨m2,e1,e2,e3,e4⟩:=c_join (d+5) [] hU (fun j hj=>by have hj':j.1=N1:=hj;omega) (p:=prAt P (at0 (ordM (fW l P) P.length) k)) (by rw[hL];exact hq) (by rw[hL];omega)
   have keep:∀j:Id,j.1=0->m2.get j=m.get j:=fun j hj=>e4 j (by show ¬j.1=N1;omega) (by omega)
   simp only[Pq.c]at lp
   simp only[x3w]
   unfold xdi xdh
   have hO2:Gk 1 intE (okZ 19) m2 a (ordM (fW l P) P.length):=hO.frame fun j hj=>keep j hj.1
   have hT2:Gk 1 intE (okZ 46) m2 o (x2gv P (freshM l.length) ((ordM (fW l P) P.length).take k)):=hT.frame fun j hj=>keep j hj.1
   have hg2:m2.get (0,0,1)=some (.row [s,p] 0 false):=by rw[keep _ rfl];exact hg
   rw[<-hus]at e2
   simp only[x2ho,hk',decide_true,x2i9,x2go,i1,l1]
   simp[hg,ip,lp,e1]
   by_cases c3:at0 (uniM l.length P ((ordM (fW l P) P.length).take k)) (prAt P (at0 (ordM (fW l P) P.length) k)).a.toNat=at0 (uniM l.length P ((ordM (fW l P) P.length).take k)) (prAt P (at0 (ordM (fW l P) P.length) k)).b.toNat
   .rw[if_pos c3,List.append_nil]at hts
    simp[c3]
    unfold x6a
    simp(disch:=omega) [x2gh]
    exact next o m2 _ ⟨⟨hg2,by omega⟩,hO2,e2,by rw[hts];exact hT2⟩
   .rw[if_neg c3]at hts
    obtain⟨o2,m3,a1,a2,-,-,a3,a4⟩:=hT2.app (bytes:=8) (id0:=(0,fc+1+14,46)) x2hc (by omega) ⟨rfl,rfl⟩ (by unfold x2ge;omega) (at0 (ordM (fW l P) P.length) k)
    simp[c3,x2n4]
    rw[show ∀x:Int,elems m2.get 1 (.slit [I x] 1 true)=some (intE x,1)from fun _=>rfl,a1]
    unfold x6a
    simp(disch:=omega) [x2gh]
    refine next o2 m3 _ ⟨⟨by rw[a4 _ (by unfold okZ;simp)];exact hg2,by omega⟩,hO2.frame fun j hj=>a4 j (by obtain⟨h1,h2⟩:=hj;unfold okZ;omega),e2.frame fun j hj=>a4 j (by have hj':j.1=N1:=hj;unfold okZ;omega),by rw[hts];exact a2⟩
  .rintro n o m fc ⟨⟨hg,hmn⟩,hO,hU,hT⟩
   rw[List.take_of_length_le (Nat.le_refl _)]at hT
   have hTL:x2gv P (freshM l.length) (ordM (fW l P) P.length)=x2i5 (fW l P) l.length P:=rfl
   rw[hTL]at hT
   have hlen:=(x2q4 hR.pr (fW l P)).len hR.pr
   obtain⟨m2,e1,e2,e3,e4⟩:=c_Sort (d+1) [] (by omega) hT
   obtain⟨s1,s2⟩:=iso_asc (x2oa (n:=l.length) (P:=P) (fW l P))
   have hfin:isoM (fun x y=>decide (x<y)) ((x2i5 (fW l P) l.length P).length-1) (x2i5 (fW l P) l.length P)=x2h3 (fW l P) l.length P:=s1.one (x2n7 _) fun x=>(s2 x).trans light_mem.symm
   rw[hfin]at e2
   simp only[x3w]
   unfold xdi x1o
   simp[e1]
   obtain⟨v,h1,h2⟩:=e2.sl1 4
   exact RetF.mk h2 h1
theorem x2uy(d:Nat){s p:AV}{l:List Scene}{P:List Pq}(hs:Sl Scene.c s l)(hp:Sl Pq.c p P)(hR:Right7 l P)(hl:l.length<=8)(hP:P.length<=14)(m:Mem) :
 ∃v,Ints v (x2h3 (fW l P) l.length P)/\x2g3 (x2g5 (d+7)) x3a [.agg [s,p]] m=some (v,m):=
 x2l5 (by simp[hs.still1,hp.still1]) (x2ux d hs hp hR hl hP) m
def bE(b:Bool):List AV:=[B b]
variable{α:Type}{z:Nat}{enc:α->List AV}
def Ow(enc:α->List AV)(m:Mem)(id:Id)(l:List α):Prop:=m.get id=some (.row (l.flatMap enc) 0 false)
theorem Ow.fr{m m':Mem}{id:Id}{l:List α}(h:Ow enc m id l)(e:m'.get id=m.get id):Ow enc m' id l:=by unfold Ow;rw[e];exact h
theorem Ow.ld(hz:∀x,(enc x).length=z){m:Mem}{id:Id}{l:List α}(h:Ow enc m id l){k:Nat}(hk:k<l.length){g:Bool}:sLd g z (.ptr id 0 (k*z)) m=rd g z (enc l[k]++(l.drop (k+1)).flatMap enc):=by
 rw[ld_ptr h,x2pl hz,x2hf hk,List.flatMap_cons]
theorem x2su(hz:∀x,(enc x).length=z)(x:α):∀(l:List α) (k:Nat),k<l.length->x2gq (l.flatMap enc) (k*z) (enc x)=(l.set k x).flatMap enc
 |[],_,h=>by simp at h
 |y::r,0,_=>by
  simp only[x2gq,Nat.zero_mul,Nat.zero_add,List.take_zero,List.nil_append,List.set_cons_zero,List.flatMap_cons]
  rw[hz,<-hz y,List.drop_append_of_le_length (Nat.le_refl _),List.drop_of_length_le (Nat.le_refl _),List.nil_append]
 |y::r,k+1,h=>by
  have ih:=x2su hz x r k (by simpa using h)
  simp only[x2gq,List.set_cons_succ,List.flatMap_cons]at ih ⊢
  rw[Nat.succ_mul,show k*z+z=(enc y).length+k*z by rw[hz];omega,List.take_length_add_append,Nat.add_assoc,List.drop_append,List.append_assoc,<-ih]
  have e:(enc y).length+(k*z+(enc x).length)-(enc y).length=k*z+(enc x).length:=by omega
  rw[e,List.drop_of_length_le (by omega),List.nil_append]
theorem Ow.st(hz:∀x,(enc x).length=z){m:Mem}{id:Id}{l:List α}(h:Ow enc m id l){k:Nat}(hk:k<l.length){x:α}{v:AV}(hv:v.cells=enc x)(h1:(enc x).all AV.one=true) :
 (∀{R:Type} (K:Mem->Option R),sSt z (.ptr id 0 (k*z)) v m K=K (m.set id (.row ((l.set k x).flatMap enc) 0 false)))/\Ow enc (m.set id (.row ((l.set k x).flatMap enc) 0 false)) id (l.set k x):=by
 refine⟨fun K=>?_,by unfold Ow;simp⟩
 have hl:=x2i4 hz l
 rw[st_ptr (z:=z) (x:=v) (k:=K) h (by rw[hv,hz]) (by rw[hl];have:=Nat.mul_le_mul_right z (show k+1<=l.length from hk);rw[Nat.succ_mul]at this;exact this) (by rw[hv];exact h1),hv,x2su hz x l k hk]
theorem Ow.st1{g:α->AV}(he:∀x,enc x=[g x]){m:Mem}{id:Id}{l:List α}(h:Ow enc m id l){k:Int}(h0:0<=k)(hk:k<l.length){x:α}(hc:(g x).cells=[g x])(h1:(g x).one=true) :
 (∀{R:Type} (K:Mem->Option R),sSt 1 (.ptr id 0 k.toNat) (g x) m K=K (m.set id (.row ((l.set k.toNat x).flatMap enc) 0 false)))/\Ow enc (m.set id (.row ((l.set k.toNat x).flatMap enc) 0 false)) id (l.set k.toNat x):=by
 have:=h.st (z:=1) (fun x=>by rw[he];rfl) (k:=k.toNat) (by omega) (x:=x) (v:=g x) (by rw[hc,he]) (by rw[he];simp[h1])
 simpa using this
theorem l_Has(d:Nat)(hs:FHs){a:AV}{l:List Int}{x:Int}(h:Ints a l)(hl:l.length<=1000000)(u:Nat):∀(suf:List Int) (k j:Nat) (m:Mem) (fc:Nat),l.drop k=suf->suf.length<j ->
 x3j (x2g5 d) hs u j a (I x) (I k) m fc=some (B (suf.any fun y=>decide (y=x)),m):=by
 intro suf
 induction suf with
 |nil=>
  intro k j m fc hd hj
  obtain⟨j,rfl⟩:∃i,j=i+1:=⟨j-1,by simp at hj;omega⟩
  have hk:¬((k:Int)<(l.length:Int)):=by have:=List.drop_eq_nil_iff.mp hd;omega
  simp only[x3j]
  unfold xcg
  simp[h.len x2hl,hk,x3i]
 |cons y r ih=>
  intro k j m fc hd hj
  obtain⟨j,rfl⟩:∃i,j=i+1:=⟨j-1,by simp at hj;omega⟩
  obtain⟨hk,hke,hd⟩:=x2je hd
  have hk':(k:Int)<(l.length:Int):=by omega
  have ix:=h.ix x2hc hk
  have e1:at0 l k=y:=by rw[x2gm hk,hke]
  have ih':=ih (k+1) j m (fc+13) hd (by simp at hj;omega)
  simp only[x3j,List.any_cons]
  unfold xcg
  by_cases c:y=x
  .simp(disch:=omega) [h.len x2hl,hk',ix,x2k6,e1,c]
  .simp(disch:=omega) [h.len x2hl,hk',ix,x2k6,e1,c]
   simpa using ih'
theorem w_Has(d:Nat){a:AV}{l:List Int}{x:Int}(h:Ints a l)(hl:l.length<=1000000)(m:Mem):x2g3 (x2g5 (d+1)) x4c [a,I x] m=some (B (l.any fun y=>decide (y=x)),m):=by
 refine Ans.call0 ?_ (by simp[h.still]) rfl
 unfold Ans
 refine⟨⟨[],1⟩,?_⟩
 rw[x1cy]
 exact l_Has d [] h hl 0 l 0 NN ⟨[],1⟩ 2 rfl (by rw[x2gs];omega)
def GkF(ok:Id->Prop)(m:Mem)(a:AV)(l:List Int):Prop:=(a=nilS/\l=[])\/∃id ver b,ok id/\a=.sref id ver 0 l.length 1 true/\m.get id=some (.row (l.flatMap intE) ver b)
theorem GkF.frame{ok:Id->Prop}{m m':Mem}{a:AV}{l:List Int}(h:GkF ok m a l)(hm:∀id,ok id->m'.get id=m.get id):GkF ok m' a l:=by
 rcases h with h|⟨id,ver,b,h0,h1,h2⟩
 .exact Or.inl h
 .exact Or.inr ⟨id,ver,b,h0,h1,by rw[hm _ h0];exact h2⟩
def BestI(f:Int->Int)(S:List Int)(i:Nat)(b:Int):Prop:=(b=-1/\∀j:Nat,j<i->(j:Int)∈S)\/((0<=b/\b<i)/\b∉S/\∀j:Nat,j<i->(j:Int)∉S->(j:Int)=b\/lx f b j)
theorem BestI.fin{f:Int->Int}{N:Nat}{k:Nat}{b:Int}(h:BestI f ((ordM f N).take k) N b)(hk:k<N):b=at0 (ordM f N) k:=by
 have hl:=x2q6 f N
 have hO:=x2ij f N
 have hkl:k<(ordM f N).length:=by omega
 have hx:=(InN.get (ord_rng (f:=f) (N:=N)) hkl)
 have hnd:=hO.nodup
 have hxn:at0 (ordM f N) k∉(ordM f N).take k:=fun hm=>by
  obtain⟨j,hj,e⟩:=List.mem_iff_getElem.mp hm
  rw[List.getElem_take,x2gm hkl]at e
  simp at hj
  exact List.pairwise_iff_getElem.mp hnd j k (by omega) hkl (by omega) e
 rcases h with ⟨h1,h2⟩|⟨h1,h2,h3⟩
 .have:=h2 (at0 (ordM f N) k).toNat (by omega)
  rw[Int.toNat_of_nonneg hx.1]at this
  exact absurd this hxn
 .have h4:=h3 (at0 (ordM f N) k).toNat (by omega) (by rw[Int.toNat_of_nonneg hx.1];exact hxn)
  rw[Int.toNat_of_nonneg hx.1]at h4
  rcases h4 with e|e
  .exact e.symm
  .have hb:b∈ordM f N:=(hO.2 b).mpr h1
   rw[<-List.take_append_drop k (ordM f N),List.mem_append]at hb
   have hb2:=hb.resolve_left h2
   rw[x2hf hkl,List.mem_cons]at hb2
   rcases hb2 with e2|e2
   .rw[x2gm hkl];exact e2
   .have hs:=hO.1
    rw[<-List.take_append_drop k (ordM f N),x2hf hkl]at hs
    have:=(List.pairwise_cons.mp (List.pairwise_append.mp hs).2.1).1 b e2
    rw[x2gm hkl]at e
    exact(lx_asym _ _ this e).elim
def DoneI(f:Int->Int)(N k:Nat)(D:List Bool):Prop:=D.length=N/\∀i:Nat,i<N->D.getD i false=decide ((i:Int)∈(ordM f N).take k)
theorem DoneI.next{f:Int->Int}{N k:Nat}{D:List Bool}(h:DoneI f N k D)(hk:k<N):DoneI f N (k+1) (D.set (at0 (ordM f N) k).toNat true):=by
 have hl:=x2q6 f N
 have hkl:k<(ordM f N).length:=by omega
 have hx:=InN.get (ord_rng (f:=f) (N:=N)) hkl
 refine⟨by simp[h.1],fun i hi=>?_⟩
 rw[List.take_succ_eq_append_getElem hkl,<-x2gm hkl,List.getD_eq_getElem?_getD,List.getElem?_set]
 have h2:=h.2 i hi
 rw[List.getD_eq_getElem?_getD]at h2
 by_cases c:(at0 (ordM f N) k).toNat=i
 .rw[if_pos c,if_pos (by rw[h.1];omega)]
  have:(i:Int)=at0 (ordM f N) k:=by omega
  simp[this]
 .rw[if_neg c,h2]
  have:¬(i:Int)=at0 (ordM f N) k:=by omega
  simp[this]
end Go.Ix
