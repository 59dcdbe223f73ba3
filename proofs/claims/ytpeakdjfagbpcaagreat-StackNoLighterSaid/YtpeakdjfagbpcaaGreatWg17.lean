import Derived.Test.YtpeakdjfagbpcaaGreatWg15
import Derived.Test.YtpeakdjfagbpcaaGreatWg16
import Derived.Test.YtpeakdjfagbpcaaGreatWg10
import Derived.Test.YtpeakdjfagbpcaaGreatWg8
import Derived.Test.YtpeakdjfagbpcaaGreatWg14
import Derived.Test.YtpeakdjfagbpcaaGreatWg6
import Derived.Test.YtpeakdjfagbpcaaGreatWg5
set_option linter.unusedSimpArgs false
set_option linter.unusedVariables false
namespace Go.Ix
open Go.Proofs
theorem all_take{N:Nat}{but:Int}{k:Nat}(hk:k<N):((freshM N).take (k+1)).filter (fun i=>!decide (i=but))=((freshM N).take k).filter (fun i=>!decide (i=but))++(if(k:Int)=but then[]else[(k:Int)]):=by
 rw[<-x2px hk,List.filter_append]
 congr 1
 by_cases c:(k:Int)=but<;>simp[List.filter_cons,c]
theorem uni_app1(n:Nat)(P:List Pq)(F:List Int)(i:Int):uniM n P (F++[i])=x2gx (uniM n P F) (prAt P i):=by
 unfold uniM prs
 rw[List.map_append,x2sb]
 rfl
theorem a_pjoined(d:Nat){s p:AV}{l:List Scene}{P:List Pq}(hs:Sl Scene.c s l)(hp:Sl Pq.c p P)(hR:Right7 l P)(but:Int) :
 RetF (fun a=>Ints a (uniM l.length P (allM P.length but))) (x2g5 (d+2) [] x2q [.agg [s,p],I but] mem0):=by
 have hll:=hR.ll
 have hpl:=hR.pl
 rw[x1d2]
 unfold xf6 xho
 generalize hm1:(⟨[],1⟩:Mem).new (0,0,2) (.row [s,p] 0 false)=m1
 have g2:m1.get (0,0,2)=some (.row [s,p] 0 false):=by rw[<-hm1];simp
 have n1:m1.next=1:=by rw[<-hm1];rfl
 obtain⟨a,M,hc,hG,hM,hfr⟩:=x2py d (n:=l.length) (by omega) m1
 have gM:M.get (0,0,2)=some (.row [s,p] 0 false):=by rw[hfr _ (by show 0<m1.next;omega)];exact g2
 simp[mem0,hs.one,hp.one,hm1,g2,hs.len x2h9,hc]
 unfold xcu
 simp[gM,hp.len x2it]
 rw[n1]at hG
 refine x2hu (N:=P.length) (σ:=Unit) (fun n k _ m fc=>x3l (x2g5 (d+1)) [] 0 n (I but) a p (I P.length) (I k) m fc)
  (fun k _ m=>1<m.next/\Gk 1 intE (fun id=>id.1=1) m a (uniM l.length P (((freshM P.length).take k).filter fun i=>!decide (i=but)))) _ ?_ ?_ NN 0 () M _ (by omega) (by rw[x2gs];omega) ⟨by omega,by simpa[uniM,prs,joinsM]using hG⟩
 .rintro n k-m fc hk ⟨hn,hU⟩ next
  have hk':(k:Int)<(P.length:Int):=by omega
  have ip:=hp.ix Pq.len hk
  have lp:=fun m=>x2ii (m:=m) (enc:=Pq.c) Pq.len (by omega) hk
  have hsn:=all_take (but:=but) hk
  have hq:=hR.pr P[k] (List.getElem_mem hk)
  have hpr:=prAt_nat hk
  have hL:(uniM l.length P (((freshM P.length).take k).filter fun i=>!decide (i=but))).length=l.length:=(x2ob (n:=l.length) (fun i hi=>by
   have:=fresh_mem.mp (List.mem_of_mem_take (List.mem_filter.mp hi).1)
   exact⟨this,hR.at this⟩)).len
  generalize P[k]=q at *
  simp only[Pq.c]at lp
  simp only[x3l]
  unfold xct xcs
  simp[hk',ip,lp,x2nx]
  generalize hm2:Mem.set _ _ _=m2
  have g7:m2.get (0,fc+1+3,7)=some (.row [I q.a,I q.b] 0 false):=by rw[<-hm2];simp
  have hU2:Gk 1 intE (fun id=>id.1=1) m2 a (uniM l.length P (((freshM P.length).take k).filter fun i=>!decide (i=but))):=hU.frame fun j hj=>by
   have hj':j.1=1:=hj
   rw[<-hm2,Mem.get_set,if_neg (by rintro rfl;simp at hj'),Mem.get_new,if_neg (by rintro rfl;simp at hj')]
  have n2:m2.next=m.next:=by rw[<-hm2];rfl
  by_cases c:(k:Int)=but
  .rw[if_pos c,List.append_nil]at hsn
   obtain rfl:but=(k:Int):=c.symm
   unfold x68
   simp(disch:=omega) [x2gh]
   exact next () m2 _ ⟨by omega,by rw[hsn];exact hU2⟩
  .rw[if_neg c]at hsn
   obtain⟨m3,e1,e2,e3,e4⟩:=c_join d [] hU2 (fun j hj=>by have hj':j.1=1:=hj;omega) (p:=q) (by rw[hL];exact hq) (by rw[hL];omega)
   simp[c,g7,e1]
   unfold x68
   simp(disch:=omega) [x2gh]
   exact next () m3 _ ⟨by omega,by rw[hsn,uni_app1,hpr];exact e2⟩
 .rintro n-m fc ⟨hn,hU⟩
  rw[List.take_of_length_le (by simp[freshM])]at hU
  simp only[x3l]
  unfold xct x1m
  simp
  obtain⟨a',h1,h2⟩:=hU.sl1 4
  exact RetF.mk h2 h1
theorem w_pjoined(d:Nat){s p:AV}{l:List Scene}{P:List Pq}(hs:Sl Scene.c s l)(hp:Sl Pq.c p P)(hR:Right7 l P)(but:Int)(m:Mem) :
 ∃a,Ints a (uniM l.length P (allM P.length but))/\x2g3 (x2g5 (d+2)) x2q [.agg [s,p],I but] m=some (a,m):=
 x2l5 (by simp[hs.still1,hp.still1]) (a_pjoined d hs hp hR but) m
def labA(l:List Scene)(P:List Pq):List Int:=joinsM (freshM l.length) P
theorem len_few{l:List Scene}{P:List Pq}(h:few7 l P=true)(hR:Right7 l P):l.length<=8/\P.length<=14:=by
 have h1:=hR.ll
 have h2:=hR.pl
 unfold few7 at h
 by_cases c1:8<l.length
 .simp[c1,h1]at h
 .by_cases c2:14<P.length
  .simp[c2,h2]at h
  .omega
theorem lab_mu{l:List Scene}{P:List Pq}(hR:Right7 l P):∃mu:Nat->Nat,(∀v,mu v<=v)/\(∀v,mu (mu v)=mu v)/\∀v,v<l.length->at0 (labA l P) v=(mu v:Nat):=by
 have hL:=(Lab.fresh l.length).joins hR.pr
 refine⟨fun v=>if v<l.length then(at0 (labA l P) v).toNat else v,fun v=>?_,fun v=>?_,fun v hv=>?_⟩
 .by_cases c:v<l.length
  .have:=hL.ok v c
   simp only[c,if_true]
   unfold labA
   omega
  .simp[c]
 .by_cases c:v<l.length
  .have h1:=hL.ok v c
   unfold labA at *
   simp only[c,if_true]
   have c2:(at0 (joinsM (freshM l.length) P) v).toNat<l.length:=by omega
   simp only[c2,if_true,h1.2.2]
  .simp[c]
 .have:=hL.ok v hv
  simp only[hv,if_true]
  unfold labA
  omega
def nmF(ls:List Int)(k:Nat):List Int×Int:=(List.range k).foldl (nmS ls) (List.replicate ls.length 0,0)
theorem x2q8(ls:List Int)(k:Nat):nmF ls (k+1)=nmS ls (nmF ls k) k:=by
 unfold nmF
 rw[List.range_succ,List.foldl_append]
 rfl
theorem nmF_all(ls:List Int):nmF ls ls.length=nmM ls:=rfl
structure PtI (ls:List Int) (k:Nat) (E:List (Int×Int)):Prop where
 len:(nmF ls k).1.length=ls.length
 cnt:(nmF ls k).2=(E.length:Int)
 le:E.length<=k
 get:∀v:Nat,v<ls.length->lkp E v=if v<k/\at0 ls v=v then some (at0 (nmF ls k).1 v)else none
theorem PtI.nil(ls:List Int):PtI ls 0 []:=⟨by simp[nmF],by simp[nmF],by simp,fun v _=>by simp[lkp]⟩
theorem x2sx{l:List Int}{k:Nat}{x:Int}(hk:k<l.length):(l.set k x).take (k+1)=l.take k++[x]:=by
 rw[List.take_succ_eq_append_getElem (by simpa using hk),List.getElem_set_self,List.take_set_of_le (Nat.le_refl _)]
theorem PtI.root{ls:List Int}{k:Nat}{E:List (Int×Int)}(h:PtI ls k E)(hk:k<ls.length)(hr:at0 ls k=k) :
 lkp E k=none/\PtI ls (k+1) (E++[((k:Int),(E.length:Int))])/\(nmF ls (k+1)).1.take (k+1)=(nmF ls k).1.take k++[(E.length:Int)]:=by
 have hl:=h.len
 have hc:=h.cnt
 have hn:lkp E k=none:=by rw[h.get k hk,if_neg (by omega)]
 have hs:nmF ls (k+1)=((nmF ls k).1.set k (E.length:Int),(E.length:Int)+1):=by
  rw[x2q8]
  unfold nmS
  rw[if_pos hr,hc]
 refine⟨hn,⟨?_,?_,?_,fun v hv=>?_⟩,?_⟩
 .rw[hs];simpa using hl
 .rw[hs];simp
 .have:=h.le;simp;omega
 .rw[lkp_app _ _ _ _ hn,hs]
  simp only
  rw[x2nz (by omega)]
  by_cases e:v=k
  .subst e
   rw[if_pos rfl,if_pos ⟨by omega,hr⟩,if_pos rfl]
  .rw[if_neg (by omega),h.get v hv,if_neg e]
   by_cases c:v<k/\at0 ls v=v
   .rw[if_pos c,if_pos ⟨by omega,c.2⟩]
   .rw[if_neg c,if_neg (fun g=>c ⟨by omega,g.2⟩)]
 .rw[hs]
  exact x2sx (by omega)
theorem PtI.known{ls:List Int}{k:Nat}{E:List (Int×Int)}(h:PtI ls k E)(hL:Lab ls.length ls)(hk:k<ls.length)(hr:¬at0 ls k=k) :
 ∃x,lkp E (at0 ls k)=some x/\PtI ls (k+1) E/\(nmF ls (k+1)).1.take (k+1)=(nmF ls k).1.take k++[x]:=by
 have hl:=h.len
 have hok:=hL.ok k hk
 have hs:nmF ls (k+1)=((nmF ls k).1.set k (at0 (nmF ls k).1 (at0 ls k).toNat),(nmF ls k).2):=by
  rw[x2q8]
  unfold nmS
  rw[if_neg hr]
 refine⟨at0 (nmF ls k).1 (at0 ls k).toNat,?_,⟨?_,?_,?_,fun v hv=>?_⟩,?_⟩
 .have:=h.get (at0 ls k).toNat (by omega)
  rw[Int.toNat_of_nonneg hok.1,if_pos ⟨by omega,hok.2.2⟩]at this
  exact this
 .rw[hs];simpa using hl
 .rw[hs];exact h.cnt
 .have:=h.le;omega
 .rw[h.get v hv,hs]
  simp only
  rw[x2nz (by omega)]
  by_cases e:v=k
  .subst e
   rw[if_neg (by omega),if_neg (fun g=>hr g.2)]
  .rw[if_neg e]
   by_cases c:v<k/\at0 ls v=v
   .rw[if_pos c,if_pos ⟨by omega,c.2⟩]
   .rw[if_neg c,if_neg (fun g=>c ⟨by omega,g.2⟩)]
 .rw[hs]
  exact x2sx (by omega)
theorem x2sy{s p:AV}:x2gg x1j [(0,2,AV.agg [s,p])]=some (.agg [s,p]):=by rw[z_graph];simp[x2gg,x2ih]
theorem lenM_ok(id:Id)(E:List (Int×Int))(m:Mem)(h:m.get id=some (.map (mpE E))):sLenM (.mp id) m=some (I E.length):=by
 unfold sLenM
 simp only[h]
 simp[mpE]
theorem a_uparts(d:Nat){a:AV}{ls:List Int}(h:Ints a ls)(hL:Lab ls.length ls)(hl:ls.length<=1000):RetF (fun v=>Ints v (nmM ls).1) (x2g5 (d+1) [] x4i [a] mem0):=by
 rw[x1de]
 unfold xfk xi5 xde
 simp[mem0,h.len u_union,x2m6]
 refine x2hu (N:=ls.length) (σ:=AV×List (Int×Int)) (fun n k s m fc=>x3v (x2g5 d) [] 0 n (.mp (0,1,9)) s.1 a (I ls.length) (I k) m fc)
  (fun k s m=>m.get (0,1,9)=some (.map (mpE s.2))/\PtI ls k s.2/\Gr 1 intE 0 32 m s.1 ((nmF ls k).1.take k)) _ ?_ ?_ NN 0 (nilS,[]) _ _ (by omega) (by rw[x2gs];omega) ⟨by simp[mpE],PtI.nil ls,by simpa using Gr.nil⟩
 .rintro n k ⟨o,E⟩ m fc hk ⟨hE,hI,hG⟩ next
  have hk':(k:Int)<(ls.length:Int):=by omega
  have ix:=h.ix x2hc hk
  have ld:=fun m=>x2k6 (m:=m) hk
  have hlen:((nmF ls k).1.take k).length=k:=by have:=hI.len;simp;omega
  have hlook:=look_ok (0,1,9) E (at0 ls k) m hE
  simp only[x3v]
  unfold xdd x8o
  simp only at hE hI hG
  by_cases c:at0 ls k=k
  .obtain⟨h1,h2,h3⟩:=hI.root hk c
   rw[c]at hlook ld
   rw[h1]at hlook
   simp[hk',ix,ld,hlook,sExt]
   unfold x8n
   simp[lenM_ok _ E m hE]
   rw[up_ok (0,1,9) E k E.length m _ hE h1]
   generalize hm2:m.set (0,1,9) _=m2
   have hE2:m2.get (0,1,9)=some (.map (mpE (E++[((k:Int),(E.length:Int))]))):=by rw[<-hm2];simp
   have hG2:Gr 1 intE 0 32 m2 o ((nmF ls k).1.take k):=hG.frame fun s=>by rw[<-hm2,Mem.get_set,if_neg (by simp)]
   unfold x69
   simp[x2n4]
   obtain⟨o2,m3,e1,e2,e3,e4⟩:=hG2.app (s0:=fc+1+11+9+3) (bytes:=8) x2hc (by omega) (by unfold x2ge;omega) (E.length:Int)
   rw[show ∀x:Int,elems m2.get 1 (.slit [I x] 1 true)=some (intE x,1)from fun _=>rfl,e1]
   unfold x1d
   simp(disch:=omega) [x2gh]
   exact next (o2,E++[((k:Int),(E.length:Int))]) m3 _ ⟨by rw[e4 _ (by simp)];exact hE2,h2,by rw[h3];exact e2⟩
  .obtain⟨x,h1,h2,h3⟩:=hI.known hL hk c
   rw[h1]at hlook
   simp[hk',ix,ld,hlook,sExt]
   unfold x8n
   simp
   unfold x69
   simp[x2n4]
   obtain⟨o2,m3,e1,e2,e3,e4⟩:=hG.app (s0:=fc+1+11+2+3) (bytes:=8) x2hc (by omega) (by unfold x2ge;omega) x
   rw[show ∀x:Int,elems m.get 1 (.slit [I x] 1 true)=some (intE x,1)from fun _=>rfl,e1]
   unfold x1d
   simp(disch:=omega) [x2gh]
   exact next (o2,E) m3 _ ⟨by rw[e4 _ (by simp)];exact hE,h2,by rw[h3];exact e2⟩
 .rintro n ⟨o,E⟩ m fc ⟨hE,hI,hG⟩
  simp only[x3v]
  unfold xdd xz
  simp
  have:=hI.len
  rw[List.take_of_length_le (by omega)]at hG
  obtain⟨a',h1,h2⟩:=hG.frzk (k:=4) x2hc x2me
  exact RetF.mk h2 h1
theorem w_uparts(d:Nat){a:AV}{ls:List Int}(h:Ints a ls)(hL:Lab ls.length ls)(hl:ls.length<=1000)(m:Mem):∃b,Ints b (nmM ls).1/\x2g3 (x2g5 (d+1)) x4i [a] m=some (b,m):=
 x2l5 (by simp[h.still]) (a_uparts d h hL hl) m
theorem w_Parts7(d:Nat){s p:AV}{l:List Scene}{P:List Pq}(hs:Sl Scene.c s l)(hp:Sl Pq.c p P)(m:Mem) :
 ∃a,Ints a (if(net7 l P).2=0 then(nmM (labA l P)).1 else[])/\x2g3 (x2g5 (d+7)) x35 [.agg [s,p]] m=some (.tup [a,I (net7 l P).2],m):=by
 have key:∃v,(∃a,Ints a (if(net7 l P).2=0 then(nmM (labA l P)).1 else[])/\v=.tup [a,I (net7 l P).2])/\x2g3 (x2g5 (d+7)) x35 [.agg [s,p]] m=some (v,m):=by
  refine x2l5 (by simp[hs.still1,hp.still1]) ?_ m
  rw[x1cz]
  unfold xf0 xh3
  generalize hm1:(⟨[],1⟩:Mem).new (0,0,1) (.row [s,p] 0 false)=m1
  have g1:m1.get (0,0,1)=some (.row [s,p] 0 false):=by rw[<-hm1];simp
  simp[mem0,hs.one,hp.one,hm1,g1,x2ps d hs hp]
  by_cases he:(net7 l P).2=0
  .have hR:=x2oc he
   have hL:=(Lab.fresh l.length).joins hR.pr
   have hll:=hR.ll
   obtain⟨u,hu,hjc⟩:=w_pjoined (d+4) hs hp hR (-1) m1
   rw[uni_all]at hu
   obtain⟨b,hb,hbc⟩:=w_uparts (d+5) (a:=u) (ls:=labA l P) hu (by rw[show(labA l P).length=l.length from hL.len];exact hL) (by rw[show(labA l P).length=l.length from hL.len];omega) m1
   simp[he,x2sy,hjc,hbc]
   exact RetF.tup (l:=[b,I 0]) (by simp[hb.still]) ⟨b,hb,rfl⟩
  .simp[he]
   exact RetF.tup (l:=[nilS,I (net7 l P).2]) (by simp) ⟨nilS,Or.inl ⟨rfl,rfl⟩,rfl⟩
 obtain⟨v,⟨a,ha,rfl⟩,hc⟩:=key
 exact⟨a,ha,hc⟩
theorem x2q9(l:List Scene)(P:List Pq):∀(F:List Int) (s:Int),sumL l P s F=s+(F.map (fW l P)).sum
 |[],s=>by simp[sumL]
 |i::F,s=>by
  rw[sumL,x2q9 l P F,List.map_cons,List.sum_cons]
  unfold fW
  omega
theorem x2sz{n:Nat}{P:List Pq}{f:Int->Int}:∀i∈x2h3 f n P,0<=i/\i<P.length:=fun i hi=>fresh_mem.mp (List.mem_filter.mp hi).1
theorem light_Rng{l:List Scene}{P:List Pq}(hR:Right7 l P)(f:Int->Int):Rng l.length P (x2h3 f l.length P):=fun i hi=>⟨x2sz i hi,hR.at (x2sz i hi)⟩
theorem x2t0(f:Int->Int)(n:Nat)(P:List Pq):(x2h3 f n P).length<=P.length:=by
 have h1:=List.length_filter_le (fun i=>(x2i5 f n P).contains i) (freshM P.length)
 have h2:(freshM P.length).length=P.length:=by simp[freshM]
 unfold x2h3
 omega
theorem x2v3(d:Nat){s p:AV}{l:List Scene}{P:List Pq}(hs:Sl Scene.c s l)(hp:Sl Pq.c p P)(hle:(net7 l P).2=0->l.length<=8/\P.length<=14)(m:Mem) :
 ∃a,Ints a (if(net7 l P).2=0 then x2h3 (fW l P) l.length P else[]) /\
  x2g3 (x2g5 (d+8)) x36 [.agg [s,p]] m=some (.tup [a,I (if(net7 l P).2=0 then((x2h3 (fW l P) l.length P).map (fW l P)).sum else 0),I (net7 l P).2],m):=by
 have key:∃v,(∃a,Ints a (if(net7 l P).2=0 then x2h3 (fW l P) l.length P else[])/\v=.tup [a,I (if(net7 l P).2=0 then((x2h3 (fW l P) l.length P).map (fW l P)).sum else 0),I (net7 l P).2])/\x2g3 (x2g5 (d+8)) x36 [.agg [s,p]] m=some (v,m):=by
  refine x2l5 (by simp[hs.still1,hp.still1]) ?_ m
  rw[x1d0]
  unfold xf3 xhc
  generalize hm1:(⟨[],1⟩:Mem).new (0,0,1) (.row [s,p] 0 false)=m1
  have g1:m1.get (0,0,1)=some (.row [s,p] 0 false):=by rw[<-hm1];simp
  simp[mem0,hs.one,hp.one,hm1,g1,x2ps (d+1) hs hp]
  by_cases he:(net7 l P).2=0
  .have hR:=x2oc he
   obtain⟨hl,hP⟩:=hle he
   have hlen:=x2t0 (fW l P) l.length P
   obtain⟨v,hv,hvc⟩:=x2uy d hs hp hR hl hP m1
   have hw:=w_total (d+4) hs hp hv hR.ib (light_Rng hR _) (by omega) m1
   rw[x2q9]at hw
   simp[he,g1,x2sy,hvc,hw]
   exact RetF.tup (l:=[v,I _,I 0]) (by simp[hv.still]) ⟨v,hv,rfl⟩
  .simp[he]
   exact RetF.tup (l:=[nilS,I 0,I (net7 l P).2]) (by simp) ⟨nilS,Or.inl ⟨rfl,rfl⟩,rfl⟩
 obtain⟨v,⟨a,ha,rfl⟩,hc⟩:=key
 exact⟨a,ha,hc⟩
end Go.Ix
