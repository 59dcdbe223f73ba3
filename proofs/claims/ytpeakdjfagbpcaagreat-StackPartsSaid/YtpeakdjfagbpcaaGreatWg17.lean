import Derived.Test.YtpeakdjfagbpcaaGreatWg15
import Derived.Test.YtpeakdjfagbpcaaGreatWg16
import Derived.Test.YtpeakdjfagbpcaaGreatWg10
import Derived.Test.YtpeakdjfagbpcaaGreatWg8
import Derived.Test.YtpeakdjfagbpcaaGreatWg14
set_option linter.unusedSimpArgs false
set_option linter.unusedVariables false
namespace Go.Ix
open Go.Proofs
theorem x2s4(d:Nat)(hs:FHs){a:AV}{ls:List Int}{n:Nat}(h:Ints a ls)(hl:ls.length=n)(hn:n<=1000)(hls:∀v,v<n->0<=at0 ls v/\at0 ls v<=v) :
 ∀(r k j:Nat) (s:List Int×Int) (m:Mem) (fc:Nat),k+r=n->r<j->s.1.length=n->0<=s.2->s.2<=k->m.get (0,3,8)=some (.row (s.1.flatMap intE) 0 false) ->
 ∃m',x2s (x2ej d) hs 0 j a (srI (0,3,8) n) (I s.2) (I k) m fc=some (srI (0,3,8) n,m')/\m'.get (0,3,8)=some (.row (((List.range' k r).foldl (nmS ls) s).1.flatMap intE) 0 false)/\(((List.range' k r).foldl (nmS ls) s).1.length=n):=by
 intro r
 induction r with
 |zero=>
  intro k j s m fc hk hj hsl g0 g1 hm
  obtain⟨j,rfl⟩:∃i,j=i+1:=⟨j-1,by omega⟩
  have hi:¬((k:Int)<(ls.length:Int)):=by omega
  refine⟨m,?_,hm,hsl⟩
  simp only[x2s]
  unfold x8a x1n
  simp[h.len x2g9,hi]
 |succ r ih=>
  intro k j s m fc hk hj hsl g0 g1 hm
  obtain⟨j,rfl⟩:∃i,j=i+1:=⟨j-1,by omega⟩
  have hkn:k<n:=by omega
  have hi:(k:Int)<(ls.length:Int):=by omega
  have hkl:k<ls.length:=by omega
  obtain⟨v0,v1⟩:=hls k hkn
  have ix:=h.ix x2fd hkl
  have i1:sIx 1 (srI (0,3,8) n) (I k)=some (.ptr (0,3,8) 0 k):=by simpa using ix_own (id:=(0,3,8)) (n:=n) (k:=(k:Int)) (by omega) (by omega)
  have i2:=ix_own (id:=(0,3,8)) (n:=n) v0 (by omega)
  have l1:k<s.1.length:=by omega
  have l2:(at0 ls k).toNat<s.1.length:=by omega
  have e1:(List.range' k (r+1)).foldl (nmS ls) s=(List.range' (k+1) r).foldl (nmS ls) (nmS ls s k):=by rw[List.range'_succ,List.foldl_cons]
  rw[e1]
  by_cases c:at0 ls k=k
  .have e2:nmS ls s k=(s.1.set k s.2,s.2+1):=by unfold nmS;rw[if_pos c]
   rw[e2]
   obtain⟨m',r1,r2,r3⟩:=ih (k+1) j (s.1.set k s.2,s.2+1) (m.set (0,3,8) (.row ((s.1.set k s.2).flatMap intE) 0 false)) (fc+21) (by omega) (by omega) (by simpa using hsl) (by simp only;omega) (by simp only;omega) (by rw[Mem.get_set,if_pos rfl])
   refine⟨m',?_,r2,r3⟩
   rw[<-r1]
   simp only[x2s]
   unfold x8a x89 x5p
   simp(disch:=omega) [h.len x2g9,hi,ix,x2i9,c,i1,hm]
  .have e2:nmS ls s k=(s.1.set k (at0 s.1 (at0 ls k).toNat),s.2):=by unfold nmS;rw[if_neg c]
   rw[e2]
   obtain⟨m',r1,r2,r3⟩:=ih (k+1) j (s.1.set k (at0 s.1 (at0 ls k).toNat),s.2) (m.set (0,3,8) (.row ((s.1.set k (at0 s.1 (at0 ls k).toNat)).flatMap intE) 0 false)) (fc+24) (by omega) (by omega) (by simpa using hsl) (by simp only;omega) (by simp only;omega) (by rw[Mem.get_set,if_pos rfl])
   refine⟨m',?_,r2,r3⟩
   rw[<-r1]
   simp only[x2s]
   unfold x8a x89 x5p
   simp(disch:=omega) [h.len x2g9,hi,ix,x2i9,c,i1,i2,hm]
theorem x2s5(d:Nat){a:AV}{ls:List Int}{n:Nat}(h:Ints a ls)(hl:ls.length=n)(hn:n<=1000)(hls:∀v,v<n->0<=at0 ls v/\at0 ls v<=v) :
 ∃m',x2ej (d+1) [] x42 [a] mem0=some (srI (0,3,8) n,m')/\m'.get (0,3,8)=some (.row ((nmM ls).1.flatMap intE) 0 false)/\(nmM ls).1.length=n:=by
 obtain⟨m',r1,r2,r3⟩:=x2s4 d [] h hl hn hls n 0 NN (List.replicate n 0,0) ((⟨[],1⟩:Mem).new (0,3,8) (.row ((List.replicate n (0:Int)).flatMap intE) 0 false)) 7 (by omega) (by rw[x2fk];omega) (by simp) (by simp) (by simp) (by simp)
 have e:(List.range' 0 n).foldl (nmS ls) (List.replicate n 0,0)=nmM ls:=by unfold nmM;rw[hl,List.range_eq_range']
 rw[e]at r2 r3
 refine⟨m',?_,r2,r3⟩
 rw[x1cm]
 unfold xf9 xhb xd9
 have e0:(0:Int)<=(n:Int):=by omega
 have e1:(n:Int)<=1000000:=by omega
 simp[mem0,h.len x2g9,hl,x2ip,mkSl_int e0 e1]
 exact r1
theorem all_take{N:Nat}{but:Int}{k:Nat}(hk:k<N):((freshM N).take (k+1)).filter (fun i=>!decide (i=but))=((freshM N).take k).filter (fun i=>!decide (i=but))++(if(k:Int)=but then[]else[(k:Int)]):=by
 rw[<-x2l3 hk,List.filter_append]
 congr 1
 by_cases c:(k:Int)=but<;>simp[List.filter_cons,c]
theorem uni_app1(n:Nat)(P:List Pq)(F:List Int)(i:Int):uniM n P (F++[i])=x2f3 (uniM n P F) (prAt P i):=by
 unfold uniM prs
 rw[List.map_append,x2pn]
 rfl
theorem a_pjoined(d:Nat){s p:AV}{l:List Scene}{P:List Pq}(hs:Sl Scene.c s l)(hp:Sl Pq.c p P)(hR:Right7 l P)(but:Int) :
 RetF (fun a=>Ints a (uniM l.length P (allM P.length but))) (x2ej (d+2) [] x2h [.agg [s,p],I but] mem0):=by
 have hll:=hR.ll
 have hpl:=hR.pl
 rw[x1cc]
 unfold xex xgx
 generalize hm1:(⟨[],1⟩:Mem).new (0,0,2) (.row [s,p] 0 false)=m1
 have g2:m1.get (0,0,2)=some (.row [s,p] 0 false):=by rw[<-hm1];simp
 have n1:m1.next=1:=by rw[<-hm1];rfl
 obtain⟨a,M,hc,hG,hM,hfr⟩:=x2rz d (n:=l.length) (by omega) m1
 have gM:M.get (0,0,2)=some (.row [s,p] 0 false):=by rw[hfr _ (by show 0<m1.next;omega)];exact g2
 simp[mem0,hs.one,hp.one,hm1,g2,hs.len x2fo,hc]
 unfold xcn
 simp[gM,hp.len x2ga]
 rw[n1]at hG
 refine x2gf (N:=P.length) (σ:=Unit) (fun n k _ m fc=>x3c (x2ej (d+1)) [] 0 n (I but) a p (I P.length) (I k) m fc)
  (fun k _ m=>1<m.next/\Gk 1 intE (fun id=>id.1=1) m a (uniM l.length P (((freshM P.length).take k).filter fun i=>!decide (i=but)))) _ ?_ ?_ NN 0 () M _ (by omega) (by rw[x2fk];omega) ⟨by omega,by simpa[uniM,prs,joinsM]using hG⟩
 .rintro n k-m fc hk ⟨hn,hU⟩ next
  have hk':(k:Int)<(P.length:Int):=by omega
  have ip:=hp.ix Pq.len hk
  have lp:=fun m=>x2i8 (m:=m) (enc:=Pq.c) Pq.len (by omega) hk
  have hsn:=all_take (but:=but) hk
  have hq:=hR.pr P[k] (List.getElem_mem hk)
  have hpr:=x2nk hk
  have hL:(uniM l.length P (((freshM P.length).take k).filter fun i=>!decide (i=but))).length=l.length:=(x2ni (n:=l.length) (fun i hi=>by
   have:=fresh_mem.mp (List.mem_of_mem_take (List.mem_filter.mp hi).1)
   exact⟨this,hR.at this⟩)).len
  generalize P[k]=q at *
  simp only[Pq.c]at lp
  simp only[x3c]
  unfold xcm xcl
  simp[hk',ip,lp,x2l1]
  generalize hm2:Mem.set _ _ _=m2
  have g7:m2.get (0,fc+1+3,7)=some (.row [I q.a,I q.b] 0 false):=by rw[<-hm2];simp
  have hU2:Gk 1 intE (fun id=>id.1=1) m2 a (uniM l.length P (((freshM P.length).take k).filter fun i=>!decide (i=but))):=hU.frame fun j hj=>by
   have hj':j.1=1:=hj
   rw[<-hm2,Mem.get_set,if_neg (by rintro rfl;simp at hj'),Mem.get_new,if_neg (by rintro rfl;simp at hj')]
  have n2:m2.next=m.next:=by rw[<-hm2];rfl
  by_cases c:(k:Int)=but
  .rw[if_pos c,List.append_nil]at hsn
   obtain rfl:but=(k:Int):=c.symm
   unfold x5n
   simp(disch:=omega) [x2f2]
   exact next () m2 _ ⟨by omega,by rw[hsn];exact hU2⟩
  .rw[if_neg c]at hsn
   obtain⟨m3,e1,e2,e3,e4⟩:=c_join d [] hU2 (fun j hj=>by have hj':j.1=1:=hj;omega) (p:=q) (by rw[hL];exact hq) (by rw[hL];omega)
   simp[c,g7,e1]
   unfold x5n
   simp(disch:=omega) [x2f2]
   exact next () m3 _ ⟨by omega,by rw[hsn,uni_app1,hpr];exact e2⟩
 .rintro n-m fc ⟨hn,hU⟩
  rw[List.take_of_length_le (by simp[freshM])]at hU
  simp only[x3c]
  unfold xcm x1l
  simp
  obtain⟨a',h1,h2⟩:=hU.sl1 4
  exact RetF.mk h2 h1
theorem x2q5(d:Nat){s p:AV}{l:List Scene}{P:List Pq}(hs:Sl Scene.c s l)(hp:Sl Pq.c p P)(hR:Right7 l P)(but:Int)(m:Mem) :
 ∃a,Ints a (uniM l.length P (allM P.length but))/\x2eg (x2ej (d+2)) x2h [.agg [s,p],I but] m=some (a,m):=
 x2h6 (by simp[hs.still1,hp.still1]) (a_pjoined d hs hp hR but) m
def labA(l:List Scene)(P:List Pq):List Int:=joinsM (freshM l.length) P
theorem a_rParts7(d:Nat){s p:AV}{l:List Scene}{P:List Pq}(hs:Sl Scene.c s l)(hp:Sl Pq.c p P)(hR:Right7 l P) :
 RetF (fun a=>Ints a (nmM (labA l P)).1) (x2ej (d+3) [] x2y [.agg [s,p]] mem0):=by
 have hll:=hR.ll
 have hpl:=hR.pl
 have hL:=(Lab.fresh l.length).joins hR.pr
 rw[x1c9]
 unfold xer xgg
 generalize hm1:(⟨[],1⟩:Mem).new (0,0,1) (.row [s,p] 0 false)=m1
 have g1:m1.get (0,0,1)=some (.row [s,p] 0 false):=by rw[<-hm1];simp
 have hal:(allM P.length (-1)).length=P.length:=by rw[all_1];simp[freshM]
 obtain⟨a,ha,hac⟩:=w_all (d+1) ⟨hs.one,hs.still1⟩ hp (by omega) (-1) m1
 obtain⟨u,hu,hjc⟩:=x2pz (d+1) hs hp ha (x2nl hR (-1)) hll (by omega) m1
 rw[uni_all]at hu
 obtain⟨m',h1,h2,h3⟩:=x2s5 (d+1) hu hL.len (by omega) (fun v hv=>⟨(hL.ok v hv).1,(hL.ok v hv).2.1⟩)
 have hnc:∃b,Ints b (nmM (joinsM (freshM l.length) P)).1/\x2eg (x2ej (d+2)) x42 [u] m1=some (b,m1):=by
  refine x2h6 (T:=fun a=>Ints a (nmM (joinsM (freshM l.length) P)).1) (by simp[hu.still]) ?_ m1
  rw[h1]
  obtain⟨b,hb,hfb⟩:=x2m1 (k:=4) h2
  rw[h3]at hfb
  exact RetF.mk hfb hb
 obtain⟨b,hb,hbc⟩:=hnc
 simp[mem0,hs.one,hp.one,hm1,g1,hac,hjc,hbc,hs.clean1,hp.clean1,cAp,tR]
 exact RetF.st hb.still hb
theorem w_rParts7(d:Nat){s p:AV}{l:List Scene}{P:List Pq}(hs:Sl Scene.c s l)(hp:Sl Pq.c p P)(hR:Right7 l P)(m:Mem) :
 ∃a,Ints a (nmM (labA l P)).1/\x2eg (x2ej (d+3)) x2y [.agg [s,p]] m=some (a,m):=
 x2h6 (by simp[hs.still1,hp.still1]) (a_rParts7 d hs hp hR) m
def nmF(ls:List Int)(k:Nat):List Int×Int:=(List.range k).foldl (nmS ls) (List.replicate ls.length 0,0)
theorem x2nm(ls:List Int)(k:Nat):nmF ls (k+1)=nmS ls (nmF ls k) k:=by
 unfold nmF
 rw[List.range_succ,List.foldl_append]
 rfl
theorem nmF_all(ls:List Int):nmF ls ls.length=nmM ls:=rfl
structure PtI (ls:List Int) (k:Nat) (E:List (Int×Int)):Prop where
 len:(nmF ls k).1.length=ls.length
 cnt:(nmF ls k).2=(E.length:Int)
 le:E.length<=k
 get:∀v:Nat,v<ls.length->lkp E v=if v<k/\at0 ls v=v then some (at0 (nmF ls k).1 v)else none
theorem PtI.nil(ls:List Int):PtI ls 0 []:=⟨by simp[nmF],by simp[nmF],by simp,fun v _=>by simp[lkp]⟩
theorem x2q6{l:List Int}{k:Nat}{x:Int}(hk:k<l.length):(l.set k x).take (k+1)=l.take k++[x]:=by
 rw[List.take_succ_eq_append_getElem (by simpa using hk),List.getElem_set_self,List.take_set_of_le (Nat.le_refl _)]
theorem PtI.root{ls:List Int}{k:Nat}{E:List (Int×Int)}(h:PtI ls k E)(hk:k<ls.length)(hr:at0 ls k=k) :
 lkp E k=none/\PtI ls (k+1) (E++[((k:Int),(E.length:Int))])/\(nmF ls (k+1)).1.take (k+1)=(nmF ls k).1.take k++[(E.length:Int)]:=by
 have hl:=h.len
 have hc:=h.cnt
 have hn:lkp E k=none:=by rw[h.get k hk,if_neg (by omega)]
 have hs:nmF ls (k+1)=((nmF ls k).1.set k (E.length:Int),(E.length:Int)+1):=by
  rw[x2nm]
  unfold nmS
  rw[if_pos hr,hc]
 refine⟨hn,⟨?_,?_,?_,fun v hv=>?_⟩,?_⟩
 .rw[hs];simpa using hl
 .rw[hs];simp
 .have:=h.le;simp;omega
 .rw[lkp_app _ _ _ _ hn,hs]
  simp only
  rw[at0_set (by omega)]
  by_cases e:v=k
  .subst e
   rw[if_pos rfl,if_pos ⟨by omega,hr⟩,if_pos rfl]
  .rw[if_neg (by omega),h.get v hv,if_neg e]
   by_cases c:v<k/\at0 ls v=v
   .rw[if_pos c,if_pos ⟨by omega,c.2⟩]
   .rw[if_neg c,if_neg (fun g=>c ⟨by omega,g.2⟩)]
 .rw[hs]
  exact x2q6 (by omega)
theorem PtI.known{ls:List Int}{k:Nat}{E:List (Int×Int)}(h:PtI ls k E)(hL:Lab ls.length ls)(hk:k<ls.length)(hr:¬at0 ls k=k) :
 ∃x,lkp E (at0 ls k)=some x/\PtI ls (k+1) E/\(nmF ls (k+1)).1.take (k+1)=(nmF ls k).1.take k++[x]:=by
 have hl:=h.len
 have hok:=hL.ok k hk
 have hs:nmF ls (k+1)=((nmF ls k).1.set k (at0 (nmF ls k).1 (at0 ls k).toNat),(nmF ls k).2):=by
  rw[x2nm]
  unfold nmS
  rw[if_neg hr]
 refine⟨at0 (nmF ls k).1 (at0 ls k).toNat,?_,⟨?_,?_,?_,fun v hv=>?_⟩,?_⟩
 .have:=h.get (at0 ls k).toNat (by omega)
  rw[Int.toNat_of_nonneg hok.1,if_pos ⟨by omega,hok.2.2⟩]at this
  exact this
 .rw[hs];simpa using hl
 .rw[hs];exact h.cnt
 .have:=h.le;omega
 .rw[h.get v hv,hs]
  simp only
  rw[at0_set (by omega)]
  by_cases e:v=k
  .subst e
   rw[if_neg (by omega),if_neg (fun g=>hr g.2)]
  .rw[if_neg e]
   by_cases c:v<k/\at0 ls v=v
   .rw[if_pos c,if_pos ⟨by omega,c.2⟩]
   .rw[if_neg c,if_neg (fun g=>c ⟨by omega,g.2⟩)]
 .rw[hs]
  exact x2q6 (by omega)
theorem x2q7{s p:AV}:x2et x1g [(0,2,AV.agg [s,p])]=some (.agg [s,p]):=by rw[z_graph];simp[x2et,x2gu]
theorem lenM_ok(id:Id)(E:List (Int×Int))(m:Mem)(h:m.get id=some (.map (mpE E))):sLenM (.mp id) m=some (I E.length):=by
 unfold sLenM
 simp only[h]
 simp[mpE]
theorem a_uparts(d:Nat){a:AV}{ls:List Int}(h:Ints a ls)(hL:Lab ls.length ls)(hl:ls.length<=1000):RetF (fun v=>Ints v (nmM ls).1) (x2ej (d+1) [] x41 [a] mem0):=by
 rw[x1cl]
 unfold xf8 xha xd8
 simp[mem0,h.len u_union,x2k6]
 refine x2gf (N:=ls.length) (σ:=AV×List (Int×Int)) (fun n k s m fc=>x3k (x2ej d) [] 0 n (.mp (0,1,9)) s.1 a (I ls.length) (I k) m fc)
  (fun k s m=>m.get (0,1,9)=some (.map (mpE s.2))/\PtI ls k s.2/\Gr 1 intE 0 32 m s.1 ((nmF ls k).1.take k)) _ ?_ ?_ NN 0 (nilS,[]) _ _ (by omega) (by rw[x2fk];omega) ⟨by simp[mpE],PtI.nil ls,by simpa using Gr.nil⟩
 .rintro n k ⟨o,E⟩ m fc hk ⟨hE,hI,hG⟩ next
  have hk':(k:Int)<(ls.length:Int):=by omega
  have ix:=h.ix x2fd hk
  have ld:=fun m=>x2i9 (m:=m) hk
  have hlen:((nmF ls k).1.take k).length=k:=by have:=hI.len;simp;omega
  have hlook:=look_ok (0,1,9) E (at0 ls k) m hE
  simp only[x3k]
  unfold xd7 x88
  simp only at hE hI hG
  by_cases c:at0 ls k=k
  .obtain⟨h1,h2,h3⟩:=hI.root hk c
   rw[c]at hlook ld
   rw[h1]at hlook
   simp[hk',ix,ld,hlook,sExt]
   unfold x87
   simp[lenM_ok _ E m hE]
   rw[up_ok (0,1,9) E k E.length m _ hE h1]
   generalize hm2:m.set (0,1,9) _=m2
   have hE2:m2.get (0,1,9)=some (.map (mpE (E++[((k:Int),(E.length:Int))]))):=by rw[<-hm2];simp
   have hG2:Gr 1 intE 0 32 m2 o ((nmF ls k).1.take k):=hG.frame fun s=>by rw[<-hm2,Mem.get_set,if_neg (by simp)]
   unfold x5o
   simp[x2ip]
   obtain⟨o2,m3,e1,e2,e3,e4⟩:=hG2.app (s0:=fc+1+11+9+3) (bytes:=8) x2fd (by omega) (by unfold x2er;omega) (E.length:Int)
   rw[show ∀x:Int,elems m2.get 1 (.slit [I x] 1 true)=some (intE x,1)from fun _=>rfl,e1]
   unfold x1a
   simp(disch:=omega) [x2f2]
   exact next (o2,E++[((k:Int),(E.length:Int))]) m3 _ ⟨by rw[e4 _ (by simp)];exact hE2,h2,by rw[h3];exact e2⟩
  .obtain⟨x,h1,h2,h3⟩:=hI.known hL hk c
   rw[h1]at hlook
   simp[hk',ix,ld,hlook,sExt]
   unfold x87
   simp
   unfold x5o
   simp[x2ip]
   obtain⟨o2,m3,e1,e2,e3,e4⟩:=hG.app (s0:=fc+1+11+2+3) (bytes:=8) x2fd (by omega) (by unfold x2er;omega) x
   rw[show ∀x:Int,elems m.get 1 (.slit [I x] 1 true)=some (intE x,1)from fun _=>rfl,e1]
   unfold x1a
   simp(disch:=omega) [x2f2]
   exact next (o2,E) m3 _ ⟨by rw[e4 _ (by simp)];exact hE,h2,by rw[h3];exact e2⟩
 .rintro n ⟨o,E⟩ m fc ⟨hE,hI,hG⟩
  simp only[x3k]
  unfold xd7 xx
  simp
  have:=hI.len
  rw[List.take_of_length_le (by omega)]at hG
  obtain⟨a',h1,h2⟩:=hG.frzk (k:=4) x2fd x2io
  exact RetF.mk h2 h1
theorem w_uparts(d:Nat){a:AV}{ls:List Int}(h:Ints a ls)(hL:Lab ls.length ls)(hl:ls.length<=1000)(m:Mem):∃b,Ints b (nmM ls).1/\x2eg (x2ej (d+1)) x41 [a] m=some (b,m):=
 x2h6 (by simp[h.still]) (a_uparts d h hL hl) m
theorem w_Parts7(d:Nat){s p:AV}{l:List Scene}{P:List Pq}(hs:Sl Scene.c s l)(hp:Sl Pq.c p P)(m:Mem) :
 ∃a,Ints a (if(net7 l P).2=0 then(nmM (labA l P)).1 else[])/\x2eg (x2ej (d+7)) x3x [.agg [s,p]] m=some (.tup [a,I (net7 l P).2],m):=by
 have key:∃v,(∃a,Ints a (if(net7 l P).2=0 then(nmM (labA l P)).1 else[])/\v=.tup [a,I (net7 l P).2])/\x2eg (x2ej (d+7)) x3x [.agg [s,p]] m=some (v,m):=by
  refine x2h6 (by simp[hs.still1,hp.still1]) ?_ m
  rw[x1c7]
  unfold xep xge
  generalize hm1:(⟨[],1⟩:Mem).new (0,0,1) (.row [s,p] 0 false)=m1
  have g1:m1.get (0,0,1)=some (.row [s,p] 0 false):=by rw[<-hm1];simp
  simp[mem0,hs.one,hp.one,hm1,g1,x2pl d hs hp]
  by_cases he:(net7 l P).2=0
  .have hR:=x2nj he
   have hL:=(Lab.fresh l.length).joins hR.pr
   have hll:=hR.ll
   obtain⟨u,hu,hjc⟩:=x2q5 (d+4) hs hp hR (-1) m1
   rw[uni_all]at hu
   obtain⟨b,hb,hbc⟩:=w_uparts (d+5) (a:=u) (ls:=labA l P) hu (by rw[show(labA l P).length=l.length from hL.len];exact hL) (by rw[show(labA l P).length=l.length from hL.len];omega) m1
   simp[he,x2q7,hjc,hbc]
   exact RetF.tup (l:=[b,I 0]) (by simp[hb.still]) ⟨b,hb,rfl⟩
  .simp[he]
   exact RetF.tup (l:=[nilS,I (net7 l P).2]) (by simp) ⟨nilS,Or.inl ⟨rfl,rfl⟩,rfl⟩
 obtain⟨v,⟨a,ha,rfl⟩,hc⟩:=key
 exact⟨a,ha,hc⟩
def brB(n:Nat)(P:List Pq)(i:Int):Bool:=!decide (at0 (uniM n P (allM P.length i)) (prAt P i).a.toNat=at0 (uniM n P (allM P.length i)) (prAt P i).b.toNat)
def brM(n:Nat)(P:List Pq):List Int:=(freshM P.length).filter (brB n P)
theorem br_take{n:Nat}{P:List Pq}{k:Nat}(hk:k<P.length):((freshM P.length).take (k+1)).filter (brB n P)=((freshM P.length).take k).filter (brB n P)++(if brB n P k then[(k:Int)]else[]):=by
 rw[<-x2l3 hk,List.filter_append]
 congr 1
 cases c:brB n P k<;>simp[List.filter_cons,c]
theorem br_len{n:Nat}{P:List Pq}{k:Nat}:(((freshM P.length).take k).filter (brB n P)).length<=P.length:=by
 have h1:=List.length_filter_le (brB n P) ((freshM P.length).take k)
 have h2:((freshM P.length).take k).length<=P.length:=by simp[freshM];omega
 omega
theorem uni_len{l:List Scene}{P:List Pq}(hR:Right7 l P)(but:Int):(uniM l.length P (allM P.length but)).length=l.length:=
 (x2ni (n:=l.length) (fun i hi=>x2nl hR but i hi)).len
theorem w_Bridges(d:Nat){s p:AV}{l:List Scene}{P:List Pq}(hs:Sl Scene.c s l)(hp:Sl Pq.c p P)(m:Mem) :
 ∃a,Ints a (if(net7 l P).2=0 then brM l.length P else[])/\x2eg (x2ej (d+7)) x3y [.agg [s,p]] m=some (.tup [a,I (net7 l P).2],m):=by
 have key:∃v,(∃a,Ints a (if(net7 l P).2=0 then brM l.length P else[])/\v=.tup [a,I (net7 l P).2])/\x2eg (x2ej (d+7)) x3y [.agg [s,p]] m=some (v,m):=by
  refine x2h6 (by simp[hs.still1,hp.still1]) ?_ m
  rw[x1c8]
  unfold xeq xgf
  generalize hm1:(⟨[],1⟩:Mem).new (0,0,1) (.row [s,p] 0 false)=m1
  have g1:m1.get (0,0,1)=some (.row [s,p] 0 false):=by rw[<-hm1];simp
  simp[mem0,hs.one,hp.one,hm1,g1,x2pl d hs hp]
  by_cases he:(net7 l P).2=0
  .have hR:=x2nj he
   have hll:=hR.ll
   have hpl:=hR.pl
   simp[he]
   unfold xc8
   simp[g1,hp.len x2ga]
   refine x2gf (N:=P.length) (fun n k o m fc=>x39 (x2ej (d+6)) [] 0 n (.ptr (0,0,1) 0 0) o p (I P.length) (I k) m fc)
    (fun k o m=>m.get (0,0,1)=some (.row [s,p] 0 false)/\Gr 1 intE 0 40 m o (((freshM P.length).take k).filter (brB l.length P))) _ ?_ ?_ NN 0 nilS m1 _ (by omega) (by rw[x2fk];omega) ⟨g1,by simpa using Gr.nil⟩
   .rintro n k o m fc hk ⟨hg,hG⟩ next
    have hk':(k:Int)<(P.length:Int):=by omega
    have ip:=hp.ix Pq.len hk
    have lp:=fun m=>x2i8 (m:=m) (enc:=Pq.c) Pq.len (by omega) hk
    have hq:=hR.pr P[k] (List.getElem_mem hk)
    have hpr:=x2nk hk
    have hbt:=br_take (n:=l.length) hk
    have hbl:=br_len (n:=l.length) (P:=P) (k:=k)
    have hul:=uni_len hR k
    have hbr:brB l.length P k=!decide (at0 (uniM l.length P (allM P.length k)) P[k].a.toNat=at0 (uniM l.length P (allM P.length k)) P[k].b.toNat):=by
     unfold brB;rw[hpr]
    generalize P[k]=q at *
    obtain⟨q0,q1,q2⟩:=hq
    simp only[Pq.c]at lp
    simp only[x39]
    unfold xc7 xc6
    simp[hk',ip,lp,x2l1]
    generalize hm2:Mem.set _ _ _=m2
    have g7:m2.get (0,fc+1+3,7)=some (.row [I q.a,I q.b] 0 false):=by rw[<-hm2];simp
    have hg2:m2.get (0,0,1)=some (.row [s,p] 0 false):=by rw[<-hm2,Mem.get_set,if_neg (by simp),Mem.get_new,if_neg (by simp)];exact hg
    have hG2:Gr 1 intE 0 40 m2 o (((freshM P.length).take k).filter (brB l.length P)):=hG.frame fun s=>by
     rw[<-hm2,Mem.get_set,if_neg (by simp),Mem.get_new,if_neg (by simp)]
    obtain⟨u,hu,hjc⟩:=x2q5 (d+4) hs hp hR k m2
    have ia:=hu.ixI x2fd q0 (show q.a<_ by rw[hul];omega)
    have ib:=hu.ixI x2fd (show 0<=q.b by omega) (show q.b<_ by rw[hul];omega)
    have la:=fun m=>x2i9 (m:=m) (show q.a.toNat<(uniM l.length P (allM P.length k)).length by rw[hul];omega)
    have lb:=fun m=>x2i9 (m:=m) (show q.b.toNat<(uniM l.length P (allM P.length k)).length by rw[hul];omega)
    simp[hg,x2q7,hjc,g7,ia,ib,la,lb]
    by_cases c:at0 (uniM l.length P (allM P.length k)) q.a.toNat=at0 (uniM l.length P (allM P.length k)) q.b.toNat
    .have hb:brB l.length P k=false:=by rw[hbr];simp[c]
     rw[hb]at hbt
     simp at hbt
     simp[c]
     unfold x5l
     simp(disch:=omega) [x2f2]
     exact next o m2 _ ⟨hg2,by rw[hbt];exact hG2⟩
    .have hb:brB l.length P k=true:=by rw[hbr];simp[c]
     rw[hb]at hbt
     simp at hbt
     obtain⟨o2,m3,e1,e2,e3,e4⟩:=hG2.app (s0:=fc+1+25) (bytes:=8) x2fd (by omega) (by unfold x2er;omega) (k:Int)
     simp[c,x2ip]
     rw[show ∀x:Int,elems m2.get 1 (.slit [I x] 1 true)=some (intE x,1)from fun _=>rfl,e1]
     unfold x5l
     simp(disch:=omega) [x2f2]
     exact next o2 m3 _ ⟨by rw[e4 _ (by simp)];exact hg2,by rw[hbt];exact e2⟩
   .rintro n o m fc ⟨hg,hG⟩
    rw[List.take_of_length_le (by simp[freshM])]at hG
    simp only[x39]
    unfold xc7 x1j
    simp
    obtain⟨a',h1,h2⟩:=hG.frzk (k:=3) x2fd x2io
    exact RetF.mk (frz_tup2 h2 frz_I) ⟨a',h1,rfl⟩
  .simp[he]
   exact RetF.tup (l:=[nilS,I (net7 l P).2]) (by simp) ⟨nilS,Or.inl ⟨rfl,rfl⟩,rfl⟩
 obtain⟨v,⟨a,ha,rfl⟩,hc⟩:=key
 exact⟨a,ha,hc⟩
theorem x2s6(d:Nat){s p:AV}{l:List Scene}{P:List Pq}(hs:Sl Scene.c s l)(hp:Sl Pq.c p P)(hR:Right7 l P)(m:Mem) :
 ∃a,Ints a (brM l.length P)/\x2eg (x2ej (d+3)) x56 [.agg [s,p]] m=some (a,m):=by
 refine x2h6 (by simp[hs.still1,hp.still1]) ?_ m
 have hll:=hR.ll
 have hpl:=hR.pl
 rw[x1ca]
 unfold xes xgh xcb
 generalize hm1:(⟨[],1⟩:Mem).new (0,0,1) (.row [s,p] 0 false)=m1
 have g1:m1.get (0,0,1)=some (.row [s,p] 0 false):=by rw[<-hm1];simp
 simp[mem0,hs.one,hp.one,hm1]
 refine x2gf (N:=P.length) (fun n k o m fc=>x3a (x2ej (d+2)) [] 0 n (.ptr (0,0,1) 0 0) o (I k) m fc)
  (fun k o m=>m.get (0,0,1)=some (.row [s,p] 0 false)/\Gr 1 intE 0 40 m o (((freshM P.length).take k).filter (brB l.length P))) _ ?_ ?_ NN 0 nilS m1 _ (by omega) (by rw[x2fk];omega) ⟨g1,by simpa using Gr.nil⟩
 .rintro n k o m fc hk ⟨hg,hG⟩ next
  have hk':(k:Int)<(P.length:Int):=by omega
  have ip:=hp.ix Pq.len hk
  have l0:=fun m=>ld_fld (m:=m) (enc:=Pq.c) hk 0 rfl
  have l1:=fun m=>ld_fld (m:=m) (enc:=Pq.c) hk 1 rfl
  simp only[List.drop_zero]at l0
  simp only[List.drop_one]at l1
  have hq:=hR.pr P[k] (List.getElem_mem hk)
  have hpr:=x2nk hk
  have hbt:=br_take (n:=l.length) hk
  have hbl:=br_len (n:=l.length) (P:=P) (k:=k)
  have hul:=uni_len hR k
  have hbr:brB l.length P k=!decide (at0 (uniM l.length P (allM P.length k)) P[k].a.toNat=at0 (uniM l.length P (allM P.length k)) P[k].b.toNat):=by
   unfold brB;rw[hpr]
  generalize P[k]=q at *
  obtain⟨q0,q1,q2⟩:=hq
  simp only[x3a]
  unfold xca xc9
  obtain⟨a,ha,hac⟩:=w_all (d+1) ⟨hs.one,hs.still1⟩ hp (by omega) k m
  obtain⟨u,hu,hjc⟩:=x2pz (d+1) hs hp ha (x2nl hR k) hll (by
   have h1:=List.length_filter_le (fun i:Int=>!decide (i=(k:Int))) (freshM P.length)
   have h2:(freshM P.length).length=P.length:=by simp[freshM]
   unfold allM
   omega) m
  have ia:=hu.ixI x2fd q0 (show q.a<_ by rw[hul];omega)
  have ib:=hu.ixI x2fd (show 0<=q.b by omega) (show q.b<_ by rw[hul];omega)
  have la:=fun m=>x2i9 (m:=m) (show q.a.toNat<(uniM l.length P (allM P.length k)).length by rw[hul];omega)
  have lb:=fun m=>x2i9 (m:=m) (show q.b.toNat<(uniM l.length P (allM P.length k)).length by rw[hul];omega)
  simp[hg,hp.len x2ga,hk',hac,hjc,tR,cAp,hs.clean1,hp.clean1,ip,l0,l1,ia,ib,la,lb]
  by_cases c:at0 (uniM l.length P (allM P.length k)) q.a.toNat=at0 (uniM l.length P (allM P.length k)) q.b.toNat
  .have hb:brB l.length P k=false:=by rw[hbr];simp[c]
   rw[hb]at hbt
   simp at hbt
   simp[c]
   unfold x5m
   simp(disch:=omega) [x2f2]
   exact next o m _ ⟨hg,by rw[hbt];exact hG⟩
  .have hb:brB l.length P k=true:=by rw[hbr];simp[c]
   rw[hb]at hbt
   simp at hbt
   obtain⟨o2,m3,e1,e2,e3,e4⟩:=hG.app (s0:=fc+5+28) (bytes:=8) x2fd (by omega) (by unfold x2er;omega) (k:Int)
   simp[c,x2ip]
   rw[show ∀x:Int,elems m.get 1 (.slit [I x] 1 true)=some (intE x,1)from fun _=>rfl,e1]
   unfold x5m
   simp(disch:=omega) [x2f2]
   exact next o2 m3 _ ⟨by rw[e4 _ (by simp)];exact hg,by rw[hbt];exact e2⟩
 .rintro n o m fc ⟨hg,hG⟩
  rw[List.take_of_length_le (by simp[freshM])]at hG
  simp only[x3a]
  unfold xca x1k
  simp[hg,hp.len x2ga]
  obtain⟨a',h1,h2⟩:=hG.frzk (k:=4) x2fd x2io
  exact RetF.mk h2 h1
end Go.Ix
