import Derived.Test.YtpeakdjfagbpcaaGreatWg0
import Derived.ProofKit
import Derived.Test.YtpeakdjfagbpcaaGreatWg17
import Derived.Test.YtpeakdjfagbpcaaGreatWg9
import Derived.Test.YtpeakdjfagbpcaaGreatWg1
import Derived.Test.YtpeakdjfagbpcaaGreatWg11
namespace Go.Ix
end Go.Ix
set_option linter.unusedSimpArgs false
namespace Go.Ix
open Go.Proofs
theorem at0_app{l:List Int}{x:Int}{k:Nat}:at0 (l++[x]) k=if k<l.length then at0 l k else if k=l.length then x else 0:=by
 unfold at0
 simp only[List.getD_eq_getElem?_getD]
 by_cases h:k<l.length
 .rw[if_pos h,List.getElem?_append_left h]
 .rw[if_neg h,List.getElem?_append_right (by omega)]
  by_cases h2:k=l.length
  .rw[if_pos h2,h2];simp
  .rw[if_neg h2,List.getElem?_eq_none (by simp;omega)];rfl
def OutIn(k:Int)(out:List Int):Prop:=∀i,-(2048*k)<=at0 out i/\at0 out i<=2048*k
theorem OutIn.app{k:Nat}{out:List Int}(h:OutIn k out){x:Int}(h1:-(2048*((k+1:Nat):Int))<=x)(h2:x<=2048*((k+1:Nat):Int)):OutIn ((k+1:Nat):Int) (out++[x]):=by
 intro i
 rw[at0_app]
 have:=h i
 split
 .omega
 .split<;>omega
theorem l_Ints(d:Nat)(hs:FHs){a b:AV}{l k:List Int}(ha:Ints a l)(hb:Ints b k)(he:l.length=k.length)(hl:l.length<=1000000):∀(suf suk:List Int) (i j:Nat) (m:Mem) (fc:Nat),l.drop i=suf->k.drop i=suk->suf.length<j ->
 ∃m',x3y (x2cl d) hs 0 j a b (I i) m fc=some (B (decide (suf=suk)),m'):=by
 intro suf
 induction suf with
 |nil=>
  intro suk i j m fc hd hk hj
  obtain⟨j,rfl⟩:∃i,j=i+1:=⟨j-1,by simp at hj;omega⟩
  have hd0:=List.drop_eq_nil_iff.mp hd
  have hsk:suk=[]:=by rw[<-hk];exact List.drop_eq_nil_iff.mpr (by omega)
  have hi:¬((i:Int)<(l.length:Int)):=by omega
  simp only[x3y]
  unfold xch
  simp[ha.len x2cu,hi,x3x,hsk]
 |cons x r ih=>
  intro suk i j m fc hd hk hj
  obtain⟨j,rfl⟩:∃i,j=i+1:=⟨j-1,by simp at hj;omega⟩
  obtain⟨hi,hie,hd⟩:=x2ge hd
  have hi2:i<k.length:=by omega
  have hk2:suk=at0 k i::k.drop (i+1):=by rw[<-hk,x2e2 hi2,x2d4 hi2]
  have hi':(i:Int)<(l.length:Int):=by omega
  have ix:=ha.ix x2cw hi
  have ix2:=hb.ix x2cw hi2
  have e1:at0 l i=x:=by rw[x2d4 hi,hie]
  simp only[x3y]
  unfold xch
  simp(disch:=omega) [ha.len x2cu,hi',ix,ix2,x2dc,e1,hk2]
  by_cases c:x=at0 k i
  .obtain⟨m',h'⟩:=ih _ (i+1) j m (fc+16) hd rfl (by simp at hj;omega)
   simp(disch:=omega) [c]
   exact⟨m',h'⟩
  .simp[c]
theorem w_Ints(d:Nat){a b:AV}{l k:List Int}(ha:Ints a l)(hb:Ints b k)(hl:l.length<=1000000)(m:Mem):x2cm (x2cl (d+1)) x1j [a,b] m=some (B (decide (l=k)),m):=by
 refine Ans.call0 ?_ (by simp[ha.still,hb.still]) rfl
 unfold Ans
 rw[x1as]
 unfold xfv xhw xci
 by_cases he:l.length=k.length
 .obtain⟨m',h'⟩:=l_Ints d [] ha hb he hl l k 0 NN ⟨[],1⟩ 7 rfl rfl (by rw[x2cz];omega)
  simp[mem0,ha.len x2cu,hb.len x2cu,he]
  exact⟨m',h'⟩
 .have:¬(l=k):=fun e=>he (by rw[e])
  have he2:¬((l.length:Int)=(k.length:Int)):=by omega
  simp[mem0,ha.len x2cu,hb.len x2cu,he2,this]
end Go.Ix
set_option linter.unusedVariables false
namespace Go.Ix
open Go.Proofs
def Edge.same(a b:Edge):Bool:=decide (a.fr=b.fr)&&(decide (a.to=b.to)&&(decide (a.jump=b.jump)&&decide (a.wt=b.wt)))
theorem Edge.same_iff{a b:Edge}:a.same b=true↔a=b:=by
 cases a;cases b
 simp[Edge.same]
theorem Edge.still1(e:Edge):e.c.all Go.Ix.still1=true:=rfl
theorem x2sx(d:Nat)(hs:FHs){a:AV}{ls:List Int}{n:Nat}(h:Ints a ls)(hl:ls.length=n)(hn:n<=1000)(hls:∀v,v<n->0<=at0 ls v/\at0 ls v<=v) :
 ∀(r k j:Nat) (s:List Int×Int) (m:Mem) (fc:Nat),k+r=n->r<j->s.1.length=n->0<=s.2->s.2<=k->m.get (0,3,8)=some (.row (s.1.flatMap intE) 0 false) ->
 ∃m',x30 (x2cl d) hs 0 j a (srI (0,3,8) n) (I s.2) (I k) m fc=some (srI (0,3,8) n,m')/\m'.get (0,3,8)=some (.row (((List.range' k r).foldl (nmS ls) s).1.flatMap intE) 0 false)/\(((List.range' k r).foldl (nmS ls) s).1.length=n):=by
 intro r
 induction r with
 |zero=>
  intro k j s m fc hk hj hsl g0 g1 hm
  obtain⟨j,rfl⟩:∃i,j=i+1:=⟨j-1,by omega⟩
  have hi:¬((k:Int)<(ls.length:Int)):=by omega
  refine⟨m,?_,hm,hsl⟩
  simp only[x30]
  unfold x98 x1u
  simp[h.len x2cu,hi]
 |succ r ih=>
  intro k j s m fc hk hj hsl g0 g1 hm
  obtain⟨j,rfl⟩:∃i,j=i+1:=⟨j-1,by omega⟩
  have hkn:k<n:=by omega
  have hi:(k:Int)<(ls.length:Int):=by omega
  have hkl:k<ls.length:=by omega
  obtain⟨v0,v1⟩:=hls k hkn
  have ix:=h.ix x2cw hkl
  have i1:sIx 1 (srI (0,3,8) n) (I k)=some (.ptr (0,3,8) 0 k):=by simpa using ix_own (id:=(0,3,8)) (n:=n) (k:=(k:Int)) (by omega) (by omega)
  have i2:=ix_own (id:=(0,3,8)) (n:=n) v0 (by omega)
  have l1:k<s.1.length:=by omega
  have l2:(at0 ls k).toNat<s.1.length:=by omega
  have e1:(List.range' k (r+1)).foldl (nmS ls) s=(List.range' (k+1) r).foldl (nmS ls) (nmS ls s k):=by rw[List.range'_succ,List.foldl_cons]
  rw[e1]
  by_cases c:at0 ls k=k
  .have e2:nmS ls s k=(s.1.set k s.2,s.2+1):=by unfold nmS;rw[if_pos c]
   rw[e2]
   obtain⟨m',r1,r2,r3⟩:=ih (k+1) j (s.1.set k s.2,s.2+1) (m.set (0,3,8) (.row ((s.1.set k s.2).flatMap intE) 0 false)) (fc+21) (by omega) (by omega) (by simpa using hsl) (by simp only;omega) (by simp only;omega) (by rw[Mem.get_set,if_pos rfl])
   refine⟨m',?_,r2,r3⟩
   rw[<-r1]
   simp only[x30]
   unfold x98 x97 x7g
   simp(disch:=omega) [h.len x2cu,hi,ix,x2dc,c,i1,hm]
  .have e2:nmS ls s k=(s.1.set k (at0 s.1 (at0 ls k).toNat),s.2):=by unfold nmS;rw[if_neg c]
   rw[e2]
   obtain⟨m',r1,r2,r3⟩:=ih (k+1) j (s.1.set k (at0 s.1 (at0 ls k).toNat),s.2) (m.set (0,3,8) (.row ((s.1.set k (at0 s.1 (at0 ls k).toNat)).flatMap intE) 0 false)) (fc+24) (by omega) (by omega) (by simpa using hsl) (by simp only;omega) (by simp only;omega) (by rw[Mem.get_set,if_pos rfl])
   refine⟨m',?_,r2,r3⟩
   rw[<-r1]
   simp only[x30]
   unfold x98 x97 x7g
   simp(disch:=omega) [h.len x2cu,hi,ix,x2dc,c,i1,i2,hm]
theorem x2sy(d:Nat){a:AV}{ls:List Int}{n:Nat}(h:Ints a ls)(hl:ls.length=n)(hn:n<=1000)(hls:∀v,v<n->0<=at0 ls v/\at0 ls v<=v) :
 ∃m',x2cl (d+1) [] x5k [a] mem0=some (srI (0,3,8) n,m')/\m'.get (0,3,8)=some (.row ((nmM ls).1.flatMap intE) 0 false)/\(nmM ls).1.length=n:=by
 obtain⟨m',r1,r2,r3⟩:=x2sx d [] h hl hn hls n 0 NN (List.replicate n 0,0) ((⟨[],1⟩:Mem).new (0,3,8) (.row ((List.replicate n (0:Int)).flatMap intE) 0 false)) 7 (by omega) (by rw[x2cz];omega) (by simp) (by simp) (by simp) (by simp)
 have e:(List.range' 0 n).foldl (nmS ls) (List.replicate n 0,0)=nmM ls:=by unfold nmM;rw[hl,List.range_eq_range']
 rw[e]at r2 r3
 refine⟨m',?_,r2,r3⟩
 rw[x1bl]
 unfold xgu xj9 xe2
 have e0:(0:Int)<=(n:Int):=by omega
 have e1:(n:Int)<=1000000:=by omega
 simp[mem0,h.len x2cu,hl,x2e3,mkSl_int e0 e1]
 exact r1
theorem all_take{N:Nat}{but:Int}{k:Nat}(hk:k<N):((freshM N).take (k+1)).filter (fun i=>!decide (i=but))=((freshM N).take k).filter (fun i=>!decide (i=but))++(if(k:Int)=but then[]else[(k:Int)]):=by
 rw[<-x2if hk,List.filter_append]
 congr 1
 by_cases c:(k:Int)=but<;>simp[List.filter_cons,c]
theorem uni_app1(n:Nat)(P:List Pq)(F:List Int)(i:Int):uniM n P (F++[i])=x2df (uniM n P F) (prAt P i):=by
 unfold uniM prs
 rw[List.map_append,x2pl]
 rfl
theorem a_pjoined(d:Nat){s p:AV}{l:List Scene}{P:List Pq}(hs:Sl Scene.c s l)(hp:Sl Pq.c p P)(hR:Right7 l P)(but:Int) :
 RetF (fun a=>Ints a (uniM l.length P (allM P.length but))) (x2cl (d+2) [] x5h [.agg [s,p],I but] mem0):=by
 have hll:=hR.ll
 have hpl:=hR.pl
 rw[x1b8]
 unfold xgf xit
 generalize hm1:(⟨[],1⟩:Mem).new (0,0,2) (.row [s,p] 0 false)=m1
 have g2:m1.get (0,0,2)=some (.row [s,p] 0 false):=by rw[<-hm1];simp
 have n1:m1.next=1:=by rw[<-hm1];rfl
 obtain⟨a,M,hc,hG,hM,hfr⟩:=x2pp d (n:=l.length) (by omega) m1
 have gM:M.get (0,0,2)=some (.row [s,p] 0 false):=by rw[hfr _ (by show 0<m1.next;omega)];exact g2
 simp[mem0,hs.one,hp.one,hm1,g2,hs.len x2dr,hc]
 unfold xdf
 simp[gM,hp.len x2e0]
 rw[n1]at hG
 refine x2de (N:=P.length) (σ:=Unit) (fun n k _ m fc=>x4e (x2cl (d+1)) [] 0 n (I but) a p (I P.length) (I k) m fc)
  (fun k _ m=>1<m.next/\Gk 1 intE (fun id=>id.1=1) m a (uniM l.length P (((freshM P.length).take k).filter fun i=>!decide (i=but)))) _ ?_ ?_ NN 0 () M _ (by omega) (by rw[x2cz];omega) ⟨by omega,by simpa[uniM,prs,joinsM]using hG⟩
 .rintro n k-m fc hk ⟨hn,hU⟩ next
  have hk':(k:Int)<(P.length:Int):=by omega
  have ip:=hp.ix Pq.len hk
  have lp:=fun m=>x2eg (m:=m) (enc:=Pq.c) Pq.len (by omega) hk
  have hsn:=all_take (but:=but) hk
  have hq:=hR.pr P[k] (List.getElem_mem hk)
  have hpr:=x2lj hk
  have hL:(uniM l.length P (((freshM P.length).take k).filter fun i=>!decide (i=but))).length=l.length:=(x2lg (n:=l.length) (fun i hi=>by
   have:=fresh_mem.mp (List.mem_of_mem_take (List.mem_filter.mp hi).1)
   exact⟨this,hR.at this⟩)).len
  generalize P[k]=q at *
  simp only[Pq.c]at lp
  simp only[x4e]
  unfold xde xdd
  simp[hk',ip,lp,x2fo]
  generalize hm2:Mem.set _ _ _=m2
  have g7:m2.get (0,fc+1+3,7)=some (.row [I q.a,I q.b] 0 false):=by rw[<-hm2];simp
  have hU2:Gk 1 intE (fun id=>id.1=1) m2 a (uniM l.length P (((freshM P.length).take k).filter fun i=>!decide (i=but))):=hU.frame fun j hj=>by
   have hj':j.1=1:=hj
   rw[<-hm2,Mem.get_set,if_neg (by rintro rfl;simp at hj'),Mem.get_new,if_neg (by rintro rfl;simp at hj')]
  have n2:m2.next=m.next:=by rw[<-hm2];rfl
  by_cases c:(k:Int)=but
  .rw[if_pos c,List.append_nil]at hsn
   obtain rfl:but=(k:Int):=c.symm
   unfold x7f
   simp(disch:=omega) [x2cq]
   exact next () m2 _ ⟨by omega,by rw[hsn];exact hU2⟩
  .rw[if_neg c]at hsn
   obtain⟨m3,e1,e2,e3,e4⟩:=c_join d [] hU2 (fun j hj=>by have hj':j.1=1:=hj;omega) (p:=q) (by rw[hL];exact hq) (by rw[hL];omega)
   simp[c,g7,e1]
   unfold x7f
   simp(disch:=omega) [x2cq]
   exact next () m3 _ ⟨by omega,by rw[hsn,uni_app1,hpr];exact e2⟩
 .rintro n-m fc ⟨hn,hU⟩
  rw[List.take_of_length_le (by simp[freshM])]at hU
  simp only[x4e]
  unfold xde x1s
  simp
  obtain⟨a',h1,h2⟩:=hU.sl1 4
  exact RetF.mk h2 h1
theorem w_pjoined(d:Nat){s p:AV}{l:List Scene}{P:List Pq}(hs:Sl Scene.c s l)(hp:Sl Pq.c p P)(hR:Right7 l P)(but:Int)(m:Mem) :
 ∃a,Ints a (uniM l.length P (allM P.length but))/\x2cm (x2cl (d+2)) x5h [.agg [s,p],I but] m=some (a,m):=
 x2ei (by simp[hs.still1,hp.still1]) (a_pjoined d hs hp hR but) m
def labA(l:List Scene)(P:List Pq):List Int:=joinsM (freshM l.length) P
noncomputable def x2e4(l:List Scene)(P:List Pq)(ph:List Int):List Int:=(freshM P.length).filter fun i=>!decide (at0 (x2dg l P ph) i.toNat=0)
noncomputable def solX(l:List Scene)(P:List Pq)(ph:List Int)(D i:Int):Int:=if at0 (labA l P) i.toNat=at0 (labA l P) D.toNat then potL l P ph i-potL l P ph D else 1000000000000
noncomputable def solM(l:List Scene)(P:List Pq)(ph:List Int)(D:Int):List Int:=(freshM l.length).map (solX l P ph D)
theorem x2qj{l:List Scene}{P:List Pq}{ph:List Int}{D:Int}{k:Nat}(hk:k<l.length):(solM l P ph D).take (k+1)=(solM l P ph D).take k++[solX l P ph D k]:=by
 rw[List.take_succ_eq_append_getElem (by simpa[solM,freshM]using hk)]
 simp[solM,freshM]
theorem x2gi{l:List Scene}{P:List Pq}{ph:List Int}{D:Int}:(solM l P ph D).length=l.length:=by simp[solM,freshM]
theorem x2qk{l:List Scene}{P:List Pq}{ph:List Int}{k:Nat}(hk:k<P.length):((freshM P.length).take (k+1)).filter (fun i=>!decide (at0 (x2dg l P ph) i.toNat=0))=((freshM P.length).take k).filter (fun i=>!decide (at0 (x2dg l P ph) i.toNat=0))++(if at0 (x2dg l P ph) k=0 then[]else[(k:Int)]):=by
 rw[<-x2if hk,List.filter_append]
 congr 1
 by_cases c:at0 (x2dg l P ph) k=0<;>simp[List.filter_cons,c]
theorem x2ql{N k:Nat}(q:Int->Bool):(((freshM N).take k).filter q).length<=N:=by
 have h1:=List.length_filter_le q ((freshM N).take k)
 have h2:((freshM N).take k).length<=N:=by simp[freshM];omega
 omega
noncomputable def x2ea(l:List Scene)(P:List Pq)(ph wt:List Int)(D:Int):Int:=bif !decide (taskE l P ph wt=0)then taskE l P ph wt else bif !(wi D 0 ((l.length:Int)-1))then 6 else bif decide (0<(x2e4 l P ph).length)then 26 else 0
noncomputable def x2f5(l:List Scene)(P:List Pq)(ph wt:List Int)(D:Int):List Int:=bif decide (x2ea l P ph wt D=0)then solM l P ph D else[]
noncomputable def x2f6(l:List Scene)(P:List Pq)(ph wt:List Int)(D:Int):List Int:=bif decide (taskE l P ph wt=0)&&wi D 0 ((l.length:Int)-1)then x2e4 l P ph else[]
theorem phM{ph:List Int}(h:∀k,k<ph.length->-100000000<=at0 ph k/\at0 ph k<=100000000):∀k,k<ph.length->(at0 ph k).natAbs<=100000000:=fun k hk=>by have:=h k hk;omega
theorem len_few{l:List Scene}{P:List Pq}(h:few7 l P=true)(hR:Right7 l P):l.length<=8/\P.length<=14:=by
 have h1:=hR.ll
 have h2:=hR.pl
 unfold few7 at h
 by_cases c1:8<l.length
 .simp[c1,h1]at h
 .by_cases c2:14<P.length
  .simp[c2,h2]at h
  .omega
theorem a_Solved(d:Nat){s p f g:AV}{l:List Scene}{P:List Pq}{ph wt:List Int}(hs:Sl Scene.c s l)(hp:Sl Pq.c p P)(hf:Ints f ph)(hg:Ints g wt)(h1:ph.length<1000000)(h2:wt.length<1000000)(hfw:few7 l P=true)(D:Int) :
 RetF (fun v=>∃a b,v=.tup [a,b,I (x2ea l P ph wt D)]/\Ints a (x2f5 l P ph wt D)/\Ints b (x2f6 l P ph wt D)) (x2cl (d+14) [] x36 [.agg [s,p,f,g],I D] mem0):=by
 have fin:∀(e:Int) (m:Mem),e≠0->x2ea l P ph wt D=e->x2f6 l P ph wt D=[]->RetF (fun v=>∃a b,v=.tup [a,b,I (x2ea l P ph wt D)]/\Ints a (x2f5 l P ph wt D)/\Ints b (x2f6 l P ph wt D)) (some (.tup [nilS,nilS,I e],m)):=fun e m h0 he hB=>
  RetF.tup rfl ⟨nilS,nilS,by rw[he],Or.inl ⟨rfl,by unfold x2f5;rw[he];simp[h0]⟩,Or.inl ⟨rfl,hB⟩⟩
 rw[x1an]
 unfold xfq xhr
 simp[mem0,hs.one,hp.one,hf.one,hg.one,x2sr (d+5) hs hp hf hg h1 h2]
 by_cases hE:taskE l P ph wt=0
 rotate_left
 .simp[hE]
  exact fin _ _ hE (by unfold x2ea;simp[hE]) (by unfold x2f6;simp[hE])
 have hT:=x2nh hE
 have hR:=hT.r
 obtain⟨hl,hPl⟩:=len_few hfw hR
 simp[hE,z_graph]
 rw[show x2d0 [nilS,nilS] [(0,2,AV.agg [s,p])]=some (.agg [s,p]) by simp[x2d0,x2e9]]
 simp[hs.one,hp.one,hs.len x2dr]
 rw[x2cq (by omega) (by omega)]
 generalize hm1:Mem.set _ _ _=m1
 have g2:m1.get (0,0,2)=some (.row [s,p,f,g] 0 false):=by rw[<-hm1];simp
 have g8:m1.get (0,12,8)=some (.row [s,p] 0 false):=by rw[<-hm1];simp
 have n1:m1.next=1:=by rw[<-hm1];rfl
 simp[x2jl]
 cases c1:wi D 0 ((l.length:Int)-1)with
 |false=>
  simp
  exact fin 6 _ (by omega) (by unfold x2ea;simp[hE,c1]) (by unfold x2f6;simp[c1])
 |true=>
  obtain⟨d0,d1⟩:=wi_t c1
  simp
  unfold xc7
  obtain⟨ms,hms,hmc⟩:=w_misses d hs hp hf hR hl hPl hT.lp (phM hT.hp) (by omega) m1
  have hml:=x2hu l P ph
  simp[g8,g2,hmc,hms.len x2cu]
  refine x2de (N:=P.length) (fun n k b m fc=>x3q (x2cl (d+13)) [] 0 n (I D) (.ptr (0,0,2) 0 0) (.ptr (0,12,8) 0 0) b ms (I (x2dg l P ph).length) (I k) m fc)
   (fun k b m=>(m.get (0,0,2)=some (.row [s,p,f,g] 0 false)/\m.get (0,12,8)=some (.row [s,p] 0 false)/\m.next=1)/\Gr 1 intE 0 48 m b (((freshM P.length).take k).filter fun i=>!decide (at0 (x2dg l P ph) i.toNat=0))) _ ?_ ?_ NN 0 nilS m1 _ (by omega) (by rw[x2cz];omega) ⟨⟨g2,g8,n1⟩,by simpa using Gr.nil⟩
  .rintro n k b m fc hk ⟨⟨g2,g8,n1⟩,hG⟩ next
   have hk':(k:Int)<((x2dg l P ph).length:Int):=by omega
   have ix:=hms.ix x2cw (show k<(x2dg l P ph).length by omega)
   have ld:=fun m=>x2dc (m:=m) (show k<(x2dg l P ph).length by omega)
   have hsn:=x2qk (l:=l) (ph:=ph) hk
   have hfl:=x2ql (N:=P.length) (k:=k) fun i=>!decide (at0 (x2dg l P ph) i.toNat=0)
   simp only[x3q]
   unfold xc6 xc5
   by_cases c:at0 (x2dg l P ph) k=0
   .rw[if_pos c,List.append_nil]at hsn
    simp only[x2db,hk',decide_true,x2d9,x2cs,ix,ld,sNe_I,c,Bool.not_true,x2fd]
    unfold x79
    simp(disch:=omega) [x2cq]
    exact next b m _ ⟨⟨g2,g8,n1⟩,by rw[hsn];exact hG⟩
   .rw[if_neg c]at hsn
    obtain⟨b2,m2,e1,e2,e3,e4⟩:=hG.app (s0:=fc+1+10) (bytes:=8) x2cw (by omega) (by unfold x2cx;omega) (k:Int)
    simp only[x2db,hk',decide_true,x2d9,x2cs,ix,ld]
    simp[c,x2e3]
    rw[show ∀x:Int,elems m.get 1 (.slit [I x] 1 true)=some (intE x,1)from fun _=>rfl,e1]
    unfold x79
    simp(disch:=omega) [x2cq]
    exact next b2 m2 _ ⟨⟨by rw[e4 _ (by simp)];exact g2,by rw[e4 _ (by simp)];exact g8,by omega⟩,by rw[hsn];exact e2⟩
  .rintro n b m fc ⟨⟨g2,g8,n1⟩,hG⟩
   rw[List.take_of_length_le (by simp[freshM])]at hG
   have hG':Gr 1 intE 0 48 m b (x2e4 l P ph):=hG
   simp only[x3q]
   unfold xc6 x1l
   simp only[hml,x2db,Int.lt_irrefl,decide_false,x2fd,x2cs,hG'.len x2cu,x2hh]
   by_cases c2:0<(x2e4 l P ph).length
   .have c2':(0:Int)<((x2e4 l P ph).length:Int):=by omega
    have hS:x2ea l P ph wt D=26:=by unfold x2ea;simp[hE,c1,c2]
    simp[c2]
    obtain⟨b',hb',hfb⟩:=hG'.frzk (k:=3) x2cw x2fn
    exact RetF.mk (x2p9 rfl hfb frz_I) ⟨nilS,b',by rw[hS],Or.inl ⟨rfl,by unfold x2f5;simp[hS]⟩,by unfold x2f6;simp[hE,c1];exact hb'⟩
   .have hS:x2ea l P ph wt D=0:=by unfold x2ea;simp[hE,c1,c2]
    obtain⟨v,hv,hsc⟩:=w_sums (d+1) hs hp hf hR hl hPl hT.lp (phM hT.hp) (by omega) m
    obtain⟨u,hu,hjc⟩:=w_pjoined (d+11) hs hp hR (-1) m
    rw[x2ng]at hu
    have c2':¬(0:Int)<((x2e4 l P ph).length:Int):=by omega
    simp[c2,c2',g8,g2,hsc,hjc,hs.clean1,hp.clean1,hf.clean,cAp,tR,n1,Nat.blt]
    unfold xc4
    have hul:=((Lab.fresh l.length).joins hR.pr).len
    simp[hv.len x2cu,x2dw]
    refine x2de (N:=l.length) (fun n k o m fc=>x3p (x2cl (d+13)) [] 0 n (I D) v u o v (I l.length) (I k) m fc)
     (fun k o m=>Gk 1 intE (fun id=>id.1=0/\(id.2.2=84\/id.2.2=87)) m o ((solM l P ph D).take k)) _ ?_ ?_ NN 0 nilS m _ (by omega) (by rw[x2cz];omega) (by simpa using Gk.nil)
    .rintro n k o m fc hk hG next
     have hk':(k:Int)<(l.length:Int):=by omega
     have ixv:=hv.ix x2cw (show k<(phiL l.length (potM l.length P (x2di (fW l P) l.length P) (phI ph))).length by rw[x2dw];omega)
     have ldv:=fun m=>x2dc (m:=m) (show k<(phiL l.length (potM l.length P (x2di (fW l P) l.length P) (phI ph))).length by rw[x2dw];omega)
     have ixd:=hv.ixI x2cw (k:=D) d0 (by rw[x2dw];omega)
     have ldd:=fun m=>x2dc (m:=m) (show D.toNat<(phiL l.length (potM l.length P (x2di (fW l P) l.length P) (phI ph))).length by rw[x2dw];omega)
     have ixu:=hu.ix x2cw (show k<(joinsM (freshM l.length) P).length by omega)
     have ldu:=fun m=>x2dc (m:=m) (show k<(joinsM (freshM l.length) P).length by omega)
     have ixe:=hu.ixI x2cw (k:=D) d0 (by omega)
     have lde:=fun m=>x2dc (m:=m) (show D.toNat<(joinsM (freshM l.length) P).length by omega)
     have gk:=x2ht (n:=l.length) (φ:=potM l.length P (x2di (fW l P) l.length P) (phI ph)) (v:=(k:Int)) (by omega) hk'
     rw[Int.toNat_natCast]at gk
     rw[gk]at ldv
     rw[x2ht d0 (by omega)]at ldd
     have bk:=x2g3 hR hT.lp (phM hT.hp) (v:=(k:Int)) (by omega) hk'
     have bd:=x2g3 hR hT.lp (phM hT.hp) (v:=D) d0 (by omega)
     have hsn:=x2qj (P:=P) (ph:=ph) (D:=D) hk
     have hol:((solM l P ph D).take k).length<=8:=by simp[x2gi];omega
     unfold potL at bk bd
     simp only[x3p]
     unfold xc3 xc2
     simp only[x2db,hk',decide_true,x2d9,x2cs,ixv,ldv,ixu,ldu,ixe,lde,sEq_I]
     by_cases c:at0 (joinsM (freshM l.length) P) k=at0 (joinsM (freshM l.length) P) D.toNat
     .have hx:solX l P ph D k=potM l.length P (x2di (fW l P) l.length P) (phI ph) k-potM l.length P (x2di (fW l P) l.length P) (phI ph) D:=by unfold solX labA potL;rw[Int.toNat_natCast,if_pos c]
      rw[hx]at hsn
      obtain⟨o2,m2,e1,e2,-,-,e3,-⟩:=hG.app (bytes:=8) (id0:=(0,fc+1+22,84)) x2cw (by omega) ⟨rfl,.inl rfl⟩ (by unfold x2cx;omega) (potM l.length P (x2di (fW l P) l.length P) (phI ph) k-potM l.length P (x2di (fW l P) l.length P) (phI ph) D)
      simp only[c,decide_true,x2d9,ixd,ldd,x2cs,x2hg,x2e3]
      rw[x2cq (by omega) (by omega)]
      simp only[x2ke]
      rw[show ∀x:Int,elems m.get 1 (.slit [I x] 1 true)=some (intE x,1)from fun _=>rfl,e1]
      unfold x78
      simp(disch:=omega) [x2cq]
      exact next o2 m2 _ (by rw[hsn];exact e2)
     .have hx:solX l P ph D k=1000000000000:=by unfold solX labA;rw[Int.toNat_natCast,if_neg c]
      rw[hx]at hsn
      obtain⟨o2,m2,e1,e2,-,-,e3,-⟩:=hG.app (bytes:=8) (id0:=(0,fc+1+16,87)) x2cw (by omega) ⟨rfl,.inr rfl⟩ (by unfold x2cx;omega) (1000000000000:Int)
      simp only[c,decide_false,x2fd,x2e3,x2ke]
      rw[show ∀x:Int,elems m.get 1 (.slit [I x] 1 true)=some (intE x,1)from fun _=>rfl,e1]
      unfold x78
      simp(disch:=omega) [x2cq]
      exact next o2 m2 _ (by rw[hsn];exact e2)
    .rintro n o m fc hG
     rw[List.take_of_length_le (by rw[x2gi];exact Nat.le_refl _)]at hG
     simp only[x3p]
     unfold xc3 x1k
     simp
     obtain⟨a',ha',hfa⟩:=hG.sl1 3
     have hO:x2e4 l P ph=[]:=List.length_eq_zero_iff.mp (by omega)
     exact RetF.mk (x2p9 hfa rfl frz_I) ⟨a',nilS,by rw[hS],by unfold x2f5;simp[hS];exact ha',Or.inl ⟨rfl,by unfold x2f6;simp[hE,c1,hO]⟩⟩
end Go.Ix
