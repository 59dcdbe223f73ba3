import Derived.Test.YtpeakdjfagbpcaaGreatW7Forest2
set_option linter.unusedSimpArgs false
set_option linter.unusedVariables false
namespace Go.Ix
open Go.Proofs
theorem ints_pre{a:AV}{l:List Int}(h:Ints a l){k:Nat}(hk:k<=l.length)(h0:0<l.length):∃a',Ints a' (l.take k)/\x1xb Tryz.prog x0 a none (some (I k))=some a':=by
 rcases h with ⟨_,rfl⟩|⟨x,rfl⟩
 .simp at h0
 obtain⟨i,hi,hs⟩:=info_int
 have hl:=x235 l
 refine⟨.slit ((l.take k).flatMap intE) (l.take k).length (x&&decide ((k:Int)=(l.length:Int))),Sl.lit _ _,?_⟩
 have e1:x1va (.slit (l.flatMap intE) l.length x)=none:=_root_.id rfl
 have e2:asI (I (k:Int))=some (k:Int):=rfl
 have e3:asI (I 0)=some 0:=rfl
 unfold x1xb
 simp only[e1,x1xn,hi,Option.getD_some,Option.getD_none,e2,e3,hs,Nat.mul_one,Int.sub_zero,Int.toNat_natCast]
 rw[if_pos ⟨by omega,by omega,by omega,by omega⟩,List.length_take,Nat.min_eq_left hk,x1yl,x1yl,List.map_take]
 rfl
theorem sumL_snoc(l:List Scene)(P:List Pq){F:List Int}{k:Nat}(hk:k<F.length):sumL l P 0 (F.take (k+1))=sumL l P 0 (F.take k)+lenP l (prAt P (at0 F k)):=by
 rw[List.take_succ_eq_append_getElem hk,x21s,x21s,List.map_append,List.sum_append,x1vu hk]
 simp
theorem sumL_in{l:List Scene}{P:List Pq}(hb:InB l):∀{F:List Int},Rng l.length P F->0<=sumL l P 0 F/\sumL l P 0 F<=F.length*300000
 |[],_=>by simp[sumL]
 |i::r,h=>by
  have ih:=sumL_in hb (F:=r) fun j hj=>h j (List.mem_cons_of_mem _ hj)
  have:=x23a hb (h i (List.mem_cons_self ..)).2
  rw[x21s]at ih ⊢
  rw[List.map_cons,List.sum_cons,List.length_cons]
  omega
theorem x27o(d:Nat){s p f:AV}{l:List Scene}{P:List Pq}{F:List Int}(hs:Sl Scene.c s l)(hp:Sl Pq.c p P)(hf:Ints f F)(hF:F.length<=1000)(hR:Right7 l P) :
 RetF (fun v=>v=.tup [I (bif decide (x1vy l.length P F=0)then sumL l P 0 F else 0),I (x1vy l.length P F)]) (x1uu (d+3) [] x39 [.agg [s,p],f] mem0):=by
 rw[x11a]
 unfold xbm xcs x9p
 simp[hs.one,hp.one,mem0]
 have hpl:=hR.pl
 have hll:=hR.ll
 refine x1wl (N:=F.length) (fun n k t m fc=>x2k (x1uu (d+2)) [] 0 n f (.ptr (0,0,2) 0 0) t (I k) m fc)
  (fun k t m=>m.get (0,0,2)=some (.row [s,p] 0 false)/\t=I (sumL l P 0 (F.take k))/\Rng l.length P (F.take k)/\forE l.length P F k (F.drop k)=forE l.length P F 0 F) _ ?_ ?_ NN 0 (I 0) _ _ (by omega) (by rw[x1vv];omega)
  ⟨by simp,by simp[sumL],fun i hi=>by simp at hi,by simp⟩
 .rintro n k t m fc hk ⟨g2,rfl,hRk,hT⟩ next
  have hk':(k:Int)<(F.length:Int):=by omega
  have ix:=hf.ix x1w5 hk
  have ld:=fun m=>x1x2 (m:=m) hk
  have hkx:F[k]=at0 F k:=(x1vu hk).symm
  rw[x1w4 hk,hkx]at hT
  have hL:=(x20x hRk).len
  have hsn:=sumL_snoc l P hk
  obtain⟨s0,s1⟩:=sumL_in hR.ib hRk
  have hkl:(F.take k).length=k:=by simp;omega
  rw[hkl]at s1
  simp only[forE]at hT
  simp only[x2k]
  unfold x9o
  simp[hf.len x1xn,hk',ix,ld,g2,hp.len x1ws]
  rw[x1v8 (by omega) (by omega)]
  simp[x20r]
  have fin:∀e:Int,e≠0->forE l.length P F 0 F=e->x1vy l.length P F=e:=fun e h0 h1=>by
   unfold x1vy
   rw[h1]
   simp[h0]
  cases c1:wi (at0 F k) 0 ((P.length:Int)-1)with
  |false=>
   simp[c1]at hT ⊢
   exact RetF.tup rfl (by rw[fin 6 (by omega) hT.symm];rfl)
  |true=>
   have hx:=wi_t c1
   have hq:=hR.at (i:=at0 F k) ⟨hx.1,by omega⟩
   have ip:=hp.ixz Pq.len hx.1 (show at0 F k<P.length by omega)
   have l0:=fun m=>x1z3 (m:=m) (enc:=Pq.c) (show(at0 F k).toNat<P.length by omega) 0 rfl
   have l1:=fun m=>x1z3 (m:=m) (enc:=Pq.c) (show(at0 F k).toNat<P.length by omega) 1 rfl
   rw[<-x20w (by omega)]at l0 l1
   simp only[List.drop_zero]at l0
   simp only[List.drop_one]at l1
   have hRs:=x25s hk hRk hkx ⟨hx.1,by omega⟩ hq
   obtain⟨f',hf',hsl⟩:=ints_pre hf (k:=k) (by omega) (by omega)
   obtain⟨v,hv,hj⟩:=x25j (d+1) hs hp hf' hRk hll (by omega) m
   obtain⟨q0,q1,q2⟩:=hq
   have ia:=hv.ixI x1w5 (k:=(prAt P (at0 F k)).a) q0 (by rw[hL];omega)
   have ib:=hv.ixI x1w5 (k:=(prAt P (at0 F k)).b) (by omega) (by rw[hL];omega)
   have la:=x1x2 (m:=m) (l:=uniM l.length P (F.take k)) (k:=(prAt P (at0 F k)).a.toNat) (by rw[hL];omega)
   have lb:=x1x2 (m:=m) (l:=uniM l.length P (F.take k)) (k:=(prAt P (at0 F k)).b.toNat) (by rw[hL];omega)
   have hlen:=w_rLength d hs hp hR.ib ⟨hx.1,by omega⟩ (hR.at (i:=at0 F k) ⟨hx.1,by omega⟩) m
   have hlin:=x23a hR.ib (hR.at (i:=at0 F k) ⟨hx.1,by omega⟩)
   have tail:(decide (0<k)&&decide (at0 F k<=at0 F (k-1)))=false ->
    (at0 (uniM l.length P (F.take k)) (prAt P (at0 F k)).a.toNat=at0 (uniM l.length P (F.take k)) (prAt P (at0 F k)).b.toNat->x1vy l.length P F=21) /\
    (¬at0 (uniM l.length P (F.take k)) (prAt P (at0 F k)).a.toNat=at0 (uniM l.length P (F.take k)) (prAt P (at0 F k)).b.toNat->forE l.length P F (k+1) (F.drop (k+1))=forE l.length P F 0 F):=fun c2=>by
    rw[c1,c2]at hT
    refine⟨fun c3=>?_,fun c3=>?_⟩
    .simp[c3]at hT
     exact fin 21 (by omega) hT.symm
    .simp[c3]at hT
     exact hT
   by_cases h0:0<k
   .have ix2:=hf.ix x1w5 (show k-1<F.length by omega)
    have ld2:=fun m=>x1x2 (m:=m) (show k-1<F.length by omega)
    have hk1:(k:Int)-1=((k-1:Nat):Int):=by omega
    simp[h0,g2,ix,ld]
    rw[x1v8 (by omega) (by omega),hk1]
    simp[ix2,ld2,g2]
    by_cases c2:at0 F k<=at0 F (k-1)
    .simp[c1,c2,h0]at hT
     simp[c2]
     exact RetF.tup rfl (by rw[fin 9 (by omega) hT.symm];rfl)
    .obtain⟨t1,t2⟩:=tail (by simp[c2])
     simp[c2,hsl,hj,g2,ix,ld,ip,l0,l1,ia,ib,la,lb]
     by_cases c3:at0 (uniM l.length P (F.take k)) (prAt P (at0 F k)).a.toNat=at0 (uniM l.length P (F.take k)) (prAt P (at0 F k)).b.toNat
     .simp[c3]
      exact RetF.tup rfl (by rw[t1 c3];rfl)
     .simp[c3,g2,ix,ld,hlen,hs.clean1,hp.clean1]
      rw[x1v8 (by omega) (by omega),x1v8 (by omega) (by omega)]
      exact next _ m _ ⟨g2,by rw[hsn],hRs,t2 c3⟩
   .obtain⟨t1,t2⟩:=tail (by simp[h0])
    simp[h0,hsl,hj,g2,ix,ld,ip,l0,l1,ia,ib,la,lb]
    by_cases c3:at0 (uniM l.length P (F.take k)) (prAt P (at0 F k)).a.toNat=at0 (uniM l.length P (F.take k)) (prAt P (at0 F k)).b.toNat
    .simp[c3]
     exact RetF.tup rfl (by rw[t1 c3];rfl)
    .simp[c3,g2,ix,ld,hlen,hs.clean1,hp.clean1]
     rw[x1v8 (by omega) (by omega),x1v8 (by omega) (by omega)]
     exact next _ m _ ⟨g2,by rw[hsn],hRs,t2 c3⟩
 .rintro n t m fc ⟨g2,rfl,hRk,hT⟩
  have hk:¬((F.length:Int)<(F.length:Int)):=by omega
  rw[List.take_of_length_le (Nat.le_refl _)]at hRk ⊢
  rw[List.drop_of_length_le (Nat.le_refl _)]at hT
  have hT0:forE l.length P F 0 F=0:=hT.symm
  have hfo:x1vy l.length P F=bif x1z5 l.length P F then 25 else 0:=by unfold x1vy;simp[hT0]
  have hL:=(x20x hRk).len
  obtain⟨v,hv,hj⟩:=x25j (d+1) hs hp hf hRk hll (by omega) m
  simp only[x2k]
  unfold x9o x2j
  simp[hf.len x1xn,g2,hj]
  unfold x9n
  refine x1wl (N:=P.length) (σ:=Unit) (fun n k _ m fc=>x2i (x1uu (d+2)) [] 0 n (.ptr (0,0,2) 0 0) (I (sumL l P 0 F)) v (I k) m fc)
   (fun k _ m=>m.get (0,0,2)=some (.row [s,p] 0 false)/\x1z5 l.length P F=(P.drop k).any fun p=>!decide (at0 (uniM l.length P F) p.a.toNat=at0 (uniM l.length P F) p.b.toNat)) _ ?_ ?_ NN 0 () m _ (by omega) (by rw[x1vv];omega) ⟨g2,by simp[x1z5]⟩
  .rintro n k-m fc hk ⟨g2,ho⟩ next
   have hk':(k:Int)<(P.length:Int):=by omega
   have ip:=hp.ix Pq.len hk
   have l0:=fun m=>x1z3 (m:=m) (enc:=Pq.c) hk 0 rfl
   have l1:=fun m=>x1z3 (m:=m) (enc:=Pq.c) hk 1 rfl
   simp only[List.drop_zero]at l0
   simp only[List.drop_one]at l1
   rw[x1w4 hk,List.any_cons]at ho
   obtain⟨q0,q1,q2⟩:=hR.pr P[k] (List.getElem_mem hk)
   generalize P[k]=q at *
   have ia:=hv.ixI x1w5 (k:=q.a) q0 (by rw[hL];omega)
   have ib:=hv.ixI x1w5 (k:=q.b) (by omega) (by rw[hL];omega)
   have la:=x1x2 (m:=m) (l:=uniM l.length P F) (k:=q.a.toNat) (by rw[hL];omega)
   have lb:=x1x2 (m:=m) (l:=uniM l.length P F) (k:=q.b.toNat) (by rw[hL];omega)
   simp only[x2i]
   unfold x9m
   simp[g2,hp.len x1ws,hk',ip,l0,l1,ia,ib,la,lb]
   by_cases c:at0 (uniM l.length P F) q.a.toNat=at0 (uniM l.length P F) q.b.toNat
   .simp(disch:=omega) [c,x1v8]
    exact next () m _ ⟨g2,by simpa[c]using ho⟩
   .simp[c]
    simp[c]at ho
    exact RetF.tup rfl (by rw[hfo,ho];rfl)
  .rintro n-m fc ⟨g2,ho⟩
   rw[List.drop_of_length_le (Nat.le_refl _)]at ho
   simp only[x2i]
   unfold x9m x2h
   simp[g2,hp.len x1ws]
   exact RetF.tup rfl (by rw[hfo,ho];rfl)
theorem x27p(d:Nat){s p f:AV}{l:List Scene}{P:List Pq}{F:List Int}(hs:Sl Scene.c s l)(hp:Sl Pq.c p P)(hf:Ints f F)(hF:F.length<=1000)(hR:Right7 l P)(m:Mem) :
 x1ut (x1uu (d+3)) x39 [.agg [s,p],f] m=some (.tup [I (bif decide (x1vy l.length P F=0)then sumL l P 0 F else 0),I (x1vy l.length P F)],m):=
 x1xo (by simp[hs.still1,hp.still1,hf.still]) (x27o d hs hp hf hF hR) m
end Go.Ix
