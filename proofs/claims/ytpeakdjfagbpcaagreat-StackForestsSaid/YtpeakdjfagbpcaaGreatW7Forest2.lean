import Derived.Test.YtpeakdjfagbpcaaGreatW7Tree
set_option linter.unusedSimpArgs false
set_option linter.unusedVariables false
namespace Go.Ix
open Go.Proofs
theorem frz_ptr1{objs:Id->Option Ob}{id:Id}{cs:List AV}{v off k:Nat}{f:Bool}(h:objs id=some (.row cs v f)):Go.Ix.frz objs (k+1) (.ptr id v off)=((cs.drop off).mapM (Go.Ix.frz objs k)).map AV.plit:=by
 simp only[Go.Ix.frz,h,if_true]
theorem frz_box{objs:Id->Option Ob}{id:Id}{a a':AV}{v k:Nat}{f:Bool}(h:objs id=some (.row [a] v f))(ha:Go.Ix.frz objs k a=some a'):Go.Ix.frz objs (k+1) (.ptr id v 0)=some (.plit [a']):=by
 rw[frz_ptr1 h]
 simp only[List.drop_zero,List.mapM_cons,List.mapM_nil,ha]
 rfl
theorem frz_clo1{objs:Id->Option Ob}{f:FuncId}{a a':AV}{k:Nat}(ha:Go.Ix.frz objs k a=some a'):Go.Ix.frz objs (k+1) (.clo f [a])=some (.clo f [a']):=by
 show(([a].mapM (Go.Ix.frz objs k)).map fun l=>AV.clo f l)=_
 simp only[List.mapM_cons,List.mapM_nil,ha]
 rfl
theorem frz_two{objs:Id->Option Ob}{a b b':AV}(ha:still a=true)(hb:Go.Ix.frz objs deep b=some b'):[a,b].mapM (Go.Ix.frz objs deep)=some [a,b']:=by
 simp only[List.mapM_cons,List.mapM_nil,hb]
 rw[show Go.Ix.frz objs deep a=some a from x1z1 objs 4 ha]
 rfl
def cfE(l:List Scene)(P:List Pq)(F:List Int):Int:=bif !decide ((net7 l P).2=0)then(net7 l P).2 else x1vy l.length P F
def cfN(l:List Scene)(P:List Pq)(F:List Int):Int:=bif decide (cfE l P F=0)then sumL l P 0 F else 0
theorem z_graph:x3f=[nilS,nilS]:=by kernel_rfl
theorem z_union:xj9=[nilS]:=by kernel_rfl
theorem x25s{n:Nat}{P:List Pq}{F:List Int}{k:Nat}(hk:k<F.length)(h:Rng n P (F.take k)){x:Int}(hx:F[k]=x)(h1:0<=x/\x<P.length)(h2:PqIn n (prAt P x)):Rng n P (F.take (k+1)):=by
 rw[List.take_succ_eq_append_getElem hk,hx]
 intro i hi
 rcases List.mem_append.mp hi with hi|hi
 .exact h i hi
 .simp at hi;subst hi;exact⟨h1,h2⟩
theorem x27m(d:Nat){s p f:AV}{l:List Scene}{P:List Pq}{F:List Int}(hs:Sl Scene.c s l)(hp:Sl Pq.c p P)(hf:Ints f F)(hF:F.length<=1000) :
 RetF (fun v=>v=.tup [I (cfN l P F),I (cfE l P F)]) (x1uu (d+8) [] x37 [.agg [s,p],f] mem0):=by
 rw[x117]
 unfold xbj xcp
 simp[hs.one,hp.one,mem0,w_netErr (d+1) hs hp]
 by_cases he:(net7 l P).2=0
 rotate_left
 .have hE:cfE l P F=(net7 l P).2:=by simp[cfE,he]
  simp[he]
  exact RetF.tup rfl (by rw[show cfN l P F=0 by simp[cfN,hE,he],hE])
 have hR:=x25l he
 have hE:cfE l P F=x1vy l.length P F:=by simp[cfE,he]
 have hN:cfN l P F=bif decide (x1vy l.length P F=0)then sumL l P 0 F else 0:=by rw[cfN,hE]
 rw[hE,hN]
 obtain⟨a,M,hc,hG,hM,hfr⟩:=x27k (d+6) (n:=l.length) (by have:=hR.ll;omega) ((⟨[],1⟩:Mem).new (0,0,2) (.row [s,p] 0 false))
 simp[he,hs.len x1vw,hc,z_union]
 have hone:=hG.one
 simp[hone.1,hone.2]
 generalize hm1:Mem.set _ _ _=m1
 have hMn:M.next=2:=by rw[hM];rfl
 have hokf:∀j:Id,j.1=1->j.1<m1.next:=fun j hj=>by
  have:m1.next=M.next:=by rw[<-hm1];rfl
  rw[this];omega
 have g2:m1.get (0,0,2)=some (.row [s,p] 0 false):=by
  rw[<-hm1,Mem.get_set,if_neg (by simp),Mem.get_new,if_neg (by simp),hfr _ (by show(0:Nat)<1;omega)]
  simp
 have g7:m1.get (0,12,7)=some (.row [a] 0 false):=by rw[<-hm1];simp
 have hG1:Gk 1 intE (fun id=>id.1=1) m1 a (freshM l.length):=hG.frame fun j hj=>by
  have hj':j.1=1:=hj
  rw[<-hm1,Mem.get_set,if_neg (by rintro rfl;simp at hj'),Mem.get_new,if_neg (by rintro rfl;simp at hj')]
 have hm1n:2<=m1.next:=by rw[<-hm1];show 2<=M.next;omega
 unfold x9k
 simp[hf.len x1xn]
 refine x1wl (N:=F.length) (σ:=Unit) (fun n k _ m fc=>x1u (x1uu (d+7)) [] 0 n f (.ptr (0,0,2) 0 0) (.ptr (0,12,7) 0 0) f (I F.length) (I k) m fc)
  (fun k _ m=>(m.get (0,0,2)=some (.row [s,p] 0 false)/\m.get (0,12,7)=some (.row [a] 0 false)/\2<=m.next)/\Gk 1 intE (fun id=>id.1=1) m a (uniM l.length P (F.take k))/\Rng l.length P (F.take k)/\forE l.length P F k (F.drop k)=forE l.length P F 0 F) _ ?_ ?_ NN 0 () m1 _ (by omega) (by rw[x1vv];omega)
  ⟨⟨g2,g7,hm1n⟩,by simpa[uniM,prs,joinsM]using hG1,fun i hi=>by simp at hi,by simp⟩
 .rintro n k-m fc hk ⟨⟨g2,g7,hmn⟩,hG,hRk,hT⟩ next
  have hk':(k:Int)<(F.length:Int):=by omega
  have ix:=hf.ix x1w5 hk
  have ld:=fun m=>x1x2 (m:=m) hk
  have hpl:=hR.pl
  have hkx:F[k]=at0 F k:=(x1vu hk).symm
  rw[x1w4 hk,hkx]at hT
  have hL:=(x20x hRk).len
  have hus:=x25i (n:=l.length) (P:=P) hk
  simp only[forE]at hT
  simp only[x1u]
  unfold x9j
  simp[hk',ix,ld,g2,hp.len x1ws]
  rw[x1v8 (by omega) (by omega)]
  simp[x20s]
  have fin:∀e:Int,e≠0->forE l.length P F 0 F=e->x1vy l.length P F=e:=fun e h0 h1=>by
   unfold x1vy
   rw[h1]
   simp[h0]
  cases c1:wi (at0 F k) 0 ((P.length:Int)-1)with
  |false=>
   simp[c1]at hT ⊢
   exact RetF.tup rfl (by rw[fin 6 (by omega) hT.symm];rfl)
  |true=>
   have hx:=wi_t c1
   have hq:=hR.at (i:=at0 F k) ⟨hx.1,by omega⟩
   have ip:=hp.ixz Pq.len hx.1 (show at0 F k<P.length by omega)
   have lp:=fun m=>x1wk (m:=m) (enc:=Pq.c) Pq.len (by omega) (show(at0 F k).toNat<P.length by omega)
   rw[<-x20w (by omega)]at lp
   have hRs:=x25s hk hRk hkx ⟨hx.1,by omega⟩ hq
   have join:(decide (0<k)&&decide (at0 F k<=at0 F (k-1)))=false->RetF (fun v=>v=.tup [I (bif decide (x1vy l.length P F=0)then sumL l P 0 F else 0),I (x1vy l.length P F)])
    ((sLd false 1 (.ptr (0,12,7) 0 0) m).bind fun t47=>(sIx 2 p (I (at0 F k))).bind fun t51=>(sLd true 2 t51 m).bind fun t52=>(x1uu (d+7) [] x1s [t47,t52] m).bind fun p53=>(sNot p53.1).bind fun t54=>
      x1ur t54 (some (AV.tup [(I 0),(I 21)],p53.2)) ((sAdd (I (k:Int)) (I 1)).bind fun t55=>x1u (x1uu (d+7)) [] 0 n f (.ptr (0,0,2) 0 0) (.ptr (0,12,7) 0 0) f (I F.length) t55 p53.2 (fc+37))):=fun c2=>by
    rw[c1,c2]at hT
    have hq':=hq
    obtain⟨m2,e1,e2,e3,e4⟩:=c_join (d+6) [] hG (fun j hj=>by have hj':j.1=1:=hj;omega) (p:=prAt P (at0 F k)) (by rw[hL];exact hq) (by rw[hL];have:=hR.ll;omega)
    simp only[Pq.c]at lp
    simp[g7,ip,lp,e1]
    by_cases c3:at0 (uniM l.length P (F.take k)) (prAt P (at0 F k)).a.toNat=at0 (uniM l.length P (F.take k)) (prAt P (at0 F k)).b.toNat
    .simp[c3]at hT ⊢
     exact RetF.tup rfl (by rw[fin 21 (by omega) hT.symm];rfl)
    .simp[c3]at hT
     simp(disch:=omega) [c3,x1v8]
     refine next () m2 _ ⟨⟨?_,?_,by omega⟩,by rw[hus];exact e2,hRs,hT⟩
     .rw[e4 _ (by show ¬((0:Nat)=1);omega) (by show 0<m.next;omega)];exact g2
     .rw[e4 _ (by show ¬((0:Nat)=1);omega) (by show 0<m.next;omega)];exact g7
   by_cases h0:0<k
   .have h0':(0:Int)<(k:Int):=by omega
    have ix2:=hf.ix x1w5 (show k-1<F.length by omega)
    have ld2:=fun m=>x1x2 (m:=m) (show k-1<F.length by omega)
    have hk1:(k:Int)-1=((k-1:Nat):Int):=by omega
    simp[h0,g2]
    rw[x1v8 (by omega) (by omega),hk1]
    simp[ix2,ld2,g2]
    by_cases c2:at0 F k<=at0 F (k-1)
    .simp[c1,c2,h0]at hT
     simp[c2]
     exact RetF.tup rfl (by rw[fin 9 (by omega) hT.symm];rfl)
    .simp[c2]
     have:=join (by simp[c2])
     simpa[g7,ip]using this
   .have h0':¬(0:Int)<(k:Int):=by omega
    simp[h0,g2]
    have:=join (by simp[h0])
    simpa[g7,ip]using this
 .rintro n-m fc ⟨⟨g2,g7,hmn⟩,hG,hRk,hT⟩
  have hk:¬((F.length:Int)<(F.length:Int)):=by omega
  rw[List.take_of_length_le (Nat.le_refl _)]at hG hRk
  rw[List.drop_of_length_le (Nat.le_refl _)]at hT
  have hT0:forE l.length P F 0 F=0:=hT.symm
  have hfo:x1vy l.length P F=bif x1z5 l.length P F then 25 else 0:=by unfold x1vy;simp[hT0]
  simp only[x1u]
  unfold x9j x2g
  simp[g2]
  obtain⟨a',ha',hfz⟩:=hG.sl1 2
  have hlist:=frz_two (objs:=m.get) (a:=p) hp.still (frz_clo1 (f:=x2a) (frz_box (k:=4) g7 hfz))
  obtain⟨m',hcf⟩:=x27l (d+4) (f:=x2a) (caps:=[.plit [a']]) (q:=fun x=>!decide (at0 (uniM l.length P F) x.a.toNat=at0 (uniM l.length P F) x.b.toNat)) hp (by have:=hR.pl;omega)
   (fun x hx hs m=>a_apartPq (d+4) ha' (by rw[(x20x hRk).len];exact hR.pr x hx) hs m) rfl
  obtain⟨v,m2,hv,hc,hmn2,hrow⟩:=callR (call:=x1uu (d+7)) (f:=x3a) hlist (T:=fun v=>v=B (x1z5 l.length P F)) (by rw[hcf];exact RetF.st rfl rfl)
  subst hv
  obtain⟨b',hg2⟩:=hrow _ _ _ _ g2
  simp[hc]
  cases ho:x1z5 l.length P F with
  |true=>
   simp
   exact RetF.tup rfl (by rw[hfo,ho];rfl)
  |false=>
   simp[hg2,z_graph]
   have hw:=w_total (d+4) hs hp hf hR.ib hRk hF
   simp[hw,x1v7,x1wz]
   exact RetF.tup rfl (by rw[hfo,ho];rfl)
theorem x27n(d:Nat){s p f:AV}{l:List Scene}{P:List Pq}{F:List Int}(hs:Sl Scene.c s l)(hp:Sl Pq.c p P)(hf:Ints f F)(hF:F.length<=1000)(m:Mem) :
 x1ut (x1uu (d+8)) x37 [.agg [s,p],f] m=some (.tup [I (cfN l P F),I (cfE l P F)],m):=
 x1xo (by simp[hs.still1,hp.still1,hf.still]) (x27m d hs hp hf hF) m
end Go.Ix
