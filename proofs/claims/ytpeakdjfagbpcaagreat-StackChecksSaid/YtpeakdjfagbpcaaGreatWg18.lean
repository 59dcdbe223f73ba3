import Derived.Test.YtpeakdjfagbpcaaGreatWg17
import Derived.Test.YtpeakdjfagbpcaaGreatWg15
import Derived.Test.YtpeakdjfagbpcaaGreatWg11
import Derived.Test.YtpeakdjfagbpcaaGreatWg14
set_option linter.unusedSimpArgs false
set_option linter.unusedVariables false
namespace Go.Ix
open Go.Proofs
theorem x303(d:Nat){s p f g t:AV}{l:List Scene}{P:List Pq}{ph wt tu:List Int}(hs:Sl Scene.c s l)(hp:Sl Pq.c p P)(hf:Ints f ph)(hg:Ints g wt)(ht:Ints t tu)(h1:l.length<=1000000)(h2:P.length<=1000000)(h3:ph.length<=1000000)(h4:wt.length<=1000000)(hl:tu.length=ph.length)(hpb:∀k,k<ph.length->-100000000<=at0 ph k/\at0 ph k<=100000000)(htb:∀k,k<tu.length->-1000000<=at0 tu k/\at0 tu k<=1000000)(m:Mem) :
 ∃s' p' f' g',Sl Scene.c s' l/\Sl Pq.c p' P/\Ints f' (corL ph tu)/\Ints g' wt/\x2i8 (x2i6 (d+3)) x3m [.agg [s,p,f,g],t] m=some (.agg [s',p',f',g'],m):=by
 obtain⟨v,⟨s',p',f',g',rfl,a1,a2,a3,a4⟩,hc⟩:=x2k6 (by simp[hs.still1,hp.still1,hf.still1,hg.still1,ht.still]) (x302 d hs hp hf hg ht h1 h2 h3 h4 hl hpb htb) m
 exact⟨s',p',f',g',a1,a2,a3,a4,hc⟩
theorem ccE_ok{l:List Scene}{P:List Pq}{ph wt tu:List Int}(h:ccE l P ph wt tu=0):tu.length=P.length/\(∀k,k<tu.length->-1000000<=at0 tu k/\at0 tu k<=1000000)/\openM l P (corL ph tu)=[]:=by
 unfold ccE at h
 by_cases c1:tu.length=P.length
 .cases c2:tu.any x2ks with
  |true=>rw[c2]at h;simp[c1]at h
  |false=>
   cases c3:(x2ie l P (corL ph tu)).any (fun n=>!decide (n=0))with
   |true=>rw[c2,c3]at h;simp[c1]at h
   |false=>
    refine⟨c1,x2qu (q:=x2ks) (fun _=>rfl) c2,?_⟩
    unfold openM
    rw[List.filter_eq_nil_iff]
    intro i hi
    have hi2:=fresh_mem.mp hi
    rw[List.any_eq_false]at c3
    have hl:i.toNat<(x2ie l P (corL ph tu)).length:=by rw[x2lo];omega
    have:=c3 _ (List.getElem_mem hl)
    rw[<-x2io hl]at this
    simpa using this
 .simp[c1]at h
theorem tmod_emod(x:Int):decide (x.tmod 4096=0)=decide (x % 4096=0):=by
 rw[decide_eq_decide]
 exact⟨fun h=>Int.emod_eq_zero_of_dvd (Int.dvd_of_tmod_eq_zero h),fun h=>Int.tmod_eq_zero_of_dvd (Int.dvd_of_emod_eq_zero h)⟩
def x2lc(x:Int):Bool:=!decide (x % 4096=0)
def x2kt(x:Int):Bool:=!(wi (x.tdiv 4096) (-1000) 1000)
noncomputable def nofE(l:List Scene)(P:List Pq)(ph:List Int):Int:=bif(x2ie l P ph).any x2lc then 27 else bif(x2ie l P ph).any x2kt then 8 else 0
noncomputable def x2lp(l:List Scene)(P:List Pq)(ph wt:List Int)(k:Nat):Edge:=⟨(prAt P k).a,(prAt P k).b,(at0 (x2ie l P ph) k).tdiv 4096,at0 wt k⟩
noncomputable def netL(l:List Scene)(P:List Pq)(ph wt:List Int):List Edge:=(List.range P.length).map (x2lp l P ph wt)
noncomputable def nofN(l:List Scene)(P:List Pq)(ph wt:List Int):Int:=bif decide (nofE l P ph=0)then l.length else 0
noncomputable def nofL(l:List Scene)(P:List Pq)(ph wt:List Int):List Edge:=bif decide (nofE l P ph=0)then netL l P ph wt else[]
theorem x2n6(l:List Scene)(P:List Pq)(ph wt:List Int):(netL l P ph wt).length=P.length:=by simp[netL]
theorem x2xf{l:List Scene}{P:List Pq}{ph wt:List Int}{k:Nat}(hk:k<P.length):(netL l P ph wt).take (k+1)=(netL l P ph wt).take k++[x2lp l P ph wt k]:=by
 rw[List.take_succ_eq_append_getElem (by rw[x2n6];exact hk)]
 simp[netL]
theorem x2xg{id:Id}{a b c d:Int}{m:Mem}{R:Type}(k:AV->Mem->Option R):x2ij [I 0,I 0,I 0,I 0] [(0,4,.agg [I a,I b,I c,I d])] 1 4 id m k=k (.slit [I a,I b,I c,I d] 1 true) m:=by
 simp[x2ij,x2j3,x2j5,List.range_succ,clean1,AV.one,Value.oneCell']
theorem x2n7:xp=[I 0,nilS]:=by kernel_rfl
theorem z_edge7:x10=[I 0,I 0,I 0,I 0]:=by kernel_rfl
theorem x2xh{a b c d:Int}:x2ih [I 0,I 0,I 0,I 0] [(0,1,I a),(1,1,I b),(2,1,I c),(3,1,I d)]=some (.agg [I a,I b,I c,I d]):=by simp[x2ih,x2j3]
theorem tells_md(d:Nat):x2mg (x2i6 (d+1)) (.clo x68 []) x2lc:=by
 intro hs x m
 refine⟨m.next+1,?_⟩
 show x2i6 (d+1) hs x68 [I x] m=_
 rw[x1fe]
 unfold xii xlu x2lc
 simp only[sRem_I (show(4096:Int)≠0 by omega),x2ig,sNe_I,tmod_emod]
theorem miss_in{l:List Scene}{P:List Pq}{ph:List Int}(hR:Right7 l P)(hph:ph.length=P.length)(hM:∀k,k<ph.length->(at0 ph k).natAbs<=100000000){k:Nat}(hk:k<P.length):(at0 (x2ie l P ph) k).natAbs<=13000000000:=by
 have hnM:l.length*100000000<=60*100000000:=Nat.mul_le_mul hR.ll (Nat.le_refl _)
 obtain⟨q0,q1,q2⟩:=hR.pr P[k] (List.getElem_mem hk)
 rw[x2s2 hk,x2m3 hk]
 have ba:=x2po hR hph hM (v:=P[k].a) q0 (by omega)
 have bb:=x2po hR hph hM (v:=P[k].b) (by omega) q2
 have bp:=hM k (by omega)
 omega
theorem tdiv_in{x:Int}(h:x.natAbs<=13000000000):(x.tdiv 4096).natAbs<=13000000000:=by
 rw[Int.natAbs_tdiv]
 exact Nat.le_trans (Nat.div_le_self _ _) h
def x2pq(l:List Scene)(P:List Pq)(ph wt:List Int)(v:AV):Prop:=∃e,v=.tup [.agg [I (nofN l P ph wt),e],I (nofE l P ph)]/\Sl Edge.c e (nofL l P ph wt)
theorem x2qv{objs:Id->Option Ob}{a b:AV}{x e:Int}(h:Go.Ix.frz objs 4 a=some b):Go.Ix.frz objs deep (.tup [.agg [I x,a],I e])=some (.tup [.agg [I x,b],I e]):=by
 refine x2vy ?_ rfl
 exact x2rr (k:=3) rfl h
theorem a_netOf(d:Nat){s p f g:AV}{l:List Scene}{P:List Pq}{ph wt:List Int}(hs:Sl Scene.c s l)(hp:Sl Pq.c p P)(hf:Ints f ph)(hg:Ints g wt)(hT:TaskOK l P ph wt)(hl:l.length<=8)(hPl:P.length<=14) :
 RetF (x2pq l P ph wt) (x2i6 (d+14) [] x7i [.agg [s,p,f,g]] mem0):=by
 have hR:=hT.r
 have hM:=phM hT.hp
 have fin:∀(e:Int) (m:Mem),e≠0->nofE l P ph=e->RetF (x2pq l P ph wt) (some (.tup [.agg [I 0,nilS],I e],m)):=fun e m h0 he=>
  RetF.mk (x2qv rfl) ⟨nilS,by unfold nofN;rw[he];simp[h0],Or.inl ⟨rfl,by unfold nofL;rw[he];simp[h0]⟩⟩
 rw[x1f6]
 unfold xia xlh
 simp[mem0,hs.one,hp.one,hf.one,hg.one,z_graph,x2n7]
 rw[show x2ih [nilS,nilS] [(0,2,AV.agg [s,p])]=some (.agg [s,p]) by simp[x2ih,x2j3]]
 generalize hm1:Mem.new _ _ _=m1
 have g1:m1.get (0,0,1)=some (.row [s,p,f,g] 0 false):=by rw[<-hm1];simp
 have g2:m1.get (0,1,2)=some (.row [I 0,nilS] 0 false):=by rw[<-hm1];simp
 obtain⟨ms,hms,hmc⟩:=w_misses d hs hp hf hR hl hPl hT.lp hM (by omega) m1
 have hml:=x2lo l P ph
 have hcf:=fun m=>x2qk (d+11) hms (by omega) (tells_md (d+10)) rfl m
 simp[g1,hmc,hcf]
 cases c1:(x2ie l P ph).any x2lc with
 |true=>
  simp[g2,x2ih,x2j3,sLdP]
  exact fin 27 _ (by omega) (by unfold nofE;rw[c1];rfl)
 |false=>
  simp[g1,hs.len x2jk]
  rw[show x2ih [I 0,nilS] [(0,1,I (l.length:Int))]=some (.agg [I l.length,nilS]) by simp[x2ih,x2j3]]
  simp
  generalize hm2:Mem.set _ _ _=m2
  have q1:m2.get (0,0,1)=some (.row [s,p,f,g] 0 false):=by rw[<-hm2];simp[g1]
  have q2:m2.get (0,1,2)=some (.row [I 0,nilS] 0 false):=by rw[<-hm2];simp[g2]
  have q5:m2.get (0,17,5)=some (.row [I l.length,nilS] 0 false):=by rw[<-hm2];simp
  unfold xfl
  simp[q1,hp.len x2jn]
  refine x2j1 (N:=P.length) (σ:=Unit) (fun n k _ m fc=>x5f (x2i6 (d+13)) [] 0 n (.ptr (0,0,1) 0 0) (.ptr (0,1,2) 0 0) ms (.ptr (0,17,5) 0 0) p (I P.length) (I k) m fc)
   (fun k _ m=>(m.get (0,0,1)=some (.row [s,p,f,g] 0 false)/\m.get (0,1,2)=some (.row [I 0,nilS] 0 false))/\(∃o,m.get (0,17,5)=some (.row [I l.length,o] 0 false)/\Gk 4 Edge.c (okU7 0 55) m o ((netL l P ph wt).take k))/\(x2ie l P ph).any x2kt=((x2ie l P ph).drop k).any x2kt) _ ?_ ?_ NN 0 () m2 _ (by omega) (by rw[x2in];omega) ⟨⟨q1,q2⟩,⟨nilS,q5,by simpa using Gk.nil⟩,by simp⟩
  .rintro n k-m fc hk ⟨⟨q1,q2⟩,⟨o,q5,hG⟩,hA⟩ next
   have hk':(k:Int)<(P.length:Int):=by omega
   have ip:=hp.ix Pq.len hk
   have lp:=fun m=>x2jr (m:=m) (enc:=Pq.c) Pq.len (by omega) hk
   have ixm:=hms.ix x2im (show k<(x2ie l P ph).length by omega)
   have ldm:=fun m=>x2j0 (m:=m) (show k<(x2ie l P ph).length by omega)
   have ixg:=hg.ix x2im (show k<wt.length by rw[hT.lw];omega)
   have ldg:=fun m=>x2j0 (m:=m) (show k<wt.length by rw[hT.lw];omega)
   have hmi:=miss_in hR hT.lp hM hk
   have htd:=tdiv_in hmi
   rw[x2j9 (show k<(x2ie l P ph).length by omega),List.any_cons,<-x2io]at hA
   have hsn:=x2xf (l:=l) (ph:=ph) (wt:=wt) hk
   have hek:x2lp l P ph wt k=⟨P[k].a,P[k].b,(at0 (x2ie l P ph) k).tdiv 4096,at0 wt k⟩:=by unfold x2lp;rw[x2m3 hk]
   rw[hek]at hsn
   have hnl:((netL l P ph wt).take k).length<=14:=by simp[x2n6];omega
   generalize P[k]=q at *
   simp only[Pq.c]at lp
   simp only[x5f]
   unfold xfk
   simp[hk,ip,lp,x2l9]
   generalize hm3:Mem.set _ _ _=m3
   have r1:m3.get (0,0,1)=some (.row [s,p,f,g] 0 false):=by rw[<-hm3];simp[q1]
   have r2:m3.get (0,1,2)=some (.row [I 0,nilS] 0 false):=by rw[<-hm3];simp[q2]
   have r5:m3.get (0,17,5)=some (.row [I l.length,o] 0 false):=by rw[<-hm3];simp[q5]
   have r7:m3.get (0,fc+4,7)=some (.row [I q.a,I q.b] 0 false):=by rw[<-hm3];simp
   have hG3:Gk 4 Edge.c (okU7 0 55) m3 o ((netL l P ph wt).take k):=hG.frame fun j hj=>by
    rw[<-hm3,Mem.get_set,if_neg (by rintro rfl;exact absurd hj.2 (by simp)),Mem.get_new,if_neg (by rintro rfl;exact absurd hj.2 (by simp))]
   have hw1:w64 ((at0 (x2ie l P ph) k).tdiv 4096)=(at0 (x2ie l P ph) k).tdiv 4096:=x2ic (by omega) (by omega)
   simp only[ixm,ldm,x2ig,sQuo_I (show(4096:Int)≠0 by omega),hw1]
   simp[x2rk]
   cases c2:wi ((at0 (x2ie l P ph) k).tdiv 4096) (-1000) 1000 with
   |false=>
    rw[show x2kt (at0 (x2ie l P ph) k)=true by unfold x2kt;rw[c2];rfl,Bool.true_or]at hA
    simp[r2,x2ih,x2j3,sLdP,x2n7]
    exact fin 8 _ (by omega) (by unfold nofE;rw[c1,hA];rfl)
   |true=>
    rw[show x2kt (at0 (x2ie l P ph) k)=false by unfold x2kt;rw[c2];rfl,Bool.false_or]at hA
    obtain⟨o2,m4,a1,a2,a3,a4,a5,a6⟩:=hG3.app (bytes:=32) (id0:=(0,fc+30,55)) Edge.len (by omega) ⟨rfl,rfl⟩ (by unfold x2ik;omega) ⟨q.a,q.b,(at0 (x2ie l P ph) k).tdiv 4096,at0 wt k⟩
    simp[r1,r5,r7,ixg,ldg,z_edge7,x2xh,x2xg]
    rw[show ∀a b c e:Int,elems m3.get 4 (.slit [I a,I b,I c,I e] 1 true)=some (Edge.c ⟨a,b,c,e⟩,1)from fun _ _ _ _=>rfl,a1]
    have s5:m4.get (0,17,5)=some (.row [I l.length,o] 0 false):=by rw[a6 _ (by unfold okU7;simp)];exact r5
    have s1:m4.get (0,0,1)=some (.row [s,p,f,g] 0 false):=by rw[a6 _ (by unfold okU7;simp)];exact r1
    have s2:m4.get (0,1,2)=some (.row [I 0,nilS] 0 false):=by rw[a6 _ (by unfold okU7;simp)];exact r2
    simp[s5,a3,a4,tR,x2i9,disj]
    rw[x2ic (by omega) (by omega)]
    refine next () _ _ ⟨⟨by simp[s1],by simp[s2]⟩,⟨o2,by simp[x2iy],?_⟩,hA⟩
    rw[hsn]
    exact a2.frame fun j hj=>by rw[Mem.get_set,if_neg (by rintro rfl;exact absurd hj.2 (by simp))]
  .rintro n-m fc ⟨⟨q1,q2⟩,⟨o,q5,hG⟩,hA⟩
   rw[List.take_of_length_le (by rw[x2n6];exact Nat.le_refl _)]at hG
   rw[List.drop_of_length_le (by omega)]at hA
   have hE:nofE l P ph=0:=by unfold nofE;rw[c1,hA];rfl
   have ho:=hG.one
   simp only[x5f]
   unfold xfk x5e
   simp[q5,q2,ho.1,ho.2,sLdP]
   generalize hm3:Mem.set _ _ _=m3
   have hG3:Gk 4 Edge.c (okU7 0 55) m3 o (netL l P ph wt):=hG.frame fun j hj=>by rw[<-hm3,Mem.get_set,if_neg (by rintro rfl;exact absurd hj.2 (by simp))]
   obtain⟨o',ho',hfo⟩:=hG3.frz Edge.len (fun _=>rfl) (k:=2)
   exact RetF.mk (x2qv hfo) ⟨o',by unfold nofN;rw[hE];rfl,by unfold nofL;rw[hE];exact ho'⟩
theorem a_NetOf7(d:Nat){s p f g:AV}{l:List Scene}{P:List Pq}{ph wt:List Int}(hs:Sl Scene.c s l)(hp:Sl Pq.c p P)(hf:Ints f ph)(hg:Ints g wt)(hT:TaskOK l P ph wt)(hE:taskE l P ph wt=0)(hl:l.length<=8)(hPl:P.length<=14) :
 RetF (x2pq l P ph wt) (x2i6 (d+15) [] x1z [.agg [s,p,f,g]] mem0):=by
 rw[xs9]
 unfold xbx xet
 have hn:=fun m=>x2k6 (T:=x2pq l P ph wt) (by simp[hs.still1,hp.still1,hf.still1,hg.still1]) (a_netOf d hs hp hf hg hT hl hPl) m
 simp[mem0,hs.one,hp.one,hf.one,hg.one,x2n7]
 generalize hm1:Mem.new _ _ _=m1
 have g1:m1.get (0,0,1)=some (.row [s,p,f,g] 0 false):=by rw[<-hm1];simp
 have g2:m1.get (0,1,2)=some (.row [I 0,nilS] 0 false):=by rw[<-hm1];simp
 have hct:=x2u0 (d+6) hs hp hf hg (by rw[hT.lp];have:=hT.r.pl;omega) (by rw[hT.lw];have:=hT.r.pl;omega) m1
 obtain⟨v,⟨e,rfl,he⟩,hc⟩:=hn m1
 simp[g1,hct,hE,hc,g2,he.one,sLdP]
 exact RetF.tup (by simp[he.still1]) ⟨e,rfl,he⟩
theorem a_NetOf7e(d:Nat){s p f g:AV}{l:List Scene}{P:List Pq}{ph wt:List Int}(hs:Sl Scene.c s l)(hp:Sl Pq.c p P)(hf:Ints f ph)(hg:Ints g wt)(h1:ph.length<1000000)(h2:wt.length<1000000)(hE:taskE l P ph wt≠0) :
 RetF (fun v=>v=.tup [.agg [I 0,nilS],I (taskE l P ph wt)]) (x2i6 (d+9) [] x1z [.agg [s,p,f,g]] mem0):=by
 rw[xs9]
 unfold xbx xet
 simp[mem0,hs.one,hp.one,hf.one,hg.one,x2n7]
 generalize hm1:Mem.new _ _ _=m1
 have g1:m1.get (0,0,1)=some (.row [s,p,f,g] 0 false):=by rw[<-hm1];simp
 have g2:m1.get (0,1,2)=some (.row [I 0,nilS] 0 false):=by rw[<-hm1];simp
 have hct:=x2u0 d hs hp hf hg h1 h2 m1
 simp[g1,hct,hE,g2,x2ih,x2j3,sLdP]
 exact RetF.mk (x2qv rfl) rfl
noncomputable def nfE(l:List Scene)(P:List Pq)(ph wt:List Int):Int:=bif !decide (taskE l P ph wt=0)then taskE l P ph wt else nofE l P ph
noncomputable def nfN(l:List Scene)(P:List Pq)(ph wt:List Int):Int:=bif !decide (taskE l P ph wt=0)then 0 else nofN l P ph wt
noncomputable def nfL(l:List Scene)(P:List Pq)(ph wt:List Int):List Edge:=bif !decide (taskE l P ph wt=0)then[]else nofL l P ph wt
theorem w_NetOf7(d:Nat){s p f g:AV}{l:List Scene}{P:List Pq}{ph wt:List Int}(hs:Sl Scene.c s l)(hp:Sl Pq.c p P)(hf:Ints f ph)(hg:Ints g wt)(h1:ph.length<1000000)(h2:wt.length<1000000)(hfw:few7 l P=true)(m:Mem) :
 ∃e,Sl Edge.c e (nfL l P ph wt)/\x2i8 (x2i6 (d+15)) x1z [.agg [s,p,f,g]] m=some (.tup [.agg [I (nfN l P ph wt),e],I (nfE l P ph wt)],m):=by
 by_cases hE:taskE l P ph wt=0
 .have hT:=x2s3 hE
  obtain⟨hl,hPl⟩:=len_few hfw hT.r
  obtain⟨v,⟨e,rfl,he⟩,hc⟩:=x2k6 (by simp[hs.still1,hp.still1,hf.still1,hg.still1]) (a_NetOf7 d hs hp hf hg hT hE hl hPl) m
  exact⟨e,by unfold nfL;simp[hE];exact he,by rw[hc];unfold nfN nfE;simp[hE]⟩
 .refine⟨nilS,by unfold nfL;simp[hE];exact Or.inl ⟨rfl,rfl⟩,?_⟩
  have:=x2ju (by simp[hs.still1,hp.still1,hf.still1,hg.still1]) (a_NetOf7e (d+6) hs hp hf hg h1 h2 hE) m
  rw[show d+6+9=d+15 by omega]at this
  rw[this]
  unfold nfN nfE
  simp[hE]
theorem a_rNetOf7(d:Nat){s p f g:AV}{l:List Scene}{P:List Pq}{ph wt:List Int}(hs:Sl Scene.c s l)(hp:Sl Pq.c p P)(hf:Ints f ph)(hg:Ints g wt)(hT:TaskOK l P ph wt) :
 RetF (x2pq l P ph wt) (x2i6 (d+6) [] x5x [.agg [s,p,f,g]] mem0):=by
 have hR:=hT.r
 have hpl:=hR.pl
 have hM:=phM hT.hp
 have fin:∀(e:Int) (m:Mem),e≠0->nofE l P ph=e->RetF (x2pq l P ph wt) (some (.tup [.agg [I 0,nilS],I e],m)):=fun e m h0 he=>
  RetF.mk (x2qv rfl) ⟨nilS,by unfold nofN;rw[he];simp[h0],Or.inl ⟨rfl,by unfold nofL;rw[he];simp[h0]⟩⟩
 rw[x1dv]
 unfold xh1 xjr
 simp[mem0,hs.one,hp.one,hf.one,hg.one,x2n7,hs.len x2jk]
 rw[show x2ih [I 0,nilS] [(0,1,I (l.length:Int))]=some (.agg [I l.length,nilS]) by simp[x2ih,x2j3]]
 simp
 generalize hm1:Mem.set _ _ _=m1
 have g1:m1.get (0,0,1)=some (.row [s,p,f,g] 0 false):=by rw[<-hm1];simp
 have g2:m1.get (0,1,2)=some (.row [I 0,nilS] 0 false):=by rw[<-hm1];simp
 have g4:m1.get (0,8,4)=some (.row [I l.length,nilS] 0 false):=by rw[<-hm1];simp
 obtain⟨ms,hms,hmc⟩:=x2xd d hs hp hf ⟨hg.one,hg.still1,hg.clean1⟩ hR hT.lp hM (by omega) m1
 have hml:=x2lo l P ph
 simp[g1,hmc]
 unfold xdb
 refine x2j1 (N:=P.length) (σ:=Unit) (fun n k _ m fc=>x48 (x2i6 (d+5)) [] 0 n (.ptr (0,0,1) 0 0) (.ptr (0,1,2) 0 0) (.ptr (0,8,4) 0 0) ms (I k) m fc)
  (fun k _ m=>m=m1/\(x2ie l P ph).any x2lc=((x2ie l P ph).drop k).any x2lc) _ ?_ ?_ NN 0 () m1 _ (by omega) (by rw[x2in];omega) ⟨rfl,by simp⟩
 .rintro n k-m fc hk ⟨rfl,hA⟩ next
  have hk':(k:Int)<((x2ie l P ph).length:Int):=by omega
  have ixm:=hms.ix x2im (show k<(x2ie l P ph).length by omega)
  have ldm:=fun m=>x2j0 (m:=m) (show k<(x2ie l P ph).length by omega)
  have hmd:=fun m=>w_Mod (d+4) (x:=at0 (x2ie l P ph) k) (y:=4096) (by omega) (by omega) m
  rw[x2j9 (show k<(x2ie l P ph).length by omega),List.any_cons,<-x2io]at hA
  simp only[x48]
  unfold xda
  simp only[hms.len x2il,x2iv,hk',decide_true,x2iw,x2ig,ixm,ldm,hmd,sNe_I]
  by_cases c:at0 (x2ie l P ph) k % 4096=0
  .rw[show x2lc (at0 (x2ie l P ph) k)=false by unfold x2lc;rw[decide_eq_true c];rfl,Bool.false_or]at hA
   simp only[c,decide_true,Bool.not_true,x2ky]
   simp(disch:=omega) [x2ic]
   exact next () m _ ⟨rfl,hA⟩
  .rw[show x2lc (at0 (x2ie l P ph) k)=true by unfold x2lc;rw[decide_eq_false c];rfl,Bool.true_or]at hA
   simp only[c,decide_false,Bool.not_false,x2iw]
   simp[g2,x2ih,x2j3,sLdP,x2n7]
   exact fin 27 _ (by omega) (by unfold nofE;rw[hA];rfl)
 .rintro n-m fc ⟨rfl,hA⟩
  rw[List.drop_of_length_le (by omega)]at hA
  have c1:(x2ie l P ph).any x2lc=false:=hA
  have hkn:¬((P.length:Int)<((x2ie l P ph).length:Int)):=by omega
  simp only[x48]
  unfold xda x33
  simp only[hms.len x2il,x2iv,hkn,decide_false,x2ky,x2ig]
  refine x2j1 (N:=P.length) (σ:=Unit) (fun n k _ m fc=>x47 (x2i6 (d+5)) [] 0 n (.ptr (0,0,1) 0 0) (.ptr (0,1,2) 0 0) (.ptr (0,8,4) 0 0) ms (I k) m fc)
   (fun k _ m=>(m.get (0,0,1)=some (.row [s,p,f,g] 0 false)/\m.get (0,1,2)=some (.row [I 0,nilS] 0 false))/\(∃o,m.get (0,8,4)=some (.row [I l.length,o] 0 false)/\Gk 4 Edge.c (okU7 0 67) m o ((netL l P ph wt).take k))/\(x2ie l P ph).any x2kt=((x2ie l P ph).drop k).any x2kt) _ ?_ ?_ NN 0 () m _ (by omega) (by rw[x2in];omega) ⟨⟨g1,g2⟩,⟨nilS,g4,by simpa using Gk.nil⟩,by simp⟩
  .rintro n k-m fc hk ⟨⟨q1,q2⟩,⟨o,q5,hG⟩,hA⟩ next
   have hk':(k:Int)<((x2ie l P ph).length:Int):=by omega
   have ip:=hp.ix Pq.len hk
   have lp:=fun m=>x2jr (m:=m) (enc:=Pq.c) Pq.len (by omega) hk
   have ixm:=hms.ix x2im (show k<(x2ie l P ph).length by omega)
   have ldm:=fun m=>x2j0 (m:=m) (show k<(x2ie l P ph).length by omega)
   have ixg:=hg.ix x2im (show k<wt.length by rw[hT.lw];omega)
   have ldg:=fun m=>x2j0 (m:=m) (show k<wt.length by rw[hT.lw];omega)
   have hmi:=miss_in hR hT.lp hM hk
   have htd:=tdiv_in hmi
   rw[x2j9 (show k<(x2ie l P ph).length by omega),List.any_cons,<-x2io]at hA
   have hsn:=x2xf (l:=l) (ph:=ph) (wt:=wt) hk
   have hek:x2lp l P ph wt k=⟨P[k].a,P[k].b,(at0 (x2ie l P ph) k).tdiv 4096,at0 wt k⟩:=by unfold x2lp;rw[x2m3 hk]
   rw[hek]at hsn
   have hnl:((netL l P ph wt).take k).length<=200:=by simp[x2n6];omega
   generalize P[k]=q at *
   simp only[Pq.c]at lp
   have hw1:w64 ((at0 (x2ie l P ph) k).tdiv 4096)=(at0 (x2ie l P ph) k).tdiv 4096:=x2ic (by omega) (by omega)
   simp only[x47]
   unfold xd9
   simp only[hms.len x2il,x2iv,hk',decide_true,x2iw,x2ig,ixm,ldm,sQuo_I (show(4096:Int)≠0 by omega),hw1]
   simp[x2mf]
   cases c2:wi ((at0 (x2ie l P ph) k).tdiv 4096) (-1000) 1000 with
   |false=>
    rw[show x2kt (at0 (x2ie l P ph) k)=true by unfold x2kt;rw[c2];rfl,Bool.true_or]at hA
    simp[q2,x2ih,x2j3,sLdP,x2n7]
    exact fin 8 _ (by omega) (by unfold nofE;rw[c1,hA];rfl)
   |true=>
    rw[show x2kt (at0 (x2ie l P ph) k)=false by unfold x2kt;rw[c2];rfl,Bool.false_or]at hA
    simp[q1,ip,lp,x2l9]
    generalize hm3:Mem.set _ _ _=m3
    have r1:m3.get (0,0,1)=some (.row [s,p,f,g] 0 false):=by rw[<-hm3];simp[q1]
    have r2:m3.get (0,1,2)=some (.row [I 0,nilS] 0 false):=by rw[<-hm3];simp[q2]
    have r5:m3.get (0,8,4)=some (.row [I l.length,o] 0 false):=by rw[<-hm3];simp[q5]
    have r7:m3.get (0,fc+4+13,8)=some (.row [I q.a,I q.b] 0 false):=by rw[<-hm3];simp
    have hG3:Gk 4 Edge.c (okU7 0 67) m3 o ((netL l P ph wt).take k):=hG.frame fun j hj=>by
     rw[<-hm3,Mem.get_set,if_neg (by rintro rfl;exact absurd hj.2 (by simp)),Mem.get_new,if_neg (by rintro rfl;exact absurd hj.2 (by simp))]
    obtain⟨o2,m4,a1,a2,a3,a4,a5,a6⟩:=hG3.app (bytes:=32) (id0:=(0,fc+37,67)) Edge.len (by omega) ⟨rfl,rfl⟩ (by unfold x2ik;omega) ⟨q.a,q.b,(at0 (x2ie l P ph) k).tdiv 4096,at0 wt k⟩
    simp[r1,r5,r7,ixm,ldm,sQuo_I (show(4096:Int)≠0 by omega),hw1,ixg,ldg,z_edge7,x2xh,x2xg,q5]
    rw[show ∀a b c e:Int,elems m3.get 4 (.slit [I a,I b,I c,I e] 1 true)=some (Edge.c ⟨a,b,c,e⟩,1)from fun _ _ _ _=>rfl,a1]
    have s5:m4.get (0,8,4)=some (.row [I l.length,o] 0 false):=by rw[a6 _ (by unfold okU7;simp)];exact r5
    have s1:m4.get (0,0,1)=some (.row [s,p,f,g] 0 false):=by rw[a6 _ (by unfold okU7;simp)];exact r1
    have s2:m4.get (0,1,2)=some (.row [I 0,nilS] 0 false):=by rw[a6 _ (by unfold okU7;simp)];exact r2
    simp[s5,a3,a4,tR,x2i9,disj]
    rw[x2ic (by omega) (by omega)]
    refine next () _ _ ⟨⟨by simp[s1],by simp[s2]⟩,⟨o2,by simp[x2iy],?_⟩,hA⟩
    rw[hsn]
    exact a2.frame fun j hj=>by rw[Mem.get_set,if_neg (by rintro rfl;exact absurd hj.2 (by simp))]
  .rintro n-m fc ⟨⟨q1,q2⟩,⟨o,q5,hG⟩,hA⟩
   rw[List.take_of_length_le (by rw[x2n6];exact Nat.le_refl _)]at hG
   rw[List.drop_of_length_le (by omega)]at hA
   have hE:nofE l P ph=0:=by unfold nofE;rw[c1,hA];rfl
   have ho:=hG.one
   simp only[x47]
   unfold xd9 x46
   simp[hms.len x2il,hml,q5,q2,ho.1,ho.2,sLdP]
   generalize hm3:Mem.set _ _ _=m3
   have hG3:Gk 4 Edge.c (okU7 0 67) m3 o (netL l P ph wt):=hG.frame fun j hj=>by rw[<-hm3,Mem.get_set,if_neg (by rintro rfl;exact absurd hj.2 (by simp))]
   obtain⟨o',ho',hfo⟩:=hG3.frz Edge.len (fun _=>rfl) (k:=2)
   exact RetF.mk (x2qv hfo) ⟨o',by unfold nofN;rw[hE];rfl,by unfold nofL;rw[hE];exact ho'⟩
theorem x304(d:Nat){s p f g t:AV}{l:List Scene}{P:List Pq}{ph wt tu:List Int}(hs:Sl Scene.c s l)(hp:Sl Pq.c p P)(hf:Ints f ph)(hg:Ints g wt)(ht:Ints t tu)(hT:TaskOK l P ph wt)(h3:tu.length<1000000) :
 RetF (fun v=>v=.tup [I (ccN l P ph wt tu),I (ccE l P ph wt tu)]) (x2i6 (d+6) [] x5y [.agg [s,p,f,g],t] mem0):=by
 have hR:=hT.r
 have hpl:=hR.pl
 have hll:=hR.ll
 have fin:∀(e:Int) (m:Mem),e≠0->ccE l P ph wt tu=e->RetF (fun v=>v=.tup [I (ccN l P ph wt tu),I (ccE l P ph wt tu)]) (some (.tup [I 0,I e],m)):=fun e m h0 he=>
  RetF.tup rfl (by unfold ccN;rw[he];simp[h0])
 rw[x1dz]
 unfold xh4 xk0
 generalize hm1:(⟨[],1⟩:Mem).new (0,0,2) (.row [s,p,f,g] 0 false)=m1
 have g2:m1.get (0,0,2)=some (.row [s,p,f,g] 0 false):=by rw[<-hm1];simp
 simp[mem0,hs.one,hp.one,hf.one,hg.one,hm1,g2,ht.len x2il,hf.len x2il]
 by_cases c1:tu.length=P.length
 rotate_left
 .have c1':¬(tu.length:Int)=(ph.length:Int):=by rw[hT.lp];omega
  simp[c1']
  exact fin 10 _ (by omega) (by unfold ccE;simp[c1])
 have c1':tu.length=ph.length:=by rw[c1,hT.lp]
 simp[c1']
 unfold xdm
 refine x2j1 (N:=tu.length) (σ:=Unit) (fun n k _ m fc=>x4g (x2i6 (d+5)) [] 0 n t (.ptr (0,0,2) 0 0) (I k) m fc)
  (fun k _ m=>m=m1/\tu.any x2ks=(tu.drop k).any x2ks) _ ?_ ?_ NN 0 () m1 _ (by omega) (by rw[x2in];omega) ⟨rfl,by simp⟩
 .rintro n k-m fc hk ⟨rfl,hA⟩ next
  have hk':(k:Int)<(tu.length:Int):=by omega
  have ix:=ht.ix x2im hk
  have ld:=fun m=>x2j0 (m:=m) hk
  rw[x2j9 hk,List.any_cons,<-x2io hk]at hA
  simp only[x4g]
  unfold xdl
  simp only[ht.len x2il,x2iv,hk',decide_true,x2iw,x2ig,ix,ld,x2mf]
  cases c:wi (at0 tu k) (-1000000) 1000000 with
  |false=>
   rw[show x2ks (at0 tu k)=true by unfold x2ks;rw[c];rfl,Bool.true_or]at hA
   simp
   exact fin 2 _ (by omega) (by unfold ccE;rw[hA];simp[c1])
  |true=>
   rw[show x2ks (at0 tu k)=false by unfold x2ks;rw[c];rfl,Bool.false_or]at hA
   simp(disch:=omega) [x2ic]
   exact next () m _ ⟨rfl,hA⟩
 .rintro n-m fc ⟨rfl,hA⟩
  rw[List.drop_of_length_le (Nat.le_refl _)]at hA
  have c2:tu.any x2ks=false:=hA
  have htu:=x2qu (q:=x2ks) (fun _=>rfl) c2
  have hcl:(corL ph tu).length=P.length:=by rw[x2l0,hT.lp]
  have hkn:¬((tu.length:Int)<(tu.length:Int)):=by omega
  obtain⟨s2,p2,f2,g2',hs2,hp2,hf2,hg2,hcor⟩:=x303 (d+2) hs hp hf hg ht (by omega) (by omega) (by rw[hT.lp];omega) (by rw[hT.lw];omega) c1' hT.hp htu m
  obtain⟨ms,hms,hmc⟩:=x2xd d hs2 hp2 hf2 ⟨hg2.one,hg2.still1,hg2.clean1⟩ hR hcl (corM7 hT.hp htu c1') (by omega) m
  have hml:=x2lo l P (corL ph tu)
  simp only[x4g]
  unfold xdl x4f
  simp only[ht.len x2il,x2iv,hkn,decide_false,x2ky,x2ig]
  simp[g2,hcor,hmc]
  unfold xdk
  refine x2j1 (N:=P.length) (σ:=Unit) (fun n k _ m fc=>x4e (x2i6 (d+5)) [] 0 n t (.ptr (0,0,2) 0 0) ms (I (x2jv wt tu k)) (I k) m fc)
   (fun k _ m'=>m'=m/\(x2ie l P (corL ph tu)).any (fun n=>!decide (n=0))=((x2ie l P (corL ph tu)).drop k).any (fun n=>!decide (n=0))) _ ?_ ?_ NN 0 () m _ (by omega) (by rw[x2in];omega) ⟨rfl,by simp⟩
  .rintro n k-m' fc hk ⟨rfl,hA⟩ next
   have hk':(k:Int)<((x2ie l P (corL ph tu)).length:Int):=by omega
   have hkm:k<(x2ie l P (corL ph tu)).length:=by omega
   have ixm:=hms.ix x2im hkm
   have ldm:=fun m=>x2j0 (m:=m) hkm
   have ixg:=hg.ix x2im (show k<wt.length by rw[hT.lw];omega)
   have ldg:=fun m=>x2j0 (m:=m) (show k<wt.length by rw[hT.lw];omega)
   have ixt:=ht.ix x2im (show k<tu.length by omega)
   have ldt:=fun m=>x2j0 (m:=m) (show k<tu.length by omega)
   have htk:=htu k (by omega)
   have hwk:=hT.hw k (by rw[hT.lw];omega)
   have hci:=x2u5 hT.hw htu k (by rw[hT.lw];omega) (by omega)
   have hkb:(k:Int)*1000000000<=200*1000000000:=by omega
   have hc0:0<=at0 wt k*((at0 tu k).natAbs:Int):=Int.mul_nonneg hwk.1 (by omega)
   have hc1:at0 wt k*((at0 tu k).natAbs:Int)<=1000*1000000:=Int.mul_le_mul hwk.2 (by omega) (by omega) (by omega)
   have hsz:=fun m=>w_Size (d+4) (at0 tu k) m (by omega) (by omega)
   have hw3:w64 (at0 wt k*((at0 tu k).natAbs:Int))=at0 wt k*((at0 tu k).natAbs:Int):=x2ic (by omega) (by omega)
   have hw4:w64 (x2jv wt tu k+at0 wt k*((at0 tu k).natAbs:Int))=x2jv wt tu k+at0 wt k*((at0 tu k).natAbs:Int):=x2ic (by omega) (by omega)
   have hw5:w64 ((k:Int)+1)=(k:Int)+1:=x2ic (by omega) (by omega)
   rw[x2j9 hkm,List.any_cons,<-x2io]at hA
   simp only[x4e]
   unfold xdj
   simp only[hms.len x2il,x2iv,hk',decide_true,x2iw,x2ig,ixm,ldm,sNe_I]
   by_cases c:at0 (x2ie l P (corL ph tu)) k=0
   .rw[c]at hA
    simp only[decide_true,Bool.not_true,Bool.false_or]at hA
    simp only[c,decide_true,Bool.not_true,x2ky,x2m0,x2jm,g2,x2kd,Nat.beq_refl,x2jf,Nat.zero_add,List.drop_succ_cons,List.drop_zero,rd_f,x2ig,ixg,ldg,ixt,ldt,hsz,x2rg,hw3,x2qe,hw4,hw5]
    simp[cAp,tR]
    have:=next () m' (fc+26) ⟨rfl,hA⟩
    rw[x2jv]at this
    exact this
   .rw[decide_eq_false c,Bool.not_false,Bool.true_or]at hA
    simp only[c,decide_false,Bool.not_false,x2iw]
    exact fin 26 _ (by omega) (by unfold ccE;rw[c2,hA];simp[c1])
  .rintro n-m' fc ⟨rfl,hA⟩
   rw[List.drop_of_length_le (by omega)]at hA
   have hkn:¬((P.length:Int)<((x2ie l P (corL ph tu)).length:Int)):=by omega
   have hc:ccE l P ph wt tu=0:=by unfold ccE;rw[c2,hA];simp[c1]
   simp only[x4e]
   unfold xdj x4d
   simp only[hms.len x2il,x2iv,hkn,decide_false,x2ky,x2ig]
   exact RetF.tup rfl (by unfold ccN;rw[hc];rfl)
theorem x305(d:Nat){s p f g t:AV}{l:List Scene}{P:List Pq}{ph wt tu:List Int}(hs:Sl Scene.c s l)(hp:Sl Pq.c p P)(hf:Ints f ph)(hg:Ints g wt)(ht:Ints t tu)(hT:TaskOK l P ph wt)(h3:tu.length<1000000)(m:Mem) :
 x2i8 (x2i6 (d+6)) x5y [.agg [s,p,f,g],t] m=some (.tup [I (ccN l P ph wt tu),I (ccE l P ph wt tu)],m):=
 x2ju (by simp[hs.still1,hp.still1,hf.still1,hg.still1,ht.still]) (x304 d hs hp hf hg ht hT h3) m
theorem w_rNetOf7(d:Nat){s p f g:AV}{l:List Scene}{P:List Pq}{ph wt:List Int}(hs:Sl Scene.c s l)(hp:Sl Pq.c p P)(hf:Ints f ph)(hg:Ints g wt)(hT:TaskOK l P ph wt)(m:Mem) :
 ∃e,Sl Edge.c e (nofL l P ph wt)/\x2i8 (x2i6 (d+6)) x5x [.agg [s,p,f,g]] m=some (.tup [.agg [I (nofN l P ph wt),e],I (nofE l P ph)],m):=by
 obtain⟨v,⟨e,rfl,he⟩,hc⟩:=x2k6 (by simp[hs.still1,hp.still1,hf.still1,hg.still1]) (a_rNetOf7 d hs hp hf hg hT) m
 exact⟨e,he,hc⟩
theorem jump_eq{l:List Scene}{P:List Pq}{ph:List Int}(hE:nofE l P ph=0){k:Nat}(hk:k<P.length):4096*(at0 (x2ie l P ph) k).tdiv 4096=at0 (x2ie l P ph) k/\-1000<=(at0 (x2ie l P ph) k).tdiv 4096/\(at0 (x2ie l P ph) k).tdiv 4096<=1000:=by
 unfold nofE at hE
 cases c1:(x2ie l P ph).any x2lc with
 |true=>rw[c1]at hE;simp at hE
 |false=>
  cases c2:(x2ie l P ph).any x2kt with
  |true=>rw[c1,c2]at hE;simp at hE
  |false=>
   have hkm:k<(x2ie l P ph).length:=by rw[x2lo];exact hk
   rw[List.any_eq_false]at c1 c2
   have a:=c1 _ (List.getElem_mem hkm)
   have b:=c2 _ (List.getElem_mem hkm)
   rw[<-x2io hkm]at a b
   unfold x2lc at a
   unfold x2kt at b
   have b2:=wi_t (a:=(at0 (x2ie l P ph) k).tdiv 4096) (b:=-1000) (c:=1000) (by simpa using b)
   have a2:at0 (x2ie l P ph) k % 4096=0:=by simpa using a
   exact⟨Int.mul_tdiv_cancel' (Int.dvd_of_emod_eq_zero a2),b2.1,b2.2⟩
theorem net_mem{l:List Scene}{P:List Pq}{ph wt:List Int}(hT:TaskOK l P ph wt)(hE:nofE l P ph=0):∀e∈netL l P ph wt,EdgeIn l.length e/\e.fr<e.to:=by
 intro e he
 unfold netL at he
 obtain⟨k,hk,rfl⟩:=List.mem_map.mp he
 have hk':=List.mem_range.mp hk
 obtain⟨-,j1,j2⟩:=jump_eq hE hk'
 obtain⟨q0,q1,q2⟩:=hT.r.pr P[k] (List.getElem_mem hk')
 have hw:=hT.hw k (by rw[hT.lw];exact hk')
 unfold x2lp
 rw[x2m3 hk']
 refine⟨⟨?_,?_,?_,?_,?_,?_,?_,?_⟩,?_⟩<;>simp only<;>omega
theorem x2xi{n:Int}:∀{l:List Edge} (i:Int),(∀e∈l,EdgeIn n.toNat e/\e.fr<e.to)->0<=n->x2ko n i l=(0,0)
 |[],_,_,_=>rfl
 |e::r,i,h,h0=>by
  obtain⟨⟨a0,a1,b0,b1,c0,c1,d0,d1⟩,hlt⟩:=h e (List.mem_cons_self ..)
  have w1:wi e.fr 0 (n-1)=true:=by unfold wi;rw[decide_eq_true_iff];omega
  have w2:wi e.to 0 (n-1)=true:=by unfold wi;rw[decide_eq_true_iff];omega
  have w3:wi e.jump (-1000) 1000=true:=by unfold wi;rw[decide_eq_true_iff];omega
  have w4:wi e.wt 0 1000=true:=by unfold wi;rw[decide_eq_true_iff];omega
  have hne:¬e.fr=e.to:=by omega
  rw[x2ko,w1,w2,w3,w4,x2xi (l:=r) (i+1) (fun e he=>h e (List.mem_cons_of_mem _ he)) h0]
  simp[hne]
theorem net_check{l:List Scene}{P:List Pq}{ph wt:List Int}(hT:TaskOK l P ph wt)(hE:nofE l P ph=0):x2ke (l.length:Int) (netL l P ph wt)=(0,0):=by
 have h1:=hT.r.ll
 have h2:=hT.r.pl
 have hl:=x2n6 l P ph wt
 have w1:wi (l.length:Int) 0 200=true:=by unfold wi;rw[decide_eq_true_iff];omega
 have hc:¬(600:Int)<((netL l P ph wt).length:Int):=by omega
 unfold x2ke
 rw[w1,x2xi (n:=(l.length:Int)) 0 (fun e he=>by rw[Int.toNat_natCast];exact net_mem hT hE e he) (by omega)]
 simp[hc]
theorem cor_turns{l:List Scene}{P:List Pq}{ph wt tu:List Int}(hT:TaskOK l P ph wt)(hE:nofE l P ph=0)(hC:ccE l P ph wt tu=0):∃x:Nat->Int,∀k,k<P.length->exF x (x2lp l P ph wt k)=at0 tu k:=by
 obtain⟨k1,k2,k3⟩:=ccE_ok hC
 have hR:=hT.r
 have hF:=x2oe (P:=P) (n:=l.length) hR.pr (fW l P)
 have hp1:=x2qs hR.pr (phI ph) hF
 have hp2:=x2qs hR.pr (phI (corL ph tu)) hF
 have hz:∀k,k<P.length->at0 (x2ie l P (corL ph tu)) k=0:=fun k hk=>by
  apply Classical.byContradiction
  intro hc
  have:(k:Int)∈openM l P (corL ph tu):=List.mem_filter.mpr ⟨fresh_mem.mpr ⟨by omega,by omega⟩,by simpa using hc⟩
  rw[k3]at this
  cases this
 have hstep:∀{w:List Sp} {a b:Int},Wk P w a b->AllF (x2jb (fW l P) l.length P) w->(4096:Int) ∣ (potL l P ph b-potL l P (corL ph tu) b)-(potL l P ph a-potL l P (corL ph tu) a):=by
  intro w
  induction w with
  |nil=>intro a b hw _;cases hw;simp
  |cons x r ih=>
   intro a b hw hwF
   have h1:=ih hw.2 hwF.tail
   have s1:=hp1.st.step hwF.head
   have s2:=hp2.st.step hwF.head
   have hx:=hF.rng x.p hwF.head.1
   have hfa:=hw.1
   have hc:=x2s6 (ph:=ph) (tu:=tu) (k:=x.p.toNat) (by rw[hT.lp];omega)
   rw[show phI ph x.p=at0 ph x.p.toNat from rfl]at s1
   rw[show phI (corL ph tu) x.p=at0 (corL ph tu) x.p.toNat from rfl,hc,Int.mul_sub]at s2
   rw[hfa]at s1 s2
   have e:x.s*(4096*at0 tu x.p.toNat)=4096*(x.s*at0 tu x.p.toNat):=by rw[Int.mul_left_comm]
   rw[e]at s2
   unfold potL at h1 ⊢
   generalize x.s*at0 ph x.p.toNat=A at s1 s2
   generalize x.s*at0 tu x.p.toNat=B at s1 s2
   omega
 have hdiv:∀v:Nat,v<l.length->(4096:Int) ∣ potL l P ph v-potL l P (corL ph tu) v:=fun v hv=>by
  have hL:=(Lab.fresh l.length).joins (x2k4 hR.pr hF.rng)
  obtain⟨l0,l1,l2⟩:=hL.ok v hv
  obtain⟨w,hw,hwF⟩:=x2ru hR.pr hF.rng (v:=(at0 (joinsM (freshM l.length) (prs P (x2jb (fW l P) l.length P))) v).toNat) (w:=v) (by omega) hv (by unfold Sm;exact l2)
  have z1:=hp1.z (at0 (joinsM (freshM l.length) (prs P (x2jb (fW l P) l.length P))) v).toNat (by omega) (by rw[l2];omega)
  have z2:=hp2.z (at0 (joinsM (freshM l.length) (prs P (x2jb (fW l P) l.length P))) v).toNat (by omega) (by rw[l2];omega)
  have:=hstep hw hwF
  unfold potL at this ⊢
  rw[z1,z2]at this
  simpa using this
 refine⟨fun v=>(potL l P ph v-potL l P (corL ph tu) v) / 4096,fun k hk=>?_⟩
 obtain⟨j0,-,-⟩:=jump_eq hE hk
 obtain⟨q0,q1,q2⟩:=hR.pr P[k] (List.getElem_mem hk)
 have h0:=hz k hk
 rw[x2s2 hk,x2s6 (by rw[hT.lp];exact hk)]at h0
 have h1:=x2s2 (l:=l) (ph:=ph) hk
 have da:=hdiv (prAt P k).a.toNat (by rw[x2m3 hk];omega)
 have db:=hdiv (prAt P k).b.toNat (by rw[x2m3 hk];omega)
 rw[Int.toNat_of_nonneg (by rw[x2m3 hk];omega)]at da db
 unfold exF x2lp
 simp only
 rw[Int.toNat_of_nonneg (by rw[x2m3 hk];omega),Int.toNat_of_nonneg (by rw[x2m3 hk];omega)]
 omega
theorem x2xj{l:List Scene}{P:List Pq}{ph wt tu:List Int}{x:Nat->Int}(hx:∀k,k<P.length->exF x (x2lp l P ph wt k)=at0 tu k):∀(j k:Nat),k+j=P.length->x2nu x ((netL l P ph wt).drop k)=x2jv wt tu P.length-x2jv wt tu k
 |0,k,h=>by
  rw[List.drop_of_length_le (by rw[x2n6];omega),show k=P.length by omega]
  simp[x2nu]
 |j+1,k,h=>by
  have hk:k<P.length:=by omega
  have ih:=x2xj hx j (k+1) (by omega)
  have e:(netL l P ph wt)[k]'(by rw[x2n6];exact hk)=x2lp l P ph wt k:=by simp[netL]
  rw[x2j9 (by rw[x2n6];exact hk),e,x2nu,ih,hx k hk]
  have:(x2lp l P ph wt k).wt=at0 wt k:=rfl
  rw[this,x2jv]
  omega
theorem cor_weak{l:List Scene}{P:List Pq}{ph wt tu fl:List Int}(hT:TaskOK l P ph wt)(hE:nofE l P ph=0)(hC:ccE l P ph wt tu=0)(hf:(x2kh (l.length:Int) (netL l P ph wt) fl).2=0):(x2kh (l.length:Int) (netL l P ph wt) fl).1<=x2jv wt tu P.length:=by
 obtain⟨x,hx⟩:=cor_turns hT hE hC
 have hed:∀e∈netL l P ph wt,EdgeIn l.length e/\e.fr≠e.to:=fun e he=>by
  have:=net_mem hT hE e he
  exact⟨this.1,by omega⟩
 obtain⟨h1,h2,h3⟩:=x2zy hed hf
 have hw:=weak h2 x
 have hz:((netL l P ph wt).zip fl).map Prod.fst=netL l P ph wt:=by rw[List.map_fst_zip];rw[h1];exact Nat.le_refl _
 rw[hz]at hw
 have:=x2xj hx P.length 0 (by omega)
 rw[List.drop_zero]at this
 rw[h3]
 simp[x2jv]at this
 omega
noncomputable def tfl(l:List Scene)(P:List Pq)(ph wt fl:List Int):Int×Int:=bif !decide (nfE l P ph wt=0)then(0,nfE l P ph wt)else x2pp (nfN l P ph wt) (nfL l P ph wt) fl
theorem x306(d:Nat){s p f g t:AV}{l:List Scene}{P:List Pq}{ph wt fl:List Int}(hs:Sl Scene.c s l)(hp:Sl Pq.c p P)(hf:Ints f ph)(hg:Ints g wt)(ht:Ints t fl)(h1:ph.length<1000000)(h2:wt.length<1000000)(hfw:few7 l P=true)(m:Mem) :
 x2i8 (x2i6 (d+16)) x76 [.agg [s,p,f,g],t] m=some (.tup [I (tfl l P ph wt fl).1,I (tfl l P ph wt fl).2],m):=by
 refine x2ju (by simp[hs.still1,hp.still1,hf.still1,hg.still1,ht.still]) ?_ m
 rw[x1dy]
 unfold xh3 xjz
 generalize hm1:(⟨[],1⟩:Mem).new (0,0,2) (.row [s,p,f,g] 0 false)=m1
 have g2:m1.get (0,0,2)=some (.row [s,p,f,g] 0 false):=by rw[<-hm1];simp
 obtain⟨e,he,hnc⟩:=w_NetOf7 d hs hp hf hg h1 h2 hfw m1
 simp[mem0,hs.one,hp.one,hf.one,hg.one,hm1,g2,hnc,x2n7,he.one]
 unfold tfl
 by_cases c:nfE l P ph wt=0
 .simp[c,x2zs (d+10) he ht]
  exact RetF.tup rfl rfl
 .simp[c]
  exact RetF.tup rfl rfl
theorem law_StackChecks{s p f g t c:AV}{l:List Scene}{P:List Pq}{ph wt tu fl:List Int}(hs:Sl Scene.c s l)(hp:Sl Pq.c p P)(hf:Ints f ph)(hg:Ints g wt)(ht:Ints t tu)(hc:Ints c fl):∃m',x2i6 31 [] x8o [.agg [s,p,f,g],t,c] mem0=some (B true,m'):=by
 rw[x1dn]
 unfold xgq xj0
 generalize hm1:(⟨[],1⟩:Mem).new (0,0,3) (.row [s,p,f,g] 0 false)=m1
 have g3:m1.get (0,0,3)=some (.row [s,p,f,g] 0 false):=by rw[<-hm1];simp
 obtain⟨bl,hbl,hlc⟩:=w_light7 24 hs hp hf hg m1
 simp[mem0,hs.one,hp.one,hf.one,hg.one,hm1,w_awake7,g3,hlc]
 cases bl with
 |false=>simp
 |true=>
  have hL:=hbl rfl
  have ha:=hL.a
  have hb:=hL.b
  obtain⟨l1,l2⟩:=few7_len hL.few
  simp[ht.len x2il]
  by_cases h20:(20:Int)<(tu.length:Int)
  .simp[h20]
  simp[h20,hc.len x2il]
  by_cases h30:(20:Int)<(fl.length:Int)
  .simp[h30]
  obtain⟨s',p',f',g',hs',hp',hf',hg',hcp⟩:=w_Copy7 28 hs hp hf hg (by omega) (by omega) (by omega) (by omega) m1
  obtain⟨t',ht',hct⟩:=x2wa 29 ht (by omega) m1
  obtain⟨c',hc',hcc⟩:=x2wa 29 hc (by omega) m1
  have hpc:=x301 16 hs' hp' hf' hg' ht' (by omega) (by omega) (by omega) hL.few m1
  have hpf:=x306 14 hs' hp' hf' hg' hc' (by omega) (by omega) hL.few m1
  have hck:=x2x5 25 hs hp hf hg (by omega) (by omega) m1
  simp[h30,g3,hcp,hct,hcc,hpc,hpf,hck]
  by_cases hE:taskE l P ph wt=0
  rotate_left
  .have e1:pcE l P ph wt tu=taskE l P ph wt:=by unfold pcE;simp[hE]
   have e2:pcN l P ph wt tu=0:=by unfold pcN;simp[hE]
   have e3:nfE l P ph wt=taskE l P ph wt:=by unfold nfE;simp[hE]
   have e4:tfl l P ph wt fl=(0,taskE l P ph wt):=by unfold tfl;rw[e3];simp[hE]
   simp[hE,e1,e2,e4]
  have hT:=x2s3 hE
  have hrc:=x305 24 hs hp hf hg ht hT (by omega) m1
  obtain⟨e,he,hrn⟩:=w_rNetOf7 24 hs hp hf hg hT m1
  have e1:pcE l P ph wt tu=ccE l P ph wt tu:=by unfold pcE;simp[hE]
  have e2:pcN l P ph wt tu=ccN l P ph wt tu:=by unfold pcN;simp[hE]
  have e3:nfE l P ph wt=nofE l P ph:=by unfold nfE;simp[hE]
  simp[hE,g3,hrc,hrn,x2n7,he.one,e1,e2]
  generalize hm2:Mem.set _ _ _=m2
  have q14:m2.get (0,55,14)=some (.row [I (nofN l P ph wt),e] 0 false):=by rw[<-hm2];simp
  unfold xcp
  by_cases hN:nofE l P ph=0
  rotate_left
  .have e4:tfl l P ph wt fl=(0,nofE l P ph):=by unfold tfl;rw[e3];simp[hN]
   simp[hN,e4]
   unfold x7t
   by_cases hC:ccE l P ph wt tu=0
   .simp[hN,hC]
   .simp[hN,hC]
  have hnN:nofN l P ph wt=(l.length:Int):=by unfold nofN;rw[hN];rfl
  have hnL:nofL l P ph wt=netL l P ph wt:=by unfold nofL;rw[hN];rfl
  rw[hnN]at q14
  rw[hnL]at he
  have hck2:=net_check hT hN
  have hrf:=x2zt 28 he (x2vv (by rw[hck2])) hc m2
  have e4:tfl l P ph wt fl=x2kh (l.length:Int) (netL l P ph wt) fl:=by
   unfold tfl
   rw[e3,hN]
   have a1:nfN l P ph wt=(l.length:Int):=by unfold nfN;simp[hE,hnN]
   have a2:nfL l P ph wt=netL l P ph wt:=by unfold nfL;simp[hE,hnL]
   rw[a1,a2]
   unfold x2pp
   rw[hck2]
   rfl
  simp[hN,q14,hrf,e4]
  unfold x7t
  by_cases hC:ccE l P ph wt tu=0
  .by_cases hF:(x2kh (l.length:Int) (netL l P ph wt) fl).2=0
   .have hw:=cor_weak hT hN hC hF
    have hcn:ccN l P ph wt tu=x2jv wt tu P.length:=by unfold ccN;rw[hC];rfl
    simp[hC,hF,hcn,hw]
   .simp[hC,hF]
  .simp[hC]
end Go.Ix
