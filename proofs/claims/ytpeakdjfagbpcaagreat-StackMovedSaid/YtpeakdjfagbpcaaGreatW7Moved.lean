import Derived.Test.YtpeakdjfagbpcaaGreatW7Forest3
import Derived.Test.YtpeakdjfagbpcaaGreatW7Copy
set_option linter.unusedSimpArgs false
set_option linter.unusedVariables false
namespace Go.Ix
open Go.Proofs
def x1yy(x:Int):Bool:=bif !decide (x=1000000000000)then !(wi x (-6000000000) 6000000000)else false
def movE(n:Nat)(F:List Int)(D:Int):Int:=
 bif !decide (F.length=n)then 10 else bif F.any x1yy then 2 else bif !(wi D 0 ((F.length:Int)-1))then 6 else bif decide (at0 F D.toNat=1000000000000)then 31 else 0
def x1yc(c:Int)(x:Int):Int:=bif !decide (x=1000000000000)then x-c else x
def movL(n:Nat)(F:List Int)(D:Int):List Int:=bif decide (movE n F D=0)then F.map (x1yc (at0 F D.toNat))else[]
theorem x2ag(d:Nat):Tells (x1xv (d+3)) (.clo x37 []) x1yy:=by
 intro hs x m
 refine⟨m.next+1,?_⟩
 show x1xv (d+3) hs x37 [I x] m=_
 rw[x13a]
 unfold xc8 xdn x1yy
 by_cases c:x=1000000000000
 .simp[c]
 .simp[c,x27v]
theorem x264{F:List Int}(h:F.any x1yy=false)(k:Nat)(hk:k<F.length):at0 F k=1000000000000\/(-6000000000<=at0 F k/\at0 F k<=6000000000):=by
 rw[List.any_eq_false]at h
 have:=h F[k] (List.getElem_mem hk)
 rw[<-x1yt hk]at this
 unfold x1yy at this
 by_cases c:at0 F k=1000000000000
 .exact .inl c
 .right
  simp[c]at this
  exact wi_t this
theorem a_Moved(d:Nat){s p f:AV}{l:List Scene}{P:List Pq}{F:List Int}(hs:Sl Scene.c s l)(hp:Sl Pq.c p P)(hf:Ints f F)(hF:F.length<=1000)(D:Int) :
 RetF (fun v=>∃a,v=.tup [a,I (bif !decide ((net7 l P).2=0)then(net7 l P).2 else movE l.length F D)]/\Ints a (bif !decide ((net7 l P).2=0)then[]else movL l.length F D)) (x1xv (d+8) [] x20 [.agg [s,p],f,I D] mem0):=by
 rw[x131]
 unfold xbz xd0
 simp[hs.one,hp.one,mem0,w_netErr (d+1) hs hp]
 by_cases he:(net7 l P).2=0
 rotate_left
 .simp[he]
  exact RetF.tup rfl ⟨nilS,rfl,Or.inl ⟨rfl,rfl⟩⟩
 have hR:=x28e he
 have fin:∀(e:Int) (m:Mem),e≠0->movE l.length F D=e->RetF (fun v=>∃a,v=.tup [a,I (movE l.length F D)]/\Ints a (movL l.length F D)) (some (.tup [nilS,I e],m)):=fun e m h0 h1=>
  RetF.tup rfl ⟨nilS,by rw[h1],Or.inl ⟨rfl,by unfold movL;rw[h1];simp[h0]⟩⟩
 simp[he,hf.len x1z4,hs.len x1yv]
 by_cases c1:F.length=l.length
 rotate_left
 .have c1':¬(F.length:Int)=(l.length:Int):=by omega
  simp only[c1',decide_false,Bool.not_false,x20k]
  exact fin 10 _ (by omega) (by simp[movE,c1])
 have hc:=fun m=>x29t (d+5) hf (by omega) (x2ag (d+2)) rfl m
 simp[c1,hc]
 cases c2:F.any x1yy with
 |true=>
  simp
  exact fin 2 _ (by omega) (by simp[movE,c1,c2])
 |false=>
  simp
  have hll:=hR.ll
  rw[x1yo (by omega) (by omega)]
  simp[x23t]
  cases c3:wi D 0 ((l.length:Int)-1)with
  |false=>
   simp
   exact fin 6 _ (by omega) (by simp[movE,c1,c2,c3])
  |true=>
   obtain⟨d0,d1⟩:=wi_t c3
   have ixD:=hf.ixI x1za d0 (by omega)
   have ldD:=fun m=>x21z (m:=m) (show D.toNat<F.length by omega)
   simp[ixD,ldD]
   by_cases c4:at0 F D.toNat=1000000000000
   .simp[c4]
    exact fin 31 _ (by omega) (by simp[movE,c1,c2,c3,c4])
   .simp[c4]
    have hE:movE l.length F D=0:=by simp[movE,c1,c2,c3,c4]
    have hL:movL l.length F D=F.map (x1yc (at0 F D.toNat)):=by simp[movL,hE]
    rw[hE,hL]
    have hin:=x264 c2
    unfold xa2
    simp[hf.len x1z4,c1]
    rw[<-c1]
    refine x222 (N:=F.length) (fun n k a m fc=>x2k (x1xv (d+7)) [] 0 n f (I D) a f (I F.length) (I k) m fc)
     (fun k a m=>Gr 1 intE 0 57 m a ((F.map (x1yc (at0 F D.toNat))).take k)) _ ?_ ?_ NN 0 nilS _ _ (by omega) (by rw[x1zi];omega) (by simpa using Gr.nil)
    .rintro n k a m fc hk hG next
     have hk':(k:Int)<(F.length:Int):=by omega
     have ix:=hf.ix x1za hk
     have ld:=fun m=>x21z (m:=m) hk
     have hsn:(F.map (x1yc (at0 F D.toNat))).take (k+1)=(F.map (x1yc (at0 F D.toNat))).take k++[x1yc (at0 F D.toNat) (at0 F k)]:=by
      rw[List.take_succ_eq_append_getElem (by simpa using hk),List.getElem_map,x1yt hk]
     have hr:x1y5 (((F.map (x1yc (at0 F D.toNat))).take k).length+1) 8:=by unfold x1y5;simp;omega
     simp only[x2k]
     unfold xa1 x63 xa0
     by_cases c:at0 F k=1000000000000
     .have hv:x1yc (at0 F D.toNat) (at0 F k)=at0 F k:=by simp[x1yc,c]
      rw[hv]at hsn
      obtain⟨a2,m2,e1,e2,e3,-⟩:=hG.app (s0:=fc+1+3+2+3) (bytes:=8) x1za (by omega) hr (at0 F k)
      simp[hk',ix,ld,c]
      unfold x4i x15
      rw[c]at e1
      simp(disch:=omega) [x1yo,x24i]
      rw[show elems m.get 1 (.slit [I 1000000000000] 1 true)=some (intE 1000000000000,1)from rfl,e1]
      exact next a2 m2 _ (by rw[hsn];exact e2)
     .have hv:x1yc (at0 F D.toNat) (at0 F k)=at0 F k-at0 F D.toNat:=by simp[x1yc,c]
      rw[hv]at hsn
      obtain⟨a2,m2,e1,e2,e3,-⟩:=hG.app (s0:=fc+1+3+9+3) (bytes:=8) x1za (by omega) hr (at0 F k-at0 F D.toNat)
      have:=(hin k hk).resolve_left c
      have:=(hin D.toNat (by omega)).resolve_left c4
      simp[hk',ix,ld,c,ixD,ldD]
      unfold x4i x15
      rw[x1yo (by omega) (by omega)]
      simp(disch:=omega) [x1yo,x24i]
      rw[show ∀x:Int,elems m.get 1 (.slit [I x] 1 true)=some (intE x,1)from fun _=>rfl,e1]
      exact next a2 m2 _ (by rw[hsn];exact e2)
    .rintro n a m fc hG
     rw[List.take_of_length_le (by simp)]at hG
     simp only[x2k]
     unfold xa1 xt
     simp
     obtain⟨a',h1,h2⟩:=hG.frzk (k:=3) x1za x25x
     exact RetF.mk (x27u h2 frz_I) ⟨a',rfl,h1⟩
theorem a_rMoved(d:Nat){s p f:AV}{l:List Scene}{P:List Pq}{F:List Int}(hs:Sl Scene.c s l)(hp:Sl Pq.c p P)(hf:Ints f F)(hF:F.length<=1000)(D:Int)(hR:Right7 l P) :
 RetF (fun v=>∃a,v=.tup [a,I (movE l.length F D)]/\Ints a (movL l.length F D)) (x1xv (d+3) [] x35 [.agg [s,p],f,I D] mem0):=by
 rw[x132]
 unfold xc0 xd1
 have fin:∀(e:Int) (m:Mem),e≠0->movE l.length F D=e->RetF (fun v=>∃a,v=.tup [a,I (movE l.length F D)]/\Ints a (movL l.length F D)) (some (.tup [nilS,I e],m)):=fun e m h0 h1=>
  RetF.tup rfl ⟨nilS,by rw[h1],Or.inl ⟨rfl,by unfold movL;rw[h1];simp[h0]⟩⟩
 simp[hs.one,hp.one,mem0,hf.len x1z4,hs.len x1yv]
 by_cases c1:F.length=l.length
 rotate_left
 .have c1':¬(F.length:Int)=(l.length:Int):=by omega
  simp only[c1',decide_false,Bool.not_false,x20k]
  exact fin 10 _ (by omega) (by simp[movE,c1])
 simp[c1]
 unfold xa7
 refine x222 (N:=F.length) (σ:=Unit) (fun n k _ m fc=>x2n (x1xv (d+2)) [] 0 n f (I D) (.ptr (0,0,3) 0 0) (I k) m fc)
  (fun k _ m=>m.get (0,0,3)=some (.row [s,p] 0 false)/\F.any x1yy=(F.drop k).any x1yy) _ ?_ ?_ NN 0 () _ _ (by omega) (by rw[x1zi];omega) ⟨by simp,by simp⟩
 .rintro n k-m fc hk ⟨g3,hA⟩ next
  have hk':(k:Int)<(F.length:Int):=by omega
  have ix:=hf.ix x1za hk
  have ld:=fun m=>x21z (m:=m) hk
  rw[x1zt hk,List.any_cons,<-x1yt hk]at hA
  simp only[x2n]
  unfold xa6
  by_cases c:at0 F k=1000000000000
  .have hb:x1yy (at0 F k)=false:=by simp[x1yy,c]
   rw[hb]at hA
   simp[hf.len x1z4,hk',ix,ld,c]
   rw[x1yo (by omega) (by omega)]
   exact next () m _ ⟨g3,by simpa using hA⟩
  .simp[hf.len x1z4,hk',ix,ld,c,x232]
   cases c2:wi (at0 F k) (-6000000000) 6000000000 with
   |false=>
    have hb:x1yy (at0 F k)=true:=by simp[x1yy,c,c2]
    rw[hb]at hA
    simp
    exact fin 2 _ (by omega) (by rw[Bool.true_or]at hA;simp[movE,c1,hA])
   |true=>
    have hb:x1yy (at0 F k)=false:=by simp[x1yy,c,c2]
    rw[hb]at hA
    simp(disch:=omega) [x1yo]
    exact next () m _ ⟨g3,by simpa using hA⟩
 .rintro n-m fc ⟨g3,hA⟩
  rw[List.drop_of_length_le (Nat.le_refl _)]at hA
  have c2:F.any x1yy=false:=hA
  have hll:=hR.ll
  simp only[x2n]
  unfold xa6 x2m
  simp[hf.len x1z4,g3,hs.len x1yv]
  rw[x1yo (by omega) (by omega)]
  simp[x232]
  cases c3:wi D 0 ((l.length:Int)-1)with
  |false=>
   simp
   exact fin 6 _ (by omega) (by simp[movE,c1,c2,c3])
  |true=>
   obtain⟨d0,d1⟩:=wi_t c3
   have ixD:=hf.ixI x1za d0 (by omega)
   have ldD:=fun m=>x21z (m:=m) (show D.toNat<F.length by omega)
   simp[ixD,ldD]
   by_cases c4:at0 F D.toNat=1000000000000
   .simp[c4]
    exact fin 31 _ (by omega) (by simp[movE,c1,c2,c3,c4])
   .simp[c4]
    have hE:movE l.length F D=0:=by simp[movE,c1,c2,c3,c4]
    have hL:movL l.length F D=F.map (x1yc (at0 F D.toNat)):=by simp[movL,hE]
    rw[hE,hL]
    have hin:=x264 c2
    unfold xa5
    refine x222 (N:=F.length) (fun n k a m fc=>x2l (x1xv (d+2)) [] 0 n f (I D) a (I k) m fc)
     (fun k a m=>Gr 1 intE 0 70 m a ((F.map (x1yc (at0 F D.toNat))).take k)) _ ?_ ?_ NN 0 nilS _ _ (by omega) (by rw[x1zi];omega) (by simpa using Gr.nil)
    .rintro n k a m fc hk hG next
     have hk':(k:Int)<(F.length:Int):=by omega
     have ix:=hf.ix x1za hk
     have ld:=fun m=>x21z (m:=m) hk
     have hsn:(F.map (x1yc (at0 F D.toNat))).take (k+1)=(F.map (x1yc (at0 F D.toNat))).take k++[x1yc (at0 F D.toNat) (at0 F k)]:=by
      rw[List.take_succ_eq_append_getElem (by simpa using hk),List.getElem_map,x1yt hk]
     have hr:x1y5 (((F.map (x1yc (at0 F D.toNat))).take k).length+1) 8:=by unfold x1y5;simp;omega
     simp only[x2l]
     unfold xa4 x64 xa3
     by_cases c:at0 F k=1000000000000
     .have hv:x1yc (at0 F D.toNat) (at0 F k)=at0 F k:=by simp[x1yc,c]
      rw[hv]at hsn
      obtain⟨a2,m2,e1,e2,e3,-⟩:=hG.app (s0:=fc+4+5+2+3) (bytes:=8) x1za (by omega) hr (at0 F k)
      simp[hf.len x1z4,hk',ix,ld,c]
      unfold x4j x16
      rw[c]at e1
      simp(disch:=omega) [x1yo,x24i]
      rw[show elems m.get 1 (.slit [I 1000000000000] 1 true)=some (intE 1000000000000,1)from rfl,e1]
      exact next a2 m2 _ (by rw[hsn];exact e2)
     .have hv:x1yc (at0 F D.toNat) (at0 F k)=at0 F k-at0 F D.toNat:=by simp[x1yc,c]
      rw[hv]at hsn
      obtain⟨a2,m2,e1,e2,e3,-⟩:=hG.app (s0:=fc+4+5+9+3) (bytes:=8) x1za (by omega) hr (at0 F k-at0 F D.toNat)
      have:=(hin k hk).resolve_left c
      have:=(hin D.toNat (by omega)).resolve_left c4
      simp[hf.len x1z4,hk',ix,ld,c,ixD,ldD]
      unfold x4j x16
      rw[x1yo (by omega) (by omega)]
      simp(disch:=omega) [x1yo,x24i]
      rw[show ∀x:Int,elems m.get 1 (.slit [I x] 1 true)=some (intE x,1)from fun _=>rfl,e1]
      exact next a2 m2 _ (by rw[hsn];exact e2)
    .rintro n a m fc hG
     rw[List.take_of_length_le (by simp)]at hG
     simp only[x2l]
     unfold xa4 xu
     simp[hf.len x1z4]
     obtain⟨a',h1,h2⟩:=hG.frzk (k:=3) x1za x25x
     exact RetF.mk (x27u h2 frz_I) ⟨a',rfl,h1⟩
end Go.Ix
