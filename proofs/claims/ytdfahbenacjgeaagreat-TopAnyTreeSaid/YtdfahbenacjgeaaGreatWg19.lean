import Derived.Test.YtdfahbenacjgeaaGreatWg5
import Derived.Test.YtdfahbenacjgeaaGreatWg2
import Derived.Test.YtdfahbenacjgeaaGreatWg15
import Derived.Test.YtdfahbenacjgeaaGreatWg16
import Derived.Test.YtdfahbenacjgeaaGreatWg14
import Derived.Test.YtdfahbenacjgeaaGreatWg0
import Derived.ProofKit
import Derived.Test.YtdfahbenacjgeaaGreatWg17
import Derived.Test.YtdfahbenacjgeaaGreatWg18
set_option linter.unusedSimpArgs false
set_option linter.unusedVariables false
namespace Go.Ix
open Go.Proofs
def xoz(x:Int):Bool:=bif !decide (x=1000000000000)then !(wi x (-6000000000) 6000000000)else false
def movE(n:Nat)(F:List Int)(D:Int):Int:=
 bif !decide (F.length=n)then 10 else bif F.any xoz then 2 else bif !(wi D 0 ((F.length:Int)-1))then 6 else bif decide (at0 F D.toNat=1000000000000)then 31 else 0
def xn2(c:Int)(x:Int):Int:=bif !decide (x=1000000000000)then x-c else x
def movL(n:Nat)(F:List Int)(D:Int):List Int:=bif decide (movE n F D=0)then F.map (xn2 (at0 F D.toNat))else[]
theorem x106(d:Nat):xpf (xk2 (d+3)) (.clo x1k []) xoz:=by
 intro hs x m
 refine⟨m.next+1,?_⟩
 show xk2 (d+3) hs x1k [I x] m=_
 rw[xge]
 unfold x9z x6v xoz
 by_cases c:x=1000000000000
 .simp[c]
 .simp[c,xtq]
theorem mvBad_in{F:List Int}(h:F.any xoz=false)(k:Nat)(hk:k<F.length):at0 F k=1000000000000\/(-6000000000<=at0 F k/\at0 F k<=6000000000):=by
 rw[x14j]at h
 have:=h F[k] (x12s hk)
 rw[<-xkl hk]at this
 unfold xoz at this
 by_cases c:at0 F k=1000000000000
 .exact .inl c
 .right
  simp[c]at this
  exact wi_t this
theorem a_Moved(d:Nat){s p f:AV}{l:List Scene}{P:List Pq}{F:List Int}(hs:Sl Scene.c s l)(hp:Sl Pq.c p P)(hf:Ints f F)(hF:F.length<=1000)(D:Int) :
 RetF (λv=>∃a,v=.tup [a,I (bif !decide ((net7 l P).2=0)then(net7 l P).2 else movE l.length F D)]/\Ints a (bif !decide ((net7 l P).2=0)then[]else movL l.length F D)) (xk2 (d+8) [] x1e [.agg [s,p],f,I D] mem0):=by
 rw[xfr]
 unfold x9c x5j
 simp[hs.one,hp.one,mem0,xrw (d+1) hs hp]
 by_cases he:(net7 l P).2=0
 rotate_left
 .simp[he]
  exact RetF.tup rfl ⟨nilS,rfl,Or.inl ⟨rfl,rfl⟩⟩
 have hR:=xs7 he
 have fin:∀(e:Int) (m:Mem),e≠0->movE l.length F D=e->RetF (λv=>∃a,v=.tup [a,I (movE l.length F D)]/\Ints a (movL l.length F D)) (some (.tup [nilS,I e],m)):=λe m h0 h1=>
  RetF.tup rfl ⟨nilS,by rw[h1],Or.inl ⟨rfl,by unfold movL;rw[h1];simp[h0]⟩⟩
 simp[he,hf.len xke,hs.len xl8]
 by_cases c1:F.length=l.length
 rotate_left
 .have c1':¬(F.length:Int)=(l.length:Int):=by omega
  simp only[c1',x13k,x13n,xku]
  exact fin 10 _ (by omega) (by simp[movE,c1])
 have hc:=λm=>xto (d+5) hf (by omega) (x106 (d+2)) rfl m
 simp[c1,hc]
 cases c2:F.any xoz with
 |true=>
  simp
  exact fin 2 _ (by omega) (by simp[movE,c1,c2])
 |false=>
  simp
  have hll:=hR.ll
  rw[xk6 (by omega) (by omega)]
  simp[xon]
  cases c3:wi D 0 ((l.length:Int)-1)with
  |false=>
   simp
   exact fin 6 _ (by omega) (by simp[movE,c1,c2,c3])
  |true=>
   obtain⟨d0,d1⟩:=wi_t c3
   have ixD:=hf.ixI xk7 d0 (by omega)
   have ldD:=λm=>xkn (m:=m) (show D.toNat<F.length by omega)
   simp[ixD,ldD]
   by_cases c4:at0 F D.toNat=1000000000000
   .simp[c4]
    exact fin 31 _ (by omega) (by simp[movE,c1,c2,c3,c4])
   .simp[c4]
    have hE:movE l.length F D=0:=by simp[movE,c1,c2,c3,c4]
    have hL:movL l.length F D=F.map (xn2 (at0 F D.toNat)):=by simp[movL,hE]
    rw[hE,hL]
    have hin:=mvBad_in c2
    unfold xbs
    simp[hf.len xke,c1]
    rw[<-c1]
    refine xkq (N:=F.length) (λn k a m fc=>x3d (xk2 (d+7)) [] 0 n f (I D) a f (I F.length) (I k) m fc)
     (λk a m=>Gr 1 intE 0 57 m a ((F.map (xn2 (at0 F D.toNat))).take k)) _ ?_ ?_ NN 0 nilS _ _ (by omega) (by rw[xkj];omega) (by simpa using Gr.nil)
    .rintro n k a m fc hk hG next
     have hk':(k:Int)<(F.length:Int):=by omega
     have ix:=hf.ix xk7 hk
     have ld:=λm=>xkn (m:=m) hk
     have hsn:(F.map (xn2 (at0 F D.toNat))).take (k+1)=(F.map (xn2 (at0 F D.toNat))).take k++[xn2 (at0 F D.toNat) (at0 F k)]:=by
      rw[x12y (by simpa using hk),x167,xkl hk]
     have hr:xkg (((F.map (xn2 (at0 F D.toNat))).take k).length+1) 8:=by unfold xkg;simp;omega
     simp only[x3d]
     unfold x5i xbr xbq
     by_cases c:at0 F k=1000000000000
     .have hv:xn2 (at0 F D.toNat) (at0 F k)=at0 F k:=by simp[xn2,c]
      rw[hv]at hsn
      obtain⟨a2,m2,e1,e2,e3,-⟩:=hG.app (s0:=fc+1+3+2+3) (bytes:=8) xk7 (by omega) hr (at0 F k)
      simp[hk',ix,ld,c]
      unfold x4j x5h
      rw[c]at e1
      simp(disch:=omega) [xk6,xlo]
      rw[show elems m.get 1 (.slit [I 1000000000000] 1 true)=some (intE 1000000000000,1)from rfl,e1]
      exact next a2 m2 _ (by rw[hsn];exact e2)
     .have hv:xn2 (at0 F D.toNat) (at0 F k)=at0 F k-at0 F D.toNat:=by simp[xn2,c]
      rw[hv]at hsn
      obtain⟨a2,m2,e1,e2,e3,-⟩:=hG.app (s0:=fc+1+3+9+3) (bytes:=8) xk7 (by omega) hr (at0 F k-at0 F D.toNat)
      have:=(hin k hk).resolve_left c
      have:=(hin D.toNat (by omega)).resolve_left c4
      simp[hk',ix,ld,c,ixD,ldD]
      unfold x4j x5h
      rw[xk6 (by omega) (by omega)]
      simp(disch:=omega) [xk6,xlo]
      rw[show ∀x:Int,elems m.get 1 (.slit [I x] 1 true)=some (intE x,1)from λ_=>rfl,e1]
      exact next a2 m2 _ (by rw[hsn];exact e2)
    .rintro n a m fc hG
     rw[x12g (by simp)]at hG
     simp only[x3d]
     unfold x5i xbp
     simp
     obtain⟨a',h1,h2⟩:=hG.frzk (k:=3) xk7 xm5
     exact RetF.mk (xtp h2 frz_I) ⟨a',rfl,h1⟩
def mvE(l:List Scene)(P:List Pq)(F:List Int)(D:Int):Int:=bif !decide ((net7 l P).2=0)then(net7 l P).2 else movE l.length F D
def mvL(l:List Scene)(P:List Pq)(F:List Int)(D:Int):List Int:=bif !decide ((net7 l P).2=0)then[]else movL l.length F D
theorem w_Moved(d:Nat){s p f:AV}{l:List Scene}{P:List Pq}{F:List Int}(hs:Sl Scene.c s l)(hp:Sl Pq.c p P)(hf:Ints f F)(hF:F.length<=1000)(D:Int)(m:Mem) :
 ∃a,Ints a (mvL l P F D)/\xk4 (xk2 (d+8)) x1e [.agg [s,p],f,I D] m=some (.tup [a,I (mvE l P F D)],m):=by
 obtain⟨v,⟨a,rfl,h1⟩,hc⟩:=xlq (by simp[hs.still1,hp.still1,hf.still]) (a_Moved d hs hp hf hF D) m
 exact⟨a,h1,hc⟩
def nmF(ls:List Int)(k:Nat):List Int×Int:=(List.range k).foldl (nmS ls) (List.replicate ls.length 0,0)
theorem xul(ls:List Int)(k:Nat):nmF ls (k+1)=nmS ls (nmF ls k) k:=by
 unfold nmF
 rw[x15b,x168]
 rfl
theorem nmF_all(ls:List Int):nmF ls ls.length=nmM ls:=rfl
structure PtI (ls:List Int) (k:Nat) (E:List (Int×Int)):Prop where
 len:(nmF ls k).1.length=ls.length
 cnt:(nmF ls k).2=(E.length:Int)
 le:E.length<=k
 get:∀v:Nat,v<ls.length->lkp E v=if v<k/\at0 ls v=v then some (at0 (nmF ls k).1 v)else none
theorem PtI.nil(ls:List Int):PtI ls 0 []:=⟨by simp[nmF],by simp[nmF],by simp,λv _=>by simp[lkp]⟩
theorem xxu{l:List Int}{k:Nat}{x:Int}(hk:k<l.length):(l.set k x).take (k+1)=l.take k++[x]:=by
 rw[x12y (by simpa using hk),List.getElem_set_self,List.take_set_of_le (x12f _)]
theorem PtI.root{ls:List Int}{k:Nat}{E:List (Int×Int)}(h:PtI ls k E)(hk:k<ls.length)(hr:at0 ls k=k) :
 lkp E k=none/\PtI ls (k+1) (E++[((k:Int),(E.length:Int))])/\(nmF ls (k+1)).1.take (k+1)=(nmF ls k).1.take k++[(E.length:Int)]:=by
 have hl:=h.len
 have hc:=h.cnt
 have hn:lkp E k=none:=by rw[h.get k hk,x12b (by omega)]
 have hs:nmF ls (k+1)=((nmF ls k).1.set k (E.length:Int),(E.length:Int)+1):=by
  rw[xul]
  unfold nmS
  rw[x12c hr,hc]
 refine⟨hn,⟨?_,?_,?_,λv hv=>?_⟩,?_⟩
 .rw[hs];simpa using hl
 .rw[hs];simp
 .have:=h.le;simp;omega
 .rw[lkp_app _ _ _ _ hn,hs]
  simp only
  rw[xrz (by omega)]
  by_cases e:v=k
  .subst e
   rw[x12c rfl,x12c ⟨by omega,hr⟩,x12c rfl]
  .rw[x12b (by omega),h.get v hv,x12b e]
   by_cases c:v<k/\at0 ls v=v
   .rw[x12c c,x12c ⟨by omega,c.2⟩]
   .rw[x12b c,x12b (λg=>c ⟨by omega,g.2⟩)]
 .rw[hs]
  exact xxu (by omega)
theorem PtI.known{ls:List Int}{k:Nat}{E:List (Int×Int)}(h:PtI ls k E)(hL:Lab ls.length ls)(hk:k<ls.length)(hr:¬at0 ls k=k) :
 ∃x,lkp E (at0 ls k)=some x/\PtI ls (k+1) E/\(nmF ls (k+1)).1.take (k+1)=(nmF ls k).1.take k++[x]:=by
 have hl:=h.len
 have hok:=hL.ok k hk
 have hs:nmF ls (k+1)=((nmF ls k).1.set k (at0 (nmF ls k).1 (at0 ls k).toNat),(nmF ls k).2):=by
  rw[xul]
  unfold nmS
  rw[x12b hr]
 refine⟨at0 (nmF ls k).1 (at0 ls k).toNat,?_,⟨?_,?_,?_,λv hv=>?_⟩,?_⟩
 .have:=h.get (at0 ls k).toNat (by omega)
  rw[x13i hok.1,x12c ⟨by omega,hok.2.2⟩]at this
  exact this
 .rw[hs];simpa using hl
 .rw[hs];exact h.cnt
 .have:=h.le;omega
 .rw[h.get v hv,hs]
  simp only
  rw[xrz (by omega)]
  by_cases e:v=k
  .subst e
   rw[x12b (by omega),x12b (λg=>hr g.2)]
  .rw[x12b e]
   by_cases c:v<k/\at0 ls v=v
   .rw[x12c c,x12c ⟨by omega,c.2⟩]
   .rw[x12b c,x12b (λg=>c ⟨by omega,g.2⟩)]
 .rw[hs]
  exact xxu (by omega)
theorem gr_build{s p:AV}:xkr x38 [(0,2,AV.agg [s,p])]=some (.agg [s,p]):=by rw[xue];simp[xkr,xle]
theorem lenM_ok(id:Id)(E:List (Int×Int))(m:Mem)(h:m.get id=some (.map (mpE E))):sLenM (.mp id) m=some (I E.length):=by
 unfold sLenM
 simp only[h]
 simp[mpE]
theorem a_uparts(d:Nat){a:AV}{ls:List Int}(h:Ints a ls)(hL:Lab ls.length ls)(hl:ls.length<=1000):RetF (λv=>Ints v (nmM ls).1) (xk2 (d+1) [] x1h [a] mem0):=by
 rw[xg2]
 unfold x9n x65 xcc
 simp[mem0,h.len u_union,xqh]
 refine xkq (N:=ls.length) (σ:=AV×List (Int×Int)) (λn k s m fc=>x3l (xk2 d) [] 0 n (.mp (0,1,9)) s.1 a (I ls.length) (I k) m fc)
  (λk s m=>m.get (0,1,9)=some (.map (mpE s.2))/\PtI ls k s.2/\Gr 1 intE 0 32 m s.1 ((nmF ls k).1.take k)) _ ?_ ?_ NN 0 (nilS,[]) _ _ (by omega) (by rw[xkj];omega) ⟨by simp[mpE],PtI.nil ls,by simpa using Gr.nil⟩
 .rintro n k ⟨o,E⟩ m fc hk ⟨hE,hI,hG⟩ next
  have hk':(k:Int)<(ls.length:Int):=by omega
  have ix:=h.ix xk7 hk
  have ld:=λm=>xkn (m:=m) hk
  have hlen:((nmF ls k).1.take k).length=k:=by have:=hI.len;simp;omega
  have hlook:=look_ok (0,1,9) E (at0 ls k) m hE
  simp only[x3l]
  unfold x63 xcb
  simp only at hE hI hG
  by_cases c:at0 ls k=k
  .obtain⟨h1,h2,h3⟩:=hI.root hk c
   rw[c]at hlook ld
   rw[h1]at hlook
   simp[hk',ix,ld,hlook,sExt]
   unfold x62
   simp[lenM_ok _ E m hE]
   rw[up_ok (0,1,9) E k E.length m _ hE h1]
   generalize hm2:m.set (0,1,9) _=m2
   have hE2:m2.get (0,1,9)=some (.map (mpE (E++[((k:Int),(E.length:Int))]))):=by rw[<-hm2];simp
   have hG2:Gr 1 intE 0 32 m2 o ((nmF ls k).1.take k):=hG.frame λs=>by rw[<-hm2,Mem.get_set,x12b (by simp)]
   unfold x4n
   simp[xlo]
   obtain⟨o2,m3,e1,e2,e3,e4⟩:=hG2.app (s0:=fc+1+11+9+3) (bytes:=8) xk7 (by omega) (by unfold xkg;omega) (E.length:Int)
   rw[show ∀x:Int,elems m2.get 1 (.slit [I x] 1 true)=some (intE x,1)from λ_=>rfl,e1]
   unfold x61
   simp(disch:=omega) [xk6]
   exact next (o2,E++[((k:Int),(E.length:Int))]) m3 _ ⟨by rw[e4 _ (by simp)];exact hE2,h2,by rw[h3];exact e2⟩
  .obtain⟨x,h1,h2,h3⟩:=hI.known hL hk c
   rw[h1]at hlook
   simp[hk',ix,ld,hlook,sExt]
   unfold x62
   simp
   unfold x4n
   simp[xlo]
   obtain⟨o2,m3,e1,e2,e3,e4⟩:=hG.app (s0:=fc+1+11+2+3) (bytes:=8) xk7 (by omega) (by unfold xkg;omega) x
   rw[show ∀x:Int,elems m.get 1 (.slit [I x] 1 true)=some (intE x,1)from λ_=>rfl,e1]
   unfold x61
   simp(disch:=omega) [xk6]
   exact next (o2,E) m3 _ ⟨by rw[e4 _ (by simp)];exact hE,h2,by rw[h3];exact e2⟩
 .rintro n ⟨o,E⟩ m fc ⟨hE,hI,hG⟩
  simp only[x3l]
  unfold x63 xca
  simp
  have:=hI.len
  rw[x12g (by omega)]at hG
  obtain⟨a',h1,h2⟩:=hG.frzk (k:=4) xk7 xm5
  exact RetF.mk h2 h1
theorem w_uparts(d:Nat){a:AV}{ls:List Int}(h:Ints a ls)(hL:Lab ls.length ls)(hl:ls.length<=1000)(m:Mem):∃b,Ints b (nmM ls).1/\xk4 (xk2 (d+1)) x1h [a] m=some (b,m):=
 xlq (by simp[h.still]) (a_uparts d h hL hl) m
theorem w_Parts7(d:Nat){s p:AV}{l:List Scene}{P:List Pq}(hs:Sl Scene.c s l)(hp:Sl Pq.c p P)(m:Mem) :
 ∃a,Ints a (if(net7 l P).2=0 then(nmM (labA l P)).1 else[])/\xk4 (xk2 (d+7)) x1b [.agg [s,p]] m=some (.tup [a,I (net7 l P).2],m):=by
 have key:∃v,(∃a,Ints a (if(net7 l P).2=0 then(nmM (labA l P)).1 else[])/\v=.tup [a,I (net7 l P).2])/\xk4 (xk2 (d+7)) x1b [.agg [s,p]] m=some (v,m):=by
  refine xlq (by simp[hs.still1,hp.still1]) ?_ m
  rw[xfn]
  unfold x98 x58
  generalize hm1:(⟨[],1⟩:Mem).new (0,0,1) (.row [s,p] 0 false)=m1
  have g1:m1.get (0,0,1)=some (.row [s,p] 0 false):=by rw[<-hm1];simp
  simp[mem0,hs.one,hp.one,hm1,g1,xrw d hs hp]
  by_cases he:(net7 l P).2=0
  .have hR:=xs7 he
   have hL:=(Lab.fresh l.length).joins hR.pr
   have hll:=hR.ll
   obtain⟨u,hu,hjc⟩:=xxp (d+4) hs hp hR (-1) m1
   rw[xsa]at hu
   obtain⟨b,hb,hbc⟩:=w_uparts (d+5) (a:=u) (ls:=labA l P) hu (by rw[show(labA l P).length=l.length from hL.len];exact hL) (by rw[show(labA l P).length=l.length from hL.len];omega) m1
   simp[he,gr_build,hjc,hbc]
   exact RetF.tup (l:=[b,I 0]) (by simp[hb.still]) ⟨b,hb,rfl⟩
  .simp[he]
   exact RetF.tup (l:=[nilS,I (net7 l P).2]) (by simp) ⟨nilS,Or.inl ⟨rfl,rfl⟩,rfl⟩
 obtain⟨v,⟨a,ha,rfl⟩,hc⟩:=key
 exact⟨a,ha,hc⟩
theorem PtI_len(ls:List Int):∀k,(nmF ls k).1.length=ls.length
 |0=>by simp[nmF]
 |k+1=>by
  rw[xul]
  have:=PtI_len ls k
  unfold nmS
  split<;>simpa using this
theorem nm_len{l:List Scene}{P:List Pq}(hR:Right7 l P):(nmM (labA l P)).1.length=l.length:=by
 have hL:Lab l.length (labA l P):=(Lab.fresh l.length).joins hR.pr
 have:=λn=>(PtI_len (labA l P) n)
 have h:=this l.length
 rw[<-hL.len]at h
 rw[nmF_all]at h
 have:=hL.len
 omega
theorem e_stacked:((xk2 30 [] xb9 [] mem0).map (λp=>p.1))=some (B true):=by kernel_rfl
theorem w_stacked(m:Mem):xk4 (xk2 30) xb9 [] m=some (B true,m):=by
 have h:=e_stacked
 rw[x12i]at h
 obtain⟨⟨r,m'⟩,h1,rfl⟩:=h
 exact call0 rfl h1 rfl
def IsBf(l:List Scene)(P:List Pq)(ph wt:List Int)(v:AV):Prop:=∃b,v=B b/\(b=true->Br7 l P ph wt/\taskE l P ph wt=0)
theorem w_Brief(d:Nat){s p f g:AV}{l:List Scene}{P:List Pq}{ph wt:List Int}(hs:Sl Scene.c s l)(hp:Sl Pq.c p P)(hf:Ints f ph)(hg:Ints g wt)(m:Mem) :
 ∃b,(b=true->Br7 l P ph wt/\taskE l P ph wt=0)/\xk4 (xk2 (d+8)) x1a [.agg [s,p,f,g]] m=some (B b,m):=by
 suffices key:RetF (IsBf l P ph wt) (xk2 (d+8) [] x1a [.agg [s,p,f,g]] mem0) by
  obtain⟨v,⟨b,rfl,h⟩,hc⟩:=xlq (by simp[hs.still1,hp.still1,hf.still1,hg.still1]) key m
  exact⟨b,h,hc⟩
 rw[xfk]
 unfold x95 x53
 generalize hm1:(⟨[],1⟩:Mem).new (0,0,1) (.row [s,p,f,g] 0 false)=m1
 have g1:m1.get (0,0,1)=some (.row [s,p,f,g] 0 false):=by rw[<-hm1];simp
 obtain⟨bl,hbl,hlc⟩:=w_brief7 d hs hp hf hg m1
 simp[mem0,hs.one,hp.one,hf.one,hg.one,hm1,g1,hlc]
 cases bl with
 |false=>exact RetF.st rfl ⟨false,rfl,λh=>by cases h⟩
 |true=>
  have hL:=(hbl rfl).1
  have ha:=hL.a
  have hb:=hL.b
  simp[g1,xuj (d+2) hs hp hf hg (by omega) (by omega)]
  exact RetF.st rfl ⟨decide (taskE l P ph wt=0),rfl,λh=>⟨hbl rfl,x14a h⟩⟩
theorem zz2sl:xba=[nilS,nilS]:=by kernel_rfl
theorem neqB(x y:Operand)(a b:Bool):sBin Tryz.prog .neq x11 x y (B a) (B b)=some (B (!decide (a=b))):=neq_bool7 x y a b
theorem xse{l:List Scene}{P:List Pq}{ph:List Int}(hR:Right7 l P)(hph:ph.length=P.length)(hM:∀k,k<ph.length->(at0 ph k).natAbs<=100000000)(hl:l.length<=8){v:Nat}(hv:v<l.length):(potL l P ph v).natAbs<=800000000:=by
 have hT:=xub hR.pr (fW l P)
 have h:=(xq2 hR.pr (phI ph) hT.fo).abs hR.pr hT.fo (M:=100000000) (λi hi=>by
  have:=hT.fo.rng i hi
  unfold phI
  exact hM _ (by omega)) hv
 unfold potL
 omega
theorem xq4{l:List Scene}{P:List Pq}{ph:List Int}(hR:Right7 l P)(hph:ph.length=P.length)(hM:∀k,k<ph.length->(at0 ph k).natAbs<=100000000)(hl:l.length<=8){D v:Nat}(hD:D<l.length)(hv:v<l.length) :
 (at0 (labA l P) v=at0 (labA l P) D/\solX l P ph D v=potL l P ph v-potL l P ph D/\-1600000000<=solX l P ph D v/\solX l P ph D v<=1600000000)\/(at0 (labA l P) v≠at0 (labA l P) D/\solX l P ph D v=1000000000000):=by
 have h1:=xse hR hph hM hl hD
 have h2:=xse hR hph hM hl hv
 unfold solX
 rw[x12t,x12t]
 by_cases c:at0 (labA l P) v=at0 (labA l P) D
 .rw[x12c c];exact .inl ⟨c,rfl,by omega,by omega⟩
 .rw[x12b c];exact .inr ⟨c,rfl⟩
theorem xq5{l:List Scene}{P:List Pq}{ph:List Int}{D:Int}{v:Nat}(hv:v<l.length):at0 (solM l P ph D) v=solX l P ph D v:=by
 have:=sol_get (l:=l) (P:=P) (ph:=ph) (D:=D) (v:=(v:Int)) (by omega) (by omega)
 rwa[x12t]at this
theorem mov_sol{l:List Scene}{P:List Pq}{ph:List Int}(hR:Right7 l P)(hph:ph.length=P.length)(hM:∀k,k<ph.length->(at0 ph k).natAbs<=100000000)(hl:l.length<=8){D:Nat}(hD:D<l.length) :
 (movE l.length (solM l P ph 0) D=0↔at0 (labA l P) D=at0 (labA l P) 0)/\(movE l.length (solM l P ph 0) D=0->movL l.length (solM l P ph 0) D=solM l P ph D):=by
 have h0:0<l.length:=by omega
 have hbad:(solM l P ph 0).any xoz=false:=by
  rw[x14j]
  intro x hx
  obtain⟨k,hk,rfl⟩:=List.getElem_of_mem hx
  rw[xnq]at hk
  rw[<-xkl,xq5 hk]
  unfold xoz
  rcases xq4 hR hph hM hl h0 hk with ⟨-,-,h1,h2⟩|⟨-,h1⟩
  .have:wi (solX l P ph (0:Nat) k) (-6000000000) 6000000000=true:=wi_iff.mpr ⟨by omega,by omega⟩
   have e:solX l P ph 0 k=solX l P ph (0:Nat) k:=rfl
   rw[e,this]
   cases decide (solX l P ph (0:Nat) k=1000000000000)<;>simp
  .have e:solX l P ph 0 k=1000000000000:=h1
   simp[e]
 have hwi:wi (D:Int) 0 (((solM l P ph 0).length:Int)-1)=true:=wi_iff.mpr ⟨by omega,by rw[xnq];omega⟩
 have hE:movE l.length (solM l P ph 0) D=bif decide (solX l P ph 0 D=1000000000000)then 31 else 0:=by
  unfold movE
  rw[hbad,hwi,xnq,x12t,xq5 hD]
  simp
 have hiff:movE l.length (solM l P ph 0) D=0↔at0 (labA l P) D=at0 (labA l P) 0:=by
  rw[hE]
  rcases xq4 hR hph hM hl h0 hD with ⟨h1,h2,h3,h4⟩|⟨h1,h2⟩
  .have e:¬solX l P ph 0 D=1000000000000:=λh=>by
    have:solX l P ph (0:Nat) D=1000000000000:=h
    omega
   simp[e,h1]
  .have e:solX l P ph 0 D=1000000000000:=h2
   simp[e]
   exact h1
 refine⟨hiff,λh=>?_⟩
 have hlab:=hiff.mp h
 unfold movL
 rw[x13e h,xlf]
 refine x15p (by simp[xnq]) λk h1 h2=>?_
 have hk:k<l.length:=by simpa[xnq]using h1
 rw[x167,<-xkl,<-xkl,xq5 hk,xq5 hk,x12t,xq5 hD]
 have eD:=xq4 hR hph hM hl h0 hD
 have e0:=xq4 hR hph hM hl h0 hk
 have eX:=xq4 hR hph hM hl hD hk
 have r1:solX l P ph 0 D=solX l P ph (0:Nat) D:=rfl
 have r2:solX l P ph 0 k=solX l P ph (0:Nat) k:=rfl
 rw[r1,r2]
 unfold xn2
 rcases e0 with ⟨a1,a2,a3,a4⟩|⟨a1,a2⟩
 .rcases eX with ⟨b1,b2,b3,b4⟩|⟨b1,b2⟩
  .rcases eD with ⟨c1,c2,c3,c4⟩|⟨c1,c2⟩
   .have:¬solX l P ph (0:Nat) k=1000000000000:=by omega
    simp only[this,x13k,x13n,xlf]
    omega
   .exact absurd hlab c1
  .exact absurd (by rw[a1,hlab]) b1
 .rcases eX with ⟨b1,b2,b3,b4⟩|⟨b1,b2⟩
  .exact absurd (by rw[b1,hlab]) a1
  .rw[a2,b2];simp
theorem law_TopAnyTree{s p f g a b c:AV}{l:List Scene}{P:List Pq}{ph wt F G:List Int}{w:List Sp}(hs:Sl Scene.c s l)(hp:Sl Pq.c p P)(hf:Ints f ph)(hg:Ints g wt)(ha:Ints a F)(hb:Ints b G)(hc:Sl Sp.c c w):∃m',xk2 31 [] x4c [.agg [s,p,f,g],.agg [a,b,c]] mem0=some (B true,m'):=by
 rw[xfj]
 unfold x94 x52
 generalize hm1:((⟨[],1⟩:Mem).new (0,0,2) (.row [s,p,f,g] 0 false)).new (0,1,3) (.row [a,b,c] 0 false)=m1
 have g2:m1.get (0,0,2)=some (.row [s,p,f,g] 0 false):=by rw[<-hm1];simp
 have g3:m1.get (0,1,3)=some (.row [a,b,c] 0 false):=by rw[<-hm1];simp
 have hn1:m1.next=1:=by rw[<-hm1];rfl
 obtain⟨bl,hbl,hlc⟩:=w_Brief 22 hs hp hf hg m1
 simp[mem0,hs.one,hp.one,hf.one,hg.one,ha.one,hb.one,hc.one,hm1,w_stacked,g2,hlc]
 cases bl with
 |false=>simp
 |true=>
  obtain⟨⟨hL,-⟩,hE⟩:=hbl rfl
  have hT:=xqy hE
  have hR:=hT.r
  have hn:=taskE_net hE
  have hM:=phM hT.hp
  obtain⟨l8,p14⟩:=xsc hL.few hR
  have hpl:=hT.lp
  have hwl:=hT.lw
  simp[g3,ha.len xke]
  by_cases h20:(20:Int)<(F.length:Int)
  .simp[h20]
  simp[h20,g3,hb.len xke]
  by_cases h21:(20:Int)<(G.length:Int)
  .simp[h21]
  simp[h21,g2,hs.len xl8]
  by_cases hl0:l.length=0
  .have:l=[]:=x144.mp hl0
   simp[this]
  have hl0':¬l=[]:=λe=>hl0 (by rw[e];rfl)
  obtain⟨s',p',f',g',hs',hp',hf',hg',hcp⟩:=w_Copy7 28 hs hp hf hg (by omega) (by omega) (by omega) (by omega) m1
  obtain⟨pa,pb,hpa,hpb,hsol⟩:=xxq 16 hs' hp' hf' hg' (by omega) (by omega) hL.few 0 m1
  simp[hl0',g2,hcp,hsol]
  have hw0:wi 0 0 ((l.length:Int)-1)=true:=wi_iff.mpr ⟨by omega,by omega⟩
  by_cases hO:xn1 l P ph=[]
  rotate_left
  .have e1:xm7 l P ph wt 0=26:=by
    unfold xm7
    have:0<(xn1 l P ph).length:=List.length_pos_iff.mpr hO
    simp[hE,hw0,this]
   have e2:xnd l P ph wt 0=[]:=by unfold xnd;rw[e1];rfl
   rw[e2]at hpa
   simp[e1,hpa.len xke]
  have e1:∀D:Nat,D<l.length->xm7 l P ph wt D=0:=λD hD=>by
   have:wi (D:Int) 0 ((l.length:Int)-1)=true:=wi_iff.mpr ⟨by omega,by omega⟩
   unfold xm7
   simp[hE,this,hO]
  have e2:∀D:Nat,D<l.length->xnd l P ph wt D=solM l P ph D:=λD hD=>by unfold xnd;rw[e1 D hD];rfl
  have e10:xm7 l P ph wt 0=0:=e1 0 (by omega)
  have e20:xnd l P ph wt 0=solM l P ph 0:=e2 0 (by omega)
  rw[e20]at hpa
  obtain⟨s2,p2,hs2,hp2,hcn⟩:=xry 29 hs hp (by omega) (by omega) m1
  obtain⟨q,hq,hqc⟩:=w_Parts7 23 hs2 hp2 m1
  rw[x12c hn]at hq
  have hnl:=nm_len hR
  have hsl:(solM l P ph 0).length=l.length:=xnq
  simp[e10,g2,hcn,hqc,hn,hpa.len xke,hs.len xl8,hsl,hq.len xke,hnl,g3,zz2sl,ha.one,hb.one]
  have hbd:xkr [nilS,nilS] [(0,1,a),(1,1,b)]=some (.agg [a,b]):=by simp[xkr,xle,ha.cells,hb.cells]
  simp only[hbd,xka,xtj]
  simp[ha.one,hb.one]
  generalize hm2:Mem.set _ _ _=m2
  have k2:m2.get (0,0,2)=some (.row [s,p,f,g] 0 false):=by rw[<-hm2];simp[g2]
  have k10:m2.get (0,71,10)=some (.row [a,b] 0 false):=by rw[<-hm2];simp
  have hn2:m2.next=1:=by rw[<-hm2];simp[hn1]
  unfold xb8
  have hfE:∀X:List Int,cfE l P X=xlr l.length P X:=λX=>by simp[cfE,hn]
  have hq0:sIx 1 q (I 0)=some (.plit ((nmM (labA l P)).1.flatMap intE)):=hq.ix xk7 (show 0<(nmM (labA l P)).1.length by omega)
  have lq0:∀m,sLd false 1 (.plit ((nmM (labA l P)).1.flatMap intE)) m=some (I (at0 (nmM (labA l P)).1 0)):=λm=>xkn (m:=m) (show 0<(nmM (labA l P)).1.length by omega)
  have one:∀(X:List Int) (x:AV),Ints x X->X.length<=20->∀(k:Nat),k<2->(∀m,m=m2->sLd false 1 (.ptr (0,71,10) 0 k) m=some x)->∀n fc,(∀fc',∃m',xg (xk2 30) [] 0 n (.ptr (0,0,2) 0 0) pa q (.ptr (0,71,10) 0 0) (I ((k+1:Nat):Int)) m2 fc'=some (B true,m')) ->
   ∃m',xg (xk2 30) [] 0 (n+1) (.ptr (0,0,2) 0 0) pa q (.ptr (0,71,10) 0 0) (I (k:Int)) m2 fc=some (B true,m'):=by
   intro X x hx hX k hk hld n fc next
   have hk':(k:Int)<2:=by omega
   obtain⟨s3,p3,hs3,hp3,hcn3⟩:=xry 29 hs hp (by omega) (by omega) m2
   obtain⟨x',hx',hxc⟩:=xwr 29 hx (by omega) m2
   have hia:sIxA 2 1 (.ptr (0,71,10) 0 0) (I (k:Int))=some (.ptr (0,71,10) 0 k):=by simp[sIxA,asI,hk']
   have hcf:=xzq 22 hs3 hp3 hx' (by omega) m2
   have hld2:=hld m2 rfl
   simp only[xg]
   unfold x51 xb7
   have skip:∀fc',∃m',x4f (xk2 30) [] 0 (xg (xk2 30) [] 0 n) (.ptr (0,0,2) 0 0) pa q (.ptr (0,71,10) 0 0) (I (k:Int)) m2 fc'=some (B true,m'):=λfc'=>by
    unfold x4f
    simp(disch:=omega) [xk6]
    exact next _
   simp only[xkx,hk',x12o,xku,xka,xoj,xlb,k2,xmf,x13j,xlf,x13c,x12j,rd_2,hcn3,hia]
   rw[<-xlb,hld2]
   simp only[xka,hxc,hcf,xwb,x14f,x154,mkM_0,x13o,x14l,clean_agg,hs.clean1,hp.clean1,x15a,x150,ble_2,x13l,hn2]
   simp only[tR,cAp,x13y,x13o,x14l,show Nat.blt 0 1=true from rfl,x150,x13l,show Nat.beq 2 2=true from rfl,x14i,xlf,sNe_I,hfE,xka]
   by_cases hF:xlr l.length P X=0
   rotate_left
   .simp[hF]
    exact skip _
   have hTr:=(xzo hR).mp hF
   have hrf:=xzs 27 hs hp hx (by omega) hR m2
   obtain⟨sm,hsm,hsc⟩:=w_rAlongT 27 hs hp hf ⟨hg.one,hg.still1,hg.clean1⟩ hx hTr hR hpl hM (by omega) m2
   simp only[hF,x12o,x14t,xmk,xoj,xlb,k2,xmf,x13j,xlf,x13c,x12j,rd_2,xka,hia]
   rw[<-xlb,hld2]
   simp only[xka,hrf,hF,x12o,x14t,xwb,x14f,x154,sNe_I,xmk,xlb,k2,xmf,x13j,xlf,x12j,rd_4,hia]
   rw[<-xlb,hld2]
   simp only[xka,hsc]
   have hpl0:(phiL l.length (potF l P X ph)).length=l.length:=xls _ _
   refine xkq (N:=l.length) (σ:=Unit) (λn2 i _ m fc=>x21 (xk2 30) [] 0 (xg (xk2 30) [] 0 n) n2 (.ptr (0,0,2) 0 0) pa q (.ptr (0,71,10) 0 0) (I (k:Int)) sm (I i) m fc) (λi _ m=>m=m2) (λr=>∃m',r=some (B true,m')) ?_ ?_ NN 0 () m2 _ (by omega) (by rw[xkj];omega) rfl
   .rintro n2 i-m fc hi hm next2
    rw[hm]
    have hi':(i:Int)<(l.length:Int):=by omega
    have ixq:=hq.ix xk7 (show i<(nmM (labA l P)).1.length by omega)
    have ldq:=λm=>xkn (m:=m) (show i<(nmM (labA l P)).1.length by omega)
    have ixp:=hpa.ix xk7 (show i<(solM l P ph 0).length by omega)
    have ldp:=λm=>xkn (m:=m) (show i<(solM l P ph 0).length by omega)
    have ixs:=hsm.ix xk7 (show i<(phiL l.length (potF l P X ph)).length by omega)
    have lds:=λm=>xkn (m:=m) (show i<(phiL l.length (potF l P X ph)).length by omega)
    have ixs0:sIx 1 sm (I 0)=some (.plit ((phiL l.length (potF l P X ph)).flatMap intE)):=hsm.ix xk7 (show 0<(phiL l.length (potF l P X ph)).length by omega)
    have lds0:∀m,sLd false 1 (.plit ((phiL l.length (potF l P X ph)).flatMap intE)) m=some (I (at0 (phiL l.length (potF l P X ph)) 0)):=λm=>xkn (m:=m) (show 0<(phiL l.length (potF l P X ph)).length by omega)
    have hnm:=(nm_iff hR hi (show 0<l.length by omega)).2
    rw[xq5 hi]at ldp
    have s1:=xow (n:=l.length) (φ:=potF l P X ph) (v:=(i:Int)) (by omega) (by omega)
    have s0:=xow (n:=l.length) (φ:=potF l P X ph) (v:=0) (by omega) (by omega)
    rw[x12t]at s1
    have s0':at0 (phiL l.length (potF l P X ph)) 0=potF l P X ph 0:=s0
    have a1:=xxt hR hTr hpl hO hi
    have a0:=xxt hR hTr hpl hO (show 0<l.length by omega)
    have b1:=xse hR hpl hM l8 hi
    have b0:=xse hR hpl hM l8 (show 0<l.length by omega)
    have a0':potF l P X ph 0=potL l P ph 0:=a0
    have b0':(potL l P ph 0).natAbs<=800000000:=b0
    have hsx:=xq4 hR hpl hM l8 (show 0<l.length by omega) hi
    have r1:solX l P ph (0:Nat) i=solX l P ph 0 i:=rfl
    have r2:potL l P ph (0:Nat)=potL l P ph 0:=rfl
    rw[r1,r2]at hsx
    rw[s1,a1]at lds
    rw[s0',a0']at lds0
    simp only[x21]
    unfold x50
    have hstep:∀fc',∃m',x21 (xk2 30) [] 0 (xg (xk2 30) [] 0 n) n2 (.ptr (0,0,2) 0 0) pa q (.ptr (0,71,10) 0 0) (I (k:Int)) sm (I ((i:Int)+1)) m2 fc'=some (B true,m'):=λfc'=>next2 () m2 fc' rfl
    rcases hsx with ⟨c1,c2,c3,c4⟩|⟨c1,c2⟩
    .have hv:¬solX l P ph 0 i=1000000000000:=by omega
     simp(disch:=omega) [hpa.len xke,hsl,hi',ixq,ldq,hq0,lq0,ixp,ldp,hnm,c1,hv,neqB,ixs,lds,ixs0,lds0,c2]
     have hv2:¬potL l P ph i-potL l P ph 0=1000000000000:=by omega
     simp(disch:=omega) [hv2,neqB,ixp,ldp,c2,ixs,lds,ixs0,lds0]
     exact hstep _
    .simp(disch:=omega) [hpa.len xke,hsl,hi',ixq,ldq,hq0,lq0,ixp,ldp,hnm,c1,c2,neqB]
     exact hstep _
   .rintro n2-m fc hm
    rw[hm]
    simp only[x21]
    unfold x50
    simp[hpa.len xke,hsl]
    exact skip _
  obtain⟨j,hj⟩:∃j,NN=j+1+1+1:=⟨NN-3,by rw[xkj]⟩
  rw[hj]
  refine one F a ha (by omega) 0 (by omega) (λm hm=>by rw[hm,xlb,k10];simp) _ _ λfc1=>one G b hb (by omega) 1 (by omega) (λm hm=>by rw[hm,xlb,k10];simp) _ _ λfc2=>?_
  simp only[xg]
  unfold x51
  simp
  unfold xb6
  refine xkq (N:=l.length) (σ:=Unit) (λn D _ m fc=>x35 (xk2 30) [] 0 n (.ptr (0,0,2) 0 0) pa q (I D) m fc) (λD _ m=>m=m2) (λr=>∃m',r=some (B true,m')) ?_ ?_ NN 0 () m2 _ (by omega) (by rw[xkj];omega) rfl
  .rintro n D-m fc hD hm next
   rw[hm]
   have hD':(D:Int)<(l.length:Int):=by omega
   obtain⟨s3,p3,f3,g3',hs3,hp3,hf3,hg3,hcp3⟩:=w_Copy7 28 hs hp hf hg (by omega) (by omega) (by omega) (by omega) m2
   obtain⟨qa,qb,hqa,hqb,hqsol⟩:=xxq 16 hs3 hp3 hf3 hg3 (by omega) (by omega) hL.few (D:Int) m2
   rw[e2 D hD]at hqa
   obtain⟨s4,p4,hs4,hp4,hcn4⟩:=xry 29 hs hp (by omega) (by omega) m2
   obtain⟨p',hp',hpc⟩:=xwr 29 hpa (by omega) m2
   obtain⟨mo,hmo,hmc⟩:=w_Moved 22 hs4 hp4 hp' (by omega) (D:Int) m2
   obtain⟨u1,u2⟩:=mov_sol hR hpl hM l8 hD
   have hmE:mvE l P (solM l P ph 0) D=movE l.length (solM l P ph 0) D:=by unfold mvE;simp[hn]
   have hmL:mvL l P (solM l P ph 0) D=movL l.length (solM l P ph 0) D:=by unfold mvL;simp[hn]
   rw[hmL]at hmo
   have ixq:=hq.ix xk7 (show D<(nmM (labA l P)).1.length by omega)
   have ldq:=λm=>xkn (m:=m) (show D<(nmM (labA l P)).1.length by omega)
   have hnm:=(nm_iff hR hD (show 0<l.length by omega)).2
   simp only[x35]
   unfold x4z
   by_cases c:movE l.length (solM l P ph 0) D=0
   .have hin:=λm=>w_Ints 29 hqa hmo (by rw[xnq];omega) m
    rw[u2 c]at hin
    simp(disch:=omega) [hpa.len xke,hsl,hD',k2,hcp3,hqsol,e1 D hD,hcn4,hpc,hmc,hmE,c]
    simp only[x14f,xka]
    simp(disch:=omega) [ixq,ldq,hq0,lq0,hnm,u1.mp c,neqB,hin]
    exact next () m2 _ rfl
   .have hne:¬at0 (labA l P) D=at0 (labA l P) 0:=λh=>c (u1.mpr h)
    simp(disch:=omega) [hpa.len xke,hsl,hD',k2,hcp3,hqsol,e1 D hD,hcn4,hpc,hmc,hmE,c]
    simp only[x14f,xka]
    simp(disch:=omega) [ixq,ldq,hq0,lq0,hnm,hne,neqB,c]
    exact next () m2 _ rfl
  .rintro n-m fc hm
   rw[hm]
   simp only[x35]
   unfold x4z xb5
   simp[hpa.len xke,hsl]
end Go.Ix
