import Derived.Test.YtpeakdjfagbpcaaGreatWg17
import Derived.Test.YtpeakdjfagbpcaaGreatWg6
import Derived.Test.YtpeakdjfagbpcaaGreatWg15
import Derived.Test.YtpeakdjfagbpcaaGreatWg7
import Derived.Test.YtpeakdjfagbpcaaGreatWg5
import Derived.Test.YtpeakdjfagbpcaaGreatWg8
import Derived.Test.YtpeakdjfagbpcaaGreatWg9
import Derived.Test.YtpeakdjfagbpcaaGreatWg16
set_option linter.unusedSimpArgs false
set_option linter.unusedVariables false
namespace Go.Ix
open Go.Proofs
def RO(m:Mem)(id:Id)(a:AV)(l:List Int):Prop:=(l=[]/\(a=nilS\/a=.slit [] 0 true))\/(l≠[]/\a=.sref id 0 0 l.length 1 true/\Ow intE m id l)
theorem RO.fr{m m':Mem}{id:Id}{a:AV}{l:List Int}(h:RO m id a l)(e:m'.get id=m.get id):RO m' id a l:=by
 rcases h with h|⟨h0,h1,h2⟩
 .exact .inl h
 .exact .inr ⟨h0,h1,h2.fr e⟩
theorem RO.frz{m:Mem}{id:Id}{a:AV}{l:List Int}(h:RO m id a l)(k:Nat):∃a',Ints a' l/\Go.Ix.frz m.get (k+2) a=some a':=by
 rcases h with ⟨rfl,rfl|rfl⟩|⟨-,rfl,h⟩
 .exact⟨nilS,Or.inl ⟨rfl,rfl⟩,rfl⟩
 .exact⟨.slit [] 0 true,Sl.lit [] true,rfl⟩
 .exact⟨_,Sl.lit l false,x172 (k:=k) x14m x195 h⟩
theorem x1gj(d:Nat){f c:AV}{ph:List Int}{w:List Sp}(hf:Ints f ph)(hc:Sl Sp.c c w)(hw:StOK7 ph.length w)(hwl:w.length<=1000){M:Nat}(hM:∀k,k<ph.length->(at0 ph k).natAbs<=M)(hMb:M<=10000000000)(m:Mem) :
 x13f (x13e (d+1)) x3r [f,c] m=some (I (sumW (phI ph) w),m):=by
 refine x14g (by simp[hf.still,hc.still]) ?_ m
 rw[xmf]
 unfold x9z xby x7x
 simp[hc.len x155]
 refine x142 (N:=w.length) (σ:=Unit) (fun n k _ m fc=>x2z (x13e d) [] 0 n f (I (sumW (phI ph) (w.take k))) c (I w.length) (I k) m fc) (fun _ _ _=>True) _ ?_ ?_ NN 0 () _ _ (by omega) (by rw[x13p];omega) trivial
 .rintro n k-m fc hk-next
  have hk':(k:Int)<(w.length:Int):=by omega
  have ix:=hc.ix Sp.len hk
  have ld:=fun m=>x14s (m:=m) (enc:=Sp.c) Sp.len (by omega) hk
  have hsn:=x1gg (phI ph) hk
  obtain⟨h1,h2⟩:=hw w[k] (List.getElem_mem hk)
  have ha:(sumW (phI ph) (w.take k)).natAbs<=(w.take k).length*M:=StOK7.abs hM fun y hy=>hw y (List.mem_of_mem_take hy)
  have hb:(w.take k).length*M<=1000*10000000000:=Nat.mul_le_mul (by simp;omega) hMb
  generalize w[k]=x at *
  simp only[Sp.c]at ld
  have ip:=hf.ixI x14m h1.1 h1.2
  have lp:=fun m=>x15w (m:=m) (show x.p.toNat<ph.length by omega)
  have h3:=hM x.p.toNat (by omega)
  have h4:(x.s*at0 ph x.p.toNat).natAbs=(at0 ph x.p.toNat).natAbs:=by rcases h2 with e|e<;>rw[e]<;>simp
  simp only[x2z]
  unfold x7w
  simp[hk,ix,ld,ip,lp,x15m]
  have hw1:w64 (x.s*at0 ph x.p.toNat)=x.s*at0 ph x.p.toNat:=x13j (by omega) (by omega)
  have hw2:w64 (sumW (phI ph) (w.take k)+x.s*at0 ph x.p.toNat)=sumW (phI ph) (w.take k)+x.s*at0 ph x.p.toNat:=x13j (by omega) (by omega)
  have hw3:w64 ((k:Int)+1)=(k:Int)+1:=x13j (by omega) (by omega)
  simp only[hw1,hw2,hw3]
  generalize hm2:Mem.set _ _ _=m2
  have:=next () m2 (fc+18) trivial
  rw[hsn]at this
  exact this
 .rintro n-m fc -
  simp only[x2z]
  unfold x7w x2y
  simp
  exact RetF.st rfl rfl
theorem cyE_ok{P:List Pq}:∀(w:List Sp) (k:Nat) (b e:Int),cyE P k b e w=0->StOK7 P.length w/\(k≠0->Wk P w e b)/\(k=0->w≠[]->∃a,Wk P w a a)
 |[],k,b,e,h=>by
  refine⟨(fun x hx=>by cases hx),fun _=>?_,fun _ h=>absurd rfl h⟩
  simp only[cyE]at h
  by_cases c:b=e
  .exact c.symm
  .simp[c]at h
 |x::r,k,b,e,h=>by
  simp only[cyE]at h
  cases c1:wi x.p 0 ((P.length:Int)-1)with
  |false=>simp[c1]at h
  |true=>
   have hx:=wi_t c1
   by_cases c2:x.s=1\/x.s=-1
   .have hs:(!decide (x.s=1)&&!decide (x.s=-1))=false:=by rcases c2 with q|q<;>simp[q]
    rw[c1,hs]at h
    have hok:∀r',StOK7 P.length r'->StOK7 P.length (x::r'):=fun r' hr y hy=>by
     rcases List.mem_cons.mp hy with rfl|hy
     .exact⟨by omega,c2⟩
     .exact hr y hy
    by_cases c3:k=0
    .simp[c3]at h
     obtain⟨i1,i2,i3⟩:=cyE_ok r 1 (frS P x) (toS P x) h
     exact⟨hok r i1,fun h=>absurd c3 h,fun _ _=>⟨frS P x,rfl,i2 (by omega)⟩⟩
    .by_cases c4:frS P x=e
     .simp[c3,c4]at h
      obtain⟨i1,i2,i3⟩:=cyE_ok r (k+1) b (toS P x) h
      exact⟨hok r i1,fun _=>⟨c4,i2 (by omega)⟩,fun h=>absurd h c3⟩
     .simp[c3,c4]at h
   .have h1:x.s≠1:=fun e=>c2 (.inl e)
    have h2:x.s≠-1:=fun e=>c2 (.inr e)
    simp[c1,h1,h2]at h
theorem x1df{P:List Pq}{w:List Sp}(h:cycE P w=0):w.length<=400/\StOK7 P.length w/\∃a,Wk P w a a:=by
 unfold cycE at h
 by_cases c1:w.length=0
 .simp[c1]at h
 .by_cases c2:400<w.length
  .simp[c1,c2]at h
  .simp[c1,c2]at h
   obtain⟨i1,i2,i3⟩:=cyE_ok w 0 0 0 h
   exact⟨by omega,i1,i3 rfl fun e=>c1 (by rw[e];rfl)⟩
noncomputable def clE(l:List Scene)(P:List Pq)(ph wt:List Int)(w:List Sp):Int:=bif !decide (taskE l P ph wt=0)then taskE l P ph wt else cycE P w
noncomputable def clN(l:List Scene)(P:List Pq)(ph wt:List Int)(w:List Sp):Int:=bif decide (clE l P ph wt w=0)then sumW (phI ph) w else 0
theorem taskE_net{l:List Scene}{P:List Pq}{ph wt:List Int}(h:taskE l P ph wt=0):(net7 l P).2=0:=by
 unfold taskE at h
 by_cases he:(net7 l P).2=0
 .exact he
 .simp[he]at h
theorem w_Closure(d:Nat){s p f g c:AV}{l:List Scene}{P:List Pq}{ph wt:List Int}{w:List Sp}(hs:Sl Scene.c s l)(hp:Sl Pq.c p P)(hf:Ints f ph)(hg:Ints g wt)(hc:Sl Sp.c c w)(h1:ph.length<1000000)(h2:wt.length<1000000)(hw:w.length<=1000)(m:Mem) :
 x13f (x13e (d+9)) x4e [.agg [s,p,f,g],c] m=some (.tup [I (clN l P ph wt w),I (clE l P ph wt w)],m):=by
 refine x14g (by simp[hs.still1,hp.still1,hf.still1,hg.still1,hc.still]) ?_ m
 rw[xlr]
 unfold x9b xba
 simp[mem0,hs.one,hp.one,hf.one,hg.one,x1bd d hs hp hf hg h1 h2,x1ie d hs hp hc hw]
 by_cases hE:taskE l P ph wt=0
 rotate_left
 .have e1:clE l P ph wt w=taskE l P ph wt:=by unfold clE;simp[hE]
  simp[hE]
  exact RetF.tup rfl (by unfold clN;rw[e1];simp[hE])
 have hT:=x1ac hE
 have hn:=taskE_net hE
 have e1:clE l P ph wt w=cycE P w:=by unfold clE;simp[hE]
 simp[hE,hn]
 by_cases c1:cycE P w=0
 .obtain⟨q1,q2,-⟩:=x1df c1
  have:=x1gj (d+7) hf hc (by rw[hT.lp];exact q2) (by omega) (phM hT.hp) (by omega)
  simp[c1,this]
  exact RetF.tup rfl (by unfold clN;rw[e1,c1];rfl)
 .simp[c1]
  exact RetF.tup rfl (by unfold clN;rw[e1];simp[c1])
def nmF(ls:List Int)(k:Nat):List Int×Int:=(List.range k).foldl (nmS ls) (List.replicate ls.length 0,0)
structure PtI (ls:List Int) (k:Nat) (E:List (Int×Int)):Prop where
 len:(nmF ls k).1.length=ls.length
 cnt:(nmF ls k).2=(E.length:Int)
 le:E.length<=k
 get:∀v:Nat,v<ls.length->lkp E v=if v<k/\at0 ls v=v then some (at0 (nmF ls k).1 v)else none
theorem PtI.nil(ls:List Int):PtI ls 0 []:=⟨by simp[nmF],by simp[nmF],by simp,fun v _=>by simp[lkp]⟩
noncomputable def opn(l:List Scene)(P:List Pq)(ph:List Int)(i:Int):Bool:=!decide ((sumW (phI ph) (cycC P (x143 (fW l P) l.length P) i)) % 4096=0)
noncomputable def foI(l:List Scene)(P:List Pq)(ph:List Int):Option Int:=(x14u P (x143 (fW l P) l.length P)).find? (opn l P ph)
noncomputable def foW(l:List Scene)(P:List Pq)(ph:List Int):List Sp:=match foI l P ph with
 |some i=>cycC P (x143 (fW l P) l.length P) i
 |none=>[]
noncomputable def foN(l:List Scene)(P:List Pq)(ph:List Int):Int:=match foI l P ph with
 |some i=>sumW (phI ph) (cycC P (x143 (fW l P) l.length P) i)
 |none=>0
theorem find_app{α:Type}{q:α->Bool}{l r:List α}{x:α}(h:∀y∈l,q y=false)(hx:q x=true):(l++x::r).find? q=some x:=by
 rw[List.find?_append,List.find?_eq_none.mpr (fun y hy=>by simp[h y hy])]
 simp[hx]
theorem cyc_st{n:Nat}{P:List Pq}{F:List Int}(hP:∀p∈P,PqIn n p)(hT:Tree n P F){i:Int}(h0:0<=i)(h1:i<P.length):StOK7 P.length (cycC P F i):=by
 obtain⟨w1,w2,w3,w4⟩:=x19c hP hT h0 h1
 intro x hx
 rcases List.mem_cons.mp hx with rfl|hx
 .exact⟨⟨h0,h1⟩,.inl rfl⟩
 .exact⟨hT.fo.rng _ (w2 x hx).1,(w2 x hx).2⟩
structure FoM (s p f g:AV) (lid:Id) (m:Mem):Prop where
 b1:m.get (0,0,1)=some (.row [s,p,f,g] 0 false)
 b2:m.get (0,1,2)=some (.row [nilS] 0 false)
 b3:m.get (0,2,3)=some (.row [I 0] 0 false)
 b4:m.get (0,3,4)=some (.row [I 0] 0 false)
 lp:m.get lid=some (.lp none)
def FoR(w:List Sp)(n e:Int)(v:AV):Prop:=∃a,v=.tup [a,I n,I e]/\Sl Sp.c a w
theorem z_err7:xew=[I 0]:=by kernel_rfl
theorem z_int7o:x16k=[I 0]:=by kernel_rfl
theorem x1ix(d:Nat){s p f g:AV}{l:List Scene}{P:List Pq}{ph wt:List Int}(hs:Sl Scene.c s l)(hp:Sl Pq.c p P)(hf:Ints f ph)(hg:Ints g wt)(h1:ph.length<1000000)(h2:wt.length<1000000)(hE:taskE l P ph wt=0)(hfw:few7 l P=true)(hl:l.length<=8) :
 RetF (FoR (foW l P ph) (foN l P ph) (if foI l P ph=none then 12 else 0)) (x13e (d+15) [] x13 [.agg [s,p,f,g]] mem0):=by
 have hT:=x1ac hE
 have hR:=hT.r
 have hPl:=hR.pl
 have hTr:=x1d6 hR.pr (fW l P)
 rw[xeu]
 unfold x67 x6z
 simp[mem0,hs.one,hp.one,hf.one,hg.one,z_slst,z_int7o,z_err7,x1bd (d+6) hs hp hf hg h1 h2,hE]
 have hb:x13z [nilS,nilS] [(0,2,.agg [s,p])]=some (.agg [s,p]):=by simp[x13z,x14k]
 simp only[x1da,hb,x13n,x1a0]
 simp[hs.one,hp.one]
 generalize hm1:Mem.set _ _ _=m1
 have q6:m1.get (0,12,6)=some (.row [s,p] 0 false):=by rw[<-hm1];simp
 obtain⟨F,hF,hFc⟩:=x1ip (d+7) hs hp hR hl (by have:=(len_few hfw hR).2;omega) m1
 have hcl:=w_cycles (d+13) hs hp hF m1
 unfold x6y
 simp[q6,hFc,hcl,tR,cAp,hs.clean1,hp.clean1]
 unfold x6x
 simp only[sRng]
 generalize hL:((0,18,1):Id)=lid
 have hl1:lid.1=0/\lid.2.2=1/\lid.2.1=18:=by rw[<-hL];exact⟨rfl,rfl,rfl⟩
 generalize hH:(fun(args:List AV) (m:Mem)=>bif Nat.beq args.length 1&&true then x6w (x13e (d+14)) [] m.next lid (.ptr (0,0,1) 0 0) (.ptr (0,1,2) 0 0) (.ptr (0,2,3) 0 0) (.ptr (0,3,4) 0 0) (args.getD 0 U) ⟨m.hp,m.next+1⟩ 0 else none)=H
 generalize hm2:m1.new lid (.lp none)=m2
 have hne:∀j:Id,j.2.1≠18->j≠lid:=fun j hj e=>hj (by rw[e];exact hl1.2.2)
 have hM2:FoM s p f g lid m2:=by
  refine⟨?_,?_,?_,?_,?_⟩<;>rw[<-hm2]
  .rw[Mem.get_new,if_neg (hne _ (by simp)),<-hm1];simp
  .rw[Mem.get_new,if_neg (hne _ (by simp)),<-hm1];simp
  .rw[Mem.get_new,if_neg (hne _ (by simp)),<-hm1];simp
  .rw[Mem.get_new,if_neg (hne _ (by simp)),<-hm1];simp
  .simp
 obtain⟨m3,hc,hI⟩:=c_cycs d (hh:=[(lid,H)]) (id:=lid) (h:=H) hs hp hF hl (by omega) hR.pr hTr (by simp[x15v]) (m0:=m2)
  (fun pre m=>FoM s p f g lid m/\∀i∈pre,opn l P ph i=false)
  (fun m=>m.get lid=some (.lp (some .ret))/\∃i v,foI l P ph=some i/\Sl Sp.c v (cycC P (x143 (fW l P) l.length P) i)/\m.get (0,1,2)=some (.row [v] 0 false)/\m.get (0,2,3)=some (.row [I (sumW (phI ph) (cycC P (x143 (fW l P) l.length P) i))] 0 false)/\m.get (0,3,4)=some (.row [I 0] 0 false))
  (fun pre r i v m hr hpl i0 i1 hi hv ⟨hM,hpre⟩=>by
   have hst:=cyc_st hR.pr hTr i0 i1
   have hwl:=(x19c hR.pr hTr i0 i1).2.2.2
   have hcs:=fun m=>x1gj (d+13) (w:=cycC P (x143 (fW l P) l.length P) i) hf hv (by rw[hT.lp];exact hst) (by simp[cycC];omega) (phM hT.hp) (by omega) m
   have hlpn:∀mm:Mem,mm.get lid=some (.lp none)->sLpN lid mm=some mm:=fun mm h=>by unfold sLpN lpB;rw[h];rfl
   have hM1:FoM s p f g lid ⟨m.hp,m.next+1⟩:=⟨hM.b1,hM.b2,hM.b3,hM.b4,hM.lp⟩
   generalize hmm:(⟨m.hp,m.next+1⟩:Mem)=mm at hM1
   rw[<-hH]
   simp only[List.length_cons,List.length_nil,Nat.zero_add,Nat.reduceAdd,Nat.beq_refl,Bool.and_true,x14t,List.getD_cons_zero,hmm]
   unfold x6w x6v
   have hq:opn l P ph i=!decide ((sumW (phI ph) (cycC P (x143 (fW l P) l.length P) i)).tmod 4096=0):=by
    unfold opn
    congr 2
    rw[eq_iff_iff,<-Int.dvd_iff_emod_eq_zero,<-Int.dvd_iff_tmod_eq_zero]
   generalize hw:cycC P (x143 (fW l P) l.length P) i=w at *
   simp(disch:=omega) [hlpn mm hM1.lp,hM1.b1,hcs,sRem_I]
   by_cases c:(sumW (phI ph) w).tmod 4096=0
   .simp[c,hlpn mm hM1.lp]
    refine .inl ⟨by unfold live;rw[hl1.2.1,hM1.lp];rfl,hM1,fun j hj=>?_⟩
    rcases hj with hj|rfl
    .exact hpre j hj
    .rw[hq];simp[c]
   .simp[c,hM1.b2,hM1.b3,hM1.b4,hv.cells,hv.one]
    generalize hm6:Mem.set (Mem.set (Mem.set mm _ _) _ _) _ _=m6
    have ql6:m6.get lid=some (.lp none):=by
     rw[<-hm6,Mem.get_set,if_neg (hne _ (by simp)).symm,Mem.get_set,if_neg (hne _ (by simp)).symm,Mem.get_set,if_neg (hne _ (by simp)).symm]
     exact hM1.lp
    have hlx:sLpX lid .ret m6=some (m6.set lid (.lp (some .ret))):=by unfold sLpX lpB;rw[ql6];rfl
    refine⟨_,hlx,.inr ⟨by unfold live;rw[hl1.2.1];simp;rfl,by simp,i,?_,v,by rw[hw];exact hv,?_,?_,?_⟩⟩
    .unfold foI
     rw[hr]
     exact find_app hpre (by rw[hq];simp[c])
    .rw[Mem.get_set,if_neg (hne _ (by simp)),<-hm6];simp
    .rw[Mem.get_set,if_neg (hne _ (by simp)),<-hm6,hw];simp
    .rw[Mem.get_set,if_neg (hne _ (by simp)),<-hm6];simp)
  (fun m hn hg=>⟨⟨by rw[hg];exact hM2.b1,by rw[hg];exact hM2.b2,by rw[hg];exact hM2.b3,by rw[hg];exact hM2.b4,by rw[hg];exact hM2.lp⟩,fun i hi=>by cases hi⟩)
 rw[hc]
 simp only[x13n]
 rcases hI with ⟨hM,hno⟩|⟨hlp,i,v,hfo,hv,e2,e3,e4⟩
 .have hfo:foI l P ph=none:=List.find?_eq_none.mpr fun y hy=>by simp[hno y hy]
  unfold sLp
  rw[hM.lp]
  simp only
  unfold x2h
  simp[hM.b2,hM.b3,hM.b4,sLdP]
  have e1:foW l P ph=[]:=by unfold foW;rw[hfo]
  have e2:foN l P ph=0:=by unfold foN;rw[hfo]
  rw[e1,e2,hfo]
  exact RetF.mk (T:=FoR [] 0 12) (x1a4 rfl (x188 (k:=4)) (x188 (k:=4))) ⟨nilS,rfl,.inl ⟨rfl,rfl⟩⟩
 .unfold sLp
  rw[hlp]
  simp only
  simp[sLdP,e2,e3,e4]
  have q1:foW l P ph=cycC P (x143 (fW l P) l.length P) i:=by unfold foW;rw[hfo]
  have q2:foN l P ph=sumW (phI ph) (cycC P (x143 (fW l P) l.length P) i):=by unfold foN;rw[hfo]
  rw[q1,q2,hfo]
  exact RetF.mk (T:=FoR _ _ 0) (x1a4 (x14x _ 3 hv.still) (x188 (k:=4)) (x188 (k:=4))) ⟨v,rfl,hv⟩
theorem x1iy(d:Nat){s p f g:AV}{l:List Scene}{P:List Pq}{ph wt:List Int}(hs:Sl Scene.c s l)(hp:Sl Pq.c p P)(hf:Ints f ph)(hg:Ints g wt)(h1:ph.length<1000000)(h2:wt.length<1000000)(hfw:few7 l P=true)(m:Mem) :
 ∃a,Sl Sp.c a (if taskE l P ph wt=0 then foW l P ph else[])/\x13f (x13e (d+15)) x13 [.agg [s,p,f,g]] m=some (.tup [a,I (if taskE l P ph wt=0 then foN l P ph else 0),I (if taskE l P ph wt=0 then(if foI l P ph=none then 12 else 0)else taskE l P ph wt)],m):=by
 by_cases hE:taskE l P ph wt=0
 .obtain⟨v,⟨a,rfl,ha⟩,h⟩:=x15c (by simp[hs.still1,hp.still1,hf.still1,hg.still1]) (x1ix d hs hp hf hg h1 h2 hE hfw (len_few hfw (x1ac hE).r).1) m
  rw[if_pos hE,if_pos hE,if_pos hE]
  exact⟨a,ha,h⟩
 .rw[if_neg hE,if_neg hE,if_neg hE]
  refine⟨nilS,.inl ⟨rfl,rfl⟩,x14g (by simp[hs.still1,hp.still1,hf.still1,hg.still1]) ?_ m⟩
  rw[xeu]
  unfold x67 x6z
  simp[mem0,hs.one,hp.one,hf.one,hg.one,z_slst,z_int7o,z_err7,x1bd (d+6) hs hp hf hg h1 h2,hE,sLdP]
  exact RetF.mk (T:=fun v=>v=.tup [nilS,I 0,I (taskE l P ph wt)]) (x1a4 rfl rfl rfl) rfl
def FoB(w:List Sp)(n:Int)(b:Bool)(v:AV):Prop:=∃a,v=.tup [a,I n,B b]/\Sl Sp.c a w
theorem x1iz(d:Nat){s p f g:AV}{l:List Scene}{P:List Pq}{ph wt:List Int}(hs:Sl Scene.c s l)(hp:Sl Pq.c p P)(hf:Ints f ph)(hg:g.one=true/\still1 g=true/\clean1 g=true)(hT:TaskOK l P ph wt)(m:Mem) :
 ∃a,Sl Sp.c a (foW l P ph)/\x13f (x13e (d+5)) x3i [.agg [s,p,f,g]] m=some (.tup [a,I (foN l P ph),B (foI l P ph).isSome],m):=by
 have hR:=hT.r
 have hPl:=hR.pl
 have hl60:=hR.ll
 have hTr:=x1d6 hR.pr (fW l P)
 suffices key:RetF (FoB (foW l P ph) (foN l P ph) (foI l P ph).isSome) (x13e (d+5) [] x3i [.agg [s,p,f,g]] mem0) by
  obtain⟨v,⟨a,rfl,ha⟩,h⟩:=x15c (by simp[hs.still1,hp.still1,hf.still1,hg.2.1]) key m
  exact⟨a,ha,h⟩
 rw[xlt]
 unfold x9d xbc
 generalize hm1:(⟨[],1⟩:Mem).new (0,0,1) (.row [s,p,f,g] 0 false)=m1
 have g1:m1.get (0,0,1)=some (.row [s,p,f,g] 0 false):=by rw[<-hm1];simp
 obtain⟨F,hF,hFc⟩:=x1ir d hs hp hR m1
 obtain⟨v,L,hv,hL,hvc⟩:=w_rCycles d hs hp hF hR hTr m1
 obtain⟨cl1,cl2⟩:=cyc_len hR.pr hTr hL
 have hLl:L.length=(x14u P (x143 (fW l P) l.length P)).length:=by simpa using congrArg List.length hL
 simp[mem0,hs.one,hp.one,hf.one,hg.1,hm1,g1,hFc,hvc]
 unfold x71
 refine x142 (N:=L.length) (σ:=Unit) (fun n k _ m fc=>x2j (x13e (d+4)) [] 0 n (.ptr (0,0,1) 0 0) v (I k) m fc) (fun k _ m=>m=m1/\((x14u P (x143 (fW l P) l.length P)).drop k).find? (opn l P ph)=foI l P ph) _ ?_ ?_ NN 0 () m1 _ (by omega) (by rw[x13p];omega) ⟨rfl,rfl⟩
 .rintro n k-m fc hk ⟨hm,hI⟩ next
  rw[hm]
  have hk':(k:Int)<(L.length:Int):=by omega
  have ix:=hv.ix Wv.len hk
  have ld:=fun m=>ld_walk (m:=m) hk
  have hwe:L[k].w=cycC P (x143 (fW l P) l.length P) ((x14u P (x143 (fW l P) l.length P))[k]'(by omega)):=by
   have h1:(L.map Wv.w)[k]'(by simpa using hk)=((x14u P (x143 (fW l P) l.length P)).map (cycC P (x143 (fW l P) l.length P)))[k]'(by simp;omega):=by simp only[hL]
   simpa using h1
  obtain⟨i',i0,i1,i2,i3,i4⟩:=cl2 L[k] (List.getElem_mem hk)
  have hst:=cyc_st hR.pr hTr i0 i1
  rw[<-i3]at hst
  have hsm:=fun m=>w_rSum (d+3) hf L[k].h (by rw[hT.lp];exact hst) (by omega) (phM hT.hp) (by omega) m
  rw[x14f (by omega),List.find?_cons]at hI
  generalize hi:(x14u P (x143 (fW l P) l.length P))[k]'(by omega)=i at *
  have hvk:=L[k].h
  have hmd:=fun m=>w_Mod (d+3) (x:=sumW (phI ph) L[k].w) (y:=4096) (by omega) (by omega) m
  simp only[x2j]
  unfold x70
  simp(disch:=omega) [hv.len u_walks,hk',g1,ix,ld,hsm,hmd]
  by_cases c:sumW (phI ph) L[k].w % 4096=0
  .have hq:opn l P ph i=false:=by unfold opn;rw[<-hwe];simp[c]
   rw[hq]at hI
   simp[c]
   exact next () _ _ ⟨rfl,hI⟩
  .have hq:opn l P ph i=true:=by unfold opn;rw[<-hwe];simp[c]
   rw[hq]at hI
   have hfo:foI l P ph=some i:=hI.symm
   have q1:foW l P ph=L[k].w:=by unfold foW;rw[hfo];exact hwe.symm
   have q2:foN l P ph=sumW (phI ph) L[k].w:=by unfold foN;rw[hfo];simp only;rw[hwe]
   simp[c,ix,ld]
   rw[q1,q2,hfo]
   exact RetF.mk (T:=FoB _ _ true) (x1a4 (x14x _ 3 hvk.still) (x188 (k:=4)) rfl) ⟨_,rfl,hvk⟩
 .rintro n-m fc ⟨hm,hI⟩
  rw[hm]
  rw[hLl,List.drop_length]at hI
  have hfo:foI l P ph=none:=hI.symm
  have q1:foW l P ph=[]:=by unfold foW;rw[hfo]
  have q2:foN l P ph=0:=by unfold foN;rw[hfo]
  simp only[x2j]
  unfold x70 x2i
  simp[hv.len u_walks]
  rw[q1,q2,hfo]
  exact RetF.mk (T:=FoB [] 0 false) (x1a4 rfl (x188 (k:=4)) rfl) ⟨nilS,rfl,.inl ⟨rfl,rfl⟩⟩
end Go.Ix
