import Derived.Test.YtpeakdjfagbpcaaGreatWg17
import Derived.Test.YtpeakdjfagbpcaaGreatWg7
set_option linter.unusedSimpArgs false
set_option linter.unusedVariables false
namespace Go.Ix
open Go.Proofs
def RO(m:Mem)(id:Id)(a:AV)(l:List Int):Prop:=(l=[]/\(a=nilS\/a=.slit [] 0 true))\/(l≠[]/\a=.sref id 0 0 l.length 1 true/\Ow intE m id l)
theorem RO.fr{m m':Mem}{id:Id}{a:AV}{l:List Int}(h:RO m id a l)(e:m'.get id=m.get id):RO m' id a l:=by
 rcases h with h|⟨h0,h1,h2⟩
 .exact .inl h
 .exact .inr ⟨h0,h1,h2.fr e⟩
theorem RO.frz{m:Mem}{id:Id}{a:AV}{l:List Int}(h:RO m id a l)(k:Nat):∃a',Ints a' l/\Go.Ix.frz m.get (k+2) a=some a':=by
 rcases h with ⟨rfl,rfl|rfl⟩|⟨-,rfl,h⟩
 .exact⟨nilS,Or.inl ⟨rfl,rfl⟩,rfl⟩
 .exact⟨.slit [] 0 true,Sl.lit [] true,rfl⟩
 .exact⟨_,Sl.lit l false,x2jk (k:=k) x2fq x2ji h⟩
theorem x2sw(cs:List AV)(n:Nat)(x:Bool):sBin Tryz.prog .eql x2 (.tmp 3) (.const (.slice none 0 0)) (.slit cs n x) nilS=some (B false):=by
 kernel_rfl
theorem x2v2:sBin Tryz.prog .eql x2 (.tmp 3) (.const (.slice none 0 0)) nilS nilS=some (B true):=by kernel_rfl
theorem c_Clone1(d:Nat){x:AV}{l:List Int}(h:Ints x l)(hl:l.length<=1000000)(m:Mem):∃a M,x2gq (x2f7 (d+1)) x4y [x] m=some (a,M)/\RO M (m.next,5,7) a l/\M.next=m.next+1/\∀j:Id,j.1<m.next->M.get j=m.get j:=by
 obtain⟨a,m',h1,h2,h3⟩:∃a m',x2f7 (d+1) [] x4y [x] ⟨[],m.next⟩=some (a,m')/\RO m' (m.next,5,7) a l/\m'.next=m.next+1:=by
  rw[x1d0]
  unfold xg8 xiy
  have hr:x2fh l.length 8:=by unfold x2fh;omega
  have hac:=x2mv x2fq h hr (m.next,5,7) (⟨[],m.next+1⟩:Mem)
  rcases h with ⟨rfl,rfl⟩|⟨b,rfl⟩
  .refine⟨nilS,⟨[],m.next+1⟩,?_,.inl ⟨rfl,.inl rfl⟩,rfl⟩
   simp[x2v2]
  .rcases hac with ⟨rfl,h1⟩|⟨h0,h1⟩
   .refine⟨.slit [] 0 true,⟨[],m.next+1⟩,?_,.inl ⟨rfl,.inr rfl⟩,rfl⟩
    simp[x2sw,x2hj,x2fg,x2gc,x2g2]
    exact h1 _
   .refine⟨.sref (m.next,5,7) 0 0 l.length 1 true,(⟨[],m.next+1⟩:Mem).new (m.next,5,7) (.row (l.flatMap intE) 0 false),?_,.inr ⟨h0,rfl,by unfold Ow;simp⟩,rfl⟩
    simp[x2sw,x2hj,x2fg,x2gc,x2g2]
    exact h1 _
 obtain⟨M,hc,hM,hj⟩:=call1 (l:=[x]) (by simp[h.clean]) h1
 refine⟨a,M,hc,h2.fr ?_,by omega,fun j hlt=>?_⟩
 .rw[hj,if_pos (Nat.le_refl _)]
 .rw[hj,if_neg (by omega)]
def corL(ph tu:List Int):List Int:=(List.range ph.length).map fun k=>at0 ph k-4096*at0 tu k
theorem x2hl(ph tu:List Int):(corL ph tu).length=ph.length:=by simp[corL]
theorem cor_get{ph tu:List Int}{k:Nat}(h:k<ph.length):at0 (corL ph tu) k=at0 ph k-4096*at0 tu k:=by
 rw[x2fr (by rw[x2hl];exact h)]
 simp[corL]
def x2iw(wt tu:List Int):Nat->Int
 |0=>0
 |k+1=>x2iw wt tu k+at0 wt k*((at0 tu k).natAbs:Int)
def x2ku(x:Int):Bool:=!(wi x (-1000000) 1000000)
noncomputable def ccE(l:List Scene)(P:List Pq)(ph wt tu:List Int):Int:=
 bif !decide (tu.length=P.length)then 10 else bif tu.any x2ku then 2 else bif(x2g3 l P (corL ph tu)).any (fun n=>!decide (n=0))then 26 else 0
noncomputable def ccN(l:List Scene)(P:List Pq)(ph wt tu:List Int):Int:=bif decide (ccE l P ph wt tu=0)then x2iw wt tu P.length else 0
theorem tells_tu(d:Nat):x2jy (x2f7 (d+3)) (.clo x4x []) x2ku:=by
 intro hs x m
 refine⟨m.next+1,?_⟩
 show x2f7 (d+3) hs x4x [I x] m=_
 rw[x1cz]
 unfold xg7 xix x2ku
 simp[x2pb]
theorem tells_nz(d:Nat):x2jy (x2f7 (d+1)) (.clo x4z []) (fun n=>!decide (n=0)):=by
 intro hs x m
 refine⟨m.next+1,?_⟩
 show x2f7 (d+1) hs x4z [I x] m=_
 rw[x1d2]
 unfold xga xj0
 simp
theorem cost_in{wt tu:List Int}(hw:∀k,k<wt.length->0<=at0 wt k/\at0 wt k<=1000)(ht:∀k,k<tu.length->-1000000<=at0 tu k/\at0 tu k<=1000000):∀k,k<=wt.length->k<=tu.length->0<=x2iw wt tu k/\x2iw wt tu k<=k*1000000000
 |0,_,_=>by simp[x2iw]
 |k+1,h1,h2=>by
  have ih:=cost_in hw ht k (by omega) (by omega)
  have a:=hw k (by omega)
  have b:=ht k (by omega)
  have c0:0<=at0 wt k*((at0 tu k).natAbs:Int):=Int.mul_nonneg a.1 (by omega)
  have c1:at0 wt k*((at0 tu k).natAbs:Int)<=1000*1000000:=Int.mul_le_mul a.2 (by omega) (by omega) (by omega)
  rw[x2iw]
  omega
theorem corM7{ph tu:List Int}(hp:∀k,k<ph.length->-100000000<=at0 ph k/\at0 ph k<=100000000)(ht:∀k,k<tu.length->-1000000<=at0 tu k/\at0 tu k<=1000000)(hl:tu.length=ph.length):∀k,k<(corL ph tu).length->(at0 (corL ph tu) k).natAbs<=4200000000:=fun k hk=>by
 rw[x2hl]at hk
 have:=hp k hk
 have:=ht k (by omega)
 rw[cor_get hk]
 omega
noncomputable def pcE(l:List Scene)(P:List Pq)(ph wt tu:List Int):Int:=bif !decide (taskE l P ph wt=0)then taskE l P ph wt else ccE l P ph wt tu
noncomputable def pcN(l:List Scene)(P:List Pq)(ph wt tu:List Int):Int:=bif !decide (taskE l P ph wt=0)then 0 else ccN l P ph wt tu
theorem cor_mix{ph tu:List Int}{k:Nat}(hk:k<ph.length):((corL ph tu).take k++ph.drop k).set k (at0 ph k-4096*at0 tu k)=(corL ph tu).take (k+1)++ph.drop (k+1):=by
 rw[<-cor_get hk]
 exact mix_set (x2hl ph tu) hk
theorem x2v3(d:Nat){s p f g t:AV}{l:List Scene}{P:List Pq}{ph wt tu:List Int}(hs:Sl Scene.c s l)(hp:Sl Pq.c p P)(hf:Ints f ph)(hg:Ints g wt)(ht:Ints t tu)(h1:ph.length<1000000)(h2:wt.length<1000000)(h3:tu.length<1000000)(hfw:few7 l P=true) :
 RetF (fun v=>v=.tup [I (pcN l P ph wt tu),I (pcE l P ph wt tu)]) (x2f7 (d+14) [] x4r [.agg [s,p,f,g],t] mem0):=by
 rw[x1cg]
 unfold xfm xhw
 generalize hm1:(⟨[],1⟩:Mem).new (0,0,2) (.row [s,p,f,g] 0 false)=m1
 have g2:m1.get (0,0,2)=some (.row [s,p,f,g] 0 false):=by rw[<-hm1];simp
 have n1:m1.next=1:=by rw[<-hm1];rfl
 simp[mem0,hs.one,hp.one,hf.one,hg.one,hm1,g2,x2pu (d+5) hs hp hf hg h1 h2]
 by_cases hE:taskE l P ph wt=0
 rotate_left
 .simp[hE]
  exact RetF.tup rfl (by unfold pcN pcE;simp[hE])
 have hT:=x2m3 hE
 have hR:=hT.r
 obtain⟨hl,hPl⟩:=len_few hfw hR
 have ePE:pcE l P ph wt tu=ccE l P ph wt tu:=by unfold pcE;simp[hE]
 have ePN:pcN l P ph wt tu=ccN l P ph wt tu:=by unfold pcN;simp[hE]
 rw[ePE,ePN]
 have fin:∀(e:Int) (m:Mem),e≠0->ccE l P ph wt tu=e->RetF (fun v=>v=.tup [I (ccN l P ph wt tu),I (ccE l P ph wt tu)]) (some (.tup [I 0,I e],m)):=fun e m h0 he=>
  RetF.tup rfl (by unfold ccN;rw[he];simp[h0])
 simp[hE,g2,ht.len x2fu,hp.len x2h6]
 by_cases c1:tu.length=P.length
 rotate_left
 .have c1':¬(tu.length:Int)=(P.length:Int):=by omega
  simp[c1']
  exact fin 10 _ (by omega) (by unfold ccE;simp[c1])
 have hcf:=fun m=>x2nm (d+11) ht h3 (tells_tu (d+8)) rfl m
 simp[c1,hcf]
 cases c2:tu.any x2ku with
 |true=>
  simp
  exact fin 2 _ (by omega) (by unfold ccE;simp[c1,c2])
 |false=>
  have htu:=x2nx (q:=x2ku) (fun _=>rfl) c2
  obtain⟨a,M,hcl,hRO,hMn,hMf⟩:=c_Clone1 (d+12) hf (by omega) m1
  have gM:M.get (0,0,2)=some (.row [s,p,f,g] 0 false):=by rw[hMf _ (by show 0<m1.next;omega)];exact g2
  rw[n1]at hRO
  simp[g2,hcl]
  unfold xcu
  simp[ht.len x2fu]
  refine x2gh (N:=P.length) (σ:=Unit) (fun n k _ m fc=>x3r (x2f7 (d+13)) [] 0 n (.ptr (0,0,2) 0 0) a (I (x2iw wt tu k)) t (I tu.length) (I k) m fc)
   (fun k _ m=>m.get (0,0,2)=some (.row [s,p,f,g] 0 false)/\RO m (1,5,7) a ((corL ph tu).take k++ph.drop k)) _ ?_ ?_ NN 0 () M _ (by omega) (by rw[x2fs];omega) ⟨gM,by simpa using hRO⟩
  .rintro n k-m fc hk ⟨hb,hO⟩ next
   have hk':(k:Int)<(tu.length:Int):=by omega
   have ixt:=ht.ix x2fq (show k<tu.length by omega)
   have ldt:=fun m=>x2gr (m:=m) (show k<tu.length by omega)
   have ixg:=hg.ix x2fq (show k<wt.length by rw[hT.lw];omega)
   have ldg:=fun m=>x2gr (m:=m) (show k<wt.length by rw[hT.lw];omega)
   have hkp:k<ph.length:=by rw[hT.lp];omega
   have hml:=x2m1 (l:=ph) (X:=corL ph tu) (x2hl ph tu) (k:=k) (by omega)
   rcases hO with ⟨h0,-⟩|⟨h0,rfl,hOw⟩
   .rw[h0]at hml;simp at hml;omega
   have hmx:=mix_at (l:=ph) (X:=corL ph tu) (x2hl ph tu) hkp
   have ixa:sIx 1 (.sref (1,5,7) 0 0 ((corL ph tu).take k++ph.drop k).length 1 true) (I (k:Int))=some (.ptr (1,5,7) 0 (k:Int).toNat):=x2kr (by omega) (by rw[hml];omega)
   have lda:=hOw.ldI (k:=(k:Int)) (by omega) (by rw[hml];omega)
   obtain⟨st1,st2⟩:=hOw.st1 (g:=I) (fun _=>rfl) (k:=(k:Int)) (by omega) (by rw[hml];omega) (x:=at0 ph k-4096*at0 tu k) rfl rfl
   rw[Int.toNat_natCast]at ixa lda st1 st2
   rw[hmx]at lda
   rw[cor_mix hkp]at st1 st2
   have hphk:=hT.hp k hkp
   have htk:=htu k (by omega)
   have hwk:=hT.hw k (by rw[hT.lw];omega)
   have hci:=cost_in hT.hw htu k (by rw[hT.lw];omega) (by omega)
   have hkb:(k:Int)*1000000000<=14*1000000000:=by omega
   have hc0:0<=at0 wt k*((at0 tu k).natAbs:Int):=Int.mul_nonneg hwk.1 (by omega)
   have hc1:at0 wt k*((at0 tu k).natAbs:Int)<=1000*1000000:=Int.mul_le_mul hwk.2 (by omega) (by omega) (by omega)
   have hsz:=fun m=>w_size7 (d+12) (at0 tu k) m (by omega) (by omega)
   simp only[x3r]
   unfold xct
   have hw1:w64 (4096*at0 tu k)=4096*at0 tu k:=x2fe (by omega) (by omega)
   have hw2:w64 (at0 ph k-4096*at0 tu k)=at0 ph k-4096*at0 tu k:=x2fe (by omega) (by omega)
   have hw3:w64 (at0 wt k*((at0 tu k).natAbs:Int))=at0 wt k*((at0 tu k).natAbs:Int):=x2fe (by omega) (by omega)
   simp only[x2g6,hk',decide_true,x2gd,x2fj,ixt,ldt,ixa,lda,sMul_I,hw1,x2jg,hw2,st1]
   generalize hm2:Mem.set m _ _=m2 at st2 ⊢
   have g3:m2.get (0,0,2)=some (.row [s,p,f,g] 0 false):=by rw[<-hm2,Mem.get_set,if_neg (by simp)];exact hb
   rw[hml]
   simp only[x2mt,x2i1,g3,x2jh,Nat.beq_refl,x2gx,Nat.zero_add,List.drop_succ_cons,List.drop_zero,rd_f,x2fj,ixg,ldg,hsz,sMul_I,hw3,sAdd_I]
   have hw4:w64 (x2iw wt tu k+at0 wt k*((at0 tu k).natAbs:Int))=x2iw wt tu k+at0 wt k*((at0 tu k).natAbs:Int):=x2fe (by omega) (by omega)
   have hw5:w64 ((k:Int)+1)=(k:Int)+1:=x2fe (by omega) (by omega)
   simp only[hw4,hw5]
   simp[cAp,tR]
   have hne:(corL ph tu).take (k+1)++ph.drop (k+1)≠[]:=by
    intro e
    have:=congrArg List.length e
    rw[x2m1 (l:=ph) (X:=corL ph tu) (x2hl ph tu) (k:=k+1) (by omega)]at this
    simp only[List.length_nil]at this
    omega
   have hlen2:=x2m1 (l:=ph) (X:=corL ph tu) (x2hl ph tu) (k:=k+1) (by omega)
   have:=next () m2 (fc+28) ⟨g3,.inr ⟨hne,by rw[hml,hlen2],st2⟩⟩
   rw[x2iw,hml]at this
   exact this
  .rintro n-m fc ⟨hb,hO⟩
   rw[List.take_of_length_le (by rw[x2hl,hT.lp];exact Nat.le_refl _),List.drop_of_length_le (by rw[hT.lp];exact Nat.le_refl _),List.append_nil]at hO
   have hkn:¬((P.length:Int)<(tu.length:Int)):=by omega
   have hcl:(corL ph tu).length=P.length:=by rw[x2hl,hT.lp]
   obtain⟨a',ha',hfa⟩:=hO.frz 4
   obtain⟨v,m2,hv,hmc,hmn,-⟩:=callR (call:=x2f7 (d+13)) (f:=x1u) (l:=[.agg [s,p],a]) (l':=[.agg [s,p],a']) (m:=m) (frz_two (by simp[hs.still1,hp.still1]) hfa) (x2st d hs hp ha' hR hl hPl hcl (corM7 hT.hp htu (by rw[c1,hT.lp])) (by omega))
   have hml:=x2kt l P (corL ph tu)
   have hcf2:=fun m=>x2nm (d+11) hv (by omega) (tells_nz (d+10)) rfl m
   simp only[x3r]
   unfold xct x3q
   simp only[x2g6,hkn,decide_false,x2iq,x2fj,x2mt,x2i1,hb,x2jh,Nat.beq_refl,x2gx,Nat.zero_add,List.drop_zero,rd_2,x2nt]
   rw[show x2fi [nilS,nilS] [(0,2,AV.agg [s,p])]=some (.agg [s,p]) by simp[x2fi,x2gc]]
   simp only[x2fj,hmc,hcf2]
   cases c3:(x2g3 l P (corL ph tu)).any (fun n=>!decide (n=0))with
   |true=>
    simp only[x2gd]
    exact fin 26 _ (by omega) (by unfold ccE;rw[c2,c3];simp[c1])
   |false=>
    have hc:ccE l P ph wt tu=0:=by unfold ccE;rw[c2,c3];simp[c1]
    simp only[x2iq]
    exact RetF.tup rfl (by unfold ccN;rw[hc];rfl)
theorem x2v4(d:Nat){s p f g t:AV}{l:List Scene}{P:List Pq}{ph wt tu:List Int}(hs:Sl Scene.c s l)(hp:Sl Pq.c p P)(hf:Ints f ph)(hg:Ints g wt)(ht:Ints t tu)(h1:ph.length<1000000)(h2:wt.length<1000000)(h3:tu.length<1000000)(hfw:few7 l P=true)(m:Mem) :
 x2f8 (x2f7 (d+14)) x4r [.agg [s,p,f,g],t] m=some (.tup [I (pcN l P ph wt tu),I (pcE l P ph wt tu)],m):=
 x2gy (by simp[hs.still1,hp.still1,hf.still1,hg.still1,ht.still]) (x2v3 d hs hp hf hg ht h1 h2 h3 hfw) m
theorem copy_sl{α:Type}{enc:α->List AV}{z bytes:Nat}(hz:∀x,(enc x).length=z)(hst:∀x,(enc x).all still1=true){a:AV}{l:List α}(h:Sl enc a l)(hr:x2fh l.length bytes)(s t:Nat)(m:Mem):∃b m2 b',Sl enc b' l/\Go.Ix.frz m2.get deep b=some b' /\
 ∀{R:Type} (k:AV->Mem->Option R),sApp z bytes (0,s,t) (elems m.get z a) (.slit [] 0 true) m k=k b m2:=by
 rcases x2mv hz h hr (0,s,t) m with ⟨rfl,h1⟩|⟨h0,h1⟩
 .exact⟨.slit [] 0 true,m,.slit [] 0 true,Sl.lit [] true,rfl,h1⟩
 .exact⟨_,_,.slit (l.flatMap enc) l.length false,Sl.lit l false,x2jk (k:=4) hz hst (by simp),h1⟩
theorem w_steps7(d:Nat){a:AV}{l:List Sp}(h:Sl Sp.c a l)(hl:l.length<=1000000)(m:Mem):∃b,Sl Sp.c b l/\x2f8 (x2f7 (d+1)) x4t [a] m=some (b,m):=by
 refine x2id (by simp[h.still]) ?_ m
 rw[x1ci]
 unfold xfo xhz
 obtain⟨b,m2,b',h1,h2,h3⟩:=copy_sl (bytes:=16) Sp.len Sp.still h (by unfold x2fh;omega) 3 5 (⟨[],1⟩:Mem)
 simp[mem0,x2mz,x2fg,x2gc,x2g2,h3]
 exact RetF.mk h2 h1
theorem w_closure(d:Nat){f c:AV}{ph:List Int}{w:List Sp}(hf:Ints f ph)(hc:Sl Sp.c c w)(hw:StOK7 ph.length w)(hwl:w.length<=1000){M:Nat}(hM:∀k,k<ph.length->(at0 ph k).natAbs<=M)(hMb:M<=10000000000)(m:Mem) :
 x2f8 (x2f7 (d+1)) x6b [f,c] m=some (I (sumW (phI ph) w),m):=by
 refine x2gy (by simp[hf.still,hc.still]) ?_ m
 rw[x1d5]
 unfold xge xj7 xdz
 simp[hc.len x2nu]
 refine x2gh (N:=w.length) (σ:=Unit) (fun n k _ m fc=>x4a (x2f7 d) [] 0 n f (I (sumW (phI ph) (w.take k))) c (I w.length) (I k) m fc) (fun _ _ _=>True) _ ?_ ?_ NN 0 () _ _ (by omega) (by rw[x2fs];omega) trivial
 .rintro n k-m fc hk-next
  have hk':(k:Int)<(w.length:Int):=by omega
  have ix:=hc.ix Sp.len hk
  have ld:=fun m=>x2he (m:=m) (enc:=Sp.c) Sp.len (by omega) hk
  have hsn:=sumW_snoc (phI ph) hk
  obtain⟨h1,h2⟩:=hw w[k] (List.getElem_mem hk)
  have ha:(sumW (phI ph) (w.take k)).natAbs<=(w.take k).length*M:=StOK7.abs hM fun y hy=>hw y (List.mem_of_mem_take hy)
  have hb:(w.take k).length*M<=1000*10000000000:=Nat.mul_le_mul (by simp;omega) hMb
  generalize w[k]=x at *
  simp only[Sp.c]at ld
  have ip:=hf.ixI x2fq h1.1 h1.2
  have lp:=fun m=>x2gr (m:=m) (show x.p.toNat<ph.length by omega)
  have h3:=hM x.p.toNat (by omega)
  have h4:(x.s*at0 ph x.p.toNat).natAbs=(at0 ph x.p.toNat).natAbs:=by rcases h2 with e|e<;>rw[e]<;>simp
  simp only[x4a]
  unfold xdy
  simp[hk,ix,ld,ip,lp,x2mz]
  have hw1:w64 (x.s*at0 ph x.p.toNat)=x.s*at0 ph x.p.toNat:=x2fe (by omega) (by omega)
  have hw2:w64 (sumW (phI ph) (w.take k)+x.s*at0 ph x.p.toNat)=sumW (phI ph) (w.take k)+x.s*at0 ph x.p.toNat:=x2fe (by omega) (by omega)
  have hw3:w64 ((k:Int)+1)=(k:Int)+1:=x2fe (by omega) (by omega)
  simp only[hw1,hw2,hw3]
  generalize hm2:Mem.set _ _ _=m2
  have:=next () m2 (fc+18) trivial
  rw[hsn]at this
  exact this
 .rintro n-m fc -
  simp only[x4a]
  unfold xdy x49
  simp
  exact RetF.st rfl rfl
theorem cyE_ok{P:List Pq}:∀(w:List Sp) (k:Nat) (b e:Int),cyE P k b e w=0->StOK7 P.length w/\(k≠0->Wk P w e b)/\(k=0->w≠[]->∃a,Wk P w a a)
 |[],k,b,e,h=>by
  refine⟨(fun x hx=>by cases hx),fun _=>?_,fun _ h=>absurd rfl h⟩
  simp only[cyE]at h
  by_cases c:b=e
  .exact c.symm
  .simp[c]at h
 |x::r,k,b,e,h=>by
  simp only[cyE]at h
  cases c1:wi x.p 0 ((P.length:Int)-1)with
  |false=>simp[c1]at h
  |true=>
   have hx:=wi_t c1
   by_cases c2:x.s=1\/x.s=-1
   .have hs:(!decide (x.s=1)&&!decide (x.s=-1))=false:=by rcases c2 with q|q<;>simp[q]
    rw[c1,hs]at h
    have hok:∀r',StOK7 P.length r'->StOK7 P.length (x::r'):=fun r' hr y hy=>by
     rcases List.mem_cons.mp hy with rfl|hy
     .exact⟨by omega,c2⟩
     .exact hr y hy
    by_cases c3:k=0
    .simp[c3]at h
     obtain⟨i1,i2,i3⟩:=cyE_ok r 1 (frS P x) (toS P x) h
     exact⟨hok r i1,fun h=>absurd c3 h,fun _ _=>⟨frS P x,rfl,i2 (by omega)⟩⟩
    .by_cases c4:frS P x=e
     .simp[c3,c4]at h
      obtain⟨i1,i2,i3⟩:=cyE_ok r (k+1) b (toS P x) h
      exact⟨hok r i1,fun _=>⟨c4,i2 (by omega)⟩,fun h=>absurd h c3⟩
     .simp[c3,c4]at h
   .have h1:x.s≠1:=fun e=>c2 (.inl e)
    have h2:x.s≠-1:=fun e=>c2 (.inr e)
    simp[c1,h1,h2]at h
theorem cycE_ok{P:List Pq}{w:List Sp}(h:cycE P w=0):w.length<=400/\StOK7 P.length w/\∃a,Wk P w a a:=by
 unfold cycE at h
 by_cases c1:w.length=0
 .simp[c1]at h
 .by_cases c2:400<w.length
  .simp[c1,c2]at h
  .simp[c1,c2]at h
   obtain⟨i1,i2,i3⟩:=cyE_ok w 0 0 0 h
   exact⟨by omega,i1,i3 rfl fun e=>c1 (by rw[e];rfl)⟩
noncomputable def clE(l:List Scene)(P:List Pq)(ph wt:List Int)(w:List Sp):Int:=bif !decide (taskE l P ph wt=0)then taskE l P ph wt else cycE P w
noncomputable def clN(l:List Scene)(P:List Pq)(ph wt:List Int)(w:List Sp):Int:=bif decide (clE l P ph wt w=0)then sumW (phI ph) w else 0
theorem taskE_net{l:List Scene}{P:List Pq}{ph wt:List Int}(h:taskE l P ph wt=0):(net7 l P).2=0:=by
 unfold taskE at h
 by_cases he:(net7 l P).2=0
 .exact he
 .simp[he]at h
theorem w_Closure(d:Nat){s p f g c:AV}{l:List Scene}{P:List Pq}{ph wt:List Int}{w:List Sp}(hs:Sl Scene.c s l)(hp:Sl Pq.c p P)(hf:Ints f ph)(hg:Ints g wt)(hc:Sl Sp.c c w)(h1:ph.length<1000000)(h2:wt.length<1000000)(hw:w.length<=1000)(m:Mem) :
 x2f8 (x2f7 (d+9)) x66 [.agg [s,p,f,g],c] m=some (.tup [I (clN l P ph wt w),I (clE l P ph wt w)],m):=by
 refine x2gy (by simp[hs.still1,hp.still1,hf.still1,hg.still1,hc.still]) ?_ m
 rw[x1ck]
 unfold xfr xi9
 simp[mem0,hs.one,hp.one,hf.one,hg.one,x2pu d hs hp hf hg h1 h2,x2uv d hs hp hc hw]
 by_cases hE:taskE l P ph wt=0
 rotate_left
 .have e1:clE l P ph wt w=taskE l P ph wt:=by unfold clE;simp[hE]
  simp[hE]
  exact RetF.tup rfl (by unfold clN;rw[e1];simp[hE])
 have hT:=x2m3 hE
 have hn:=taskE_net hE
 have e1:clE l P ph wt w=cycE P w:=by unfold clE;simp[hE]
 simp[hE,hn]
 by_cases c1:cycE P w=0
 .obtain⟨q1,q2,-⟩:=cycE_ok c1
  have:=w_closure (d+7) hf hc (by rw[hT.lp];exact q2) (by omega) (phM hT.hp) (by omega)
  simp[c1,this]
  exact RetF.tup rfl (by unfold clN;rw[e1,c1];rfl)
 .simp[c1]
  exact RetF.tup rfl (by unfold clN;rw[e1];simp[c1])
theorem x2sx{l:List Scene}{P:List Pq}{ph:List Int}(hph:ph.length=P.length)(hO:x2if l P ph=[]):∀{w:List Sp} {a b:Int},StOK7 P.length w->Wk P w a b->sumW (phI ph) w=potL l P ph b-potL l P ph a
 |[],a,b,_,hw=>by cases hw;simp[sumW]
 |x::r,a,b,hs,hw=>by
  obtain⟨h1,h2⟩:=hs x (List.mem_cons_self ..)
  have ih:=x2sx hph hO (fun y hy=>hs y (List.mem_cons_of_mem _ hy)) hw.2
  have hm:at0 (x2g3 l P ph) x.p.toNat=0:=by
   apply Classical.byContradiction
   intro hc
   have:x.p∈x2if l P ph:=List.mem_filter.mpr ⟨fresh_mem.mpr h1,by simpa using hc⟩
   rw[hO]at this
   cases this
  rw[x2sr (by omega),Int.toNat_of_nonneg h1.1]at hm
  have hfa:=hw.1
  rw[sumW,ih,<-hfa]
  unfold frS toS phI
  rcases h2 with e|e<;>rw[e]<;>simp<;>omega
theorem g_Copy7(d u:Nat){s p f g:AV}{l:List Scene}{P:List Pq}{ph wt:List Int}(hs:Sl Scene.c s l)(hp:Sl Pq.c p P)(hf:Ints f ph)(hg:Ints g wt)(h1:l.length<=1000000)(h2:P.length<=1000000)(h3:ph.length<=1000000)(h4:wt.length<=1000000) :
 ∃s' p' a b m',Sl Scene.c s' l/\Sl Pq.c p' P/\x2f7 (d+2) [] x1a [.agg [s,p,f,g]] ⟨[],u⟩=some (.agg [s',p',a,b],m')/\CI m' (u+1) a ph/\CI m' (u+2) b wt/\m'.next=u+3:=by
 suffices main:∀Q:O2->Prop,(∀s' p' a b m',Sl Scene.c s' l->Sl Pq.c p' P->CI m' (u+1) a ph->CI m' (u+2) b wt->m'.next=u+3->Q (some (.agg [s',p',a,b],m')))->Q (x2f7 (d+2) [] x1a [.agg [s,p,f,g]] ⟨[],u⟩)from
  main (fun r=>∃s' p' a b m',Sl Scene.c s' l/\Sl Pq.c p' P/\r=some (.agg [s',p',a,b],m')/\CI m' (u+1) a ph/\CI m' (u+2) b wt/\m'.next=u+3) fun s' p' a b m' h1 h2 h3 h4 h5=>⟨s',p',a,b,m',h1,h2,rfl,h3,h4,h5⟩
 intro Q hQ
 rw[xq3]
 unfold xau xcd
 simp[hs.one,hp.one,hf.one,hg.one,x2nz]
 generalize hm1:Mem.new _ _ _=m1
 have g1:m1.get (u,0,1)=some (.row [s,p,f,g] 0 false):=by rw[<-hm1];simp
 have n1:m1.next=u+1:=by rw[<-hm1];rfl
 obtain⟨s',p',hs',hp',hcp⟩:=x2rz d hs hp h1 h2 m1
 obtain⟨a,M,c1,c2,c3,c4⟩:=x2ny d hf h3 m1
 obtain⟨b,M2,e1,e2,e3,e4⟩:=x2ny d hg h4 M
 have gM:M.get (u,0,1)=some (.row [s,p,f,g] 0 false):=by rw[c4 _ (by show u<m1.next;omega)];exact g1
 have g2:m1.get (u,1,2)=some (.row [nilS,nilS,nilS,nilS] 0 false):=by rw[<-hm1];simp
 have gM2:M2.get (u,1,2)=some (.row [nilS,nilS,nilS,nilS] 0 false):=by rw[e4 _ (by show u<M.next;omega),c4 _ (by show u<m1.next;omega)];exact g2
 have ca:=c2.one
 have cb:=e2.one
 have hb1:Nat.blt u (u+1)=true:=by rw[Nat.blt_eq];omega
 simp[hcp,g1,c1,gM,e1]
 rw[show x2fi [nilS,nilS,nilS,nilS] [(0,2,.agg [s',p']),(2,1,a),(3,1,b)]=some (.agg [s',p',a,b]) by simp[x2fi,x2gc,ca.1,cb.1]]
 simp[gM2,hs'.one,hp'.one,ca.2.1,cb.2.1,hs.clean1,hp.clean1,hf.clean,hg.clean,cAp,tR,hb1,sLdP]
 refine hQ s' p' a b _ hs' hp' ?_ ?_ (by show M2.next=u+3;omega)
 .rw[show u+1=m1.next from n1.symm]
  exact c2.fr (by rw[Mem.get_set,if_neg (by rw[n1];simp),e4 _ (by show m1.next<M.next;omega)])
 .rw[show u+2=M.next by omega]
  exact e2.fr (by rw[Mem.get_set,if_neg (by rw[c3,n1];simp)])
theorem x2v5(d:Nat){s p f g t:AV}{l:List Scene}{P:List Pq}{ph wt tu:List Int}(hs:Sl Scene.c s l)(hp:Sl Pq.c p P)(hf:Ints f ph)(hg:Ints g wt)(ht:Ints t tu)(h1:l.length<=1000000)(h2:P.length<=1000000)(h3:ph.length<=1000000)(h4:wt.length<=1000000)(hl:tu.length=ph.length)(hpb:∀k,k<ph.length->-100000000<=at0 ph k/\at0 ph k<=100000000)(htb:∀k,k<tu.length->-1000000<=at0 tu k/\at0 tu k<=1000000) :
 RetF (fun v=>∃s' p' f' g',v=.agg [s',p',f',g']/\Sl Scene.c s' l/\Sl Pq.c p' P/\Ints f' (corL ph tu)/\Ints g' wt) (x2f7 (d+3) [] x4v [.agg [s,p,f,g],t] mem0):=by
 rw[x1cj]
 unfold xfq xi8
 simp[mem0,hs.one,hp.one,hf.one,hg.one,x2nz]
 generalize hm1:Mem.new _ _ _=m1
 have n1:m1.next=1:=by rw[<-hm1];rfl
 have g4:m1.get (0,1,4)=some (.row [nilS,nilS,nilS,nilS] 0 false):=by rw[<-hm1];simp
 obtain⟨s',p',a,b,mC,hs',hp',hc,hCa,hCb,hCn⟩:=g_Copy7 d 1 hs hp hf hg h1 h2 h3 h4
 rw[<-n1]at hc
 obtain⟨M,hM,hMn,hMg⟩:=call1 (l:=[.agg [s,p,f,g]]) (m:=m1) (by simp[clean,hs.clean1,hp.clean1,hf.clean1,hg.clean1]) hc
 have ca:=hCa.one
 have cb:=hCb.one
 have gM4:M.get (0,1,4)=some (.row [nilS,nilS,nilS,nilS] 0 false):=by rw[hMg,if_neg (by show ¬m1.next<=0;omega)];exact g4
 have hA:CI M 2 a ph:=hCa.fr (by rw[hMg,if_pos (by show m1.next<=2;omega)])
 have hB:CI M 3 b wt:=hCb.fr (by rw[hMg,if_pos (by show m1.next<=3;omega)])
 simp[hM,hs'.one,hp'.one,ca.2.1,cb.2.1]
 generalize hm2:Mem.set _ _ _=m2
 have q4:m2.get (0,1,4)=some (.row [nilS,nilS,nilS,nilS] 0 false):=by rw[<-hm2,Mem.get_set,if_neg (by simp),Mem.get_new,if_neg (by simp)];exact gM4
 have q5:m2.get (0,4,5)=some (.row [s',p',a,b] 0 false):=by rw[<-hm2];simp
 have hA2:CI m2 2 a ph:=hA.fr (by rw[<-hm2,Mem.get_set,if_neg (by simp),Mem.get_new,if_neg (by simp)])
 have hB2:CI m2 3 b wt:=hB.fr (by rw[<-hm2,Mem.get_set,if_neg (by simp),Mem.get_new,if_neg (by simp)])
 unfold xd3
 refine x2gh (N:=ph.length) (σ:=Unit) (fun n k _ m fc=>x3u (x2f7 (d+2)) [] 0 n t (.ptr (0,1,4) 0 0) (.ptr (0,4,5) 0 0) (I k) m fc)
  (fun k _ m=>m.get (0,1,4)=some (.row [nilS,nilS,nilS,nilS] 0 false)/\m.get (0,4,5)=some (.row [s',p',a,b] 0 false)/\CI m 2 a ((corL ph tu).take k++ph.drop k)/\CI m 3 b wt) _ ?_ ?_ NN 0 () m2 _ (by omega) (by rw[x2fs];omega) ⟨q4,q5,by simpa using hA2,hB2⟩
 .rintro n k-m fc hk ⟨q4,q5,hA,hB⟩ next
  have hk':(k:Int)<(tu.length:Int):=by omega
  have ixt:=ht.ix x2fq (show k<tu.length by omega)
  have ldt:=fun m=>x2gr (m:=m) (show k<tu.length by omega)
  have hml:=x2m1 (l:=ph) (X:=corL ph tu) (x2hl ph tu) (k:=k) (by omega)
  have hmx:=mix_at (l:=ph) (X:=corL ph tu) (x2hl ph tu) hk
  have hml2:=x2m1 (l:=ph) (X:=corL ph tu) (x2hl ph tu) (k:=k+1) (by omega)
  rcases hA with ⟨h0,-⟩|⟨h0,rfl,hOw⟩
  .rw[h0]at hml;simp only[List.length_nil]at hml;omega
  have ixa:sIx 1 (.sref (2,3,5) 0 0 ((corL ph tu).take k++ph.drop k).length 1 true) (I (k:Int))=some (.ptr (2,3,5) 0 (k:Int).toNat):=x2kr (by omega) (by rw[hml];omega)
  have lda:=hOw.ldI (k:=(k:Int)) (by omega) (by rw[hml];omega)
  obtain⟨st1,st2⟩:=hOw.st1 (g:=I) (fun _=>rfl) (k:=(k:Int)) (by omega) (by rw[hml];omega) (x:=at0 ph k-4096*at0 tu k) rfl rfl
  rw[Int.toNat_natCast]at ixa lda st1 st2
  rw[hmx]at lda
  rw[cor_mix hk]at st1 st2
  have hphk:=hpb k hk
  have htk:=htb k (by omega)
  have hw1:w64 (at0 tu k*4096)=at0 tu k*4096:=x2fe (by omega) (by omega)
  have hw2:w64 (at0 ph k-at0 tu k*4096)=at0 ph k-4096*at0 tu k:=by rw[x2fe (by omega) (by omega)];omega
  have hw3:w64 ((k:Int)+1)=(k:Int)+1:=x2fe (by omega) (by omega)
  simp only[x3u]
  unfold xd2
  simp only[ht.len x2fu,x2g6,hk',decide_true,x2gd,x2fj,x2mt,x2i1,q5,x2jh,Nat.beq_refl,x2gx,Nat.zero_add,List.drop_succ_cons,List.drop_zero,rd_f,ixa,ixt,ldt]
  rw[<-x2i1,lda]
  simp only[x2fj,sMul_I,hw1,x2jg,hw2,st1,sAdd_I,hw3]
  generalize hm3:Mem.set m _ _=m3 at st2 ⊢
  have hne:(corL ph tu).take (k+1)++ph.drop (k+1)≠[]:=by
   intro e
   rw[e]at hml2
   simp only[List.length_nil]at hml2
   omega
  have hg:∀j:Id,j≠(2,3,5)->m3.get j=m.get j:=fun j hj=>by rw[<-hm3,Mem.get_set,if_neg hj]
  exact next () m3 _ ⟨by rw[hg _ (by simp)];exact q4,by rw[hg _ (by simp)];exact q5,.inr ⟨hne,by rw[hml,hml2],st2⟩,hB.fr (hg _ (by simp))⟩
 .rintro n-m fc ⟨q4,q5,hA,hB⟩
  rw[List.take_of_length_le (by rw[x2hl];exact Nat.le_refl _),List.drop_of_length_le (Nat.le_refl _),List.append_nil]at hA
  have hkn:¬((ph.length:Int)<(tu.length:Int)):=by omega
  simp only[x3u]
  unfold xd2 x3t
  simp[ht.len x2fu,hkn,q5,q4,hs'.one,hp'.one,ca.2.1,cb.2.1,sLdP]
  generalize hm3:Mem.set _ _ _=m3
  obtain⟨a',ha',hfa⟩:=(hA.fr (m':=m3) (by rw[<-hm3,Mem.get_set,if_neg (by simp)])).frz 3
  obtain⟨b',hb',hfb⟩:=(hB.fr (m':=m3) (by rw[<-hm3,Mem.get_set,if_neg (by simp)])).frz 3
  exact RetF.mk (x2sv (k:=4) (x2hc _ 3 hs'.still) (x2hc _ 3 hp'.still) hfa hfb) ⟨s',p',a',b',rfl,hs',hp',ha',hb'⟩
theorem x2v6(d:Nat){s p f g t:AV}{l:List Scene}{P:List Pq}{ph wt tu:List Int}(hs:Sl Scene.c s l)(hp:Sl Pq.c p P)(hf:Ints f ph)(hg:Ints g wt)(ht:Ints t tu)(h1:l.length<=1000000)(h2:P.length<=1000000)(h3:ph.length<=1000000)(h4:wt.length<=1000000)(hl:tu.length=ph.length)(hpb:∀k,k<ph.length->-100000000<=at0 ph k/\at0 ph k<=100000000)(htb:∀k,k<tu.length->-1000000<=at0 tu k/\at0 tu k<=1000000)(m:Mem) :
 ∃s' p' f' g',Sl Scene.c s' l/\Sl Pq.c p' P/\Ints f' (corL ph tu)/\Ints g' wt/\x2f8 (x2f7 (d+3)) x4v [.agg [s,p,f,g],t] m=some (.agg [s',p',f',g'],m):=by
 obtain⟨v,⟨s',p',f',g',rfl,a1,a2,a3,a4⟩,hc⟩:=x2id (by simp[hs.still1,hp.still1,hf.still1,hg.still1,ht.still]) (x2v5 d hs hp hf hg ht h1 h2 h3 h4 hl hpb htb) m
 exact⟨s',p',f',g',a1,a2,a3,a4,hc⟩
theorem ccE_ok{l:List Scene}{P:List Pq}{ph wt tu:List Int}(h:ccE l P ph wt tu=0):tu.length=P.length/\(∀k,k<tu.length->-1000000<=at0 tu k/\at0 tu k<=1000000)/\x2if l P (corL ph tu)=[]:=by
 unfold ccE at h
 by_cases c1:tu.length=P.length
 .cases c2:tu.any x2ku with
  |true=>rw[c2]at h;simp[c1]at h
  |false=>
   cases c3:(x2g3 l P (corL ph tu)).any (fun n=>!decide (n=0))with
   |true=>rw[c2,c3]at h;simp[c1]at h
   |false=>
    refine⟨c1,x2nx (q:=x2ku) (fun _=>rfl) c2,?_⟩
    unfold x2if
    rw[List.filter_eq_nil_iff]
    intro i hi
    have hi2:=fresh_mem.mp hi
    rw[List.any_eq_false]at c3
    have hl:i.toNat<(x2g3 l P (corL ph tu)).length:=by rw[x2kt];omega
    have:=c3 _ (List.getElem_mem hl)
    rw[<-x2fr hl]at this
    simpa using this
 .simp[c1]at h
theorem law_StackClosed{s p f g t c:AV}{l:List Scene}{P:List Pq}{ph wt tu:List Int}{w:List Sp}(hs:Sl Scene.c s l)(hp:Sl Pq.c p P)(hf:Ints f ph)(hg:Ints g wt)(ht:Ints t tu)(hc:Sl Sp.c c w):∃m',x2f7 31 [] x7i [.agg [s,p,f,g],t,c] mem0=some (B true,m'):=by
 rw[x1c7]
 unfold xfb xh7
 generalize hm1:(⟨[],1⟩:Mem).new (0,0,3) (.row [s,p,f,g] 0 false)=m1
 have g3:m1.get (0,0,3)=some (.row [s,p,f,g] 0 false):=by rw[<-hm1];simp
 obtain⟨bl,hbl,hlc⟩:=w_light7 24 hs hp hf hg m1
 simp[mem0,hs.one,hp.one,hf.one,hg.one,hm1,w_awake7,g3,hlc]
 cases bl with
 |false=>simp
 |true=>
  have hL:=hbl rfl
  have ha:=hL.a
  have hb:=hL.b
  obtain⟨l1,l2⟩:=few7_len hL.few
  simp[ht.len x2fu]
  by_cases h20:(20:Int)<(tu.length:Int)
  .simp[h20]
  simp[h20,hc.len x2nu]
  by_cases h30:(30:Int)<(w.length:Int)
  .simp[h30]
  simp[h30,g3,hs.len x2gl]
  by_cases hl0:l.length=0
  .have:l=[]:=List.length_eq_zero_iff.mp hl0
   simp[this]
  have hl0':¬l=[]:=fun e=>hl0 (by rw[e];rfl)
  obtain⟨s',p',f',g',hs',hp',hf',hg',hcp⟩:=w_Copy7 28 hs hp hf hg (by omega) (by omega) (by omega) (by omega) m1
  obtain⟨t',ht',hct⟩:=x2uq 29 ht (by omega) m1
  have hcc:=x2v4 16 hs' hp' hf' hg' ht' (by omega) (by omega) (by omega) hL.few m1
  simp[hl0',g3,hcp,hct,hcc]
  by_cases hE:pcE l P ph wt tu=0
  rotate_left
  .simp[hE]
  have hT0:taskE l P ph wt=0:=by
   unfold pcE at hE
   by_cases e:taskE l P ph wt=0
   .exact e
   .simp[e]at hE
  have hT:=x2m3 hT0
  have hR:=hT.r
  have hC:ccE l P ph wt tu=0:=by unfold pcE at hE;simpa[hT0]using hE
  obtain⟨k1,k2,k3⟩:=ccE_ok hC
  obtain⟨s2,p2,f2,g2,hs2,hp2,hf2,hg2,hcor⟩:=x2v6 27 hs hp hf hg ht (by omega) (by omega) (by omega) (by omega) (by rw[k1,hT.lp]) hT.hp k2 m1
  have hcl:(corL ph tu).length=ph.length:=x2hl ph tu
  simp[hE,g3,hcor,x2nz,hs2.one,hp2.one,hf2.one,hg2.one]
  generalize hm2:Mem.set _ _ _=m2
  have q9:m2.get (0,39,9)=some (.row [s2,p2,f2,g2] 0 false):=by rw[<-hm2];simp
  have hck:=x2su 25 hs2 hp2 hf2 hg2 (by omega) (by omega) m2
  simp[q9,hck]
  by_cases hE2:taskE l P (corL ph tu) wt=0
  rotate_left
  .simp[hE2]
  have hT2:=x2m3 hE2
  obtain⟨s3,p3,f3,g3',hs3,hp3,hf3,hg3,hcp3⟩:=w_Copy7 28 hs2 hp2 hf2 hg2 (by omega) (by omega) (by omega) (by omega) m2
  obtain⟨c',hc',hst⟩:=w_steps7 29 hc (by omega) m2
  have hclo:=w_Closure 21 hs3 hp3 hf3 hg3 hc' (by omega) (by omega) (by omega) m2
  obtain⟨a,b,hA,hB,hsc⟩:=w_Solved 16 hs3 hp3 hf3 hg3 (by omega) (by omega) hL.few 0 m2
  have w0:wi 0 0 ((l.length:Int)-1)=true:=by unfold wi;rw[decide_eq_true_iff];omega
  have e1:x2hu l P (corL ph tu) wt 0=0:=by unfold x2hu;rw[k3,w0];simp[hE2]
  have e2:x2iv l P (corL ph tu) wt 0=[]:=by unfold x2iv;rw[k3,w0];simp[hE2]
  rw[e2]at hB
  have hn0:clE l P (corL ph tu) wt w=0->clN l P (corL ph tu) wt w=0:=fun e=>by
   unfold clN
   rw[e]
   have hcy:cycE P w=0:=by unfold clE at e;simpa[hE2]using e
   obtain⟨-,q2,a,q3⟩:=cycE_ok hcy
   have:=x2sx (l:=l) (P:=P) (ph:=corL ph tu) (by rw[hcl,hT.lp]) k3 q2 q3
   simp[this]
  simp[hE2,q9,hcp3,hst,hclo,hsc,e1,hB.len x2fu]
  by_cases hE3:clE l P (corL ph tu) wt w=0
  .simp[hE3,hn0 hE3,e1,hB.len x2fu]
  .simp[hE3,e1,hB.len x2fu]
end Go.Ix
