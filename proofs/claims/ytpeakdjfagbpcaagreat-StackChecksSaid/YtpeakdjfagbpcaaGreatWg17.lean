import Derived.Test.YtpeakdjfagbpcaaGreatWg16
import Derived.Test.YtpeakdjfagbpcaaGreatWg15
import Derived.Test.YtpeakdjfagbpcaaGreatWg6
set_option linter.unusedSimpArgs false
set_option linter.unusedVariables false
namespace Go.Ix
open Go.Proofs
def RO(m:Mem)(id:Id)(a:AV)(l:List Int):Prop:=(l=[]/\(a=nilS\/a=.slit [] 0 true))\/(l≠[]/\a=.sref id 0 0 l.length 1 true/\Ow intE m id l)
theorem RO.fr{m m':Mem}{id:Id}{a:AV}{l:List Int}(h:RO m id a l)(e:m'.get id=m.get id):RO m' id a l:=by
 rcases h with h|⟨h0,h1,h2⟩
 .exact .inl h
 .exact .inr ⟨h0,h1,h2.fr e⟩
theorem RO.frz{m:Mem}{id:Id}{a:AV}{l:List Int}(h:RO m id a l)(k:Nat):∃a',Ints a' l/\Go.Ix.frz m.get (k+2) a=some a':=by
 rcases h with ⟨rfl,rfl|rfl⟩|⟨-,rfl,h⟩
 .exact⟨nilS,Or.inl ⟨rfl,rfl⟩,rfl⟩
 .exact⟨.slit [] 0 true,Sl.lit [] true,rfl⟩
 .exact⟨_,Sl.lit l false,x2nm (k:=k) x2im x2l8 h⟩
theorem x2xe(cs:List AV)(n:Nat)(x:Bool):sBin Tryz.prog .eql x2 (.tmp 3) (.const (.slice none 0 0)) (.slit cs n x) nilS=some (B false):=by
 kernel_rfl
theorem x2zz:sBin Tryz.prog .eql x2 (.tmp 3) (.const (.slice none 0 0)) nilS nilS=some (B true):=by kernel_rfl
theorem c_Clone1(d:Nat){x:AV}{l:List Int}(h:Ints x l)(hl:l.length<=1000000)(m:Mem):∃a M,x2jx (x2i6 (d+1)) x60 [x] m=some (a,M)/\RO M (m.next,5,7) a l/\M.next=m.next+1/\∀j:Id,j.1<m.next->M.get j=m.get j:=by
 obtain⟨a,m',h1,h2,h3⟩:∃a m',x2i6 (d+1) [] x60 [x] ⟨[],m.next⟩=some (a,m')/\RO m' (m.next,5,7) a l/\m'.next=m.next+1:=by
  rw[x1en]
  unfold xhs xkt
  have hr:x2ik l.length 8:=by unfold x2ik;omega
  have hac:=x2rq x2im h hr (m.next,5,7) (⟨[],m.next+1⟩:Mem)
  rcases h with ⟨rfl,rfl⟩|⟨b,rfl⟩
  .refine⟨nilS,⟨[],m.next+1⟩,?_,.inl ⟨rfl,.inl rfl⟩,rfl⟩
   simp[x2zz]
  .rcases hac with ⟨rfl,h1⟩|⟨h0,h1⟩
   .refine⟨.slit [] 0 true,⟨[],m.next+1⟩,?_,.inl ⟨rfl,.inr rfl⟩,rfl⟩
    simp[x2xe,x2jy,x2ij,x2j3,x2j5]
    exact h1 _
   .refine⟨.sref (m.next,5,7) 0 0 l.length 1 true,(⟨[],m.next+1⟩:Mem).new (m.next,5,7) (.row (l.flatMap intE) 0 false),?_,.inr ⟨h0,rfl,by unfold Ow;simp⟩,rfl⟩
    simp[x2xe,x2jy,x2ij,x2j3,x2j5]
    exact h1 _
 obtain⟨M,hc,hM,hj⟩:=call1 (l:=[x]) (by simp[h.clean]) h1
 refine⟨a,M,hc,h2.fr ?_,by omega,fun j hlt=>?_⟩
 .rw[hj,if_pos (Nat.le_refl _)]
 .rw[hj,if_neg (by omega)]
def corL(ph tu:List Int):List Int:=(List.range ph.length).map fun k=>at0 ph k-4096*at0 tu k
theorem x2l0(ph tu:List Int):(corL ph tu).length=ph.length:=by simp[corL]
theorem x2s6{ph tu:List Int}{k:Nat}(h:k<ph.length):at0 (corL ph tu) k=at0 ph k-4096*at0 tu k:=by
 rw[x2io (by rw[x2l0];exact h)]
 simp[corL]
def x2jv(wt tu:List Int):Nat->Int
 |0=>0
 |k+1=>x2jv wt tu k+at0 wt k*((at0 tu k).natAbs:Int)
def x2ks(x:Int):Bool:=!(wi x (-1000000) 1000000)
noncomputable def ccE(l:List Scene)(P:List Pq)(ph wt tu:List Int):Int:=
 bif !decide (tu.length=P.length)then 10 else bif tu.any x2ks then 2 else bif(x2ie l P (corL ph tu)).any (fun n=>!decide (n=0))then 26 else 0
noncomputable def ccN(l:List Scene)(P:List Pq)(ph wt tu:List Int):Int:=bif decide (ccE l P ph wt tu=0)then x2jv wt tu P.length else 0
theorem tells_tu(d:Nat):x2mg (x2i6 (d+3)) (.clo x5z []) x2ks:=by
 intro hs x m
 refine⟨m.next+1,?_⟩
 show x2i6 (d+3) hs x5z [I x] m=_
 rw[x1em]
 unfold xhr xks x2ks
 simp[x2rk]
theorem tells_nz(d:Nat):x2mg (x2i6 (d+1)) (.clo x61 []) (fun n=>!decide (n=0)):=by
 intro hs x m
 refine⟨m.next+1,?_⟩
 show x2i6 (d+1) hs x61 [I x] m=_
 rw[x1ep]
 unfold xhu xkv
 simp
theorem x2u5{wt tu:List Int}(hw:∀k,k<wt.length->0<=at0 wt k/\at0 wt k<=1000)(ht:∀k,k<tu.length->-1000000<=at0 tu k/\at0 tu k<=1000000):∀k,k<=wt.length->k<=tu.length->0<=x2jv wt tu k/\x2jv wt tu k<=k*1000000000
 |0,_,_=>by simp[x2jv]
 |k+1,h1,h2=>by
  have ih:=x2u5 hw ht k (by omega) (by omega)
  have a:=hw k (by omega)
  have b:=ht k (by omega)
  have c0:0<=at0 wt k*((at0 tu k).natAbs:Int):=Int.mul_nonneg a.1 (by omega)
  have c1:at0 wt k*((at0 tu k).natAbs:Int)<=1000*1000000:=Int.mul_le_mul a.2 (by omega) (by omega) (by omega)
  rw[x2jv]
  omega
theorem corM7{ph tu:List Int}(hp:∀k,k<ph.length->-100000000<=at0 ph k/\at0 ph k<=100000000)(ht:∀k,k<tu.length->-1000000<=at0 tu k/\at0 tu k<=1000000)(hl:tu.length=ph.length):∀k,k<(corL ph tu).length->(at0 (corL ph tu) k).natAbs<=4200000000:=fun k hk=>by
 rw[x2l0]at hk
 have:=hp k hk
 have:=ht k (by omega)
 rw[x2s6 hk]
 omega
noncomputable def pcE(l:List Scene)(P:List Pq)(ph wt tu:List Int):Int:=bif !decide (taskE l P ph wt=0)then taskE l P ph wt else ccE l P ph wt tu
noncomputable def pcN(l:List Scene)(P:List Pq)(ph wt tu:List Int):Int:=bif !decide (taskE l P ph wt=0)then 0 else ccN l P ph wt tu
theorem cor_mix{ph tu:List Int}{k:Nat}(hk:k<ph.length):((corL ph tu).take k++ph.drop k).set k (at0 ph k-4096*at0 tu k)=(corL ph tu).take (k+1)++ph.drop (k+1):=by
 rw[<-x2s6 hk]
 exact x2tn (x2l0 ph tu) hk
theorem x300(d:Nat){s p f g t:AV}{l:List Scene}{P:List Pq}{ph wt tu:List Int}(hs:Sl Scene.c s l)(hp:Sl Pq.c p P)(hf:Ints f ph)(hg:Ints g wt)(ht:Ints t tu)(h1:ph.length<1000000)(h2:wt.length<1000000)(h3:tu.length<1000000)(hfw:few7 l P=true) :
 RetF (fun v=>v=.tup [I (pcN l P ph wt tu),I (pcE l P ph wt tu)]) (x2i6 (d+14) [] x3j [.agg [s,p,f,g],t] mem0):=by
 rw[x1dw]
 unfold xh2 xjt
 generalize hm1:(⟨[],1⟩:Mem).new (0,0,2) (.row [s,p,f,g] 0 false)=m1
 have g2:m1.get (0,0,2)=some (.row [s,p,f,g] 0 false):=by rw[<-hm1];simp
 have n1:m1.next=1:=by rw[<-hm1];rfl
 simp[mem0,hs.one,hp.one,hf.one,hg.one,hm1,g2,x2u0 (d+5) hs hp hf hg h1 h2]
 by_cases hE:taskE l P ph wt=0
 rotate_left
 .simp[hE]
  exact RetF.tup rfl (by unfold pcN pcE;simp[hE])
 have hT:=x2s3 hE
 have hR:=hT.r
 obtain⟨hl,hPl⟩:=len_few hfw hR
 have ePE:pcE l P ph wt tu=ccE l P ph wt tu:=by unfold pcE;simp[hE]
 have ePN:pcN l P ph wt tu=ccN l P ph wt tu:=by unfold pcN;simp[hE]
 rw[ePE,ePN]
 have fin:∀(e:Int) (m:Mem),e≠0->ccE l P ph wt tu=e->RetF (fun v=>v=.tup [I (ccN l P ph wt tu),I (ccE l P ph wt tu)]) (some (.tup [I 0,I e],m)):=fun e m h0 he=>
  RetF.tup rfl (by unfold ccN;rw[he];simp[h0])
 simp[hE,g2,ht.len x2il,hp.len x2jn]
 by_cases c1:tu.length=P.length
 rotate_left
 .have c1':¬(tu.length:Int)=(P.length:Int):=by omega
  simp[c1']
  exact fin 10 _ (by omega) (by unfold ccE;simp[c1])
 have hcf:=fun m=>x2qk (d+11) ht h3 (tells_tu (d+8)) rfl m
 simp[c1,hcf]
 cases c2:tu.any x2ks with
 |true=>
  simp
  exact fin 2 _ (by omega) (by unfold ccE;simp[c1,c2])
 |false=>
  have htu:=x2qu (q:=x2ks) (fun _=>rfl) c2
  obtain⟨a,M,hcl,hRO,hMn,hMf⟩:=c_Clone1 (d+12) hf (by omega) m1
  have gM:M.get (0,0,2)=some (.row [s,p,f,g] 0 false):=by rw[hMf _ (by show 0<m1.next;omega)];exact g2
  rw[n1]at hRO
  simp[g2,hcl]
  unfold xdd
  simp[ht.len x2il]
  refine x2j1 (N:=P.length) (σ:=Unit) (fun n k _ m fc=>x4a (x2i6 (d+13)) [] 0 n (.ptr (0,0,2) 0 0) a (I (x2jv wt tu k)) t (I tu.length) (I k) m fc)
   (fun k _ m=>m.get (0,0,2)=some (.row [s,p,f,g] 0 false)/\RO m (1,5,7) a ((corL ph tu).take k++ph.drop k)) _ ?_ ?_ NN 0 () M _ (by omega) (by rw[x2in];omega) ⟨gM,by simpa using hRO⟩
  .rintro n k-m fc hk ⟨hb,hO⟩ next
   have hk':(k:Int)<(tu.length:Int):=by omega
   have ixt:=ht.ix x2im (show k<tu.length by omega)
   have ldt:=fun m=>x2j0 (m:=m) (show k<tu.length by omega)
   have ixg:=hg.ix x2im (show k<wt.length by rw[hT.lw];omega)
   have ldg:=fun m=>x2j0 (m:=m) (show k<wt.length by rw[hT.lw];omega)
   have hkp:k<ph.length:=by rw[hT.lp];omega
   have hml:=x2np (l:=ph) (X:=corL ph tu) (x2l0 ph tu) (k:=k) (by omega)
   rcases hO with ⟨h0,-⟩|⟨h0,rfl,hOw⟩
   .rw[h0]at hml;simp at hml;omega
   have hmx:=x2rv (l:=ph) (X:=corL ph tu) (x2l0 ph tu) hkp
   have ixa:sIx 1 (.sref (1,5,7) 0 0 ((corL ph tu).take k++ph.drop k).length 1 true) (I (k:Int))=some (.ptr (1,5,7) 0 (k:Int).toNat):=x2ln (by omega) (by rw[hml];omega)
   have lda:=hOw.ldI (k:=(k:Int)) (by omega) (by rw[hml];omega)
   obtain⟨st1,st2⟩:=hOw.st1 (g:=I) (fun _=>rfl) (k:=(k:Int)) (by omega) (by rw[hml];omega) (x:=at0 ph k-4096*at0 tu k) rfl rfl
   rw[Int.toNat_natCast]at ixa lda st1 st2
   rw[hmx]at lda
   rw[cor_mix hkp]at st1 st2
   have hphk:=hT.hp k hkp
   have htk:=htu k (by omega)
   have hwk:=hT.hw k (by rw[hT.lw];omega)
   have hci:=x2u5 hT.hw htu k (by rw[hT.lw];omega) (by omega)
   have hkb:(k:Int)*1000000000<=14*1000000000:=by omega
   have hc0:0<=at0 wt k*((at0 tu k).natAbs:Int):=Int.mul_nonneg hwk.1 (by omega)
   have hc1:at0 wt k*((at0 tu k).natAbs:Int)<=1000*1000000:=Int.mul_le_mul hwk.2 (by omega) (by omega) (by omega)
   have hsz:=fun m=>w_size7 (d+12) (at0 tu k) m (by omega) (by omega)
   simp only[x4a]
   unfold xdc
   have hw1:w64 (4096*at0 tu k)=4096*at0 tu k:=x2ic (by omega) (by omega)
   have hw2:w64 (at0 ph k-4096*at0 tu k)=at0 ph k-4096*at0 tu k:=x2ic (by omega) (by omega)
   have hw3:w64 (at0 wt k*((at0 tu k).natAbs:Int))=at0 wt k*((at0 tu k).natAbs:Int):=x2ic (by omega) (by omega)
   simp only[x2iv,hk',decide_true,x2iw,x2ig,ixt,ldt,ixa,lda,x2rg,hw1,x2ni,hw2,st1]
   generalize hm2:Mem.set m _ _=m2 at st2 ⊢
   have g3:m2.get (0,0,2)=some (.row [s,p,f,g] 0 false):=by rw[<-hm2,Mem.get_set,if_neg (by simp)];exact hb
   rw[hml]
   simp only[x2m0,x2jm,g3,x2kd,Nat.beq_refl,x2jf,Nat.zero_add,List.drop_succ_cons,List.drop_zero,rd_f,x2ig,ixg,ldg,hsz,x2rg,hw3,x2qe]
   have hw4:w64 (x2jv wt tu k+at0 wt k*((at0 tu k).natAbs:Int))=x2jv wt tu k+at0 wt k*((at0 tu k).natAbs:Int):=x2ic (by omega) (by omega)
   have hw5:w64 ((k:Int)+1)=(k:Int)+1:=x2ic (by omega) (by omega)
   simp only[hw4,hw5]
   simp[cAp,tR]
   have hne:(corL ph tu).take (k+1)++ph.drop (k+1)≠[]:=by
    intro e
    have:=congrArg List.length e
    rw[x2np (l:=ph) (X:=corL ph tu) (x2l0 ph tu) (k:=k+1) (by omega)]at this
    simp only[List.length_nil]at this
    omega
   have hlen2:=x2np (l:=ph) (X:=corL ph tu) (x2l0 ph tu) (k:=k+1) (by omega)
   have:=next () m2 (fc+28) ⟨g3,.inr ⟨hne,by rw[hml,hlen2],st2⟩⟩
   rw[x2jv,hml]at this
   exact this
  .rintro n-m fc ⟨hb,hO⟩
   rw[List.take_of_length_le (by rw[x2l0,hT.lp];exact Nat.le_refl _),List.drop_of_length_le (by rw[hT.lp];exact Nat.le_refl _),List.append_nil]at hO
   have hkn:¬((P.length:Int)<(tu.length:Int)):=by omega
   have hcl:(corL ph tu).length=P.length:=by rw[x2l0,hT.lp]
   obtain⟨a',ha',hfa⟩:=hO.frz 4
   obtain⟨v,m2,hv,hmc,hmn,-⟩:=callR (call:=x2i6 (d+13)) (f:=x1y) (l:=[.agg [s,p],a]) (l':=[.agg [s,p],a']) (m:=m) (frz_two (by simp[hs.still1,hp.still1]) hfa) (x2x4 d hs hp ha' hR hl hPl hcl (corM7 hT.hp htu (by rw[c1,hT.lp])) (by omega))
   have hml:=x2lo l P (corL ph tu)
   have hcf2:=fun m=>x2qk (d+11) hv (by omega) (tells_nz (d+10)) rfl m
   simp only[x4a]
   unfold xdc x49
   simp only[x2iv,hkn,decide_false,x2ky,x2ig,x2m0,x2jm,hb,x2kd,Nat.beq_refl,x2jf,Nat.zero_add,List.drop_zero,rd_2,z_graph]
   rw[show x2ih [nilS,nilS] [(0,2,AV.agg [s,p])]=some (.agg [s,p]) by simp[x2ih,x2j3]]
   simp only[x2ig,hmc,hcf2]
   cases c3:(x2ie l P (corL ph tu)).any (fun n=>!decide (n=0))with
   |true=>
    simp only[x2iw]
    exact fin 26 _ (by omega) (by unfold ccE;rw[c2,c3];simp[c1])
   |false=>
    have hc:ccE l P ph wt tu=0:=by unfold ccE;rw[c2,c3];simp[c1]
    simp only[x2ky]
    exact RetF.tup rfl (by unfold ccN;rw[hc];rfl)
theorem x301(d:Nat){s p f g t:AV}{l:List Scene}{P:List Pq}{ph wt tu:List Int}(hs:Sl Scene.c s l)(hp:Sl Pq.c p P)(hf:Ints f ph)(hg:Ints g wt)(ht:Ints t tu)(h1:ph.length<1000000)(h2:wt.length<1000000)(h3:tu.length<1000000)(hfw:few7 l P=true)(m:Mem) :
 x2i8 (x2i6 (d+14)) x3j [.agg [s,p,f,g],t] m=some (.tup [I (pcN l P ph wt tu),I (pcE l P ph wt tu)],m):=
 x2ju (by simp[hs.still1,hp.still1,hf.still1,hg.still1,ht.still]) (x300 d hs hp hf hg ht h1 h2 h3 hfw) m
theorem g_Copy7(d u:Nat){s p f g:AV}{l:List Scene}{P:List Pq}{ph wt:List Int}(hs:Sl Scene.c s l)(hp:Sl Pq.c p P)(hf:Ints f ph)(hg:Ints g wt)(h1:l.length<=1000000)(h2:P.length<=1000000)(h3:ph.length<=1000000)(h4:wt.length<=1000000) :
 ∃s' p' a b m',Sl Scene.c s' l/\Sl Pq.c p' P/\x2i6 (d+2) [] xy [.agg [s,p,f,g]] ⟨[],u⟩=some (.agg [s',p',a,b],m')/\CI m' (u+1) a ph/\CI m' (u+2) b wt/\m'.next=u+3:=by
 suffices main:∀Q:O2->Prop,(∀s' p' a b m',Sl Scene.c s' l->Sl Pq.c p' P->CI m' (u+1) a ph->CI m' (u+2) b wt->m'.next=u+3->Q (some (.agg [s',p',a,b],m')))->Q (x2i6 (d+2) [] xy [.agg [s,p,f,g]] ⟨[],u⟩)from
  main (fun r=>∃s' p' a b m',Sl Scene.c s' l/\Sl Pq.c p' P/\r=some (.agg [s',p',a,b],m')/\CI m' (u+1) a ph/\CI m' (u+2) b wt/\m'.next=u+3) fun s' p' a b m' h1 h2 h3 h4 h5=>⟨s',p',a,b,m',h1,h2,rfl,h3,h4,h5⟩
 intro Q hQ
 rw[xs8]
 unfold xbj xct
 simp[hs.one,hp.one,hf.one,hg.one,x2u1]
 generalize hm1:Mem.new _ _ _=m1
 have g1:m1.get (u,0,1)=some (.row [s,p,f,g] 0 false):=by rw[<-hm1];simp
 have n1:m1.next=u+1:=by rw[<-hm1];rfl
 obtain⟨s',p',hs',hp',hcp⟩:=x2wb d hs hp h1 h2 m1
 obtain⟨a,M,c1,c2,c3,c4⟩:=x2s4 d hf h3 m1
 obtain⟨b,M2,e1,e2,e3,e4⟩:=x2s4 d hg h4 M
 have gM:M.get (u,0,1)=some (.row [s,p,f,g] 0 false):=by rw[c4 _ (by show u<m1.next;omega)];exact g1
 have g2:m1.get (u,1,2)=some (.row [nilS,nilS,nilS,nilS] 0 false):=by rw[<-hm1];simp
 have gM2:M2.get (u,1,2)=some (.row [nilS,nilS,nilS,nilS] 0 false):=by rw[e4 _ (by show u<M.next;omega),c4 _ (by show u<m1.next;omega)];exact g2
 have ca:=c2.one
 have cb:=e2.one
 have hb1:Nat.blt u (u+1)=true:=by rw[Nat.blt_eq];omega
 simp[hcp,g1,c1,gM,e1]
 rw[show x2ih [nilS,nilS,nilS,nilS] [(0,2,.agg [s',p']),(2,1,a),(3,1,b)]=some (.agg [s',p',a,b]) by simp[x2ih,x2j3,ca.1,cb.1]]
 simp[gM2,hs'.one,hp'.one,ca.2.1,cb.2.1,hs.clean1,hp.clean1,hf.clean,hg.clean,cAp,tR,hb1,sLdP]
 refine hQ s' p' a b _ hs' hp' ?_ ?_ (by show M2.next=u+3;omega)
 .rw[show u+1=m1.next from n1.symm]
  exact c2.fr (by rw[Mem.get_set,if_neg (by rw[n1];simp),e4 _ (by show m1.next<M.next;omega)])
 .rw[show u+2=M.next by omega]
  exact e2.fr (by rw[Mem.get_set,if_neg (by rw[c3,n1];simp)])
theorem x302(d:Nat){s p f g t:AV}{l:List Scene}{P:List Pq}{ph wt tu:List Int}(hs:Sl Scene.c s l)(hp:Sl Pq.c p P)(hf:Ints f ph)(hg:Ints g wt)(ht:Ints t tu)(h1:l.length<=1000000)(h2:P.length<=1000000)(h3:ph.length<=1000000)(h4:wt.length<=1000000)(hl:tu.length=ph.length)(hpb:∀k,k<ph.length->-100000000<=at0 ph k/\at0 ph k<=100000000)(htb:∀k,k<tu.length->-1000000<=at0 tu k/\at0 tu k<=1000000) :
 RetF (fun v=>∃s' p' f' g',v=.agg [s',p',f',g']/\Sl Scene.c s' l/\Sl Pq.c p' P/\Ints f' (corL ph tu)/\Ints g' wt) (x2i6 (d+3) [] x3m [.agg [s,p,f,g],t] mem0):=by
 rw[x1e3]
 unfold xh8 xk4
 simp[mem0,hs.one,hp.one,hf.one,hg.one,x2u1]
 generalize hm1:Mem.new _ _ _=m1
 have n1:m1.next=1:=by rw[<-hm1];rfl
 have g4:m1.get (0,1,4)=some (.row [nilS,nilS,nilS,nilS] 0 false):=by rw[<-hm1];simp
 obtain⟨s',p',a,b,mC,hs',hp',hc,hCa,hCb,hCn⟩:=g_Copy7 d 1 hs hp hf hg h1 h2 h3 h4
 rw[<-n1]at hc
 obtain⟨M,hM,hMn,hMg⟩:=call1 (l:=[.agg [s,p,f,g]]) (m:=m1) (by simp[clean,hs.clean1,hp.clean1,hf.clean1,hg.clean1]) hc
 have ca:=hCa.one
 have cb:=hCb.one
 have gM4:M.get (0,1,4)=some (.row [nilS,nilS,nilS,nilS] 0 false):=by rw[hMg,if_neg (by show ¬m1.next<=0;omega)];exact g4
 have hA:CI M 2 a ph:=hCa.fr (by rw[hMg,if_pos (by show m1.next<=2;omega)])
 have hB:CI M 3 b wt:=hCb.fr (by rw[hMg,if_pos (by show m1.next<=3;omega)])
 simp[hM,hs'.one,hp'.one,ca.2.1,cb.2.1]
 generalize hm2:Mem.set _ _ _=m2
 have q4:m2.get (0,1,4)=some (.row [nilS,nilS,nilS,nilS] 0 false):=by rw[<-hm2,Mem.get_set,if_neg (by simp),Mem.get_new,if_neg (by simp)];exact gM4
 have q5:m2.get (0,4,5)=some (.row [s',p',a,b] 0 false):=by rw[<-hm2];simp
 have hA2:CI m2 2 a ph:=hA.fr (by rw[<-hm2,Mem.get_set,if_neg (by simp),Mem.get_new,if_neg (by simp)])
 have hB2:CI m2 3 b wt:=hB.fr (by rw[<-hm2,Mem.get_set,if_neg (by simp),Mem.get_new,if_neg (by simp)])
 unfold xdz
 refine x2j1 (N:=ph.length) (σ:=Unit) (fun n k _ m fc=>x4n (x2i6 (d+2)) [] 0 n t (.ptr (0,1,4) 0 0) (.ptr (0,4,5) 0 0) (I k) m fc)
  (fun k _ m=>m.get (0,1,4)=some (.row [nilS,nilS,nilS,nilS] 0 false)/\m.get (0,4,5)=some (.row [s',p',a,b] 0 false)/\CI m 2 a ((corL ph tu).take k++ph.drop k)/\CI m 3 b wt) _ ?_ ?_ NN 0 () m2 _ (by omega) (by rw[x2in];omega) ⟨q4,q5,by simpa using hA2,hB2⟩
 .rintro n k-m fc hk ⟨q4,q5,hA,hB⟩ next
  have hk':(k:Int)<(tu.length:Int):=by omega
  have ixt:=ht.ix x2im (show k<tu.length by omega)
  have ldt:=fun m=>x2j0 (m:=m) (show k<tu.length by omega)
  have hml:=x2np (l:=ph) (X:=corL ph tu) (x2l0 ph tu) (k:=k) (by omega)
  have hmx:=x2rv (l:=ph) (X:=corL ph tu) (x2l0 ph tu) hk
  have hml2:=x2np (l:=ph) (X:=corL ph tu) (x2l0 ph tu) (k:=k+1) (by omega)
  rcases hA with ⟨h0,-⟩|⟨h0,rfl,hOw⟩
  .rw[h0]at hml;simp only[List.length_nil]at hml;omega
  have ixa:sIx 1 (.sref (2,3,5) 0 0 ((corL ph tu).take k++ph.drop k).length 1 true) (I (k:Int))=some (.ptr (2,3,5) 0 (k:Int).toNat):=x2ln (by omega) (by rw[hml];omega)
  have lda:=hOw.ldI (k:=(k:Int)) (by omega) (by rw[hml];omega)
  obtain⟨st1,st2⟩:=hOw.st1 (g:=I) (fun _=>rfl) (k:=(k:Int)) (by omega) (by rw[hml];omega) (x:=at0 ph k-4096*at0 tu k) rfl rfl
  rw[Int.toNat_natCast]at ixa lda st1 st2
  rw[hmx]at lda
  rw[cor_mix hk]at st1 st2
  have hphk:=hpb k hk
  have htk:=htb k (by omega)
  have hw1:w64 (at0 tu k*4096)=at0 tu k*4096:=x2ic (by omega) (by omega)
  have hw2:w64 (at0 ph k-at0 tu k*4096)=at0 ph k-4096*at0 tu k:=by rw[x2ic (by omega) (by omega)];omega
  have hw3:w64 ((k:Int)+1)=(k:Int)+1:=x2ic (by omega) (by omega)
  simp only[x4n]
  unfold xdy
  simp only[ht.len x2il,x2iv,hk',decide_true,x2iw,x2ig,x2m0,x2jm,q5,x2kd,Nat.beq_refl,x2jf,Nat.zero_add,List.drop_succ_cons,List.drop_zero,rd_f,ixa,ixt,ldt]
  rw[<-x2jm,lda]
  simp only[x2ig,x2rg,hw1,x2ni,hw2,st1,x2qe,hw3]
  generalize hm3:Mem.set m _ _=m3 at st2 ⊢
  have hne:(corL ph tu).take (k+1)++ph.drop (k+1)≠[]:=by
   intro e
   rw[e]at hml2
   simp only[List.length_nil]at hml2
   omega
  have hg:∀j:Id,j≠(2,3,5)->m3.get j=m.get j:=fun j hj=>by rw[<-hm3,Mem.get_set,if_neg hj]
  exact next () m3 _ ⟨by rw[hg _ (by simp)];exact q4,by rw[hg _ (by simp)];exact q5,.inr ⟨hne,by rw[hml,hml2],st2⟩,hB.fr (hg _ (by simp))⟩
 .rintro n-m fc ⟨q4,q5,hA,hB⟩
  rw[List.take_of_length_le (by rw[x2l0];exact Nat.le_refl _),List.drop_of_length_le (Nat.le_refl _),List.append_nil]at hA
  have hkn:¬((ph.length:Int)<(tu.length:Int)):=by omega
  simp only[x4n]
  unfold xdy x4m
  simp[ht.len x2il,hkn,q5,q4,hs'.one,hp'.one,ca.2.1,cb.2.1,sLdP]
  generalize hm3:Mem.set _ _ _=m3
  obtain⟨a',ha',hfa⟩:=(hA.fr (m':=m3) (by rw[<-hm3,Mem.get_set,if_neg (by simp)])).frz 3
  obtain⟨b',hb',hfb⟩:=(hB.fr (m':=m3) (by rw[<-hm3,Mem.get_set,if_neg (by simp)])).frz 3
  exact RetF.mk (x2x6 (k:=4) (x2kc _ 3 hs'.still) (x2kc _ 3 hp'.still) hfa hfb) ⟨s',p',a',b',rfl,hs',hp',ha',hb'⟩
end Go.Ix
