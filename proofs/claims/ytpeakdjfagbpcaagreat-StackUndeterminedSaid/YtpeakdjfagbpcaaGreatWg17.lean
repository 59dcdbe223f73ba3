import Derived.Test.YtpeakdjfagbpcaaGreatWg11
import Derived.Test.YtpeakdjfagbpcaaGreatWg14
import Derived.Test.YtpeakdjfagbpcaaGreatWg9
import Derived.Test.YtpeakdjfagbpcaaGreatWg2
import Derived.Test.YtpeakdjfagbpcaaGreatWg13
import Derived.Test.YtpeakdjfagbpcaaGreatWg10
set_option linter.unusedSimpArgs false
set_option linter.unusedVariables false
namespace Go.Ix
open Go.Proofs
def Stp.c(s:Stp):List AV:=[I s.fr,I s.to,I s.ed,I s.sg,I s.gain,I s.room]
theorem Stp.len(s:Stp):s.c.length=6:=rfl
theorem Stp.still1(s:Stp):s.c.all Go.Ix.still1=true:=rfl
theorem x11v:x1p=[I 0,I 0,I 0,I 0,I 0,I 0]:=by kernel_rfl
theorem x18s(a b c d e f:Int):xrr x1p [(0,1,I a),(1,1,I b),(2,1,I c),(3,1,I d),(4,1,I e),(5,1,I f)]=some (.agg [I a,I b,I c,I d,I e,I f]):=by
 simp[xrr,xsd,x11v]
theorem mkLit_6{id:Id}{a b c d e f:Int}{m:Mem}{R:Type}(k:AV->Mem->Option R):xs0 x1p [(0,6,.agg [I a,I b,I c,I d,I e,I f])] 1 6 id m k=k (.slit [I a,I b,I c,I d,I e,I f] 1 true) m:=by
 simp[xs0,xsd,xsc,x11v,x1hb,xs3]
def okS(id:Id):Prop:=id.2.2=71\/id.2.2=44
theorem x18t(call:xr5)(hs:FHs){n:Nat}{fa o t2:AV}{fl:List Int}{e:Edge}{acc:List Stp}{k:Nat}{id7:Id}{M:Mem}(hf:Ints fa fl)(hk:k<fl.length)(hkl:k<=1000)(he:EdgeIn n e)(hb:-1000<=at0 fl k/\at0 fl k<=1000)(h7:M.get id7=some (.row e.c 0 false))(hG:Gk 6 Stp.c okS M o acc)(ha:acc.length<=1000)(fc:Nat) :
 ∃m' o' fc',(∀rec0,x6a call hs 0 rec0 fa t2 o (I k) (.ptr id7 0 0) M fc=rec0 fa t2 o' (I ((k+1:Nat):Int)) m' fc') /\
  Gk 6 Stp.c okS m' o' (acc++if -e.wt<at0 fl k then[⟨e.to,e.fr,k,-1,-e.jump,e.wt+at0 fl k⟩]else[])/\∀id,¬okS id->m'.get id=M.get id:=by
 obtain⟨f0,f1,t0,t1,j0,j1,w0,w1⟩:=he
 have ix:=hf.ix xrm hk
 simp only[Edge.c]at h7
 by_cases c:-e.wt<at0 fl k
 .obtain⟨a',m2,A,hG2,c1,c2,n2,f2⟩:=hG.app Stp.len (by omega) (bytes:=48) (id0:=(0,fc+26,71)) (Or.inl rfl) (by unfold xrq;omega) ⟨e.to,e.fr,k,-1,-e.jump,e.wt+at0 fl k⟩
  refine⟨m2,a',fc+31,λrec0=>?_,by rw[x1ez c];exact hG2,f2⟩
  unfold x6a x7e
  have hel:∀M:Mem,elems M.get 6 (.slit [I e.to,I e.fr,I (k:Int),I (-1),I (-e.jump),I (e.wt+at0 fl k)] 1 true)=some ((⟨e.to,e.fr,k,-1,-e.jump,e.wt+at0 fl k⟩:Stp).c,1):=λ_=>rfl
  simp(disch:=omega) [ix,xs2,h7,c,x18s,mkLit_6,hel,A]
 .refine⟨M,o,fc+11,λrec0=>?_,by rw[x1ey c,x1g5];exact hG,λ_ _=>rfl⟩
  unfold x6a x7e
  simp(disch:=omega) [ix,xs2,h7,c]
theorem b_steps3(call:xr5)(hs:FHs){n:Nat}{fa o t2:AV}{fl:List Int}{e:Edge}{acc:List Stp}{k:Nat}{id7:Id}{M:Mem}(hf:Ints fa fl)(hk:k<fl.length)(hkl:k<=1000)(he:EdgeIn n e)(hb:-1000<=at0 fl k/\at0 fl k<=1000)(h7:M.get id7=some (.row e.c 0 false))(h7':¬okS id7)(hG:Gk 6 Stp.c okS M o acc)(ha:acc.length<=900)(fc:Nat) :
 ∃m' o' fc',(∀rec0,x7f call hs 0 rec0 fa t2 o (I k) (.ptr id7 0 0) M fc=rec0 fa t2 o' (I ((k+1:Nat):Int)) m' fc') /\
  Gk 6 Stp.c okS m' o' (acc++((if at0 fl k<e.wt then[⟨e.fr,e.to,k,1,e.jump,e.wt-at0 fl k⟩]else[])++if -e.wt<at0 fl k then[⟨e.to,e.fr,k,-1,-e.jump,e.wt+at0 fl k⟩]else[]))/\∀id,¬okS id->m'.get id=M.get id:=by
 have he':=he
 obtain⟨f0,f1,t0,t1,j0,j1,w0,w1⟩:=he'
 have ix:=hf.ix xrm hk
 have h7c:=h7
 simp only[Edge.c]at h7c
 by_cases c:at0 fl k<e.wt
 .obtain⟨a',m2,A,hG2,c1,c2,n2,f2⟩:=hG.app Stp.len (by omega) (bytes:=48) (id0:=(0,fc+24,44)) (Or.inr rfl) (by unfold xrq;omega) ⟨e.fr,e.to,k,1,e.jump,e.wt-at0 fl k⟩
  obtain⟨m3,o3,fc3,r1,r2,r3⟩:=x18t call hs (t2:=t2) hf hk hkl he hb (by rw[f2 _ h7'];exact h7) hG2 (by simp;omega) (fc+26)
  refine⟨m3,o3,fc3,λrec0=>?_,by rw[x1ez c,<-x1gy];exact r2,λid hid=>by rw[r3 id hid,f2 id hid]⟩
  rw[<-r1 rec0]
  unfold x7f
  have hel:∀M:Mem,elems M.get 6 (.slit [I e.fr,I e.to,I (k:Int),I 1,I e.jump,I (e.wt-at0 fl k)] 1 true)=some ((⟨e.fr,e.to,k,1,e.jump,e.wt-at0 fl k⟩:Stp).c,1):=λ_=>rfl
  simp(disch:=omega) [ix,xs2,h7c,c,x18s,mkLit_6,hel,A]
 .obtain⟨m3,o3,fc3,r1,r2,r3⟩:=x18t call hs (t2:=t2) hf hk hkl he hb h7 hG (by omega) (fc+7)
  refine⟨m3,o3,fc3,λrec0=>?_,by rw[x1ey c,x1gp];exact r2,r3⟩
  rw[<-r1 rec0]
  unfold x7f
  simp(disch:=omega) [ix,xs2,h7c,c]
theorem stpE_len(l:List Edge)(fl:List Int)(k:Nat):(stpE l fl k).length<=2:=by
 unfold stpE
 split<;>split<;>simp
theorem xyz(l:List Edge)(fl:List Int):∀k,((List.range k).flatMap (stpE l fl)).length<=2*k
 |0=>by simp
 |k+1=>by
  have:=xyz l fl k
  have:=stpE_len l fl k
  rw[x1hb,x1jm,x1gl]
  simp only[x1fo,x1j2,x1g5]
  omega
theorem l_steps(d:Nat)(hs:FHs){n:Nat}{ev fa:AV}{l:List Edge}{fl:List Int}(h:Sl Edge.c ev l)(hf:Ints fa fl)(hl:l.length<=400)(hfl:fl.length=l.length)(he:∀k,k<l.length->EdgeIn n (edgeAt l k))(hb:∀k,-1000<=at0 fl k/\at0 fl k<=1000) :
 ∀(r k j:Nat) (o:AV) (m:Mem) (fc:Nat),k+r=l.length->r<j->m.get (0,0,2)=some (.row [I n,ev] 0 false)->Gk 6 Stp.c okS m o ((List.range k).flatMap (stpE l fl)) ->
 ∃m' o',x3s (xr4 d) hs 0 j fa (.ptr (0,0,2) 0 0) o (I k) m fc=some (o',m')/\Gk 6 Stp.c okS m' o' (xrz l fl):=by
 intro r
 induction r with
 |zero=>
  intro k j o m fc hk hj h2 hG
  obtain⟨j,rfl⟩:∃i,j=i+1:=⟨j-1,by omega⟩
  obtain rfl:k=l.length:=by omega
  refine⟨m,o,?_,hG⟩
  simp only[x3s]
  unfold xbx xja
  simp[h2,h.one,h.len xua]
 |succ r ih=>
  intro k j o m fc hk hj h2 hG
  obtain⟨j,rfl⟩:∃i,j=i+1:=⟨j-1,by omega⟩
  have hkl:k<l.length:=by omega
  have hk':(k:Int)<(l.length:Int):=by omega
  have ix:=h.ix Edge.len hkl
  have ld:=xsy (m:=m) Edge.len (by omega) hkl
  rw[<-xtw hkl]at ld
  simp only[Edge.c]at ld
  obtain⟨M,hM⟩:∃M:Mem,M=(m.new (0,fc+5+5,7) (.row [I 0,I 0,I 0,I 0] 0 false)).set (0,fc+5+5,7) (.row (edgeAt l k).c 0 false):=⟨_,rfl⟩
  have hMg:∀id:Id,id≠(0,fc+5+5,7)->M.get id=m.get id:=λid hid=>by rw[hM,Mem.get_set,x1ey hid,Mem.get_new,x1ey hid]
  have h7':¬okS (0,fc+5+5,7):=by unfold okS;simp
  have hlen:=xyz l fl k
  obtain⟨m3,o3,fc3,r1,r2,r3⟩:=b_steps3 (xr4 d) hs (t2:=.ptr (0,0,2) 0 0) (M:=M) hf (show k<fl.length by omega) (by omega) (he k hkl) (hb k) (id7:=(0,fc+5+5,7)) (by rw[hM];simp) h7' (hG.frame λid hid=>hMg id (by rintro rfl;exact h7' hid)) (by omega) (fc+5+7)
  obtain⟨m',o',e1,e2⟩:=ih (k+1) j o3 m3 fc3 (by omega) (by omega) (by rw[r3 _ (by unfold okS;simp),hMg _ (by simp)];exact h2) (by
   rw[x1hb,x1jm]
   simp only[x1fo,x1j2,x1g5]
   exact r2)
  refine⟨m',o',?_,e2⟩
  rw[<-e1]
  refine Eq.trans ?_ (r1 (x3s (xr4 d) hs 0 j))
  simp only[x3s]
  unfold xbx xjb
  rw[hM]
  simp(disch:=omega) [h2,h.one,h.len xua,hk',ix,ld,xxw,Edge.c]
theorem w_steps(d:Nat){n:Nat}{ev fa:AV}{l:List Edge}{fl:List Int}(h:Sl Edge.c ev l)(hf:Ints fa fl)(hl:l.length<=400)(hfl:fl.length=l.length)(he:∀k,k<l.length->EdgeIn n (edgeAt l k))(hb:∀k,-1000<=at0 fl k/\at0 fl k<=1000)(m:Mem) :
 ∃st,Sl Stp.c st (xrz l fl)/\xr8 (xr4 (d+1)) x30 [.agg [I n,ev],fa] m=some (st,m):=by
 obtain⟨m',o',e1,e2⟩:=l_steps d [] h hf hl hfl he hb l.length 0 NN nilS ((⟨[],1⟩:Mem).new (0,0,2) (.row [I n,ev] 0 false)) 4 (by omega) (by rw[xrg];omega) (by simp) Gk.nil
 obtain⟨st,hst,hfz⟩:=e2.frz (k:=4) Stp.len Stp.still1
 refine⟨st,hst,xw0 (m':=m') (r:=o') (by simp[h.still1,hf.still]) ?_ hfz⟩
 rw[xn8]
 unfold xf9 xby xjc
 simp[mem0,h.one]
 exact e1
theorem xy6:Tryz.prog.underlying xik=some (.slice xl3):=by kernel_rfl
theorem Sl.ixS{st:AV}{S:List Stp}(h:Sl Stp.c st S){i:Int}(h0:0<=i)(hi:i<S.length):∃rest,sIx 6 st (I i)=some (.plit (I (stpAt S i.toNat).fr::I (stpAt S i.toNat).to::I (stpAt S i.toNat).ed::I (stpAt S i.toNat).sg::I (stpAt S i.toNat).gain::I (stpAt S i.toNat).room::rest)):=by
 have hi':i.toNat<S.length:=by omega
 refine⟨(S.drop (i.toNat+1)).flatMap Stp.c,?_⟩
 rw[h.ixI Stp.len h0 hi,xsj hi',x1fo,xxd hi']
 rfl
theorem ldS{a b c d e f:AV}{rest:List AV}{m:Mem}:sLd true 6 (.plit (a::b::c::d::e::f::rest)) m=some (.agg [a,b,c,d,e,f]):=by
 simp only[sLd,List.isEmpty_cons,x1fu,x1fm]
 rw[rd_t]
 simp only[x1fi]
 rw[x1fy (by omega)]
 rfl
structure GrowMem (n:Nat) (ev:AV) (b:BF) (m:Mem):Prop where
 a:m.get (0,0,2)=some (.row [I n,ev] 0 false)
 f:m.get (0,9,24)=some (.row (b.far.flatMap intE) 0 false)
 g:m.get (0,12,27)=some (.row (b.by'.flatMap intE) 0 false)
 nx:1<=m.next
theorem l_pass(d:Nat)(hs:FHs){J:Int}{n:Nat}{S:List Stp}{st ev fa:AV}(hst:Sl Stp.c st S)(hS:SOK J n S)(hJ:0<=J/\J<=20){r:Nat}(hr:r<=12)(hSl:S.length<=40)(rec3:AV->AV->AV->AV->AV->AV->AV->Mem->Nat->Option (AV×Mem))(t10:AV) :
 ∀(k i j:Nat) (b:BF) (ta:Nat->Nat) (m:Mem) (fc:Nat),i+k=S.length->k<j->BFI J n S r i b ta->GrowMem n ev b m ->
 ∃m' fc',x3l (xr4 d) hs 0 rec3 j fa (.ptr (0,0,2) 0 0) st (srI (0,9,24) n) (srI (0,12,27) n) (I b.last) t10 (I i) m fc =
  x6y (xr4 d) hs 0 rec3 fa (.ptr (0,0,2) 0 0) st (srI (0,9,24) n) (srI (0,12,27) n) (I (xuw S k i b).last) t10 m' fc'/\GrowMem n ev (xuw S k i b) m':=by
 intro k
 induction k with
 |zero=>
  intro i j b ta m fc hk hj hB hM
  obtain⟨j,rfl⟩:∃i,j=i+1:=⟨j-1,by omega⟩
  have hi:¬((i:Int)<(S.length:Int)):=by omega
  refine⟨m,fc+4,?_,hM⟩
  simp only[x3l]
  unfold x70
  simp[hst.len xy6,hi,xuw]
 |succ k ih=>
  intro i j b ta m fc hk hj hB hM
  obtain⟨j,rfl⟩:∃i,j=i+1:=⟨j-1,by omega⟩
  have hiS:i<S.length:=by omega
  have hi:(i:Int)<(S.length:Int):=by omega
  obtain⟨⟨f0,f1⟩,⟨t0,t1⟩,hne,g0,g1⟩:=hS.ok i hiS
  obtain⟨rest,ix⟩:=hst.ixS (i:=(i:Int)) (by omega) hi
  rw[x1f1]at ix
  obtain⟨s,hs'⟩:∃s,s=stpAt S i:=⟨_,rfl⟩
  rw[<-hs']at f0 f1 t0 t1 hne g0 g1 ix
  have i1:=xs7 (id:=(0,9,24)) (n:=n) f0 (by omega)
  have i2:=xs7 (id:=(0,9,24)) (n:=n) t0 (by omega)
  have i3:=xs7 (id:=(0,12,27)) (n:=n) t0 (by omega)
  have hfl:=hB.fl
  have hbl:=hB.bl
  have l1:s.fr.toNat<b.far.length:=by omega
  have l2:s.to.toNat<b.far.length:=by omega
  have l3:s.to.toNat<b.by'.length:=by omega
  have b1:=hB.bnd s.fr.toNat
  have b2:=hB.bnd s.to.toNat
  have hbd:J*((r*S.length+i:Nat):Int)<=20*10000:=by
   have:=x1h1 hr hSl
   exact x1iv hJ.2 (by omega) (by omega) (by omega)
  obtain⟨ta',hB'⟩:=x182 hS hJ.1 hB hiS
  have hx:xuw S (k+1) i b=xuw S k (i+1) (xuv S i b):=rfl
  rw[hx]
  have hf:=hM.f
  have hg:=hM.g
  by_cases c:at0 b.far s.to.toNat<at0 b.far s.fr.toNat+s.gain
  .have hrx:xuv S i b=⟨b.far.set s.to.toNat (at0 b.far s.fr.toNat+s.gain),b.by'.set s.to.toNat i,s.to⟩:=by unfold xuv;rw[<-hs',x1ez c]
   rw[hrx]at hB' ⊢
   obtain⟨m',fc',e1,e2⟩:=ih (i+1) j _ ta' ((m.set (0,9,24) (.row ((b.far.set s.to.toNat (at0 b.far s.fr.toNat+s.gain)).flatMap intE) 0 false)).set (0,12,27) (.row ((b.by'.set s.to.toNat (i:Int)).flatMap intE) 0 false)) (fc+56) (by omega) (by omega) hB'
    ⟨by rw[Mem.get_set,x1ey (by simp),Mem.get_set,x1ey (by simp)];exact hM.a,by rw[Mem.get_set,x1ey (by simp),Mem.get_set,x1ez rfl],by rw[Mem.get_set,x1ez rfl],by simp only[Mem.next_set];exact hM.nx⟩
   refine⟨m',fc',?_,e2⟩
   rw[<-e1]
   simp only[x3l]
   unfold x70 xb9 x6z
   simp(disch:=omega) [hst.len xy6,hi,ix,i1,i2,i3,hf,hg,c,Mem.get_set]
  .have hrx:xuv S i b=b:=by unfold xuv;rw[<-hs',x1ey c]
   rw[hrx]at hB' ⊢
   obtain⟨m',fc',e1,e2⟩:=ih (i+1) j b ta' m (fc+32) (by omega) (by omega) hB' hM
   refine⟨m',fc',?_,e2⟩
   rw[<-e1]
   simp only[x3l]
   unfold x70 xb9 x6z
   simp(disch:=omega) [hst.len xy6,hi,ix,i1,i2,i3,hf,hg,c]
theorem l_rounds(d:Nat)(hs:FHs){J:Int}{n:Nat}{S:List Stp}{st ev fa:AV}(hev:ev.one=true)(hst:Sl Stp.c st S)(hS:SOK J n S)(hJ:0<=J/\J<=20)(hn:n<=12)(hSl:S.length<=40) :
 ∀(k r j:Nat) (b:BF) (ta:Nat->Nat) (m:Mem) (fc:Nat),r+k=n+1->k<j->BFI J n S r 0 ⟨b.far,b.by',-1⟩ ta->GrowMem n ev b m ->
 ∃m' fc',GrowMem n ev (xsr S k b) m'/\xm (xr4 d) hs 0 j fa (.ptr (0,0,2) 0 0) st (srI (0,9,24) n) (srI (0,12,27) n) (I b.last) (I r) m fc =
  if 0<k/\(xsr S k b).last<0 then some (.tup [fa,B false],m')else x61 (xr4 d) hs 0 fa (.ptr (0,0,2) 0 0) st (srI (0,12,27) n) (I (xsr S k b).last) m' fc':=by
 intro k
 induction k with
 |zero=>
  intro r j b ta m fc hk hj hB hM
  obtain⟨j,rfl⟩:∃i,j=i+1:=⟨j-1,by omega⟩
  have hi:¬((r:Int)<=(n:Int)):=by omega
  refine⟨m,fc+4,hM,?_⟩
  rw[x1ey (by omega)]
  simp only[xm]
  unfold x71
  simp[hM.a,hi,xsr]
 |succ k ih=>
  intro r j b ta m fc hk hj hB hM
  obtain⟨j,rfl⟩:∃i,j=i+1:=⟨j-1,by omega⟩
  have hi:(r:Int)<=(n:Int):=by omega
  obtain⟨m1,fc1,e1,hM1⟩:=l_pass d hs (fa:=fa) (ev:=ev) hst hS hJ (r:=r) (by omega) hSl (xm (xr4 d) hs 0 j) (I r) S.length 0 NN ⟨b.far,b.by',-1⟩ ta m (fc+6) (by omega) (by rw[xrg];omega) hB ⟨hM.a,hM.f,hM.g,hM.nx⟩
  obtain⟨t1,hB2⟩:=rnd_ok hS hJ.1 hB
  have hrd:xuw S S.length 0 ⟨b.far,b.by',-1⟩=xt7 S b:=rfl
  rw[hrd]at e1 hM1
  have start:xm (xr4 d) hs 0 (j+1) fa (.ptr (0,0,2) 0 0) st (srI (0,9,24) n) (srI (0,12,27) n) (I b.last) (I r) m fc=x6y (xr4 d) hs 0 (xm (xr4 d) hs 0 j) fa (.ptr (0,0,2) 0 0) st (srI (0,9,24) n) (srI (0,12,27) n) (I (xt7 S b).last) (I r) m1 fc1:=by
   rw[<-e1]
   have hL:∀(t1 t2 t6 t7 t8 t9 t10:AV) (M:Mem) (fc:Nat),xm (xr4 d) hs 0 (j+1) t1 t2 t6 t7 t8 t9 t10 M fc=x71 (xr4 d) hs 0 (xm (xr4 d) hs 0 j) t1 t2 t6 t7 t8 t9 t10 M fc:=λ_ _ _ _ _ _ _ _ _=>rfl
   rw[hL]
   unfold x71 xim xil
   simp[hM.a,hi]
  rw[start]
  unfold x6y xij
  by_cases c:(xt7 S b).last<0
  .have e:xsr S (k+1) b=xt7 S b:=by rw[xsr];rw[x1ez c]
   rw[e]
   refine⟨m1,0,hM1,?_⟩
   rw[x1ez ⟨by omega,c⟩]
   simp[c]
  .have e:xsr S (k+1) b=xsr S k (xt7 S b):=by rw[xsr];rw[x1ey c]
   have hB3:=x183 hB2
   rw[e]
   have hB4:BFI J n S (r+1) 0 ⟨(xt7 S b).far,(xt7 S b).by',-1⟩ t1:=hB3
   obtain⟨m',fc',e2,e3⟩:=ih (r+1) j (xt7 S b) t1 m1 (fc1+5) (by omega) (by omega) hB4 hM1
   refine⟨m',fc',e2,?_⟩
   have e4:(if 0<k+1/\(xsr S k (xt7 S b)).last<0 then some (AV.tup [fa,B false],m')else x61 (xr4 d) hs 0 fa (.ptr (0,0,2) 0 0) st (srI (0,12,27) n) (I (xsr S k (xt7 S b)).last) m' fc') =
    if 0<k/\(xsr S k (xt7 S b)).last<0 then some (AV.tup [fa,B false],m')else x61 (xr4 d) hs 0 fa (.ptr (0,0,2) 0 0) st (srI (0,12,27) n) (I (xsr S k (xt7 S b)).last) m' fc':=by
    cases k with
    |zero=>
     have:¬(xsr S 0 (xt7 S b)).last<0:=c
     rw[x1ey (λh=>this h.2),x1ey (λh=>this h.2)]
    |succ k=>simp only[Nat.succ_pos,true_and]
   rw[e4,<-e3]
   simp(disch:=omega) [c]
structure GoodV (n:Nat) (S:List Stp) (by':List Int) (v:Nat):Prop where
 v0:v<n
 b0:0<=at0 by' v
 b1:at0 by' v<S.length
 fr:(stB S by' v).fr=(prN S by' v:Nat)
 to:(stB S by' v).to=(v:Nat)
 mem:stB S by' v∈S
theorem BFI.good{J:Int}{n:Nat}{S:List Stp}(hS:SOK J n S){r i:Nat}{b:BF}{ta:Nat->Nat}(h:BFI J n S r i b ta){v:Nat}(hv:v<n)(h0:0<ta v):GoodV n S b.by' v:=by
 obtain⟨s1,s2,s3,-⟩:=h.step hS hv h0
 have:=(h.pre v hv h0).1
 exact⟨hv,(h.bb v).1,by have:=(h.bb v).1;omega,s3,s2,s1⟩
theorem GoodV.ixs{n:Nat}{S:List Stp}{by':List Int}{v:Nat}(h:GoodV n S by' v)(hl:by'.length=n){st:AV}(hst:Sl Stp.c st S):∃rest,
 sIx 1 (srI (0,12,27) n) (I v)=some (.ptr (0,12,27) 0 v)/\v<by'.length /\
 sIx 6 st (I (at0 by' v))=some (.plit (I (prN S by' v:Nat)::I v::I (stB S by' v).ed::I (stB S by' v).sg::I (stB S by' v).gain::I (stB S by' v).room::rest)):=by
 obtain⟨rest,hr⟩:=hst.ixS h.b0 h.b1
 have hv:=h.v0
 have e1:stpAt S (at0 by' v).toNat=stB S by' v:=rfl
 rw[e1,h.fr,h.to]at hr
 exact⟨rest,by simpa using xs7 (id:=(0,12,27)) (n:=n) (k:=(v:Int)) (by omega) (by omega),by omega,hr⟩
theorem l_back(d:Nat)(hs:FHs){n:Nat}{S:List Stp}{st ev fa:AV}(hst:Sl Stp.c st S){b:BF}(hbl:b.by'.length=n)(hn:n<=1000) :
 ∀(r i j v:Nat) (m:Mem) (fc:Nat),i+r=n->r<j->(∀k,k<r->GoodV n S b.by' (itr (prN S b.by') k v))->GrowMem n ev b m ->
 ∃fc',x60 (xr4 d) hs 0 j fa (.ptr (0,0,2) 0 0) st (srI (0,12,27) n) (I v) (I i) m fc=xb7 (xr4 d) hs 0 fa st (srI (0,12,27) n) (I (itr (prN S b.by') r v:Nat)) m fc':=by
 intro r
 induction r with
 |zero=>
  intro i j v m fc hk hj hg hM
  obtain⟨j,rfl⟩:∃i,j=i+1:=⟨j-1,by omega⟩
  have hi:¬((i:Int)<(n:Int)):=by omega
  refine⟨fc+4,?_⟩
  simp only[x60]
  unfold xb8
  simp[hM.a,hi,itr]
 |succ r ih=>
  intro i j v m fc hk hj hg hM
  obtain⟨j,rfl⟩:∃i,j=i+1:=⟨j-1,by omega⟩
  have hi:(i:Int)<(n:Int):=by omega
  obtain⟨rest,q1,q2,q3⟩:=(hg 0 (by omega)).ixs hbl hst
  simp only[itr]at q1 q2 q3
  obtain⟨fc',e1⟩:=ih (i+1) j (prN S b.by' v) m (fc+16) (by omega) (by omega) (λk hk=>hg (k+1) (by omega)) hM
  refine⟨fc',?_⟩
  have e2:itr (prN S b.by') (r+1) v=itr (prN S b.by') r (prN S b.by' v):=rfl
  rw[e2,<-e1]
  simp only[x60]
  unfold xb8
  simp(disch:=omega) [hM.a,hM.g,hi,q1,q3,xsv q2]
theorem l_room(d:Nat)(hs:FHs){n:Nat}{S:List Stp}{st ev fa:AV}(hst:Sl Stp.c st S){b:BF}(hbl:b.by'.length=n)(hn:n<=1000){x:Nat} :
 ∀(ws:List Nat) (j a:Nat) (room:Int) (m:Mem) (fc:Nat),ws.length<j->CyI (prN S b.by') x a ws->(∀w∈ws,GoodV n S b.by' w)->GrowMem n ev b m ->
 ∃fc',x5z (xr4 d) hs 0 j fa st (srI (0,12,27) n) (I x) (I room) (I a) m fc=xb5 (xr4 d) hs 0 fa st (srI (0,12,27) n) (I x) (I (xvb S b.by' ws room)) m fc':=by
 intro ws
 induction ws with
 |nil=>
  intro j a room m fc hj hc hg hM
  obtain⟨j,rfl⟩:∃i,j=i+1:=⟨j-1,by simp at hj;omega⟩
  have hc:a=x:=hc
  subst hc
  refine⟨fc+3,?_⟩
  simp only[x5z]
  unfold xb6
  simp[xvb]
 |cons w ws ih=>
  intro j a room m fc hj hc hg hM
  obtain⟨j,rfl⟩:∃i,j=i+1:=⟨j-1,by simp at hj;omega⟩
  obtain⟨rfl,hne,hc⟩:=hc
  obtain⟨rest,q1,q2,q3⟩:=(hg a (x1f7 ..)).ixs hbl hst
  have hne':¬((a:Int)=(x:Int)):=by omega
  obtain⟨fc',e1⟩:=ih j (prN S b.by' a) (minI room (stB S b.by' a).room) m (fc+23) (by simp at hj;omega) hc (λw hw=>hg w (x1f6 _ hw)) hM
  refine⟨fc',?_⟩
  have e2:xvb S b.by' (a::ws) room=xvb S b.by' ws (minI room (stB S b.by' a).room):=rfl
  rw[e2,<-e1]
  simp only[x5z]
  unfold xb6
  simp(disch:=omega) [hM.g,hne',q1,q3,xsv q2,minI]
theorem b_out(call:xr5)(hs:FHs){n N L:Nat}{S:List Stp}{st ev:AV}(hst:Sl Stp.c st S){b:BF}(hbl:b.by'.length=n)(hn:n<=1000){x:Nat}{room:Int}(hr:0<=room/\room<=1000)(hN:0<N){w:Nat}(hw:GoodV n S b.by' w)(hed:(0<=(stB S b.by' w).ed/\(stB S b.by' w).ed<L)/\(-1<=(stB S b.by' w).sg/\(stB S b.by' w).sg<=1)){o:List Int}{bd:Int}{m:Mem}(fc:Nat)(hM:GrowMem n ev b m)(ho:o.length=L)(hget:m.get (N,3,5)=some (.row (o.flatMap intE) 0 false))(hB:∀k,-bd<=at0 o k/\at0 o k<=bd)(hBB:bd<=1000000) :
 ∃m1,GrowMem n ev b m1/\m1.get (N,3,5)=some (.row ((o.set (stB S b.by' w).ed.toNat (at0 o (stB S b.by' w).ed.toNat+(stB S b.by' w).sg*room)).flatMap intE) 0 false) /\
  (∀k,-(bd+1000)<=at0 (o.set (stB S b.by' w).ed.toNat (at0 o (stB S b.by' w).ed.toNat+(stB S b.by' w).sg*room)) k/\at0 (o.set (stB S b.by' w).ed.toNat (at0 o (stB S b.by' w).ed.toNat+(stB S b.by' w).sg*room)) k<=bd+1000) /\
  ∀rec0,xb4 call hs 0 rec0 st (srI (0,12,27) n) (I x) (I room) (srI (N,3,5) L) (I w) m fc=if prN S b.by' w=x then some (.tup [srI (N,3,5) L,B true],m1)else rec0 st (srI (0,12,27) n) (I x) (I room) (srI (N,3,5) L) (I (prN S b.by' w:Nat)) m1 (fc+30):=by
 obtain⟨rest,q1,q2,q3⟩:=hw.ixs hbl hst
 obtain⟨⟨d0,d1⟩,g0,g1⟩:=hed
 obtain⟨s,hs'⟩:∃s,s=stB S b.by' w:=⟨_,rfl⟩
 rw[<-hs']at q3 d0 d1 g0 g1 ⊢
 have hmul:=mul_in (a:=s.sg) (b:=room) (x:=1) (y:=1000) (by omega) (by omega)
 have he:=hB s.ed.toNat
 have l1:s.ed.toNat<o.length:=by omega
 have i1:=xs7 (id:=(N,3,5)) (n:=L) d0 d1
 refine⟨((m.new (0,fc+7,18) (.row [I 0,I 0,I 0,I 0,I 0,I 0] 0 false)).set (0,fc+7,18) (.row [I (prN S b.by' w:Nat),I w,I s.ed,I s.sg,I s.gain,I s.room] 0 false)).set (N,3,5) (.row ((o.set s.ed.toNat (at0 o s.ed.toNat+s.sg*room)).flatMap intE) 0 false),⟨?_,?_,?_,?_⟩,?_,?_,λrec0=>?_⟩
 .rw[Mem.get_set,x1ey (by simp),Mem.get_set,x1ey (by simp),Mem.get_new,x1ey (by simp)];exact hM.a
 .rw[Mem.get_set,x1ey (by simp),Mem.get_set,x1ey (by simp),Mem.get_new,x1ey (by simp)];exact hM.f
 .rw[Mem.get_set,x1ey (by simp),Mem.get_set,x1ey (by simp),Mem.get_new,x1ey (by simp)];exact hM.g
 .simp only[Mem.next_set];exact hM.nx
 .rw[Mem.get_set,x1ez rfl]
 .intro k
  rw[xt0 l1]
  have:=hB k
  split<;>omega
 .unfold xb4
  have hne:(N,3,5)≠((0,fc+7,18):Id):=by simp
  have hne2:((0,fc+7,18):Id)≠(N,3,5):=by simp
  by_cases c:prN S b.by' w=x
  .have c':((prN S b.by' w:Nat):Int)=(x:Int):=by omega
   rw[x1ez c]
   simp(disch:=omega) [hM.g,q1,q3,xsv q2,ldS,x11v,i1,hget,Mem.get_set,Mem.get_new,hne,hne2,c']
  .have c':¬((prN S b.by' w:Nat):Int)=(x:Int):=by omega
   rw[x1ey c]
   simp(disch:=omega) [hM.g,q1,q3,xsv q2,ldS,x11v,i1,hget,Mem.get_set,Mem.get_new,hne,hne2,c']
theorem l_out(d:Nat)(hs:FHs){n N L:Nat}{S:List Stp}{st ev:AV}(hst:Sl Stp.c st S){b:BF}(hbl:b.by'.length=n)(hn:n<=1000){x:Nat}{room:Int}(hr:0<=room/\room<=1000)(hN:0<N)(hed:∀s∈S,(0<=s.ed/\s.ed<L)/\(-1<=s.sg/\s.sg<=1)) :
 ∀(ws:List Nat) (j w:Nat) (o:List Int) (bd:Int) (m:Mem) (fc:Nat),ws.length<j->CyI (prN S b.by') x (prN S b.by' w) ws->GoodV n S b.by' w->(∀w∈ws,GoodV n S b.by' w)->GrowMem n ev b m->o.length=L->m.get (N,3,5)=some (.row (o.flatMap intE) 0 false) ->
  (∀k,-bd<=at0 o k/\at0 o k<=bd)->bd+ws.length*1000<=1000000 ->
 ∃m',x5y (xr4 d) hs 0 j st (srI (0,12,27) n) (I x) (I room) (srI (N,3,5) L) (I w) m fc=some (.tup [srI (N,3,5) L,B true],m')/\m'.get (N,3,5)=some (.row ((xty S b.by' room (w::ws) o).flatMap intE) 0 false):=by
 intro ws
 induction ws with
 |nil=>
  intro j w o bd m fc hj hc hw hg hM ho hget hB hBB
  obtain⟨j,rfl⟩:∃i,j=i+1:=⟨j-1,by omega⟩
  have hc:prN S b.by' w=x:=hc
  obtain⟨m1,r1,r2,r3,r4⟩:=b_out (xr4 d) hs (x:=x) hst hbl hn hr hN hw (hed _ hw.mem) fc hM ho hget hB (by simp at hBB;omega)
  refine⟨m1,?_,r2⟩
  simp only[x5y]
  rw[r4,x1ez hc]
 |cons w2 ws ih=>
  intro j w o bd m fc hj hc hw hg hM ho hget hB hBB
  obtain⟨j,rfl⟩:∃i,j=i+1:=⟨j-1,by omega⟩
  obtain⟨rfl,hne,hc⟩:=hc
  simp only[x1fi]at hj hBB
  obtain⟨m1,r1,r2,r3,r4⟩:=b_out (xr4 d) hs (x:=x) hst hbl hn hr hN hw (hed _ hw.mem) fc hM ho hget hB (by omega)
  obtain⟨m',e1,e2⟩:=ih j (prN S b.by' w) _ (bd+1000) m1 (fc+30) (by omega) hc (hg _ (x1f7 ..)) (λv hv=>hg v (x1f6 _ hv)) r1 (by rw[x1hc];exact ho) r2 r3 (by omega)
  refine⟨m',?_,e2⟩
  simp only[x5y]
  rw[r4,x1ey hne]
  exact e1
theorem x1bv(d:Nat){a:AV}{l:List Int}(h:Ints a l)(h0:l≠[])(hl:l.length<=1000000)(u:Nat):∃m',xr4 (d+1) [] xf [a] ⟨[],u⟩=some (srI (u,3,5) l.length,m')/\m'.get (u,3,5)=some (.row (l.flatMap intE) 0 false)/\m'.next=u+1:=by
 have hr:xrq l.length 8:=by unfold xrq;omega
 have he:=h.elems xrm
 have hq:l.length≠0:=λe=>h0 (x1h9.mp e)
 refine⟨(⟨[],u+1⟩:Mem).new (u,3,5) (.row (l.flatMap intE) 0 false),?_,by simp,rfl⟩
 rw[x7v]
 unfold x47 x37
 simp[he,xzm hr,hq,h0]
theorem a_grow(d:Nat){J:Int}{n:Nat}{ev fa:AV}{l:List Edge}{fl:List Int}(h:Sl Edge.c ev l)(hSl:Slim J n l)(hf:Ints fa fl)(hfl:fl.length=l.length)(hF:Feas n (l.zip fl)) :
 ∃r m' r',xr4 (d+2) [] x2s [.agg [I n,ev],fa] mem0=some (r,m')/\frz m'.get deep r=some r' /\
  ((r'=.tup [fa,B false]/\∃p:Nat->Int,CS p (l.zip fl))\/∃oa out,r'=.tup [oa,B true]/\Ints oa out/\out.length=l.length/\Feas n (l.zip out)/\valF (l.zip fl)<valF (l.zip out)):=by
 obtain⟨j0,j1,hnn,hll,hed,hjw⟩:=hSl
 have hSl:Slim J n l:=⟨j0,j1,hnn,hll,hed,hjw⟩
 have hcap:∀k,k<l.length->-20<=at0 fl k/\at0 fl k<=20:=λk hk=>by
  have:=hF.cap _ ((xtq hfl).mpr ⟨k,hk,rfl⟩)
  have hw:=(hjw _ (x1fg hk)).2.2
  rw[xtw hk]at this
  simp only at this
  omega
 have hb:∀k,-20<=at0 fl k/\at0 fl k<=20:=λk=>by
  by_cases hk:k<l.length
  .exact hcap k hk
  .unfold at0
   rw[x1fd,x1hi (by omega)]
   decide
 obtain⟨m0,hm0⟩:∃m0:Mem,m0=(⟨[],1⟩:Mem).new (0,0,2) (.row [I n,ev] 0 false):=⟨_,rfl⟩
 obtain⟨st,hst,hsteps⟩:=w_steps d (n:=n) h hf (by omega) hfl (λk hk=>(xun hed hk).1) (λk=>by have:=hb k;omega) m0
 obtain⟨S,hS'⟩:∃S,S=xrz l fl:=⟨_,rfl⟩
 have hS:=x14b (fl:=fl) hSl
 have hSlen:S.length<=40:=by
  have:=xyz l fl l.length
  rw[hS']
  unfold xrz
  omega
 rw[<-hS']at hst hS
 obtain⟨m1,hm1⟩:∃m1:Mem,m1=(m0.new (0,9,24) (.row ((List.replicate n (0:Int)).flatMap intE) 0 false)).new (0,12,27) (.row ((List.replicate n (0:Int)).flatMap intE) 0 false):=⟨_,rfl⟩
 have hM1:GrowMem n ev ⟨List.replicate n 0,List.replicate n 0,-1⟩ m1:=by
  refine⟨?_,?_,?_,?_⟩
  .rw[hm1,Mem.get_new,x1ey (by simp),Mem.get_new,x1ey (by simp),hm0];simp
  .rw[hm1,Mem.get_new,x1ey (by simp)];simp
  .rw[hm1];simp
  .rw[hm1,hm0];exact x1f3 _
 have hB0:=BFI.init (n:=n) (S:=S) j0
 obtain⟨m2,fc2,hM2,e2⟩:=l_rounds (d+1) [] (fa:=fa) h.one hst hS ⟨j0,j1⟩ hnn hSlen (n+1) 0 NN ⟨List.replicate n 0,List.replicate n 0,-1⟩ _ m1 17 (by omega) (by rw[xrg];omega) hB0 hM1
 have start:xr4 (d+2) [] x2s [.agg [I n,ev],fa] mem0=xm (xr4 (d+1)) [] 0 NN fa (.ptr (0,0,2) 0 0) st (srI (0,9,24) n) (srI (0,12,27) n) (I (-1)) (I 0) m1 17:=by
  rw[xmu]
  unfold xey xba xin
  have hnI:(0:Int)<=(n:Int):=by omega
  have hnI2:(n:Int)<=1000000:=by omega
  simp[mem0,h.one]
  rw[<-hm0,hsteps]
  have g0:m0.get (0,0,2)=some (.row [I n,ev] 0 false):=by rw[hm0];simp
  simp[g0,xso,xxy hnI hnI2,Mem.get_new,xr6,disj,tR]
  rw[<-hm1]
 rw[start]
 have e2:xm (xr4 (d+1)) [] 0 NN fa (.ptr (0,0,2) 0 0) st (srI (0,9,24) n) (srI (0,12,27) n) (I (-1)) (I 0) m1 17=_:=e2
 rw[e2]
 obtain⟨b,hb'⟩:∃b,b=xsr S (n+1) ⟨List.replicate n 0,List.replicate n 0,-1⟩:=⟨_,rfl⟩
 have hrk:=x186 hS j0 n 0 hB0
 rw[<-hb']at hrk hM2 ⊢
 rcases hrk with ⟨r1,r2,r3⟩|⟨ta,r1,v0,r2,r3,r4⟩
 .rw[x1ez ⟨by omega,r1⟩]
  have hz:frz m2.get 5 fa=some fa:=xtu _ 3 hf.still
  refine⟨_,_,.tup [fa,B false],rfl,?_,Or.inl ⟨rfl,λv=>-at0 b.far v,?_⟩⟩
  .show([fa,B false].mapM (frz m2.get 5)).map AV.tup=_
   simp only[x1fq,x1g8,hz]
   rfl
  .rw[hS']at r3
   exact far_cs hfl r3
 rw[x1f9]at r1 r4
 rw[x1ey (by omega)]
 obtain⟨hgood,dd,hC⟩:=cycle_ok hS r1 r2 r4
 have hgv:∀k,GoodV n S b.by' (itr (prN S b.by') k v0):=λk=>r1.good hS (hgood k).1 (hgood k).2
 obtain⟨x,hx⟩:∃x,x=itr (prN S b.by') n v0:=⟨_,rfl⟩
 rw[<-hx]at hC
 have hgx:∀k,GoodV n S b.by' (itr (prN S b.by') k x):=λk=>by
  have:=hC.good k
  exact r1.good hS this.1 this.2
 obtain⟨fc3,e3⟩:=l_back (d+1) [] (fa:=fa) (ev:=ev) hst r1.bl (by omega) n 0 NN v0 m2 (fc2+1) (by omega) (by rw[xrg];omega) (λk _=>hgv k) hM2
 rw[<-hx]at e3
 have hx0:GoodV n S b.by' x:=hgx 0
 obtain⟨rest,q1,q2,q3⟩:=hx0.ixs r1.bl hst
 obtain⟨ws,hws⟩:∃ws,ws=tl (prN S b.by') (dd-1) (prN S b.by' x):=⟨_,rfl⟩
 have hwl:ws.length=dd-1:=by rw[hws,tl_len]
 have hd0:=hC.d0
 have hd1:=hC.d1
 have hback:=cyc_back hC
 rw[<-hws]at hback
 have hwg:∀w∈ws,GoodV n S b.by' w:=λw hw=>by
  rw[hws]at hw
  obtain⟨j,hj,rfl⟩:=x11q hw
  exact hgx (j+1)
 have htl:tl (prN S b.by') dd x=x::ws:=by
  rw[hws]
  obtain⟨k,rfl⟩:∃k,dd=k+1:=⟨dd-1,by omega⟩
  rfl
 obtain⟨room,hroom⟩:∃room,room=xvb S b.by' ws (stB S b.by' x).room:=⟨_,rfl⟩
 obtain⟨fc4,e4⟩:=l_room (d+1) [] (fa:=fa) (ev:=ev) hst r1.bl (by omega) (x:=x) ws NN (prN S b.by' x) (stB S b.by' x).room m2 (fc3+18) (by rw[xrg];omega) hback hwg hM2
 rw[<-hroom]at e4
 have hsof:∀s∈S,StpOf l fl s:=λs hs=>by rw[hS']at hs;exact x11p hs
 have hrp:∀s∈S,0<s.room/\s.room<=40:=λs hs=>by
  obtain⟨k,hk,-,h1,h2⟩:=hsof s hs
  have h3:=hcap k hk
  have h4:=(hjw _ (x1fg hk)).2.2
  rw[<-xtw hk]at h4
  rcases h2 with ⟨-,-,-,-,h2⟩|⟨-,-,-,-,h2⟩<;>omega
 have hroom0:0<room:=by
  rw[hroom]
  exact x188 _ _ ws _ (hrp _ hx0.mem).1 (λw hw=>(hrp _ (hwg w hw).mem).1)
 have hrle:=room_le S b.by' ws (stB S b.by' x).room
 rw[<-hroom]at hrle
 have hx40:=(hrp _ hx0.mem).2
 have hne:fl≠[]:=by
  rintro rfl
  obtain⟨k,hk,-⟩:=hsof _ hx0.mem
  simp at hfl
  omega
 obtain⟨mC,c1,c2,c3⟩:=x1bv d hf hne (by omega) m2.next
 obtain⟨m3,f1,f2,f3⟩:=xwj (call:=xr4 (d+1)) (f:=xf) (l:=[fa]) (m:=m2) (m':=mC) (r:=srI (m2.next,3,5) fl.length) (by simp[hf.clean]) c1
 have hnx:=hM2.nx
 have hM3:GrowMem n ev b m3:=⟨by rw[f3,x1ey (by simp only;omega)];exact hM2.a,by rw[f3,x1ey (by simp only;omega)];exact hM2.f,by rw[f3,x1ey (by simp only;omega)];exact hM2.g,by omega⟩
 obtain⟨m4,e5,e6⟩:=l_out (d+1) [] (ev:=ev) hst r1.bl (by omega) (x:=x) (room:=room) ⟨by omega,by omega⟩ hnx (L:=fl.length) (λs hs=>by
  obtain⟨k,hk,h1,h2,h3⟩:=hsof s hs
  rcases h3 with ⟨-,-,h3,-⟩|⟨-,-,h3,-⟩<;>exact⟨⟨by omega,by omega⟩,by omega,by omega⟩) ws NN x fl 1000 m3 (fc4+5) (by rw[xrg];omega) hback hx0 hwg hM3 rfl (by rw[f3,x1ez (x1f3 _)];exact c2) (λk=>by have:=hb k;omega) (by omega)
 obtain⟨out,hout⟩:∃out,out=xty S b.by' room (x::ws) fl:=⟨_,rfl⟩
 rw[<-hout]at e6
 have hol:out.length=fl.length:=by rw[hout];exact x14c _ _ _ _ _
 have z1:=x11j (objs:=m4.get) (id:=(m2.next,3,5)) (l:=out) (k:=3) e6
 obtain⟨oa,hoa,z2⟩:=z1
 rw[hol]at z2
 have hgo:=grow_ok (room:=room) hSl hfl hF (by rw[<-hS'];exact r1) (by rw[<-hS'];exact hC) hroom0 (λw hw=>by
  rw[<-hS']at hw ⊢
  rw[htl]at hw
  rcases x1fe.mp hw with rfl|hw
  .exact hrle.1
  .exact hrle.2 w hw)
 rw[<-hS',htl,<-hout]at hgo
 refine⟨.tup [srI (m2.next,3,5) fl.length,B true],m4,.tup [oa,B true],?_,?_,Or.inr ⟨oa,out,rfl,hoa,by omega,hgo.1,hgo.2⟩⟩
 .rw[r3]
  unfold x61
  rw[show((0:Nat):Int)=0 from rfl]at e3
  rw[e3]
  unfold xb7 xii
  simp[q1,q3,hM2.g,xsv q2]
  rw[e4]
  unfold xb5
  rw[f1]
  simp only[xr9]
  exact e5
 .show([srI (m2.next,3,5) fl.length,B true].mapM (frz m4.get 5)).map AV.tup=_
  simp only[x1fq,x1g8,z2]
  rfl
theorem shut1_row{h:Hp}{j i:Id}{cs:List AV}{v:Nat}{b:Bool}(hi:hget h i=some (.row cs v b)):∃b',hget (xxq h j) i=some (.row cs v b'):=by
 unfold xxq
 cases hj:hget h j with
 |none=>exact⟨b,hi⟩
 |some o=>
  cases o with
  |row cs2 v2 b2=>
   cases b2 with
   |true=>exact⟨b,hi⟩
   |false=>
    have:=Mem.get_set (m:=⟨h,0⟩) (i:=j) (j:=i) (o:=.row cs2 v2 true)
    unfold Mem.get Mem.set at this
    simp only at this ⊢
    rw[this]
    by_cases e:i=j
    .subst e
     rw[hi]at hj
     cases hj
     rw[x1ez rfl]
     exact⟨true,rfl⟩
    .rw[x1ey e];exact⟨b,hi⟩
  |_=>exact⟨b,hi⟩
theorem x18u{i:Id}{cs:List AV}{v:Nat}:∀(ids:List Id) {h:Hp} {b:Bool},hget h i=some (.row cs v b)->∃b',hget (xuo ids h) i=some (.row cs v b')
 |[],h,b,hi=>⟨b,hi⟩
 |j::r,h,b,hi=>by
  obtain⟨b',h'⟩:=shut1_row (j:=j) hi
  exact x18u r h'
theorem x1bw{call:xr5}{f:FuncId}{l l':List AV}{m m':Mem}{r r':AV}(hl:l.mapM (Go.Ix.frz m.get deep)=some l')(h:call [] f l' mem0=some (r,m'))(hr:Go.Ix.frz m'.get deep r=some r') :
 ∃m2:Mem,xr8 call f l m=some (r',m2)/\∀i cs v b,m.get i=some (.row cs v b)->∃b',m2.get i=some (.row cs v b'):=by
 refine⟨⟨xuo (l.flatMap (xrk m.get deep)) m.hp,m.next⟩,?_,λi cs v b hi=>x18u _ hi⟩
 unfold xr8
 rw[hl]
 simp only[h,hr]
 rfl
structure BestF (n:Nat) (l:List Edge) (fl:List Int):Prop where
 len:fl.length=l.length
 feas:Feas n (l.zip fl)
 cs:∃p:Nat->Int,CS p (l.zip fl)
theorem l_best(d:Nat){J:Int}{n:Nat}{ev:AV}{l:List Edge}(h:Sl Edge.c ev l)(hSl:Slim J n l) :
 ∀(K j:Nat) (fa:AV) (fl:List Int) (m:Mem) (fc:Nat),Ints fa fl->fl.length=l.length->Feas n (l.zip fl)->xti (λ_=>0) l-valF (l.zip fl)<=K->K<j->(∃b,m.get (0,0,1)=some (.row [I n,ev] 0 b)) ->
 ∃m' fa' fl',xp (xr4 (d+2)) [] 0 j (.ptr (0,0,1) 0 0) fa m fc=some (fa',m')/\Ints fa' fl'/\BestF n l fl':=by
 intro K
 induction K with
 |zero=>
  intro j fa fl m fc hf hfl hF hK hj hm
  obtain⟨j,rfl⟩:∃i,j=i+1:=⟨j-1,by omega⟩
  obtain⟨b,hm⟩:=hm
  obtain⟨r,m',r',g1,g2,g3⟩:=a_grow d h hSl hf hfl hF
  have hcall:=xw0 (m:=m) (l:=[.agg [I n,ev],fa]) (by simp[h.still1,hf.still]) g1 g2
  rcases g3 with ⟨rfl,p,hp⟩|⟨oa,out,rfl,ho,hol,hFo,hv⟩
  .refine⟨m,fa,fl,?_,hf,hfl,hF,p,hp⟩
   simp only[xp]
   unfold x1n
   simp[hm,hcall]
  .exfalso
   have:=weak hFo (λ_=>0)
   rw[x1jp (by omega)]at this
   omega
 |succ K ih=>
  intro j fa fl m fc hf hfl hF hK hj hm
  obtain⟨j,rfl⟩:∃i,j=i+1:=⟨j-1,by omega⟩
  obtain⟨b,hm⟩:=hm
  obtain⟨r,m',r',g1,g2,g3⟩:=a_grow d h hSl hf hfl hF
  have hcall:=xw0 (m:=m) (l:=[.agg [I n,ev],fa]) (by simp[h.still1,hf.still]) g1 g2
  rcases g3 with ⟨rfl,p,hp⟩|⟨oa,out,rfl,ho,hol,hFo,hv⟩
  .refine⟨m,fa,fl,?_,hf,hfl,hF,p,hp⟩
   simp only[xp]
   unfold x1n
   simp[hm,hcall]
  .obtain⟨m2,fa',fl',e1,e2,e3⟩:=ih j oa out m (fc+12) ho hol hFo (by omega) (by omega) ⟨b,hm⟩
   refine⟨m2,fa',fl',?_,e2,e3⟩
   rw[<-e1]
   simp only[xp]
   unfold x1n
   simp[hm,hcall]
theorem x18v{J:Int}{n:Nat}:∀{l:List Edge},(∀e∈l,EdgeIn n e/\-20<=e.jump/\e.jump<=20/\e.wt<=20)->0<=xti (λ_=>0) l/\xti (λ_=>0) l<=400*l.length
 |[],_=>⟨x1ft _,x1ft _⟩
 |e::r,h=>by
  obtain⟨h1,h2⟩:=x18v (J:=J) (l:=r) λx hx=>h x (x1f6 _ hx)
  obtain⟨⟨-,-,-,-,-,-,w0,w1⟩,j0,j1,w2⟩:=h e (x1f7 ..)
  have e1:exF (λ_=>0) e=e.jump:=by simp[exF]
  have h3:e.wt*(e.jump.natAbs:Int)<=20*20:=x1iv w2 (by omega) (by omega) (by omega)
  have h4:0<=e.wt*(e.jump.natAbs:Int):=x1ie w0 (by omega)
  unfold xti
  rw[e1,x1fi]
  omega
theorem x1bx{J:Int}{n:Nat}{l:List Edge}(hS:Slim J n l):0<=xti (λ_=>0) l/\xti (λ_=>0) l<=6800:=by
 have:=x18v (J:=J) (n:=n) (l:=l) λe he=>by
  have:=hS.jw e he
  have h1:=hS.j1
  exact⟨(hS.ed e he).1,by omega,by omega,by omega⟩
 have:=hS.ll
 omega
theorem zero_feas{n:Nat}{l:List Edge}(hed:∀e∈l,EdgeIn n e/\e.fr≠e.to):Feas n (l.zip (List.replicate l.length 0))/\valF (l.zip (List.replicate l.length 0))=0:=by
 have hz:∀x∈l.zip (List.replicate l.length (0:Int)),x.2=0:=λx hx=>by
  have:=(List.of_mem_zip hx).2
  exact(List.mem_replicate.mp this).2
 have hn:∀(v:Nat) (z:List (Edge×Int)),(∀x∈z,x.2=0)->netF v z=0/\valF z=0:=by
  intro v z
  induction z with
  |nil=>intro _;exact⟨rfl,rfl⟩
  |cons x r ih=>
   intro h
   obtain⟨a,b⟩:=ih λy hy=>h y (x1f6 _ hy)
   have:=h x (x1f7 ..)
   unfold netF valF
   rw[this,a,b]
   simp
 refine⟨⟨λx hx=>?_,λv hv=>(hn v _ hz).1,xy4 hed (by simp)⟩,(hn 0 _ hz).2⟩
 have h1:=(List.of_mem_zip hx).1
 have:=(hed _ h1).1.w0
 rw[hz x hx]
 omega
theorem x1by(d:Nat){J:Int}{n:Nat}{ev:AV}{l:List Edge}(h:Sl Edge.c ev l)(hSl:Slim J n l)(m:Mem) :
 ∃fa fl,Ints fa fl/\BestF n l fl/\xr8 (xr4 (d+3)) x2g [.agg [I n,ev]] m=some (fa,m):=by
 obtain⟨j0,j1,hnn,hll,hed,hjw⟩:=hSl
 have hSl:Slim J n l:=⟨j0,j1,hnn,hll,hed,hjw⟩
 obtain⟨z,hz⟩:∃z,z=List.replicate l.length (0:Int):=⟨_,rfl⟩
 have hzl:z.length=l.length:=by rw[hz];simp
 obtain⟨hF0,hv0⟩:=zero_feas hed
 rw[<-hz]at hF0 hv0
 obtain⟨m1,hm1⟩:∃m1:Mem,m1=((⟨[],1⟩:Mem).new (0,0,1) (.row [I n,ev] 0 false)).new (0,5,9) (.row (z.flatMap intE) 0 false):=⟨_,rfl⟩
 have g1:m1.get (0,0,1)=some (.row [I n,ev] 0 false):=by rw[hm1,Mem.get_new,x1ey (by simp)];simp
 have g5:m1.get (0,5,9)=some (.row (z.flatMap intE) 0 false):=by rw[hm1];simp
 have hza:Ints (.slit (z.flatMap intE) z.length false) z:=Sl.lit z false
 have zf:∀(M:Mem) (b:Bool),M.get (0,5,9)=some (.row (z.flatMap intE) 0 b)->∀k,Go.Ix.frz M.get (k+2) (srI (0,5,9) z.length)=some (.slit (z.flatMap intE) z.length false):=λM b hM k=>by
  have hl:=xul z
  have:=xvp (objs:=M.get) (id:=(0,5,9)) (cs:=z.flatMap intE) (ver:=0) (off:=0) (n:=z.length) (z:=1) (k:=k) (f:=b) (x:=true) hM (by omega) (by
   rw[x1f0,x1f8 (by omega)];exact xv6 xto z)
  rw[x1f0,x1f8 (by omega)]at this
  exact this
 have hc0:=x1bx hSl
 obtain⟨r,mg,r',a1,a2,a3⟩:=a_grow d h hSl hza hzl hF0
 have hfz:[AV.agg [I n,ev],srI (0,5,9) z.length].mapM (Go.Ix.frz m1.get deep)=some [.agg [I n,ev],.slit (z.flatMap intE) z.length false]:=by
  have z1:Go.Ix.frz m1.get deep (.agg [I n,ev])=some (.agg [I n,ev]):=xtu _ 4 (by simp[still,h.still1])
  simp only[x1fq,x1g8,z1]
  rw[show Go.Ix.frz m1.get deep (srI (0,5,9) z.length)=_ from zf m1 false g5 4]
  rfl
 obtain⟨m2,b1,b2⟩:=x1bw hfz a1 a2
 obtain⟨f1,b3⟩:=b2 _ _ _ _ g1
 obtain⟨f5,b5⟩:=b2 _ _ _ _ g5
 obtain⟨j,hj⟩:∃j,NN=j+1:=⟨NN-1,by rw[xrg]⟩
 have hj2:6800<j:=by rw[xrg]at hj;omega
 have start:xr4 (d+3) [] x2g [.agg [I n,ev]] mem0=xp (xr4 (d+2)) [] 0 (j+1) (.ptr (0,0,1) 0 0) (srI (0,5,9) z.length) m1 7:=by
  rw[xm6]
  unfold xec xa0
  have e0:(0:Int)<=(l.length:Int):=by omega
  have e1:(l.length:Int)<=1000000:=by omega
  simp[mem0,h.one,h.len xua,xso,xxy e0 e1]
  rw[<-hz,<-hm1,hzl,hj]
 rcases a3 with ⟨rfl,p,hp⟩|⟨oa,out,rfl,ho,hol,hFo,hv⟩
 .refine⟨_,z,hza,⟨hzl,hF0,p,hp⟩,xw0 (m':=m2) (r:=srI (0,5,9) z.length) (by simp[h.still1]) ?_ (zf m2 f5 b5 4)⟩
  rw[start]
  simp only[xp]
  unfold x1n
  simp[g1,b1]
 .obtain⟨m3,fa',fl',e1,e2,e3⟩:=l_best d h hSl 6800 j oa out m2 19 ho hol hFo (by omega) hj2 ⟨f1,b3⟩
  refine⟨fa',fl',e2,e3,call0 (m':=m3) (by simp[h.still1]) ?_ e2.still⟩
  rw[start,<-e1]
  have hL:∀(t1 t3:AV) (M:Mem) (fc:Nat),xp (xr4 (d+2)) [] 0 (j+1) t1 t3 M fc=x1n (xr4 (d+2)) [] 0 (xp (xr4 (d+2)) [] 0 j) t1 t3 M fc:=λ_ _ _ _=>rfl
  rw[hL]
  unfold x1n
  simp[g1,b1]
theorem BestF.bound{J:Int}{n:Nat}{l:List Edge}{fl:List Int}(h:BestF n l fl)(hS:Slim J n l)(k:Nat):-20<=at0 fl k/\at0 fl k<=20:=by
 by_cases hk:k<l.length
 .have:=h.feas.cap _ ((xtq h.len).mpr ⟨k,hk,rfl⟩)
  have hw:=(hS.jw _ (x1fg hk)).2.2
  rw[xtw hk]at this
  simp only at this
  omega
 .have:=h.len
  unfold at0
  rw[x1fd,x1hi (by omega)]
  decide
theorem z_range:x5c=[I 0,I 0]:=by kernel_rfl
def farR:Int:=1000000000
def xy7(S:List Stp)(i:Nat)(o:List Int):List Int:=
 if at0 o (stpAt S i).fr.toNat<farR/\at0 o (stpAt S i).fr.toNat-(stpAt S i).gain<at0 o (stpAt S i).to.toNat then o.set (stpAt S i).to.toNat (at0 o (stpAt S i).fr.toNat-(stpAt S i).gain)else o
def xwp(S:List Stp):Nat->Nat->List Int->List Int
 |0,_,o=>o
 |k+1,i,o=>xwp S k (i+1) (xy7 S i o)
def xss(S:List Stp):Nat->List Int->List Int
 |0,o=>o
 |k+1,o=>xwp S S.length 0 (xss S k o)
def xst(n u:Nat):List Int:=(List.replicate n farR).set u 0
structure SArc (n:Nat) (z:List (Edge×Int)) (S:List Stp):Prop where
 ok:∀i,i<S.length->(0<=(stpAt S i).fr/\(stpAt S i).fr<n)/\(0<=(stpAt S i).to/\(stpAt S i).to<n)/\(stpAt S i).fr≠(stpAt S i).to/\(-20<=(stpAt S i).gain/\(stpAt S i).gain<=20)/\Arc z (stpAt S i).fr.toNat (stpAt S i).to.toNat (-(stpAt S i).gain)
 all:∀u v c,Arc z u v c->∃i,i<S.length/\(stpAt S i).fr.toNat=u/\(stpAt S i).to.toNat=v/\(stpAt S i).gain=-c
theorem x14o{J:Int}{n:Nat}{l:List Edge}{fl:List Int}(hS:Slim J n l)(hl:fl.length=l.length):SArc n (l.zip fl) (xrz l fl):=by
 have hok:=x14b (fl:=fl) hS
 have hj:=hS.j1
 refine⟨λi hi=>?_,λu v c ha=>?_⟩
 .obtain⟨h1,h2,h3,h4,h5⟩:=hok.ok i hi
  refine⟨h1,h2,h3,by omega,?_⟩
  have:=arc_steps hl (x1fg hi)
  rwa[<-xxd hi]at this
 .obtain⟨s,hs,e1,e2,e3⟩:=x181 hl ha
  obtain⟨i,hi,rfl⟩:=x1hu.mp hs
  exact⟨i,hi,by rw[xxd hi];exact e1,by rw[xxd hi];exact e2,by rw[xxd hi];exact e3⟩
structure OInv (n:Nat) (z:List (Edge×Int)) (u t:Nat) (o:List Int):Prop where
 len:o.length=n
 ok:∀v,v<n->at0 o v=farR\/(-(20*(t:Int))<=at0 o v/\at0 o v<=20*t/\Way z u v (at0 o v))
theorem x18w{n:Nat}{z:List (Edge×Int)}{S:List Stp}(hS:SArc n z S){u t i:Nat}{o:List Int}(h:OInv n z u t o)(hi:i<S.length)(ht:t<=100000) :
 OInv n z u (t+1) (xy7 S i o)/\(∀v,v<n->at0 (xy7 S i o) v<=at0 o v)/\(at0 o (stpAt S i).fr.toNat<farR->at0 (xy7 S i o) (stpAt S i).to.toNat<=at0 o (stpAt S i).fr.toNat-(stpAt S i).gain):=by
 obtain⟨⟨f0,f1⟩,⟨t0,t1⟩,hne,⟨g0,g1⟩,ha⟩:=hS.ok i hi
 have hto:(stpAt S i).to.toNat<o.length:=by rw[h.len];omega
 have hff:farR=1000000000:=rfl
 unfold xy7
 by_cases c:at0 o (stpAt S i).fr.toNat<farR/\at0 o (stpAt S i).fr.toNat-(stpAt S i).gain<at0 o (stpAt S i).to.toNat
 .rw[x1ez c]
  have hset:∀v,at0 (o.set (stpAt S i).to.toNat (at0 o (stpAt S i).fr.toNat-(stpAt S i).gain)) v=if v=(stpAt S i).to.toNat then at0 o (stpAt S i).fr.toNat-(stpAt S i).gain else at0 o v:=λv=>xt0 hto
  refine⟨⟨by simpa using h.len,λv hv=>?_⟩,λv hv=>?_,λ_=>by rw[hset,x1ez rfl];exact x1ft _⟩
  .rw[hset]
   by_cases e:v=(stpAt S i).to.toNat
   .rw[x1ez e]
    rcases h.ok (stpAt S i).fr.toNat (by omega)with hf|⟨b0,b1,hw⟩
    .omega
    .right
     refine⟨by omega,by omega,?_⟩
     have:=hw.cons ha
     rw[e]
     rwa[Int.sub_eq_add_neg]
   .rw[x1ey e]
    rcases h.ok v hv with hf|⟨b0,b1,hw⟩
    .exact Or.inl hf
    .exact Or.inr ⟨by omega,by omega,hw⟩
  .rw[hset]
   by_cases e:v=(stpAt S i).to.toNat
   .rw[x1ez e,e];omega
   .rw[x1ey e];exact x1ft _
 .rw[x1ey c]
  refine⟨⟨h.len,λv hv=>?_⟩,λv hv=>x1ft _,λhlt=>?_⟩
  .rcases h.ok v hv with hf|⟨b0,b1,hw⟩
   .exact Or.inl hf
   .exact Or.inr ⟨by omega,by omega,hw⟩
  .have:¬(at0 o (stpAt S i).fr.toNat-(stpAt S i).gain<at0 o (stpAt S i).to.toNat):=λx=>c ⟨hlt,x⟩
   omega
theorem x14p{n:Nat}{z:List (Edge×Int)}{S:List Stp}(hS:SArc n z S){u:Nat}:∀(k i t:Nat) {o:List Int},i+k<=S.length->OInv n z u t o->t+k<=100000 ->
 OInv n z u (t+k) (xwp S k i o)/\(∀v,v<n->at0 (xwp S k i o) v<=at0 o v)/\∀j,i<=j->j<i+k->∀D,D<farR->at0 o (stpAt S j).fr.toNat<=D->at0 (xwp S k i o) (stpAt S j).to.toNat<=D-(stpAt S j).gain
 |0,i,t,o,_,h,_=>⟨h,λ_ _=>x1ft _,λj h1 h2=>by omega⟩
 |k+1,i,t,o,hk,h,ht=>by
  obtain⟨a1,a2,a3⟩:=x18w (i:=i) hS h (by omega) (by omega)
  obtain⟨b1,b2,b3⟩:=x14p hS k (i+1) (t+1) (by omega) a1 (by omega)
  simp only[xwp]
  refine⟨by rw[show t+(k+1)=t+1+k by omega];exact b1,λv hv=>by have:=a2 v hv;have:=b2 v hv;omega,λj j1 j2 D hD hle=>?_⟩
  obtain⟨⟨f0,f1⟩,⟨t0,t1⟩,-⟩:=hS.ok j (by omega)
  by_cases e:j=i
  .subst e
   have h1:=a3 (by omega)
   have h2:=b2 (stpAt S j).to.toNat (by omega)
   omega
  .exact b3 j (by omega) (by omega) D hD (by have:=a2 (stpAt S j).fr.toNat (by omega);omega)
theorem xy8{n:Nat}{z:List (Edge×Int)}{S:List Stp}(hS:SArc n z S){u:Nat}{o:List Int}(h:OInv n z u 0 o):∀r,r*S.length<=100000->OInv n z u (r*S.length) (xss S r o)/\∀v,v<n->at0 (xss S r o) v<=at0 o v
 |0,_=>⟨by rw[x1h7];exact h,λ_ _=>x1ft _⟩
 |r+1,hr=>by
  rw[x1fx]at hr ⊢
  obtain⟨a1,a2⟩:=xy8 hS h r (by omega)
  obtain⟨b1,b2,-⟩:=x14p hS S.length 0 _ (by omega) a1 hr
  exact⟨b1,λv hv=>by have:=a2 v hv;have:=b2 v hv;simp only[xss];omega⟩
theorem x11w{n u:Nat}(hu:u<n)(z:List (Edge×Int)):OInv n z u 0 (xst n u)/\at0 (xst n u) u=0:=by
 have hget:∀v,v<n->at0 (xst n u) v=if v=u then 0 else farR:=λv hv=>by
  unfold xst
  rw[xt0 (by simpa using hu)]
  split
  .rfl
  .rw[xrn (by simpa using hv)];simp
 refine⟨⟨by simp[xst],λv hv=>?_⟩,by rw[hget u hu,x1ez rfl]⟩
 rw[hget v hv]
 by_cases e:v=u
 .subst e
  rw[x1ez rfl]
  exact Or.inr ⟨by omega,by omega,.nil⟩
 .rw[x1ey e];exact Or.inl rfl
inductive WayN (z:List (Edge×Int)) (u:Nat):Nat->Int->Nat->Prop
 |nil:WayN z u u 0 0
 |cons {v w:Nat} {c d:Int} {k:Nat}:WayN z u v c k->Arc z v w d->WayN z u w (c+d) (k+1)
theorem wayN_le{n:Nat}{z:List (Edge×Int)}{S:List Stp}(hS:SArc n z S){u:Nat}(hu:u<n){v:Nat}{c:Int}{k:Nat}(hw:WayN z u v c k)(hk:k<=1000):c<=20*k/\∀r,k<=r->r*S.length<=100000->at0 (xss S r (xst n u)) v<=c:=by
 have h0:=x11w hu z
 have hff:farR=1000000000:=rfl
 induction hw with
 |nil=>exact⟨by omega,λr _ hr=>by have:=(xy8 hS h0.1 r hr).2 u hu;omega⟩
 | @cons v w c d k h1 ha ih=>
   obtain⟨i1,i2⟩:=ih (by omega)
   obtain⟨i,hi,e1,e2,e3⟩:=hS.all _ _ _ ha
   obtain⟨-,-,-,⟨g0,g1⟩,-⟩:=hS.ok i hi
   refine⟨by omega,λr hr hrl=>?_⟩
   obtain⟨r,rfl⟩:∃r',r=r'+1:=⟨r-1,by omega⟩
   rw[x1fx]at hrl
   have h2:=i2 r (by omega) (by omega)
   have hO:=(xy8 hS h0.1 r (by omega)).1
   have h3:=(x14p hS S.length 0 _ (by omega) hO hrl).2.2 i (by omega) (by omega) c (by omega) (by rw[e1];exact h2)
   rw[e2,e3]at h3
   simp only[xss]
   omega
theorem way_n{n:Nat}{l:List Edge}{fl tu ex:List Int}(h:FlowOK n l fl tu ex){fr:Nat}{t:Tour}{rk:Nat->Nat}(W:WaysOK n l fl tu fr t rk):∀(r v:Nat),v<n->rk v<r->at0 t.len v<farM ->
 ∃ps:List Nat,WayN (l.zip fl) fr v (at0 t.len v-at0 tu fr+at0 tu v) ps.length/\(∀w∈ps,w<n/\rk w<=rk v)/\ps.Nodup:=by
 intro r
 induction r with
 |zero=>intro v _ hh;omega
 |succ r ih=>
  intro v hv hr hl
  by_cases e:v=fr
  .subst e
   refine⟨[],?_,λw hw=>by simp at hw,x1jf⟩
   rw[W.z,show(0:Int)-at0 tu v+at0 tu v=0 by omega]
   exact .nil
  .obtain⟨b,k,b1,⟨b2,b2'⟩,b3,b4,b5,b6,b7,b8⟩:=xyw h W hv e hl
   obtain⟨ps,p1,p2,p3⟩:=ih b b1 (by omega) b2
   have hx:(edgeAt l k,at0 fl k)∈l.zip fl:=(xtq h.fll).mpr ⟨k,b5,rfl⟩
   refine⟨v::ps,?_,λw hw=>?_,x1gg.mpr ⟨λhw=>by have:=(p2 v hw).2;omega,p3⟩⟩
   .rcases b8 with ⟨c1,c2,c3,c4,c5⟩|⟨c1,c2,c3,c4,c5⟩
    .have ha:Arc (l.zip fl) b v (edgeAt l k).jump:=⟨_,hx,Or.inr ⟨by simp only;omega,by simp only;omega,by simp only;omega,rfl⟩⟩
     have:=p1.cons ha
     rw[show at0 t.len b-at0 tu fr+at0 tu b+(edgeAt l k).jump=at0 t.len v-at0 tu fr+at0 tu v by omega]at this
     exact this
    .have ha:Arc (l.zip fl) b v (-(edgeAt l k).jump):=⟨_,hx,Or.inl ⟨by simp only;omega,by simp only;omega,by simp only;omega,rfl⟩⟩
     have:=p1.cons ha
     rw[show at0 t.len b-at0 tu fr+at0 tu b+-(edgeAt l k).jump=at0 t.len v-at0 tu fr+at0 tu v by omega]at this
     exact this
   .rcases x1fe.mp hw with rfl|hw
    .exact⟨hv,x1f3 _⟩
    .obtain⟨q1,q2⟩:=p2 w hw
     exact⟨q1,by omega⟩
theorem lenB_of{n:Nat}{l:List Edge}{fl tu ex:List Int}(h:FlowOK n l fl tu ex)(hf:∀k,-1000<=at0 fl k/\at0 fl k<=1000)(ht:∀k,-1000000<=at0 tu k/\at0 tu k<=1000000){p:Nat}(hp:p<n):LenB ((200:Nat)*GB) (waysF n l fl tu p).len:=by
 have hS:FrzS (.plit [I n,.slit (l.flatMap Edge.c) l.length false,.slit (fl.flatMap intE) fl.length false,.slit (tu.flatMap intE) tu.length false,.slit (ex.flatMap intE) ex.length false,.slit ((List.range n).map λv=>.slit ((adjI l (v:Nat)).flatMap intE) (adjI l (v:Nat)).length false) n false]) n l fl tu ex:=by
  refine⟨⟨_,_,_,_,_,_,rfl,Sl.lit l false,Sl.lit fl false,Sl.lit tu false,Sl.lit ex false,by simp,λv hv=>?_⟩,h.fll,h.tul,h.exl,h.nn,h.ll,h.ed,hf,ht⟩
  rw[x1ix,x1kc]
  exact Sl.lit _ false
 obtain⟨_,_,-,-,hL⟩:=w_ways 0 hS (p:=(p:Int)) (by omega) (by omega) 0
 exact hL
def dOf(n:Nat)(l:List Edge)(fl T:List Int)(a:Nat):Nat->Option Int:=xyx n (waysF n l fl T a).len T a
theorem x11x{n:Nat}{l:List Edge}{fl T ex:List Int}(h:FlowOK n l fl T ex)(hf:∀k,-1000<=at0 fl k/\at0 fl k<=1000)(ht:∀k,-1000000<=at0 T k/\at0 T k<=1000000){a:Nat}(ha:a<n):Dist n (l.zip fl) a (dOf n l fl T a):=by
 obtain⟨rk,W⟩:=x148 h.red ha h.nn
 exact dist_ok h ha W (lenB_of h hf ht ha) ht
theorem x18x{J:Int}{n:Nat}{l:List Edge}{fr T:List Int}(hS:Slim J n l)(hB:BestF n l fr)(hT:T.length=n)(hC:CS (at0 T) (l.zip fr)):FlowOK n l fr T (List.replicate n 0):=by
 refine⟨by have:=hS.nn;omega,by have:=hS.ll;omega,hS.ed,hB.len,hT,by simp,λk hk=>?_,λk hk=>?_,λv hv=>?_⟩
 .exact hB.feas.cap _ ((xtq hB.len).mpr ⟨k,hk,rfl⟩)
 .exact hC _ ((xtq hB.len).mpr ⟨k,hk,rfl⟩)
 .rw[xzr,hB.feas.cons v hv]
theorem mostR_ok{J:Int}{n:Nat}{l:List Edge}{fr T:List Int}(hS:Slim J n l)(hB:BestF n l fr)(hT:T.length=n)(hTb:∀k,-1000000<=at0 T k/\at0 T k<=1000000)(hC:CS (at0 T) (l.zip fr)){a:Nat}(ha:a<n) :
 (xss (xrz l fr) n (xst n a)).length=n/\∀v,v<n->at0 (xss (xrz l fr) n (xst n a)) v=(dOf n l fr T a v).getD farR:=by
 have hF:=x18x hS hB hT hC
 have hfb:=λk=>hB.bound hS k
 have hD:=x11x hF (λk=>by have:=hfb k;omega) hTb ha
 obtain⟨rk,W⟩:=x148 hF.red ha hF.nn
 have hA:=x14o hS hB.len
 have hnn:=hS.nn
 have hsl:(xrz l fr).length<=40:=by
  have:=xyz l fr l.length
  have:=hS.ll
  unfold xrz
  omega
 have hns:n*(xrz l fr).length<=100000:=by
  have:=x1h1 hnn hsl
  omega
 obtain⟨hO,hO2⟩:=xy8 hA (x11w ha (l.zip fr)).1 n hns
 refine⟨hO.len,λv hv=>?_⟩
 have hff:farR=1000000000:=rfl
 have hnb:(n*(xrz l fr).length:Nat)<=100000:=hns
 cases hd:dOf n l fr T a v with
 |none=>
  rw[Option.getD_none]
  rcases hO.ok v hv with e|⟨-,-,hw⟩
  .exact e
  .obtain⟨d,e,-⟩:=hD.le v _ hw
   rw[hd]at e
   cases e
 |some d=>
  rw[Option.getD_some]
  have hd':=hd
  unfold dOf xyx at hd'
  by_cases e:v<n/\at0 (waysF n l fr T a).len v<farM
  rotate_left
  .rw[x1ey e]at hd';cases hd'
  rw[x1ez e]at hd'
  obtain⟨ps,p1,p2,p3⟩:=way_n hF W _ v hv (x1hh _) e.2
  have hpl:=x149 p3 λw hw=>(p2 w hw).1
  rw[x1hw hd']at p1
  obtain⟨q1,q2⟩:=wayN_le hA ha p1 (by omega)
  have h1:=q2 n hpl hns
  rcases hO.ok v hv with e2|⟨-,-,hw⟩
  .omega
  .obtain⟨d',e3,h2⟩:=hD.le v _ hw
   rw[hd]at e3
   cases e3
   omega
theorem most_same{J:Int}{n:Nat}{l:List Edge}{fr fl tu ex:List Int}(hS:Slim J n l)(hB:BestF n l fr)(h:Solved J n l fl tu ex){a:Nat}(ha:a<n) :
 (xss (xrz l fr) n (xst n a)).length=n/\∀v,v<n->at0 (xss (xrz l fr) n (xst n a)) v=(dOf n l fl (xrt n (xrv n l) tu) a v).getD farR:=by
 obtain⟨T,hT⟩:∃T,T=xrt n (xrv n l) tu:=⟨_,rfl⟩
 have hTl:T.length=n:=by rw[hT];exact xw4 _ _ _
 have hj0:=hS.j0
 have hj1:=hS.j1
 have hTb:∀k,-1000000<=at0 T k/\at0 T k<=1000000:=λk=>by have:=h.turns hj0 k;rw[<-hT]at this;omega
 obtain⟨hF,hC⟩:=h.best
 rw[<-hT]at hC ⊢
 obtain⟨p,hp⟩:=hB.cs
 have e1:(l.zip fl).map Prod.fst=l:=by rw[x1jp];rw[h.f.fll];exact x1f3 _
 have e2:(l.zip fr).map Prod.fst=l:=by rw[x1jp];rw[hB.len];exact x1f3 _
 have hCr:CS (at0 T) (l.zip fr):=cs_any hF hB.feas (by rw[e1,e2]) hC hp
 obtain⟨m1,m2⟩:=mostR_ok hS hB hTl hTb hCr ha
 refine⟨m1,λv hv=>?_⟩
 rw[m2 v hv]
 have hFr:=x18x hS hB hTl hCr
 have hFs:=h.flow
 rw[<-hT]at hFs
 have hbr:=λk=>hB.bound hS k
 have hD1:=x11x hFr (λk=>by have:=hbr k;omega) hTb ha
 have hD2:=x11x hFs (λk=>h.f.flb k) hTb ha
 rw[dist_any hB.feas hF (by rw[e1,e2]) hCr hC ha hD1 hD2 v hv]
end Go.Ix
