import Derived.Test.YtaoalekmhjclnaaGreatDoorWg10
set_option linter.unusedSimpArgs false
set_option linter.unusedVariables false
set_option maxRecDepth 10000
namespace Go.Ix
open Go.Proofs
variable{ba pa ea:AV}{bl:List Bd}{pl:List Pn}{el:List Pe}{wv mg:Int}
def Bd.core(b:Bd):ByteArray×List Pl×Int:=(b.nm,b.cs,b.th)
def CpC(fc:Nat)(m:Mem)(a:AV)(cs:List Pl):Prop:=(a=.slit [] 0 true/\cs=[])\/∃s,s<fc/\a=.sref (0,s,26) 0 0 cs.length 3 true/\m.get (0,s,26)=some (.row (cs.flatMap Pl.c) 0 false)
theorem CpC.mono{fc fc':Nat}{m m':Mem}{a:AV}{cs:List Pl}(h:CpC fc m a cs)(hf:fc<=fc')(hm:∀s,s<fc->m'.get (0,s,26)=m.get (0,s,26)):CpC fc' m' a cs:=by
 rcases h with h|⟨s,h1,h2,h3⟩
 .exact .inl h
 .exact .inr ⟨s,by omega,h2,by rw[hm s h1];exact h3⟩
theorem CpC.one{fc:Nat}{m:Mem}{a:AV}{cs:List Pl}(h:CpC fc m a cs):a.one=true/\a.cells=[a]:=by
 rcases h with ⟨rfl,-⟩|⟨s,-,rfl,-⟩<;>exact⟨rfl,rfl⟩
theorem CpC.frz{fc k:Nat}{m:Mem}{a:AV}{cs:List Pl}(h:CpC fc m a cs):∃a',Sl Pl.c a' cs/\Go.Ix.frz m.get (k+2) a=some a':=by
 rcases h with ⟨rfl,rfl⟩|⟨s,-,rfl,h3⟩
 .exact⟨.slit [] 0 true,Or.inr ⟨true,rfl⟩,rfl⟩
 .exact⟨_,Sl.lit cs false,x1ho Pl.len Pl.still h3⟩
def x1at(x:Bd×AV):List AV:=[T x.1.nm,x.2,I x.1.th]
theorem x1g0(x:Bd×AV):(x1at x).length=3:=rfl
theorem bd_flat(l:List Bd):l.flatMap Bd.c=(l.map λb=>(b,b.ca)).flatMap x1at:=by
 induction l with
 |nil=>rfl
 |cons b r ih=>rw[x1st,x1su,x1st,ih];rfl
theorem splice_ca(L:List (Bd×AV))(k:Nat)(hk:k<L.length)(v:AV):x18v (L.flatMap x1at) (k*3+1) [v]=(L.set k (L[k].1,v)).flatMap x1at:=by
 induction L generalizing k with
 |nil=>simp at hk
 |cons x r ih=>
  cases k with
  |zero=>simp[x18v,x1at]
  |succ k=>
   have h1:=ih k (by simpa using hk)
   simp only[x18v,List.set_cons_succ,x1st,List.getElem_cons_succ]at h1 ⊢
   rw[show(k+1)*3+1=(x1at x).length+(k*3+1) by rw[x1g0];omega,x1we,x1vf,x1tu,x1vt,x1v9 (by omega),x1u8]
   rw[show(x1at x).length+(k*3+1+[v].length)-(x1at x).length=k*3+1+[v].length by omega,h1]
theorem z_setup:x1e=[I 0,I 0,nilS,nilS,nilS]:=by kernel_rfl
theorem x1hu{R:Type}{z:List AV}{size:Nat}{id:Id}{m:Mem}{k:AV->Mem->Option R}:x18l z [] 0 size id m k=k (.slit [] 0 true) m:=x1k2
def CpL(fc:Nat)(m:Mem)(L:List (Bd×AV))(i:Nat):Prop:=∀(j:Nat) (h:j<L.length),if j<i then CpC fc m L[j].2 L[j].1.cs else L[j].2=L[j].1.ca
theorem x1kk{k:Nat}{m:Mem}{fc:Nat}:∀{L:List (Bd×AV)},(∀x∈L,CpC fc m x.2 x.1.cs)->∃bl':List Bd,bl'.map Bd.core=L.map (λx=>x.1.core)/\(L.flatMap x1at).mapM (Go.Ix.frz m.get (k+2))=some (bl'.flatMap Bd.c)
 |[],_=>⟨[],rfl,rfl⟩
 |x::r,h=>by
  obtain⟨bl',h1,h2⟩:=x1kk (k:=k) (L:=r) λy hy=>h y (by simp[hy])
  obtain⟨a',g1,g2⟩:=(h x (by simp)).frz (k:=k)
  refine⟨⟨x.1.nm,a',x.1.cs,x.1.th,g1⟩::bl',by rw[x1su,x1su,h1];rfl,?_⟩
  rw[x1st,x1st]
  have e1:Go.Ix.frz m.get (k+2) (T x.1.nm)=some (T x.1.nm):=rfl
  have e2:Go.Ix.frz m.get (k+2) (I x.1.th)=some (I x.1.th):=rfl
  show([T x.1.nm,x.2,I x.1.th]++r.flatMap x1at).mapM _=_
  simp only[x1u5,x1u8,x1te,e1,e2,g2,h2,Bd.c]
  rfl
theorem x1m9{objs:Id->Option Ob}{id:Id}{cs cs':List AV}{n z k:Nat}{f x:Bool}(h:objs id=some (.row cs 0 f))(hl:cs.length=n*z)(hs:cs.mapM (Go.Ix.frz objs k)=some cs'):Go.Ix.frz objs (k+1) (.sref id 0 0 n z x)=some (.slit cs' n false):=by
 simp only[Go.Ix.frz,h]
 rw[x1sc ⟨trivial,by omega⟩,x1sf,x1tk (by omega),hs]
 rfl
def BA(m:Mem)(v:AV)(L:List (Bd×AV)):Prop:=(v=.slit [] 0 true/\L=[])\/(v=.sref (0,5,7) 0 0 L.length 3 true/\m.get (0,5,7)=some (.row (L.flatMap x1at) 0 false))
theorem BA.frame{m m':Mem}{v:AV}{L:List (Bd×AV)}(h:BA m v L)(hm:m'.get (0,5,7)=m.get (0,5,7)):BA m' v L:=by
 rcases h with h|⟨h1,h2⟩
 .exact .inl h
 .exact .inr ⟨h1,by rw[hm];exact h2⟩
theorem BA.len{m:Mem}{v:AV}{L:List (Bd×AV)}(h:BA m v L):sLen Tryz.prog xj v=some (I L.length):=by
 rcases h with ⟨rfl,rfl⟩|⟨rfl,-⟩<;>rfl
theorem BA.one{m:Mem}{v:AV}{L:List (Bd×AV)}(h:BA m v L):v.one=true/\v.cells=[v]:=by
 rcases h with ⟨rfl,rfl⟩|⟨rfl,-⟩<;>exact⟨rfl,rfl⟩
theorem BA.frz{k:Nat}{m:Mem}{fc:Nat}{v:AV}{L:List (Bd×AV)}(h:BA m v L)(hc:∀x∈L,CpC fc m x.2 x.1.cs):∃v' bl',Sl Bd.c v' bl'/\bl'.map Bd.core=L.map (λx=>x.1.core)/\Go.Ix.frz m.get (k+3) v=some v':=by
 rcases h with ⟨rfl,rfl⟩|⟨rfl,hg⟩
 .exact⟨.slit [] 0 true,[],Or.inr ⟨true,rfl⟩,rfl,rfl⟩
 .obtain⟨bl',h1,h2⟩:=x1kk (k:=k) hc
  have hl:bl'.length=L.length:=by simpa using congrArg List.length h1
  refine⟨.slit (bl'.flatMap Bd.c) L.length false,bl',Or.inr ⟨false,by rw[hl]⟩,h1,?_⟩
  exact x1m9 hg (x1aq x1g0 L) h2
theorem st_1{m:Mem}{id:Id}{cs:List AV}{off:Nat}{v:AV}(hg:m.get id=some (.row cs 0 false))(hv:v.one=true/\v.cells=[v])(ho:off<cs.length):∀{R:Type} (K:Mem->Option R),sSt 1 (.ptr id 0 off) v m K=K (m.set id (.row (x18v cs off [v]) 0 false)):=λK=>by
 rw[x1ej (off:=off) (z:=1) (x:=v) (k:=K) hg (by rw[hv.2];rfl) (by omega) (by rw[hv.2];simp[hv.1]),hv.2]
def CpT(wv mg:Int)(bl:List Bd)(pl:List Pn)(el:List Pe)(r:AV):Prop:=∃ba' pa' ea' bl',r=.agg [I wv,I mg,ba',pa',ea']/\Sl Bd.c ba' bl'/\bl'.map Bd.core=bl.map Bd.core/\Sl Pn.c pa' pl/\Sl Pe.c ea' el
theorem w_cpTail(call:x17y){v:AV}{L:List (Bd×AV)}{fc:Nat}{m:Mem}(h2:Sl Pn.c pa pl)(h3:Sl Pe.c ea el)(hp:pl.length<=1000000)(he:el.length<=1000000)(hL:L.map (·.1)=bl)(hBA:BA m v L)(hc:∀x∈L,CpC fc m x.2 x.1.cs)(g1:m.get (0,0,1)=some (.row [I wv,I mg,v,pa,ea] 0 false))(g2:m.get (0,1,2)=some (.row x1e 0 false)):RetF (CpT wv mg bl pl el) (x8r call [] 0 (.ptr (0,0,1) 0 0) (.ptr (0,1,2) 0 0) m fc):=by
 have hr:x18q pl.length 40:=by unfold x18q;omega
 have hr2:x18q el.length 24:=by unfold x18q;omega
 have a1:=λm=>x1fz Pn.len h2 hr (0,fc+3,32) m
 have a2:=λm=>x1fz Pe.len h3 hr2 (0,fc+7,36) m
 have hx:=h2.tX
 have hx2:=h3.tX
 obtain⟨pv,m1,A1,o1,f1,z1⟩:∃pv m1,(∀{R:Type} (k:AV->Mem->Option R),sApp 4 40 (0,fc+3,32) (elems m.get 4 pa) (.slit [] 0 true) m k=k pv m1)/\(pv.one=true/\pv.cells=[pv])/\(∀j:Id,j≠(0,fc+3,32)->m1.get j=m.get j)/\(∀m':Mem,m'.get (0,fc+3,32)=m1.get (0,fc+3,32)->∃pv',Sl Pn.c pv' pl/\Go.Ix.frz m'.get 5 pv=some pv'):=by
  rcases a1 m with ⟨rfl,h1⟩|⟨h0,h1⟩
  .exact⟨_,m,h1,⟨rfl,rfl⟩,λ_ _=>rfl,λm' _=>⟨.slit [] 0 true,Or.inr ⟨true,rfl⟩,rfl⟩⟩
  .refine⟨_,_,h1,⟨rfl,rfl⟩,λj hj=>Mem.get_new_ne hj,λm' hm=>⟨_,Sl.lit pl false,x1ho (k:=3) Pn.len Pn.still ?_⟩⟩
   rw[hm,Mem.get_new_same]
 obtain⟨ev,m2,A2,o2,f2,z2⟩:∃ev m2,(∀{R:Type} (k:AV->Mem->Option R),sApp 2 24 (0,fc+7,36) (elems m1.get 2 ea) (.slit [] 0 true) m1 k=k ev m2)/\(ev.one=true/\ev.cells=[ev])/\(∀j:Id,j≠(0,fc+7,36)->m2.get j=m1.get j)/\(∀m':Mem,m'.get (0,fc+7,36)=m2.get (0,fc+7,36)->∃ev',Sl Pe.c ev' el/\Go.Ix.frz m'.get 5 ev=some ev'):=by
  rcases a2 m1 with ⟨rfl,h1⟩|⟨h0,h1⟩
  .exact⟨_,m1,h1,⟨rfl,rfl⟩,λ_ _=>rfl,λm' _=>⟨.slit [] 0 true,Or.inr ⟨true,rfl⟩,rfl⟩⟩
  .refine⟨_,_,h1,⟨rfl,rfl⟩,λj hj=>Mem.get_new_ne hj,λm' hm=>⟨_,Sl.lit el false,x1ho (k:=3) Pe.len Pe.still ?_⟩⟩
   rw[hm,Mem.get_new_same]
 have k1:m1.get (0,0,1)=some (.row [I wv,I mg,v,pa,ea] 0 false):=by rw[f1 _ (by simp)];exact g1
 have k2:m2.get (0,0,1)=some (.row [I wv,I mg,v,pa,ea] 0 false):=by rw[f2 _ (by simp)];exact k1
 obtain⟨m3,hm3⟩:∃m3:Mem,m3=m2.set (0,0,1) (.row [I wv,I mg,v,pv,ea] 0 false):=⟨_,rfl⟩
 have S3:∀{R:Type} (K:Mem->Option R),sSt 1 (.ptr (0,0,1) 0 3) pv m2 K=K m3:=λK=>by rw[st_1 k2 o1 (by simp),hm3];rfl
 have k3:m3.get (0,0,1)=some (.row [I wv,I mg,v,pv,ea] 0 false):=by rw[hm3,Mem.get_set_same]
 obtain⟨m4,hm4⟩:∃m4:Mem,m4=m3.set (0,0,1) (.row [I wv,I mg,v,pv,ev] 0 false):=⟨_,rfl⟩
 have S4:∀{R:Type} (K:Mem->Option R),sSt 1 (.ptr (0,0,1) 0 4) ev m3 K=K m4:=λK=>by rw[st_1 k3 o2 (by simp),hm4];rfl
 have k4:m4.get (0,0,1)=some (.row [I wv,I mg,v,pv,ev] 0 false):=by rw[hm4,Mem.get_set_same]
 have q4:m4.get (0,1,2)=some (.row x1e 0 false):=by
  rw[hm4,Mem.get_set_ne (by simp),hm3,Mem.get_set_ne (by simp),f2 _ (by simp),f1 _ (by simp)]
  exact g2
 have L4:sLd true 5 (.ptr (0,0,1) 0 0) m4=some (.agg [I wv,I mg,v,pv,ev]):=by rw[x183 k4];rfl
 obtain⟨m5,hm5⟩:∃m5:Mem,m5=m4.set (0,1,2) (.row [I wv,I mg,v,pv,ev] 0 false):=⟨_,rfl⟩
 have ho:=hBA.one
 have S5:∀{R:Type} (K:Mem->Option R),sSt 5 (.ptr (0,1,2) 0 0) (.agg [I wv,I mg,v,pv,ev]) m4 K=K m5:=λK=>by
  rw[x1ej (off:=0) (z:=5) (x:=.agg [I wv,I mg,v,pv,ev]) (k:=K) q4 rfl (by rw[z_setup];exact x1sn _) (by simp[ho.1,o1.1,o2.1]),hm5,z_setup]
  rfl
 have k5:m5.get (0,1,2)=some (.row [I wv,I mg,v,pv,ev] 0 false):=by rw[hm5,Mem.get_set_same]
 have L5:sLdP true 5 (.ptr (0,1,2) 0 0) m5=some (.agg [I wv,I mg,v,pv,ev]):=by
  show sLd true 5 (.ptr (0,1,2) 0 0) m5=_
  rw[x183 k5];rfl
 have back:∀j:Id,j≠(0,0,1)->j≠(0,1,2)->j≠(0,fc+3,32)->j≠(0,fc+7,36)->m5.get j=m.get j:=λj n1 n2 n3 n4=>by
  rw[hm5,Mem.get_set_ne n2,hm4,Mem.get_set_ne n1,hm3,Mem.get_set_ne n1,f2 j n4,f1 j n3]
 obtain⟨pv',y1,y2⟩:=z1 m5 (by rw[hm5,Mem.get_set_ne (by simp),hm4,Mem.get_set_ne (by simp),hm3,Mem.get_set_ne (by simp),f2 _ (by simp)])
 obtain⟨ev',y3,y4⟩:=z2 m5 (by rw[hm5,Mem.get_set_ne (by simp),hm4,Mem.get_set_ne (by simp),hm3,Mem.get_set_ne (by simp)])
 obtain⟨v',bl',w1,w2,w3⟩:=(hBA.frame (m':=m5) (back _ (by simp) (by simp) (by simp) (by simp))).frz (k:=2) (fc:=fc) (λx hx=>(hc x hx).mono (x1sn _) λs _=>back _ (by simp) (by simp) (by simp) (by simp))
 unfold x8r
 simp only[x1hu,x18g,x182,x1sg,x183 g1,rd_f,x1sj,x1sf,List.head?_cons,A1,x183 k1,A2,S3,S4,hx,hx2]
 have hap:(x18c (some [],some [(0,fc,29)]) (tR (.ptr (0,0,1) 0 3))&&(x18c (some [],some [(0,fc,29)]) (some [],some [(0,fc+4,33)])&&(x18c (tR (.ptr (0,0,1) 0 3)) (some [],some [(0,fc+4,33)])&&(x18c (some [],tA (0,fc+3,32) (.slit [] 0 true)) (some [],some [(0,fc+4,33)])&&(x18c (some [],some [(0,fc,29)]) (tR (.ptr (0,0,1) 0 4))&&(x18c (some [],tA (0,fc+3,32) (.slit [] 0 true)) (tR (.ptr (0,0,1) 0 4))&&(x18c (some [],some [(0,fc+4,33)]) (tR (.ptr (0,0,1) 0 4))&&true)))))))=true:=by
  simp[x18c,tR,tA,disj]
 simp only[hap,x18m,L4,S5,L5,x182]
 refine RetF.mk (a':=.agg [I wv,I mg,v',pv',ev']) ?_ ⟨v',pv',ev',bl',rfl,w1,by rw[w2,<-hL,List.map_map];rfl,y1,y3⟩
 show([I wv,I mg,v,pv,ev].mapM (Go.Ix.frz m5.get 5)).map AV.agg=_
 have hi:∀z:Int,Go.Ix.frz m5.get 5 (I z)=some (I z):=λ_=>rfl
 simp only[x1te,x1ty,hi,w3,y2,y4]
 rfl
theorem l_cp(call:x17y)(h2:Sl Pn.c pa pl)(h3:Sl Pe.c ea el)(hp:pl.length<=1000000)(he:el.length<=1000000)(hcs:∀b∈bl,b.cs.length<=1000000)(hbl:bl.length<=1000000):∀(n i j:Nat) (v:AV) (L:List (Bd×AV)) (m:Mem) (fc:Nat),i+n=L.length->n<j->L.map (·.1)=bl->BA m v L->CpL fc m L i ->
 m.get (0,0,1)=some (.row [I wv,I mg,v,pa,ea] 0 false)->m.get (0,1,2)=some (.row x1e 0 false)->RetF (CpT wv mg bl pl el) (x3q call [] 0 j (.ptr (0,0,1) 0 0) (.ptr (0,1,2) 0 0) (I i) m fc):=by
 intro n
 induction n with
 |zero=>
  intro i j v L m fc hi hj hL hBA hC g1 g2
  obtain⟨j,rfl⟩:∃i,j=i+1:=⟨j-1,by omega⟩
  have hlt:¬((i:Int)<(L.length:Int)):=by omega
  simp only[x3q]
  unfold x8s
  simp only[x18g,x182,x1sg,x183 g1,rd_f,x1sj,x1sf,List.head?_cons,hBA.len,x18k,hlt,x1sm,x18b]
  refine w_cpTail call h2 h3 hp he hL hBA (λx hx=>?_) g1 g2
  obtain⟨q,hq,rfl⟩:=x1wb hx
  have:=hC q hq
  rw[x1sc (by omega)]at this
  exact this.mono (by omega) λ_ _=>rfl
 |succ n ih=>
  intro i j v L m fc hi hj hL hBA hC g1 g2
  obtain⟨j,rfl⟩:∃i,j=i+1:=⟨j-1,by omega⟩
  have hil:i<L.length:=by omega
  have hLl:L.length=bl.length:=by rw[<-hL,x1uf]
  have hlt:((i:Int)<(L.length:Int)):=by omega
  rcases hBA with ⟨-,rfl⟩|⟨rfl,hg⟩
  .simp at hil
  have hCi:=hC i hil
  rw[x1sd (by omega)]at hCi
  have hbi:L[i].1∈bl:=by rw[<-hL];exact x1w6 (x1t0 hil)
  have hw:w64 ((i:Int)+1)=((i+1:Nat):Int):=by rw[x18i (by omega) (by omega)];omega
  have ix:sIx 3 (.sref (0,5,7) 0 0 L.length 3 true) (I i)=some (.ptr (0,5,7) 0 (i*3)):=by simp[sIx,asI,hil]
  have ld:sLd false 1 (.ptr (0,5,7) 0 (i*3+1)) m=some L[i].1.ca:=by
   rw[x183 hg,<-List.drop_drop,x1h8 x1g0,x19h hil,x1st,<-hCi]
   rfl
  have hr:x18q L[i].1.cs.length 24:=by unfold x18q;have:=hcs _ hbi;omega
  obtain⟨cv,m1,A1,o1,f1,z1⟩:∃cv m1,(∀{R:Type} (k:AV->Mem->Option R),sApp 3 24 (0,fc+15,26) (elems m.get 3 L[i].1.ca) (.slit [] 0 true) m k=k cv m1)/\(cv.one=true/\cv.cells=[cv])/\(∀j:Id,j≠(0,fc+15,26)->m1.get j=m.get j)/\CpC (fc+22) m1 cv L[i].1.cs:=by
   rcases x1fz Pl.len L[i].1.ok hr (0,fc+15,26) m with ⟨h0,h1⟩|⟨h0,h1⟩
   .exact⟨_,m,h1,⟨rfl,rfl⟩,λ_ _=>rfl,.inl ⟨rfl,h0⟩⟩
   .exact⟨_,_,h1,⟨rfl,rfl⟩,λj hj=>Mem.get_new_ne hj,.inr ⟨fc+15,by omega,rfl,by rw[Mem.get_new_same]⟩⟩
  have hg1:m1.get (0,5,7)=some (.row (L.flatMap x1at) 0 false):=by rw[f1 _ (by simp)];exact hg
  obtain⟨m2,hm2⟩:∃m2:Mem,m2=m1.set (0,5,7) (.row ((L.set i (L[i].1,cv)).flatMap x1at) 0 false):=⟨_,rfl⟩
  have S1:∀{R:Type} (K:Mem->Option R),sSt 1 (.ptr (0,5,7) 0 (i*3+1)) cv m1 K=K m2:=λK=>by
   rw[st_1 hg1 o1 (by rw[x1aq x1g0];omega),splice_ca L i hil,hm2]
  have m2o:∀j:Id,j≠(0,5,7)->j≠(0,fc+15,26)->m2.get j=m.get j:=λj n1 n2=>by rw[hm2,Mem.get_set_ne n1,f1 j n2]
  simp only[x3q]
  unfold x8s
  have hxt:=L[i].1.ok.tX
  have hap:(x18c (tR (.ptr (0,0,1) 0 2)) (some [],some [(0,fc+8,19)])&&(x18c (some [],some [(0,fc+8,19)]) (tR (.ptr (0,0,1) 0 2))&&(x18c (some [],some [(0,fc+8,19)]) (tR (.ptr (0,5,7) 0 (i*3+1)))&&(x18c (tR (.ptr (0,0,1) 0 2)) (tX L[i].1.ca,tA (0,fc+15,26) (.slit [] 0 true))&&true))))=true:=by
   simp[x18c,tR,tA,disj,hxt]
  have hlen:sLen Tryz.prog xj (.sref (0,5,7) 0 0 L.length 3 true)=some (I L.length):=rfl
  simp only[x18g,x182,x1sg,x183 g1,rd_f,x1sj,x1sf,List.head?_cons,hlen,x18k,hlt,x1si,x18a,x1hu,ix,ld,A1,S1,hap,x18m,x18y,hw]
  have hset:(L.set i (L[i].1,cv)).map (·.1)=bl:=by
   rw[List.map_set,<-hL]
   refine List.ext_getElem (by simp) λq h1 h2=>?_
   rw[List.getElem_set]
   split
   .rename_i e;subst e;simp
   .rfl
  refine ih (i+1) j (.sref (0,5,7) 0 0 L.length 3 true) (L.set i (L[i].1,cv)) m2 (fc+22) (by simp;omega) (by omega) hset (.inr ⟨by simp,by rw[hm2,Mem.get_set_same]⟩) (λq hq=>?_) ?_ ?_
  .rw[List.length_set]at hq
   by_cases e:i=q
   .subst e
    rw[x1sc (by omega)]
    simp only[List.getElem_set_self]
    exact z1.mono (x1sn _) λs _=>by rw[hm2,Mem.get_set_ne (by simp)]
   .have:=hC q hq
    rw[List.getElem_set_ne e]
    by_cases c:q<i
    .rw[x1sc c]at this
     rw[x1sc (by omega)]
     exact this.mono (by omega) λs hs=>m2o _ (by simp) (by simp;omega)
    .rw[x1sd c]at this
     rw[x1sd (by omega)]
     exact this
  .rw[m2o _ (by simp) (by simp)]
   exact g1
  .rw[m2o _ (by simp) (by simp)]
   exact g2
theorem x1ma(d:Nat)(h1:Sl Bd.c ba bl)(h2:Sl Pn.c pa pl)(h3:Sl Pe.c ea el)(hb:bl.length<=1000000)(hp:pl.length<=1000000)(he:el.length<=1000000)(hcs:∀b∈bl,b.cs.length<=1000000)(m:Mem) :
 ∃ba' pa' ea' bl',Sl Bd.c ba' bl'/\bl'.map Bd.core=bl.map Bd.core/\Sl Pn.c pa' pl/\Sl Pe.c ea' el/\x17z (x180 (d+1)) x1g [.agg [I wv,I mg,ba,pa,ea]] m=some (.agg [I wv,I mg,ba',pa',ea'],m):=by
 have key:RetF (CpT wv mg bl pl el) (x180 (d+1) [] x1g [.agg [I wv,I mg,ba,pa,ea]] mem0):=by
  rw[xzp]
  unfold xbe x8t
  have ho:[I wv,I mg,ba,pa,ea].all AV.one=true:=by simp[h1.one,h2.one,h3.one]
  simp only[mem0,x19f,x19n,ho,x18m,x1al]
  obtain⟨m1,hm1⟩:∃m1:Mem,m1=((⟨[],0+1⟩:Mem).new (0,0,1) (.row [I wv,I mg,ba,pa,ea] 0 false)).new (0,0+1,2) (.row x1e 0 false):=⟨_,rfl⟩
  rw[<-hm1]
  have g1:m1.get (0,0,1)=some (.row [I wv,I mg,ba,pa,ea] 0 false):=by rw[hm1];simp
  have g2:m1.get (0,1,2)=some (.row x1e 0 false):=by rw[hm1];simp
  have hr:x18q bl.length 48:=by unfold x18q;omega
  obtain⟨v,m2,A1,o1,f1,z1⟩:∃v m2,(∀{R:Type} (k:AV->Mem->Option R),sApp 3 48 (0,5,7) (elems m1.get 3 ba) (.slit [] 0 true) m1 k=k v m2)/\(v.one=true/\v.cells=[v])/\(∀j:Id,j≠(0,5,7)->m2.get j=m1.get j)/\BA m2 v (bl.map λb=>(b,b.ca)):=by
   rcases x1fz Bd.len h1 hr (0,5,7) m1 with ⟨rfl,h0⟩|⟨h0,h0'⟩
   .exact⟨_,m1,h0,⟨rfl,rfl⟩,λ_ _=>rfl,.inl ⟨rfl,rfl⟩⟩
   .exact⟨_,_,h0',⟨rfl,rfl⟩,λj hj=>Mem.get_new_ne hj,.inr ⟨by rw[x1uf],by rw[Mem.get_new_same,bd_flat]⟩⟩
  have k2:m2.get (0,0,1)=some (.row [I wv,I mg,ba,pa,ea] 0 false):=by rw[f1 _ (by simp)];exact g1
  obtain⟨m3,hm3⟩:∃m3:Mem,m3=m2.set (0,0,1) (.row [I wv,I mg,v,pa,ea] 0 false):=⟨_,rfl⟩
  have S3:∀{R:Type} (K:Mem->Option R),sSt 1 (.ptr (0,0,1) 0 2) v m2 K=K m3:=λK=>by rw[st_1 k2 o1 (by simp),hm3];rfl
  simp only[x1hu,x18g,x182,x1sg,x183 g1,rd_f,x1sj,x1sf,List.head?_cons,A1,S3]
  unfold xd0
  exact l_cp (x180 d) (bl:=bl) h2 h3 hp he hcs hb bl.length 0 NN v (bl.map λb=>(b,b.ca)) m3 _ (by simp) (by rw[x197];omega) (by rw[List.map_map];exact List.map_id' bl) (z1.frame (by rw[hm3,Mem.get_set_ne (by simp)])) (λq hq=>by rw[x1sd (by omega)];simp) (by rw[hm3,Mem.get_set_same]) (by rw[hm3,Mem.get_set_ne (by simp),f1 _ (by simp)];exact g2)
 obtain⟨r,⟨ba',pa',ea',bl',rfl,h⟩,hc⟩:=x1ds (by simp[h1.still1,h2.still1,h3.still1]) key m
 exact⟨ba',pa',ea',bl',h.1,h.2.1,h.2.2.1,h.2.2.2,hc⟩
theorem errL_core{bl bl':List Bd}:∀{ns:List ByteArray},bl'.map Bd.core=bl.map Bd.core->errL bdE Bd.nm ns bl'=errL bdE Bd.nm ns bl:=by
 induction bl generalizing bl' with
 |nil=>
  intro ns h
  simp at h
  subst h
  rfl
 |cons b r ih=>
  intro ns h
  cases bl' with
  |nil=>simp at h
  |cons b' r'=>
   rw[x1su,x1su]at h
   injection h with h1 h2
   have e:=ih (ns:=ns++[b.nm]) h2
   unfold Bd.core at h1
   simp only[x1se]at h1
   unfold errL bdE
   rw[h1.1,h1.2.1,h1.2.2]
   unfold bdE at e
   rw[e]
theorem x1kl{bl bl':List Bd}(h:bl'.map Bd.core=bl.map Bd.core):x1a3 wv mg bl' pl el=x1a3 wv mg bl pl el:=by
 have hl:bl'.length=bl.length:=by simpa using congrArg List.length h
 unfold x1a3
 rw[hl,errL_core h]
end Go.Ix
