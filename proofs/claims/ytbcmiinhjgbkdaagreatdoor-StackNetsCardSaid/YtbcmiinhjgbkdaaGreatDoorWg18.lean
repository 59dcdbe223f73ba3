import Derived.Test.YtbcmiinhjgbkdaaGreatDoorWg17
import Derived.Test.YtbcmiinhjgbkdaaGreatDoorWg16
import Derived.Test.YtbcmiinhjgbkdaaGreatDoorWg14
set_option linter.unusedSimpArgs false
set_option linter.unusedVariables false
set_option maxRecDepth 10000
namespace Go.Ix
open Go.Proofs
def scT(x:Scene):List UInt8:=rowT [scnB,x.nm.data.toList] [x.day,x.bl]
def prT(p:Pq):List UInt8:=rowT [prB] [p.a,p.b]
def x14k(S:List Scene)(P:List Pq):List UInt8:=S.flatMap scT++P.flatMap prT
structure Sc64 (x:Scene):Prop where
 d:I64 x.day
 b:I64 x.bl
 n:x.nm.data.toList.length<=100
def Pq64(p:Pq):Prop:=I64 p.a/\I64 p.b
theorem x1ew{ws:List (List UInt8)}{ns:List Int}(hw:∀w∈ws,w.length<=100)(h:ws.length+ns.length<=4):(rowT ws ns).length<=405:=by
 unfold rowT
 have h1:=x1bi (K:=100) (ws++ns.map decM) λw hm=>by
  rcases x1nf.1 hm with h|h
  .exact hw w h
  .have:=x1ev ns w h;omega
 rw[x1mk,x1o1]at h1
 have:(x123 [32] (ws++ns.map decM)).length<=101*4:=x1n7 h1 (Nat.mul_le_mul_left _ h)
 simp
 omega
theorem x180{x:Scene}(h:Sc64 x):(scT x).length<=405:=x1ew (by
 intro w hw
 simp only[x1ma,x1nw,or_false]at hw
 rcases hw with rfl|rfl
 .decide
 .exact h.n) (by simp)
theorem x19h(p:Pq):(prT p).length<=405:=x1ew (by
 intro w hw
 simp only[x1ma,x1nw,or_false]at hw
 rcases hw with rfl
 decide) (by simp)
theorem x14l{α:Type}{f:α->List UInt8}:∀{l:List α},(∀x∈l,(f x).length<=405)->(l.flatMap f).length<=405*l.length
 |[],_=>by simp
 |x::l,h=>by
  have h1:=h x (by simp)
  have h2:=x14l (f:=f) (l:=l) λy hy=>h y (by simp[hy])
  simp only[x1mj,x1mk,x1mf,Nat.mul_succ]
  omega
theorem Tx_nm(x:Scene):T x.nm=Tx x.nm.data.toList:=Tx_of x.nm
theorem mk_ww{R:Type}(a b:List UInt8)(id:Id)(m:Mem)(K:AV->Mem->Option R):x113 xl [(0,1,Tx a),(1,1,Tx b)] 2 1 id m K=K (.slit ([a,b].flatMap strE) 2 true) m:=by
 rw[z_strs];rfl
theorem mk_w{R:Type}(a:List UInt8)(id:Id)(m:Mem)(K:AV->Mem->Option R):x113 xl [(0,1,Tx a)] 1 1 id m K=K (.slit ([a].flatMap strE) 1 true) m:=by
 rw[z_strs];rfl
theorem mk_nn{R:Type}(a b:Int)(id:Id)(m:Mem)(K:AV->Mem->Option R):x113 x11m [(0,1,I a),(1,1,I b)] 2 1 id m K=K (.slit ([a,b].flatMap intE) 2 true) m:=by
 rw[zz_int7];rfl
def bidP:Id:=(0,8,5)
theorem l_prs9(d:Nat)(u:Nat){p:AV}{P:List Pq}(hp:Sl Pq.c p P)(h64:∀q∈P,Pq64 q)(hl:P.length<=200){T0:List UInt8}(hT:T0.length<=100000):∀(suf:List Pq) (i j:Nat) (m:Mem) (fc:Nat),P.drop i=suf->suf.length<j->9<=fc->m.get bidP=some (.bld xb x1 (T0++(P.take i).flatMap prT)) ->
 ∃m',x2s (x10p (d+3)) [] 0 j (.ptr bidP 0 0) (.clo xr [.ptr bidP 0 0]) p (I P.length) (I i) m fc=some (.tup [Tx (T0++P.flatMap prT),I 0],m'):=by
 intro suf
 induction suf with
 |nil=>
  intro i j m fc hd hj hfc hB
  obtain⟨j,rfl⟩:∃k,j=k+1:=⟨j-1,by simp at hj;omega⟩
  have hii:=x1na.mp hd
  have hlt:¬((i:Int)<(P.length:Int)):=by omega
  rw[x1mb hii]at hB
  have hfl:=x14l (f:=prT) (l:=P) λx _=>x19h x
  have hs:=c_bstr (d+2) [] hB (by rw[x1mk];omega)
  simp only[x2s]
  unfold x6m xac
  simp only[x11t,hlt,x1m9,x10r,x116,hs]
  exact⟨_,rfl⟩
 |cons e suf ih=>
  intro i j m fc hd hj hfc hB
  obtain⟨j,rfl⟩:∃k,j=k+1:=⟨j-1,by simp at hj;omega⟩
  obtain⟨hi,hwe,hd1⟩:=x13a hd
  have hlt:(i:Int)<(P.length:Int):=by omega
  have hix:=hp.ix Pq.len hi
  rw[hd,x1mj]at hix
  have he:=h64 e (by rw[<-hwe];exact x1nc hi)
  have w7:w64 ((i:Int)+1)=((i+1:Nat):Int):=by rw[x11k (by omega) (by omega)];omega
  have hld:sLd true 2 (.plit (e.c++suf.flatMap Pq.c)) m=some (.agg e.c):=rfl
  obtain⟨m1,hm1⟩:∃m1:Mem,m1=(m.new (0,fc+3,10) (.row [I 0,I 0] 0 false)).set (0,fc+3,10) (.row [I e.a,I e.b] 0 false):=⟨_,rfl⟩
  have hst:∀{R:Type} (K:Mem->Option R),sSt 2 (.ptr (0,fc+3,10) 0 0) (.agg e.c) (m.new (0,fc+3,10) (.row [I 0,I 0] 0 false)) K=K m1:=λK=>by
   rw[x124 (z:=2) (x:=.agg e.c) (Mem.get_new_same _ _ _) rfl (by simp) rfl,hm1]
   rfl
  have gB:m1.get bidP=some (.bld xb x1 (T0++(P.take i).flatMap prT)):=by
   rw[hm1,Mem.get_set,x1m0 (by unfold bidP;simp),Mem.get_new,x1m0 (by unfold bidP;simp)];exact hB
  have g1:m1.get (0,fc+3,10)=some (.row [I e.a,I e.b] 0 false):=by rw[hm1,Mem.get_set,x1m1 rfl]
  have la:sLd false 1 (.ptr (0,fc+3,10) 0 0) m1=some (I e.a):=by rw[x11g g1];rfl
  have lb:sLd false 1 (.ptr (0,fc+3,10) 0 1) m1=some (I e.b):=by rw[x11g g1];rfl
  have hfl:=x14l (f:=prT) (l:=P.take i) λx _=>x19h x
  rw[x1ni]at hfl
  obtain⟨m2,k1,k2,k3,k4⟩:=c_line8 (d+1) [] (bid:=bidP) (by unfold okL8 bidP;decide) (ns:=[e.a,e.b]) (by
   intro n hn
   simp only[x1ma,x1nw,or_false]at hn
   rcases hn with rfl|rfl
   .exact he.1
   .exact he.2) (by simp) (ws:=[prB]) (by simp[prB]) (by simp) (T:=T0++(P.take i).flatMap prT) (by rw[x1mk];omega) gB
  have k1':x128 (x10p (d+3)) [] 2 (.clo xr [.ptr bidP 0 0]) [.slit ([prB].flatMap strE) 1 true,.slit ([e.a,e.b].flatMap intE) 2 true] m1=some (.tup [],m2):=k1
  simp only[x2s]
  unfold x6m
  rw[show(AV.sc (.string ⟨#[112,97,105,114]⟩))=Tx prB from rfl]
  simp only[x11t,hlt,x1m6,x10r,x112,hix,hld,x14h,x16c,hst,mk_w,x12z,x1mn,la,lb,mk_nn,k1',x12k,w7]
  refine ih (i+1) j m2 (fc+15) hd1 (by simp at hj;omega) (by omega) ?_
  rw[k2,List.take_add_one,x1ml hi,hwe,x1p3,x1pc,x1mj,x1nx,x1n0,x1o9]
  rfl
theorem l_scs9(d:Nat){s p:AV}{S:List Scene}{P:List Pq}(hsl:Sl Scene.c s S)(hp:Sl Pq.c p P)(h64:∀q∈P,Pq64 q)(hs64:∀x∈S,Sc64 x)(hl:P.length<=200)(hlS:S.length<=60):∀(suf:List Scene) (i j:Nat) (m:Mem) (fc:Nat),S.drop i=suf->suf.length<j->9<=fc->m.get (0,0,1)=some (.row [s,p] 0 false)->m.get bidP=some (.bld xb x1 ((S.take i).flatMap scT)) ->
 ∃m',x2t (x10p (d+3)) [] 0 j (.ptr (0,0,1) 0 0) (.ptr bidP 0 0) (.clo xr [.ptr bidP 0 0]) s (I S.length) (I i) m fc=some (.tup [Tx (x14k S P),I 0],m'):=by
 intro suf
 induction suf with
 |nil=>
  intro i j m fc hd hj hfc hg hB
  obtain⟨j,rfl⟩:∃k,j=k+1:=⟨j-1,by simp at hj;omega⟩
  have hii:=x1na.mp hd
  have hlt:¬((i:Int)<(S.length:Int)):=by omega
  rw[x1mb hii]at hB
  have hfl:=x14l (f:=scT) (l:=S) λx hx=>x180 (hs64 x hx)
  have lp:sLd false 1 (.ptr (0,0,1) 0 1) m=some p:=by rw[x11g hg];simp[hp.one]
  simp only[x2t]
  unfold x6n xad
  simp only[x11t,hlt,x1m9,x10r,x116,x12z,x1mn,lp,hp.len x130]
  exact l_prs9 d 0 hp h64 hl (T0:=S.flatMap scT) (by omega) P 0 NN m _ rfl (by rw[x12a];omega) (by omega) (by rw[x1oi,x1nx,x1n0];exact hB)
 |cons e suf ih=>
  intro i j m fc hd hj hfc hg hB
  obtain⟨j,rfl⟩:∃k,j=k+1:=⟨j-1,by simp at hj;omega⟩
  obtain⟨hi,hwe,hd1⟩:=x13a hd
  have hlt:(i:Int)<(S.length:Int):=by omega
  have hix:=hsl.ix Scene.len hi
  rw[hd,x1mj]at hix
  have he:=hs64 e (by rw[<-hwe];exact x1nc hi)
  have w7:w64 ((i:Int)+1)=((i+1:Nat):Int):=by rw[x11k (by omega) (by omega)];omega
  have hld:sLd true 3 (.plit (e.c++suf.flatMap Scene.c)) m=some (.agg e.c):=rfl
  obtain⟨m1,hm1⟩:∃m1:Mem,m1=(m.new (0,fc+3,8) (.row [T ⟨#[]⟩,I 0,I 0] 0 false)).set (0,fc+3,8) (.row [T e.nm,I e.day,I e.bl] 0 false):=⟨_,rfl⟩
  have hst:∀{R:Type} (K:Mem->Option R),sSt 3 (.ptr (0,fc+3,8) 0 0) (.agg e.c) (m.new (0,fc+3,8) (.row [T ⟨#[]⟩,I 0,I 0] 0 false)) K=K m1:=λK=>by
   rw[x124 (z:=3) (x:=.agg e.c) (Mem.get_new_same _ _ _) rfl (by simp) rfl,hm1]
   rfl
  have f1:∀j:Id,j≠(0,fc+3,8)->m1.get j=m.get j:=λj hj=>by rw[hm1,Mem.get_set,x1m0 hj,Mem.get_new,x1m0 hj]
  have gB:m1.get bidP=some (.bld xb x1 ((S.take i).flatMap scT)):=by
   rw[f1 _ (by unfold bidP;simp)];exact hB
  have g1:m1.get (0,fc+3,8)=some (.row [T e.nm,I e.day,I e.bl] 0 false):=by rw[hm1,Mem.get_set,x1m1 rfl]
  have la:sLd false 1 (.ptr (0,fc+3,8) 0 0) m1=some (Tx e.nm.data.toList):=by rw[x11g g1,<-Tx_nm];rfl
  have lb:sLd false 1 (.ptr (0,fc+3,8) 0 1) m1=some (I e.day):=by rw[x11g g1];rfl
  have lc:sLd false 1 (.ptr (0,fc+3,8) 0 2) m1=some (I e.bl):=by rw[x11g g1];rfl
  have hfl:=x14l (f:=scT) (l:=S.take i) λx hx=>x180 (hs64 x (x1po hx))
  rw[x1ni]at hfl
  obtain⟨m2,k1,k2,k3,k4⟩:=c_line8 (d+1) [] (bid:=bidP) (by unfold okL8 bidP;decide) (ns:=[e.day,e.bl]) (by
   intro n hn
   simp only[x1ma,x1nw,or_false]at hn
   rcases hn with rfl|rfl
   .exact he.d
   .exact he.b) (by simp) (ws:=[scnB,e.nm.data.toList]) (by
   intro w hw
   simp only[x1ma,x1nw,or_false]at hw
   rcases hw with rfl|rfl
   .decide
   .have:=he.n;omega) (by simp) (T:=(S.take i).flatMap scT) (by omega) gB
  have k1':x128 (x10p (d+3)) [] 2 (.clo xr [.ptr bidP 0 0]) [.slit ([scnB,e.nm.data.toList].flatMap strE) 2 true,.slit ([e.day,e.bl].flatMap intE) 2 true] m1=some (.tup [],m2):=k1
  simp only[x2t]
  unfold x6n
  rw[show(AV.sc (.string ⟨#[115,99,101,110,101]⟩))=Tx scnB from rfl]
  simp only[x11t,hlt,x1m6,x10r,x112,hix,hld,x14h,x152,hst,x12z,x1mn,la,mk_ww,lb,lc,mk_nn,k1',x12k,w7]
  refine ih (i+1) j m2 (fc+17) hd1 (by simp at hj;omega) (by omega) (by rw[k4 _ (by unfold bidP;decide) (by unfold okL8;decide),f1 _ (by simp)];exact hg) ?_
  rw[k2,List.take_add_one,x1ml hi,hwe,x1p3,x1pc,x1mj,x1nx,x1n0]
  rfl
theorem w_Print7(d:Nat){s p:AV}{S:List Scene}{P:List Pq}(hsl:Sl Scene.c s S)(hp:Sl Pq.c p P)(h64:(net7 S P).2=0->(∀q∈P,Pq64 q)/\(∀x∈S,Sc64 x)/\P.length<=200/\S.length<=60)(m:Mem) :
 x10o (x10p (d+7)) x1g [.agg [s,p]] m=some (.tup [Tx (if(net7 S P).2=0 then x14k S P else[]),I (net7 S P).2],m):=by
 refine Ans.call0_tup (m:=m) ?_ (by simp[still,hsl.still1,hp.still1]) rfl
 unfold Ans
 rw[xu6]
 unfold x8y x6o
 have ho:[s,p].all AV.one=true:=by simp[hsl.one,hp.one]
 dsimp only
 simp only[mem0,x168,x11z,ho,x119,x1mn]
 obtain⟨m1,hm1⟩:∃m1:Mem,m1=(⟨[],1⟩:Mem).new (0,0,1) (.row [s,p] 0 false):=⟨_,rfl⟩
 have g1:m1.get (0,0,1)=some (.row [s,p] 0 false):=by rw[hm1];simp
 rw[<-hm1]
 have hld:sLd true 2 (.ptr (0,0,1) 0 0) m1=some (.agg [s,p]):=by rw[x11g g1];simp[hsl.one,hp.one]
 have hne:=λm=>x1be d hsl hp m
 simp only[hld,x10r,hne,x143]
 by_cases hz:(net7 S P).2=0
 .obtain⟨q1,q2,q3,q4⟩:=h64 hz
  rw[x1m1 hz]
  simp only[hz,x1m6,x1mh,x116]
  unfold sBld
  obtain⟨m2,hm2⟩:∃m2:Mem,m2=m1.new (0,8,5) (.bld xb x1 []):=⟨_,rfl⟩
  have g2:m2.get (0,0,1)=some (.row [s,p] 0 false):=by rw[hm2,Mem.get_new,x1m0 (by decide)];exact g1
  have gB:m2.get bidP=some (.bld xb x1 []):=by rw[hm2,show bidP=(0,8,5)from rfl,Mem.get_new,x1m1 rfl]
  have hmm:m1.new (0,8,5) (.bld 68 5 [])=m2:=hm2.symm
  rw[hmm]
  unfold xae
  have ls:sLd false 1 (.ptr (0,0,1) 0 0) m2=some s:=by rw[x11g g2];simp[hsl.one]
  simp only[x12z,x1mn,x10r,ls,hsl.len x12b]
  exact l_scs9 (d+3) hsl hp q1 q2 q3 q4 S 0 NN m2 _ rfl (by rw[x12a];omega) (by omega) g2 gB
 .rw[x1m0 hz]
  simp only[hz,x1m9,x1md,x112]
  exact⟨_,rfl⟩
theorem cap_p{n:Nat}{id:Id}{v o:Nat}(h:id.1<n):cAp (some n) (tR (.ptr id v o)) 2=true:=by
 simp[cAp,tR,h]
theorem cap_n{id:Id}{v o:Nat}:cAp none (tR (.ptr id v o)) 2=true:=rfl
theorem cap_l{n:Nat}{cs:List AV}:cAp (some n) (tR (.plit cs)) 2=true:=rfl
theorem mkM_I(n:Int):mkM 0 [I n]=2:=rfl
theorem prT_eq(p:Pq):prT p=[112,97,105,114,32]++(decM p.a++([32]++(decM p.b++[10]))):=by
 simp[prT,rowT,prB,x123]
theorem scT_eq(x:Scene):scT x=[115,99,101,110,101,32]++(x.nm.data.toList++([32]++(decM x.day++([32]++(decM x.bl++[10]))))):=by
 simp[scT,rowT,scnB,x123]
theorem l_rprsA(d:Nat){s p:AV}{P:List Pq}(hs:s.one=true)(hp:Sl Pq.c p P)(h64:∀q∈P,Pq64 q)(hl:P.length<=200){T0:List UInt8}(hT:T0.length<=100000){m:Mem}(hn:0<m.next)(hg:m.get (0,0,1)=some (.row [s,p] 0 false)):∀(suf:List Pq) (i j:Nat) (fc:Nat),P.drop i=suf->suf.length<j ->
 ∃m',x2u (x10p (d+2)) [] 0 j (.ptr (0,0,1) 0 0) (Tx (T0++(P.take i).flatMap prT)) (I i) m fc=some (Tx (T0++P.flatMap prT),m'):=by
 have lp:sLd false 1 (.ptr (0,0,1) 0 1) m=some p:=by rw[x11g hg];simp[hp.one]
 intro suf
 induction suf with
 |nil=>
  intro i j fc hd hj
  obtain⟨j,rfl⟩:∃k,j=k+1:=⟨j-1,by simp at hj;omega⟩
  have hii:=x1na.mp hd
  have hlt:¬((i:Int)<(P.length:Int)):=by omega
  simp only[x2u]
  unfold x6u xam
  simp only[x12z,x1mn,x10r,lp,hp.len x130,x11t,hlt,x1m9,x116]
  rw[x1mb hii]
  exact⟨m,rfl⟩
 |cons e suf ih=>
  intro i j fc hd hj
  obtain⟨j,rfl⟩:∃k,j=k+1:=⟨j-1,by simp at hj;omega⟩
  obtain⟨hi,hwe,hd1⟩:=x13a hd
  have hlt:(i:Int)<(P.length:Int):=by omega
  have hix:=hp.ix Pq.len hi
  rw[hd,x1mj]at hix
  have hix':sIx 2 p (I i)=some (.plit (I e.a::I e.b::suf.flatMap Pq.c)):=hix
  have hf0:sFA 0 (.plit (I e.a::I e.b::suf.flatMap Pq.c))=some (.plit (I e.a::I e.b::suf.flatMap Pq.c)):=rfl
  have hf1:sFA 1 (.plit (I e.a::I e.b::suf.flatMap Pq.c))=some (.plit (I e.b::suf.flatMap Pq.c)):=rfl
  have hsp:sFA 1 (.ptr (0,0,1) 0 0)=some (.ptr (0,0,1) 0 1):=by rw[x12z,x1mn]
  have he:=h64 e (by rw[<-hwe];exact x1nc hi)
  have w7:w64 ((i:Int)+1)=((i+1:Nat):Int):=by rw[x11k (by omega) (by omega)];omega
  have d1:=λm=>x199 d he.1.1 he.1.2 m
  have d2:=λm=>x199 d he.2.1 he.2.2 m
  have hfl:=x14l (f:=prT) (l:=P.take i) λx _=>x19h x
  rw[x1ni]at hfl
  have hda:=x17z e.a
  have hdb:=x17z e.b
  have hTl:(T0++(P.take i).flatMap prT).length<=200000:=by rw[x1mk];omega
  obtain⟨T,hTe⟩:∃T,T=T0++(P.take i).flatMap prT:=⟨_,rfl⟩
  rw[<-hTe]at hTl ⊢
  simp only[x2u]
  unfold x6u
  rw[show(AV.sc (.string ⟨#[112,97,105,114,32]⟩))=Tx [112,97,105,114,32]from rfl,show(AV.sc (.string ⟨#[32]⟩))=Tx [32]from rfl,show(AV.sc (.string ⟨#[10]⟩))=Tx [10]from rfl]
  simp only[hsp,x10r,lp,hp.len x130,x11t,hlt,x1m6,x112]
  rw[x136 _ _ (by simp only[x1mk,x1mf,x1mt];omega)]
  simp only[x10r,hsp,lp,hix',hf0,hf1,x12c,rd_f,List.head?_cons,d1]
  rw[x136 _ _ (by simp only[x1mk,x1mf,x1mt];omega)]
  simp only[x10r]
  rw[x136 _ _ (by simp only[x1mk,x1mf,x1mt];omega)]
  simp only[x10r,hsp,lp,hix',hf0,hf1,x12c,rd_f,List.head?_cons,d2]
  rw[x136 _ _ (by simp only[x1mk,x1mf,x1mt];omega)]
  simp only[x10r]
  rw[x136 _ _ (by simp only[x1mk,x1mf,x1mt];omega)]
  simp only[x10r,mkM_I,cap_p (n:=m.next) (id:=(0,0,1)) hn,cap_l,show Nat.ble 1 2=true from rfl,x1ny,x119,x12k,w7]
  have hnext:T++[112,97,105,114,32]++decM e.a++[32]++decM e.b++[10]=T0++(P.take (i+1)).flatMap prT:=by
   rw[List.take_add_one,x1ml hi,hwe,x1p3,x1pc,x1mj,x1nx,x1n0,<-x1o9,<-hTe,prT_eq]
   simp
  rw[hnext]
  exact ih (i+1) j _ hd1 (by simp at hj;omega)
theorem l_rscsA(d:Nat){s p:AV}{S:List Scene}{P:List Pq}(hsl:Sl Scene.c s S)(hp:Sl Pq.c p P)(h64:∀q∈P,Pq64 q)(hs64:∀x∈S,Sc64 x)(hl:P.length<=200)(hlS:S.length<=60):∀(suf:List Scene) (i j:Nat) (m:Mem) (fc:Nat),S.drop i=suf->suf.length<j->0<m.next->2<=fc->m.get (0,0,1)=some (.row [s,p] 0 false) ->
 ∃m',x2v (x10p (d+2)) [] 0 j (.ptr (0,0,1) 0 0) (Tx ((S.take i).flatMap scT)) (I i) m fc=some (Tx (x14k S P),m'):=by
 intro suf
 induction suf with
 |nil=>
  intro i j m fc hd hj hn hfc hg
  have ls:sLd false 1 (.ptr (0,0,1) 0 0) m=some s:=by rw[x11g hg];simp[hsl.one]
  obtain⟨j,rfl⟩:∃k,j=k+1:=⟨j-1,by simp at hj;omega⟩
  have hii:=x1na.mp hd
  have hlt:¬((i:Int)<(S.length:Int)):=by omega
  simp only[x2v]
  unfold x6v xan
  simp only[x12z,x1mn,x10r,ls,hsl.len x12b,x11t,hlt,x1m9,x116]
  have hfl:=x14l (f:=scT) (l:=S) λx hx=>x180 (hs64 x hx)
  obtain⟨m',h⟩:=l_rprsA d hsl.one hp h64 hl (T0:=S.flatMap scT) (by omega) hn hg P 0 NN (fc+5+1) rfl (by rw[x12a];omega)
  rw[x1oi,x1nx,x1n0]at h
  rw[x1mb hii]
  exact⟨m',h⟩
 |cons e suf ih=>
  intro i j m fc hd hj hn hfc hg
  have ls:sLd false 1 (.ptr (0,0,1) 0 0) m=some s:=by rw[x11g hg];simp[hsl.one]
  obtain⟨j,rfl⟩:∃k,j=k+1:=⟨j-1,by simp at hj;omega⟩
  obtain⟨hi,hwe,hd1⟩:=x13a hd
  have hlt:(i:Int)<(S.length:Int):=by omega
  have hix:=hsl.ix Scene.len hi
  rw[hd,x1mj]at hix
  have he:=hs64 e (by rw[<-hwe];exact x1nc hi)
  have w7:w64 ((i:Int)+1)=((i+1:Nat):Int):=by rw[x11k (by omega) (by omega)];omega
  have hld:∀m,sLd true 3 (.plit (e.c++suf.flatMap Scene.c)) m=some (.agg e.c):=λ_=>rfl
  obtain⟨m1,hm1⟩:∃m1:Mem,m1=(m.new (0,fc+10,5) (.row [T ⟨#[]⟩,I 0,I 0] 0 false)).set (0,fc+10,5) (.row [T e.nm,I e.day,I e.bl] 0 false):=⟨_,rfl⟩
  have hst:∀{R:Type} (K:Mem->Option R),sSt 3 (.ptr (0,fc+10,5) 0 0) (.agg e.c) (m.new (0,fc+10,5) (.row [T ⟨#[]⟩,I 0,I 0] 0 false)) K=K m1:=λK=>by
   rw[x124 (z:=3) (x:=.agg e.c) (Mem.get_new_same _ _ _) rfl (by simp) rfl,hm1]
   rfl
  have f1:∀j:Id,j≠(0,fc+10,5)->m1.get j=m.get j:=λj hj=>by rw[hm1,Mem.get_set,x1m0 hj,Mem.get_new,x1m0 hj]
  have n1:0<m1.next:=by rw[hm1];exact hn
  have g1:m1.get (0,fc+10,5)=some (.row [T e.nm,I e.day,I e.bl] 0 false):=by rw[hm1,Mem.get_set,x1m1 rfl]
  have la:sLd false 1 (.ptr (0,fc+10,5) 0 0) m1=some (Tx e.nm.data.toList):=by rw[x11g g1,<-Tx_nm];rfl
  have lb:sLd false 1 (.ptr (0,fc+10,5) 0 1) m1=some (I e.day):=by rw[x11g g1];rfl
  have lc:sLd false 1 (.ptr (0,fc+10,5) 0 2) m1=some (I e.bl):=by rw[x11g g1];rfl
  have d1:=λm=>x199 d he.d.1 he.d.2 m
  have d2:=λm=>x199 d he.b.1 he.b.2 m
  have hfl:=x14l (f:=scT) (l:=S.take i) λx hx=>x180 (hs64 x (x1po hx))
  rw[x1ni]at hfl
  have hda:=x17z e.day
  have hdb:=x17z e.bl
  have hnm:=he.n
  obtain⟨T,hTe⟩:∃T,T=(S.take i).flatMap scT:=⟨_,rfl⟩
  have hTl:T.length<=200000:=by rw[hTe];omega
  rw[<-hTe]
  simp only[x2v]
  unfold x6v
  rw[show(AV.sc (.string ⟨#[115,99,101,110,101,32]⟩))=Tx [115,99,101,110,101,32]from rfl,show(AV.sc (.string ⟨#[32]⟩))=Tx [32]from rfl,show(AV.sc (.string ⟨#[10]⟩))=Tx [10]from rfl]
  simp only[x12z,x1mn,x10r,ls,hsl.len x12b,x11t,hlt,x1m6,x112,hix,hld,x14h,x152,hst]
  rw[x136 _ _ (by simp only[x1mk,x1mf,x1mt];omega)]
  simp only[x10r,la]
  rw[x136 _ _ (by simp only[x1mk,x1mf,x1mt];omega)]
  simp only[x10r]
  rw[x136 _ _ (by simp only[x1mk,x1mf,x1mt];omega)]
  simp only[x10r,lb,d1]
  rw[x136 _ _ (by simp only[x1mk,x1mf,x1mt];omega)]
  simp only[x10r]
  rw[x136 _ _ (by simp only[x1mk,x1mf,x1mt];omega)]
  simp only[x10r,lc,d2]
  rw[x136 _ _ (by simp only[x1mk,x1mf,x1mt];omega)]
  simp only[x10r]
  rw[x136 _ _ (by simp only[x1mk,x1mf,x1mt];omega)]
  simp only[x10r,mkM_I,cap_n,cap_p (n:=m1.next) (id:=(0,fc+10,5)) n1,show Nat.ble 1 2=true from rfl,x1ny,x119,x12k,w7]
  have hnext:T++[115,99,101,110,101,32]++e.nm.data.toList++[32]++decM e.day++[32]++decM e.bl++[10]=(S.take (i+1)).flatMap scT:=by
   rw[List.take_add_one,x1ml hi,hwe,x1p3,x1pc,x1mj,x1nx,x1n0,<-hTe,scT_eq]
   simp
  rw[hnext]
  exact ih (i+1) j m1 _ hd1 (by simp at hj;omega) n1 (by omega) (by rw[f1 _ (by simp)];exact hg)
theorem w_rPrint7(d:Nat){s p:AV}{S:List Scene}{P:List Pq}(hsl:Sl Scene.c s S)(hp:Sl Pq.c p P)(h64:∀q∈P,Pq64 q)(hs64:∀x∈S,Sc64 x)(hl:P.length<=200)(hlS:S.length<=60)(m:Mem):x10o (x10p (d+3)) x21 [.agg [s,p]] m=some (Tx (x14k S P),m):=by
 refine Ans.call0 (m:=m) ?_ (by simp[still,hsl.still1,hp.still1]) rfl
 unfold Ans
 rw[xu9]
 unfold x91 x6w
 have ho:[s,p].all AV.one=true:=by simp[hsl.one,hp.one]
 dsimp only
 simp only[mem0,x168,x11z,ho,x119,x1mn]
 unfold xao
 obtain⟨m',h⟩:=l_rscsA d hsl hp h64 hs64 hl hlS S 0 NN ((⟨[],1⟩:Mem).new (0,0,1) (.row [s,p] 0 false)) (3+1) rfl (by rw[x12a];omega) Nat.one_pos (by omega) (by simp)
 exact⟨m',h⟩
theorem x19i(n:Int)(h0:-9223372036854775808<=n)(h1:n<=9223372036854775807):(10:UInt8)∉decM n:=by
 have key:∀u,u<10 ^ 20->(10:UInt8)∉digF 20 u:=λu hu h=>by
  have hD:=x16d 20 u (by omega) hu
  have:=x1m7.mp hD.all _ h
  exact absurd this (by decide)
 unfold decM
 split
 .intro h
  rcases x1ma.1 h with h|h
  .exact absurd h (by decide)
  .exact key _ (by omega) h
 .exact key _ (by omega)
theorem x1ex{c:UInt8}(hc:c=10\/c=32):∀(k:Nat) (l:List UInt8),x13o k l=true->c∉l
 |_,[],_=>by simp
 |k,x::l,h=>by
  unfold x13o at h
  rw[x1m5]at h
  intro hm
  rcases x1ma.1 hm with rfl|hm
  .have h1:=h.1
   rcases hc with rfl|rfl<;>(unfold chOK at h1;cases hk:decide (0<k)<;>rw[hk]at h1<;>exact absurd h1 (by decide))
  .exact x1ex hc (k+1) l h.2 hm
theorem nmOK_no{s:ByteArray}(h:nmOK s=true){c:UInt8}(hc:c=10\/c=32):c∉s.data.toList:=by
 unfold nmOK at h
 simp only[x1m5]at h
 exact x1ex hc 0 _ h.2
theorem nmOK_len{s:ByteArray}(h:nmOK s=true):s.data.toList.length<=12:=by
 unfold nmOK at h
 simp only[x1m5]at h
 have:=x1o6 h.1.2
 have e:s.size=s.data.toList.length:=(x1nn (xs:=s.data)).symm
 omega
theorem x1ey{l:List Scene}:∀(suf:List Scene) (k:Nat),(x12t l k suf).2=0->∀x∈suf,nmOK x.nm=true
 |[],_,_=>λs h=>by cases h
 |x::r,k,h=>by
  simp only[x12t]at h
  cases hn:nmOK x.nm with
  |false=>simp[hn]at h
  |true=>
   cases ha:(l.take k).any λy=>teq y.nm x.nm with
   |true=>simp[hn,ha]at h
   |false=>
    cases hw:wi x.day 0 100000 with
    |false=>simp[hn,ha,hw]at h
    |true=>
     cases hw2:wi x.bl (-100000) 100000 with
     |false=>simp[hn,ha,hw,hw2]at h
     |true=>
      simp[hn,ha,hw,hw2]at h
      have ih:=x1ey r (k+1) h
      intro s hs
      rcases x1ma.mp hs with rfl|hs
      .exact hn
      .exact ih s hs
theorem x1ez{n:Int}{P:List Pq}:∀(suf:List Pq) (k:Nat),(x14j n P k suf).2=0->∀p∈suf,(0<=p.a/\p.a<=n-1)/\(0<=p.b/\p.b<=n-1)
 |[],_,_=>λs h=>by cases h
 |p::r,k,h=>by
  simp only[x14j]at h
  cases ha:wi p.a 0 (n-1)with
  |false=>simp[ha]at h
  |true=>
   cases hb:wi p.b 0 (n-1)with
   |false=>simp[ha,hb]at h
   |true=>
    by_cases hc:p.b<=p.a
    .simp[ha,hb,hc]at h
    .cases hd:(P.take k).any (λq=>q.same p)with
     |true=>simp[ha,hb,hc,hd]at h
     |false=>
      simp[ha,hb,hc,hd]at h
      intro s hs
      rcases x1ma.mp hs with rfl|hs
      .exact⟨wi_t ha,wi_t hb⟩
      .exact x1ez r (k+1) h s hs
structure Rt7 (S:List Scene) (P:List Pq):Prop where
 ls:S.length<=60
 lp:P.length<=200
 nm:∀x∈S,nmOK x.nm=true
 bd:InB S
 pr:∀p∈P,(0<=p.a/\p.a<=59)/\(0<=p.b/\p.b<=59)
theorem rt7{S:List Scene}{P:List Pq}(h:(net7 S P).2=0):Rt7 S P:=by
 unfold net7 at h
 by_cases hs:(x12u S).2=0
 .obtain⟨h1,h2⟩:=x1az hs
  by_cases hp:200<P.length
  .simp[hs,hp]at h
  .simp[hs,hp]at h
   refine⟨h1,by omega,?_,h2,λp hm=>?_⟩
   .unfold x12u at hs
    rw[show decide (60<S.length)=false from x1oe (by omega)]at hs
    exact x1ey S 0 hs
   .have:=x1ez P 0 h p hm
    omega
 .simp[hs]at h
theorem Rt7.sc{S:List Scene}{P:List Pq}(h:Rt7 S P):∀x∈S,Sc64 x:=λx hx=>by
 have h1:=h.bd x hx
 have h2:=nmOK_len (h.nm x hx)
 exact⟨by unfold I64;omega,by unfold I64;omega,by omega⟩
theorem Rt7.pq{S:List Scene}{P:List Pq}(h:Rt7 S P):∀q∈P,Pq64 q:=λq hq=>by
 have:=h.pr q hq
 unfold Pq64 I64
 omega
def scL(x:Scene):List UInt8:=x123 [32] [scnB,x.nm.data.toList,decM x.day,decM x.bl]
def prL(p:Pq):List UInt8:=x123 [32] [prB,decM p.a,decM p.b]
theorem x1bj{c:UInt8}(hc:c≠32):∀{ws:List (List UInt8)},(∀w∈ws,c∉w)->c∉x123 [32] ws
 |[],_=>by simp[x123]
 |[w],h=>h w (by simp)
 |w::x::r,h=>by
  have ih:=x1bj hc (ws:=x::r) λy hy=>h y (x1me _ hy)
  show c∉w++([32]++x123 [32] (x::r))
  intro hm
  rcases x1nf.1 hm with hm|hm
  .exact h w (by simp) hm
  .rcases x1nf.1 hm with hm|hm
   .simp at hm;exact hc hm
   .exact ih hm
theorem Rt7.scno{S:List Scene}{P:List Pq}(h:Rt7 S P){x:Scene}(hx:x∈S):(10:UInt8)∉scL x:=x1bj (by decide) λw hw=>by
 have h1:=h.bd x hx
 simp only[x1ma,x1nw,or_false]at hw
 rcases hw with rfl|rfl|rfl|rfl
 .decide
 .exact nmOK_no (h.nm x hx) (.inl rfl)
 .exact x19i _ (by omega) (by omega)
 .exact x19i _ (by omega) (by omega)
theorem Rt7.prno{S:List Scene}{P:List Pq}(h:Rt7 S P){p:Pq}(hx:p∈P):(10:UInt8)∉prL p:=x1bj (by decide) λw hw=>by
 have h1:=h.pr p hx
 simp only[x1ma,x1nw,or_false]at hw
 rcases hw with rfl|rfl|rfl
 .decide
 .exact x19i _ (by omega) (by omega)
 .exact x19i _ (by omega) (by omega)
theorem Rt7.scline{S:List Scene}{P:List Pq}(h:Rt7 S P){x:Scene}(hx:x∈S)(S0:List Scene):x121 S0 [] (scL x)=some (S0++[x],[]):=by
 have h1:=h.bd x hx
 have hcut:cutM 32 (scL x)=[scnB,x.nm.data.toList,decM x.day,decM x.bl]:=x1b5 (by simp) λw hw=>by
  simp only[x1ma,x1nw,or_false]at hw
  rcases hw with rfl|rfl|rfl|rfl
  .decide
  .exact nmOK_no (h.nm x hx) (.inr rfl)
  .exact x196 _ (by omega) (by omega)
  .exact x196 _ (by omega) (by omega)
 unfold x121
 rw[hcut]
 rw[x1m1 ⟨rfl,by simp,rfl⟩]
 have e1:=x19c (n:=x.day) (d:=7) (by omega) (by omega) (by omega)
 have e2:=x19c (n:=x.bl) (d:=7) (by omega) (by omega) (by omega)
 simp only[x1oo,x1mi,twoM,e1,e2,Option.map_some,wd,List.getD_cons_succ,List.getD_cons_zero]
theorem Rt7.prline{S:List Scene}{P:List Pq}(h:Rt7 S P){p:Pq}(hx:p∈P)(S0:List Scene)(P0:List Pq):x121 S0 P0 (prL p)=some (S0,P0++[p]):=by
 have h1:=h.pr p hx
 have hcut:cutM 32 (prL p)=[prB,decM p.a,decM p.b]:=x1b5 (by simp) λw hw=>by
  simp only[x1ma,x1nw,or_false]at hw
  rcases hw with rfl|rfl|rfl
  .decide
  .exact x196 _ (by omega) (by omega)
  .exact x196 _ (by omega) (by omega)
 unfold x121
 rw[hcut]
 have hw0:wd [prB,decM p.a,decM p.b] 0=prB:=rfl
 rw[x1m0 (λe=>absurd (hw0.symm.trans e.1) (by decide)),x1m1 hw0]
 have e1:=x19c (n:=p.a) (d:=7) (by omega) (by omega) (by omega)
 have e2:=x19c (n:=p.b) (d:=7) (by omega) (by omega) (by omega)
 simp only[x1oo,x1mi,twoM,e1,e2,Option.map_some]
theorem x1f0:∀(L:List (List UInt8)),(∀l∈L,(10:UInt8)∉l)->x12d (L.flatMap λl=>l++[10])=L.map λl=>l++[10]
 |[],_=>rfl
 |l::L,h=>by
  rw[x1mj,x1o9,x1pp,x1ed _ (h l (by simp)),x1f0 L λx hx=>h x (x1me _ hx)]
  rfl
theorem x1f1{S:List Scene}{P:List Pq}{n:Nat}{l:List UInt8}{r:List (List UInt8)}{q:List Scene×List Pq}(h:x121 S P l=some q):goL S P n ((l++[10])::r)=goL q.1 q.2 (n+1) r:=by
 conv=>lhs;unfold goL
 have he:endL (l++[10])=true:=by simp[endL]
 rw[x1m1 he,List.dropLast_concat,h]
theorem go_prs{S:List Scene}{P:List Pq}(h:Rt7 S P)(S0:List Scene):∀(Q:List Pq) (P0:List Pq) (n:Nat),(∀p∈Q,p∈P)->goL S0 P0 n ((Q.map prL).map λl=>l++[10])=finM S0 (P0++Q)
 |[],P0,n,_=>by rw[x1n0];rfl
 |p::Q,P0,n,hq=>by
  rw[x1mm,x1mm,x1f1 (h.prline (hq p (by simp)) S0 P0),go_prs h S0 Q _ _ λx hx=>hq x (x1me _ hx),x1o9]
  rfl
theorem go_scs{S:List Scene}{P:List Pq}(h:Rt7 S P):∀(R:List Scene) (S0:List Scene) (n:Nat),(∀x∈R,x∈S)->goL S0 [] n (((R.map scL)++(P.map prL)).map λl=>l++[10])=finM (S0++R) P
 |[],S0,n,_=>by
  have:=go_prs h S0 P [] n λp hp=>hp
  rw[x1n0]
  exact this
 |x::R,S0,n,hr=>by
  rw[x1mm,x1np,x1mm,x1f1 (h.scline (hr x (by simp)) S0),go_scs h R _ _ λy hy=>hr y (x1me _ hy),x1o9]
  rfl
theorem flat_L{α:Type}(f:α->List UInt8)(l:List α):(l.flatMap λx=>f x++[10])=(l.map f).flatMap λl=>l++[10]:=by
 rw[List.flatMap_map]
theorem x1f2{S:List Scene}{P:List Pq}(h:Rt7 S P):(x14k S P).length<=405*(S.length+P.length):=by
 unfold x14k
 rw[x1mk]
 have h1:=x14l (f:=scT) (l:=S) λx hx=>x180 (h.sc x hx)
 have h2:=x14l (f:=prT) (l:=P) λx hx=>x19h x
 omega
theorem x1hd{S:List Scene}{P:List Pq}(he:(net7 S P).2=0)(hl:S.length+P.length<=100):x12p (x14k S P)=((S,P),0,0):=by
 have h:=rt7 he
 have hp:=x1f2 h
 unfold x12p
 rw[x1m0 (by omega)]
 have e:x14k S P=((S.map scL)++(P.map prL)).flatMap λl=>l++[10]:=by
  unfold x14k
  rw[x1pc,<-flat_L,<-flat_L]
  rfl
 rw[e,x1f0 _ λl hm=>by
  rcases x1nf.1 hm with hm|hm
  .obtain⟨x,hx,rfl⟩:=x1mz.1 hm
   exact h.scno hx
  .obtain⟨x,hx,rfl⟩:=x1mz.1 hm
   exact h.prno hx,go_scs h S [] 0 λx hx=>hx,x1od]
 unfold finM
 rw[x1m1 he]
theorem x1he(d:Nat)(t:TypeId)(s:ByteArray)(h:Tryz.prog.underlying t=some .string):x10w Tryz.prog (Op.equalIn (d+1) t (.string s) (.string s))=some true:=by
 simp[Op.equalIn,x13d,x1ax h,x16b]
 first|exact beq_self_eq_true s|(cases s with|mk a=>show(a == a)=true;simp)|exact x1n8 rfl
theorem ne_scene(X Y:Operand)(x:Scene):sBin Tryz.prog .neq xk X Y (.agg x.c) (.agg x.c)=some (B false):=by
 obtain⟨s,a,b⟩:=x
 have hS:Tryz.prog.underlying xk=some (.struct (Tryz.prog.fieldsOf xk)):=by kernel_rfl
 have hp:Tryz.prog.stoodInHeld xk=false:=by kernel_rfl
 have hF:((Tryz.prog.fieldsOf xk).toList.map λf=>(f.type,f.offset,decide (f.name = "_")))=[(x0,0,false),(x111,1,false),(x111,2,false)]:=by kernel_rfl
 have p0:x10w Tryz.prog (part x0 #[.string s,.int .i64 a,.int .i64 b] 0)=some (.string s):=by kernel_rfl
 have p1:x10w Tryz.prog (part x111 #[.string s,.int .i64 a,.int .i64 b] 1)=some (.int .i64 a):=by kernel_rfl
 have p2:x10w Tryz.prog (part x111 #[.string s,.int .i64 a,.int .i64 b] 2)=some (.int .i64 b):=by kernel_rfl
 have key:x10w Tryz.prog (Op.equalIn 10000 xk (.agg #[.string s,.int .i64 a,.int .i64 b]) (.agg #[.string s,.int .i64 a,.int .i64 b]))=some true:=by
  rw[show(10000:Nat)=9998+1+1 from rfl,x1e2 _ _ _ _ hS hp]
  generalize (Tryz.prog.fieldsOf xk).toList=fs at hF
  have hl:=congrArg List.length hF
  simp only[x1o1,x1mf,x1mt]at hl
  match fs,hl with
  |[f0,f1,f2],_=>
   simp only[x1mm,x1my,x1pd,x1m2,and_true,decide_eq_false_iff_not]at hF
   obtain⟨⟨t0,o0,n0⟩,⟨t1,o1,n1⟩,t2,o2,n2⟩:=hF
   have q0:x10w Tryz.prog (Op.equalIn 9999 x0 (.string s) (.string s))=some true:=x1he 9998 _ s (by kernel_rfl)
   have q1:∀n:Int,x10w Tryz.prog (Op.equalIn 9999 x111 (.int .i64 n) (.int .i64 n))=some (n == n):=λn=>x1e3 _ _ _ _ _ _ und_int
   simp only[Op.eqFields,n0,n1,n2,ne_eq,not_false_eq_true,x1mo,t0,t1,t2,o0,o1,o2,x13d,p0,p1,p2,x10r,q0,q1]
   simp[x16b,x13d,p0,p1,p2,q0,q1]
 exact x1e5 (r:=true) (x:=X) (y:=Y) (xs:=[.string s,.int .i64 a,.int .i64 b]) (ys:=[.string s,.int .i64 a,.int .i64 b]) (by kernel_rfl) key ⟨Scene.c ⟨s,a,b⟩,rfl⟩ _ _ rfl rfl
theorem x1hf(d u:Nat){a b p q:AV}{l:List Scene}(ha:Sl Scene.c a l)(hb:Sl Scene.c b l)(hl:l.length<1000000){m:Mem}(g2:m.get (0,0,2)=some (.row [a,p] 0 false))(g3:m.get (0,1,3)=some (.row [b,q] 0 false)) :
 ∀(suf:List Scene) (k j fc:Nat),l.drop k=suf->suf.length<j->x2w (x10p d) [] u j (.ptr (0,0,2) 0 0) (.ptr (0,1,3) 0 0) (I k) m fc=some (B true,m):=by
 have la:sLd false 1 (.ptr (0,0,2) 0 0) m=some a:=by rw[x11g g2];simp[ha.one]
 have lb:sLd false 1 (.ptr (0,1,3) 0 0) m=some b:=by rw[x11g g3];simp[hb.one]
 intro suf
 induction suf with
 |nil=>
  intro k j fc hd hj
  obtain⟨j,rfl⟩:∃i,j=i+1:=⟨j-1,by simp at hj;omega⟩
  have hk:¬((k:Int)<(l.length:Int)):=by have:=x1na.mp hd;omega
  simp only[x2w]
  unfold x6x
  simp only[x12z,x1mn,x1nz,x10r,la,ha.len x12b,x11t,hk,x1m9,x116]
  rfl
 |cons e r ih=>
  intro k j fc hd hj
  obtain⟨j,rfl⟩:∃i,j=i+1:=⟨j-1,by simp at hj;omega⟩
  obtain⟨hk,he,hd⟩:=x13a hd
  have hk':(k:Int)<(l.length:Int):=by omega
  have ix:=ha.ix Scene.len hk
  have ix2:=hb.ix Scene.len hk
  have ld:=x15l (m:=m) Scene.len (by omega) hk
  have w1:w64 ((k:Int)+1)=((k+1:Nat):Int):=by rw[x11k (by omega) (by omega)];omega
  have h':=ih (k+1) j (fc+19) hd (by simp at hj;omega)
  simp only[x2w]
  unfold x6x
  simp only[x12z,x1mn,x1nz,x10r,la,lb,ha.len x12b,x11t,hk',x1m6,x112,ix,ix2,ld,ne_scene,x116,x12k,w1]
  exact h'
theorem x1f3(d:Nat){a b p q:AV}{l:List Scene}{P:List Pq}(ha:Sl Scene.c a l)(hb:Sl Scene.c b l)(hp:Sl Pq.c p P)(hq:Sl Pq.c q P)(hl:l.length<1000000)(hP:P.length<1000000)(m:Mem) :
 x10o (x10p (d+2)) x1h [.agg [a,p],.agg [b,q]] m=some (B true,m):=by
 refine Ans.call0 (m:=m) ?_ (by simp[still,ha.still1,hb.still1,hp.still1,hq.still1]) rfl
 unfold Ans
 rw[xua]
 unfold x92 x6y
 have o1:[a,p].all AV.one=true:=by simp[ha.one,hp.one]
 have o2:[b,q].all AV.one=true:=by simp[hb.one,hq.one]
 dsimp only
 simp only[mem0,x168,x11z,o1,o2,x119,x1mn]
 obtain⟨m1,hm1⟩:∃m1:Mem,m1=((⟨[],1⟩:Mem).new (0,0,2) (.row [a,p] 0 false)).new (0,1,3) (.row [b,q] 0 false):=⟨_,rfl⟩
 have g2:m1.get (0,0,2)=some (.row [a,p] 0 false):=by rw[hm1];simp
 have g3:m1.get (0,1,3)=some (.row [b,q] 0 false):=by rw[hm1];simp
 rw[<-hm1]
 have la:sLd false 1 (.ptr (0,0,2) 0 0) m1=some a:=by rw[x11g g2];simp[ha.one]
 have lb:sLd false 1 (.ptr (0,1,3) 0 0) m1=some b:=by rw[x11g g3];simp[hb.one]
 have lp:sLd false 1 (.ptr (0,0,2) 0 1) m1=some p:=by rw[x11g g2];simp[hp.one]
 have lq:sLd false 1 (.ptr (0,1,3) 0 1) m1=some q:=by rw[x11g g3];simp[hq.one]
 have hsp:=λm=>x1gz d hp hq hP m
 simp only[x12z,x1mn,x1nz,x10r,la,lb,ha.len x12b,hb.len x12b,x143,x1m6,x1mh,x11y,x167,x11p,sW_f,x1md,x119,lp,lq,hsp,x13n,x11b,x11i,x116]
 unfold xap
 exact⟨_,x1hf (d+1) 0 ha hb hl g2 g3 l 0 NN _ rfl (by rw[x12a];omega)⟩
theorem goL_len:∀(L:List (List UInt8)) (S:List Scene) (P:List Pq) (n:Nat),S.length+P.length+L.length<=200000->(goL S P n L).1.1.length+(goL S P n L).1.2.length<=200000
 |[],S,P,n,h=>by
  unfold goL finM
  split
  .simp at h;exact h
  .simp
 |l::r,S,P,n,h=>by
  unfold goL
  split
  .cases hl:x121 S P l.dropLast with
   |none=>simp
   |some q=>
    simp only
    have:=x1bg hl
    exact goL_len r q.1 q.2 (n+1) (by simp at h;omega)
  .simp
theorem x1hg{q:List UInt8}(h:q.length<=100000):(x12p q).1.1.length+(x12p q).1.2.length<=200000:=by
 unfold x12p
 split
 .simp
 .refine goL_len _ _ _ _ ?_
  have:=x1ep q
  simp;omega
theorem x1f4(d:Nat){t:List UInt8}(ht:t.length<=60005):∃a b,Sl Scene.c a (x12p t).1.1/\Sl Pq.c b (x12p t).1.2/\∀m,x10o (x10p (d+8)) x14 [Tx t] m=some (.tup [.agg [a,b],I (x12p t).2.1,I (x12p t).2.2],m):=by
 obtain⟨x,m',x',h1,h2,a,b,rfl,h3,h4⟩:=a_Parse7 d ht
 exact⟨a,b,h3,h4,λm=>x190 rfl h1 h2⟩
theorem w_rParse7(d:Nat){t:List UInt8}(ht:t.length<=60005):∃a b,Sl Scene.c a (x12p t).1.1/\Sl Pq.c b (x12p t).1.2/\∀m,x10o (x10p (d+5)) x1i [Tx t] m=some (.tup [.agg [a,b],I (x12p t).2.1,I (x12p t).2.2],m):=by
 obtain⟨x,m',x',h1,h2,a,b,rfl,h3,h4⟩:=a_rParse7 d ht
 exact⟨a,b,h3,h4,λm=>x190 rfl h1 h2⟩
theorem b_nets0{q:List UInt8}(hq:q.length<=60005)(m:Mem)(fc:Nat):∃m',x3x (x10p 30) [] 0 (Tx q) m fc=some (B true,m'):=by
 obtain⟨a,b,h1,h2,h3⟩:=x1f4 22 hq
 obtain⟨a',b',k1,k2,k3⟩:=w_rParse7 25 hq
 have hln:=x1hg (q:=q) (by omega)
 have hsame:=λm=>x1f3 28 h1 k1 h2 k2 (by omega) (by omega) m
 have o1:[a,b].all AV.one=true:=by simp[h1.one,h2.one]
 have o2:[a',b'].all AV.one=true:=by simp[k1.one,k2.one]
 unfold x3x
 obtain⟨m2,hm2⟩:∃m2:Mem,m2=(m.new (0,fc+6,14) (.row [nilS,nilS] 0 false)).set (0,fc+6,14) (.row [a,b] 0 false):=⟨_,rfl⟩
 have hst:∀{R:Type} (K:Mem->Option R),sSt 2 (.ptr (0,fc+6,14) 0 0) (.agg [a,b]) (m.new (0,fc+6,14) (.row [nilS,nilS] 0 false)) K=K m2:=λK=>by
  rw[x124 (z:=2) (x:=.agg [a,b]) (Mem.get_new_same _ _ _) (by rw[x11z];rfl) (by simp) (by rw[x11z];exact o1),hm2,x11z];rfl
 obtain⟨m4,hm4⟩:∃m4:Mem,m4=(m2.new (0,fc+16,17) (.row [nilS,nilS] 0 false)).set (0,fc+16,17) (.row [a',b'] 0 false):=⟨_,rfl⟩
 have hst2:∀{R:Type} (K:Mem->Option R),sSt 2 (.ptr (0,fc+16,17) 0 0) (.agg [a',b']) (m2.new (0,fc+16,17) (.row [nilS,nilS] 0 false)) K=K m4:=λK=>by
  rw[x124 (z:=2) (x:=.agg [a',b']) (Mem.get_new_same _ _ _) (by rw[x11z];rfl) (by simp) (by rw[x11z];exact o2),hm4,x11z];rfl
 have l1:sLd true 2 (.ptr (0,fc+6,14) 0 0) m4=some (.agg [a,b]):=by
  rw[x11g (cs:=[a,b]) (fz:=false) (by rw[hm4,Mem.get_set,x1m0 (by simp),Mem.get_new,x1m0 (by simp),hm2,Mem.get_set,x1m1 rfl])];simp[h1.one,h2.one]
 have l2:sLd true 2 (.ptr (0,fc+16,17) 0 0) m4=some (.agg [a',b']):=by
  rw[x11g (cs:=[a',b']) (fz:=false) (by rw[hm4,Mem.get_set,x1m1 rfl])];simp[k1.one,k2.one]
 simp only[h3,k3,x10r,x144,x1nd,x1ne,x17y,hst,hst2,x12y,x1m6,x11p,x11y,x167,sW_t,x119,x11b,l1,l2,hsame]
 exact⟨_,rfl⟩
theorem law_StackNets{s p:AV}{S:List Scene}{P:List Pq}(hs:Sl Scene.c s S)(hp:Sl Pq.c p P)(t:ByteArray):∃m',x10p 31 [] x3b [.agg [s,p],T t] mem0=some (B true,m'):=by
 obtain⟨q,hq⟩:∃q,q=t.data.toList:=⟨_,rfl⟩
 rw[Tx_of t,<-hq]
 rw[xu2]
 unfold x8u x6f
 have o1:[s,p].all AV.one=true:=by simp[hs.one,hp.one]
 dsimp only
 simp only[mem0,x168,x11z,o1,x119]
 obtain⟨m1,hm1⟩:∃m1:Mem,m1=(⟨[],0+1⟩:Mem).new (0,0,2) (.row [s,p] 0 false):=⟨_,rfl⟩
 have g2:m1.get (0,0,2)=some (.row [s,p] 0 false):=by rw[hm1];simp
 rw[<-hm1]
 have l2:sLd true 2 (.ptr (0,0,2) 0 0) m1=some (.agg [s,p]):=by rw[x11g g2];simp[hs.one,hp.one]
 have hfew:=λm=>w_Few7 29 hs hp m
 simp only[w_awake7,x10r,x13n,x1mh,x116,l2,hfew,x120]
 have key:few7 S P=true->q.length<=60005->∃m',(sLd true 2 (.ptr (0,0,2) 0 0) m1).bind (λt41=>
  (x10o (x10p 30) xp [t41] m1).bind λp42=>
  (x10o (x10p 30) x12 [p42.1] p42.2).bind λp43=>
  (sExt p43.1 0).bind λt44=>
  (sExt p43.1 1).bind λt45=>
  (sLd true 2 (.ptr (0,0,2) 0 0) p43.2).bind λt47=>
  (x10o (x10p 30) xp [t47] p43.2).bind λp48=>
  (x10o (x10p 30) x1g [p48.1] p48.2).bind λp49=>
  (sExt p49.1 0).bind λt50=>
  (sExt p49.1 1).bind λt51=>
  (sLd true 2 (.ptr (0,0,2) 0 0) p49.2).bind λt53=>
  (x10o (x10p 30) x13 [t53] p49.2).bind λp54=>
  (sExt p54.1 0).bind λt55=>
  (sExt p54.1 1).bind λt56=>
  (sNe t45 t56).bind λt59=>
  sGv t59 false t44 p54.2 λp61=>
  sGv t59 false t55 p61.2 λp62=>
  sGo t59 false (sNe p61.1 p62.1) p62.2 λp63=>
  (x10u t59 (B true) p63.1).bind λt64=>
  sGv t64 false t51 p63.2 λp66=>
  sGv t64 false t56 p66.2 λp67=>
  sGo t64 false (sNe p66.1 p67.1) p67.2 λp68=>
  (x10u t64 (B true) p68.1).bind λt69=>
  x10n t69
  (some ((B false),p68.2))
  (x6e (x10p 30) [] 0 (Tx q) (.ptr (0,0,2) 0 0) t50 t56 p68.2 (0+58)))=some (B true,m'):=by
  intro hf hq5
  obtain⟨c1,c2⟩:=few7_len hf
  obtain⟨s1,p1,hs1,hp1,hc1⟩:=x1hb 29 hs hp (by omega) (by omega) m1
  have k1:=λm=>x1ek 25 hs1 hp1 m
  have k2:=λm=>w_Print7 23 hs1 hp1 (λhe=>⟨(rt7 he).pq,(rt7 he).sc,(rt7 he).lp,(rt7 he).ls⟩) m
  have k3:=λm=>x1el 27 hs hp m
  simp only[l2,x10r,hc1,k1,x144,x1nd,x1ne,k2,k3,x143,x1m6,x1mh,x11p,x11y,sW_f,x1md,x119,x11b,x11i,x116]
  unfold x6e
  by_cases he:(net7 S P).2=0
  .have hr:=rt7 he
   have hl8:S.length+P.length<=100:=by
    unfold few7 at hf
    by_cases a1:8<S.length
    .simp[a1,hr.ls]at hf
    .by_cases a2:14<P.length
     .simp[a1,a2,hr.lp]at hf
     .omega
   have hpl:=x1f2 hr
   obtain⟨a,b,h1,h2,h3⟩:=x1f4 22 (t:=x14k S P) (by omega)
   rw[x1hd he hl8]at h1 h2 h3
   have h4:=λm=>w_rPrint7 27 hs hp hr.pq hr.sc hr.lp hr.ls m
   have h5:=λm=>x1f3 28 (l:=S) (P:=P) h1 hs h2 hp (by omega) (by omega) m
   have o2:[a,b].all AV.one=true:=by simp[h1.one,h2.one]
   obtain⟨m2,hm2⟩:∃m2:Mem,m2=(m1.new (0,0+58+8,11) (.row [nilS,nilS] 0 false)).set (0,0+58+8,11) (.row [a,b] 0 false):=⟨_,rfl⟩
   have hst:∀{R:Type} (K:Mem->Option R),sSt 2 (.ptr (0,0+58+8,11) 0 0) (.agg [a,b]) (m1.new (0,0+58+8,11) (.row [nilS,nilS] 0 false)) K=K m2:=λK=>by
    rw[x124 (z:=2) (x:=.agg [a,b]) (Mem.get_new_same _ _ _) (by rw[x11z];rfl) (by simp) (by rw[x11z];exact o2),hm2,x11z];rfl
   have l11:sLd true 2 (.ptr (0,0+58+8,11) 0 0) m2=some (.agg [a,b]):=by
    rw[x11g (cs:=[a,b]) (fz:=false) (by rw[hm2,Mem.get_set,x1m1 rfl])];simp[h1.one,h2.one]
   have l22:sLd true 2 (.ptr (0,0,2) 0 0) m2=some (.agg [s,p]):=by
    rw[x11g (cs:=[s,p]) (fz:=false) (by rw[hm2,Mem.get_set,x1m0 (by simp),Mem.get_new,x1m0 (by simp)];exact g2)];simp[hs.one,hp.one]
   simp only[he,x1m6,x1mh,x116,x1mo,h3,x10r,x144,x1nd,x1ne,x17y,hst,l22,h4,x_ne,x11p,x11y,x167,sW_f,x1md,x119,x143,x11b,x11i,l11,h5,x13n]
   exact b_nets0 hq5 _ _
  .rw[show(AV.sc (.string ⟨#[]⟩))=Tx []from rfl]
   simp only[he,x1m9,x1md,x112,x1mg,x_ne,x1m6,x1mh,x10r,x116,x143]
   exact b_nets0 hq5 _ _
 cases hf:few7 S P with
 |false=>
  simp only[x1md,x11p,x11y,sW_f,sW_t,x1mh,x11i,x119,x10r,x11b,x112]
  exact⟨_,rfl⟩
 |true=>
  simp only[x1mh,x11p,x11y,sW_f,x1md,x119,x10r,x12x,x11b,x11i,x120]
  by_cases c1:(300:Int)<(q.length:Int)
  .by_cases c2:(q.length:Int)<=60000
   .simp only[c1,c2,x1m6,sW_t,sW_f,x1mh,x1md,x119,x11i,x10r,x16s,x11b,x112,x120,x12x]
    exact⟨_,rfl⟩
   .by_cases c3:(60005:Int)<(q.length:Int)
    .simp only[c1,c2,c3,x1m6,x1m9,sW_t,sW_f,x1mh,x1md,x119,x11i,x10r,x16s,x11b,x112,x120,x12x]
     exact⟨_,rfl⟩
    .simp only[c1,c2,c3,x1m6,x1m9,sW_t,sW_f,x1mh,x1md,x119,x11i,x10r,x16s,x11b,x112,x116,x120,x12x]
     exact key hf (by omega)
  .have c3:¬(60005:Int)<(q.length:Int):=by omega
   simp only[c1,c3,x1m6,x1m9,sW_t,sW_f,x1mh,x1md,x119,x11i,x10r,x16s,x11b,x112,x116,x120,x12x]
   exact key hf (by omega)
end Go.Ix
