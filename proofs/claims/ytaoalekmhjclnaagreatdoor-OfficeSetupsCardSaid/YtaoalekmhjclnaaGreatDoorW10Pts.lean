import Derived.Test.YtaoalekmhjclnaaGreatDoorWg11
import Derived.Test.YtaoalekmhjclnaaGreatDoorW10SetC
set_option linter.unusedSimpArgs false
set_option linter.unusedVariables false
set_option maxRecDepth 10000
namespace Go.Ix
open Go.Proofs
theorem z_bk:xo=[.sc (.pointer none),nilS,nilS,nilS,nilS]:=by kernel_rfl
theorem z_sls:xd5=[nilS]:=by kernel_rfl
theorem z_hist:xe3=[.sc (.pointer none),nilS,.sc (.pointer none),nilS,nilS,nilS,nilS]:=by kernel_rfl
theorem z_ost:x9m=[nilS,nilS,nilS,nilS]:=by kernel_rfl
variable{ba pa ea:AV}{bl:List Bd}{pl:List Pn}{el:List Pe}{wv mg:Int}
def idxB(x:ByteArray):Int->List Bd->Int
 |_,[]=>-1
 |k,b::r=>bif teq b.nm x then k else idxB x (k+1) r
theorem idxB_s(x:ByteArray):∀(l:List Bd) (k:Int),idxB x k l=-1\/∃i:Nat,idxB x k l=k+i/\i<l.length
 |[],k=>.inl rfl
 |b::r,k=>by
  rw[idxB]
  cases teq b.nm x with
  |true=>exact .inr ⟨0,by simp,by simp⟩
  |false=>
   rcases idxB_s x r (k+1)with h|⟨i,h,hi⟩
   .exact .inl h
   .exact .inr ⟨i+1,by simp only[cond_false,h];omega,by simp;omega⟩
theorem l_IndexBd(d:Nat){x:ByteArray}(h:Sl Bd.c ba bl)(hl:bl.length<=1000)(u:Nat):∀(suf:List Bd) (k j:Nat) (m:Mem) (fc:Nat),bl.drop k=suf->suf.length<j ->
 ∃m',x44 (x180 (d+1)) [] u j ba (.clo xr [.plit [T x]]) (I bl.length) (I k) m fc=some (I (idxB x k suf),m'):=by
 intro suf
 induction suf with
 |nil=>
  intro k j m fc hd hj
  obtain⟨j,rfl⟩:∃i,j=i+1:=⟨j-1,by simp at hj;omega⟩
  have hk:¬((k:Int)<(bl.length:Int)):=by have:=x1t3.mp hd;omega
  simp only[x44]
  unfold xa8 xf7
  simp only[x18k,hk,x1sm,x182,x18b,idxB]
  exact⟨m,rfl⟩
 |cons e r ih=>
  intro k j m fc hd hj
  obtain⟨j,rfl⟩:∃i,j=i+1:=⟨j-1,by simp at hj;omega⟩
  obtain⟨hk,he,hd1⟩:=x19i hd
  have hk':(k:Int)<(bl.length:Int):=by omega
  have ix:=h.ix Bd.len hk
  have ld:=λm=>x1a2 (m:=m) Bd.len (by omega) hk
  rw[he]at ld
  have hw:w64 ((k:Int)+1)=((k+1:Nat):Int):=by rw[x18i (by omega) (by omega)];omega
  obtain⟨m1,hinv⟩:∃m1,x19e (x180 (d+1)) [] 2 (.clo xr [.plit [T x]]) [.agg e.c] m=some (B (teq e.nm x),m1):=by
   show ∃m1,x180 (d+1) [] xr ([.agg e.c]++[.plit [T x]]) m=_
   rw[x1u5,x1u8,x10k]
   unfold xc7 xaa
   have ho:e.c.all AV.one=true:=e.one
   have ho2:(AV.agg e.c).cells.all AV.one=true:=ho
   simp only[x19f,ho2,x18m]
   generalize hM:Mem.new _ _ _=M
   have g:M.get (m.next,0,2)=some (.row [T e.nm,e.ca,I e.th] 0 false):=by rw[<-hM,Mem.get_new_same];rfl
   have hl1:∀m,sLd false 1 (.plit [T x]) m=some (T x):=λ_=>rfl
   simp only[x18g,x182,x1sg,x183 g,x1sf,rd_f,List.head?_cons,hl1,t_eq]
   exact⟨_,rfl⟩
  simp only[x44]
  unfold xa8
  simp only[x18k,hk',x1si,x18a,x182,ix,ld,hinv,idxB]
  cases ht:teq e.nm x with
  |true=>simp only[x18a];exact⟨_,rfl⟩
  |false=>
   obtain⟨m',h'⟩:=ih (k+1) j m1 (fc+11) hd1 (by simp at hj;omega)
   simp only[x18b,x18y,x182,hw,h',cond_false]
   exact⟨m',rfl⟩
theorem frz_bk{m:Mem}{id:Id}{b:Bool}{k:Nat}(hg:m.get id=some (.row [I wv,I mg,ba,pa,ea] 0 b))(hst:[I wv,I mg,ba,pa,ea].all still1=true):Go.Ix.frz m.get (k+3) (.agg [.ptr id 0 0,nilS,nilS,nilS,nilS])=some (.agg [.plit [I wv,I mg,ba,pa,ea],nilS,nilS,nilS,nilS]):=by
 have f3:[I wv,I mg,ba,pa,ea].mapM (Go.Ix.frz m.get (k+1))=some [I wv,I mg,ba,pa,ea]:=x1cd λa ha=>x1dm m.get k (x1sq.mp hst a ha)
 have f4:=x1en hg f3
 have f5:Go.Ix.frz m.get (k+2) nilS=some nilS:=rfl
 show([AV.ptr id 0 0,nilS,nilS,nilS,nilS].mapM (Go.Ix.frz m.get (k+2))).map AV.agg=_
 simp only[x1te,x1ty,f4,f5];rfl
theorem x1mb(d:Nat){x:ByteArray}{b:Bool}(h:Sl Bd.c ba bl)(hl:bl.length<=1000)(hst:[I wv,I mg,ba,pa,ea].all still1=true){m:Mem}{id:Id}(hg:m.get id=some (.row [I wv,I mg,ba,pa,ea] 0 b)) :
 x19p (x180 (d+3)) x1k [.agg [.ptr id 0 0,nilS,nilS,nilS,nilS],T x] m=some (I (idxB x 0 bl),m):=by
 obtain⟨m1,h1⟩:∃m1,x180 (d+2) [] x27 [ba,.clo xr [.plit [T x]]] mem0=some (I (idxB x 0 bl),m1):=by
  obtain⟨m1,r⟩:=l_IndexBd d (x:=x) h hl 0 bl 0 NN ⟨[],1⟩ 4 rfl (by rw[x197];omega)
  refine⟨m1,?_⟩
  rw[x10j]
  unfold xc6 xa9 xf8
  simp only[h.len x1b9,x182,mem0]
  exact r
 have key:∃m2,x180 (d+3) [] x1k [.agg [.plit [I wv,I mg,ba,pa,ea],nilS,nilS,nilS,nilS],T x] mem0=some (I (idxB x 0 bl),m2):=by
  rw[x106]
  unfold xbu x9n
  have ho:(AV.agg [.plit [I wv,I mg,ba,pa,ea],nilS,nilS,nilS,nilS]).cells.all AV.one=true:=rfl
  have ho2:(T x).cells.all AV.one=true:=rfl
  simp only[mem0,x19f,ho,ho2,x18m]
  generalize hM:Mem.new (Mem.new _ _ _) _ _=M
  have g1:M.get (0,0,2)=some (.row [.plit [I wv,I mg,ba,pa,ea],nilS,nilS,nilS,nilS] 0 false):=by rw[<-hM,Mem.get_new_ne (by simp),Mem.get_new_same];rfl
  have g2:M.get (0,1,3)=some (.row [T x] 0 false):=by rw[<-hM,Mem.get_new_same];rfl
  have e1:sNil (.plit [I wv,I mg,ba,pa,ea])=some (.plit [I wv,I mg,ba,pa,ea]):=rfl
  have e2:sFA 2 (.plit [I wv,I mg,ba,pa,ea])=some (.plit [ba,pa,ea]):=rfl
  have e3:∀m,sLd false 1 (.plit [ba,pa,ea]) m=some ba:=λ_=>rfl
  have e4:x19p (x180 (d+2)) x27 [ba,.clo xr [.ptr (0,1,3) 0 0]] M=some (I (idxB x 0 bl),M):=by
   refine x1fp ?_ h1 rfl
   have f1:Go.Ix.frz M.get deep ba=some ba:=x1ce _ 4 h.still
   have f2:Go.Ix.frz M.get 5 (.ptr (0,1,3) 0 0)=some (.plit [T x]):=x1en g2 rfl
   have f3:Go.Ix.frz M.get deep (.clo xr [.ptr (0,1,3) 0 0])=some (.clo xr [.plit [T x]]):=by
    show([AV.ptr (0,1,3) 0 0].mapM (Go.Ix.frz M.get 5)).map (AV.clo xr)=_
    simp only[x1te,x1ty,f2];rfl
   simp only[x1te,x1ty,f1,f3];rfl
  simp only[x18g,x182,x1sg,x183 g1,x1sf,rd_f,List.head?_cons,e1,e2,e3,e4]
  exact⟨_,rfl⟩
 obtain⟨m2,k2⟩:=key
 refine x1fp ?_ k2 rfl
 have f1:Go.Ix.frz m.get deep (.agg [.ptr id 0 0,nilS,nilS,nilS,nilS])=_:=frz_bk (k:=3) hg hst
 have f2:Go.Ix.frz m.get deep (T x)=some (T x):=rfl
 simp only[x1te,x1ty,f1,f2];rfl
theorem shut1_at{i:Id}{cs:List AV}{v:Nat}{h:Hp}{b:Bool}(hi:hget h i=some (.row cs v b)):hget (x1bg [i] h) i=some (.row cs v true):=by
 rw[congrFun (x1f6 [i] h) i]
 unfold shut
 simp[hi]
theorem shut1_ne{i j:Id}{h:Hp}(hn:j≠i):hget (x1bg [i] h) j=hget h j:=by
 rw[congrFun (x1f6 [i] h) j]
 unfold shut
 simp[hn]
theorem c_inside(d:Nat){i:Int}{b:Bool}(hst:[I wv,I mg,ba,pa,ea].all still1=true){m:Mem}{id:Id}(hg:m.get id=some (.row [I wv,I mg,ba,pa,ea] 0 b)) :
 x17z (x180 (d+1)) x1l [.agg [.ptr id 0 0,nilS,nilS,nilS,nilS],I i] m=some (.clo xw [.plit [.plit [I wv,I mg,ba,pa,ea],nilS,nilS,nilS,nilS],.plit [I i]],⟨x1bg [id] m.hp,m.next⟩):=by
 unfold x17z
 have f1:Go.Ix.frz m.get deep (.agg [.ptr id 0 0,nilS,nilS,nilS,nilS])=_:=frz_bk (k:=3) hg hst
 have f2:Go.Ix.frz m.get deep (I i)=some (I i):=rfl
 have f3:[AV.agg [.ptr id 0 0,nilS,nilS,nilS,nilS],I i].mapM (Go.Ix.frz m.get deep)=some [.agg [.plit [I wv,I mg,ba,pa,ea],nilS,nilS,nilS,nilS],I i]:=by
  simp only[x1te,x1ty,f1,f2];rfl
 have r0:([I wv,I mg,ba,pa,ea].flatMap (x188 m.get 4))=[]:=by
  rw[x1uo]
  exact λa ha=>x1fl m.get 3 (x1sq.mp hst a ha)
 have r1:x188 m.get 5 (.ptr id 0 0)=[id]:=by
  show(match m.get id with|some (.row cs _ _)=>id::(cs.drop 0).flatMap (x188 m.get 4)|_=>[id])=_
  rw[hg]
  show id::([I wv,I mg,ba,pa,ea].flatMap (x188 m.get 4))=_
  rw[r0]
 have r2:[AV.agg [.ptr id 0 0,nilS,nilS,nilS,nilS],I i].flatMap (x188 m.get deep)=[id]:=by
  have e1:x188 m.get deep (.agg [.ptr id 0 0,nilS,nilS,nilS,nilS])=[AV.ptr id 0 0,nilS,nilS,nilS,nilS].flatMap (x188 m.get 5):=rfl
  have e2:x188 m.get deep (I i)=[]:=rfl
  have e3:x188 m.get 5 nilS=[]:=rfl
  simp only[x1st,List.flatMap_nil,e1,e2,r1,e3,x1v0]
 have key:∃M:Mem,x180 (d+1) [] x1l [.agg [.plit [I wv,I mg,ba,pa,ea],nilS,nilS,nilS,nilS],I i] mem0=some (.clo xw [.ptr (0,0,2) 0 0,.ptr (0,1,3) 0 0],M)/\M.get (0,0,2)=some (.row [.plit [I wv,I mg,ba,pa,ea],nilS,nilS,nilS,nilS] 0 false)/\M.get (0,1,3)=some (.row [I i] 0 false):=by
  rw[x107]
  unfold xbv x9o
  have ho:(AV.agg [.plit [I wv,I mg,ba,pa,ea],nilS,nilS,nilS,nilS]).cells.all AV.one=true:=rfl
  have ho2:(I i).cells.all AV.one=true:=rfl
  simp only[mem0,x19f,ho,ho2,x18m]
  exact⟨_,rfl,by rw[Mem.get_new_ne (by simp),Mem.get_new_same];rfl,by rw[Mem.get_new_same];rfl⟩
 obtain⟨M,k1,g1,g2⟩:=key
 have q1:Go.Ix.frz M.get 5 (.ptr (0,0,2) 0 0)=some (.plit [.plit [I wv,I mg,ba,pa,ea],nilS,nilS,nilS,nilS]):=x1en g1 (by
  have p1:Go.Ix.frz M.get 4 (.plit [I wv,I mg,ba,pa,ea])=some (.plit [I wv,I mg,ba,pa,ea]):=rfl
  have p2:Go.Ix.frz M.get 4 nilS=some nilS:=rfl
  simp only[x1te,x1ty,p1,p2];rfl)
 have q2:Go.Ix.frz M.get 5 (.ptr (0,1,3) 0 0)=some (.plit [I i]):=x1en g2 rfl
 have q3:Go.Ix.frz M.get deep (.clo xw [.ptr (0,0,2) 0 0,.ptr (0,1,3) 0 0])=some (.clo xw [.plit [.plit [I wv,I mg,ba,pa,ea],nilS,nilS,nilS,nilS],.plit [I i]]):=by
  show([AV.ptr (0,0,2) 0 0,.ptr (0,1,3) 0 0].mapM (Go.Ix.frz M.get 5)).map (AV.clo xw)=_
  simp only[x1te,x1ty,q1,q2];rfl
 rw[f3,r2]
 simp only[k1,q3]
 rfl
def inB(b:Bd)(p:Pn):Bool:=x1bz b.cs p.at_
theorem l_insideB(d:Nat)(id:Id)(hid:id.2.2=0)(h:List AV->Mem->Option Mem)(hs:FHs)(u:Nat)(h1:Sl Bd.c ba bl)(h2:Sl Pn.c pa pl)(hl:pl.length<=1000){i:Nat}(hi:i<bl.length)(hz:x1a1 bl[i].cs=0)(hp:∀p∈pl,isPl p.at_=true)(Inv:Nat->Mem->Prop)(hInv:∀k m m',Inv k m->(∀j:Id,¬(j.1=u/\j.2.2=5)->m'.get j=m.get j)->m'.next=m.next->Inv k m')(hno:∀k (hk:k<pl.length) m,inB bl[i] pl[k]=false->Inv k m->Inv (k+1) m)(hyes:∀k (hk:k<pl.length) m,inB bl[i] pl[k]=true->Inv k m->∃m',h [I k] m=some m'/\Inv (k+1) m') :
 ∀(suf:List Pn) (k j:Nat) (m:Mem) (fc:Nat),pl.drop k=suf->suf.length<j->k<=pl.length->Inv k m ->
 ∃m',x45 (x180 (d+6)) ((id,h)::hs) u j (.yld id) (.plit [.plit [I wv,I mg,ba,pa,ea],nilS,nilS,nilS,nilS]) (.plit [I i]) pa (I pl.length) (I k) m fc=some (.tup [],m')/\Inv pl.length m':=by
 intro suf
 induction suf with
 |nil=>
  intro k j m fc hd hj hkp hI
  obtain⟨j,rfl⟩:∃i,j=i+1:=⟨j-1,by simp at hj;omega⟩
  have hk0:=x1t3.mp hd
  have hk:¬((k:Int)<(pl.length:Int)):=by omega
  simp only[x45]
  unfold xab
  simp only[x18k,hk,x1sm,x182,x18b]
  have hkl:k=pl.length:=by omega
  exact⟨m,rfl,hkl▸hI⟩
 |cons e r ih=>
  intro k j m fc hd hj hkp hI
  obtain⟨j,rfl⟩:∃i,j=i+1:=⟨j-1,by simp at hj;omega⟩
  obtain⟨hk,he,hd1⟩:=x19i hd
  have hk':(k:Int)<(pl.length:Int):=by omega
  have ix:=h2.ix Pn.len hk
  have ld:=λm=>x1a2 (m:=m) Pn.len (by omega) hk
  rw[he]at ld
  obtain⟨M,s1,g1,nn1,f1⟩:=x1ar (u:=u) (s:=fc+4) (t:=5) (m:=m) (z:=x13) (cs:=e.c) (n:=4) (by kernel_rfl) rfl rfl
  have hIM:Inv k M:=hInv k m M hI f1 nn1
  have g1':M.get (u,fc+4,5)=some (.row [T e.nm,I e.at_.x,I e.at_.y,I e.at_.z] 0 false):=g1
  have hw:w64 ((k:Int)+1)=((k+1:Nat):Int):=by rw[x18i (by omega) (by omega)];omega
  have q1:sFA 0 (.plit [.plit [I wv,I mg,ba,pa,ea],nilS,nilS,nilS,nilS])=some (.plit [.plit [I wv,I mg,ba,pa,ea],nilS,nilS,nilS,nilS]):=rfl
  have q2:∀m,sLd false 1 (.plit [.plit [I wv,I mg,ba,pa,ea],nilS,nilS,nilS,nilS]) m=some (.plit [I wv,I mg,ba,pa,ea]):=λ_=>rfl
  have q3:sNil (.plit [I wv,I mg,ba,pa,ea])=some (.plit [I wv,I mg,ba,pa,ea]):=rfl
  have q4:sFA 2 (.plit [I wv,I mg,ba,pa,ea])=some (.plit [ba,pa,ea]):=rfl
  have q5:∀m,sLd false 1 (.plit [ba,pa,ea]) m=some ba:=λ_=>rfl
  have q6:∀m,sLd false 1 (.plit [I i]) m=some (I i):=λ_=>rfl
  have ixb:=h1.ix Bd.len hi
  have x1:sFA 1 (.plit ((bl.drop i).flatMap Bd.c))=some (.plit (((bl.drop i).flatMap Bd.c).drop 1)):=rfl
  have x2:∀m,sLd false 1 (.plit (((bl.drop i).flatMap Bd.c).drop 1)) m=some bl[i].ca:=λm=>by rw[x19h hi,x1st];rfl
  have l3:∀{m:Mem},m.get (u,fc+4,5)=some (.row [T e.nm,I e.at_.x,I e.at_.y,I e.at_.z] 0 false)->sLd true 3 (.ptr (u,fc+4,5) 0 1) m=some (.agg e.at_.c):=λhg=>by rw[x183 hg];rfl
  have hin:=λm=>w_Inside d (bl[i].ok) hz (p:=e.at_) (hp e (he▸x1t0 hk)) m
  have y0:∀b:Bool,sExt (.tup [B b,I 0]) 0=some (B b):=λ_=>rfl
  have y1:∀b:Bool,sExt (.tup [B b,I 0]) 1=some (I 0):=λ_=>rfl
  simp only[x45]
  unfold xab
  simp only[x18k,hk',x1si,x18a,x182,ix,ld,x1al,s1,q1,q2,q3,q4,q5,q6,ixb,x1,x2,x18g,x1sg,l3 g1',hin,y0,y1]
  cases c:inB bl[i] e
  .have hI2:=hno k hk M (by rw[he];exact c) hIM
   obtain⟨m',r,hI3⟩:=ih (k+1) j M (fc+33) hd1 (by simp at hj;omega) hk hI2
   have c':x1bz bl[i].cs e.at_=false:=c
   simp only[c',x19z,x192,x19q,sW_t,x199,x182,x18z,x18b,x18y,hw,r]
   exact⟨m',rfl,hI3⟩
  .obtain⟨m2,e2,hI2⟩:=hyes k hk M (by rw[he];exact c) hIM
   obtain⟨m',r,hI3⟩:=ih (k+1) j m2 (fc+33) hd1 (by simp at hj;omega) hk hI2
   have c':x1bz bl[i].cs e.at_=true:=c
   simp only[c',x19z,x192,x19q,sW_t,x18m,x182,inv_yld hid,e2,Option.map_some,x19y,x1sr,x18z,x18b,x18y,hw,r]
   exact⟨m',rfl,hI3⟩
def namesP(b:Bd)(pl:List Pn):List ByteArray:=(pl.filter (inB b)).map Pn.nm
theorem x1mc{b:Bd}{k:Nat}(hk:k<pl.length)(h:inB b pl[k]=true):namesP b (pl.take (k+1))=namesP b (pl.take k)++[pl[k].nm]:=by
 unfold namesP
 rw[x1u9 hk,x1w8,x1uc]
 simp[h]
theorem namesP_no{b:Bd}{k:Nat}(hk:k<pl.length)(h:inB b pl[k]=false):namesP b (pl.take (k+1))=namesP b (pl.take k):=by
 unfold namesP
 rw[x1u9 hk,x1w8,x1uc]
 simp[h]
theorem x1km(b:Bd)(l:List Pn):(namesP b l).length<=l.length:=by
 unfold namesP
 rw[x1uf]
 exact List.length_filter_le _ _
def okN(id:Id):Prop:=id.2.2=37
structure PI (wv mg:Int) (ba pa ea:AV) (b:Bd) (pl:List Pn) (k:Nat) (m:Mem):Prop where
 s:∃f,m.get (0,0,2)=some (.row [I wv,I mg,ba,pa,ea] 0 f)
 o:∃v,m.get (0,20,9)=some (.row [v] 0 false)/\Gk 1 tE okN m v (namesP b (pl.take k))
theorem hyesP(call:x17y)(hs:FHs)(h2:Sl Pn.c pa pl)(hl:pl.length<=1000){b:Bd}(k:Nat)(hk:k<pl.length)(m:Mem)(hb:inB b pl[k]=true)(hI:PI wv mg ba pa ea b pl k m) :
 ∃m',x59 call hs m.next (.ptr (0,0,2) 0 0) (.ptr (0,20,9) 0 0) (I k) ⟨m.hp,m.next+1⟩ 0=some m'/\PI wv mg ba pa ea b pl (k+1) m':=by
 obtain⟨⟨f,g1⟩,v,g2,G⟩:=hI
 obtain⟨m1,hm1⟩:∃m1:Mem,m1=⟨m.hp,m.next+1⟩:=⟨_,rfl⟩
 have hmg:∀j,m1.get j=m.get j:=λj=>by rw[hm1];rfl
 have g1':=(hmg _).trans g1
 have g2':=(hmg _).trans g2
 have G':Gk 1 tE okN m1 v (namesP b (pl.take k)):=G.frame λj _=>hmg j
 have hlen:(namesP b (pl.take k)).length<=1000:=x1tn (x1km b _) (by simp;omega)
 obtain⟨v',m2,A,G2,c1,c2,n2,f2⟩:=G'.app (bytes:=16) (id0:=(m.next,0+1+8,37)) x1b8 (by omega) (show(37:Nat)=37 from rfl) (by unfold x18q;omega) pl[k].nm
 have g3:m2.get (0,20,9)=some (.row [v] 0 false):=by rw[f2 _ (by simp[okN])];exact g2'
 have g4:m2.get (0,0,2)=some (.row [I wv,I mg,ba,pa,ea] 0 f):=by rw[f2 _ (by simp[okN])];exact g1'
 have l1:sLd false 1 (.ptr (0,20,9) 0 0) m1=some v:=by rw[x183 g2'];rfl
 have q1:sFA 3 (.ptr (0,0,2) 0 0)=some (.ptr (0,0,2) 0 3):=rfl
 have l2:sLd false 1 (.ptr (0,0,2) 0 3) m1=some pa:=by rw[x183 g1'];rfl
 have ix:=h2.ix Pn.len hk
 have q2:sFA 0 (.plit ((pl.drop k).flatMap Pn.c))=some (.plit ((pl.drop k).flatMap Pn.c)):=rfl
 have l3:∀m,sLd false 1 (.plit ((pl.drop k).flatMap Pn.c)) m=some (T pl[k].nm):=λm=>by rw[x19h hk,x1st];rfl
 have S1:∀{R:Type} (K:Mem->Option R),sSt 1 (.ptr (0,20,9) 0 0) v' m2 K=K (m2.set (0,20,9) (.row [v'] 0 false)):=λK=>st_1 g3 ⟨c2,c1⟩ (by simp) K
 have hap:(x18c (tR (.ptr (0,20,9) 0 0)) (some [],some [(m.next,0+1+7,36)])&&true)=true:=by simp[x18c,tR,disj]
 have hp:(⟨m.hp,m.next+1⟩:Mem)=m1:=hm1.symm
 refine⟨m2.set (0,20,9) (.row [v'] 0 false),?_,⟨⟨f,by rw[Mem.get_set_ne (by simp)];exact g4⟩,v',by rw[Mem.get_set_same],?_⟩⟩
 .unfold x59 xd2
  rw[hp]
  simp only[l1,x182,q1,l2,ix,q2,l3,x1es,x1et,A,S1,hap,x18m]
 .rw[x1mc hk hb]
  exact G2.frame λj hj=>Mem.get_set_ne (by rintro rfl;simp[okN]at hj)
def ptsE(wv mg:Int)(bl:List Bd)(pl:List Pn)(el:List Pe)(x:ByteArray):Int:=
 if x1a3 wv mg bl pl el≠0 then x1a3 wv mg bl pl el else if idxB x 0 bl<0 then 6 else 0
def ptsN(wv mg:Int)(bl:List Bd)(pl:List Pn)(el:List Pe)(x:ByteArray):List ByteArray:=
 if ptsE wv mg bl pl el x≠0 then[]else match bl[(idxB x 0 bl).toNat]? with
  |some b=>namesP b pl
  |none=>[]
theorem x1dw{a b:Int}(h:orE a b=0):a=0/\b=0:=by
 unfold orE at h
 split at h<;>omega
theorem errL_0{α:Type}{f:List ByteArray->α->Int}{nm:α->ByteArray}:∀{l:List α} {ns:List ByteArray},errL f nm ns l=0->∀x∈l,∃ns,f ns x=0
 |[],_,_,x,hx=>by simp at hx
 |y::r,ns,h,x,hx=>by
  rw[errL]at h
  obtain⟨h1,h2⟩:=x1dw h
  rcases x1t6.mp hx with rfl|hx
  .exact⟨ns,h1⟩
  .exact errL_0 h2 x hx
theorem rgE_0{b:Bool}(h:rgE b=0):b=true:=by cases b<;>simp_all [rgE]
theorem x1kn(h:x1a3 wv mg bl pl el=0):(∀b∈bl,x1a1 b.cs=0)/\∀p∈pl,isPl p.at_=true:=by
 unfold x1a3 at h
 split at h
 .split at h
  .omega
  .obtain⟨h1,h2⟩:=x1dw h
   split at h2
   .omega
   .obtain⟨h3,h4⟩:=x1dw h2
    refine⟨λb hb=>?_,λp hp=>?_⟩
    .obtain⟨ns,e⟩:=errL_0 h1 b hb
     exact(x1dw (x1dw e).2).1
    .obtain⟨ns,e⟩:=errL_0 h3 p hp
     exact rgE_0 (x1dw e).2
 .omega
theorem hist_e(d:Nat)(hs:FHs)(id:Id)(m:Mem):x180 (d+1) hs x23 [.ptr id 0 0] m=some (.ptr (m.next,6,8) 0 0,(⟨m.hp,m.next+1⟩:Mem).new (m.next,6,8) (.row [.ptr id 0 0,nilS,.ptr id 0 0,nilS,nilS,nilS,nilS] 0 false)):=by
 rw[x105]
 unfold xbt x9l
 have e1:x18d x9m []=some (.agg [nilS,nilS,nilS,nilS]):=by rw[z_ost];rfl
 have e2:x18d xo [(0,1,.ptr id 0 0),(1,4,.agg [nilS,nilS,nilS,nilS])]=some (.agg [.ptr id 0 0,nilS,nilS,nilS,nilS]):=by rw[z_bk];rfl
 have e3:x18d xe3 [(0,1,.ptr id 0 0),(2,5,.agg [.ptr id 0 0,nilS,nilS,nilS,nilS])]=some (.agg [.ptr id 0 0,nilS,.ptr id 0 0,nilS,nilS,nilS,nilS]):=by rw[z_hist];rfl
 simp only[e1,e2,e3,x182,x19f]
 rfl
theorem x1md(d:Nat)(h1:Sl Bd.c ba bl)(h2:Sl Pn.c pa pl)(h3:Sl Pe.c ea el)(hb:bl.length<=1000)(hp:pl.length<=1000)(he:el.length<=1000)(hnb:∀x∈bl,x.nm.size<=1000/\x.cs.length<=1000)(hnp:∀x∈pl,x.nm.size<=1000)(hne:∀x∈el,x.nm.size<=1000)(x:ByteArray)(m:Mem) :
 ∃a,Sl tE a (ptsN wv mg bl pl el x)/\x17z (x180 (d+8)) x1v [.agg [I wv,I mg,ba,pa,ea],T x] m=some (.tup [a,I (ptsE wv mg bl pl el x)],m):=by
 have hst:[I wv,I mg,ba,pa,ea].all still1=true:=by simp[h1.still1,h2.still1,h3.still1]
 have key:RetF (λr=>∃a,Sl tE a (ptsN wv mg bl pl el x)/\r=.tup [a,I (ptsE wv mg bl pl el x)]) (x180 (d+8) [] x1v [.agg [I wv,I mg,ba,pa,ea],T x] mem0):=by
  rw[xzq]
  unfold xbf x8u
  have ho:(AV.agg [I wv,I mg,ba,pa,ea]).cells.all AV.one=true:=by rw[x19n];simp[h1.one,h2.one,h3.one]
  simp only[mem0,x19f,ho,x18m]
  generalize hm1:Mem.new _ _ _=m1
  have hg:m1.get (0,0,2)=some (.row [I wv,I mg,ba,pa,ea] 0 false):=by rw[<-hm1,Mem.get_new_same];rfl
  have hn1:m1.next=1:=by rw[<-hm1];rfl
  have l5:sLd true 5 (.ptr (0,0,2) 0 0) m1=some (.agg [I wv,I mg,ba,pa,ea]):=by rw[x183 hg];rfl
  have hcs:x17z (x180 (d+7)) x11 [.agg [I wv,I mg,ba,pa,ea]] m1=some (I (x1a3 wv mg bl pl el),m1):=x1ki (d+1) h1 h2 h3 hb hp he hnb hnp hne m1
  simp only[l5,x182,hcs,x1aa]
  by_cases c:x1a3 wv mg bl pl el=0
  rotate_left
  .simp only[c,x1sm,x1ss,x18a]
   have eE:ptsE wv mg bl pl el x=x1a3 wv mg bl pl el:=by unfold ptsE;rw[x1sc c]
   exact RetF.tup rfl ⟨nilS,by unfold ptsN;rw[eE,x1sc c];exact Or.inl ⟨rfl,rfl⟩,by rw[eE]⟩
  simp only[c,x1si,x1sr,x18b,hist_e,x182]
  rw[hn1]
  generalize hm2:Mem.new _ _ _=m2
  have g2:m2.get (0,0,2)=some (.row [I wv,I mg,ba,pa,ea] 0 false):=by rw[<-hm2,Mem.get_new_ne (by simp)];exact hg
  have g3:m2.get (1,6,8)=some (.row [.ptr (0,0,2) 0 0,nilS,.ptr (0,0,2) 0 0,nilS,nilS,nilS,nilS] 0 false):=by rw[<-hm2,Mem.get_new_same]
  have e1:sNil (.ptr (1,6,8) 0 0)=some (.ptr (1,6,8) 0 0):=rfl
  have e2:sFA 2 (.ptr (1,6,8) 0 0)=some (.ptr (1,6,8) 0 2):=rfl
  have e3:sLd true 5 (.ptr (1,6,8) 0 2) m2=some (.agg [.ptr (0,0,2) 0 0,nilS,nilS,nilS,nilS]):=by rw[x183 g3];rfl
  obtain⟨m3,s3,g4,n4,f4⟩:=x1ar (u:=0) (s:=12) (t:=7) (m:=m2) (z:=xo) (cs:=[.ptr (0,0,2) 0 0,nilS,nilS,nilS,nilS]) (n:=5) (by rw[z_bk];rfl) rfl rfl
  have g5:m3.get (0,0,2)=some (.row [I wv,I mg,ba,pa,ea] 0 false):=by rw[f4 _ (by simp)];exact g2
  have e4:sLd true 5 (.ptr (0,12,7) 0 0) m3=some (.agg [.ptr (0,0,2) 0 0,nilS,nilS,nilS,nilS]):=by rw[x183 g4];rfl
  have e5:=x1mb (d+4) (x:=x) h1 hb hst g5
  have e0:(0:Nat)+12=12:=rfl
  simp only[e1,e2,e3,x182,x1al,e0,s3,e4,e5,x18k]
  by_cases c2:idxB x 0 bl<0
  .have eE:ptsE wv mg bl pl el x=6:=by unfold ptsE;rw[x1sd (by simp[c]),x1sc c2]
   simp only[c2,x1si,x18a]
   exact RetF.tup rfl ⟨nilS,by unfold ptsN;rw[eE,x1sc (by decide)];exact Or.inl ⟨rfl,rfl⟩,by rw[eE]⟩
  have eE:ptsE wv mg bl pl el x=0:=by unfold ptsE;rw[x1sd (by simp[c]),x1sd c2]
  obtain⟨i,hi0,hi⟩:∃i:Nat,idxB x 0 bl=i/\i<bl.length:=by
   rcases idxB_s x bl 0 with h|⟨i,h,hi⟩
   .omega
   .exact⟨i,by omega,hi⟩
  have eN:ptsN wv mg bl pl el x=namesP bl[i] pl:=by
   unfold ptsN
   rw[eE,hi0,x1uy,x1t5 hi]
   rfl
  simp only[c2,x1sm,x18b]
  unfold xd4
  obtain⟨m4,hm4⟩:∃m4:Mem,m4=m3.new (0,20,9) (.row xd5 0 false):=⟨_,rfl⟩
  have k1:m4.get (0,0,2)=some (.row [I wv,I mg,ba,pa,ea] 0 false):=by rw[hm4,Mem.get_new_ne (by simp)];exact g5
  have k2:m4.get (0,12,7)=some (.row [.ptr (0,0,2) 0 0,nilS,nilS,nilS,nilS] 0 false):=by rw[hm4,Mem.get_new_ne (by simp)];exact g4
  have k3:m4.get (0,20,9)=some (.row [nilS] 0 false):=by rw[hm4,Mem.get_new_same,z_sls]
  have e6:sLd true 5 (.ptr (0,12,7) 0 0) m4=some (.agg [.ptr (0,0,2) 0 0,nilS,nilS,nilS,nilS]):=by rw[x183 k2];rfl
  have e7:=c_inside (d+6) (i:=i) hst k1
  have e8:(0:Nat)+20=20:=rfl
  simp only[e8,<-hm4,e6,x182,hi0,e7]
  unfold xd3
  simp only[sRng]
  obtain⟨m5,hm5⟩:∃m5:Mem,m5=⟨x1bg [(0,0,2)] m4.hp,m4.next⟩:=⟨_,rfl⟩
  have j1:m5.get (0,0,2)=some (.row [I wv,I mg,ba,pa,ea] 0 true):=by rw[hm5];exact shut1_at k1
  have j2:m5.get (0,20,9)=some (.row [nilS] 0 false):=by rw[hm5];exact(shut1_ne (by simp)).trans k3
  have n5:m5.next=2:=by rw[hm5,hm4];show m3.next=2;rw[n4,<-hm2];rfl
  rw[<-hm5]
  obtain⟨hE,hN⟩:=x1kn c
  have hI0:PI wv mg ba pa ea bl[i] pl 0 ⟨m5.hp,m5.next+1⟩:=⟨⟨true,j1⟩,nilS,j2,by rw[x1t2];exact Gk.nil⟩
  obtain⟨H,hH⟩:∃H:List AV->Mem->Option Mem,H=λargs m=>bif Nat.beq args.length 1&&true then x59 (x180 (d+7)) [] m.next (.ptr (0,0,2) 0 0) (.ptr (0,20,9) 0 0) (args.getD 0 U) ⟨m.hp,m.next+1⟩ 0 else none:=⟨_,rfl⟩
  have hstep:∀k (hk:k<pl.length) m,inB bl[i] pl[k]=true->PI wv mg ba pa ea bl[i] pl k m->∃m',H [I k] m=some m'/\PI wv mg ba pa ea bl[i] pl (k+1) m':=λk hk m hb hI=>by
   rw[hH]
   exact hyesP (x180 (d+7)) [] h2 hp k hk m hb hI
  obtain⟨m6,r6,I6⟩:=l_insideB (ea:=ea) (wv:=wv) (mg:=mg) d (0,0+21+3,0) rfl H [] m5.next h1 h2 hp hi (hE _ (x1t0 hi)) hN (PI wv mg ba pa ea bl[i] pl)
   (λk m m' hI hf hn=>⟨by obtain⟨f,g⟩:=hI.s;exact⟨f,by rw[hf _ (by simp)];exact g⟩,by obtain⟨v,g,G⟩:=hI.o;exact⟨v,by rw[hf _ (by simp)];exact g,G.frame λj hj=>hf j (by rintro⟨-,h5⟩;rw[show j.2.2=37 from hj]at h5;omega)⟩⟩)
   (λk hk m hb hI=>⟨hI.s,by obtain⟨v,g,G⟩:=hI.o;exact⟨v,g,by rw[namesP_no hk hb];exact G⟩⟩) hstep pl 0 NN ⟨m5.hp,m5.next+1⟩ 7 rfl (by rw[x197];omega) (x1ug _) hI0
  have hcall:x180 (d+7) [((0,0+21+3,0),H)] xw [.yld (0,0+21+3,0),.plit [.plit [I wv,I mg,ba,pa,ea],nilS,nilS,nilS,nilS],.plit [I i]] m5=some (.tup [],m6):=by
   rw[x10l]
   unfold xc8 xac
   have q1:sFA 0 (.plit [.plit [I wv,I mg,ba,pa,ea],nilS,nilS,nilS,nilS])=some (.plit [.plit [I wv,I mg,ba,pa,ea],nilS,nilS,nilS,nilS]):=rfl
   have q2:∀m,sLd false 1 (.plit [.plit [I wv,I mg,ba,pa,ea],nilS,nilS,nilS,nilS]) m=some (.plit [I wv,I mg,ba,pa,ea]):=λ_=>rfl
   have q3:sNil (.plit [I wv,I mg,ba,pa,ea])=some (.plit [I wv,I mg,ba,pa,ea]):=rfl
   have q4:sFA 3 (.plit [I wv,I mg,ba,pa,ea])=some (.plit [pa,ea]):=rfl
   have q5:∀m,sLd false 1 (.plit [pa,ea]) m=some pa:=λ_=>rfl
   simp only[q1,q2,q3,q4,q5,x182,h2.len x1as]
   exact r6
  rw[<-hH,hcall]
  obtain⟨v,gv,Gv⟩:=I6.o
  obtain⟨v',z1,z2⟩:=Gv.frz (k:=3) x1b8 x1hp
  rw[x1v5]at z1
  have lv:sLd false 1 (.ptr (0,20,9) 0 0) m6=some v:=by rw[x183 gv];rfl
  unfold xd1
  simp only[x182,lv]
  rw[eN,eE]
  exact RetF.mk (frz_tup2 z2 frz_I) ⟨v',z1,rfl⟩
 obtain⟨r,⟨a,ha,rfl⟩,hc⟩:=x1ds (by simp[h1.still1,h2.still1,h3.still1,still]) key m
 exact⟨a,ha,hc⟩
end Go.Ix
