import Derived.Test.YtaoalekmhjclnaaGreatDoorWg9
set_option linter.unusedSimpArgs false
set_option linter.unusedVariables false
namespace Go.Ix
open Go.Proofs
theorem x1iy{α:Type}{enc:α->List AV}{z bytes:Nat}(hz:∀x,(enc x).length=z){a:AV}{l:List α}(h:Sl enc a l)(hr:x180 l.length bytes)(id:Id)(m:Mem) :
 (l=[]/\∀{R:Type} (k:AV->Mem->Option R),sApp z bytes id (elems m.get z a) (.slit [] 0 true) m k=k (.slit [] 0 true) m) \/
 (l≠[]/\∀{R:Type} (k:AV->Mem->Option R),sApp z bytes id (elems m.get z a) (.slit [] 0 true) m k=k (.sref id 0 0 l.length z true) (m.new id (.row (l.flatMap enc) 0 false))):=by
 have he:=h.elems hz m.get
 by_cases hq:l.length=0
 .refine .inl ⟨x1rd.mp hq,λk=>?_⟩
  rw[he,x1ej hr,x1ro hq]
  rfl
 .refine .inr ⟨λe=>hq (by rw[e];rfl),λk=>?_⟩
  rw[he,x1ej hr,x1tj hq]
  rfl
theorem x1eo{α:Type}{enc:α->List AV}{z k:Nat}(hz:∀x,(enc x).length=z)(hs:∀x,(enc x).all still1=true){objs:Id->Option Ob}{id:Id}{l:List α}{x:Bool}(hg:objs id=some (.row (l.flatMap enc) 0 false)) :
 frz objs (k+2) (.sref id 0 0 l.length z x)=some (.slit (l.flatMap enc) l.length false):=by
 have hl:=x1a2 hz l
 have:=x1dj (objs:=objs) (id:=id) (cs:=l.flatMap enc) (ver:=0) (off:=0) (n:=l.length) (z:=z) (k:=k) (f:=false) (x:=x) hg (by omega) (by
  rw[x1qm,x1r6 (by omega)];exact x1ct hs l)
 rw[x1qm,x1r6 (by omega)]at this
 exact this
theorem x1ga{objs:Id->Option Ob}{a b a' b':AV}{x y:Int}{k:Nat}(ha:frz objs (k+1) a=some a')(hb:frz objs (k+1) b=some b'):frz objs (k+2) (.agg [a,b,I x,I y])=some (.agg [a',b',I x,I y]):=by
 show([a,b,I x,I y].mapM (frz objs (k+1))).map AV.agg=_
 have hi:∀z:Int,frz objs (k+1) (I z)=some (I z):=λ_=>rfl
 simp only[x1rt,x1sv,ha,hb,hi]
 rfl
theorem Ps.stillA(x:Ps):x.c.all still1=true:=rfl
theorem Lk.stillA(x:Lk):x.c.all still1=true:=rfl
theorem z_oplan:x8b=[nilS,nilS,I 0,I 0]:=by kernel_rfl
theorem x1kg(d:Nat){s p:AV}{gap sto:Int}{l:List Ps}{P:List Lk}(hs:Sl Ps.c s l)(hp:Sl Lk.c p P)(hl:l.length<=1000000)(hP:P.length<=1000000)(m:Mem) :
 ∃s' p',Sl Ps.c s' l/\Sl Lk.c p' P/\x17e (x17h (d+1)) xu [.agg [s,p,I gap,I sto]] m=some (.agg [s',p',I gap,I sto],m):=by
 have hr:x180 l.length 48:=by unfold x180;omega
 have hr2:x180 P.length 16:=by unfold x180;omega
 have key:RetF (λv=>∃s' p',v=.agg [s',p',I gap,I sto]/\Sl Ps.c s' l/\Sl Lk.c p' P) (x17h (d+1) [] xu [.agg [s,p,I gap,I sto]] mem0):=by
  rw[xzp]
  unfold xah x8a
  have a1:=λm=>x1iy Ps.len hs hr (0,5,6) m
  have a2:=λm=>x1iy Lk.len hp hr2 (0,9,10) m
  have hx:=hs.tX
  have hx2:=hp.tX
  simp[mem0,hs.one,hp.one,z_oplan]
  generalize hm1:Mem.new _ _ _=m1
  rcases a1 m1 with ⟨rfl,h1⟩|⟨h0,h1⟩
  .simp only[h1]
   simp[<-hm1]
   rcases a2 m1 with ⟨rfl,h2⟩|⟨h02,h2⟩<;>rw[<-hm1]at h2
   .simp[h2,x17p,x19u,sLdP,tR,tA,hx,hx2,x17s,disj,<-hm1]
    exact RetF.st rfl ⟨_,_,rfl,Sl.lit [] true,Sl.lit [] true⟩
   .simp[h2,x17p,x19u,sLdP,tR,tA,hx,hx2,x17s,disj,<-hm1]
    refine RetF.mk (x1ga rfl (x1eo (k:=3) Lk.len Lk.stillA (x:=true) (l:=P) ?_)) ⟨_,_,rfl,Sl.lit [] true,Sl.lit P false⟩
    simp
  .simp only[h1]
   simp[<-hm1]
   generalize hm2:Mem.new (Mem.new _ _ _) (0,5,6) _=m2
   rcases a2 m2 with ⟨rfl,h2⟩|⟨h02,h2⟩
   .simp only[h2]
    simp[x17p,x19u,sLdP,tR,tA,hx,hx2,x17s,disj,<-hm2]
    refine RetF.mk (x1ga (x1eo (k:=3) Ps.len Ps.stillA (x:=true) (l:=l) ?_) rfl) ⟨_,_,rfl,Sl.lit l false,Sl.lit [] true⟩
    simp
   .simp only[h2]
    simp[x17p,x19u,sLdP,tR,tA,hx,hx2,x17s,disj,<-hm2]
    refine RetF.mk (x1ga (x1eo (k:=3) Ps.len Ps.stillA (x:=true) (l:=l) ?_) (x1eo (k:=3) Lk.len Lk.stillA (x:=true) (l:=P) ?_)) ⟨_,_,rfl,Sl.lit l false,Sl.lit P false⟩<;>simp
 obtain⟨v,⟨s',p',rfl,h1,h2⟩,hc⟩:=callF (by simp[hs.still1,hp.still1]) key m
 exact⟨s',p',h1,h2,hc⟩
def tE(s:ByteArray):List AV:=[T s]
theorem tE_len(s:ByteArray):(tE s).length=1:=rfl
theorem tE_still(s:ByteArray):(tE s).all still1=true:=rfl
theorem u_strs:Tryz.prog.underlying x7=some (.slice x0):=by kernel_rfl
theorem z_str:xk=[T ⟨#[]⟩]:=by kernel_rfl
theorem l_HasText(d:Nat)(hs:FHs){a:AV}{l:List ByteArray}{x:ByteArray}(h:Sl tE a l)(hl:l.length<=1000000)(u:Nat):∀(suf:List ByteArray) (k j:Nat) (m:Mem) (fc:Nat),l.drop k=suf->suf.length<j ->
 x2u (x17h d) hs u j a (T x) (I k) m fc=some (B (suf.any λy=>teq y x),m):=by
 intro suf
 induction suf with
 |nil=>
  intro k j m fc hd hj
  obtain⟨j,rfl⟩:∃i,j=i+1:=⟨j-1,by simp at hj;omega⟩
  have hk:¬((k:Int)<(l.length:Int)):=by have:=x1qx.mp hd;omega
  simp only[x2u]
  unfold x99
  simp[h.len u_strs,hk,xcp]
 |cons y r ih=>
  intro k j m fc hd hj
  obtain⟨j,rfl⟩:∃i,j=i+1:=⟨j-1,by simp at hj;omega⟩
  obtain⟨hk,hke,hd⟩:=x18t hd
  have hk':(k:Int)<(l.length:Int):=by omega
  have ix:=h.ix tE_len hk
  have ld:∀m,sLd false 1 (.plit ((l.drop k).flatMap tE)) m=some (T y):=λm=>by
   rw[x18b hk,x1ql,hke];rfl
  have ih':=ih (k+1) j m (fc+13) hd (by simp at hj;omega)
  simp only[x2u,List.any_cons]
  unfold x99
  cases c:teq y x with
  |true=>simp(disch:=omega) [h.len u_strs,hk',ix,ld,t_eq,c]
  |false=>
   simp(disch:=omega) [h.len u_strs,hk',ix,ld,t_eq,c]
   simpa using ih'
theorem x1kh(d:Nat){a:AV}{l:List ByteArray}{x:ByteArray}{u t:Nat}{m:Mem}(h:Gr 1 tE u t m a l)(hl:l.length<=1000000) :
 x193 (x17h (d+1)) x1h [a,T x] m=some (B (l.any λy=>teq y x),m):=by
 obtain⟨a',ha,hf⟩:=h.frz tE_len tE_still
 have hc:x17h (d+1) [] x1h [a',T x] mem0=some (B (l.any λy=>teq y x),⟨[],1⟩):=by
  rw[x107]
  exact l_HasText d [] ha hl 0 l 0 NN ⟨[],1⟩ 2 rfl (by rw[x18k];omega)
 refine x1is ?_ hc rfl
 have f6:Go.Ix.frz m.get deep (T x)=some (T x):=x1au _ 4 rfl
 simp only[x1rt,x1sv,hf,f6];rfl
theorem l_rpplan(d u:Nat){pa li:AV}{gap sto:Int}{l:List Ps}(h:Sl Ps.c pa l)(hl:l.length<=40){res:Int×Int}(hB:∀m fc,m.get (u,0,1)=some (.row [pa,li,I gap,I sto] 0 false)->∃m',x8k (x17h (d+1)) [] u (.ptr (u,0,1) 0 0) m fc=some (.tup [I res.1,I res.2],m')) :
 ∀(suf:List Ps) (k j:Nat) (m:Mem) (fc:Nat) (na:AV),l.drop k=suf->suf.length<j->m.get (u,0,1)=some (.row [pa,li,I gap,I sto] 0 false)->Gr 1 tE u 82 m na ((l.take k).map Ps.nm) ->
 ∃m',x1u (x17h (d+1)) [] u j (.ptr (u,0,1) 0 0) na (I k) m fc=some (.tup [I (x19i res l k suf).1,I (x19i res l k suf).2],m'):=by
 intro suf
 induction suf with
 |nil=>
  intro k j m fc na hd hj hm hna
  obtain⟨j,rfl⟩:∃i,j=i+1:=⟨j-1,by simp at hj;omega⟩
  have hk:¬((k:Int)<(l.length:Int)):=by have:=x1qx.mp hd;omega
  obtain⟨m',h'⟩:=hB m (fc+5) hm
  refine⟨m',?_⟩
  simp only[x1u]
  unfold x8l
  simp[hm,h.len x198,hk,x1iq]
  exact h'
 |cons e r ih=>
  intro k j m fc na hd hj hm hna
  obtain⟨j,rfl⟩:∃i,j=i+1:=⟨j-1,by simp at hj;omega⟩
  obtain⟨hk,he,hd1⟩:=x18t hd
  have hk':(k:Int)<(l.length:Int):=by omega
  have ix:=h.ix Ps.len hk
  have ld:=λm=>x1ei (m:=m) Ps.len (by omega) hk
  simp only[he]at ld
  have next:∀m fc na,m.get (u,0,1)=some (.row [pa,li,I gap,I sto] 0 false)->Gr 1 tE u 82 m na ((l.take k).map Ps.nm++[e.nm])->∃m',x1u (x17h (d+1)) [] u j (.ptr (u,0,1) 0 0) na (I ((k:Int)+1)) m fc=some (.tup [I (x19i res l (k+1) r).1,I (x19i res l (k+1) r).2],m'):=λm fc na hm hg=>by
   refine ih (k+1) j m fc na hd1 (by simp at hj;omega) hm ?_
   rw[List.take_succ_eq_append_getElem hk,List.map_append,he]
   exact hg
  simp only[x1u]
  unfold x8l
  simp[hm,h.len x198,hk,ix,ld,z_pass,Ps.c]
  have hT1:(T e.nm).one=true:=rfl
  simp only[hT1,x18l,x17m]
  generalize hm1:Mem.set _ _ _=m1
  have hg:m1.get (u,fc+10,6)=some (.row e.c 0 false):=by rw[<-hm1,Mem.get_set_same];rfl
  have hg0:m1.get (u,0,1)=some (.row [pa,li,I gap,I sto] 0 false):=by
   rw[<-hm1,Mem.get_set_ne (by simp),Mem.get_new_ne (by simp)];exact hm
  have hna1:Gr 1 tE u 82 m1 na ((l.take k).map Ps.nm):=hna.frame λs=>by
   rw[<-hm1,Mem.get_set_ne (by simp),Mem.get_new_ne (by simp)]
  have hr0:x1bo false 1 0 0 (some (Ob.row [T e.nm,I e.fr,I e.to,I e.va,I e.da] 0 false))=some (T e.nm):=rfl
  have hht:=x1kh d (x:=e.nm) hna1 (by simp;omega)
  simp only[hr0,x17m,w_IsName]
  have hnm:x1b9 e.nm ((l.take k).map Ps.nm)=bif !nmOK e.nm then 4 else bif((l.take k).map Ps.nm).any (λy=>teq y e.nm)then 5 else 0:=rfl
  obtain⟨z2,hz2⟩:∃z2,((l.take k).map Ps.nm).any (λy=>teq y e.nm)=z2:=⟨_,rfl⟩
  rw[hz2]at hht hnm
  cases hn:nmOK e.nm with
  |false=>
   rw[hn]at hnm
   rw[x19j (z:=4) (by unfold pwErr;rw[hnm];rfl) (by decide)]
   simp
  |true=>
  rw[hn]at hnm
  simp[hg,Ps.c,hht]
  cases z2 with
  |true=>
   rw[x19j (z:=5) (by unfold pwErr;rw[hnm];rfl) (by decide)]
   simp
  |false=>
  have hp:pwErr (l.take k) e=pw2 (l.take k) e:=by unfold pwErr;rw[hnm];rfl
  simp[hg,Ps.c,x1ah]
  cases hw1:wi e.fr 0 1000000000 with
  |false=>
   rw[x19j (z:=2) (by rw[hp];simp[pw2,hw1]) (by decide)]
   simp
  |true=>
  simp[hg,Ps.c,x1ah]
  cases hw2:wi e.to 0 1000000000 with
  |false=>
   rw[x19j (z:=2) (by rw[hp];simp[pw2,hw2]) (by decide)]
   simp
  |true=>
  simp[hg,Ps.c,x1ah]
  cases hw3:wi e.va 0 1000000 with
  |false=>
   rw[x19j (z:=2) (by rw[hp];simp[pw2,hw3]) (by decide)]
   simp
  |true=>
  simp[hg,Ps.c,x1ah]
  cases hw4:wi e.da 0 1000000 with
  |false=>
   rw[x19j (z:=2) (by rw[hp];simp[pw2,hw4]) (by decide)]
   simp
  |true=>
  simp[hg,Ps.c,x1ah]
  by_cases hb:e.to<=e.fr
  .rw[x19j (z:=26) (by rw[hp];simp[pw2,hw1,hw2,hw3,hw4,hb]) (by decide)]
   simp[hb]
  .obtain⟨na',m2,happ,hg2,hnx,hoth⟩:=hna1.app (s0:=fc+65) (bytes:=16) tE_len (by omega) (by unfold x180;simp;omega) e.nm
   have hlit:∀{R:Type} (id:Id) (m:Mem) (q:AV->Mem->Option R),x17w [T ⟨#[]⟩] [(0,1,T e.nm)] 1 1 id m q=q (.slit [T e.nm] 1 true) m:=λid m q=>x1ek rfl rfl rfl
   have hel:elems m1.get 1 (.slit [T e.nm] 1 true)=some (tE e.nm,1):=rfl
   have hg02:m2.get (u,0,1)=some (.row [pa,li,I gap,I sto] 0 false):=by rw[hoth _ (by simp)];exact hg0
   rcases k with _|k
   .rw[x1dk (by rw[hp];simp[pw2,hw1,hw2,hw3,hw4,hb])]
    obtain⟨m',h'⟩:=next m2 (fc+70) na' hg02 hg2
    simp[hb,hg,Ps.c,z_str,hlit,hel,happ]
    exact⟨m',by simpa using h'⟩
   .have hk1:k<l.length:=by omega
    have ix1:=h.ix Ps.len hk1
    have fa1:sFA 2 (.plit ((l.drop k).flatMap Ps.c))=some (.plit (((l.drop k).flatMap Ps.c).drop 2)):=rfl
    have ld1:∀m,sLd false 1 (.plit (((l.drop k).flatMap Ps.c).drop 2)) m=some (I l[k].to):=λm=>by
     rw[x18b hk1,x1ql];rfl
    have hs1:w64 (k:Int)=k:=x17t (by omega) (by omega)
    have hs2:w64 ((k:Int)+1+1)=(k:Int)+1+1:=x17t (by omega) (by omega)
    have hlast:=x1aw hk1
    by_cases ho:e.to<l[k].to
    .rw[x19j (z:=9) (by rw[hp];simp[pw2,hw1,hw2,hw3,hw4,hb,hlast,ho]) (by decide)]
     simp[hb,hg0,hg,Ps.c,hs1,ix1,fa1,ld1,ho]
    .rw[x1dk (by rw[hp];simp[pw2,hw1,hw2,hw3,hw4,hb,hlast,ho])]
     obtain⟨m',h'⟩:=next m2 (fc+70) na' hg02 hg2
     simp[hb,hg0,hg,Ps.c,hs1,ix1,fa1,ld1,ho,z_str,hlit,hel,happ]
     exact⟨m',by rw[hs2];simpa using h'⟩
theorem l_rplinks(d u:Nat){pa li:AV}{gap sto:Int}{l:List Lk}(h:Sl Lk.c li l)(hl:l.length<=20) :
 ∀(suf:List Lk) (k j:Nat) (m:Mem) (fc:Nat),l.drop k=suf->suf.length<j->m.get (u,0,1)=some (.row [pa,li,I gap,I sto] 0 false) ->
 ∃m',x1t (x17h (d+1)) [] u j (.ptr (u,0,1) 0 0) (I k) m fc=some (.tup [I (x191 (0,bif wi gap 0 1000000&&wi sto 0 1000000 then 0 else 2) l k suf).1,I (x191 (0,bif wi gap 0 1000000&&wi sto 0 1000000 then 0 else 2) l k suf).2],m'):=by
 intro suf
 induction suf with
 |nil=>
  intro k j m fc hd hj hm
  obtain⟨j,rfl⟩:∃i,j=i+1:=⟨j-1,by simp at hj;omega⟩
  have hk:¬((k:Int)<(l.length:Int)):=by have:=x1qx.mp hd;omega
  simp only[x1t]
  unfold x8j
  simp[hm,h.len x190,hk,x1ir]
  unfold xbr
  simp[hm,x1ah]
  cases hw1:wi gap 0 1000000<;>cases hw2:wi sto 0 1000000<;>simp[x1ah,hm,hw1,hw2]
 |cons e r ih=>
  intro k j m fc hd hj hm
  obtain⟨j,rfl⟩:∃i,j=i+1:=⟨j-1,by simp at hj;omega⟩
  obtain⟨hk,he,hd1⟩:=x18t hd
  have hk':(k:Int)<(l.length:Int):=by omega
  have ix:=h.ix Lk.len hk
  have fa0:sFA 0 (.plit ((l.drop k).flatMap Lk.c))=some (.plit ((l.drop k).flatMap Lk.c)):=rfl
  have fa1:sFA 1 (.plit ((l.drop k).flatMap Lk.c))=some (.plit ((l.drop k).flatMap Lk.c).tail):=by rw[<-List.drop_one];rfl
  have ld0:∀m,sLd false 1 (.plit ((l.drop k).flatMap Lk.c)) m=some (I e.at_):=λm=>by
   rw[x18b hk,x1ql,he];rfl
  have ld1:∀m,sLd false 1 (.plit ((l.drop k).flatMap Lk.c).tail) m=some (I e.da):=λm=>by
   rw[x18b hk,x1ql,he];rfl
  have next:∀m fc,m.get (u,0,1)=some (.row [pa,li,I gap,I sto] 0 false)->∃m',x1t (x17h (d+1)) [] u j (.ptr (u,0,1) 0 0) (I ((k:Int)+1)) m fc=some (.tup [I (x191 (0,bif wi gap 0 1000000&&wi sto 0 1000000 then 0 else 2) l (k+1) r).1,I (x191 (0,bif wi gap 0 1000000&&wi sto 0 1000000 then 0 else 2) l (k+1) r).2],m'):=λm fc hm=>ih (k+1) j m fc hd1 (by simp at hj;omega) hm
  simp only[x1t]
  unfold x8j
  simp[hm,h.len x190,hk,ix,fa0,ld0,x1ah]
  cases hw1:wi e.at_ 0 1000000000 with
  |false=>
   rw[x1cd (z:=2) (by simp[lkBad,hw1]) (by decide)]
   simp
  |true=>
  simp[hm,ix,fa1,ld1,x1ah]
  cases hw2:wi e.da 0 1000000 with
  |false=>
   rw[x1cd (z:=2) (by simp[lkBad,hw2]) (by decide)]
   simp
  |true=>
  simp[hm,x1ah]
  rcases k with _|k
  .rw[x1dl (by simp[lkBad,hw1,hw2])]
   simp
   obtain⟨m',h'⟩:=next m (fc+44) hm
   exact⟨m',by simpa using h'⟩
  .have hk1:k<l.length:=by omega
   have ix1:=h.ix Lk.len hk1
   have fa2:sFA 0 (.plit ((l.drop k).flatMap Lk.c))=some (.plit ((l.drop k).flatMap Lk.c)):=rfl
   have ld2:∀m,sLd false 1 (.plit ((l.drop k).flatMap Lk.c)) m=some (I l[k].at_):=λm=>by
    rw[x18b hk1,x1ql];rfl
   have hs1:w64 (k:Int)=k:=x17t (by omega) (by omega)
   have hs2:w64 ((k:Int)+1+1)=(k:Int)+1+1:=x17t (by omega) (by omega)
   have hlast:=x1aw hk1
   have ix':sIx 2 li (I ((k:Int)+1))=some (.plit ((l.drop (k+1)).flatMap Lk.c)):=ix
   by_cases ho:e.at_<=l[k].at_
   .rw[x1cd (z:=9) (by simp[lkBad,hw1,hw2,hlast,ho]) (by decide)]
    simp[hm,hs1,ix1,ix',fa2,ld2,fa0,ld0,ho]
   .rw[x1dl (by simp[lkBad,hw1,hw2,hlast,ho])]
    obtain⟨m',h'⟩:=next m (fc+44) hm
    simp[hm,hs1,ix1,ix',fa2,ld2,fa0,ld0,ho]
    exact⟨m',by rw[hs2];simpa using h'⟩
theorem x1ki(d:Nat){pa li:AV}{gap sto:Int}{l:List Ps}{kl:List Lk}(h:Sl Ps.c pa l)(h2:Sl Lk.c li kl)(m:Mem) :
 x17e (x17h (d+2)) x1e [.agg [pa,li,I gap,I sto]] m=some (.tup [I (planM l kl gap sto).1,I (planM l kl gap sto).2],m):=by
 obtain⟨m',h'⟩:∃m',x17h (d+2) [] x1e [.agg [pa,li,I gap,I sto]] mem0=some (.tup [I (planM l kl gap sto).1,I (planM l kl gap sto).2],m'):=by
  rw[xzr]
  unfold xaj x8m planM
  simp only[mem0,x19p,x19v,x1r1,x1rk,h.one,h2.one,x19w,x1re,x1rf,x18l]
  generalize hm0:Mem.new _ _ _=m0
  have hg:m0.get (0,0,1)=some (.row [pa,li,I gap,I sto] 0 false):=by rw[<-hm0,Mem.get_new_same]
  by_cases hl:40<l.length
  .simp[hg,h.len x198,hl,show(40:Int)<l.length by omega]
  .obtain⟨m',h'⟩:=l_rpplan d 0 (li:=li) (sto:=sto) (gap:=gap) h (by omega) (res:=bif decide (20<kl.length)then(0,8)else x191 (0,bif wi gap 0 1000000&&wi sto 0 1000000 then 0 else 2) kl 0 kl) (λm fc hm=>by
    unfold x8k
    by_cases hk:20<kl.length
    .simp[hm,h2.len x190,hk,show(20:Int)<kl.length by omega]
    .obtain⟨m',h'⟩:=l_rplinks d 0 (pa:=pa) (gap:=gap) (sto:=sto) h2 (by omega) kl 0 NN m (fc+5) rfl (by rw[x18k];omega) hm
     refine⟨m',?_⟩
     simp[hm,h2.len x190,hk,show ¬((20:Int)<kl.length) by omega]
     unfold xbs
     exact h') l 0 NN m0 9 nilS rfl (by rw[x18k];omega) hg Gr.nil
   simp[hg,h.len x198,hl,show ¬((40:Int)<l.length) by omega]
   exact⟨m',h'⟩
 exact call0_tup (by simp[h.still1,h2.still1]) h' rfl
theorem ahM_gt{gap fr:Int}:∀{l:List Ps} {q:Nat} (hq:q<l.length),(∀(j:Nat) (h:j<=q),(l[j]'(by omega)).to+gap<=fr)->q<ahM gap fr l
 |x::r,0,_,h=>by
  have:=h 0 (x1qi _)
  unfold ahM
  rw[x1ro (by simpa using this)]
  simp
 |x::r,q+1,hq,h=>by
  have h0:=h 0 (by omega)
  unfold ahM
  rw[x1ro (by simpa using h0)]
  have:=ahM_gt (gap:=gap) (fr:=fr) (l:=r) (q:=q) (by simpa using hq) λj hj=>by
   have:=h (j+1) (by omega)
   simpa using this
  simp
  omega
theorem RPlan.mono{l:List Ps}{kl:List Lk}{gap sto:Int}(R:RPlan l kl gap sto){i:Nat}:∀{j:Nat} (hj:j<l.length) (hij:i<=j),(l[i]'(by omega)).to<=l[j].to
 |0,hj,hij=>by
  have:i=0:=by omega
  subst this
  exact x1sm _
 |j+1,hj,hij=>by
  rcases Nat.lt_or_eq_of_le hij with h|rfl
  .exact Int.le_trans (R.mono (j:=j) (by omega) (by omega)) (R.mono1 hj)
  .exact x1sm _
theorem RPlan.ahead{l:List Ps}{kl:List Lk}{gap sto:Int}(R:RPlan l kl gap sto){q:Nat}(hq:q<l.length)(fr:Int):(ahM gap fr l<=q)↔fr<l[q].to+gap:=by
 constructor
 .intro h
  by_cases hc:fr<l[q].to+gap
  .exact hc
  .exfalso
   have:=ahM_gt (gap:=gap) (fr:=fr) hq λj hj=>by
    have:=R.mono hq hj
    omega
   omega
 .exact ahM_lt hq
end Go.Ix
