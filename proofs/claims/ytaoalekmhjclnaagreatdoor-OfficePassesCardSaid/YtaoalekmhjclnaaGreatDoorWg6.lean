import Derived.Test.YtaoalekmhjclnaaGreatDoorWg2
import Derived.Test.YtaoalekmhjclnaaGreatDoorWg5
set_option linter.unusedSimpArgs false
namespace Go.Ix
open Go.Proofs
def RetF(T:AV->Prop)(r:O2):Prop:=∃a m' a',r=some (a,m')/\frz m'.get deep a=some a'/\T a'
theorem RetF.st{T:AV->Prop}{a:AV}{m:Mem}(h:still a=true)(ht:T a):RetF T (some (a,m)):=⟨a,m,a,rfl,x18p _ 4 h,ht⟩
theorem RetF.tup{T:AV->Prop}{l:List AV}{m:Mem}(h:l.all still=true)(ht:T (.tup l)):RetF T (some (.tup l,m)):=⟨_,m,_,rfl,frz_tup h,ht⟩
theorem RetF.mk{T:AV->Prop}{a a':AV}{m:Mem}(h:frz m.get deep a=some a')(ht:T a'):RetF T (some (a,m)):=⟨a,m,a',rfl,h,ht⟩
theorem callF{T:AV->Prop}{call:x15d}{f:FuncId}{l:List AV}(hl:l.all still=true)(h:RetF T (call [] f l mem0))(m:Mem):∃a,T a/\x15e call f l m=some (a,m):=by
 obtain⟨a,m',a',h1,h2,h3⟩:=h
 exact⟨a',h3,x1g9 hl h1 h2⟩
theorem Gr.frzk{α:Type}{z:Nat}{enc:α->List AV}{l:List α}{a:AV}(hz:∀x,(enc x).length=z)(hs:∀x,(enc x).all still1=true){u t k:Nat}{m:Mem}(h:Gr z enc u t m a l):∃a',Sl enc a' l/\Go.Ix.frz m.get (k+2) a=some a':=by
 rcases h with ⟨rfl,rfl⟩|⟨s,ver,rfl,hg⟩
 .exact⟨nilS,Or.inl ⟨rfl,rfl⟩,rfl⟩
 .have hl:=x18c hz l
  refine⟨.slit (l.flatMap enc) l.length false,Sl.lit l false,?_⟩
  have:=x1bf (objs:=m.get) (id:=(u,s,t)) (cs:=l.flatMap enc) (ver:=ver) (off:=0) (n:=l.length) (z:=z) (k:=k) (f:=false) (x:=true) hg (by omega) (by
   rw[x1oh,x1os (by omega)];exact x1ap hs l)
  rw[x1oh,x1os (by omega)]at this
  exact this
theorem Gr.len{α:Type}{z:Nat}{enc:α->List AV}{l:List α}{a:AV}{u t:Nat}{m:Mem}{y e:TypeId}(ht:Tryz.prog.underlying y=some (.slice e))(h:Gr z enc u t m a l):sLen Tryz.prog y a=some (I l.length):=by
 rcases h with ⟨rfl,rfl⟩|⟨s,ver,rfl,hg⟩
 .exact x1bd ht
 .rfl
end Go.Ix
set_option linter.unusedVariables false
namespace Go.Ix
open Go.Proofs
theorem x1gk{α:Type}{enc:α->List AV}{z bytes:Nat}(hz:∀x,(enc x).length=z){a:AV}{l:List α}(h:Sl enc a l)(hr:x15z l.length bytes)(id:Id)(m:Mem) :
 (l=[]/\∀{R:Type} (k:AV->Mem->Option R),sApp z bytes id (elems m.get z a) (.slit [] 0 true) m k=k (.slit [] 0 true) m) \/
 (l≠[]/\∀{R:Type} (k:AV->Mem->Option R),sApp z bytes id (elems m.get z a) (.slit [] 0 true) m k=k (.sref id 0 0 l.length z true) (m.new id (.row (l.flatMap enc) 0 false))):=by
 have he:=h.elems hz m.get
 by_cases hq:l.length=0
 .refine .inl ⟨List.length_eq_zero_iff.mp hq,λk=>?_⟩
  rw[he,x1cd hr,x1ow hq]
  rfl
 .refine .inr ⟨λe=>hq (by rw[e];rfl),λk=>?_⟩
  rw[he,x1cd hr,x1pt hq]
  rfl
theorem x1ch{α:Type}{enc:α->List AV}{z k:Nat}(hz:∀x,(enc x).length=z)(hs:∀x,(enc x).all still1=true){objs:Id->Option Ob}{id:Id}{l:List α}{x:Bool}(hg:objs id=some (.row (l.flatMap enc) 0 false)) :
 frz objs (k+2) (.sref id 0 0 l.length z x)=some (.slit (l.flatMap enc) l.length false):=by
 have hl:=x18c hz l
 have:=x1bf (objs:=objs) (id:=id) (cs:=l.flatMap enc) (ver:=0) (off:=0) (n:=l.length) (z:=z) (k:=k) (f:=false) (x:=x) hg (by omega) (by
  rw[x1oh,x1os (by omega)];exact x1ap hs l)
 rw[x1oh,x1os (by omega)]at this
 exact this
theorem x1e0{objs:Id->Option Ob}{a b a' b':AV}{x y:Int}{k:Nat}(ha:frz objs (k+1) a=some a')(hb:frz objs (k+1) b=some b'):frz objs (k+2) (.agg [a,b,I x,I y])=some (.agg [a',b',I x,I y]):=by
 show([a,b,I x,I y].mapM (frz objs (k+1))).map AV.agg=_
 have hi:∀z:Int,frz objs (k+1) (I z)=some (I z):=λ_=>rfl
 simp only[x1p8,x1q6,ha,hb,hi]
 rfl
theorem Ps.stillA(x:Ps):x.c.all still1=true:=rfl
theorem Lk.stillA(x:Lk):x.c.all still1=true:=rfl
theorem z_oplan:x7p=[nilS,nilS,I 0,I 0]:=by kernel_rfl
theorem x1i4(d:Nat){s p:AV}{gap sto:Int}{l:List Ps}{P:List Lk}(hs:Sl Ps.c s l)(hp:Sl Lk.c p P)(hl:l.length<=1000000)(hP:P.length<=1000000)(m:Mem) :
 ∃s' p',Sl Ps.c s' l/\Sl Lk.c p' P/\x15e (x15i (d+1)) xl [.agg [s,p,I gap,I sto]] m=some (.agg [s',p',I gap,I sto],m):=by
 have hr:x15z l.length 48:=by unfold x15z;omega
 have hr2:x15z P.length 16:=by unfold x15z;omega
 have key:RetF (λv=>∃s' p',v=.agg [s',p',I gap,I sto]/\Sl Ps.c s' l/\Sl Lk.c p' P) (x15i (d+1) [] xl [.agg [s,p,I gap,I sto]] mem0):=by
  rw[xxx]
  unfold x99 x7o
  have a1:=λm=>x1gk Ps.len hs hr (0,5,6) m
  have a2:=λm=>x1gk Lk.len hp hr2 (0,9,10) m
  have hx:=hs.tX
  have hx2:=hp.tX
  simp[mem0,hs.one,hp.one,z_oplan]
  generalize hm1:Mem.new _ _ _=m1
  rcases a1 m1 with ⟨rfl,h1⟩|⟨h0,h1⟩
  .simp only[h1]
   simp[<-hm1]
   rcases a2 m1 with ⟨rfl,h2⟩|⟨h02,h2⟩<;>rw[<-hm1]at h2
   .simp[h2,x15o,x182,sLdP,tR,tA,hx,hx2,x15r,disj,<-hm1]
    exact RetF.st rfl ⟨_,_,rfl,Sl.lit [] true,Sl.lit [] true⟩
   .simp[h2,x15o,x182,sLdP,tR,tA,hx,hx2,x15r,disj,<-hm1]
    refine RetF.mk (x1e0 rfl (x1ch (k:=3) Lk.len Lk.stillA (x:=true) (l:=P) ?_)) ⟨_,_,rfl,Sl.lit [] true,Sl.lit P false⟩
    simp
  .simp only[h1]
   simp[<-hm1]
   generalize hm2:Mem.new (Mem.new _ _ _) (0,5,6) _=m2
   rcases a2 m2 with ⟨rfl,h2⟩|⟨h02,h2⟩
   .simp only[h2]
    simp[x15o,x182,sLdP,tR,tA,hx,hx2,x15r,disj,<-hm2]
    refine RetF.mk (x1e0 (x1ch (k:=3) Ps.len Ps.stillA (x:=true) (l:=l) ?_) rfl) ⟨_,_,rfl,Sl.lit l false,Sl.lit [] true⟩
    simp
   .simp only[h2]
    simp[x15o,x182,sLdP,tR,tA,hx,hx2,x15r,disj,<-hm2]
    refine RetF.mk (x1e0 (x1ch (k:=3) Ps.len Ps.stillA (x:=true) (l:=l) ?_) (x1ch (k:=3) Lk.len Lk.stillA (x:=true) (l:=P) ?_)) ⟨_,_,rfl,Sl.lit l false,Sl.lit P false⟩<;>simp
 obtain⟨v,⟨s',p',rfl,h1,h2⟩,hc⟩:=callF (by simp[hs.still1,hp.still1]) key m
 exact⟨s',p',h1,h2,hc⟩
def tE(s:ByteArray):List AV:=[T s]
theorem tE_len(s:ByteArray):(tE s).length=1:=rfl
theorem tE_still(s:ByteArray):(tE s).all still1=true:=rfl
theorem u_strs:Tryz.prog.underlying x7=some (.slice x0):=by kernel_rfl
theorem z_str:xj=[T ⟨#[]⟩]:=by kernel_rfl
theorem l_HasText(d:Nat)(hs:FHs){a:AV}{l:List ByteArray}{x:ByteArray}(h:Sl tE a l)(hl:l.length<=1000000)(u:Nat):∀(suf:List ByteArray) (k j:Nat) (m:Mem) (fc:Nat),l.drop k=suf->suf.length<j ->
 x2m (x15i d) hs u j a (T x) (I k) m fc=some (B (suf.any λy=>teq y x),m):=by
 intro suf
 induction suf with
 |nil=>
  intro k j m fc hd hj
  obtain⟨j,rfl⟩:∃i,j=i+1:=⟨j-1,by simp at hj;omega⟩
  have hk:¬((k:Int)<(l.length:Int)):=by have:=x1oi.mp hd;omega
  simp only[x2m]
  unfold x8j
  simp[h.len u_strs,hk,xbc]
 |cons y r ih=>
  intro k j m fc hd hj
  obtain⟨j,rfl⟩:∃i,j=i+1:=⟨j-1,by simp at hj;omega⟩
  obtain⟨hk,hke,hd⟩:=x16s hd
  have hk':(k:Int)<(l.length:Int):=by omega
  have ix:=h.ix tE_len hk
  have ld:∀m,sLd false 1 (.plit ((l.drop k).flatMap tE)) m=some (T y):=λm=>by
   rw[x16e hk,x1o5,hke];rfl
  have ih':=ih (k+1) j m (fc+13) hd (by simp at hj;omega)
  simp only[x2m,List.any_cons]
  unfold x8j
  cases c:teq y x with
  |true=>simp(disch:=omega) [h.len u_strs,hk',ix,ld,t_eq,c]
  |false=>
   simp(disch:=omega) [h.len u_strs,hk',ix,ld,t_eq,c]
   simpa using ih'
theorem x1i5(d:Nat){a:AV}{l:List ByteArray}{x:ByteArray}{u t:Nat}{m:Mem}(h:Gr 1 tE u t m a l)(hl:l.length<=1000000) :
 x176 (x15i (d+1)) x1f [a,T x] m=some (B (l.any λy=>teq y x),m):=by
 obtain⟨a',ha,hf⟩:=h.frz tE_len tE_still
 have hc:x15i (d+1) [] x1f [a',T x] mem0=some (B (l.any λy=>teq y x),⟨[],1⟩):=by
  rw[xye]
  exact l_HasText d [] ha hl 0 l 0 NN ⟨[],1⟩ 2 rfl (by rw[x16v];omega)
 refine x1gg ?_ hc rfl
 have f6:Go.Ix.frz m.get deep (T x)=some (T x):=x18p _ 4 rfl
 simp only[x1p8,x1q6,hf,f6];rfl
theorem l_rpplan(d u:Nat){pa li:AV}{gap sto:Int}{l:List Ps}(h:Sl Ps.c pa l)(hl:l.length<=40){res:Int×Int}(hB:∀m fc,m.get (u,0,1)=some (.row [pa,li,I gap,I sto] 0 false)->∃m',x7s (x15i (d+1)) [] u (.ptr (u,0,1) 0 0) m fc=some (.tup [I res.1,I res.2],m')) :
 ∀(suf:List Ps) (k j:Nat) (m:Mem) (fc:Nat) (na:AV),l.drop k=suf->suf.length<j->m.get (u,0,1)=some (.row [pa,li,I gap,I sto] 0 false)->Gr 1 tE u 82 m na ((l.take k).map Ps.nm) ->
 ∃m',x1q (x15i (d+1)) [] u j (.ptr (u,0,1) 0 0) na (I k) m fc=some (.tup [I (x17g res l k suf).1,I (x17g res l k suf).2],m'):=by
 intro suf
 induction suf with
 |nil=>
  intro k j m fc na hd hj hm hna
  obtain⟨j,rfl⟩:∃i,j=i+1:=⟨j-1,by simp at hj;omega⟩
  have hk:¬((k:Int)<(l.length:Int)):=by have:=x1oi.mp hd;omega
  obtain⟨m',h'⟩:=hB m (fc+5) hm
  refine⟨m',?_⟩
  simp only[x1q]
  unfold x7t
  simp[hm,h.len x16n,hk,x1ge]
  exact h'
 |cons e r ih=>
  intro k j m fc na hd hj hm hna
  obtain⟨j,rfl⟩:∃i,j=i+1:=⟨j-1,by simp at hj;omega⟩
  obtain⟨hk,he,hd1⟩:=x16s hd
  have hk':(k:Int)<(l.length:Int):=by omega
  have ix:=h.ix Ps.len hk
  have ld:=λm=>x1cc (m:=m) Ps.len (by omega) hk
  simp only[he]at ld
  have next:∀m fc na,m.get (u,0,1)=some (.row [pa,li,I gap,I sto] 0 false)->Gr 1 tE u 82 m na ((l.take k).map Ps.nm++[e.nm])->∃m',x1q (x15i (d+1)) [] u j (.ptr (u,0,1) 0 0) na (I ((k:Int)+1)) m fc=some (.tup [I (x17g res l (k+1) r).1,I (x17g res l (k+1) r).2],m'):=λm fc na hm hg=>by
   refine ih (k+1) j m fc na hd1 (by simp at hj;omega) hm ?_
   rw[List.take_succ_eq_append_getElem hk,List.map_append,he]
   exact hg
  simp only[x1q]
  unfold x7t
  simp[hm,h.len x16n,hk,ix,ld,z_pass,Ps.c]
  have hT1:(T e.nm).one=true:=rfl
  simp only[hT1,x16o,x162]
  generalize hm1:Mem.set _ _ _=m1
  have hg:m1.get (u,fc+10,6)=some (.row e.c 0 false):=by rw[<-hm1,Mem.get_set_same];rfl
  have hg0:m1.get (u,0,1)=some (.row [pa,li,I gap,I sto] 0 false):=by
   rw[<-hm1,Mem.get_set_ne (by simp),Mem.get_new_ne (by simp)];exact hm
  have hna1:Gr 1 tE u 82 m1 na ((l.take k).map Ps.nm):=hna.frame λs=>by
   rw[<-hm1,Mem.get_set_ne (by simp),Mem.get_new_ne (by simp)]
  have hr0:x18q false 1 0 0 (some (Ob.row [T e.nm,I e.fr,I e.to,I e.va,I e.da] 0 false))=some (T e.nm):=rfl
  have hht:=x1i5 d (x:=e.nm) hna1 (by simp;omega)
  simp only[hr0,x162,w_IsName]
  have hnm:x193 e.nm ((l.take k).map Ps.nm)=bif !nmOK e.nm then 4 else bif((l.take k).map Ps.nm).any (λy=>teq y e.nm)then 5 else 0:=rfl
  obtain⟨z2,hz2⟩:∃z2,((l.take k).map Ps.nm).any (λy=>teq y e.nm)=z2:=⟨_,rfl⟩
  rw[hz2]at hht hnm
  cases hn:nmOK e.nm with
  |false=>
   rw[hn]at hnm
   rw[x17h (z:=4) (by unfold pwErr;rw[hnm];rfl) (by decide)]
   simp
  |true=>
  rw[hn]at hnm
  simp[hg,Ps.c,hht]
  cases z2 with
  |true=>
   rw[x17h (z:=5) (by unfold pwErr;rw[hnm];rfl) (by decide)]
   simp
  |false=>
  have hp:pwErr (l.take k) e=pw2 (l.take k) e:=by unfold pwErr;rw[hnm];rfl
  simp[hg,Ps.c,x185]
  cases hw1:wi e.fr 0 1000000000 with
  |false=>
   rw[x17h (z:=2) (by rw[hp];simp[pw2,hw1]) (by decide)]
   simp
  |true=>
  simp[hg,Ps.c,x185]
  cases hw2:wi e.to 0 1000000000 with
  |false=>
   rw[x17h (z:=2) (by rw[hp];simp[pw2,hw2]) (by decide)]
   simp
  |true=>
  simp[hg,Ps.c,x185]
  cases hw3:wi e.va 0 1000000 with
  |false=>
   rw[x17h (z:=2) (by rw[hp];simp[pw2,hw3]) (by decide)]
   simp
  |true=>
  simp[hg,Ps.c,x185]
  cases hw4:wi e.da 0 1000000 with
  |false=>
   rw[x17h (z:=2) (by rw[hp];simp[pw2,hw4]) (by decide)]
   simp
  |true=>
  simp[hg,Ps.c,x185]
  by_cases hb:e.to<=e.fr
  .rw[x17h (z:=26) (by rw[hp];simp[pw2,hw1,hw2,hw3,hw4,hb]) (by decide)]
   simp[hb]
  .obtain⟨na',m2,happ,hg2,hnx,hoth⟩:=hna1.app (s0:=fc+65) (bytes:=16) tE_len (by omega) (by unfold x15z;simp;omega) e.nm
   have hlit:∀{R:Type} (id:Id) (m:Mem) (q:AV->Mem->Option R),x15v [T ⟨#[]⟩] [(0,1,T e.nm)] 1 1 id m q=q (.slit [T e.nm] 1 true) m:=λid m q=>x1a7 rfl rfl rfl
   have hel:elems m1.get 1 (.slit [T e.nm] 1 true)=some (tE e.nm,1):=rfl
   have hg02:m2.get (u,0,1)=some (.row [pa,li,I gap,I sto] 0 false):=by rw[hoth _ (by simp)];exact hg0
   rcases k with _|k
   .rw[x1bg (by rw[hp];simp[pw2,hw1,hw2,hw3,hw4,hb])]
    obtain⟨m',h'⟩:=next m2 (fc+70) na' hg02 hg2
    simp[hb,hg,Ps.c,z_str,hlit,hel,happ]
    exact⟨m',by simpa using h'⟩
   .have hk1:k<l.length:=by omega
    have ix1:=h.ix Ps.len hk1
    have fa1:sFA 2 (.plit ((l.drop k).flatMap Ps.c))=some (.plit (((l.drop k).flatMap Ps.c).drop 2)):=rfl
    have ld1:∀m,sLd false 1 (.plit (((l.drop k).flatMap Ps.c).drop 2)) m=some (I l[k].to):=λm=>by
     rw[x16e hk1,x1o5];rfl
    have hs1:w64 (k:Int)=k:=x15x (by omega) (by omega)
    have hs2:w64 ((k:Int)+1+1)=(k:Int)+1+1:=x15x (by omega) (by omega)
    have hlast:=x195 hk1
    by_cases ho:e.to<l[k].to
    .rw[x17h (z:=9) (by rw[hp];simp[pw2,hw1,hw2,hw3,hw4,hb,hlast,ho]) (by decide)]
     simp[hb,hg0,hg,Ps.c,hs1,ix1,fa1,ld1,ho]
    .rw[x1bg (by rw[hp];simp[pw2,hw1,hw2,hw3,hw4,hb,hlast,ho])]
     obtain⟨m',h'⟩:=next m2 (fc+70) na' hg02 hg2
     simp[hb,hg0,hg,Ps.c,hs1,ix1,fa1,ld1,ho,z_str,hlit,hel,happ]
     exact⟨m',by rw[hs2];simpa using h'⟩
end Go.Ix
