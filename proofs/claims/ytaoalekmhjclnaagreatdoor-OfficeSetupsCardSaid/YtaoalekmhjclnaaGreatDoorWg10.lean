import Derived.Test.YtaoalekmhjclnaaGreatDoorWg9
import Derived.Test.YtaoalekmhjclnaaGreatDoorWg5
import Derived.Test.YtaoalekmhjclnaaGreatDoorWg3
import Derived.Test.YtaoalekmhjclnaaGreatDoorWg8
set_option linter.unusedSimpArgs false
set_option linter.unusedVariables false
namespace Go.Ix
open Go.Proofs
theorem x1fz{α:Type}{enc:α->List AV}{z bytes:Nat}(hz:∀x,(enc x).length=z){a:AV}{l:List α}(h:Sl enc a l)(hr:x18q l.length bytes)(id:Id)(m:Mem) :
 (l=[]/\∀{R:Type} (k:AV->Mem->Option R),sApp z bytes id (elems m.get z a) (.slit [] 0 true) m k=k (.slit [] 0 true) m) \/
 (l≠[]/\∀{R:Type} (k:AV->Mem->Option R),sApp z bytes id (elems m.get z a) (.slit [] 0 true) m k=k (.sref id 0 0 l.length z true) (m.new id (.row (l.flatMap enc) 0 false))):=by
 have he:=h.elems hz m.get
 by_cases hq:l.length=0
 .refine .inl ⟨List.length_eq_zero_iff.mp hq,λk=>?_⟩
  rw[he,x1k1 hr,x1tg hq]
  rfl
 .refine .inr ⟨λe=>hq (by rw[e];rfl),λk=>?_⟩
  rw[he,x1k1 hr,x1up hq]
  rfl
theorem x1ho{α:Type}{enc:α->List AV}{z k:Nat}(hz:∀x,(enc x).length=z)(hs:∀x,(enc x).all still1=true){objs:Id->Option Ob}{id:Id}{l:List α}{x:Bool}(hg:objs id=some (.row (l.flatMap enc) 0 false)) :
 frz objs (k+2) (.sref id 0 0 l.length z x)=some (.slit (l.flatMap enc) l.length false):=by
 have hl:=x1aq hz l
 have:=x1fm (objs:=objs) (id:=id) (cs:=l.flatMap enc) (ver:=0) (off:=0) (n:=l.length) (z:=z) (k:=k) (f:=false) (x:=x) hg (by omega) (by
  rw[x1sf,x1tk (by omega)];exact x1el hs l)
 rw[x1sf,x1tk (by omega)]at this
 exact this
def tE(s:ByteArray):List AV:=[T s]
theorem x1b8(s:ByteArray):(tE s).length=1:=rfl
theorem x1hp(s:ByteArray):(tE s).all still1=true:=rfl
theorem x1ci:Tryz.prog.underlying xc=some (.slice x5):=by kernel_rfl
theorem z_str:xh=[T ⟨#[]⟩]:=by kernel_rfl
theorem l_HasText(d:Nat)(hs:FHs){a:AV}{l:List ByteArray}{x:ByteArray}(h:Sl tE a l)(hl:l.length<=1000000)(u:Nat):∀(suf:List ByteArray) (k j:Nat) (m:Mem) (fc:Nat),l.drop k=suf->suf.length<j ->
 x42 (x180 d) hs u j a (T x) (I k) m fc=some (B (suf.any λy=>teq y x),m):=by
 intro suf
 induction suf with
 |nil=>
  intro k j m fc hd hj
  obtain⟨j,rfl⟩:∃i,j=i+1:=⟨j-1,by simp at hj;omega⟩
  have hk:¬((k:Int)<(l.length:Int)):=by have:=x1t3.mp hd;omega
  simp only[x42]
  unfold x9z
  simp[h.len x1ci,hk,xel]
 |cons y r ih=>
  intro k j m fc hd hj
  obtain⟨j,rfl⟩:∃i,j=i+1:=⟨j-1,by simp at hj;omega⟩
  obtain⟨hk,hke,hd⟩:=x19i hd
  have hk':(k:Int)<(l.length:Int):=by omega
  have ix:=h.ix x1b8 hk
  have ld:∀m,sLd false 1 (.plit ((l.drop k).flatMap tE)) m=some (T y):=λm=>by
   rw[x19h hk,x1st,hke];rfl
  have ih':=ih (k+1) j m (fc+13) hd (by simp at hj;omega)
  simp only[x42,x1va]
  unfold x9z
  cases c:teq y x with
  |true=>simp(disch:=omega) [h.len x1ci,hk',ix,ld,t_eq,c]
  |false=>
   simp(disch:=omega) [h.len x1ci,hk',ix,ld,t_eq,c]
   simpa using ih'
theorem x1hq(d:Nat){a:AV}{l:List ByteArray}{x:ByteArray}{u t:Nat}{m:Mem}(h:Gr 1 tE u t m a l)(hl:l.length<=1000000) :
 x19p (x180 (d+1)) x19 [a,T x] m=some (B (l.any λy=>teq y x),m):=by
 obtain⟨a',ha,hf⟩:=h.frz x1b8 x1hp
 have hc:x180 (d+1) [] x19 [a',T x] mem0=some (B (l.any λy=>teq y x),⟨[],1⟩):=by
  rw[x10d]
  exact l_HasText d [] ha hl 0 l 0 NN ⟨[],1⟩ 2 rfl (by rw[x197];omega)
 refine x1fp ?_ hc rfl
 have f6:Go.Ix.frz m.get deep (T x)=some (T x):=x1ce _ 4 rfl
 simp only[x1te,x1ty,hf,f6];rfl
end Go.Ix
set_option maxRecDepth 10000
namespace Go.Ix
open Go.Proofs
structure Bd where
 nm:ByteArray
 ca:AV
 cs:List Pl
 th:Int
 ok:Sl Pl.c ca cs
def Bd.c(b:Bd):List AV:=[T b.nm,b.ca,I b.th]
theorem Bd.len(b:Bd):b.c.length=3:=rfl
theorem Bd.still(b:Bd):b.c.all still1=true:=by simp[Bd.c,b.ok.still1]
theorem Bd.one(b:Bd):b.c.all AV.one=true:=by simp[Bd.c,b.ok.one];rfl
structure Pn where
 nm:ByteArray
 at_:Pl
def Pn.c(b:Pn):List AV:=[T b.nm,I b.at_.x,I b.at_.y,I b.at_.z]
theorem Pn.len(b:Pn):b.c.length=4:=rfl
theorem Pn.still(b:Pn):b.c.all still1=true:=rfl
structure Pe where
 nm:ByteArray
 role:Int
def Pe.c(b:Pe):List AV:=[T b.nm,I b.role]
theorem Pe.len(b:Pe):b.c.length=2:=rfl
theorem Pe.still(b:Pe):b.c.all still1=true:=rfl
theorem x1b9:Tryz.prog.underlying xj=some (.slice x2u):=by kernel_rfl
theorem x1as:Tryz.prog.underlying xu=some (.slice x2v):=by kernel_rfl
theorem x1ba:Tryz.prog.underlying xt=some (.slice x2w):=by kernel_rfl
def orE(a b:Int):Int:=if a=0 then b else a
def errL{α:Type}(f:List ByteArray->α->Int)(nm:α->ByteArray):List ByteArray->List α->Int
 |_,[]=>0
 |ns,x::r=>orE (f ns x) (errL f nm (ns++[nm x]) r)
def rgE(b:Bool):Int:=bif b then 0 else 2
def bdE(ns:List ByteArray)(b:Bd):Int:=orE (x19o b.nm ns) (orE (x1a1 b.cs) (rgE (wi b.th 0 1000000)))
def pnE(ns:List ByteArray)(b:Pn):Int:=orE (x19o b.nm ns) (rgE (isPl b.at_))
def peE(ns:List ByteArray)(b:Pe):Int:=orE (x19o b.nm ns) (rgE (wi b.role 1 3))
def x1a3(wv mg:Int)(bl:List Bd)(pl:List Pn)(el:List Pe):Int:=
 if(wi wv 1 10000&&wi mg 0 2048)=true then
  if 6<bl.length then 8 else orE (errL bdE Bd.nm [] bl)
   (if 8<pl.length then 8 else orE (errL pnE Pn.nm [] pl)
    (if el.length=0 then 10 else if 10<el.length then 8 else errL peE Pe.nm [] el))
 else 2
theorem x1hr(d:Nat){f:FuncId}{cs:List AV}(hcs:cs.all still1=true){ns:List ByteArray}(hn:ns.length<=1000){x:ByteArray}(hx:x.size<=1000){k:Nat}(hk:k<=ns.length){m:Mem}{id:Id}(hp:m.get id=some (.row cs 0 false))(hinv:∀(i:Nat) (hi:i<ns.length) (m:Mem),∃m',x19e (x180 (d+2)) [] 2 (.clo f [.plit cs]) [I i] m=some (T ns[i],m')):x19p (x180 (d+3)) xv [T x,.clo f [.ptr id 0 0],I k] m=some (I (x19o x (ns.take k)),m):=by
 have hkl:(ns.take k).length=k:=by simp;omega
 obtain⟨m',h'⟩:=a_named (d+1) (s:=x) (fv:=.clo f [.plit cs]) (l:=ns.take k) hx (by omega) λi hi m=>by
  have hi':i<ns.length:=by omega
  obtain⟨m',e⟩:=hinv i hi' m
  refine⟨m',?_⟩
  have e2:(ns.take k)[i]=ns[i]:=by simp
  rw[e2]
  exact e
 rw[hkl]at h'
 have h3:x180 (d+3) [] xv [T x,.clo f [.plit cs],I k] mem0=some (I (x19o x (ns.take k)),m'):=h'
 clear h'
 refine x1fp ?_ h3 rfl
 have f3:cs.mapM (Go.Ix.frz m.get 4)=some cs:=x1cd λa ha=>x1dm m.get 3 (x1sq.mp hcs a ha)
 have f4:Go.Ix.frz m.get 5 (.ptr id 0 0)=some (.plit cs):=x1en hp f3
 have f5:Go.Ix.frz m.get deep (.clo f [.ptr id 0 0])=some (.clo f [.plit cs]):=by
  show([AV.ptr id 0 0].mapM (Go.Ix.frz m.get 5)).map (AV.clo f)=_
  simp only[x1te,x1ty,f4];rfl
 have f6:Go.Ix.frz m.get deep (T x)=some (T x):=x1ce _ 4 rfl
 have f7:Go.Ix.frz m.get deep (I k)=some (I k):=x1ce _ 4 rfl
 simp only[x1te,x1ty,f5,f6,f7];rfl
variable{ba pa ea:AV}{bl:List Bd}{pl:List Pn}{el:List Pe}{wv mg:Int}
theorem inv_b(d:Nat)(h:Sl Bd.c ba bl)(i:Nat)(hi:i<(bl.map Bd.nm).length)(m:Mem):∃m',x19e (x180 (d+1)) [] 2 (.clo x20 [.plit [I wv,I mg,ba,pa,ea]]) [I i] m=some (T (bl.map Bd.nm)[i],m'):=by
 have hi':i<bl.length:=by simpa using hi
 have ix:=h.ix Bd.len hi'
 show ∃m',x180 (d+1) [] x20 ([I i]++[.plit [I wv,I mg,ba,pa,ea]]) m=_
 rw[x1u5,x1u8,xzz]
 unfold xbo x9c
 refine⟨⟨m.hp,m.next+1⟩,?_⟩
 have h0:sFA 2 (.plit [I wv,I mg,ba,pa,ea])=some (.plit [ba,pa,ea]):=rfl
 have h1:∀m,sLd false 1 (.plit [ba,pa,ea]) m=some ba:=λ_=>rfl
 have h2:sFA 0 (.plit ((bl.drop i).flatMap Bd.c))=some (.plit ((bl.drop i).flatMap Bd.c)):=rfl
 have h3:∀m,sLd false 1 (.plit ((bl.drop i).flatMap Bd.c)) m=some (T bl[i].nm):=λm=>by
  rw[x19h hi',x1st];rfl
 simp only[h0,h1,ix,h2,h3,x182,x1wc]
theorem inv_p(d:Nat)(h:Sl Pn.c pa pl)(i:Nat)(hi:i<(pl.map Pn.nm).length)(m:Mem):∃m',x19e (x180 (d+1)) [] 2 (.clo x1j [.plit [I wv,I mg,ba,pa,ea]]) [I i] m=some (T (pl.map Pn.nm)[i],m'):=by
 have hi':i<pl.length:=by simpa using hi
 have ix:=h.ix Pn.len hi'
 show ∃m',x180 (d+1) [] x1j ([I i]++[.plit [I wv,I mg,ba,pa,ea]]) m=_
 rw[x1u5,x1u8,x103]
 unfold xbr x9j
 refine⟨⟨m.hp,m.next+1⟩,?_⟩
 have h0:sFA 3 (.plit [I wv,I mg,ba,pa,ea])=some (.plit [pa,ea]):=rfl
 have h1:∀m,sLd false 1 (.plit [pa,ea]) m=some pa:=λ_=>rfl
 have h2:sFA 0 (.plit ((pl.drop i).flatMap Pn.c))=some (.plit ((pl.drop i).flatMap Pn.c)):=rfl
 have h3:∀m,sLd false 1 (.plit ((pl.drop i).flatMap Pn.c)) m=some (T pl[i].nm):=λm=>by
  rw[x19h hi',x1st];rfl
 simp only[h0,h1,ix,h2,h3,x182,x1wc]
theorem inv_e(d:Nat)(h:Sl Pe.c ea el)(i:Nat)(hi:i<(el.map Pe.nm).length)(m:Mem):∃m',x19e (x180 (d+1)) [] 2 (.clo x22 [.plit [I wv,I mg,ba,pa,ea]]) [I i] m=some (T (el.map Pe.nm)[i],m'):=by
 have hi':i<el.length:=by simpa using hi
 have ix:=h.ix Pe.len hi'
 show ∃m',x180 (d+1) [] x22 ([I i]++[.plit [I wv,I mg,ba,pa,ea]]) m=_
 rw[x1u5,x1u8,x104]
 unfold xbs x9k
 refine⟨⟨m.hp,m.next+1⟩,?_⟩
 have h0:sFA 4 (.plit [I wv,I mg,ba,pa,ea])=some (.plit [ea]):=rfl
 have h1:∀m,sLd false 1 (.plit [ea]) m=some ea:=λ_=>rfl
 have h2:sFA 0 (.plit ((el.drop i).flatMap Pe.c))=some (.plit ((el.drop i).flatMap Pe.c)):=rfl
 have h3:∀m,sLd false 1 (.plit ((el.drop i).flatMap Pe.c)) m=some (T el[i].nm):=λm=>by
  rw[x19h hi',x1st];rfl
 simp only[h0,h1,ix,h2,h3,x182,x1wc]
def fstE:List Int->Int
 |[]=>0
 |x::r=>orE x (fstE r)
theorem l_ofirst(call:x17y)(hs:FHs)(u:Nat){a:AV}{l:List Int}(h:Sl intE a l)(hl:l.length<=1000):∀(suf:List Int) (k j:Nat) (m:Mem) (fc:Nat),l.drop k=suf->suf.length<j ->
 x3v call hs u j a (I l.length) (I k) m fc=some (I (fstE suf),m):=by
 intro suf
 induction suf with
 |nil=>
  intro k j m fc hd hj
  obtain⟨j,rfl⟩:∃i,j=i+1:=⟨j-1,by simp at hj;omega⟩
  have hk:¬((k:Int)<(l.length:Int)):=by have:=x1t3.mp hd;omega
  simp only[x3v]
  unfold x98 xdq
  simp only[x18k,hk,x1sm,x182,x18b,fstE]
 |cons e r ih=>
  intro k j m fc hd hj
  obtain⟨j,rfl⟩:∃i,j=i+1:=⟨j-1,by simp at hj;omega⟩
  obtain⟨hk,he,hd1⟩:=x19i hd
  have hk':(k:Int)<(l.length:Int):=by omega
  have ix:=h.ix x1ek hk
  have ld:∀m,sLd false 1 (.plit ((l.drop k).flatMap intE)) m=some (I e):=λm=>by
   rw[x19h hk,x1st,he];rfl
  have hw:w64 ((k:Int)+1)=((k+1:Nat):Int):=by rw[x18i (by omega) (by omega)];omega
  simp only[x3v]
  unfold x98 fstE orE
  simp only[x18k,hk',x1si,x182,x18a,ix,ld,x1aa]
  by_cases c:e=0
  .simp only[c,x1si,x1sr,x18b,x18y,hw,x182,x1so]
   exact ih (k+1) j m _ hd1 (by simp at hj;omega)
  .simp only[c,x1sm,x1ss,x18a,x1sp]
theorem x1hs(d:Nat){a:AV}{l:List Int}(h:Sl intE a l)(hl:l.length<=1000)(m:Mem):x17z (x180 (d+1)) x18 [a] m=some (I (fstE l),m):=by
 refine x195 (by simp[h.still]) ?_ m
 rw[xzx]
 unfold xbm x99 xdr
 have r:=l_ofirst (x180 d) [] 0 h hl l 0 NN ⟨[],1⟩ (0+1+3) rfl (by rw[x197];omega)
 have e:sLen Tryz.prog x5b a=some (I l.length):=h.len u_errs
 rw[show I ((0:Nat):Int)=I 0 from rfl]at r
 simp only[mem0,e,x182]
 exact r▸RetF.st rfl rfl
theorem mkLit_er3{R:Type}{x y z:Int}{id:Id}{m:Mem}{k:AV->Mem->Option R}:x18l x1d [(0,1,I x),(1,1,I y),(2,1,I z)] 3 1 id m k=k (.slit [I x,I y,I z] 3 true) m:=by
 rw[show x1d=[I 0] by kernel_rfl]
 simp[x18l,x1ao,x19d,x1ux,x18v]
theorem w_small10(d:Nat)(n:Int)(m:Mem):x17z (x180 (d+2)) x1i [I n,I 100000000] m=some (B (decide (-100000000<=n)&&decide (n<=100000000)),m):=by
 refine x195 rfl ?_ m
 rw[x102]
 unfold xbq x9i
 have e:w64 (0-100000000)=-100000000:=rfl
 simp[mem0,e,x1do,wi]
 exact RetF.st rfl rfl
theorem l_cse(d:Nat)(h:Sl Pe.c ea el)(hst:[I wv,I mg,ba,pa,ea].all still1=true)(hl:el.length<=1000)(hn:∀x∈el,x.nm.size<=1000):∀(suf:List Pe) (k j:Nat) (m:Mem) (fc:Nat),el.drop k=suf->suf.length<j->m.get (0,0,1)=some (.row [I wv,I mg,ba,pa,ea] 0 false) ->
 ∃m',x3o (x180 (d+3)) [] 0 j (.ptr (0,0,1) 0 0) ea (I el.length) (I k) m fc=some (I (errL peE Pe.nm ((el.take k).map Pe.nm) suf),m'):=by
 intro suf
 induction suf with
 |nil=>
  intro k j m fc hd hj hm
  obtain⟨j,rfl⟩:∃i,j=i+1:=⟨j-1,by simp at hj;omega⟩
  have hk:¬((k:Int)<(el.length:Int)):=by have:=x1t3.mp hd;omega
  simp only[x3o]
  unfold x8l xcw
  simp only[x18k,hk,x1sm,x182,x18b,errL]
  exact⟨m,rfl⟩
 |cons e r ih=>
  intro k j m fc hd hj hm
  obtain⟨j,rfl⟩:∃i,j=i+1:=⟨j-1,by simp at hj;omega⟩
  obtain⟨hk,he,hd1⟩:=x19i hd
  have hk':(k:Int)<(el.length:Int):=by omega
  have ix:=h.ix Pe.len hk
  have ld:=λm=>x1a2 (m:=m) Pe.len (by omega) hk
  rw[he]at ld
  obtain⟨M,s1,g1,n1,f1⟩:=x1ar (u:=0) (s:=fc+4) (t:=11) (m:=m) (z:=x2e) (cs:=e.c) (n:=2) (by kernel_rfl) rfl rfl
  have hM:M.get (0,0,1)=some (.row [I wv,I mg,ba,pa,ea] 0 false):=by rw[f1 _ (by simp)];exact hm
  have g1':M.get (0,fc+4,11)=some (.row [T e.nm,I e.role] 0 false):=g1
  have hw:w64 ((k:Int)+1)=((k+1:Nat):Int):=by rw[x18i (by omega) (by omega)];omega
  have hnm:=x1hr d hst (ns:=el.map Pe.nm) (by simpa using hl) (x:=e.nm) (hn e (he▸x1t0 hk)) (k:=k) (by simp;omega) hM (inv_e (d+1) h)
  have hfs:=x1hs (d+2) (a:=.slit [I (x19o e.nm ((el.map Pe.nm).take k)),I (rgE (wi e.role 1 3))] 2 true) (l:=[x19o e.nm ((el.map Pe.nm).take k),rgE (wi e.role 1 3)]) (Or.inr ⟨true,rfl⟩) (by simp)
  have htk:(el.map Pe.nm).take k=(el.take k).map Pe.nm:=by rw[List.map_take]
  have htk1:(el.take (k+1)).map Pe.nm=(el.take k).map Pe.nm++[e.nm]:=by rw[x1u9 hk,he,x1uc];rfl
  have hrg:∀b m,x17z (x180 (d+3)) xp [B b] m=some (I (rgE b),m):=λb m=>x1he (d+2) b m
  rw[htk]at hnm hfs
  have hfe:fstE [x19o e.nm ((el.take k).map Pe.nm),rgE (wi e.role 1 3)]=peE ((el.take k).map Pe.nm) e:=by
   unfold peE fstE fstE fstE orE
   repeat' split
   all_goals first|rfl|omega
  rw[hfe]at hfs
  simp only[x3o]
  unfold x8l
  simp only[x18k,hk',x1si,x182,x18a,ix,ld,x1al,s1,x18g,x183 g1',x1sg,x1sf,x1sj,rd_f,List.head?_cons,hnm,x1do (d+2),hrg,x1hm,hfs,x1aa,errL]
  by_cases c:peE ((el.take k).map Pe.nm) e=0
  .simp only[c,x1si,x1sr,x18b,x18y,hw,x182,orE,x1so]
   rw[<-htk1]
   exact ih (k+1) j M _ hd1 (by simp at hj;omega) hM
  .simp only[c,x1sm,x1ss,x18a,orE,x1sp]
   exact⟨M,rfl⟩
theorem l_csp(d:Nat)(h:Sl Pn.c pa pl)(hst:[I wv,I mg,ba,pa,ea].all still1=true)(hl:pl.length<=1000)(hn:∀x∈pl,x.nm.size<=1000){res:Int}(hB:∀m fc,m.get (0,0,1)=some (.row [I wv,I mg,ba,pa,ea] 0 false)->∃m',x8m (x180 (d+3)) [] 0 (.ptr (0,0,1) 0 0) m fc=some (I res,m')):∀(suf:List Pn) (k j:Nat) (m:Mem) (fc:Nat),pl.drop k=suf->suf.length<j->m.get (0,0,1)=some (.row [I wv,I mg,ba,pa,ea] 0 false) ->
 ∃m',x2f (x180 (d+3)) [] 0 j (.ptr (0,0,1) 0 0) pa (I pl.length) (I k) m fc=some (I (orE (errL pnE Pn.nm ((pl.take k).map Pn.nm) suf) res),m'):=by
 intro suf
 induction suf with
 |nil=>
  intro k j m fc hd hj hm
  obtain⟨j,rfl⟩:∃i,j=i+1:=⟨j-1,by simp at hj;omega⟩
  have hk:¬((k:Int)<(pl.length:Int)):=by have:=x1t3.mp hd;omega
  simp only[x2f]
  unfold x8n
  simp only[x18k,hk,x1sm,x182,x18b,errL,orE,x1so]
  exact hB m _ hm
 |cons e r ih=>
  intro k j m fc hd hj hm
  obtain⟨j,rfl⟩:∃i,j=i+1:=⟨j-1,by simp at hj;omega⟩
  obtain⟨hk,he,hd1⟩:=x19i hd
  have hk':(k:Int)<(pl.length:Int):=by omega
  have ix:=h.ix Pn.len hk
  have ld:=λm=>x1a2 (m:=m) Pn.len (by omega) hk
  rw[he]at ld
  obtain⟨M,s1,g1,n1,f1⟩:=x1ar (u:=0) (s:=fc+4) (t:=7) (m:=m) (z:=x13) (cs:=e.c) (n:=4) (by kernel_rfl) rfl rfl
  have hM:M.get (0,0,1)=some (.row [I wv,I mg,ba,pa,ea] 0 false):=by rw[f1 _ (by simp)];exact hm
  have g1':M.get (0,fc+4,7)=some (.row [T e.nm,I e.at_.x,I e.at_.y,I e.at_.z] 0 false):=g1
  have hw:w64 ((k:Int)+1)=((k+1:Nat):Int):=by rw[x18i (by omega) (by omega)];omega
  have hnm:=x1hr d hst (ns:=pl.map Pn.nm) (by simpa using hl) (x:=e.nm) (hn e (he▸x1t0 hk)) (k:=k) (by simp;omega) hM (inv_p (d+1) h)
  have hfs:=x1hs (d+2) (a:=.slit [I (x19o e.nm ((pl.map Pn.nm).take k)),I (rgE (isPl e.at_))] 2 true) (l:=[x19o e.nm ((pl.map Pn.nm).take k),rgE (isPl e.at_)]) (Or.inr ⟨true,rfl⟩) (by simp)
  have htk:(pl.map Pn.nm).take k=(pl.take k).map Pn.nm:=by rw[List.map_take]
  have htk1:(pl.take (k+1)).map Pn.nm=(pl.take k).map Pn.nm++[e.nm]:=by rw[x1u9 hk,he,x1uc];rfl
  have hrg:∀b m,x17z (x180 (d+3)) xp [B b] m=some (I (rgE b),m):=λb m=>x1he (d+2) b m
  have hsm:=λn m=>w_small10 (d+1) n m
  rw[htk]at hnm hfs
  have hfe:fstE [x19o e.nm ((pl.take k).map Pn.nm),rgE (isPl e.at_)]=pnE ((pl.take k).map Pn.nm) e:=by
   unfold pnE fstE fstE fstE orE
   repeat' split
   all_goals first|rfl|omega
  rw[hfe]at hfs
  have tail:∀fc,(∃m',(x19p (x180 (d+3)) xv [T e.nm,.clo x1j [.ptr (0,0,1) 0 0],I k] M).bind (λp87=>
   (x17z (x180 (d+3)) xp [B (isPl e.at_)] p87.2).bind λp89=>
   x18l x1d [(0,1,p87.1),(1,1,p89.1)] 2 1 (0,fc+31,90) p89.2 λt90 m_6=>
   (x17z (x180 (d+3)) x18 [t90] m_6).bind λp91=>
   (sNe p91.1 (I 0)).bind λt93=>
   x17x t93 (some (p91.1,p91.2)) ((sAdd (I k) (I 1)).bind λt95=>
    x2f (x180 (d+3)) [] 0 j (.ptr (0,0,1) 0 0) pa (I pl.length) t95 p91.2 (fc+38)))=some (I (orE (errL pnE Pn.nm ((pl.take k).map Pn.nm) (e::r)) res),m')):=λfc=>by
   simp only[hnm,x182,hrg,x1hm,hfs,x1aa,errL]
   by_cases c:pnE ((pl.take k).map Pn.nm) e=0
   .simp only[c,x1si,x1sr,x18b,x18y,hw,x182]
    rw[show orE 0 (errL pnE Pn.nm ((pl.take k).map Pn.nm++[e.nm]) r)=errL pnE Pn.nm ((pl.take k).map Pn.nm++[e.nm]) r from rfl,<-htk1]
    exact ih (k+1) j M _ hd1 (by simp at hj;omega) hM
   .simp only[c,x1sm,x1ss,x18a,orE,x1sp]
    exact⟨M,rfl⟩
  simp only[x2f]
  unfold x8n
  simp only[x18k,hk',x1si,x182,x18a,ix,ld,x1al,s1,x18g,x183 g1',x1sg,x1sf,x1sj,rd_f,List.head?_cons,hsm]
  unfold isPl at tail
  cases x1:(decide (-100000000<=e.at_.x)&&decide (e.at_.x<=100000000))
  .rw[x1]at tail
   simp only[x192,x19q,sW_t,x199,x182,x18z,x183 g1',x18g,x1sf,rd_f,List.head?_cons,x1sg]
   exact tail fc
  .cases x2:(decide (-100000000<=e.at_.y)&&decide (e.at_.y<=100000000))
   .rw[x1,x2]at tail
    simp only[x192,x19q,sW_t,x18m,x199,x182,x18z,x183 g1',x18g,x1sf,x1sj,rd_f,List.head?_cons,x1sg,hsm,x2]
    exact tail fc
   .rw[x1,x2]at tail
    simp only[x192,x19q,sW_t,x18m,x182,x18z,x183 g1',x18g,x1sf,x1sj,rd_f,List.head?_cons,x1sg,hsm,x2]
    exact tail fc
theorem l_csb(d:Nat)(h:Sl Bd.c ba bl)(hst:[I wv,I mg,ba,pa,ea].all still1=true)(hl:bl.length<=1000)(hn:∀x∈bl,x.nm.size<=1000/\x.cs.length<=1000){res:Int}(hB:∀m fc,m.get (0,0,1)=some (.row [I wv,I mg,ba,pa,ea] 0 false)->∃m',x8o (x180 (d+5)) [] 0 (.ptr (0,0,1) 0 0) m fc=some (I res,m')):∀(suf:List Bd) (k j:Nat) (m:Mem) (fc:Nat),bl.drop k=suf->suf.length<j->m.next=1->m.get (0,0,1)=some (.row [I wv,I mg,ba,pa,ea] 0 false) ->
 ∃m',x3p (x180 (d+5)) [] 0 j (.ptr (0,0,1) 0 0) ba (I bl.length) (I k) m fc=some (I (orE (errL bdE Bd.nm ((bl.take k).map Bd.nm) suf) res),m'):=by
 intro suf
 induction suf with
 |nil=>
  intro k j m fc hd hj hm1 hm
  obtain⟨j,rfl⟩:∃i,j=i+1:=⟨j-1,by simp at hj;omega⟩
  have hk:¬((k:Int)<(bl.length:Int)):=by have:=x1t3.mp hd;omega
  simp only[x3p]
  unfold x8p
  simp only[x18k,hk,x1sm,x182,x18b,errL,orE,x1so]
  exact hB m _ hm
 |cons e r ih=>
  intro k j m fc hd hj hm1 hm
  obtain⟨j,rfl⟩:∃i,j=i+1:=⟨j-1,by simp at hj;omega⟩
  obtain⟨hk,he,hd1⟩:=x19i hd
  have hk':(k:Int)<(bl.length:Int):=by omega
  have ix:=h.ix Bd.len hk
  have ld:=λm=>x1a2 (m:=m) Bd.len (by omega) hk
  rw[he]at ld
  have hne:=hn e (he▸x1t0 hk)
  obtain⟨M,s1,g1,n1,f1⟩:=x1ar (u:=0) (s:=fc+4) (t:=4) (m:=m) (z:=x2g) (cs:=e.c) (n:=3) (by kernel_rfl) rfl e.one
  have hM:M.get (0,0,1)=some (.row [I wv,I mg,ba,pa,ea] 0 false):=by rw[f1 _ (by simp)];exact hm
  have g1':M.get (0,fc+4,4)=some (.row [T e.nm,e.ca,I e.th] 0 false):=g1
  have hw:w64 ((k:Int)+1)=((k+1:Nat):Int):=by rw[x18i (by omega) (by omega)];omega
  have hnm:=x1hr (d+2) hst (ns:=bl.map Bd.nm) (by simpa using hl) (x:=e.nm) hne.1 (k:=k) (by simp;omega) hM (inv_b (d+3) h)
  have hpo:=x1kh d e.ok M (by omega)
  have hfs:=x1hs (d+4) (a:=.slit [I (x19o e.nm ((bl.map Bd.nm).take k)),I (x1a1 e.cs),I (rgE (wi e.th 0 1000000))] 3 true) (l:=[x19o e.nm ((bl.map Bd.nm).take k),x1a1 e.cs,rgE (wi e.th 0 1000000)]) (Or.inr ⟨true,rfl⟩) (by simp)
  have htk:(bl.map Bd.nm).take k=(bl.take k).map Bd.nm:=by rw[List.map_take]
  have htk1:(bl.take (k+1)).map Bd.nm=(bl.take k).map Bd.nm++[e.nm]:=by rw[x1u9 hk,he,x1uc];rfl
  have hrg:∀b m,x17z (x180 (d+5)) xp [B b] m=some (I (rgE b),m):=λb m=>x1he (d+4) b m
  rw[htk]at hnm hfs
  have hfe:fstE [x19o e.nm ((bl.take k).map Bd.nm),x1a1 e.cs,rgE (wi e.th 0 1000000)]=bdE ((bl.take k).map Bd.nm) e:=by
   unfold bdE fstE fstE fstE fstE orE
   repeat' split
   all_goals first|rfl|omega
  rw[hfe]at hfs
  have hcl:clean e.ca=true:=e.ok.clean
  have hap:((Nat.ble 1 (mkM 0 [e.ca])&&true)&&(cAp (some M.next) (tR (.ptr (0,fc+4,4) 0 (0+2))) (mkM 0 [e.ca])&&true))=true:=by
   have hn1:M.next=1:=by rw[n1,hm1]
   simp[mkM,cAp,tR,hcl,hn1]
  simp only[x3p]
  unfold x8p
  simp only[x1sg]at hap
  simp only[x18k,hk',x1si,x182,x18a,ix,ld,x1al,s1,x18g,x183 g1',x1sg,x1sf,x1sj,rd_f,List.head?_cons,hnm,hpo,x1do (d+4),hrg,mkLit_er3,hfs,hap,x18m,x1aa,errL]
  by_cases c:bdE ((bl.take k).map Bd.nm) e=0
  .simp only[c,x1si,x1sr,x18b,x18y,hw,x182]
   rw[show orE 0 (errL bdE Bd.nm ((bl.take k).map Bd.nm++[e.nm]) r)=errL bdE Bd.nm ((bl.take k).map Bd.nm++[e.nm]) r from rfl,<-htk1]
   exact ih (k+1) j M _ hd1 (by simp at hj;omega) (by rw[n1,hm1]) hM
  .simp only[c,x1sm,x1ss,x18a,orE,x1sp]
   exact⟨M,rfl⟩
theorem x1ki(d:Nat)(h1:Sl Bd.c ba bl)(h2:Sl Pn.c pa pl)(h3:Sl Pe.c ea el)(hb:bl.length<=1000)(hp:pl.length<=1000)(he:el.length<=1000)(hnb:∀x∈bl,x.nm.size<=1000/\x.cs.length<=1000)(hnp:∀x∈pl,x.nm.size<=1000)(hne:∀x∈el,x.nm.size<=1000)(m:Mem) :
 x17z (x180 (d+6)) x11 [.agg [I wv,I mg,ba,pa,ea]] m=some (I (x1a3 wv mg bl pl el),m):=by
 have hst:[I wv,I mg,ba,pa,ea].all still1=true:=by simp[h1.still1,h2.still1,h3.still1]
 refine x195 (by simp[h1.still1,h2.still1,h3.still1]) ?_ m
 rw[xzo]
 unfold xbd x8q
 have ho:[I wv,I mg,ba,pa,ea].all AV.one=true:=by simp[h1.one,h2.one,h3.one]
 simp only[mem0,x19f,x19n,ho,x18m]
 generalize hm1:Mem.new _ _ _=m1
 have hg:m1.get (0,0,1)=some (.row [I wv,I mg,ba,pa,ea] 0 false):=by rw[<-hm1,Mem.get_new_same]
 have hn1:m1.next=1:=by rw[<-hm1];rfl
 unfold x1a3
 simp only[x18g,x182,x183 hg,x1sg,x1sf,x1sj,rd_f,List.head?_cons,x1do (d+4),x19y]
 cases x1:wi wv 1 10000
 .simp only[x1ss,x192,x19q,sW_f,x1sr,x199,x182,x18z,x18m,x18a,x1tz,x1sw,x1sp]
  exact RetF.st rfl rfl
 cases x2:wi mg 0 2048
 .simp only[x1sr,x192,x19q,sW_f,x1ss,x18m,x182,x18g,x183 hg,x1sg,x1sf,x1sj,rd_f,List.head?_cons,x1do (d+4),x2,x19y,x18z,x199,x18a,Bool.and_false,x1sw,x1sp]
  exact RetF.st rfl rfl
 simp only[x1sr,x192,x19q,sW_f,x1ss,x18m,x182,x18g,x183 hg,x1sg,x1sf,x1sj,rd_f,List.head?_cons,x1do (d+4),x2,x19y,x18z,x199,x18b,x1tm,x1so,h1.len x1b9,x19t]
 by_cases c1:6<bl.length
 .simp only[show((6:Int)<(bl.length:Int)) by omega,x1si,x18a,c1,x1so]
  exact RetF.st rfl rfl
 simp only[show ¬((6:Int)<(bl.length:Int)) by omega,x1sm,x18b,c1,x1sp]
 unfold xcz
 simp only[x18g,x182,x183 hg,x1sg,x1sf,x1sj,rd_f,List.head?_cons,h1.len x1b9]
 have r:=l_csb d h1 hst hb hnb (res:=(if 8<pl.length then 8 else orE (errL pnE Pn.nm [] pl) (if el.length=0 then 10 else if 10<el.length then 8 else errL peE Pe.nm [] el))) (λm fc hg=>?_) bl 0 NN m1 (0+18+4) rfl (by rw[x197];omega) hn1 hg
 .obtain⟨m',r⟩:=r
  rw[show I ((0:Nat):Int)=I 0 from rfl]at r
  rw[r]
  exact RetF.st rfl rfl
 .unfold x8o
  simp only[x18g,x182,x183 hg,x1sg,x1sf,x1sj,rd_f,List.head?_cons,h2.len x1as,x19t]
  by_cases c2:8<pl.length
  .simp only[show((8:Int)<(pl.length:Int)) by omega,x1si,x18a,c2,x1so]
   exact⟨_,rfl⟩
  simp only[show ¬((8:Int)<(pl.length:Int)) by omega,x1sm,x18b,c2,x1sp]
  unfold xcy
  simp only[x18g,x182,x183 hg,x1sg,x1sf,x1sj,rd_f,List.head?_cons,h2.len x1as]
  refine l_csp (d+2) h2 hst hp hnp (λm fc hg=>?_) pl 0 NN m _ rfl (by rw[x197];omega) hg
  unfold x8m
  simp only[x18g,x182,x183 hg,x1sg,x1sf,x1sj,rd_f,List.head?_cons,h3.len x1ba,x1a9]
  by_cases c3:el.length=0
  .simp only[show((el.length:Int)=0) by omega,x1si,x18a,c3,x1so]
   exact⟨_,rfl⟩
  simp only[show ¬((el.length:Int)=0) by omega,x1sm,x18b,c3,x1sp,x18g,x182,x183 hg,x1sg,x1sf,x1sj,rd_f,List.head?_cons,h3.len x1ba,x19t]
  by_cases c4:10<el.length
  .simp only[show((10:Int)<(el.length:Int)) by omega,x1si,x18a,c4,x1so]
   exact⟨_,rfl⟩
  simp only[show ¬((10:Int)<(el.length:Int)) by omega,x1sm,x18b,c4,x1sp]
  unfold xcx
  simp only[x18g,x182,x183 hg,x1sg,x1sf,x1sj,rd_f,List.head?_cons,h3.len x1ba]
  exact l_cse (d+2) h3 hst he hne el 0 NN m _ rfl (by rw[x197];omega) hg
end Go.Ix
