import Derived.Test.YtjdlceelbnaneaaWg15
import Derived.Test.YtjdlceelbnaneaaWg7
set_option linter.unusedSimpArgs false
set_option linter.unusedVariables false
namespace Go.Ix
open Go.Proofs
attribute [local simp high] rd_5
variable{a:AV}{l:List Mp}
theorem x9t(kk:Nat)(h0:l≠[])(hin:x8u l):(-8<=medP kk l/\medP kk l<=8)/\l.length<=2*cntL (medP kk l) (l.map (byK kk))/\∀n,n<medP kk l->2*cntL n (l.map (byK kk))<l.length:=by
 obtain⟨h1,h2,h3⟩:=med_ok (l:=l.map (byK kk)) (by simpa using h0)
 simp only[xjk]at h2 h3
 refine⟨?_,h2,h3⟩
 obtain⟨x,hx,he⟩:=xiw.mp h1
 have hp:=hin x hx
 have:medP kk l=byK kk x:=he.symm
 rw[this]
 cases kk with
 |zero=>have:=hp.b0;unfold bd at this;exact this
 |succ k=>have:=hp.b1;unfold bd at this;exact this
theorem l_cnt(call:x6f)(hs:FHs)(u:Nat){t2 t3:AV}(rec0:AV->AV->AV->AV->Mem->Nat->O2)(rec1:AV->AV->AV->AV->AV->Mem->Nat->O2)(ha:Pts a l)(hl:l.length<=1000)(kk:Nat)(hk1:kk<=1)(n:Int):∀(suf:List Mp) (k j:Nat) (m:Mem) (fc:Nat),l.drop k=suf->suf.length<j ->
 ∃fc',x1a call hs u rec0 rec1 j a t2 t3 (I kk) (I n) (I (cntL n ((l.take k).map (byK kk)))) (I k) m fc=x1j call hs u rec0 rec1 a t2 t3 (I kk) (I n) (I (cntL n (l.map (byK kk)))) m fc':=by
 intro suf
 induction suf with
 |nil=>
  intro k j m fc hd hj
  obtain⟨j,rfl⟩:∃i,j=i+1:=⟨j-1,by simp at hj;omega⟩
  have hk0:=xjq.mp hd
  have hk:¬((k:Int)<(l.length:Int)):=by omega
  rw[xiu hk0]
  refine⟨fc+4,?_⟩
  simp only[x1a]
  unfold x21
  simp[ha.len x71,hk]
 |cons e r ih=>
  intro k j m fc hd hj
  obtain⟨j,rfl⟩:∃i,j=i+1:=⟨j-1,by simp at hj;omega⟩
  obtain⟨hk,he,hd⟩:=x9m hd
  have hk':(k:Int)<(l.length:Int):=by omega
  have ix:=ha.ix Mp.len hk
  rw[x8t hk,xjp,he]at ix
  have hlast:(l.take (k+1)).map (byK kk)=(l.take k).map (byK kk)++[byK kk e]:=by
   rw[xlo hk,xkc,he];rfl
  have hle:=xc0 n ((l.take k).map (byK kk))
  simp only[xjk,xlg]at hle
  have hle2:cntL n (List.take k (List.map (byK kk) l))<=1000:=by rw[<-List.map_take];omega
  have hcnt:=cntL_snoc n (byK kk e) ((l.take k).map (byK kk))
  rw[<-hlast]at hcnt
  have hb:∀P:Prop,[Decidable P]->(∀x:AV,x=I (byK kk e)->P)->P:=λP _ h=>h _ rfl
  simp only[x1a]
  unfold x21 x3s x20
  by_cases c:byK kk e<=n
  .rw[xi5 c]at hcnt
   obtain⟨fc',h'⟩:=ih (k+1) j m (fc+4+12+3) hd (by simp at hj;omega)
   refine⟨fc',?_⟩
   rw[<-h',hcnt]
   have hkc:kk=0\/kk=1:=by omega
   rcases hkc with rfl|rfl
   .simp only[byK]at c
    simp(disch:=omega) [ha.len x71,hk',ix,Mp.c,sIxA,asI,c,x6u]
   .simp only[byK]at c
    simp(disch:=omega) [ha.len x71,hk',ix,Mp.c,sIxA,asI,c,x6u]
  .rw[xi6 c]at hcnt
   obtain⟨fc',h'⟩:=ih (k+1) j m (fc+4+9+3) hd (by simp at hj;omega)
   refine⟨fc',?_⟩
   rw[<-h',hcnt]
   have hkc:kk=0\/kk=1:=by omega
   rcases hkc with rfl|rfl
   .simp only[byK]at c
    simp(disch:=omega) [ha.len x71,hk',ix,Mp.c,sIxA,asI,c,x6u]
   .simp only[byK]at c
    simp(disch:=omega) [ha.len x71,hk',ix,Mp.c,sIxA,asI,c,x6u]
theorem l_medR(d:Nat)(hs:FHs)(u:Nat){t2:AV}(rec0:AV->AV->AV->AV->Mem->Nat->O2)(ha:Pts a l)(h0:l≠[])(hin:x8u l)(hl:l.length<=1000)(kk:Nat)(hk1:kk<=1){p q:Int}{m:Mem}(hg:m.get (u,1,3)=some (.row [I p,I q] 0 false)):∀(g:Nat) (n:Int) (j:Nat) (fc:Nat),-8<=n->n+g=medP kk l->g<j ->
 ∃fc',xc (x6e d) hs u rec0 j a t2 (.ptr (u,1,3) 0 0) (I kk) (I n) m fc=rec0 a t2 (.ptr (u,1,3) 0 0) (I ((kk+1:Nat):Int)) (m.set (u,1,3) (.row (if kk=0 then[I (medP kk l),I q]else[I p,I (medP kk l)]) 0 false)) fc':=by
 obtain⟨⟨m1,m2⟩,m3,m4⟩:=x9t kk h0 hin
 intro g
 induction g with
 |zero=>
  intro n j fc h1 h2 hj
  obtain⟨j,rfl⟩:∃i,j=i+1:=⟨j-1,by omega⟩
  obtain rfl:n=medP kk l:=by omega
  have hn8:medP kk l<=8:=by omega
  obtain⟨fc',h'⟩:=l_cnt (x6e d) hs u (t2:=t2) (t3:=.ptr (u,1,3) 0 0) rec0 (xc (x6e d) hs u rec0 j) ha hl kk hk1 (medP kk l) l 0 NN m (fc+2+1+1) rfl (by rw[x7f];omega)
  have hc0:(cntL (medP kk l) ((l.take 0).map (byK kk)):Int)=0:=by simp[cntL]
  have hle:=xc0 (medP kk l) (l.map (byK kk))
  simp only[xjk]at hle
  have hge:(l.length:Int)<=2*(cntL (medP kk l) (l.map (byK kk)):Int):=by omega
  rw[hc0,show I ((0:Nat):Int)=I 0 from rfl]at h'
  refine⟨fc'+9+3,?_⟩
  simp only[xc]
  unfold x24 x23 x22
  simp only[sLe_I,hn8,xj1,x6z,x89,h']
  unfold x1j x1z
  have hkc:kk=0\/kk=1:=by omega
  rcases hkc with rfl|rfl
  .simp(disch:=omega) [ha.len x71,hge,sIxA,asI,hg,x6u]
  .simp(disch:=omega) [ha.len x71,hge,sIxA,asI,hg,x6u]
 |succ g ih=>
  intro n j fc h1 h2 hj
  obtain⟨j,rfl⟩:∃i,j=i+1:=⟨j-1,by omega⟩
  have hn8:n<=8:=by omega
  obtain⟨fc',h'⟩:=l_cnt (x6e d) hs u (t2:=t2) (t3:=.ptr (u,1,3) 0 0) rec0 (xc (x6e d) hs u rec0 j) ha hl kk hk1 n l 0 NN m (fc+2+1+1) rfl (by rw[x7f];omega)
  have hc0:(cntL n ((l.take 0).map (byK kk)):Int)=0:=by simp[cntL]
  have hle:=xc0 n (l.map (byK kk))
  simp only[xjk]at hle
  have hlt:=m4 n (by omega)
  have hge:¬(l.length:Int)<=2*(cntL n (l.map (byK kk)):Int):=by omega
  rw[hc0,show I ((0:Nat):Int)=I 0 from rfl]at h'
  obtain⟨fc2,h2'⟩:=ih (n+1) j (fc'+5+3) (by omega) (by omega) (by omega)
  refine⟨fc2,?_⟩
  rw[<-h2']
  simp only[xc]
  unfold x24 x23 x22
  simp only[sLe_I,hn8,xj1,x6z,x89,h']
  unfold x1j x3r
  simp(disch:=omega) [ha.len x71,hge,x6u]
theorem xg0(d:Nat)(ha:Pts a l)(h0:l≠[])(hin:x8u l)(hl:l.length<=1000)(m:Mem):x6h (x6e (d+1)) xj [a] m=some (.agg [I (medP 0 l),I (medP 1 l)],m):=by
 refine x78 (by simp[ha.still]) ?_ m
 rw[x4v]
 unfold x33 x26
 simp[mem0,xac]
 unfold x3u
 obtain⟨NM,hNM⟩:∃NM,NN=NM+3:=⟨NN-3,by have:=x7f;omega⟩
 rw[hNM]
 obtain⟨m0,hm0⟩:∃m0:Mem,m0=((⟨[],1⟩:Mem).new (0,0,2) (.row [I 0,I 0] 0 false)).new (0,1,3) (.row [I 0,I 0] 0 false):=⟨_,rfl⟩
 rw[<-hm0]
 have g0:m0.get (0,1,3)=some (.row [I 0,I 0] 0 false):=by rw[hm0];simp
 have f0:m0.get (0,0,2)=some (.row [I 0,I 0] 0 false):=by rw[hm0];simp
 obtain⟨⟨p1,p2⟩,-⟩:=x9t 0 h0 hin
 obtain⟨⟨q1,q2⟩,-⟩:=x9t 1 h0 hin
 have step:∀(n:Nat) (kk:Nat) (M:Mem) (fc:Nat),((kk:Int)<2)->xd (x6e d) [] 0 (n+1) a (.ptr (0,0,2) 0 0) (.ptr (0,1,3) 0 0) (I kk) M fc =
  xc (x6e d) [] 0 (xd (x6e d) [] 0 n) NN a (.ptr (0,0,2) 0 0) (.ptr (0,1,3) 0 0) (I kk) (I (-8)) M (fc+2+1):=λn kk M fc hkk=>by
  simp only[xd]
  unfold x25 x3t
  simp only[x8r,hkk,xj1,x6z,x89]
 obtain⟨fc1,h1⟩:=l_medR d [] 0 (t2:=.ptr (0,0,2) 0 0) (xd (x6e d) [] 0 (NM+2)) ha h0 hin hl 0 (by omega) g0 (medP 0 l+8).toNat (-8) NN (2+1+2+1) (by omega) (by omega) (by rw[x7f];omega)
 simp only[xis]at h1
 obtain⟨fc2,h2⟩:=l_medR d [] 0 (t2:=.ptr (0,0,2) 0 0) (xd (x6e d) [] 0 (NM+1)) ha h0 hin hl 1 (by omega) (p:=medP 0 l) (q:=0) (m:=m0.set (0,1,3) (.row [I (medP 0 l),I 0] 0 false)) (by simp) (medP 1 l+8).toNat (-8) NN (fc1+2+1) (by omega) (by omega) (by rw[x7f];omega)
 have s0:=step (NM+2) 0 m0 (2+1) (by omega)
 have s1:=step (NM+1) 1 (m0.set (0,1,3) (.row [I (medP 0 l),I 0] 0 false)) fc1 (by omega)
 rw[show(I ((0:Nat):Int))=I 0 from rfl]at s0 h1
 rw[s0,h1]
 rw[show(I ((0+1:Nat):Int))=I ((1:Nat):Int)from rfl,s1,h2]
 simp only[xd]
 unfold x25 x3q
 simp[f0,sLdP]
 exact RetF.st (a:=.agg [I (medP 0 l),I (medP 1 l)]) rfl rfl
def x9a(l:List Mp)(tol:Int)(x:Mp):Bool:=decide (((x.b0-medP 0 l).natAbs:Int)<=tol)&&decide (((x.b1-medP 1 l).natAbs:Int)<=tol)
def x7s(q:Mp->Bool):Nat->List Mp->List Int
 |_,[]=>[]
 |k,x::r=>(bif q x then[(k:Int)]else[])++x7s q (k+1) r
theorem xg1(q:Mp->Bool):∀(l:List Mp) (k:Nat),(x7s q k l).length<=l.length
 |[],_=>xid _
 |x::r,k=>by
  have:=xg1 q r (k+1)
  simp only[x7s,xje,xim]
  cases q x<;>simp<;>omega
theorem w_size3(d:Nat)(x:Int)(m:Mem)(h1:-9223372036854775808<x)(h2:x<=9223372036854775807):x6h (x6e (d+1)) xl [I x] m=some (I (x.natAbs:Int),m):=by
 refine call0 rfl (m':=⟨[],1⟩) ?_ rfl
 rw[x4z]
 unfold x37 x2d
 simp(disch:=omega) [mem0]
 split<;>omega
theorem l_kept(d:Nat)(hs:FHs)(u:Nat)(ha:Pts a l)(hl:l.length<=12)(hin:x8u l)(tol:Int):∀(suf:List Mp) (k j:Nat) (v:AV) (acc:List Int) (m:Mem) (fc:Nat),l.drop k=suf->suf.length<j->acc.length<=k->k<=1000 ->
 Gk 1 intE (λid=>id.1=u/\id.2.2=41) m v acc ->
 ∃v' m',x1d (x6e (d+6)) hs u j a (I tol) v a (I l.length) (I k) m fc=some (v',m')/\Gk 1 intE (λid=>id.1=u/\id.2.2=41) m' v' (acc++x7s (x9a l tol) k suf):=by
 intro suf
 induction suf with
 |nil=>
  intro k j v acc m fc hd hj hacc hk1 hG
  obtain⟨j,rfl⟩:∃i,j=i+1:=⟨j-1,by simp at hj;omega⟩
  have hk0:=xjq.mp hd
  have hk:¬((k:Int)<(l.length:Int)):=by omega
  simp only[x1d]
  unfold x2j
  simp[hk,x45,x7s]
  exact⟨_,_,⟨rfl,rfl⟩,hG⟩
 |cons e r ih=>
  intro k j v acc m fc hd hj hacc hk1 hG
  obtain⟨j,rfl⟩:∃i,j=i+1:=⟨j-1,by simp at hj;omega⟩
  obtain⟨hk,he,hd⟩:=x9m hd
  have hk':(k:Int)<(l.length:Int):=by omega
  have hne:l≠[]:=by rintro rfl;simp at hk
  have ix:=ha.ix Mp.len hk
  have ld:=xbs (m:=m) Mp.len (by omega) hk
  rw[he]at ld
  have md:=xfz d ha hne hl
  have hp:=hin e (he▸xj5 hk)
  have hb0:=hp.b0
  have hb1:=hp.b1
  obtain⟨⟨p1,p2⟩,-⟩:=x9t 0 hne hin
  obtain⟨⟨q1,q2⟩,-⟩:=x9t 1 hne hin
  unfold bd at hb0 hb1
  have sz0:=w_size3 (d+5) (e.b0-medP 0 l)
  have sz1:=w_size3 (d+5) (e.b1-medP 1 l)
  obtain⟨M,hM⟩:∃M:Mem,M=((((m.new (u,fc+1+3,7) (.row [I 0,I 0,I 0,I 0,I 0] 0 false)).set (u,fc+1+3,7) (.row [I e.ln,I e.sm,I e.b0,I e.b1,I e.sc] 0 false)).new (u,fc+1+8,8) (.row [I 0,I 0] 0 false)).set (u,fc+1+8,8) (.row [I (medP 0 l),I (medP 1 l)] 0 false)):=⟨_,rfl⟩
  have hG1:Gk 1 intE (λid=>id.1=u/\id.2.2=41) M v acc:=hG.frame λid hid=>by
   rw[hM,Mem.get_set,xi6 (by rintro rfl;simp at hid),Mem.get_new,xi6 (by rintro rfl;simp at hid),Mem.get_set,xi6 (by rintro rfl;simp at hid),Mem.get_new,xi6 (by rintro rfl;simp at hid)]
  have hel:∀(M:Mem) (x:Int),elems M.get 1 (.slit [I x] 1 true)=some (intE x,1):=λ_ _=>rfl
  simp only[x1d]
  unfold x2j x46 x2i
  simp only[x6z,x8r,hk',xj1,x89,ix,ld]
  simp(disch:=omega) [Mp.c,z_pt,xac,md,sIxA,asI,x6u,sz0]
  rw[x7s]
  have e1:x9a l tol e=(decide (((e.b0-medP 0 l).natAbs:Int)<=tol)&&decide (((e.b1-medP 1 l).natAbs:Int)<=tol)):=rfl
  by_cases c0:((e.b0-medP 0 l).natAbs:Int)<=tol
  .by_cases c1:((e.b1-medP 1 l).natAbs:Int)<=tol
   .obtain⟨v',m3,A,hG3,u1,u2,n3,f3⟩:=Gk.app (ok:=λid=>id.1=u/\id.2.2=41) x9p (by omega) (bytes:=8) (id0:=(u,fc+1+33,41)) ⟨rfl,rfl⟩ (by unfold x6m;omega) hG1 (k:Int)
    obtain⟨v2,m4,h1,h2⟩:=ih (k+1) j v' (acc++[(k:Int)]) m3 (fc+1+35+2) hd (by simp at hj;omega) (by simp;omega) (by omega) hG3
    refine⟨v2,m4,?_,?_⟩
    .rw[<-h1]
     rw[<-hM]
     simp(disch:=omega) [c0,c1,hM,sIxA,asI,x6u,sz1]
     rw[<-hM]
     simp(disch:=omega) [xbu,hel,A,x6u]
    .rw[e1]
     simp only[c0,c1,xj1,Bool.and_self,x9o]
     rw[<-xkk]
     exact h2
   .obtain⟨v2,m4,h1,h2⟩:=ih (k+1) j v acc M (fc+1+30+2) hd (by simp at hj;omega) (by omega) (by omega) hG1
    refine⟨v2,m4,?_,?_⟩
    .rw[<-h1]
     simp(disch:=omega) [c0,c1,hM,sIxA,asI,x6u,sz1]
    .rw[e1]
     simp only[c0,c1,xjw,Bool.and_false,xa8,xjn]
     exact h2
  .obtain⟨v2,m4,h1,h2⟩:=ih (k+1) j v acc M (fc+1+30+2) hd (by simp at hj;omega) (by omega) (by omega) hG1
   refine⟨v2,m4,?_,?_⟩
   .rw[<-h1]
    simp(disch:=omega) [c0,hM,x6u]
   .rw[e1]
    simp only[c0,xjw,Bool.false_and,xa8,xjn]
    exact h2
theorem w_kept(d:Nat)(ha:Pts a l)(hl:l.length<=12)(hin:x8u l)(tol:Int)(m:Mem):∃x,Ints x (x7s (x9a l tol) 0 l)/\x6h (x6e (d+7)) x11 [a,I tol] m=some (x,m):=by
 obtain⟨v',m',h1,h2⟩:=l_kept d [] 0 ha hl hin tol l 0 NN nilS [] ⟨[],1⟩ (2+3) rfl (by rw[x7f];omega) (by simp) (by omega) Gk.nil
 obtain⟨x,hx,hfz⟩:=h2.frz (k:=4) x9p xff
 refine⟨x,by simpa using hx,x78 (by simp[ha.still]) ?_ m⟩
 rw[x52]
 unfold x3a x2k x47
 rw[show I ((0:Nat):Int)=I 0 from rfl]at h1
 have hlen:sLen Try.prog x1m a=some (I l.length):=ha.len xfm
 simp only[mem0,hlen,x6z]
 exact⟨v',m',x,h1,hfz,rfl⟩
attribute [local simp high] rd_5
variable{a:AV}{l:List Mp}
theorem l_rkept(d:Nat)(hs:FHs)(u:Nat)(ha:Pts a l)(hl:l.length<=1000)(hne:l≠[])(hin:x8u l)(tol:Int):∀(suf:List Mp) (k j:Nat) (v:AV) (acc:List Int) (m:Mem) (fc:Nat),l.drop k=suf->suf.length<j->acc.length<=k->k<=1000 ->
 m.get (u,6,5)=some (.row [I (medP 0 l),I (medP 1 l)] 0 false)->Gk 1 intE (λid=>id.1=u/\id.2.2=48) m v acc ->
 ∃v' m',x1c (x6e (d+1)) hs u j a (I tol) (.ptr (u,6,5) 0 0) v (I k) m fc=some (v',m')/\Gk 1 intE (λid=>id.1=u/\id.2.2=48) m' v' (acc++x7s (x9a l tol) k suf):=by
 intro suf
 obtain⟨⟨p1,p2⟩,-⟩:=x9t 0 hne hin
 obtain⟨⟨q1,q2⟩,-⟩:=x9t 1 hne hin
 induction suf with
 |nil=>
  intro k j v acc m fc hd hj hacc hk1 hg hG
  obtain⟨j,rfl⟩:∃i,j=i+1:=⟨j-1,by simp at hj;omega⟩
  have hk0:=xjq.mp hd
  have hk:¬((k:Int)<(l.length:Int)):=by omega
  simp only[x1c]
  unfold x2a
  simp[ha.len x71,hk,x3x,x7s]
  exact⟨_,_,⟨rfl,rfl⟩,hG⟩
 |cons e r ih=>
  intro k j v acc m fc hd hj hacc hk1 hg hG
  obtain⟨j,rfl⟩:∃i,j=i+1:=⟨j-1,by simp at hj;omega⟩
  obtain⟨hk,he,hd⟩:=x9m hd
  have hk':(k:Int)<(l.length:Int):=by omega
  have ix:=ha.ix Mp.len hk
  rw[x8t hk,xjp,he]at ix
  have hp:=hin e (he▸xj5 hk)
  have hb0:=hp.b0
  have hb1:=hp.b1
  unfold bd at hb0 hb1
  have sz0:=w_Size d (e.b0-medP 0 l)
  have sz1:=w_Size d (e.b1-medP 1 l)
  have hel:∀(M:Mem) (x:Int),elems M.get 1 (.slit [I x] 1 true)=some (intE x,1):=λ_ _=>rfl
  simp only[x1c]
  unfold x2a x3y x29
  simp(disch:=omega) [ha.len x71,hk',ix,Mp.c,sIxA,asI,hg,x6u,sz0]
  rw[x7s]
  have e1:x9a l tol e=(decide (((e.b0-medP 0 l).natAbs:Int)<=tol)&&decide (((e.b1-medP 1 l).natAbs:Int)<=tol)):=rfl
  by_cases c0:((e.b0-medP 0 l).natAbs:Int)<=tol
  .by_cases c1:((e.b1-medP 1 l).natAbs:Int)<=tol
   .obtain⟨v',m3,A,hG3,u1,u2,n3,f3⟩:=Gk.app (ok:=λid=>id.1=u/\id.2.2=48) x9p (by omega) (bytes:=8) (id0:=(u,fc+4+29,48)) ⟨rfl,rfl⟩ (by unfold x6m;omega) hG (k:Int)
    obtain⟨v2,m4,h1,h2⟩:=ih (k+1) j v' (acc++[(k:Int)]) m3 (fc+4+31+3) hd (by simp at hj;omega) (by simp;omega) (by omega) (by rw[f3 _ (by simp)];exact hg) hG3
    refine⟨v2,m4,?_,?_⟩
    .rw[<-h1]
     simp(disch:=omega) [c0,c1,ix,Mp.c,hg,sIxA,asI,x6u,sz1,xbu,hel,A]
    .rw[e1]
     simp only[c0,c1,xj1,Bool.and_self,x9o]
     rw[<-xkk]
     exact h2
   .obtain⟨v2,m4,h1,h2⟩:=ih (k+1) j v acc m (fc+4+26+3) hd (by simp at hj;omega) (by omega) (by omega) hg hG
    refine⟨v2,m4,?_,?_⟩
    .rw[<-h1]
     simp(disch:=omega) [c0,c1,ix,Mp.c,hg,sIxA,asI,x6u,sz1]
    .rw[e1]
     simp only[c0,c1,xjw,Bool.and_false,xa8,xjn]
     exact h2
  .obtain⟨v2,m4,h1,h2⟩:=ih (k+1) j v acc m (fc+4+26+3) hd (by simp at hj;omega) (by omega) (by omega) hg hG
   refine⟨v2,m4,?_,?_⟩
   .rw[<-h1]
    simp(disch:=omega) [c0,ix,hg,x6u]
   .rw[e1]
    simp only[c0,xjw,Bool.false_and,xa8,xjn]
    exact h2
theorem w_rKept(d:Nat)(ha:Pts a l)(hl:l.length<=1000)(hin:x8u l)(tol:Int)(m:Mem):∃x,Ints x (x7s (x9a l tol) 0 l)/\x6h (x6e (d+2)) xz [a,I tol] m=some (x,m):=by
 by_cases hne:l=[]
 .subst hne
  refine⟨nilS,Or.inl ⟨rfl,rfl⟩,x78 (by simp[ha.still]) ?_ m⟩
  rw[x4j]
  unfold x1p x1k
  simp[mem0,ha.len x71]
  exact RetF.st rfl rfl
 obtain⟨v',m',h1,h2⟩:=l_rkept d [] 0 ha hl hne hin tol l 0 NN nilS [] (((⟨[],1⟩:Mem).new (0,6,5) (.row [I 0,I 0] 0 false)).set (0,6,5) (.row [I (medP 0 l),I (medP 1 l)] 0 false)) (9+1) rfl (by rw[x7f];omega) (by simp) (by omega) (by simp) Gk.nil
 obtain⟨x,hx,hfz⟩:=h2.frz (k:=4) x9p xff
 refine⟨x,by simpa using hx,x78 (by simp[ha.still]) ?_ m⟩
 have hl0:¬(l.length:Int)=0:=by
  have:=xkb.mpr hne
  omega
 rw[x4j]
 unfold x1p x1k
 rw[show I ((0:Nat):Int)=I 0 from rfl]at h1
 simp[mem0,ha.len x71,hne,xg0 d ha hne hin hl,xac,x3z]
 exact⟨v',m',x,h1,hfz,rfl⟩
theorem w_Median(d:Nat)(ha:Pts a l)(hl:l.length<=1000)(h12:(x76 l).2=0->l.length<=12)(m:Mem) :
 x6h (x6e (d+7)) xv [a] m=some (.tup (bif decide ((x76 l).2=0)then bif decide (l=[])then[.agg [I 0,I 0],I 10]else[.agg [I (medP 0 l),I (medP 1 l)],I 0]else[.agg [I 0,I 0],I (x76 l).2]),m):=by
 refine x78 (by simp[ha.still]) ?_ m
 rw[x4t]
 unfold x31 x1w
 simp[mem0,xac,xbx (d+1) ha hl,xd9]
 by_cases c:(x76 l).2=0
 rotate_left
 .simp[c]
  exact RetF.tup rfl rfl
 by_cases hne:l=[]
 .subst hne
  simp[c,ha.len x71]
  exact RetF.tup rfl rfl
 have hl0:¬(l.length:Int)=0:=by
  have:=xkb.mpr hne
  omega
 simp[c,ha.len x71,hne,xfz d ha hne (h12 c)]
 exact RetF.tup rfl rfl
theorem w_Kept(d:Nat)(ha:Pts a l)(hl:l.length<=1000)(h12:(x76 l).2=0->l.length<=12)(tol:Int)(m:Mem) :
 ∃x,(((x76 l).2=0/\wi tol 0 8=true/\Ints x (x7s (x9a l tol) 0 l))\/(¬((x76 l).2=0/\wi tol 0 8=true)/\x=nilS)) /\
  x6h (x6e (d+8)) xw [a,I tol] m=some (.tup [x,I (if(x76 l).2=0 then(bif wi tol 0 8 then 0 else 2)else(x76 l).2)],m):=by
 by_cases c:(x76 l).2=0
 rotate_left
 .refine⟨nilS,.inr ⟨λh=>c h.1,rfl⟩,x78 (by simp[ha.still]) ?_ m⟩
  rw[x3k]
  unfold x1g x18
  simp[mem0,xbx (d+2) ha hl,c]
  exact RetF.tup rfl rfl
 cases ct:wi tol 0 8
 .refine⟨nilS,.inr ⟨λh=>by simp at h,rfl⟩,x78 (by simp[ha.still]) ?_ m⟩
  rw[x3k]
  unfold x1g x18
  simp[mem0,xbx (d+2) ha hl,c,x8v,ct]
  exact RetF.tup rfl rfl
 obtain⟨-,-,hin⟩:=xdb c
 obtain⟨x,hx,hw⟩:=w_kept d ha (h12 c) hin tol (⟨[],1⟩:Mem)
 refine⟨x,.inl ⟨c,rfl,hx⟩,x78 (by simp[ha.still]) ?_ m⟩
 rw[x3k]
 unfold x1g x18
 simp[mem0,xbx (d+2) ha hl,c,x8v,ct,hw]
 exact RetF.tup (by simp[hx.still]) rfl
theorem ne_two(X Y:Operand)(x y z w:Int):sBin Try.prog .neq x5 X Y (.agg [I x,I y]) (.agg [I z,I w])=some (B (!decide (x=z/\y=w))):=by
 have:=eq_pair X Y (x,y) (z,w)
 have e:decide ((x,y)=(z,w))=decide (x=z/\y=w):=by rw[decide_eq_decide,xi7]
 rw[<-e];exact this
theorem law_MatchKeeps{tol:Int}(ha:Pts a l):∃m',x6e 31 [] x1f [a,I tol] mem0=some (B true,m'):=by
 rw[x4o]
 unfold x2w x1q
 simp[mem0,w_awake3,w_some 29 ha]
 cases cs:x9q l
 .simp
 have hl32:=someP_le cs
 have h12:(x76 l).2=0->l.length<=12:=λh=>someP_of cs (xdb h).1
 obtain⟨a',ha',hcp⟩:=xby 29 ha (by omega) (⟨[],1⟩:Mem)
 obtain⟨M,hM⟩:∃M:Mem,∀x y:Int,True:=⟨⟨[],1⟩,λ_ _=>trivial⟩
 simp[hcp,xfn 26 ha' (show l.length<=1000 by omega),w_Median 23 ha' (by omega) h12,xac]
 by_cases c:(x76 l).2=0
 rotate_left
 .obtain⟨a2,ha2,hcp2⟩:=xby 29 ha (by omega) (((⟨[],1⟩:Mem).new (0,20,7) (.row [I 0,I 0] 0 false)).set (0,20,7) (.row [I 0,I 0] 0 false))
  obtain⟨x,hx,hk⟩:=w_Kept 22 ha2 (by omega) h12 tol (((⟨[],1⟩:Mem).new (0,20,7) (.row [I 0,I 0] 0 false)).set (0,20,7) (.row [I 0,I 0] 0 false))
  rcases hx with ⟨h,-⟩|⟨-,rfl⟩
  .exact absurd h c
  simp only[c,xii]at hk
  simp[c,hcp2,hk,xdc 27 ha (show l.length<=1000 by omega),xd9,eq2_two,x9n x8a]
 obtain⟨-,c1,hin⟩:=xdb c
 by_cases hne:l=[]
 .subst hne
  obtain⟨a2,ha2,hcp2⟩:=xby 29 ha (by simp) (((⟨[],1⟩:Mem).new (0,20,7) (.row [I 0,I 0] 0 false)).set (0,20,7) (.row [I 0,I 0] 0 false))
  obtain⟨x,hx,hk⟩:=w_Kept 22 ha2 (by simp) h12 tol (((⟨[],1⟩:Mem).new (0,20,7) (.row [I 0,I 0] 0 false)).set (0,20,7) (.row [I 0,I 0] 0 false))
  simp only[c,xis]at hk
  simp[c,c1,hcp2,hk,xdc 27 ha (show([]:List Mp).length<=1000 by simp),ha.len x71,xd9,ne_two,x98]
  cases ct:wi tol 0 8
  .rcases hx with ⟨-,h,-⟩|⟨-,rfl⟩
   .rw[ct]at h;cases h
   simp[x9n x8a]
  .rcases hx with ⟨-,-,hx⟩|⟨h,-⟩
   rotate_left
   .exact absurd ⟨c,ct⟩ h
   obtain⟨y,hy,hr⟩:=w_rKept 28 ha (by simp) hin tol (((⟨[],1⟩:Mem).new (0,20,7) (.row [I 0,I 0] 0 false)).set (0,20,7) (.row [I 0,I 0] 0 false))
   have hi:=w_Ints 29 hx hy (by simp[x7s])
   simp[hr,hi]
 have hl0:¬(l.length:Int)=0:=by
  have:=xkb.mpr hne
  omega
 have hl1:(0:Int)<(l.length:Int):=by omega
 have hl2:0<l.length:=by omega
 obtain⟨M,hM⟩:∃M:Mem,M=((⟨[],1⟩:Mem).new (0,20,7) (.row [I 0,I 0] 0 false)).set (0,20,7) (.row [I (medP 0 l),I (medP 1 l)] 0 false):=⟨_,rfl⟩
 obtain⟨a2,ha2,hcp2⟩:=xby 29 ha (by omega) M
 obtain⟨x,hx,hk⟩:=w_Kept 22 ha2 (by omega) h12 tol M
 simp only[c,xis]at hk
 have hg:M.get (0,20,7)=some (.row [I (medP 0 l),I (medP 1 l)] 0 false):=by rw[hM];simp
 simp[c,c1,hne]
 rw[<-hM]
 simp[hcp2,hk,c,c1,xdc 27 ha (show l.length<=1000 by omega),ha.len x71,ha.clean,hl0,hl1,hl2,hne,hg,xg0 29 ha hne hin (by omega),ne_two,x98]
 cases ct:wi tol 0 8
 .rcases hx with ⟨-,h,-⟩|⟨-,rfl⟩
  .rw[ct]at h;cases h
  simp[x9n x8a]
 .rcases hx with ⟨-,-,hx⟩|⟨h,-⟩
  rotate_left
  .exact absurd ⟨c,ct⟩ h
  obtain⟨y,hy,hr⟩:=w_rKept 28 ha (by omega) hin tol M
  have hi:=w_Ints 29 hx hy (by have:=xg1 (x9a l tol) l 0;omega)
  simp[hr,hi]
end Go.Ix
