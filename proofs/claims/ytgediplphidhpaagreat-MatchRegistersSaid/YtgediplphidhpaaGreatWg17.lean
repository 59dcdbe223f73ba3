import Derived.Test.YtgediplphidhpaaGreatWg9
import Derived.Test.YtgediplphidhpaaGreatWg4
import Derived.Test.YtgediplphidhpaaGreatWg14
import Derived.Test.YtgediplphidhpaaGreatWg16
import Derived.Test.YtgediplphidhpaaGreatWg7
import Derived.Test.YtgediplphidhpaaGreatWg13
import Derived.Test.YtgediplphidhpaaGreatWg10
import Derived.Test.YtgediplphidhpaaGreatFxSound
set_option linter.unusedSimpArgs false
set_option linter.unusedVariables false
namespace Go.Ix
open Go.Proofs
attribute [local simp high] rd_5
variable{a:AV}{l:List Mp}
theorem l_rkept(d:Nat)(hs:FHs)(u:Nat)(ha:Pts a l)(hl:l.length<=1000)(hne:l≠[])(hin:xod l)(tol:Int):∀(suf:List Mp) (k j:Nat) (v:AV) (acc:List Int) (m:Mem) (fc:Nat),l.drop k=suf->suf.length<j->acc.length<=k->k<=1000 ->
 m.get (u,6,5)=some (.row [I (medP 0 l),I (medP 1 l)] 0 false)->Gk 1 intE (λid=>id.1=u/\id.2.2=48) m v acc ->
 ∃v' m',x53 (xnt (d+1)) hs u j a (I tol) (.ptr (u,6,5) 0 0) v (I k) m fc=some (v',m')/\Gk 1 intE (λid=>id.1=u/\id.2.2=48) m' v' (acc++xpr (xpl l tol) k suf):=by
 intro suf
 obtain⟨⟨p1,p2⟩,-⟩:=xtt 0 hne hin
 obtain⟨⟨q1,q2⟩,-⟩:=xtt 1 hne hin
 induction suf with
 |nil=>
  intro k j v acc m fc hd hj hacc hk1 hg hG
  obtain⟨j,rfl⟩:∃i,j=i+1:=⟨j-1,by simp at hj;omega⟩
  have hk0:=x19k.mp hd
  have hk:¬((k:Int)<(l.length:Int)):=by omega
  simp only[x53]
  unfold x91
  simp[ha.len xpb,hk,xfv,xpr]
  exact⟨_,_,⟨rfl,rfl⟩,hG⟩
 |cons e r ih=>
  intro k j v acc m fc hd hj hacc hk1 hg hG
  obtain⟨j,rfl⟩:∃i,j=i+1:=⟨j-1,by simp at hj;omega⟩
  obtain⟨hk,he,hd⟩:=xpe hd
  have hk':(k:Int)<(l.length:Int):=by omega
  have ix:=ha.ix Mp.len hk
  rw[xp2 hk,x19b,he]at ix
  have hp:=hin e (he▸x19j hk)
  have hb0:=hp.b0
  have hb1:=hp.b1
  unfold bd at hb0 hb1
  have sz0:=xvj d (e.b0-medP 0 l)
  have sz1:=xvj d (e.b1-medP 1 l)
  have hel:∀(M:Mem) (x:Int),elems M.get 1 (.slit [I x] 1 true)=some (intE x,1):=λ_ _=>rfl
  simp only[x53]
  unfold x91 xfw x90
  simp(disch:=omega) [ha.len xpb,hk',ix,Mp.c,sIxA,asI,hg,xnx,sz0]
  rw[xpr]
  have e1:xpl l tol e=(decide (((e.b0-medP 0 l).natAbs:Int)<=tol)&&decide (((e.b1-medP 1 l).natAbs:Int)<=tol)):=rfl
  by_cases c0:((e.b0-medP 0 l).natAbs:Int)<=tol
  .by_cases c1:((e.b1-medP 1 l).natAbs:Int)<=tol
   .obtain⟨v',m3,A,hG3,u1,u2,n3,f3⟩:=Gk.app (ok:=λid=>id.1=u/\id.2.2=48) xtk (by omega) (bytes:=8) (id0:=(u,fc+4+29,48)) ⟨rfl,rfl⟩ (by unfold xol;omega) hG (k:Int)
    obtain⟨v2,m4,h1,h2⟩:=ih (k+1) j v' (acc++[(k:Int)]) m3 (fc+4+31+3) hd (by simp at hj;omega) (by simp;omega) (by omega) (by rw[f3 _ (by simp)];exact hg) hG3
    refine⟨v2,m4,?_,?_⟩
    .rw[<-h1]
     simp(disch:=omega) [c0,c1,ix,Mp.c,hg,sIxA,asI,xnx,sz1,xx3,hel,A]
    .rw[e1]
     simp only[c0,c1,x19d,x1cv,xqc]
     rw[<-x1ao]
     exact h2
   .obtain⟨v2,m4,h1,h2⟩:=ih (k+1) j v acc m (fc+4+26+3) hd (by simp at hj;omega) (by omega) (by omega) hg hG
    refine⟨v2,m4,?_,?_⟩
    .rw[<-h1]
     simp(disch:=omega) [c0,c1,ix,Mp.c,hg,sIxA,asI,xnx,sz1]
    .rw[e1]
     simp only[c0,c1,x1a8,x1dr,xrs,x19r]
     exact h2
  .obtain⟨v2,m4,h1,h2⟩:=ih (k+1) j v acc m (fc+4+26+3) hd (by simp at hj;omega) (by omega) (by omega) hg hG
   refine⟨v2,m4,?_,?_⟩
   .rw[<-h1]
    simp(disch:=omega) [c0,ix,hg,xnx]
   .rw[e1]
    simp only[c0,x1a8,Bool.false_and,xrs,x19r]
    exact h2
theorem w_rKept(d:Nat)(ha:Pts a l)(hl:l.length<=1000)(hin:xod l)(tol:Int)(m:Mem):∃x,Ints x (xpr (xpl l tol) 0 l)/\xnu (xnt (d+2)) x2j [a,I tol] m=some (x,m):=by
 by_cases hne:l=[]
 .subst hne
  refine⟨nilS,Or.inl ⟨rfl,rfl⟩,xo0 (by simp[ha.still]) ?_ m⟩
  rw[xi4]
  unfold x7t x6i
  simp[mem0,ha.len xpb]
  exact RetF.st rfl rfl
 obtain⟨v',m',h1,h2⟩:=l_rkept d [] 0 ha hl hne hin tol l 0 NN nilS [] (((⟨[],1⟩:Mem).new (0,6,5) (.row [I 0,I 0] 0 false)).set (0,6,5) (.row [I (medP 0 l),I (medP 1 l)] 0 false)) (9+1) rfl (by rw[xo8];omega) (by simp) (by omega) (by simp) Gk.nil
 obtain⟨x,hx,hfz⟩:=h2.frz (k:=4) xtk x12n
 refine⟨x,by simpa using hx,xo0 (by simp[ha.still]) ?_ m⟩
 have hl0:¬(l.length:Int)=0:=by
  have:=x1c6.mpr hne
  omega
 rw[xi4]
 unfold x7t x6i
 rw[show I ((0:Nat):Int)=I 0 from rfl]at h1
 simp[mem0,ha.len xpb,hne,w_rMedian d ha hne hin hl,xp5,xfx]
 exact⟨v',m',x,h1,hfz,rfl⟩
end Go.Ix
set_option exponentiation.threshold 3000
namespace Go.Ix
open Go.Proofs Ieee
variable{a b:AV}{D D2:List Px}{L S L2 S2:Int}
theorem w_LPair(d:Nat)(L S L2 S2:Int){l r:List Nat}(ha:Sl f32E a l)(hb:Sl f32E b r)(hl:l.length<=1048576)(hl2:r.length<=1048576):∃p q,Sl pxE p (prsM l)/\Sl pxE q (prsM r)/\∀m,xnu (xnt (d+3)) x26 [.agg [I L,I S,a,I L2,I S2,b]] m=some (.agg [I L,I S,p,I L2,I S2,q],m):=by
 obtain⟨p,hp,ep⟩:=x13i d L S ha hl
 obtain⟨q,hq,eq⟩:=x13i d L2 S2 hb hl2
 refine⟨p,q,hp,hq,λm=>xo0 (by simp[ha.still1,hb.still1]) ?_ m⟩
 rw[xin]
 unfold xct x81
 simp[mem0,ha.one,hb.one,xxq,xny,ep,eq,x102,hp.one,hq.one,cAp,tR,mkM,clean,ha.clean1,hb.clean1,sLdP,show Nat.blt 0 1=true from rfl]
 exact RetF.st (by simp[hp.still1,hq.still1]) rfl
theorem w_both(d:Nat)(L S L2 S2:Int){l r:List Nat}(ha:Sl f32E a l)(hb:Sl f32E b r)(m:Mem):xnu (xnt (d+2)) x3j [.agg [I L,I S,a,I L2,I S2,b]] m=some (B (decide (l.length<=200)&&decide (r.length<=200)),m):=by
 have s1:=λm=>x13j d L S ha m
 have s2:=λm=>x13j d L2 S2 hb m
 refine xo0 (by simp[ha.still1,hb.still1]) ?_ m
 rw[xim]
 unfold xcs x80
 by_cases c:l.length<=200
 .simp[mem0,ha.one,hb.one,s1,s2,c]
  exact RetF.st rfl rfl
 .simp[mem0,ha.one,hb.one,s1,s2,c]
  exact RetF.st rfl rfl
end Go.Ix
set_option maxRecDepth 10000
namespace Go.Ix
open Go.Proofs
variable{a b:AV}{D D2:List Px}{L S L2 S2:Int}
theorem th_low{n e:Int}(h0:0<=n)(he:0<e):thM (lowN n e).1 (lowN n e).2=thM n e:=by
 obtain⟨g,hg,q1,q2,-⟩:=xty h0 he
 unfold thM
 generalize (lowN n e).1=x at *
 generalize (lowN n e).2=y at *
 subst q1 q2
 rw[x1cf,Int.mul_ediv_mul_of_pos _ _ hg]
theorem cmp_th{n e lst:Int}(he:0<e):0<=cmpI (n*1000) (lst*e)↔lst<=thM n e:=by
 rw[cmpI_ge]
 unfold thM
 rw[Int.le_ediv_iff_mul_le he]
structure ORv (pr tk:List AV) (v:AV) (acc:List Mp) (m:Mem):Prop where
 g2:m.get (0,0,2)=some (.row pr 0 false)
 g3:m.get (0,1,3)=some (.row tk 0 false)
 gk:Gk 5 Mp.c (okR 75) m v acc
 nx:m.next=1
section
variable(d:Nat)(hs:FHs)(ha:Sl pxE a D)(hR:RtI L S D)(hb:Sl pxE b D2)(hR2:RtI L2 S2 D2){z w:Nat}(hz:1<=z/\z<=8)(hw:1<=w/\w<=8){st R lst t:Int}(hr:0<=R/\R<=4)(hlst:0<=lst/\lst<=1000){x:AV}{ps:List (Nat×Nat)}(hx:Sl (wnE z w) x ps)(hpl:ps.length<=30)(hpi:∀q∈ps,(q.1:Int)+z<=L/\(q.2:Int)+w<=S)
include ha hR hb hR2 hz hw hr hlst hx hpl hpi
theorem l_roff:∀(suf:List (Nat×Nat)) (k j:Nat) (v:AV) (acc:List Mp) (m:Mem) (fc:Nat),ps.drop k=suf->suf.length<j->acc.length<=k->ORv [I L,I S,a,I L2,I S2,b] [I z,I w,I st,I R,I lst,I t] v acc m ->
 ∃v' m',x1v (xnt (d+5)) hs 0 j (.ptr (0,0,2) 0 0) (.ptr (0,1,3) 0 0) x v (I k) m fc
  = some (.tup [v',I 0],m')/\Gk 5 Mp.c (okR 75) m' v' (acc++ptsM L S D L2 S2 D2 z w R lst suf):=by
 have hL:=wi_t hR.l
 have hS:=wi_t hR.s
 have e1:sLen Tryz.prog x19 x=some (I ps.length):=hx.len xuu
 intro suf
 induction suf with
 |nil=>
  intro k j v acc m fc hd hj hacc hI
  obtain⟨j,rfl⟩:∃i,j=i+1:=⟨j-1,by omega⟩
  have hk:=x19k.mp hd
  have c:¬((k:Int)<(ps.length:Int)):=by omega
  refine⟨v,m,?_,by simpa[ptsM]using hI.gk⟩
  simp only[x1v]
  unfold x6g xft
  simp[e1,c]
 |cons q suf ih=>
  intro k j v acc m fc hd hj hacc hI
  obtain⟨j,rfl⟩:∃i,j=i+1:=⟨j-1,by simp at hj;omega⟩
  have hk:k<ps.length:=by
   rcases x19t k ps.length with h|h
   .exact h
   .rw[x19k.mpr h]at hd;cases hd
  have c:(k:Int)<(ps.length:Int):=by omega
  have hq:=hpi q (x1ct (by rw[hd];exact x199))
  have i1:sIx 4 x (I k)=_:=hx.ix (wnL z w) hk
  rw[hd,x19b]at i1
  simp only[wnE,x1ad,x19r]at i1
  have hd2:ps.drop (k+1)=suf:=by rw[<-x1ds,hd];rfl
  obtain⟨g2,g3,gk,nx⟩:=hI
  obtain⟨o,ho,eo⟩:=w_rBest (L:=L) (S:=S) (L2:=L2) (S2:=S2) d ha hR hb hR2 hz hw (x:=(q.1:Int)) (y:=(q.2:Int)) (R:=R) (by omega) (by omega) hr
  have hbs:=bsO_eq ho
  have hw1:w64 ((k:Int)+1)=((k+1:Nat):Int):=by rw[xnx (by omega) (by omega)];omega
  have e64:ptsM L S D L2 S2 D2 z w R lst (q::suf)=ptO z w lst q o++ptsM L S D L2 S2 D2 z w R lst suf:=by
   unfold ptsM;rw[x19b,hbs]
  rw[e64]
  obtain⟨b0,b1,s0,s1,hby,hlo⟩:∃b0 b1 s0 s1:Int,byO o=[I b0,I b1]/\loO o=[I s0,I s1]:=by
   cases o with
   |none=>exact⟨0,0,0,0,rfl,rfl⟩
   |some f=>exact⟨_,_,_,_,rfl,rfl⟩
  rw[hby,hlo]at eo
  obtain⟨M,hM⟩:∃M:Mem,((((m.new (0,fc+4+12,10) (.row [I 0,I 0] 0 false)).new (0,fc+4+13,11) (.row [I 0,I 0] 0 false)).set (0,fc+4+12,10) (.row [I b0,I b1] 0 false)).set (0,fc+4+13,11) (.row [I s0,I s1] 0 false))=M:=⟨_,rfl⟩
  have G2:M.get (0,0,2)=some (.row [I L,I S,a,I L2,I S2,b] 0 false):=by rw[<-hM];simpa using g2
  have G3:M.get (0,1,3)=some (.row [I z,I w,I st,I R,I lst,I t] 0 false):=by rw[<-hM];simpa using g3
  have G10:M.get (0,fc+4+12,10)=some (.row [I b0,I b1] 0 false):=by rw[<-hM];simp
  have G11:M.get (0,fc+4+13,11)=some (.row [I s0,I s1] 0 false):=by rw[<-hM];simp
  have GN:M.next=1:=by rw[<-hM];exact nx
  have GK:Gk 5 Mp.c (okR 75) M v acc:=gk.frame λid hid=>by rw[<-hM,Mem.get_set_ne (by rintro rfl;exact absurd hid.2 (by simp)),Mem.get_set_ne (by rintro rfl;exact absurd hid.2 (by simp)),Mem.get_new,if_neg (by rintro rfl;exact absurd hid.2 (by simp)),Mem.get_new,if_neg (by rintro rfl;exact absurd hid.2 (by simp))]
  have hout:(∀f,o=some f->thM f.n f.e<lst)->∃v' m',x1v (xnt (d+5)) hs 0 (j+1) (.ptr (0,0,2) 0 0) (.ptr (0,1,3) 0 0) x v (I k) m fc
   = some (.tup [v',I 0],m')/\Gk 5 Mp.c (okR 75) m' v' (acc++(ptO z w lst q o++ptsM L S D L2 S2 D2 z w R lst suf)):=by
   intro hno
   obtain⟨v',m',e,hG⟩:=ih (k+1) j v acc M (fc+4+28+3) hd2 (by simp at hj;omega) (by omega) ⟨G2,G3,GK,GN⟩
   have hp:ptO z w lst q o=[]:=by
    cases o with
    |none=>rfl
    |some f=>unfold ptO;dsimp only;rw[if_pos (hno f rfl)]
   refine⟨v',m',?_,by rw[hp];simpa using hG⟩
   rw[<-e]
   simp only[x1v]
   conv=>lhs;unfold x6g x8y
   cases o with
   |none=>
    simp only[Option.isSome]at eo
    simp[e1,c,i1,xp5,xny,g2,g3,eo,nx,ha.one,hb.one,hM,G3,G11,cAp,mkM,tR,tS,xoa,disj,clean,ha.clean1,hb.clean1,show Nat.blt 0 1=true from rfl]
    unfold x52
    simp[hw1]
   |some f=>
    obtain⟨f0,f1,f2,f3,-⟩:=xsz hR hR2 hz.2 hw.2 (Best.hs ho)
    obtain⟨_,_,_,_,l0,l1,l2,l3⟩:=xty f0 f1
    simp only[loO,x1b7,and_true]at hlo
    have h0:s0=(lowN f.n f.e).1:=by have:=hlo.1;cases this;rfl
    have h1:s1=(lowN f.n f.e).2:=by have:=hlo.2;cases this;rfl
    have hc:=λm=>xxw (d+3) (n:=s0) (e:=s1) (m:=lst) (k:=1000) (by omega) (by omega) (by omega) (by omega) m
    have c2:¬0<=cmpI (s0*1000) (lst*s1):=by
     rw[cmp_th (by omega),h0,h1,th_low f0 f1]
     have:=hno f rfl
     omega
    simp only[Option.isSome]at eo
    simp[e1,c,i1,xp5,xny,g2,g3,eo,nx,ha.one,hb.one,hM,G3,G11,sIxA,asI,hc,c2,cAp,mkM,tR,tS,xoa,disj,clean,ha.clean1,hb.clean1,show Nat.blt 0 1=true from rfl]
    unfold x52
    simp[hw1]
  cases o with
  |none=>exact hout λf h=>by cases h
  |some f=>
   by_cases cl:thM f.n f.e<lst
   .exact hout λg h=>by cases h;exact cl
   clear hout
   obtain⟨f0,f1,f2,f3,-⟩:=xsz hR hR2 hz.2 hw.2 (Best.hs ho)
   obtain⟨_,_,_,_,l0,l1,l2,l3⟩:=xty f0 f1
   obtain⟨-,-,-,-,-,l4⟩:=low_ok f0 f1 (by omega) (by omega)
   have l4:=l4 f2
   simp only[loO,byO,x1b7,and_true]at hlo hby
   have h0:s0=(lowN f.n f.e).1:=by have:=hlo.1;cases this;rfl
   have h1:s1=(lowN f.n f.e).2:=by have:=hlo.2;cases this;rfl
   have h2:b0=f.p:=by have:=hby.1;cases this;rfl
   have h3:b1=f.q:=by have:=hby.2;cases this;rfl
   have hth:=xw4 f0 f2 f1
   have hlow:=th_low f0 f1
   rw[<-h0,<-h1]at hlow
   have hc:=λm=>xxw (d+3) (n:=s0) (e:=s1) (m:=lst) (k:=1000) (by omega) (by omega) (by omega) (by omega) m
   have c2:0<=cmpI (s0*1000) (lst*s1):=by
    rw[cmp_th (by omega),hlow]
    omega
   have th:=λm=>w_rthou (d+2) (n:=s0) (e:=s1) (by omega) (by omega) (by omega) (by omega) m
   rw[hlow]at th
   have hz2:w64 ((z:Int).tdiv 2)=((z / 2:Nat):Int):=by rw[show(z:Int).tdiv 2=((z / 2:Nat):Int)from rfl];exact xnx (by omega) (by omega)
   have hw2:w64 ((w:Int).tdiv 2)=((w / 2:Nat):Int):=by rw[show(w:Int).tdiv 2=((w / 2:Nat):Int)from rfl];exact xnx (by omega) (by omega)
   have hz3:w64 ((q.1:Int)+((z / 2:Nat):Int))=((q.1+z / 2:Nat):Int):=by rw[xnx (by omega) (by omega)];omega
   have hw3:w64 ((q.2:Int)+((w / 2:Nat):Int))=((q.2+w / 2:Nat):Int):=by rw[xnx (by omega) (by omega)];omega
   have qz:=xr9 (x:=(z:Int)) (y:=2) (by decide)
   have qw:=xr9 (x:=(w:Int)) (y:=2) (by decide)
   rw[hz2]at qz
   rw[hw2]at qw
   simp only[Option.isSome]at eo
   have hpt:ptO z w lst q (some f)=[⟨((q.1+z / 2:Nat):Int),((q.2+w / 2:Nat):Int),f.p,f.q,thM f.n f.e⟩]:=by unfold ptO;dsimp only;rw[if_neg cl]
   rw[hpt,<-h2,<-h3]
   obtain⟨v2,m2,hA,hG2,c2',o2,hn2,hfr⟩:=GK.app Mp.len (by decide) (bytes:=40) (id0:=(0,fc+4+52,75)) ⟨rfl,rfl⟩ (by unfold xol;omega) (⟨((q.1+z / 2:Nat):Int),((q.2+w / 2:Nat):Int),b0,b1,thM f.n f.e⟩:Mp)
   have hA':∀(k':AV->Mem->O2),sApp 5 40 (0,fc+4+52,75) (some ([I ((q.1+z / 2:Nat):Int),I ((q.2+w / 2:Nat):Int),I b0,I b1,I (thM f.n f.e)],1)) v M k'=k' v2 m2:=hA
   have fr2:∀id:Id,id.2.2≠75->m2.get id=M.get id:=λid h'=>hfr _ (λq=>h' q.2)
   obtain⟨v',m',e,hG⟩:=ih (k+1) j v2 _ m2 (fc+4+54+3) hd2 (by simp at hj;omega) (by simp;omega) ⟨(fr2 _ (by decide)).trans G2,(fr2 _ (by decide)).trans G3,hG2,by omega⟩
   refine⟨v',m',?_,by simpa[x1ao]using hG⟩
   rw[<-e]
   generalize q.1+z / 2=X at *
   generalize q.2+w / 2=Y at *
   generalize z / 2=Z at *
   generalize w / 2=W at *
   simp only[x1v]
   conv=>lhs;unfold x6g x8y
   simp[e1,c,i1,xp5,xny,g2,g3,eo,nx,ha.one,hb.one,hM,G3,G10,G11,GN,sIxA,asI,hc,c2,th,qz,qw,hz3,hw3,z_mpt,x147,cAp,mkM,tR,tS,xoa,disj,clean,ha.clean1,hb.clean1,show Nat.blt 0 1=true from rfl]
   rw[xy0,el_p5,hA']
   unfold x52
   simp[hw1,GN,show Nat.blt 0 1=true from rfl]
end
theorem w_rOff(d:Nat){z w st:Nat}(ha:Sl pxE a D)(hR:RtI L S D)(hb:Sl pxE b D2)(hR2:RtI L2 S2 D2){r l t:Int}(ck:tkE z w st r l t=0):∃x,Pts x (if 30<(xos L S z w st).length then[]else ptsM L S D L2 S2 D2 z w r l (xos L S z w st)) /\
 ∀m,xnu (xnt (d+6)) x3p [.agg [I L,I S,a,I L2,I S2,b],.agg [I z,I w,I st,I r,I l,I t]] m
  = some (.tup [x,I (if 30<(xos L S z w st).length then 8 else 0)],m):=by
 obtain⟨hz,hw,hst,hr,hlst,-⟩:=xuv ck
 obtain⟨x,hx,we⟩:=x168 (L:=L) (S:=S) (L2:=L2) (S2:=S2) (z:=z) (w:=w) (st:=st) (d+4) (by omega) (by omega) (by omega) ha hR hb r l t
 by_cases cn:30<(xos L S z w st).length
 .simp only[if_pos cn]at hx we ⊢
  refine⟨nilS,Or.inl ⟨rfl,rfl⟩,λm=>xo0 (by simp[ha.still1,hb.still1]) ?_ m⟩
  rw[xi3]
  unfold x7s x6h
  simp[mem0,ha.one,hb.one,we]
  exact RetF.tup rfl rfl
 .simp only[if_neg cn]at hx we ⊢
  obtain⟨M,hM⟩:∃M:Mem,((⟨[],1⟩:Mem).new (0,0,2) (.row [I L,I S,a,I L2,I S2,b] 0 false)).new (0,1,3) (.row [I z,I w,I st,I r,I l,I t] 0 false)=M:=⟨_,rfl⟩
  have hI:ORv [I L,I S,a,I L2,I S2,b] [I z,I w,I st,I r,I l,I t] nilS [] M:=⟨by rw[<-hM];simp,by rw[<-hM];simp,Gk.nil,by rw[<-hM];rfl⟩
  obtain⟨v',m',e,hG⟩:=l_roff d [] ha hR hb hR2 (by omega) (by omega) hr hlst hx (by omega) (λq hq=>xxz hq) (xos L S z w st) 0 NN nilS [] M (15+1) rfl (by rw[xo8];omega) (by simp) hI
  obtain⟨x',hx',hfz⟩:=hG.frz (k:=3) Mp.len Mp.still
  refine⟨x',by simpa using hx',λm=>xo0 (by simp[ha.still1,hb.still1]) ?_ m⟩
  rw[xi3]
  unfold x7s x6h xfu
  simp[mem0,ha.one,hb.one,we]
  rw[hM]
  rw[show(I ((0:Nat):Int))=I 0 from rfl]at e
  rw[e]
  exact RetF.mk (xx4 hfz rfl) rfl
end Go.Ix
namespace Go.Ix
open Go.Proofs
variable{L S L2 S2:Int}{D D2:List Px}{l:List Mp}
def selP(l:List Mp):List Int->List Mp
 |[]=>[]
 |i::r=>(match l[i.toNat]? with|some p=>[p]|none=>[])++selP l r
theorem x109(q:Mp->Bool):∀(suf:List Mp) (k:Nat),l.drop k=suf->selP l (xpr q k suf)=suf.filter q
 |[],k,_=>rfl
 |p::r,k,hd=>by
  obtain⟨hk,he,hd1⟩:=xpe hd
  have ih:=x109 q r (k+1) hd1
  rw[xpr]
  cases c:q p with
  |true=>
   rw[cond_true,x1ad,x19r,selP,x1ax,x19g hk,ih,he,List.filter_cons_of_pos c]
   rfl
  |false=>rw[cond_false,x19r,ih,List.filter_cons_of_neg (by simp[c])]
theorem x10a(q:Mp->Bool):∀(suf:List Mp) (k:Nat),l.drop k=suf->∀i∈xpr q k suf,0<=i/\i<l.length
 |[],k,_,i,h=>by simp[xpr]at h
 |p::r,k,hd,i,h=>by
  obtain⟨hk,he,hd1⟩:=xpe hd
  have ih:=x10a q r (k+1) hd1 i
  rw[xpr]at h
  cases c:q p with
  |true=>
   rw[c,cond_true,x1ad,x19r]at h
   rcases x19a.mp h with rfl|h
   .omega
   .exact ih h
  |false=>rw[c,cond_false,x19r]at h;exact ih h
theorem pts_in{z w st:Nat}{R lst:Int}(hL:L<=64)(hS:S<=64)(hz:1<=z)(hw:1<=w)(hR:0<=R/\R<=4):xod (ptsM L S D L2 S2 D2 z w R lst (xos L S z w st)):=by
 intro x hx
 unfold ptsM at hx
 obtain⟨q,hq,hx⟩:=x1ah.mp hx
 have hb:=xxz hq
 generalize ho:bsO L S D L2 S2 D2 z w R q=o at hx
 cases o with
 |none=>simp[ptO]at hx
 |some f=>
  unfold ptO at hx
  dsimp only at hx
  split at hx
  .simp at hx
  .rcases x1cr.mp hx with rfl
   have hg:grid R f.p f.q:=by
    unfold bsO at ho
    split at ho
    .rename_i h
     have hc:=h.choose_spec
     rw[ho]at hc
     exact hc.own
    .cases ho
   have h1:z / 2<z:=Nat.div_lt_self (by omega) (by omega)
   have h2:w / 2<w:=Nat.div_lt_self (by omega) (by omega)
   unfold grid at hg
   exact⟨by show(0:Int)<=((q.1+z / 2:Nat):Int);omega,by show((q.1+z / 2:Nat):Int)<=63;omega,by show(0:Int)<=((q.2+w / 2:Nat):Int);omega,by show((q.2+w / 2:Nat):Int)<=63;omega,by show bd f.p 8;unfold bd;omega,by show bd f.q 8;unfold bd;omega⟩
theorem x148(h:xod l)(hl:l.length<=30)(hD:0<DD l):AffIn (fitM l):=by
 obtain⟨⟨a,b⟩,c,d,e,f,g,i⟩:=Th.fit_bd h hl hD
 exact⟨a,b,c.mono (by omega),d.mono (by omega),e.mono (by omega),f.mono (by omega),g.mono (by omega),i.mono (by omega)⟩
end Go.Ix
namespace Go.Ix
open Go.Proofs Ieee
variable{a:AV}{D:List Px}{L S:Int}
section
variable(d:Nat)(hs:FHs)(ha:Sl pxE a D)(hR:RtI L S D){k:Int}(hk:wi k 0 2=true){f:Aff}(hf:AffIn f)
include ha hR hk hf
theorem l_rres1(rec0:xoc){rl rs:Nat}(hrl:rl<=64)(hrs:rs<=64)(l:Nat)(hl:l<=63):∀(n s j:Nat) (v:AV) (acc:List Px) (m:Mem) (fc:Nat),s+n=rs->n<j->acc.length<=64*l+s->RInv 57 a L S k rl rs f v acc m ->
 ∃v' m' fc',x57 (xnt (d+4)) hs 0 rec0 j (.ptr (0,0,2) 0 0) (.ptr (0,1,3) 0 0) (.ptr (0,2,4) 0 0) (.ptr (0,8,5) 0 0) (I l) (I s) m fc
  = x9e (xnt (d+4)) hs 0 rec0 (.ptr (0,0,2) 0 0) (.ptr (0,1,3) 0 0) (.ptr (0,2,4) 0 0) (.ptr (0,8,5) 0 0) (I l) m' fc'/\RInv 57 a L S k rl rs f v' (acc++rowR L S D k f l s n) m':=by
 intro n
 induction n with
 |zero=>
  intro s j v acc m fc hn hj hacc hI
  obtain⟨j,rfl⟩:∃i,j=i+1:=⟨j-1,by omega⟩
  have hk0:¬((s:Int)<(rs:Int)):=by omega
  have g3:=hI.g3
  refine⟨v,m,fc+4,?_,by simpa[rowR]using hI⟩
  simp only[x57]
  unfold x9f
  simp[hk0,g3]
 |succ n ih=>
  intro s j v acc m fc hn hj hacc hI
  obtain⟨j,rfl⟩:∃i,j=i+1:=⟨j-1,by omega⟩
  have hk0:(s:Int)<(rs:Int):=by omega
  obtain⟨g2,g3,g4,g5,gk⟩:=hI
  have hp:=λm=>x15l (d+2) hf (x:=l) (y:=s) (by unfold bd;omega) (by unfold bd;omega) m
  have b1:bd (shL f l s) 2100000000000000000:=sh_bd (hf.tl (by unfold bd;omega) (by unfold bd;omega)) hf.d0
  have b2:bd (shS f l s) 2100000000000000000:=sh_bd (hf.ts (by unfold bd;omega) (by unfold bd;omega)) hf.d0
  have hsm:=λm=>x161 d ha hR hk (y:=16*l+shL f l s) (x:=16*s+shS f l s) (by unfold bd at *;omega) (by unfold bd at *;omega) m
  have hS:∀m,xnu (xnt (d+4)) x2p [I (smpM L S D k (16*l+shL f l s) (16*s+shS f l s)).1,I (smpM L S D k (16*l+shL f l s) (16*s+shS f l s)).2] m=some (sPX (smpM L S D k (16*l+shL f l s) (16*s+shS f l s)),m):=λm=>w_Sample (d+3) (rnd_bd _ _) (rnd_bd _ _) m
  obtain⟨M,hM⟩:∃M:Mem,(m.new (0,fc+9,8) (.row [I 0,I 0] 0 false)).set (0,fc+9,8) (.row [I (shL f l s),I (shS f l s)] 0 false)=M:=⟨_,rfl⟩
  have fr:∀id:Id,id.2.2≠8->M.get id=m.get id:=λid h=>by
   rw[<-hM,Mem.get_set_ne (by rintro rfl;exact h rfl),Mem.get_new_ne (by rintro rfl;exact h rfl)]
  have gk1:Gk 1 pxE (okR 57) M v acc:=gk.frame λid hid=>fr id (by rw[hid.2];decide)
  have e8:M.get (0,fc+9,8)=some (.row [I (shL f l s),I (shS f l s)] 0 false):=by rw[<-hM];simp
  obtain⟨v2,m2,hA,hG2,c2,o2,hn2,hfr⟩:=gk1.app pxL (by decide) (bytes:=8) (id0:=(0,fc+37,57)) ⟨rfl,rfl⟩ (by unfold xol;omega) (pxR L S D k f l s)
  have hA':∀(k':AV->Mem->O2),sApp 1 8 (0,fc+37,57) (some ([sPX (smpM L S D k (16*l+shL f l s) (16*s+shS f l s))],1)) v M k'=k' v2 m2:=hA
  have fr2:∀id:Id,id.2.2≠8->id.2.2≠57->m2.get id=m.get id:=λid h h'=>by
   rw[hfr _ (λq=>h' q.2),fr id h]
  obtain⟨v',m',fc',e,hI'⟩:=ih (s+1) j v2 (acc++[pxR L S D k f l s]) (m2.set (0,8,5) (.row [I rl,I rs,v2] 0 false)) (fc+43) (by omega) (by omega) (by simp;omega)
   ⟨by rw[Mem.get_set_ne (by decide),fr2 _ (by decide) (by decide)];exact g2,by rw[Mem.get_set_ne (by decide),fr2 _ (by decide) (by decide)];exact g3,by rw[Mem.get_set_ne (by decide),fr2 _ (by decide) (by decide)];exact g4,by simp,hG2.frame λid hid=>Mem.get_set_ne (by rintro rfl;exact absurd hid.2 (by decide))⟩
  refine⟨v',m',fc',?_,by rw[rowR_s];simpa using hI'⟩
  rw[<-e]
  have G2:M.get (0,0,2)=some (.row [I L,I S,a] 0 false):=by rw[fr _ (by decide)];exact g2
  have G3:M.get (0,1,3)=some (.row ([I k,I rl,I rs]++f.c) 0 false):=by rw[fr _ (by decide)];exact g3
  have G5:M.get (0,8,5)=some (.row [I rl,I rs,v] 0 false):=by rw[fr _ (by decide)];exact g5
  have G5':m2.get (0,8,5)=some (.row [I rl,I rs,v] 0 false):=by rw[fr2 _ (by decide) (by decide)];exact g5
  simp only[x57]
  conv=>lhs;unfold x9f
  unfold bd at b1 b2
  simp only[Aff.c]at g3 G3 hp
  simp(disch:=omega) [g3,hk0,Aff.c,hp,xp5]
  rw[hM]
  simp(disch:=omega) [G2,G3,G5,g2,g5,e8,sIxA,asI,xvn,xnx,hsm,z_c64]
  simp only[x1an,xnz]
  simp(disch:=omega) [G2,G3,G5,g2,g5,e8,sIxA,asI,xvn,xnx,hS,z_c64]
  rw[xvi (xzr _ _) rfl rfl,el1,hA']
  simp[G5',o2,c2,tR,xoa,disj,cAp,mkM,clean,ha.clean1]
theorem l_rres0{rl rs:Nat}(hrl:rl<=64)(hrs:rs<=64):∀(n l j:Nat) (v:AV) (acc:List Px) (m:Mem) (fc:Nat),l+n=rl->n<j->acc.length<=64*l->RInv 57 a L S k rl rs f v acc m ->
 ∃v' m' fc',x38 (xnt (d+4)) hs 0 j (.ptr (0,0,2) 0 0) (.ptr (0,1,3) 0 0) (.ptr (0,2,4) 0 0) (.ptr (0,8,5) 0 0) (I l) m fc
  = x9d (xnt (d+4)) hs 0 (.ptr (0,2,4) 0 0) (.ptr (0,8,5) 0 0) m' fc'/\RInv 57 a L S k rl rs f v' (acc++allR L S D k f rs l n) m':=by
 intro n
 induction n with
 |zero=>
  intro l j v acc m fc hn hj hacc hI
  obtain⟨j,rfl⟩:∃i,j=i+1:=⟨j-1,by omega⟩
  have hk0:¬((l:Int)<(rl:Int)):=by omega
  have g3:=hI.g3
  refine⟨v,m,fc+4,?_,by simpa[allR]using hI⟩
  simp only[x38]
  unfold x9g
  simp[hk0,g3]
 |succ n ih=>
  intro l j v acc m fc hn hj hacc hI
  obtain⟨j,rfl⟩:∃i,j=i+1:=⟨j-1,by omega⟩
  have hk0:(l:Int)<(rl:Int):=by omega
  obtain⟨v1,m1,fc1,e1,hI1⟩:=l_rres1 d hs ha hR hk hf (x38 (xnt (d+4)) hs 0 j) hrl hrs l (by omega) rs 0 NN v acc m (fc+4+1) (by omega) (by rw[xo8];omega) (by omega) hI
  have hlen:(acc++rowR L S D k f l 0 rs).length<=64*(l+1):=by rw[x1a2,x101];omega
  obtain⟨v',m',fc',e,hI'⟩:=ih (l+1) j v1 _ m1 (fc1+3) (by omega) (by omega) hlen hI1
  refine⟨v',m',fc',?_,by rw[allR_s,<-x1ao];exact hI'⟩
  rw[<-e]
  have g3:=hI.g3
  simp only[x38]
  conv=>lhs;unfold x9g xge
  simp only[Aff.c]at g3
  simp[g3,hk0]
  rw[show(0:Int)=((0:Nat):Int)from rfl,e1]
  unfold x9e
  simp(disch:=omega) [xnx]
theorem x16a{rl rs:Nat}(hrl:rl<=64)(hrs:rs<=64):∃b,Sl pxE b (allR L S D k f rs 0 rl)/\∀m,xnu (xnt (d+5)) x2l [.agg [I L,I S,a],.agg ([I k,I rl,I rs]++f.c)] m=some (.agg [I rl,I rs,b],m):=by
 obtain⟨M,hM⟩:∃M:Mem,((((((⟨[],1⟩:Mem).new (0,0,2) (.row [I L,I S,a] 0 false)).new (0,1,3) (.row ([I k,I rl,I rs]++f.c) 0 false)).new (0,2,4) (.row [I 0,I 0,nilS] 0 false)).new (0,8,5) (.row [I 0,I 0,nilS] 0 false)).set (0,8,5) (.row [I rl,I rs,nilS] 0 false))=M:=⟨_,rfl⟩
 have hI:RInv 57 a L S k rl rs f nilS [] M:=⟨by rw[<-hM];simp,by rw[<-hM];simp,by rw[<-hM];simp,by rw[<-hM];simp,Gk.nil⟩
 have g3:=hI.g3
 obtain⟨v',m',fc',e,hI'⟩:=l_rres0 d [] ha hR hk hf hrl hrs rl 0 NN nilS [] M 11 (by omega) (by rw[xo8];omega) (by simp) hI
 obtain⟨v2,hfz,hv2⟩:=hI'.ends (by decide)
 rw[x19r]at hv2
 refine⟨v2,hv2,λm=>xo0 (by simp[ha.still1,Aff.c]) ?_ m⟩
 rw[xj6]
 unfold xdc x9h
 simp only[Aff.c,x1ad,x19r]at hM g3
 simp[mem0,ha.one,xq5,xny,x13u,Aff.c]
 rw[hM]
 unfold xgf
 rw[show(0:Int)=((0:Nat):Int)from rfl,e]
 unfold x9d
 have h4:=hI'.g4
 have h5:=hI'.g5
 have o:=hI'.gk.one
 simp[h4,h5,o.1,o.2,sLdP]
 exact⟨_,_,_,rfl,hfz,rfl⟩
end
end Go.Ix
namespace Go.Ix
open Go.Proofs
variable{L S L2 S2:Int}{D D2:List Px}{l:List Mp}{a:AV}
theorem shut1_at3{i:Id}{cs:List AV}{v:Nat}{h:Hp}{b:Bool}(hi:hget h i=some (.row cs v b)):hget (xrp [i] h) i=some (.row cs v true):=by
 rw[congrFun (xwp [i] h) i]
 unfold shut
 simp[hi]
theorem shut1_ne3{i j:Id}{h:Hp}(hn:j≠i):hget (xrp [i] h) j=hget h j:=by
 rw[congrFun (xwp [i] h) j]
 unfold shut
 simp[hn]
def GF5(t:Nat)(m:Mem)(v:AV)(l:List Mp):Prop:=(v=nilS/\l=[])\/∃id ver b,okR t id/\v=.sref id ver 0 l.length 5 true/\m.get id=some (.row (l.flatMap Mp.c) ver b)
theorem Gk.toF5{t:Nat}{m:Mem}{v:AV}{l:List Mp}(h:Gk 5 Mp.c (okR t) m v l):GF5 t m v l:=by
 rcases h with h|⟨id,ver,h1,h2,h3⟩
 .exact .inl h
 .exact .inr ⟨id,ver,false,h1,h2,h3⟩
theorem GF5.frame{t:Nat}{m m':Mem}{v:AV}{l:List Mp}(h:GF5 t m v l)(hm:∀id,okR t id->m'.get id=m.get id):GF5 t m' v l:=by
 rcases h with h|⟨id,ver,b,h0,h1,h2⟩
 .exact .inl h
 .exact .inr ⟨id,ver,b,h0,h1,by rw[hm _ h0];exact h2⟩
theorem GF5.frz{t k:Nat}{m:Mem}{v:AV}{l:List Mp}(h:GF5 t m v l):∃a',Pts a' l/\Go.Ix.frz m.get (k+2) v=some a':=by
 rcases h with ⟨rfl,rfl⟩|⟨id,ver,b,-,rfl,hg⟩
 .exact⟨nilS,Or.inl ⟨rfl,rfl⟩,rfl⟩
 .have hl:=xrr Mp.len l
  have:=xug (objs:=m.get) (id:=id) (cs:=l.flatMap Mp.c) (ver:=ver) (off:=0) (n:=l.length) (z:=5) (k:=k) (f:=b) (x:=true) hg (by omega) (by
   rw[x1a6,x19p (by omega)];exact xuh (λ_=>rfl) l)
  rw[x1a6,x19p (by omega)]at this
  exact⟨_,Sl.lit l false,this⟩
theorem thaw5{t:Nat}{m:Mem}{v:AV}{call:xnv}{f:FuncId}{r:AV}(hG:GF5 t m v l)(h:∀a',Pts a' l->∀m,xnu call f [a'] m=some (r,m)) :
 ∃m2,xnu call f [v] m=some (r,m2)/\m2.next=m.next/\(∀j,¬okR t j->m2.get j=m.get j)/\GF5 t m2 v l:=by
 have hG':=hG
 rcases hG with ⟨rfl,rfl⟩|⟨id,ver,b,hid,rfl,hg⟩
 .exact⟨m,h _ (Or.inl ⟨rfl,rfl⟩) m,rfl,λ_ _=>rfl,hG'⟩
 obtain⟨a',ha',hz⟩:=hG'.frz (k:=4)
 have h1:=h a' ha' m
 have hl:=xrr Mp.len l
 have hst:(l.flatMap Mp.c).all still1=true:=xuh (λ_=>rfl) l
 have hr:[AV.sref id ver 0 l.length 5 true].flatMap (xo2 m.get deep)=[id]:=by
  have e:xo2 m.get deep (.sref id ver 0 l.length 5 true)=[id]:=by
   show(match m.get id with|some (.row cs _ _)=>id::((cs.drop 0).take (l.length*5)).flatMap (xo2 m.get 5)|_=>[id])=_
   rw[hg]
   show id::(((l.flatMap Mp.c).drop 0).take (l.length*5)).flatMap (xo2 m.get 5)=_
   rw[x1a6,x19p (by omega)]
   have:(l.flatMap Mp.c).flatMap (xo2 m.get 5)=[]:=by
    rw[x1bg]
    exact λa ha=>xwu m.get 4 (x197.mp hst a ha)
   rw[this]
  rw[x19b,List.flatMap_nil,e,x1b9]
 have hm1:[a'].mapM (Go.Ix.frz m.get deep)=some [a']:=xz6 _ (by simp[ha'.still])
 have hm2:[AV.sref id ver 0 l.length 5 true].mapM (Go.Ix.frz m.get deep)=some [a']:=by
  have hz':Go.Ix.frz m.get deep (.sref id ver 0 l.length 5 true)=some a':=hz
  simp only[x1a9,x1b4,hz'];rfl
 refine⟨⟨xrp [id] m.hp,m.next⟩,?_,rfl,λj hj=>shut1_ne3 (by rintro rfl;exact hj hid),.inr ⟨id,ver,true,hid,rfl,shut1_at3 hg⟩⟩
 unfold xnu at h1 ⊢
 rw[hm1]at h1
 rw[hm2,hr]
 dsimp only at h1 ⊢
 cases hc:call [] f [a'] mem0 with
 |none=>rw[hc]at h1;cases h1
 |some p=>
  rw[hc]at h1
  dsimp only at h1 ⊢
  cases hf:Go.Ix.frz p.2.get deep p.1 with
  |none=>rw[hf]at h1;cases h1
  |some r0=>
   rw[hf]at h1
   have:=congrArg Prod.fst (x1ap h1)
   dsimp only at this
   subst this
   rfl
theorem l_reg(call:xnv)(hs:FHs){x t2 t3 t6 t7:AV}{ks:List Int}(hk:Ints x ks)(ha:Pts a l)(hks:ks.length<=1000)(hin:∀i∈ks,0<=i/\i<l.length)(m0:Mem)(Q:O2->Prop)(hok:∀v m fc,Gk 5 Mp.c (okR 49) m v (selP l ks)->m.next=m0.next->(∀j,¬okR 49 j->m.get j=m0.get j)->Q (x5z call hs 0 t2 t3 t6 t7 v m fc)) :
 ∀(suf:List Int) (k j:Nat) (v:AV) (acc:List Mp) (m:Mem) (fc:Nat),ks.drop k=suf->suf.length<j->acc.length<=k->acc++selP l suf=selP l ks->Gk 5 Mp.c (okR 49) m v acc->m.next=m0.next->(∀j,¬okR 49 j->m.get j=m0.get j) ->
 Q (x4o call hs 0 j t2 t3 t6 t7 a v x (I ks.length) (I k) m fc):=by
 intro suf
 induction suf with
 |nil=>
  intro k j v acc m fc hd hj hac hsel hG hn hf
  obtain⟨j,rfl⟩:∃i,j=i+1:=⟨j-1,by simp at hj;omega⟩
  have hk':¬((k:Int)<(ks.length:Int)):=by have:=x19k.mp hd;omega
  rw[selP,x1b9]at hsel
  simp only[x4o]
  unfold x82
  simp only[xou,hk',x1a8,xnz,xpj]
  exact hok v m _ (hsel▸hG) hn hf
 |cons e r ih=>
  intro k j v acc m fc hd hj hac hsel hG hn hf
  obtain⟨j,rfl⟩:∃i,j=i+1:=⟨j-1,by simp at hj;omega⟩
  obtain⟨hkl,he,hd1⟩:=xpe hd
  have hk':(k:Int)<(ks.length:Int):=by omega
  have ix:=hk.ix xtk hkl
  have ld:∀m,sLd false 1 (.plit ((ks.drop k).flatMap intE)) m=some (I e):=λm=>by rw[xp2 hkl,x19b,he];rfl
  obtain⟨i,rfl,hi⟩:∃i:Nat,e=i/\i<l.length:=by
   have:=hin e (he▸x19j hkl)
   exact⟨e.toNat,by omega,by omega⟩
  have ixp:=ha.ix Mp.len hi
  have ldp:=λm=>xtj (m:=m) Mp.len (by omega) hi
  have hw:w64 ((k:Int)+1)=((k+1:Nat):Int):=by rw[xnx (by omega) (by omega)];omega
  obtain⟨v1,m1,A,G1,c1,c2,n1,f1⟩:=hG.app (bytes:=40) (id0:=(0,fc+10,49)) Mp.len (by omega) ⟨rfl,rfl⟩ (by unfold xol;omega) l[i]
  have hlit:∀(m:Mem) (K:AV->Mem->O2),xp1 xr [(0,5,.agg (Mp.c l[i]))] 1 5 (0,fc+9,48) m K=K (.slit (Mp.c l[i]) 1 true) m:=λm K=>by rw[z_mpt];exact xy0
  have hel:∀M:Mem,elems M.get 5 (.slit (Mp.c l[i]) 1 true)=some (Mp.c l[i],1):=λ_=>rfl
  have hsi:selP l ((i:Int)::r)=l[i]::selP l r:=by
   rw[selP,x1ax,x19g hi];rfl
  simp only[x4o]
  unfold x82
  simp only[xou,hk',x19d,xnz,xot,ix,ld,ixp,ldp,hlit,hel,A,xws,hw]
  exact ih (k+1) j v1 (acc++[l[i]]) m1 _ hd1 (by simp at hj;omega) (by simp;omega) (by rw[<-hsel,hsi,x1ao];rfl) G1 (n1.trans hn) (λj hj=>(f1 j hj).trans (hf j hj))
end Go.Ix
