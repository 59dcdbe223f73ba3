import Derived.Test.YtifmaegopmkaoaaGreatWg10
import Derived.Test.YtifmaegopmkaoaaGreatWg4
import Derived.Test.YtifmaegopmkaoaaGreatWg15
import Derived.Test.YtifmaegopmkaoaaGreatWg17
set_option linter.unusedSimpArgs false
set_option linter.unusedVariables false
namespace Go.Ix
open Go.Proofs
attribute [local simp high] rd_5
variable{a:AV}{l:List Mp}
end Go.Ix
set_option exponentiation.threshold 3000
namespace Go.Ix
open Go.Proofs Ieee
variable{a b:AV}{D D2:List Px}{L S L2 S2:Int}
theorem w_LPair(d:Nat)(L S L2 S2:Int){l r:List Nat}(ha:Sl f32E a l)(hb:Sl f32E b r)(hl:l.length<=1048576)(hl2:r.length<=1048576):∃p q,Sl pxE p (prsM l)/\Sl pxE q (prsM r)/\∀m,xeq (xep (d+3)) xr [.agg [I L,I S,a,I L2,I S2,b]] m=some (.agg [I L,I S,p,I L2,I S2,q],m):=by
 obtain⟨p,hp,ep⟩:=xry d L S ha hl
 obtain⟨q,hq,eq⟩:=xry d L2 S2 hb hl2
 refine⟨p,q,hp,hq,λm=>xez (by simp[ha.still1,hb.still1]) ?_ m⟩
 rw[xb4]
 unfold x7s x54
 simp[mem0,ha.one,hb.one,xmk,xew,ep,eq,xoq,hp.one,hq.one,cAp,tR,mkM,clean,ha.clean1,hb.clean1,sLdP,show Nat.blt 0 1=true from rfl]
 exact RetF.st (by simp[hp.still1,hq.still1]) rfl
theorem w_both(d:Nat)(L S L2 S2:Int){l r:List Nat}(ha:Sl f32E a l)(hb:Sl f32E b r)(m:Mem):xeq (xep (d+2)) x27 [.agg [I L,I S,a,I L2,I S2,b]] m=some (B (decide (l.length<=200)&&decide (r.length<=200)),m):=by
 have s1:=λm=>xrz d L S ha m
 have s2:=λm=>xrz d L2 S2 hb m
 refine xez (by simp[ha.still1,hb.still1]) ?_ m
 rw[xb3]
 unfold x7r x53
 by_cases c:l.length<=200
 .simp[mem0,ha.one,hb.one,s1,s2,c]
  exact RetF.st rfl rfl
 .simp[mem0,ha.one,hb.one,s1,s2,c]
  exact RetF.st rfl rfl
end Go.Ix
set_option maxRecDepth 10000
namespace Go.Ix
open Go.Proofs
variable{a b:AV}{D D2:List Px}{L S L2 S2:Int}
theorem th_low{n e:Int}(h0:0<=n)(he:0<e):thM (lowN n e).1 (lowN n e).2=thM n e:=by
 obtain⟨g,hg,q1,q2,-⟩:=xjm h0 he
 unfold thM
 generalize (lowN n e).1=x at *
 generalize (lowN n e).2=y at *
 subst q1 q2
 rw[xz1,Int.mul_ediv_mul_of_pos _ _ hg]
theorem cmp_th{n e lst:Int}(he:0<e):0<=cmpI (n*1000) (lst*e)↔lst<=thM n e:=by
 rw[cmpI_ge]
 unfold thM
 rw[Int.le_ediv_iff_mul_le he]
structure ORv (pr tk:List AV) (v:AV) (acc:List Mp) (m:Mem):Prop where
 g2:m.get (0,0,2)=some (.row pr 0 false)
 g3:m.get (0,1,3)=some (.row tk 0 false)
 gk:Gk 5 Mp.c (okR 75) m v acc
 nx:m.next=1
section
variable(d:Nat)(hs:FHs)(ha:Sl pxE a D)(hR:RtI L S D)(hb:Sl pxE b D2)(hR2:RtI L2 S2 D2){z w:Nat}(hz:1<=z/\z<=8)(hw:1<=w/\w<=8){st R lst t:Int}(hr:0<=R/\R<=4)(hlst:0<=lst/\lst<=1000){x:AV}{ps:List (Nat×Nat)}(hx:Sl (wnE z w) x ps)(hpl:ps.length<=30)(hpi:∀q∈ps,(q.1:Int)+z<=L/\(q.2:Int)+w<=S)
include ha hR hb hR2 hz hw hr hlst hx hpl hpi
theorem l_roff:∀(suf:List (Nat×Nat)) (k j:Nat) (v:AV) (acc:List Mp) (m:Mem) (fc:Nat),ps.drop k=suf->suf.length<j->acc.length<=k->ORv [I L,I S,a,I L2,I S2,b] [I z,I w,I st,I R,I lst,I t] v acc m ->
 ∃v' m',x13 (xep (d+5)) hs 0 j (.ptr (0,0,2) 0 0) (.ptr (0,1,3) 0 0) x v (I k) m fc
  = some (.tup [v',I 0],m')/\Gk 5 Mp.c (okR 75) m' v' (acc++ptsM L S D L2 S2 D2 z w R lst suf):=by
 have hL:=wi_t hR.l
 have hS:=wi_t hR.s
 have e1:sLen Tryz.prog xa x=some (I ps.length):=hx.len xhb
 intro suf
 induction suf with
 |nil=>
  intro k j v acc m fc hd hj hacc hI
  obtain⟨j,rfl⟩:∃i,j=i+1:=⟨j-1,by omega⟩
  have hk:=xxn.mp hd
  have c:¬((k:Int)<(ps.length:Int)):=by omega
  refine⟨v,m,?_,by simpa[ptsM]using hI.gk⟩
  simp only[x13]
  unfold x42 x9j
  simp[e1,c]
 |cons q suf ih=>
  intro k j v acc m fc hd hj hacc hI
  obtain⟨j,rfl⟩:∃i,j=i+1:=⟨j-1,by simp at hj;omega⟩
  have hk:k<ps.length:=by
   rcases xwq k ps.length with h|h
   .exact h
   .rw[xxn.mpr h]at hd;cases hd
  have c:(k:Int)<(ps.length:Int):=by omega
  have hq:=hpi q (xze (by rw[hd];exact xwg))
  have i1:sIx 4 x (I k)=_:=hx.ix (wnL z w) hk
  rw[hd,xwy]at i1
  simp only[wnE,xy2,xy3]at i1
  have hd2:ps.drop (k+1)=suf:=by rw[<-xzp,hd];rfl
  obtain⟨g2,g3,gk,nx⟩:=hI
  obtain⟨o,ho,eo⟩:=w_rBest (L:=L) (S:=S) (L2:=L2) (S2:=S2) d ha hR hb hR2 hz hw (x:=(q.1:Int)) (y:=(q.2:Int)) (R:=R) (by omega) (by omega) hr
  have hbs:=bsO_eq ho
  have hw1:w64 ((k:Int)+1)=((k+1:Nat):Int):=by rw[xet (by omega) (by omega)];omega
  have e64:ptsM L S D L2 S2 D2 z w R lst (q::suf)=ptO z w lst q o++ptsM L S D L2 S2 D2 z w R lst suf:=by
   unfold ptsM;rw[xwy,hbs]
  rw[e64]
  obtain⟨b0,b1,s0,s1,hby,hlo⟩:∃b0 b1 s0 s1:Int,byO o=[I b0,I b1]/\loO o=[I s0,I s1]:=by
   cases o with
   |none=>exact⟨0,0,0,0,rfl,rfl⟩
   |some f=>exact⟨_,_,_,_,rfl,rfl⟩
  rw[hby,hlo]at eo
  obtain⟨M,hM⟩:∃M:Mem,((((m.new (0,fc+4+12,10) (.row [I 0,I 0] 0 false)).new (0,fc+4+13,11) (.row [I 0,I 0] 0 false)).set (0,fc+4+12,10) (.row [I b0,I b1] 0 false)).set (0,fc+4+13,11) (.row [I s0,I s1] 0 false))=M:=⟨_,rfl⟩
  have G2:M.get (0,0,2)=some (.row [I L,I S,a,I L2,I S2,b] 0 false):=by rw[<-hM];simpa using g2
  have G3:M.get (0,1,3)=some (.row [I z,I w,I st,I R,I lst,I t] 0 false):=by rw[<-hM];simpa using g3
  have G10:M.get (0,fc+4+12,10)=some (.row [I b0,I b1] 0 false):=by rw[<-hM];simp
  have G11:M.get (0,fc+4+13,11)=some (.row [I s0,I s1] 0 false):=by rw[<-hM];simp
  have GN:M.next=1:=by rw[<-hM];exact nx
  have GK:Gk 5 Mp.c (okR 75) M v acc:=gk.frame λid hid=>by rw[<-hM,Mem.get_set_ne (by rintro rfl;exact absurd hid.2 (by simp)),Mem.get_set_ne (by rintro rfl;exact absurd hid.2 (by simp)),Mem.get_new,if_neg (by rintro rfl;exact absurd hid.2 (by simp)),Mem.get_new,if_neg (by rintro rfl;exact absurd hid.2 (by simp))]
  have hout:(∀f,o=some f->thM f.n f.e<lst)->∃v' m',x13 (xep (d+5)) hs 0 (j+1) (.ptr (0,0,2) 0 0) (.ptr (0,1,3) 0 0) x v (I k) m fc
   = some (.tup [v',I 0],m')/\Gk 5 Mp.c (okR 75) m' v' (acc++(ptO z w lst q o++ptsM L S D L2 S2 D2 z w R lst suf)):=by
   intro hno
   obtain⟨v',m',e,hG⟩:=ih (k+1) j v acc M (fc+4+28+3) hd2 (by simp at hj;omega) (by omega) ⟨G2,G3,GK,GN⟩
   have hp:ptO z w lst q o=[]:=by
    cases o with
    |none=>rfl
    |some f=>unfold ptO;dsimp only;rw[if_pos (hno f rfl)]
   refine⟨v',m',?_,by rw[hp];simpa using hG⟩
   rw[<-e]
   simp only[x13]
   conv=>lhs;unfold x42 x5a
   cases o with
   |none=>
    simp only[Option.isSome]at eo
    simp[e1,c,i1,xg0,xew,g2,g3,eo,nx,ha.one,hb.one,hM,G3,G11,cAp,mkM,tR,tS,xfo,disj,clean,ha.clean1,hb.clean1,show Nat.blt 0 1=true from rfl]
    unfold x37
    simp[hw1]
   |some f=>
    obtain⟨f0,f1,f2,f3,-⟩:=xiv hR hR2 hz.2 hw.2 (Best.hs ho)
    obtain⟨_,_,_,_,l0,l1,l2,l3⟩:=xjm f0 f1
    simp only[loO,xym,and_true]at hlo
    have h0:s0=(lowN f.n f.e).1:=by have:=hlo.1;cases this;rfl
    have h1:s1=(lowN f.n f.e).2:=by have:=hlo.2;cases this;rfl
    have hc:=λm=>xmq (d+3) (n:=s0) (e:=s1) (m:=lst) (k:=1000) (by omega) (by omega) (by omega) (by omega) m
    have c2:¬0<=cmpI (s0*1000) (lst*s1):=by
     rw[cmp_th (by omega),h0,h1,th_low f0 f1]
     have:=hno f rfl
     omega
    simp only[Option.isSome]at eo
    simp[e1,c,i1,xg0,xew,g2,g3,eo,nx,ha.one,hb.one,hM,G3,G11,sIxA,asI,hc,c2,cAp,mkM,tR,tS,xfo,disj,clean,ha.clean1,hb.clean1,show Nat.blt 0 1=true from rfl]
    unfold x37
    simp[hw1]
  cases o with
  |none=>exact hout λf h=>by cases h
  |some f=>
   by_cases cl:thM f.n f.e<lst
   .exact hout λg h=>by cases h;exact cl
   clear hout
   obtain⟨f0,f1,f2,f3,-⟩:=xiv hR hR2 hz.2 hw.2 (Best.hs ho)
   obtain⟨_,_,_,_,l0,l1,l2,l3⟩:=xjm f0 f1
   obtain⟨-,-,-,-,-,l4⟩:=low_ok f0 f1 (by omega) (by omega)
   have l4:=l4 f2
   simp only[loO,byO,xym,and_true]at hlo hby
   have h0:s0=(lowN f.n f.e).1:=by have:=hlo.1;cases this;rfl
   have h1:s1=(lowN f.n f.e).2:=by have:=hlo.2;cases this;rfl
   have h2:b0=f.p:=by have:=hby.1;cases this;rfl
   have h3:b1=f.q:=by have:=hby.2;cases this;rfl
   have hth:=xli f0 f2 f1
   have hlow:=th_low f0 f1
   rw[<-h0,<-h1]at hlow
   have hc:=λm=>xmq (d+3) (n:=s0) (e:=s1) (m:=lst) (k:=1000) (by omega) (by omega) (by omega) (by omega) m
   have c2:0<=cmpI (s0*1000) (lst*s1):=by
    rw[cmp_th (by omega),hlow]
    omega
   have th:=λm=>w_rthou (d+2) (n:=s0) (e:=s1) (by omega) (by omega) (by omega) (by omega) m
   rw[hlow]at th
   have hz2:w64 ((z:Int).tdiv 2)=((z / 2:Nat):Int):=by rw[show(z:Int).tdiv 2=((z / 2:Nat):Int)from rfl];exact xet (by omega) (by omega)
   have hw2:w64 ((w:Int).tdiv 2)=((w / 2:Nat):Int):=by rw[show(w:Int).tdiv 2=((w / 2:Nat):Int)from rfl];exact xet (by omega) (by omega)
   have hz3:w64 ((q.1:Int)+((z / 2:Nat):Int))=((q.1+z / 2:Nat):Int):=by rw[xet (by omega) (by omega)];omega
   have hw3:w64 ((q.2:Int)+((w / 2:Nat):Int))=((q.2+w / 2:Nat):Int):=by rw[xet (by omega) (by omega)];omega
   have qz:=xio (x:=(z:Int)) (y:=2) (by decide)
   have qw:=xio (x:=(w:Int)) (y:=2) (by decide)
   rw[hz2]at qz
   rw[hw2]at qw
   simp only[Option.isSome]at eo
   have hpt:ptO z w lst q (some f)=[⟨((q.1+z / 2:Nat):Int),((q.2+w / 2:Nat):Int),f.p,f.q,thM f.n f.e⟩]:=by unfold ptO;dsimp only;rw[if_neg cl]
   rw[hpt,<-h2,<-h3]
   obtain⟨v2,m2,hA,hG2,c2',o2,hn2,hfr⟩:=GK.app Mp.len (by decide) (bytes:=40) (id0:=(0,fc+4+52,75)) ⟨rfl,rfl⟩ (by unfold xf8;omega) (⟨((q.1+z / 2:Nat):Int),((q.2+w / 2:Nat):Int),b0,b1,thM f.n f.e⟩:Mp)
   have hA':∀(k':AV->Mem->O2),sApp 5 40 (0,fc+4+52,75) (some ([I ((q.1+z / 2:Nat):Int),I ((q.2+w / 2:Nat):Int),I b0,I b1,I (thM f.n f.e)],1)) v M k'=k' v2 m2:=hA
   have fr2:∀id:Id,id.2.2≠75->m2.get id=M.get id:=λid h'=>hfr _ (λq=>h' q.2)
   obtain⟨v',m',e,hG⟩:=ih (k+1) j v2 _ m2 (fc+4+54+3) hd2 (by simp at hj;omega) (by simp;omega) ⟨(fr2 _ (by decide)).trans G2,(fr2 _ (by decide)).trans G3,hG2,by omega⟩
   refine⟨v',m',?_,by simpa[xzi]using hG⟩
   rw[<-e]
   generalize q.1+z / 2=X at *
   generalize q.2+w / 2=Y at *
   generalize z / 2=Z at *
   generalize w / 2=W at *
   simp only[x13]
   conv=>lhs;unfold x42 x5a
   simp[e1,c,i1,xg0,xew,g2,g3,eo,nx,ha.one,hb.one,hM,G3,G10,G11,GN,sIxA,asI,hc,c2,th,qz,qw,hz3,hw3,z_mpt,xsm,cAp,mkM,tR,tS,xfo,disj,clean,ha.clean1,hb.clean1,show Nat.blt 0 1=true from rfl]
   rw[xsg,el_p5,hA']
   unfold x37
   simp[hw1,GN,show Nat.blt 0 1=true from rfl]
end
theorem w_rOff(d:Nat){z w st:Nat}(ha:Sl pxE a D)(hR:RtI L S D)(hb:Sl pxE b D2)(hR2:RtI L2 S2 D2){r l t:Int}(ck:tkE z w st r l t=0):∃x,Pts x (if 30<(xfi L S z w st).length then[]else ptsM L S D L2 S2 D2 z w r l (xfi L S z w st)) /\
 ∀m,xeq (xep (d+6)) x29 [.agg [I L,I S,a,I L2,I S2,b],.agg [I z,I w,I st,I r,I l,I t]] m
  = some (.tup [x,I (if 30<(xfi L S z w st).length then 8 else 0)],m):=by
 obtain⟨hz,hw,hst,hr,hlst,-⟩:=tkE_0 ck
 obtain⟨x,hx,we⟩:=xsi (L:=L) (S:=S) (L2:=L2) (S2:=S2) (z:=z) (w:=w) (st:=st) (d+4) (by omega) (by omega) (by omega) ha hR hb r l t
 by_cases cn:30<(xfi L S z w st).length
 .simp only[if_pos cn]at hx we ⊢
  refine⟨nilS,Or.inl ⟨rfl,rfl⟩,λm=>xez (by simp[ha.still1,hb.still1]) ?_ m⟩
  rw[xar]
  unfold x4w x43
  simp[mem0,ha.one,hb.one,we]
  exact RetF.tup rfl rfl
 .simp only[if_neg cn]at hx we ⊢
  obtain⟨M,hM⟩:∃M:Mem,((⟨[],1⟩:Mem).new (0,0,2) (.row [I L,I S,a,I L2,I S2,b] 0 false)).new (0,1,3) (.row [I z,I w,I st,I r,I l,I t] 0 false)=M:=⟨_,rfl⟩
  have hI:ORv [I L,I S,a,I L2,I S2,b] [I z,I w,I st,I r,I l,I t] nilS [] M:=⟨by rw[<-hM];simp,by rw[<-hM];simp,Gk.nil,by rw[<-hM];rfl⟩
  obtain⟨v',m',e,hG⟩:=l_roff d [] ha hR hb hR2 (by omega) (by omega) hr hlst hx (by omega) (λq hq=>xox hq) (xfi L S z w st) 0 NN nilS [] M (15+1) rfl (by rw[xfm];omega) (by simp) hI
  obtain⟨x',hx',hfz⟩:=hG.frz (k:=3) Mp.len Mp.still
  refine⟨x',by simpa using hx',λm=>xez (by simp[ha.still1,hb.still1]) ?_ m⟩
  rw[xar]
  unfold x4w x43 x9k
  simp[mem0,ha.one,hb.one,we]
  rw[hM]
  rw[show(I ((0:Nat):Int))=I 0 from rfl]at e
  rw[e]
  exact RetF.mk (xo5 hfz rfl) rfl
end Go.Ix
namespace Go.Ix
open Go.Proofs
variable{a b:AV}{D D2:List Px}{L S L2 S2:Int}
theorem w_WinE(d:Nat)(ha:Sl pxE a D)(hl:D.length<=5000)(hb:Sl pxE b D2)(hl2:D2.length<=5000)(z w s r l t:Int)(he:ptE L S D L2 S2 D2 z w s r l t≠0)(m:Mem):xeq (xep (d+10)) x1c [.agg [I L,I S,a,I L2,I S2,b],.agg [I z,I w,I s,I r,I l,I t]] m
 = some (.tup [nilS,I (ptE L S D L2 S2 D2 z w s r l t)],m):=by
 have we:=λm=>xsj (L:=L) (S:=S) (L2:=L2) (S2:=S2) d ha hl hb hl2 z w s r l t he m
 refine xez (by simp[ha.still1,hb.still1]) ?_ m
 rw[xap]
 unfold x4u x3u
 simp[mem0,ha.one,hb.one,we,xgh,xew]
 exact RetF.tup rfl rfl
theorem w_WinO(d:Nat)(ha:Sl pxE a D)(hl:D.length<=5000)(hb:Sl pxE b D2)(hl2:D2.length<=5000){z w st:Nat}{r l t:Int}(he:ptE L S D L2 S2 D2 z w st r l t=0):∃x,Sl (wnE z w) x (if 30<(xfi L S z w st).length then[]else xfi L S z w st) /\
 ∀m,xeq (xep (d+10)) x1c [.agg [I L,I S,a,I L2,I S2,b],.agg [I z,I w,I st,I r,I l,I t]] m
  = some (.tup [x,I (if 30<(xfi L S z w st).length then 8 else 0)],m):=by
 obtain⟨x,hx,we⟩:=xsk (L:=L) (S:=S) (L2:=L2) (S2:=S2) d ha hl hb hl2 he
 refine⟨x,hx,λm=>xez (by simp[ha.still1,hb.still1]) ?_ m⟩
 rw[xap]
 unfold x4u x3u
 by_cases cn:30<(xfi L S z w st).length
 .simp only[if_pos cn]at we ⊢
  simp[mem0,ha.one,hb.one,we,xgh,xew]
  exact RetF.tup (by simp[hx.still]) rfl
 .simp only[if_neg cn]at we ⊢
  simp[mem0,ha.one,hb.one,we,xgh,xew]
  exact RetF.tup (by simp[hx.still]) rfl
theorem l_tk(z w:Nat){x x':AV}{ps:List (Nat×Nat)}(hx:Sl (wnE z w) x ps)(hx':Sl (wnE z w) x' ps)(hpl:ps.length<=30)(t3 t5 t8 t9:AV)(m:Mem):∀(suf:List (Nat×Nat)) (k j fc:Nat),ps.drop k=suf->suf.length<j ->
 ∃fc',x31 (xep 30) [] 0 j t3 t5 x t8 t9 x' (I k) m fc=x4z (xep 30) [] 0 t3 t5 t8 t9 m fc':=by
 have e1:sLen Tryz.prog xa x=some (I ps.length):=hx.len xhb
 intro suf
 induction suf with
 |nil=>
  intro k j fc hd hj
  obtain⟨j,rfl⟩:∃i,j=i+1:=⟨j-1,by omega⟩
  have hk:=xxn.mp hd
  have c:¬((k:Int)<(ps.length:Int)):=by omega
  refine⟨fc+4,?_⟩
  simp only[x31]
  unfold x50
  simp[e1,c]
 |cons q suf ih=>
  intro k j fc hd hj
  obtain⟨j,rfl⟩:∃i,j=i+1:=⟨j-1,by simp at hj;omega⟩
  have hk:k<ps.length:=by
   rcases xwq k ps.length with h|h
   .exact h
   .rw[xxn.mpr h]at hd;cases hd
  have c:(k:Int)<(ps.length:Int):=by omega
  have i1:sIx 4 x (I k)=_:=hx.ix (wnL z w) hk
  have i2:sIx 4 x' (I k)=_:=hx'.ix (wnL z w) hk
  rw[hd,xwy]at i1 i2
  have hd2:ps.drop (k+1)=suf:=by rw[<-xzp,hd];rfl
  simp only[wnE,xy2,xy3]at i1 i2
  obtain⟨fc',e⟩:=ih (k+1) j (fc+16) hd2 (by simp at hj;omega)
  refine⟨fc',?_⟩
  rw[<-e]
  simp only[x31]
  conv=>lhs;unfold x50
  simp[e1,c,i1,i2,ne_win]
  rw[xet (by omega) (by omega)]
theorem law_MatchTasks(L S:Int){l r:List Nat}(ha:Sl f32E a l)(L2 S2:Int)(hb:Sl f32E b r)(z w s R lst t:Int):∃m',xep 31 [] x3o [.agg [I L,I S,a,I L2,I S2,b],.agg [I z,I w,I s,I R,I lst,I t]] mem0=some (B true,m'):=by
 rw[xb2]
 unfold x7q x51
 have bo:=λm=>w_both 28 L S L2 S2 ha hb m
 by_cases cl:l.length<=200
 rotate_left
 .simp[mem0,ha.one,hb.one,xl7,bo,cl]
 by_cases cr:r.length<=200
 rotate_left
 .simp[mem0,ha.one,hb.one,xl7,bo,cl,cr]
 obtain⟨u,v,hu,hv,ep⟩:=w_LPair 27 L S L2 S2 ha hb (by omega) (by omega)
 have hD:=xon l
 have hD2:=xon r
 have c1:=λm=>xov 27 z w s R lst t m
 have c2:=λm=>xuc 28 z w s R lst t m
 have pe:=λm=>xu9 (L:=L) (S:=S) (L2:=L2) (S2:=S2) 24 hu (by omega) hv (by omega) m
 have n0:sLen Tryz.prog xa nilS=some (I 0):=Sl.len (l:=([]:List (Nat×Nat))) (enc:=wnE 0 0) xhb (Or.inl ⟨rfl,rfl⟩)
 have n1:sLen Tryz.prog xh nilS=some (I 0):=Sl.len (l:=([]:List Mp)) (enc:=Mp.c) xk6 (Or.inl ⟨rfl,rfl⟩)
 by_cases c:ptE L S (prsM l) L2 S2 (prsM r) z w s R lst t=0
 rotate_left
 .have we:=λm=>w_WinE (L:=L) (S:=S) (L2:=L2) (S2:=S2) 20 hu (by omega) hv (by omega) z w s R lst t c m
  have oe:=λm=>w_OffE (L:=L) (S:=S) (L2:=L2) (S2:=S2) 20 hu (by omega) hv (by omega) z w s R lst t c m
  simp[mem0,ha.one,hb.one,hu.one,hv.one,xl7,bo,cl,cr,ep,we,oe,c1,c2,pe,xmk,xew,cAp,tR,mkM,clean,ha.clean1,hb.clean1,hu.clean1,hv.clean1,xfo,disj,show Nat.blt 0 1=true from rfl]
  unfold x3t
  unfold ptE at c ⊢
  by_cases c3:prE L S (prsM l) L2 S2 (prsM r)=0
  .rw[if_pos c3]at c ⊢
   simp[c3,c2]
   unfold x1y x32 x1x
   simp[c,n0,n1,xet]
  .rw[if_neg c3]
   simp[c3]
   unfold x1y x32 x1x
   simp[c3,n0,n1,xet]
 obtain⟨cp,ck⟩:=ptE_0 c
 have hR:=imE_0 (prE_0 cp).1
 have hR2:=imE_0 (prE_0 cp).2
 obtain⟨hz,hw,hst,hr,-⟩:=tkE_0 ck
 obtain⟨zn,rfl⟩:∃n:Nat,z=n:=⟨z.toNat,by omega⟩
 obtain⟨wn,rfl⟩:∃n:Nat,w=n:=⟨w.toNat,by omega⟩
 obtain⟨st,rfl⟩:∃n:Nat,s=n:=⟨s.toNat,by omega⟩
 obtain⟨x,hx,we⟩:=w_WinO (L:=L) (S:=S) (L2:=L2) (S2:=S2) 20 hu (by omega) hv (by omega) c
 obtain⟨o,ho,oe⟩:=w_OffO (L:=L) (S:=S) (L2:=L2) (S2:=S2) 20 hu (by omega) hv (by omega) c
 obtain⟨x',hx',we'⟩:=xsi (L:=L) (S:=S) (L2:=L2) (S2:=S2) (z:=zn) (w:=wn) (st:=st) 29 (by omega) (by omega) (by omega) hu hR hv R lst t
 obtain⟨o',ho',oe'⟩:=w_rOff (L:=L) (S:=S) (L2:=L2) (S2:=S2) (z:=zn) (w:=wn) (st:=st) 24 hu hR hv hR2 ck
 by_cases cn:30<(xfi L S zn wn st).length
 .simp only[if_pos cn]at hx hx' ho ho' we we' oe oe'
  have m0:sLen Tryz.prog xa x=some (I 0):=hx.len xhb
  have m1:sLen Tryz.prog xh o=some (I 0):=ho.len xk6
  simp[mem0,ha.one,hb.one,hu.one,hv.one,xl7,bo,cl,cr,ep,we,oe,c1,c2,pe,xmk,xew,cAp,tR,mkM,clean,ha.clean1,hb.clean1,hu.clean1,hv.clean1,xfo,disj,show Nat.blt 0 1=true from rfl]
  unfold x3t
  simp[cp,c2,ck]
  unfold x1y x32 x1x
  simp[we',m0,m1,xet]
 .simp only[if_neg cn]at hx hx' ho ho' we we' oe oe'
  have m0:sLen Tryz.prog xa x=some (I _):=hx.len xhb
  have m1:sLen Tryz.prog xa x'=some (I _):=hx'.len xhb
  have hpl:=xsl (L:=L) (S:=S) (D:=prsM l) (L2:=L2) (S2:=S2) (D2:=prsM r) (z:=zn) (w:=wn) (R:=R) (lst:=lst) (xfi L S zn wn st)
  have pts:=λm=>w_rPoints 29 ho ho' (by omega) m
  simp[mem0,ha.one,hb.one,hu.one,hv.one,xl7,bo,cl,cr,ep,we,oe,c1,c2,pe,xmk,xew,cAp,tR,mkM,clean,ha.clean1,hb.clean1,hu.clean1,hv.clean1,xfo,disj,show Nat.blt 0 1=true from rfl]
  unfold x3t
  simp[cp,c2,ck]
  unfold x1y x32 x1x
  simp[we',m0,m1]
  unfold x9f
  obtain⟨fc',e⟩:=l_tk zn wn hx hx' (by omega) (.ptr (0,1,3) 0 0) (.ptr (0,10,5) 0 0) o (I 0) ((((((⟨[],1⟩:Mem).new (0,0,2) (.row [I L,I S,a,I L2,I S2,b] 0 false)).new (0,1,3) (.row [I zn,I wn,I st,I R,I lst,I t] 0 false)).new (0,10,5) (.row [I 0,I 0,nilS,I 0,I 0,nilS] 0 false)).set (0,10,5) (.row [I L,I S,u,I L2,I S2,v] 0 false))) (xfi L S zn wn st) 0 NN (65+1) rfl (by rw[xfm];omega)
  rw[show(I 0:AV)=I ((0:Nat):Int)from rfl]at e ⊢
  rw[e]
  unfold x4z
  simp[oe',pts,hu.one,hv.one]
end Go.Ix
