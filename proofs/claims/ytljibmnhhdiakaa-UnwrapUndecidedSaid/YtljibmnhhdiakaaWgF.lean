import Derived.Test.YtljibmnhhdiakaaWConcat
import Derived.Test.YtljibmnhhdiakaaWAlong
import Derived.Test.YtljibmnhhdiakaaWEq
import Derived.Test.YtljibmnhhdiakaaWAwake5
set_option linter.unusedSimpArgs false
set_option linter.unusedVariables false
namespace Go.Ix
open Go.Proofs
def x1uu(l:List Int):Int:=bif l.any (fun x=>!(wi x 0 1000))then 2 else 0
def x1rq(r c:Int)(ph ac dn:List Int):Int:=
 bif !decide (x1td r c ph.length=0)then x1td r c ph.length
 else bif decide (144<(ph.length:Int))then 8
 else bif !decide (x1st isW ph=0)then x1st isW ph
 else bif !decide ((ac.length:Int)=r*(c-1))||!decide ((dn.length:Int)=(r-1)*c)then 10
 else x1uu (ac++dn)
theorem x22y(x:Int)(r:List Int):x1uu (x::r)=bif !(wi x 0 1000)then 2 else x1uu r:=by
 unfold x1uu
 rw[List.any_cons]
 cases wi x 0 1000<;>rfl
theorem x28s(d:Nat)(hs:FHs){a:AV}{l:List Int}(h:Ints a l)(hb:l.length<=1000000):∀(suf:List Int) (k j:Nat) (m:Mem) (fc:Nat),l.drop k=suf->suf.length<j ->
 ∃m',x4c (x1qp (d+2)) hs 0 j a (I l.length) (I k) m fc=some (I (x1uu suf),m'):=by
 intro suf
 induction suf with
 |nil=>
  intro k j m fc hd hj
  obtain⟨j,rfl⟩:∃i,j=i+1:=⟨j-1,by simp at hj;omega⟩
  have hk:¬((k:Int)<(l.length:Int)):=by have:=List.drop_eq_nil_iff.mp hd;omega
  simp only[x4c]
  unfold xas
  simp[hk,x4b,x1uu]
 |cons x r ih=>
  intro k j m fc hd hj
  obtain⟨j,rfl⟩:∃i,j=i+1:=⟨j-1,by simp at hj;omega⟩
  obtain⟨hk,hke,hd⟩:=x1sm hd
  have hk':(k:Int)<(l.length:Int):=by omega
  have ix:=h.ix x1rk hk
  have e1:at0 l k=x:=by rw[x1ri hk,hke]
  have ih':=fun m fc=>ih (k+1) j m fc hd (by simp at hj;omega)
  simp only[x4c,x22y]
  unfold xas
  simp(disch:=omega) [hk',ix,x1rg,e1,x280]
  cases c:wi x 0 1000
  .simp
  .simp(disch:=omega)
   exact ih' _ _
theorem x20i(d:Nat){r c:Int}{p a b:AV}{ph ac dn:List Int}(hp:Ints p ph)(ha:Ints a ac)(hb:Ints b dn)(hl:ph.length<=300000)(h1:ac.length<=300000)(h2:dn.length<=300000)(m:Mem) :
 x1qq (x1qp (d+9)) x1t [.agg [I r,I c,p,a,b]] m=some (I (x1rq r c ph ac dn),m):=by
 refine Ans.call0 ?_ (by simp[hp.still1,ha.still1,hb.still1]) rfl
 unfold Ans
 rw[xyy]
 unfold xe0 xfk
 have wm:=x28o (d+3) (r:=r) (c:=c) (x28m (d+2)) rfl rfl rfl hp (show ph.length<1000000 by omega)
 simp[mem0,hp.one,ha.one,hb.one,hp.len x1r8,w_sizeErr,x1ut]
 by_cases c1:x1td r c ph.length=0
 rotate_left
 .simp[x1rq,c1]
 have hsz:x1wl (fun _=>true) r c ph=0:=by
  unfold x1wl x1st
  simp[c1]
  cases e:ph.any (badP fun _=>true)
  .rfl
  .exfalso
   rw[List.any_eq_true]at e
   obtain⟨x,-,hx⟩:=e
   simp[badP]at hx
 obtain⟨r0,r1,c0,c2,hlen,-⟩:=x22x hsz
 have hrc:=x1x0 (wi_iff.mpr ⟨r0,r1⟩) (wi_iff.mpr ⟨c0,c2⟩)
 simp[c1]
 by_cases c3:144<(ph.length:Int)
 .simp[x1rq,c1,c3]
 simp[c3,wm]
 by_cases c4:x1st isW ph=0
 rotate_left
 .simp[x1rq,c1,c3,c4]
 have e1:r*(c-1)=r*c-r:=by rw[Int.mul_sub];omega
 have e2:(r-1)*c=r*c-c:=by rw[Int.sub_mul];omega
 simp(disch:=omega) [c4,ha.len x1r8,hb.len x1r8]
 by_cases c5:(ac.length:Int)=r*(c-1)
 rotate_left
 .simp[x1rq,c1,c3,c4,c5]
 simp(disch:=omega) [c5,ha.len x1r8,hb.len x1r8,x1rq,c1,c3,c4]
 by_cases c6:(dn.length:Int)=(r-1)*c
 rotate_left
 .simp[c6]
 simp[c6]
 unfold xat
 obtain⟨cc,hcc,hC⟩:=x254 (d+6) ha hb h1 h2 (((((⟨[],1⟩:Mem).new (0,0,1) (.row [I r,I c,p,a,b] 0 false)).new (0,4,3) (.row [I 0,I 0,nilS] 0 false)).set (0,4,3) (.row [I r,I c,p] 0 false)))
 obtain⟨m',hm'⟩:=x28s (d+6) [] hcc (by simp;omega) (ac++dn) 0 NN (((((⟨[],1⟩:Mem).new (0,0,1) (.row [I r,I c,p,a,b] 0 false)).new (0,4,3) (.row [I 0,I 0,nilS] 0 false)).set (0,4,3) (.row [I r,I c,p] 0 false))) 56 rfl (by rw[x1r6];simp;omega)
 have hml:∀(id:Id) (m:Mem) (k:AV->Mem->Option (AV×Mem)),x1r2 x13 [(0,1,a),(1,1,b)] 2 1 id m k=k (.slit [a,b] 2 true) m:=by
  intro id m k
  simp[x1r2,x1rx,x1rd,x1vx,ha.cells,hb.cells,ha.one,hb.one,ha.clean1,hb.clean1,List.range_succ,x1rc]
 simp[hml,hC,hcc.len x1r8]
 refine⟨m',?_⟩
 simpa using hm'
theorem x28t(d:Nat)(hs:FHs){r c:Int}{p a b:AV}{l:List Int}(h:Ints b l)(hb:l.length<=1000000):∀(suf:List Int) (k j:Nat) (m:Mem) (fc:Nat),l.drop k=suf->suf.length<j->m.get (0,0,1)=some (.row [I r,I c,p,a,b] 0 false) ->
 ∃m',x49 (x1qp (d+1)) hs 0 j (.ptr (0,0,1) 0 0) (I k) m fc=some (I (x1uu suf),m'):=by
 intro suf
 induction suf with
 |nil=>
  intro k j m fc hd hj hg
  obtain⟨j,rfl⟩:∃i,j=i+1:=⟨j-1,by simp at hj;omega⟩
  have hk:¬((k:Int)<(l.length:Int)):=by have:=List.drop_eq_nil_iff.mp hd;omega
  simp only[x49]
  unfold xap
  simp[hg,h.len x1r8,hk,x48,x1uu]
 |cons x r ih=>
  intro k j m fc hd hj hg
  obtain⟨j,rfl⟩:∃i,j=i+1:=⟨j-1,by simp at hj;omega⟩
  obtain⟨hk,hke,hd⟩:=x1sm hd
  have hk':(k:Int)<(l.length:Int):=by omega
  have ix:=h.ix x1rk hk
  have e1:at0 l k=x:=by rw[x1ri hk,hke]
  have ih':=fun fc=>ih (k+1) j m fc hd (by simp at hj;omega) hg
  simp only[x49,x22y]
  unfold xap
  simp(disch:=omega) [hg,h.len x1r8,hk',ix,x1rg,e1,x1z4]
  cases c:wi x 0 1000
  .simp
  .simp(disch:=omega)
   exact ih' _
theorem x28u(d:Nat)(hs:FHs){r c:Int}{p a b:AV}{l k0:List Int}(h:Ints a l)(h2:Ints b k0)(hb:l.length<=1000000)(hb2:k0.length<=1000000):∀(suf:List Int) (k j:Nat) (m:Mem) (fc:Nat),l.drop k=suf->suf.length<j->m.get (0,0,1)=some (.row [I r,I c,p,a,b] 0 false) ->
 ∃m',x4a (x1qp (d+1)) hs 0 j (.ptr (0,0,1) 0 0) (I k) m fc=some (I (x1uu (suf++k0)),m'):=by
 intro suf
 induction suf with
 |nil=>
  intro k j m fc hd hj hg
  obtain⟨j,rfl⟩:∃i,j=i+1:=⟨j-1,by simp at hj;omega⟩
  have hk:¬((k:Int)<(l.length:Int)):=by have:=List.drop_eq_nil_iff.mp hd;omega
  obtain⟨m',h'⟩:=x28t d hs h2 hb2 k0 0 NN m (fc+5+1) rfl (by rw[x1r6];omega) hg
  simp only[x4a]
  unfold xaq
  simp[hg,h.len x1r8,hk,x31]
  exact⟨m',h'⟩
 |cons x r ih=>
  intro k j m fc hd hj hg
  obtain⟨j,rfl⟩:∃i,j=i+1:=⟨j-1,by simp at hj;omega⟩
  obtain⟨hk,hke,hd⟩:=x1sm hd
  have hk':(k:Int)<(l.length:Int):=by omega
  have ix:=h.ix x1rk hk
  have e1:at0 l k=x:=by rw[x1ri hk,hke]
  have ih':=fun fc=>ih (k+1) j m fc hd (by simp at hj;omega) hg
  simp only[x4a,List.cons_append,x22y]
  unfold xaq
  simp(disch:=omega) [hg,h.len x1r8,hk',ix,x1rg,e1,x1z4]
  cases c:wi x 0 1000
  .simp
  .simp(disch:=omega)
   exact ih' _
theorem x26b(d:Nat){r c:Int}{p a b:AV}{ph ac dn:List Int}(hp:Ints p ph)(ha:Ints a ac)(hb:Ints b dn)(hl:ph.length<=300000)(h1:ac.length<=300000)(h2:dn.length<=300000)(m:Mem) :
 x1qq (x1qp (d+4)) x2b [.agg [I r,I c,p,a,b]] m=some (I (x1rq r c ph ac dn),m):=by
 refine Ans.call0 ?_ (by simp[hp.still1,ha.still1,hb.still1]) rfl
 unfold Ans
 rw[xyx]
 unfold xdz xfj
 have wm:=x28r d hp (show ph.length<=1000000 by omega)
 simp[mem0,hp.one,ha.one,hb.one,hp.len x1r8,x28l,x1ut]
 by_cases c1:x1td r c ph.length=0
 rotate_left
 .simp[x1rq,c1]
 have hsz:x1wl (fun _=>true) r c ph=0:=by
  unfold x1wl x1st
  simp[c1]
  cases e:ph.any (badP fun _=>true)
  .rfl
  .exfalso
   rw[List.any_eq_true]at e
   obtain⟨x,-,hx⟩:=e
   simp[badP]at hx
 obtain⟨r0,r1,c0,c2,hlen,-⟩:=x22x hsz
 have hrc:=x1x0 (wi_iff.mpr ⟨r0,r1⟩) (wi_iff.mpr ⟨c0,c2⟩)
 have c1':x1td r c (r*c)=0:=hlen▸c1
 simp(disch:=omega) [c1]
 by_cases c3:144<r*c
 .simp[x1rq,c1,c3,hlen,c1']
 simp[c3,wm]
 by_cases c4:x1st isW ph=0
 rotate_left
 .simp[x1rq,c1,c3,c4,hlen,c1']
 have e1:r*(c-1)=r*c-r:=by rw[Int.mul_sub];omega
 have e2:(r-1)*c=r*c-c:=by rw[Int.sub_mul];omega
 simp(disch:=omega) [c4,ha.len x1r8,hb.len x1r8]
 by_cases c5:(ac.length:Int)=r*(c-1)
 rotate_left
 .simp[x1rq,c1,c3,c4,c5,hlen,c1']
 simp(disch:=omega) [c5,ha.len x1r8,hb.len x1r8,x1rq,c1,c3,c4,hlen,c1']
 by_cases c6:(dn.length:Int)=(r-1)*c
 rotate_left
 .simp[c6]
 simp[c6]
 unfold xar
 obtain⟨m',hm'⟩:=x28u (d+2) [] (r:=r) (c:=c) (p:=p) ha hb (by omega) (by omega) ac 0 NN (((((⟨[],1⟩:Mem).new (0,0,1) (.row [I r,I c,p,a,b] 0 false)).new (0,4,3) (.row [I 0,I 0,nilS] 0 false)).set (0,4,3) (.row [I r,I c,p] 0 false))) 52 rfl (by rw[x1r6];omega) (by simp)
 exact⟨m',hm'⟩
theorem z_task:x6t=[I 0,I 0,nilS,nilS,nilS]:=by kernel_rfl
theorem x26c(d:Nat){r c:Int}{p a b:AV}{ph ac dn:List Int}(hp:Ints p ph)(ha:Ints a ac)(hb:Ints b dn)(hl:ph.length<=300000)(h1:ac.length<=300000)(h2:dn.length<=300000)(m:Mem) :
 ∃p' a' b',Ints p' ph/\Ints a' ac/\Ints b' dn/\x1qq (x1qp (d+3)) xx [.agg [I r,I c,p,a,b]] m=some (.agg [I r,I c,p',a',b'],m):=by
 obtain⟨p',hp',hcp⟩:=x26a d (r:=r) (c:=c) hp (by omega) (((⟨[],1⟩:Mem).new (0,0,1) (.row [I r,I c,p,a,b] 0 false)).new (0,1,2) (.row [I 0,I 0,nilS,nilS,nilS] 0 false))
 obtain⟨a',ha',hca⟩:=x22f (d+1) ha (by omega) (((⟨[],1⟩:Mem).new (0,0,1) (.row [I r,I c,p,a,b] 0 false)).new (0,1,2) (.row [I 0,I 0,nilS,nilS,nilS] 0 false))
 obtain⟨b',hb',hcb⟩:=x22f (d+1) hb (by omega) (((⟨[],1⟩:Mem).new (0,0,1) (.row [I r,I c,p,a,b] 0 false)).new (0,1,2) (.row [I 0,I 0,nilS,nilS,nilS] 0 false))
 refine⟨p',a',b',hp',ha',hb',Ans.call0 ?_ (by simp[hp.still1,ha.still1,hb.still1]) (by simp[hp'.still1,ha'.still1,hb'.still1])⟩
 unfold Ans
 rw[xyw]
 unfold xdy xfi
 simp[mem0,hp.one,ha.one,hb.one,z_task,hcp,hca,hcb,x1qx,x1rx,sLdP,hp.clean1,ha.clean,hb.clean,hp'.cells,hp'.one,ha'.cells,ha'.one,hb'.cells,hb'.one,cAp,tR]
 simp[Nat.blt]
def x1tt(r c:Int)(ph ac dn:List Int):Bool:=
 bif decide (164<(ph.length:Int))||decide (300<(ac.length:Int))||decide (300<(dn.length:Int))then false
 else bif !decide (x1rq r c ph ac dn=0)then true
 else bif decide (12<(ph.length:Int))then false else !((ac++dn).any fun x=>decide (20<x))
theorem l_small0(d:Nat)(hs:FHs){r c:Int}{p a b:AV}{l:List Int}(h:Ints b l)(hb:l.length<=1000000):∀(suf:List Int) (k j:Nat) (m:Mem) (fc:Nat),l.drop k=suf->suf.length<j->m.get (0,0,1)=some (.row [I r,I c,p,a,b] 0 false) ->
 ∃m',x46 (x1qp (d+1)) hs 0 j (.ptr (0,0,1) 0 0) (I k) m fc=some (B (!(suf.any fun x=>decide (20<x))),m'):=by
 intro suf
 induction suf with
 |nil=>
  intro k j m fc hd hj hg
  obtain⟨j,rfl⟩:∃i,j=i+1:=⟨j-1,by simp at hj;omega⟩
  have hk:¬((k:Int)<(l.length:Int)):=by have:=List.drop_eq_nil_iff.mp hd;omega
  simp only[x46]
  unfold xam
  simp[hg,h.len x1r8,hk,x45]
 |cons x r ih=>
  intro k j m fc hd hj hg
  obtain⟨j,rfl⟩:∃i,j=i+1:=⟨j-1,by simp at hj;omega⟩
  obtain⟨hk,hke,hd⟩:=x1sm hd
  have hk':(k:Int)<(l.length:Int):=by omega
  have ix:=h.ix x1rk hk
  have e1:at0 l k=x:=by rw[x1ri hk,hke]
  have ih':=fun fc=>ih (k+1) j m fc hd (by simp at hj;omega) hg
  simp only[x46,List.any_cons]
  unfold xam
  by_cases c:20<x
  .simp(disch:=omega) [hg,h.len x1r8,hk',ix,x1rg,e1,c]
  .simp(disch:=omega) [hg,h.len x1r8,hk',ix,x1rg,e1,c]
   exact ih' _
theorem l_small1(d:Nat)(hs:FHs){r c:Int}{p a b:AV}{l k0:List Int}(h:Ints a l)(h2:Ints b k0)(hb:l.length<=1000000)(hb2:k0.length<=1000000):∀(suf:List Int) (k j:Nat) (m:Mem) (fc:Nat),l.drop k=suf->suf.length<j->m.get (0,0,1)=some (.row [I r,I c,p,a,b] 0 false) ->
 ∃m',x47 (x1qp (d+1)) hs 0 j (.ptr (0,0,1) 0 0) (I k) m fc=some (B (!((suf++k0).any fun x=>decide (20<x))),m'):=by
 intro suf
 induction suf with
 |nil=>
  intro k j m fc hd hj hg
  obtain⟨j,rfl⟩:∃i,j=i+1:=⟨j-1,by simp at hj;omega⟩
  have hk:¬((k:Int)<(l.length:Int)):=by have:=List.drop_eq_nil_iff.mp hd;omega
  obtain⟨m',h'⟩:=l_small0 d hs h2 hb2 k0 0 NN m (fc+5+1) rfl (by rw[x1r6];omega) hg
  simp only[x47]
  unfold xan
  simp[hg,h.len x1r8,hk,x30]
  exact⟨m',h'⟩
 |cons x r ih=>
  intro k j m fc hd hj hg
  obtain⟨j,rfl⟩:∃i,j=i+1:=⟨j-1,by simp at hj;omega⟩
  obtain⟨hk,hke,hd⟩:=x1sm hd
  have hk':(k:Int)<(l.length:Int):=by omega
  have ix:=h.ix x1rk hk
  have e1:at0 l k=x:=by rw[x1ri hk,hke]
  have ih':=fun fc=>ih (k+1) j m fc hd (by simp at hj;omega) hg
  simp only[x47,List.cons_append,List.any_cons]
  unfold xan
  by_cases c:20<x
  .simp(disch:=omega) [hg,h.len x1r8,hk',ix,x1rg,e1,c]
  .simp(disch:=omega) [hg,h.len x1r8,hk',ix,x1rg,e1,c]
   obtain⟨m',h'⟩:=ih' (fc+14)
   exact⟨m',by simpa[List.any_append]using h'⟩
theorem w_small(d:Nat){r c:Int}{p a b:AV}{ph ac dn:List Int}(hp:Ints p ph)(ha:Ints a ac)(hb:Ints b dn)(m:Mem) :
 x1qq (x1qp (d+5)) x2v [.agg [I r,I c,p,a,b]] m=some (B (x1tt r c ph ac dn),m):=by
 refine Ans.call0 ?_ (by simp[hp.still1,ha.still1,hb.still1]) rfl
 unfold Ans
 rw[xyv]
 unfold xdx xfh
 simp[mem0,hp.one,ha.one,hb.one,hp.len x1r8]
 by_cases c1:164<(ph.length:Int)
 .simp[c1,x1tt]
 simp[c1,ha.len x1r8]
 by_cases c2:300<(ac.length:Int)
 .simp[c2,x1tt]
 simp[c2,hb.len x1r8]
 by_cases c3:300<(dn.length:Int)
 .simp[c3,x1tt]
 simp[c3,x26b d (r:=r) (c:=c) hp ha hb (by omega) (by omega) (by omega)]
 by_cases c4:x1rq r c ph ac dn=0
 rotate_left
 .simp[c1,c2,c3,c4,x1tt]
 simp[c4,hp.len x1r8]
 by_cases c5:12<(ph.length:Int)
 .simp[c1,c2,c3,c4,c5,x1tt]
 obtain⟨m',h'⟩:=l_small1 (d+3) [] (r:=r) (c:=c) (p:=p) ha hb (by omega) (by omega) ac 0 NN ((⟨[],1⟩:Mem).new (0,0,1) (.row [I r,I c,p,a,b] 0 false)) 28 rfl (by rw[x1r6];omega) (by simp)
 have e:x1tt r c ph ac dn=!((ac++dn).any fun x=>decide (20<x)):=by simp[c1,c2,c3,c4,c5,x1tt]
 rw[e]
 simp[c5,xao]
 exact⟨m',by simpa[List.any_append]using h'⟩
def x1r5(skip:Int->Bool)(step:Int):Nat->Int->List (Int×Int)
 |0,_=>[]
 |n+1,k=>bif skip k then x1r5 skip step n (k+1)else(k,k+step)::x1r5 skip step n (k+1)
def x1t2(c:Int)(k:Int):Bool:=decide (k % c=c-1)
def x1te(r c:Int)(k:Int):Bool:=decide (k / c=r-1)
def x1tj(r c:Int):List (Int×Int):=x1r5 (x1t2 c) 1 (r*c).toNat 0++x1r5 (x1te r c) c (r*c).toNat 0
def rowL(step base:Int):Nat->Int->List (Int×Int)
 |0,_=>[]
 |n+1,k=>(base+k,base+k+step)::rowL step base n (k+1)
def x1sr(c step:Int)(w:Nat):Nat->Int->List (Int×Int)
 |0,_=>[]
 |n+1,q=>rowL step (q*c) w 0++x1sr c step w n (q+1)
theorem x22z(skip:Int->Bool)(step:Int):∀(a b:Nat) (k:Int),x1r5 skip step (a+b) k=x1r5 skip step a k++x1r5 skip step b (k+a)
 |0,b,k=>by simp[x1r5]
 |a+1,b,k=>by
  rw[show a+1+b=(a+b)+1 by omega]
  simp only[x1r5]
  rw[x22z skip step a b (k+1),show k+1+(a:Int)=k+((a+1:Nat):Int) by omega]
  cases skip k<;>rfl
theorem x20j{q c k:Int}(h0:0<=k)(h1:k<c):(q*c+k) % c=k/\(q*c+k) / c=q:=by
 constructor
 .rw[Int.add_comm,Int.add_mul_emod_self_right,Int.emod_eq_of_lt h0 h1]
 .rw[Int.add_comm,Int.add_mul_ediv_right _ _ (by omega),Int.ediv_eq_zero_of_lt h0 h1];omega
theorem x26d{c:Int}(q:Int):∀(n:Nat) (k:Int),0<=k->k+n=c->0<n->x1r5 (x1t2 c) 1 n (q*c+k)=rowL 1 (q*c) (n-1) k
 |0,k,_,_,h=>by omega
 |1,k,h0,h1,_=>by
  have h1':k=c-1:=by omega
  have:=(x20j (q:=q) h0 (show k<c by omega)).1
  have h2:x1t2 c (q*c+k)=true:=decide_eq_true (by omega)
  simp[x1r5,rowL,h2]
 |n+2,k,h0,h1,_=>by
  have:=(x20j (q:=q) h0 (show k<c by omega)).1
  have ih:=x26d (c:=c) q (n+1) (k+1) (by omega) (by omega) (by omega)
  have hk:¬(k=c-1):=by omega
  rw[x1r5]
  simp only[x1t2,this,hk,decide_false,cond_false]
  rw[show n+2-1=(n+1-1)+1 by omega,rowL,<-ih,Int.add_assoc]
theorem x230{r c:Int}(q:Int):∀(n:Nat) (k:Int),0<=k->k+n=c->x1r5 (x1te r c) c n (q*c+k)=if q=r-1 then[]else rowL c (q*c) n k
 |0,k,_,_=>by simp[x1r5,rowL]
 |n+1,k,h0,h1=>by
  have:=(x20j (q:=q) h0 (show k<c by omega)).2
  have ih:=x230 (r:=r) (c:=c) q n (k+1) (by omega) (by omega)
  rw[x1r5]
  simp only[x1te,this]
  rw[<-Int.add_assoc]at ih
  by_cases h:q=r-1
  .rw[if_pos h]at ih ⊢
   rw[decide_eq_true h,cond_true,<-ih]
  .rw[if_neg h]at ih ⊢
   rw[decide_eq_false h,cond_false,rowL,<-ih]
theorem x26e{c:Int}(hc:1<=c):∀(n:Nat) (q:Int),x1r5 (x1t2 c) 1 (n*c.toNat) (q*c)=x1sr c 1 (c.toNat-1) n q
 |0,q=>by simp[x1r5,x1sr]
 |n+1,q=>by
  have h:=x26d (c:=c) q c.toNat 0 (by omega) (by omega) (by omega)
  rw[Int.add_zero]at h
  rw[Nat.succ_mul,Nat.add_comm,x22z,h,x1sr,<-x26e hc n (q+1),Int.add_mul,Int.one_mul,show((c.toNat:Nat):Int)=c by omega]
theorem x26f{r c:Int}(hc:1<=c):∀(n:Nat) (q:Int),q+n=r->x1r5 (x1te r c) c (n*c.toNat) (q*c)=x1sr c c c.toNat (n-1) q
 |0,q,_=>by simp[x1r5,x1sr]
 |1,q,h=>by
  have h:=x230 (r:=r) (c:=c) q c.toNat 0 (by omega) (by omega)
  rw[Int.add_zero,if_pos (by omega)]at h
  simp[h,x1sr]
 |n+2,q,h=>by
  have h1:=x230 (r:=r) (c:=c) q c.toNat 0 (by omega) (by omega)
  rw[Int.add_zero,if_neg (by omega)]at h1
  rw[Nat.succ_mul,Nat.add_comm,x22z,h1,show n+2-1=(n+1-1)+1 by omega,x1sr,<-x26f (r:=r) hc (n+1) (q+1) (by omega),Int.add_mul,Int.one_mul,show((c.toNat:Nat):Int)=c by omega]
theorem x26g{r c:Int}(hr:1<=r)(hc:1<=c):x1tj r c=x1sr c 1 (c.toNat-1) r.toNat 0++x1sr c c c.toNat (r.toNat-1) 0:=by
 have h:(r*c).toNat=r.toNat*c.toNat:=Int.toNat_mul (by omega) (by omega)
 have h1:=x26e hc r.toNat 0
 have h2:=x26f (r:=r) hc r.toNat 0 (by omega)
 rw[Int.zero_mul]at h1 h2
 unfold x1tj
 rw[h,h1,h2]
theorem x1yc(step base:Int):∀(n:Nat) (k:Int),(rowL step base n k).length=n
 |0,_=>rfl
 |n+1,k=>by simp[rowL,x1yc step base n]
theorem x1ze(c step:Int)(w:Nat):∀(n:Nat) (q:Int),(x1sr c step w n q).length=n*w
 |0,_=>by simp[x1sr]
 |n+1,q=>by simp[x1sr,x1yc,x1ze c step w n,Nat.succ_mul,Nat.add_comm]
theorem x20k{skip:Int->Bool}{step:Int}:∀{n:Nat} {k:Int} {x:Int×Int},x∈x1r5 skip step n k->k<=x.1/\x.1<k+n/\x.2=x.1+step/\skip x.1=false
 |0,k,x,h=>by simp[x1r5]at h
 |n+1,k,x,h=>by
  simp only[x1r5]at h
  cases hs:skip k
  .rw[hs]at h
   rcases List.mem_cons.mp h with rfl|h
   .exact⟨by omega,by simp only;omega,rfl,hs⟩
   .obtain⟨a,b,c,d⟩:=x20k h;exact⟨by omega,by omega,c,d⟩
  .rw[hs]at h
   obtain⟨a,b,c,d⟩:=x20k h;exact⟨by omega,by omega,c,d⟩
theorem x20l{r c:Int}(hr:1<=r)(hc:1<=c){x:Int×Int}(h:x∈x1tj r c):0<=x.1/\x.1<r*c/\0<=x.2/\x.2<r*c/\x.1≠x.2:=by
 have h0:0<=r*c:=Int.mul_nonneg (by omega) (by omega)
 rcases List.mem_append.mp h with h|h
 .obtain⟨h1,h2,h3,h4⟩:=x20k h
  have h4:¬(x.1 % c=c-1):=of_decide_eq_false h4
  refine⟨h1,by omega,by omega,?_,by omega⟩
  by_cases e:x.1+1=r*c
  .exfalso
   apply h4
   have:x.1=(r-1)*c+(c-1):=by rw[Int.sub_mul];omega
   rw[this]
   exact(x20j (by omega) (by omega)).1
  .omega
 .obtain⟨h1,h2,h3,h4⟩:=x20k h
  have h4:¬(x.1 / c=r-1):=of_decide_eq_false h4
  refine⟨h1,by omega,by omega,?_,by omega⟩
  have h5:x.1 / c<r:=Int.ediv_lt_of_lt_mul (by omega) (by omega)
  have h6:x.1 / c+1<=r-1:=by omega
  have h7:=Int.emod_add_mul_ediv x.1 c
  have h8:=Int.emod_lt_of_pos x.1 (show 0<c by omega)
  have h9:c*(x.1 / c+1)<=c*(r-1):=Int.mul_le_mul_of_nonneg_left h6 (by omega)
  rw[Int.mul_add,Int.mul_sub]at h9
  rw[Int.mul_comm c r]at h9
  omega
def x1sv(a b:Int):Int:=(b-a-x1ti (b-a)).tdiv 4096
def mkE(ph ws:List Int)(k:Nat)(x:Int×Int):Edge:=⟨x.1,x.2,x1sv (at0 ph x.1.toNat) (at0 ph x.2.toNat),at0 ws k⟩
def x1s8(ph:List Int)(x:Int×Int):Bool:=decide (at0 ph x.1.toNat=void)||decide (at0 ph x.2.toNat=void)
def netM(ph ws:List Int):Nat->List (Int×Int)->List Edge
 |_,[]=>[]
 |k,x::r=>bif x1s8 ph x then netM ph ws (k+1) r else mkE ph ws k x::netM ph ws (k+1) r
theorem x1zf(ph ws:List Int):∀(l:List (Int×Int)) (k:Nat) (l':List (Int×Int)),netM ph ws k (l++l')=netM ph ws k l++netM ph ws (k+l.length) l'
 |[],k,l'=>by simp[netM]
 |x::r,k,l'=>by
  simp only[List.cons_append,netM,x1zf ph ws r,List.length_cons]
  rw[show k+1+r.length=k+(r.length+1) by omega]
  cases x1s8 ph x<;>rfl
theorem x1x1(ph ws:List Int):∀(l:List (Int×Int)) (k:Nat),(netM ph ws k l).length<=l.length
 |[],k=>by simp[netM]
 |x::r,k=>by
  have:=x1x1 ph ws r (k+1)
  simp only[netM,List.length_cons]
  cases x1s8 ph x<;>simp<;>omega
def x1rn(r c:Int)(ph ac dn:List Int):List Edge:=netM ph (ac++dn) 0 (x1tj r c)
theorem x20m{r c:Int}(hr:1<=r)(hc:1<=c):((x1tj r c).length:Int)=r*(c-1)+(r-1)*c:=by
 rw[x26g hr hc,List.length_append,x1ze,x1ze,Int.natCast_add,Int.natCast_mul,Int.natCast_mul,show((r.toNat:Nat):Int)=r by omega,show((c.toNat-1:Nat):Int)=c-1 by omega,show((r.toNat-1:Nat):Int)=r-1 by omega,show((c.toNat:Nat):Int)=c by omega]
theorem x231{a b:Int}(h1:-2048<=a)(h2:a<=2047)(h3:-2048<=b)(h4:b<=2047):-1<=x1sv a b/\x1sv a b<=1:=by
 unfold x1sv
 have:=x22w (b-a)
 have h:(b-a-x1ti (b-a)) % 4096=0:=by unfold x1ti;omega
 rw[Int.tdiv_eq_ediv]
 split<;>omega
theorem x20n:x11=[I 0,I 0]:=by kernel_rfl
theorem x20o(x y:Int):sIdx Try.prog x34 (.agg [I x,I y]) (I 0)=some (I x)/\sIdx Try.prog x34 (.agg [I x,I y]) (I 1)=some (I y):=⟨by kernel_rfl,by kernel_rfl⟩
theorem inv_yld{call:x1qo}{id:Id}{h:List AV->Mem->Option Mem}{hs:FHs}{mode:Nat}{l:List AV}{m:Mem}:x1sj call ((id,h)::hs) mode (.yld id) l m=(h l m).map fun m'=>(B true,m'):=by
 simp[x1sj,x1wt]
theorem x20p(x y:Int):x1qx x11 [(0,1,I x),(1,1,I y)]=some (.agg [I x,I y]):=by
 simp[x1qx,x1rx,x20n]
theorem l_sides0(call:x1qo)(id:Id)(h:List AV->Mem->Option Mem)(hs:FHs)(u:Nat){r c:Int}(hc:1<=c)(hc2:c<=64)(hrc:r*c<=4096)(full:List (Int×Int))(Inv:Nat->Mem->Prop)(hf:full.length<=10000)(hstep:∀k p m,full[k]?=some p->Inv k m->∃m',h [I k,.agg [I p.1,I p.2]] m=some m'/\Inv (k+1) m')(rec0:AV->AV->AV->AV->AV->AV->Mem->Nat->Option (AV×Mem))(t9:AV) :
 ∀(n:Nat) (k:Int) (i j:Nat) (tail:List (Int×Int)) (m:Mem) (fc:Nat),0<=k->k+n=r*c->n<j->Inv i m->full.drop i=x1r5 (x1t2 c) 1 n k++tail ->
 ∃m' fc',x28 call ((id,h)::hs) u rec0 j (.yld id) (.plit [I c]) (.plit [I r]) (I i) (I 0) (I 1) t9 (I 0) (I (r*c)) (I k) m fc=rec0 (.yld id) (.plit [I c]) (.plit [I r]) (I ((i+(x1r5 (x1t2 c) 1 n k).length:Nat):Int)) t9 (I 1) m' fc'/\Inv (i+(x1r5 (x1t2 c) 1 n k).length) m':=by
 intro n
 induction n with
 |zero=>
  intro k i j tail m fc h0 hk hj hI hd
  obtain⟨j,rfl⟩:∃i,j=i+1:=⟨j-1,by omega⟩
  refine⟨m,fc+1+2,?_,by simpa[x1r5]using hI⟩
  simp only[x28]
  unfold x7e
  simp(disch:=omega) [show ¬(k<r*c) by omega,xh,x1r5]
 |succ n ih=>
  intro k i j tail m fc h0 hk hj hI hd
  obtain⟨j,rfl⟩:∃i,j=i+1:=⟨j-1,by omega⟩
  simp only[x28]
  unfold x7e x9m
  have hr1:k.tmod c=k % c:=Int.tmod_eq_emod_of_nonneg h0
  have hlt:k<r*c:=by omega
  cases hs':x1t2 c k
  .have hne:¬(k % c=c-1):=of_decide_eq_false hs'
   have hL:x1r5 (x1t2 c) 1 (n+1) k=(k,k+1)::x1r5 (x1t2 c) 1 n (k+1):=by rw[x1r5,hs'];rfl
   rw[hL]at hd ⊢
   obtain⟨hi,hie,hd⟩:=x1sm hd
   obtain⟨m',h1,h2⟩:=hstep i (k,k+1) m (by rw[List.getElem?_eq_getElem hi,hie]) hI
   obtain⟨m2,fc2,h3,h4⟩:=ih (k+1) (i+1) j tail m' (fc+39) (by omega) (by omega) (by omega) h2 hd
   refine⟨m2,fc2,?_,by rw[List.length_cons,show i+((x1r5 (x1t2 c) 1 n (k+1)).length+1)=i+1+(x1r5 (x1t2 c) 1 n (k+1)).length by omega];exact h4⟩
   rw[List.length_cons,show i+((x1r5 (x1t2 c) 1 n (k+1)).length+1)=i+1+(x1r5 (x1t2 c) 1 n (k+1)).length by omega,<-h3]
   simp(disch:=omega) [hlt,x1y0,hr1,hne,x20p,inv_yld,h1,x51]
  .have hne:k % c=c-1:=of_decide_eq_true hs'
   have hL:x1r5 (x1t2 c) 1 (n+1) k=x1r5 (x1t2 c) 1 n (k+1):=by rw[x1r5,hs'];rfl
   rw[hL]at hd ⊢
   obtain⟨m2,fc2,h3,h4⟩:=ih (k+1) i j tail m (fc+27) (by omega) (by omega) (by omega) hI hd
   refine⟨m2,fc2,?_,h4⟩
   rw[<-h3]
   simp(disch:=omega) [hlt,x1y0,hr1,hne,x51]
theorem l_sides1(call:x1qo)(id:Id)(h:List AV->Mem->Option Mem)(hs:FHs)(u:Nat){r c:Int}(hc:1<=c)(hc2:c<=64)(hr2:-100<=r/\r<=64)(hrc:r*c<=4096)(full:List (Int×Int))(Inv:Nat->Mem->Prop)(hf:full.length<=10000)(hstep:∀k p m,full[k]?=some p->Inv k m->∃m',h [I k,.agg [I p.1,I p.2]] m=some m'/\Inv (k+1) m')(rec0:AV->AV->AV->AV->AV->AV->Mem->Nat->Option (AV×Mem))(t9:AV) :
 ∀(n:Nat) (k:Int) (i j:Nat) (tail:List (Int×Int)) (m:Mem) (fc:Nat),0<=k->k+n=r*c->n<j->Inv i m->full.drop i=x1r5 (x1te r c) c n k++tail ->
 ∃m' fc',x28 call ((id,h)::hs) u rec0 j (.yld id) (.plit [I c]) (.plit [I r]) (I i) (I 1) (I c) t9 (I 1) (I (r*c)) (I k) m fc=rec0 (.yld id) (.plit [I c]) (.plit [I r]) (I ((i+(x1r5 (x1te r c) c n k).length:Nat):Int)) t9 (I 2) m' fc'/\Inv (i+(x1r5 (x1te r c) c n k).length) m':=by
 intro n
 induction n with
 |zero=>
  intro k i j tail m fc h0 hk hj hI hd
  obtain⟨j,rfl⟩:∃i,j=i+1:=⟨j-1,by omega⟩
  refine⟨m,fc+1+2,?_,by simpa[x1r5]using hI⟩
  simp only[x28]
  unfold x7e
  simp(disch:=omega) [show ¬(k<r*c) by omega,xh,x1r5]
 |succ n ih=>
  intro k i j tail m fc h0 hk hj hI hd
  obtain⟨j,rfl⟩:∃i,j=i+1:=⟨j-1,by omega⟩
  simp only[x28]
  unfold x7e x9m
  have hr1:k.tdiv c=k / c:=Int.tdiv_eq_ediv_of_nonneg h0
  have hlt:k<r*c:=by omega
  have q0:0<=k / c:=Int.ediv_nonneg h0 (by omega)
  have q1:k / c<=k:=Int.ediv_le_self _ h0
  cases hs':x1te r c k
  .have hne:¬(k / c=r-1):=of_decide_eq_false hs'
   have hL:x1r5 (x1te r c) c (n+1) k=(k,k+c)::x1r5 (x1te r c) c n (k+1):=by rw[x1r5,hs'];rfl
   rw[hL]at hd ⊢
   obtain⟨hi,hie,hd⟩:=x1sm hd
   obtain⟨m',h1,h2⟩:=hstep i (k,k+c) m (by rw[List.getElem?_eq_getElem hi,hie]) hI
   obtain⟨m2,fc2,h3,h4⟩:=ih (k+1) (i+1) j tail m' (fc+39) (by omega) (by omega) (by omega) h2 hd
   refine⟨m2,fc2,?_,by rw[List.length_cons,show i+((x1r5 (x1te r c) c n (k+1)).length+1)=i+1+(x1r5 (x1te r c) c n (k+1)).length by omega];exact h4⟩
   rw[List.length_cons,show i+((x1r5 (x1te r c) c n (k+1)).length+1)=i+1+(x1r5 (x1te r c) c n (k+1)).length by omega,<-h3]
   simp(disch:=omega) [hlt,x1z1,hr1,hne,x20p,inv_yld,h1,x51]
  .have hne:k / c=r-1:=of_decide_eq_true hs'
   have hL:x1r5 (x1te r c) c (n+1) k=x1r5 (x1te r c) c n (k+1):=by rw[x1r5,hs'];rfl
   rw[hL]at hd ⊢
   obtain⟨m2,fc2,h3,h4⟩:=ih (k+1) i j tail m (fc+27) (by omega) (by omega) (by omega) hI hd
   refine⟨m2,fc2,?_,h4⟩
   rw[<-h3]
   simp(disch:=omega) [hlt,x1z1,hr1,hne,x51]
theorem w_sides1(d:Nat)(id:Id)(h:List AV->Mem->Option Mem)(hs:FHs){r c:Int}(hr:1<=r)(hr2:r<=64)(hc:1<=c)(hc2:c<=64)(Inv:Nat->Mem->Prop)(m:Mem)(h0:Inv 0 ⟨m.hp,m.next+1⟩)(hstep:∀k p m,(x1tj r c)[k]?=some p->Inv k m->∃m',h [I k,.agg [I p.1,I p.2]] m=some m'/\Inv (k+1) m') :
 ∃m',x1qp (d+1) ((id,h)::hs) x41 [.yld id,.plit [I c],.plit [I r]] m=some (.tup [],m')/\Inv (x1tj r c).length m':=by
 have hrc:=x1x0 (wi_iff.mpr ⟨hr,hr2⟩) (wi_iff.mpr ⟨hc,hc2⟩)
 have hlen:(x1tj r c).length<=10000:=by
  have:=x20m hr hc
  have e1:r*(c-1)=r*c-r:=by rw[Int.mul_sub];omega
  have e2:(r-1)*c=r*c-c:=by rw[Int.sub_mul];omega
  omega
 rw[x10b]
 unfold xey xhd
 obtain⟨j,hj⟩:=NN_3
 have hn:(0:Int)+((r*c).toNat:Int)=r*c:=by omega
 obtain⟨m1,f1,e1,i1⟩:=l_sides0 (x1qp d) id h hs m.next hc hc2 hrc.2 (x1tj r c) Inv hlen hstep (x29 (x1qp d) ((id,h)::hs) m.next (j+2)) (.agg [I 1,I c]) (r*c).toNat 0 0 NN (x1r5 (x1te r c) c (r*c).toNat 0) ⟨m.hp,m.next+1⟩ 13 (by omega) hn (by rw[x1r6];omega) h0 rfl
 rw[Nat.zero_add]at e1 i1
 obtain⟨m2,f2,e2,i2⟩:=l_sides1 (x1qp d) id h hs m.next hc hc2 ⟨by omega,hr2⟩ hrc.2 (x1tj r c) Inv hlen hstep (x29 (x1qp d) ((id,h)::hs) m.next (j+1)) (.agg [I 1,I c]) (r*c).toNat 0 (x1r5 (x1t2 c) 1 (r*c).toNat 0).length NN [] m1 (f1+9) (by omega) hn (by rw[x1r6];omega) i1 (by
  unfold x1tj
  rw[List.drop_left,List.append_nil])
 refine⟨m2,?_,?_⟩
 rotate_left
 .unfold x1tj;rw[List.length_append];exact i2
 .have hL:∀(n:Nat) (t0 t1 t2 t4 t9 t10:AV) (M:Mem) (fc:Nat),x29 (x1qp d) ((id,h)::hs) m.next (n+1) t0 t1 t2 t4 t9 t10 M fc=x7g (x1qp d) ((id,h)::hs) m.next (x29 (x1qp d) ((id,h)::hs) m.next n) t0 t1 t2 t4 t9 t10 M fc:=fun _ _ _ _ _ _ _ _ _=>rfl
  have h3:x29 (x1qp d) ((id,h)::hs) m.next NN=x29 (x1qp d) ((id,h)::hs) m.next (j+3):=by rw[hj]
  simp only[x1u2,rd_f,x1qt,x20p,h3,hL]
  unfold x7g x7f
  simp(disch:=omega)only[x1s6,x1qt,x1ru,x1sz,decide_true,(x20o 1 c).1,(x20o 1 c).2,x1u2,rd_f,x200,x1rs,show((0:Int)<2)from by omega]
  refine Eq.trans e1 ?_
  rw[hL]
  unfold x7g x7f
  simp(disch:=omega)only[x1s6,x1qt,x1ru,x1sz,decide_true,(x20o 1 c).1,(x20o 1 c).2,x1u2,rd_f,x200,x1rs,show((1:Int)<2)from by omega]
  refine Eq.trans e2 ?_
  rw[hL]
  unfold x7g
  simp
theorem Edge.still1(e:Edge):e.c.all Go.Ix.still1=true:=rfl
theorem mkLit_4{id:Id}{a b c d:Int}{m:Mem}{R:Type}(k:AV->Mem->Option R):x1r2 x6 [(0,4,.agg [I a,I b,I c,I d])] 1 4 id m k=k (.slit [I a,I b,I c,I d] 1 true) m:=by
 simp[x1r2,x1rx,x1rd,x1t7,List.range_succ,x1rc]
theorem x28v(a b c d:Int):x1qx x6 [(0,1,I a),(1,1,I b),(2,1,I c),(3,1,I d)]=some (.agg [I a,I b,I c,I d]):=by
 simp[x1qx,x1rx,x1t7]
theorem jumpM_w{a b:Int}(h1:-2048<=a)(h2:a<=2047)(h3:-2048<=b)(h4:b<=2047):w64 ((b-a-x1ti (b-a)).tdiv 4096)=x1sv a b:=by
 have:=x231 h1 h2 h3 h4
 exact x1rs (by unfold x1sv at this;omega) (by unfold x1sv at this;omega)
def okE(id:Id):Prop:=id.2.2=68\/id.2.2=116
structure NetInv (r c n:Int) (p ws:AV) (ph wl:List Int) (idm idn idw:Id) (m:Mem) (l:List Edge):Prop where
 map:m.get idm=some (.row [I r,I c,p] 0 false)
 net:∃ev,m.get idn=some (.row [I n,ev] 0 false)/\Gk 4 Edge.c okE m ev l
 wts:m.get idw=some (.row [ws] 0 false)
 nxt:1<=m.next
theorem netM_snoc(ph ws:List Int)(l:List (Int×Int))(x:Int×Int):netM ph ws 0 (l++[x])=if x1s8 ph x=true then netM ph ws 0 l else netM ph ws 0 l++[mkE ph ws l.length x]:=by
 rw[x1zf,Nat.zero_add]
 simp only[netM]
 cases x1s8 ph x<;>simp
theorem x28w(d:Nat){hs:FHs}{r c n:Int}{p ws:AV}{ph wl:List Int}(hp:Ints p ph)(hw:Ints ws wl)(hph:PhIn ph){m:Mem}{l:List Edge}(hl:l.length<=10000)(hI:NetInv r c n p ws ph wl (0,4,3) (0,10,4) (0,18,5) m l)(h2:∀id o,id=(0,1,2)->m.get id=some o->True){k:Nat}{x:Int×Int}(hk:k<wl.length)(hx:0<=x.1/\x.1<ph.length/\0<=x.2/\x.2<ph.length) :
 ∃m',x6x (x1qp (d+1)) hs m.next (.ptr (0,4,3) 0 0) (.ptr (0,10,4) 0 0) (.ptr (0,18,5) 0 0) (I k) (.agg [I x.1,I x.2]) ⟨m.hp,m.next+1⟩ 0=some m' /\
  NetInv r c n p ws ph wl (0,4,3) (0,10,4) (0,18,5) m' (if x1s8 ph x=true then l else l++[mkE ph wl k x])/\m'.get (0,1,2)=m.get (0,1,2):=by
 obtain⟨h1,⟨ev,h3,hG⟩,h4,h5⟩:=hI
 obtain⟨x0,x1,x2,x3⟩:=hx
 have i1:=hp.ixI x1rk x0 x1
 have i2:=hp.ixI x1rk x2 x3
 have iw:=hw.ix x1rk hk
 have l1:x.1.toNat<ph.length:=by omega
 have l2:x.2.toNat<ph.length:=by omega
 have b1:=hph x.1.toNat
 have b2:=hph x.2.toNat
 have g1:(⟨m.hp,m.next+1⟩:Mem).get (0,4,3)=some (.row [I r,I c,p] 0 false):=h1
 have g3:(⟨m.hp,m.next+1⟩:Mem).get (0,10,4)=some (.row [I n,ev] 0 false):=h3
 have g4:(⟨m.hp,m.next+1⟩:Mem).get (0,18,5)=some (.row [ws] 0 false):=h4
 have hnb:Nat.blt 0 (m.next+1)=true:=by simp[Nat.blt]
 have ia0:∀id,sIxA 2 1 (.ptr id 0 0) (I 0)=some (.ptr id 0 0):=fun _=>by simp[sIxA,asI]
 have ia1:∀id,sIxA 2 1 (.ptr id 0 0) (I 1)=some (.ptr id 0 1):=fun _=>by simp[sIxA,asI]
 obtain⟨M,hM⟩:∃M,M=(((⟨m.hp,m.next+1⟩:Mem).new (m.next,1,7) (.row [I 0,I 0] 0 false)).set (m.next,1,7) (.row [I x.1,I x.2] 0 false)):=⟨_,rfl⟩
 have hMg:∀j:Id,j≠(m.next,1,7)->M.get j=m.get j:=fun j hj=>by
  rw[hM,Mem.get_set,if_neg hj,Mem.get_new,if_neg hj];rfl
 have hM7:M.get (m.next,1,7)=some (.row [I x.1,I x.2] 0 false):=by rw[hM];simp
 have hMn:M.next=m.next+1:=by rw[hM];rfl
 have e1:M.get (0,4,3)=some (.row [I r,I c,p] 0 false):=by rw[hMg _ (by simp)];exact h1
 have e3:M.get (0,10,4)=some (.row [I n,ev] 0 false):=by rw[hMg _ (by simp)];exact h3
 have e4:M.get (0,18,5)=some (.row [ws] 0 false):=by rw[hMg _ (by simp)];exact h4
 have hGM:Gk 4 Edge.c okE M ev l:=hG.frame fun id hid=>hMg id (by rintro rfl;rcases hid with h|h<;>simp at h)
 have start:∀K:Option Mem,x69 (x1qp (d+1)) hs m.next (.ptr (0,4,3) 0 0) (.ptr (0,10,4) 0 0) (.ptr (0,18,5) 0 0) (I k) (.ptr (m.next,1,7) 0 0) M 3=K ->
  x6x (x1qp (d+1)) hs m.next (.ptr (0,4,3) 0 0) (.ptr (0,10,4) 0 0) (.ptr (0,18,5) 0 0) (I k) (.agg [I x.1,I x.2]) ⟨m.hp,m.next+1⟩ 0=K:=by
  intro K hK
  unfold x6x
  rw[<-hK,hM]
  simp[x20n]
 by_cases v1:at0 ph x.1.toNat=void
 .have hv:x1s8 ph x=true:=by simp[x1s8,v1]
  refine⟨M,start _ ?_,⟨e1,⟨ev,e3,by rw[if_pos hv];exact hGM⟩,e4,by omega⟩,hMg _ (by simp)⟩
  unfold x69
  simp(disch:=omega) [e1,hM7,ia0,ia1,i1,i2,x1rg,x1uf,v1]
 by_cases v2:at0 ph x.2.toNat=void
 .have hv:x1s8 ph x=true:=by simp[x1s8,v2]
  refine⟨M,start _ ?_,⟨e1,⟨ev,e3,by rw[if_pos hv];exact hGM⟩,e4,by omega⟩,hMg _ (by simp)⟩
  unfold x69
  simp(disch:=omega) [e1,hM7,ia0,ia1,i1,i2,x1rg,x1uf,v1,v2]
 have hv:x1s8 ph x=false:=by simp[x1s8,v1,v2]
 have hj:=jumpM_w (a:=at0 ph x.1.toNat) (b:=at0 ph x.2.toNat) (by omega) (by omega) (by omega) (by omega)
 have hwr:=x22w (at0 ph x.2.toNat-at0 ph x.1.toNat)
 obtain⟨a',m2,A,hG2,c1,c2,n2,f2⟩:=hGM.app Edge.len (by omega) (bytes:=32) (id0:=(m.next,3+41,68)) (Or.inl rfl) (by unfold x1r4;omega) (mkE ph wl k x)
 have e3':m2.get (0,10,4)=some (.row [I n,ev] 0 false):=by rw[f2 _ (by unfold okE;simp)];exact e3
 refine⟨m2.set (0,10,4) (.row [I n,a'] 0 false),start _ ?_,⟨?_,⟨a',by simp,?_⟩,?_,?_⟩,?_⟩
 .unfold x69
  have hel:∀M:Mem,elems M.get 4 (.slit [I x.1,I x.2,I (x1sv (at0 ph x.1.toNat) (at0 ph x.2.toNat)),I (at0 wl k)] 1 true)=some ((mkE ph wl k x).c,1):=fun _=>rfl
  have hq:sQuo (I (at0 ph x.2.toNat-at0 ph x.1.toNat-x1ti (at0 ph x.2.toNat-at0 ph x.1.toNat))) (I 4096)=some (I (x1sv (at0 ph x.1.toNat) (at0 ph x.2.toNat))):=by rw[x1z1 (by omega),hj]
  have hc:∀z:AV,cAp (some M.next) (tR (.ptr (0,18,5) 0 0)) 2=true:=fun _=>by rw[hMn];simp[cAp,tR,Nat.blt]
  have hc2:∀l:List AV,cAp (some M.next) (tR (.plit l)) 2=true:=fun _=>rfl
  simp(disch:=omega) [e1,hM7,ia0,ia1,i1,i2,iw,x1rg,x1uf,v1,v2,e3,e4,x268,hq,x28v,mkLit_4,hel,A,e3',c1,c2,hc U,hc2,x1qs,disj,tR]
  simp[hc U,hc2,cAp,tR,hMn,Nat.blt,Nat.ble_eq_true_of_le (show 1<=m.next+1 by omega)]
 .rw[Mem.get_set,if_neg (by simp),f2 _ (by unfold okE;simp)];exact e1
 .rw[hv]
  simp only[Bool.false_eq_true,if_false]
  exact hG2.frame fun id hid=>by rw[Mem.get_set,if_neg (by rintro rfl;rcases hid with h|h<;>simp at h)]
 .rw[Mem.get_set,if_neg (by simp),f2 _ (by unfold okE;simp)];exact e4
 .simp only[Mem.next_set];omega
 .rw[Mem.get_set,if_neg (by simp),f2 _ (by unfold okE;simp),hMg _ (by simp)]
theorem x1v7{r c:Int}{ph ac dn:List Int}(h:x1rq r c ph ac dn=0):1<=r/\r<=64/\1<=c/\c<=64/\(ph.length:Int)=r*c/\x1st isW ph=0/\(ac.length:Int)=r*(c-1)/\(dn.length:Int)=(r-1)*c/\(ph.length:Int)<=144/\x1uu (ac++dn)=0:=by
 unfold x1rq at h
 by_cases c1:x1td r c ph.length=0
 rotate_left
 .simp[c1]at h
 have hsz:x1wl (fun _=>true) r c ph=0:=by
  unfold x1wl x1st
  simp[c1]
  cases e:ph.any (badP fun _=>true)
  .rfl
  .exfalso
   rw[List.any_eq_true]at e
   obtain⟨x,-,hx⟩:=e
   simp[badP]at hx
 obtain⟨r0,r1,c0,c2,hlen,-⟩:=x22x hsz
 by_cases c3:144<(ph.length:Int)
 .simp[c1,c3]at h
 by_cases c4:x1st isW ph=0
 rotate_left
 .simp[c1,c3,c4]at h
 by_cases c5:(ac.length:Int)=r*(c-1)
 rotate_left
 .simp[c1,c3,c4,c5]at h
 by_cases c6:(dn.length:Int)=(r-1)*c
 rotate_left
 .simp[c1,c3,c4,c5,c6]at h
 simp[c1,c3,c4,c5,c6]at h
 exact⟨r0,r1,c0,c2,hlen,c4,c5,c6,by omega,h⟩
theorem x232(d:Nat){r c:Int}{p a b:AV}{ph ac dn:List Int}(hp:Ints p ph)(ha:Ints a ac)(hb:Ints b dn)(hr:x1rq r c ph ac dn=0)(m:Mem) :
 ∃ev,Sl Edge.c ev (x1rn r c ph ac dn)/\x1qq (x1qp (d+4)) x1j [.agg [I r,I c,p,a,b]] m=some (.agg [I ph.length,ev],m):=by
 obtain⟨r0,r1,c0,c1,hlen,hph,hac,hdn,-,-⟩:=x1v7 hr
 have hrc:=x1x0 (wi_iff.mpr ⟨r0,r1⟩) (wi_iff.mpr ⟨c0,c1⟩)
 have e1:r*(c-1)=r*c-r:=by rw[Int.mul_sub];omega
 have e2:(r-1)*c=r*c-c:=by rw[Int.sub_mul];omega
 have hsl:=x20m r0 c0
 have hin:=x1w0 hph
 obtain⟨m4,hm4⟩:∃m4:Mem,m4=((((((⟨[],1⟩:Mem).new (0,0,1) (.row [I r,I c,p,a,b] 0 false)).new (0,1,2) (.row [I 0,nilS] 0 false)).new (0,4,3) (.row [I 0,I 0,nilS] 0 false)).set (0,4,3) (.row [I r,I c,p] 0 false)).new (0,10,4) (.row [I 0,nilS] 0 false)).set (0,10,4) (.row [I ph.length,nilS] 0 false):=⟨_,rfl⟩
 obtain⟨ws,hws,hC⟩:=x254 (d+1) ha hb (by omega) (by omega) m4
 obtain⟨m5,hm5⟩:∃m5:Mem,m5=(m4.new (0,18,5) (.row [nilS] 0 false)).set (0,18,5) (.row [ws] 0 false):=⟨_,rfl⟩
 have hsd:x1qq (x1qp (d+3)) x6o [I r,I c] m5=some (.clo x41 [.plit [I c],.plit [I r]],m5):=by
  refine x1t6 (m':=((⟨[],1⟩:Mem).new (0,0,2) (.row [I r] 0 false)).new (0,1,3) (.row [I c] 0 false)) (r:=.clo x41 [.ptr (0,1,3) 0 0,.ptr (0,0,2) 0 0]) rfl ?_ ?_
  .rw[x102]
   unfold xes xh6
   simp[mem0]
  .rfl
 have h0:NetInv r c ph.length p ws ph (ac++dn) (0,4,3) (0,10,4) (0,18,5) ⟨m5.hp,m5.next+1⟩ []/\(⟨m5.hp,m5.next+1⟩:Mem).get (0,1,2)=some (.row [I 0,nilS] 0 false):=by
  have g:∀id,(⟨m5.hp,m5.next+1⟩:Mem).get id=m5.get id:=fun _=>rfl
  refine⟨⟨?_,⟨nilS,?_,.nil⟩,?_,by simp⟩,?_⟩<;>rw[g,hm5,hm4]<;>simp
 obtain⟨m',hcall,hI,hres⟩:=w_sides1 (d+2) (0,25,0) (fun args m=>bif Nat.beq args.length 2&&true then x6x (x1qp (d+3)) [] m.next (.ptr (0,4,3) 0 0) (.ptr (0,10,4) 0 0) (.ptr (0,18,5) 0 0) (args.getD 0 U) (args.getD 1 U) ⟨m.hp,m.next+1⟩ 0 else none) [] r0 r1 c0 c1
  (fun k m=>NetInv r c ph.length p ws ph (ac++dn) (0,4,3) (0,10,4) (0,18,5) m (netM ph (ac++dn) 0 ((x1tj r c).take k))/\m.get (0,1,2)=some (.row [I 0,nilS] 0 false)) m5 h0 (by
   intro k x m hx ⟨hI,hg⟩
   obtain⟨hk,hxe⟩:=List.getElem?_eq_some_iff.mp hx
   have hb:=x20l r0 c0 (hxe▸List.getElem_mem hk)
   have hl:=x1x1 ph (ac++dn) ((x1tj r c).take k) 0
   obtain⟨m',h1,h2,h3⟩:=x28w (d+2) (hs:=[]) hp hws hin (by simp at hl;omega) hI (fun _ _ _ _=>trivial) (k:=k) (x:=x) (by simp;omega) (by omega)
   refine⟨m',?_,?_,by rw[h3];exact hg⟩
   .simpa using h1
   .rw[List.take_succ_eq_append_getElem hk,hxe,netM_snoc,List.length_take,Nat.min_eq_left (by omega)]
    exact h2)
 rw[List.take_length]at hI
 obtain⟨-,⟨ev,hgn,hG⟩,-,-⟩:=hI
 have hG2:Gk 4 Edge.c okE (m'.set (0,1,2) (.row [I ph.length,ev] 0 false)) ev (x1rn r c ph ac dn):=hG.frame fun id hid=>by rw[Mem.get_set,if_neg (by rintro rfl;rcases hid with h|h<;>simp at h)]
 obtain⟨ev',hev,hfz⟩:=hG2.frz (k:=3) Edge.len Edge.still1
 refine⟨ev',hev,x1t6 (by simp[hp.still1,ha.still1,hb.still1]) (m':=m'.set (0,1,2) (.row [I ph.length,ev] 0 false)) (r:=.agg [I ph.length,ev]) ?_ ?_⟩
 .rw[xza]
  unfold xea xge
  have hml:∀(id:Id) (m:Mem) (k:AV->Mem->Option (AV×Mem)),x1r2 [nilS] [(0,1,a),(1,1,b)] 2 1 id m k=k (.slit [a,b] 2 true) m:=by
   intro id m k
   simp[x1r2,x1rx,x1rd,ha.cells,hb.cells,ha.one,hb.one,ha.clean1,hb.clean1,List.range_succ,x1rc]
  have hbn:x1qx [I 0,nilS] [(0,1,I ph.length)]=some (.agg [I ph.length,nilS]):=by simp[x1qx,x1rx]
  rw[hm4]at hC
  simp[mem0,hp.one,ha.one,hb.one,x1ut,z_net,hp.len x1r8,hml,hbn,hC,x1vx,hws.cells,hws.one]
  rw[<-hm4,<-hm5]
  unfold xbm
  have g3:m5.get (0,4,3)=some (.row [I r,I c,p] 0 false):=by rw[hm5,hm4];simp
  simp only[x1rh,x1qt,Nat.zero_add,x1qy,g3,x1r0,Nat.beq_refl,x1qw,List.drop_zero,List.drop_succ_cons,rd_f,hsd]
  unfold xbl
  simp only[sRng]
  rw[show(20+5:Nat)=25 from rfl]
  rw[hcall]
  unfold x68
  simp[hgn,hres,hG.one.1,hG.one.2,sLdP]
 .show([I (ph.length:Int),ev].mapM (frz (m'.set (0,1,2) (.row [I ph.length,ev] 0 false)).get 5)).map AV.agg=_
  simp only[List.mapM_cons,List.mapM_nil,hfz]
  rfl
theorem w_edge(d:Nat){r c w:Int}{p:AV}{ph:List Int}(hp:Ints p ph)(hph:PhIn ph){x:Int×Int}(hx:0<=x.1/\x.1<ph.length/\0<=x.2/\x.2<ph.length)(m:Mem) :
 x1qq (x1qp (d+3)) x5g [.agg [I r,I c,p],I x.1,I x.2,I w] m=some (.tup (bif x1s8 ph x then[.agg [I 0,I 0,I 0,I 0],B false]else[.agg [I x.1,I x.2,I (x1sv (at0 ph x.1.toNat) (at0 ph x.2.toNat)),I w],B true]),m):=by
 obtain⟨x0,x1,x2,x3⟩:=hx
 have i1:=hp.ixI x1rk x0 x1
 have i2:=hp.ixI x1rk x2 x3
 have l1:x.1.toNat<ph.length:=by omega
 have l2:x.2.toNat<ph.length:=by omega
 have b1:=hph x.1.toNat
 have b2:=hph x.2.toNat
 refine Ans.call0_tup ?_ (by simp[hp.still1]) (by cases x1s8 ph x<;>rfl)
 unfold Ans
 rw[xzi]
 unfold xei xgn
 have hb0:x1qx [I 0,I 0,I 0,I 0] []=some (.agg [I 0,I 0,I 0,I 0]):=rfl
 by_cases v1:at0 ph x.1.toNat=void
 .simp[mem0,hp.one,x1t7,i1,i2,l1,l2,x1rg,v1,hb0,sLdP,x1s8]
 by_cases v2:at0 ph x.2.toNat=void
 .simp[mem0,hp.one,x1t7,i1,i2,l1,l2,x1rg,v1,v2,hb0,sLdP,x1s8]
 have hwr:=x22w (at0 ph x.2.toNat-at0 ph x.1.toNat)
 have hj:=jumpM_w (a:=at0 ph x.1.toNat) (b:=at0 ph x.2.toNat) (by omega) (by omega) (by omega) (by omega)
 have hq:sQuo (I (at0 ph x.2.toNat-at0 ph x.1.toNat-x1ti (at0 ph x.2.toNat-at0 ph x.1.toNat))) (I 4096)=some (I (x1sv (at0 ph x.1.toNat) (at0 ph x.2.toNat))):=by rw[x1z1 (by omega),hj]
 have hb:∀a b c d:Int,x1qx [I 0,I 0,I 0,I 0] [(0,1,I a),(1,1,I b),(2,1,I c),(3,1,I d)]=some (.agg [I a,I b,I c,I d]):=fun a b c d=>by simp[x1qx,x1rx]
 simp(disch:=omega) [mem0,hp.one,x1t7,i1,i2,l1,l2,x1rg,v1,v2,w_Wrapped,hq,hb,sLdP,x1s8]
structure RefInv (r c n:Int) (p a b:AV) (m:Mem) (l:List Edge):Prop where
 task:m.get (0,0,1)=some (.row [I r,I c,p,a,b] 0 false)
 res:m.get (0,1,2)=some (.row [I 0,nilS] 0 false)
 map:m.get (0,4,3)=some (.row [I r,I c,p] 0 false)
 nxt:1<=m.next
 net:∃ev,m.get (0,12,4)=some (.row [I n,ev] 0 false)/\Gk 4 Edge.c okE m ev l
theorem x26h{id:Id}{a b c d:Int}{m:Mem}{R:Type}(k:AV->Mem->Option R):x1r2 [I 0,I 0,I 0,I 0] [(0,4,.agg [I a,I b,I c,I d])] 1 4 id m k=k (.slit [I a,I b,I c,I d] 1 true) m:=by
 simp[x1r2,x1rx,x1rd,List.range_succ,x1rc]
theorem l_rNet3(d:Nat)(hs:FHs){r c n:Int}{p a b:AV}{ph ac dn:List Int}(hp:Ints p ph)(ha:Ints a ac)(hb:Ints b dn)(hph:PhIn ph)(r1:r<=64)(c0:1<=c)(c1:c<=64)(hlen:(ph.length:Int)=r*c)(hac:(ac.length:Int)=r*(c-1))(q:Int)(q0:0<=q)(q1:q<r)(rec2:AV->AV->AV->AV->AV->Mem->Nat->Option (AV×Mem)) :
 ∀(s:Nat) (k:Int) (j:Nat) (l:List Edge) (m:Mem) (fc:Nat),0<=k->k+s=c-1->s<j->l.length+s<=20000->RefInv r c n p a b m l ->
 ∃m' fc',x1d (x1qp (d+3)) hs 0 rec2 j (.ptr (0,0,1) 0 0) (.ptr (0,1,2) 0 0) (.ptr (0,4,3) 0 0) (.ptr (0,12,4) 0 0) (I q) (I k) m fc=rec2 (.ptr (0,0,1) 0 0) (.ptr (0,1,2) 0 0) (.ptr (0,4,3) 0 0) (.ptr (0,12,4) 0 0) (I (q+1)) m' fc' /\
  RefInv r c n p a b m' (l++netM ph (ac++dn) (q*(c-1)+k).toNat (rowL 1 (q*c) s k)):=by
 have hqc0:0<=q*c:=Int.mul_nonneg q0 (by omega)
 have hqc:(q+1)*c<=r*c:=Int.mul_le_mul_of_nonneg_right (by omega) (by omega)
 have hrc:r*c<=64*64:=Int.mul_le_mul r1 c1 (by omega) (by omega)
 rw[Int.add_mul]at hqc
 have e2:q*(c-1)=q*c-q:=by rw[Int.mul_sub];omega
 have e3:r*(c-1)=r*c-r:=by rw[Int.mul_sub];omega
 have hq2:0<=q*(c-1):=Int.mul_nonneg q0 (by omega)
 have hq3:(q+1)*(c-1)<=r*(c-1):=Int.mul_le_mul_of_nonneg_right (by omega) (by omega)
 rw[Int.add_mul]at hq3
 intro s
 induction s with
 |zero=>
  intro k j l m fc k0 hk hj hl hI
  obtain⟨j,rfl⟩:∃i,j=i+1:=⟨j-1,by omega⟩
  refine⟨m,fc+5+3,?_,by simpa[rowL,netM]using hI⟩
  simp only[x1d]
  unfold x8e
  simp(disch:=omega) [hI.map,show ¬(k+1<c) by omega,xm]
 |succ s ih=>
  intro k j l m fc k0 hk hj hl hI
  obtain⟨j,rfl⟩:∃i,j=i+1:=⟨j-1,by omega⟩
  obtain⟨h1,h2,h3,hn,ev,h4,hG⟩:=hI
  have we:=fun m=>w_edge d (r:=r) (c:=c) (w:=at0 ac (q*(c-1)+k).toNat) hp hph (x:=(q*c+k,q*c+k+1)) (by simp only;omega) m
  simp only at we
  have ix:=ha.ixI x1rk (k:=q*(c-1)+k) (by omega) (by omega)
  have la:(q*(c-1)+k).toNat<ac.length:=by omega
  have hkc:k+1<c:=by omega
  have hidx:(q*(c-1)+k).toNat+1=(q*(c-1)+(k+1)).toNat:=by omega
  have hmk:mkE ph (ac++dn) (q*(c-1)+k).toNat (q*c+k,q*c+k+1)=⟨q*c+k,q*c+k+1,x1sv (at0 ph (q*c+k).toNat) (at0 ph (q*c+k+1).toNat),at0 ac (q*(c-1)+k).toNat⟩:=by
   unfold mkE
   rw[x252 la]
  have hrow:netM ph (ac++dn) (q*(c-1)+k).toNat (rowL 1 (q*c) (s+1) k)=(if x1s8 ph (q*c+k,q*c+k+1)=true then[]else[mkE ph (ac++dn) (q*(c-1)+k).toNat (q*c+k,q*c+k+1)])++netM ph (ac++dn) (q*(c-1)+(k+1)).toNat (rowL 1 (q*c) s (k+1)):=by
   rw[rowL,netM,hidx]
   cases x1s8 ph (q*c+k,q*c+k+1)<;>rfl
  rw[hrow]
  have hnb:Nat.ble 1 m.next=true:=Nat.ble_eq_true_of_le hn
  cases hv:x1s8 ph (q*c+k,q*c+k+1)
  .simp only[Bool.false_eq_true,if_false]
   simp only[hv,cond_false]at we
   obtain⟨M,hM⟩:∃M,M=(m.new (0,fc+5+29,7) (.row [I 0,I 0,I 0,I 0] 0 false)).set (0,fc+5+29,7) (.row [I (q*c+k),I (q*c+k+1),I (x1sv (at0 ph (q*c+k).toNat) (at0 ph (q*c+k+1).toNat)),I (at0 ac (q*(c-1)+k).toNat)] 0 false):=⟨_,rfl⟩
   have hMg:∀i:Id,i≠(0,fc+5+29,7)->M.get i=m.get i:=fun i hi=>by rw[hM,Mem.get_set,if_neg hi,Mem.get_new,if_neg hi]
   have g7:M.get (0,fc+5+29,7)=some (.row [I (q*c+k),I (q*c+k+1),I (x1sv (at0 ph (q*c+k).toNat) (at0 ph (q*c+k+1).toNat)),I (at0 ac (q*(c-1)+k).toNat)] 0 false):=by rw[hM];simp
   have g4:M.get (0,12,4)=some (.row [I n,ev] 0 false):=by rw[hMg _ (by simp)];exact h4
   have hGM:Gk 4 Edge.c okE M ev l:=hG.frame fun id hid=>hMg id (by rintro rfl;rcases hid with h|h<;>simp at h)
   obtain⟨a',m2,A,hG2,u1,u2,n2,f2⟩:=hGM.app Edge.len (by omega) (bytes:=32) (id0:=(0,fc+5+37,68)) (Or.inl rfl) (by unfold x1r4;omega) (mkE ph (ac++dn) (q*(c-1)+k).toNat (q*c+k,q*c+k+1))
   have g4':m2.get (0,12,4)=some (.row [I n,ev] 0 false):=by rw[f2 _ (by unfold okE;simp)];exact g4
   have hI':RefInv r c n p a b (m2.set (0,12,4) (.row [I n,a'] 0 false)) (l++[mkE ph (ac++dn) (q*(c-1)+k).toNat (q*c+k,q*c+k+1)]):=by
    refine⟨?_,?_,?_,by simp only[Mem.next_set,n2,hM,Mem.next_new];exact hn,a',by simp,hG2.frame fun id hid=>by rw[Mem.get_set,if_neg (by rintro rfl;rcases hid with h|h<;>simp at h)]⟩
    .rw[Mem.get_set,if_neg (by simp),f2 _ (by unfold okE;simp),hMg _ (by simp)];exact h1
    .rw[Mem.get_set,if_neg (by simp),f2 _ (by unfold okE;simp),hMg _ (by simp)];exact h2
    .rw[Mem.get_set,if_neg (by simp),f2 _ (by unfold okE;simp),hMg _ (by simp)];exact h3
   have hel:∀M:Mem,elems M.get 4 (.slit [I (q*c+k),I (q*c+k+1),I (x1sv (at0 ph (q*c+k).toNat) (at0 ph (q*c+k+1).toNat)),I (at0 ac (q*(c-1)+k).toNat)] 1 true)=some ((mkE ph (ac++dn) (q*(c-1)+k).toNat (q*c+k,q*c+k+1)).c,1):=fun _=>by rw[hmk];rfl
   have step:x1d (x1qp (d+3)) hs 0 rec2 (j+1) (.ptr (0,0,1) 0 0) (.ptr (0,1,2) 0 0) (.ptr (0,4,3) 0 0) (.ptr (0,12,4) 0 0) (I q) (I k) m fc=x1d (x1qp (d+3)) hs 0 rec2 j (.ptr (0,0,1) 0 0) (.ptr (0,1,2) 0 0) (.ptr (0,4,3) 0 0) (.ptr (0,12,4) 0 0) (I q) (I (k+1)) (m2.set (0,12,4) (.row [I n,a'] 0 false)) (fc+5+40+3):=by
    simp only[x1d]
    unfold x8e x8d
    simp(disch:=omega) [h1,h3,hkc,ix,x1rg,we,hp.clean1,x1t7,x1qs,disj,tR,cAp,Nat.blt,hnb]
    simp only[List.getElem?_cons_zero,List.getElem?_cons_succ,x1qt]
    simp(disch:=omega) [<-hM,h4,g7,g4,x26h,hel,A,g4',u1,u2,x6v]
   rw[step,<-List.append_assoc]
   exact ih (k+1) j _ _ _ (by omega) (by omega) (by omega) (by simp;omega) hI'
  .simp only[if_true,List.nil_append]
   simp only[hv,cond_true]at we
   obtain⟨M,hM⟩:∃M,M=(m.new (0,fc+5+29,7) (.row [I 0,I 0,I 0,I 0] 0 false)).set (0,fc+5+29,7) (.row [I 0,I 0,I 0,I 0] 0 false):=⟨_,rfl⟩
   have hMg:∀i:Id,i≠(0,fc+5+29,7)->M.get i=m.get i:=fun i hi=>by rw[hM,Mem.get_set,if_neg hi,Mem.get_new,if_neg hi]
   have hI':RefInv r c n p a b M l:=by
    refine⟨?_,?_,?_,by simp only[hM,Mem.next_set,Mem.next_new];exact hn,ev,?_,hG.frame fun id hid=>hMg id (by rintro rfl;rcases hid with h|h<;>simp at h)⟩<;>rw[hMg _ (by simp)]<;>assumption
   have step:x1d (x1qp (d+3)) hs 0 rec2 (j+1) (.ptr (0,0,1) 0 0) (.ptr (0,1,2) 0 0) (.ptr (0,4,3) 0 0) (.ptr (0,12,4) 0 0) (I q) (I k) m fc=x1d (x1qp (d+3)) hs 0 rec2 j (.ptr (0,0,1) 0 0) (.ptr (0,1,2) 0 0) (.ptr (0,4,3) 0 0) (.ptr (0,12,4) 0 0) (I q) (I (k+1)) M (fc+5+33+3):=by
    simp only[x1d]
    unfold x8e x8d
    simp(disch:=omega) [h1,h3,hkc,ix,x1rg,we,hp.clean1,x1t7,x1qs,disj,tR,cAp,Nat.blt,hnb]
    simp only[List.getElem?_cons_zero,List.getElem?_cons_succ,x1qt]
    simp(disch:=omega) [<-hM,x6v]
   rw[step]
   exact ih (k+1) j l M _ (by omega) (by omega) (by omega) (by omega) hI'
theorem l_rNet1(d:Nat)(hs:FHs){r c n:Int}{p a b:AV}{ph ac dn:List Int}(hp:Ints p ph)(ha:Ints a ac)(hb:Ints b dn)(hph:PhIn ph)(r1:r<=64)(c0:1<=c)(c1:c<=64)(hlen:(ph.length:Int)=r*c)(hac:(ac.length:Int)=r*(c-1))(hdn:(dn.length:Int)=(r-1)*c)(r0:1<=r)(q:Int)(q0:0<=q)(q1:q<r-1)(rec0:AV->AV->AV->AV->AV->Mem->Nat->Option (AV×Mem)) :
 ∀(s:Nat) (k:Int) (j:Nat) (l:List Edge) (m:Mem) (fc:Nat),0<=k->k+s=c->s<j->l.length+s<=20000->RefInv r c n p a b m l ->
 ∃m' fc',x1c (x1qp (d+3)) hs 0 rec0 j (.ptr (0,0,1) 0 0) (.ptr (0,1,2) 0 0) (.ptr (0,4,3) 0 0) (.ptr (0,12,4) 0 0) (I q) (I k) m fc=rec0 (.ptr (0,0,1) 0 0) (.ptr (0,1,2) 0 0) (.ptr (0,4,3) 0 0) (.ptr (0,12,4) 0 0) (I (q+1)) m' fc' /\
  RefInv r c n p a b m' (l++netM ph (ac++dn) (r*(c-1)+(q*c+k)).toNat (rowL c (q*c) s k)):=by
 have hqc0:0<=q*c:=Int.mul_nonneg q0 (by omega)
 have hqc:(q+1)*c<=(r-1)*c:=Int.mul_le_mul_of_nonneg_right (by omega) (by omega)
 have hrc:r*c<=64*64:=Int.mul_le_mul r1 c1 (by omega) (by omega)
 rw[Int.add_mul,Int.sub_mul]at hqc
 have e3:r*(c-1)=r*c-r:=by rw[Int.mul_sub];omega
 have e4:(r-1)*c=r*c-c:=by rw[Int.sub_mul];omega
 have e5:0<=r*(c-1):=Int.mul_nonneg (by omega) (by omega)
 intro s
 induction s with
 |zero=>
  intro k j l m fc k0 hk hj hl hI
  obtain⟨j,rfl⟩:∃i,j=i+1:=⟨j-1,by omega⟩
  refine⟨m,fc+4+3,?_,by simpa[rowL,netM]using hI⟩
  simp only[x1c]
  unfold x8b
  simp(disch:=omega) [hI.map,show ¬(k<c) by omega,xl]
 |succ s ih=>
  intro k j l m fc k0 hk hj hl hI
  obtain⟨j,rfl⟩:∃i,j=i+1:=⟨j-1,by omega⟩
  obtain⟨h1,h2,h3,hn,ev,h4,hG⟩:=hI
  have we:=fun m=>w_edge d (r:=r) (c:=c) (w:=at0 dn (q*c+k).toNat) hp hph (x:=(q*c+k,q*c+k+c)) (by simp only;omega) m
  simp only at we
  have ix:=hb.ixI x1rk (k:=q*c+k) (by omega) (by omega)
  have la:(q*c+k).toNat<dn.length:=by omega
  have hto:(q+1)*c+k=q*c+k+c:=by rw[Int.add_mul];omega
  have hmul:-9223372036854775808<=(q+1)*c/\(q+1)*c<=9223372036854775807:=by rw[Int.add_mul];omega
  have hkc:k<c:=by omega
  have hidx:(r*(c-1)+(q*c+k)).toNat+1=(r*(c-1)+(q*c+(k+1))).toNat:=by omega
  have hix:(r*(c-1)+(q*c+k)).toNat=ac.length+(q*c+k).toNat:=by omega
  have hmk:mkE ph (ac++dn) (r*(c-1)+(q*c+k)).toNat (q*c+k,q*c+k+c)=⟨q*c+k,q*c+k+c,x1sv (at0 ph (q*c+k).toNat) (at0 ph (q*c+k+c).toNat),at0 dn (q*c+k).toNat⟩:=by
   unfold mkE
   rw[hix,at0_right]
  have hrow:netM ph (ac++dn) (r*(c-1)+(q*c+k)).toNat (rowL c (q*c) (s+1) k)=(if x1s8 ph (q*c+k,q*c+k+c)=true then[]else[mkE ph (ac++dn) (r*(c-1)+(q*c+k)).toNat (q*c+k,q*c+k+c)])++netM ph (ac++dn) (r*(c-1)+(q*c+(k+1))).toNat (rowL c (q*c) s (k+1)):=by
   rw[rowL,netM,hidx]
   cases x1s8 ph (q*c+k,q*c+k+c)<;>rfl
  rw[hrow]
  have hnb:Nat.ble 1 m.next=true:=Nat.ble_eq_true_of_le hn
  cases hv:x1s8 ph (q*c+k,q*c+k+c)
  .simp only[Bool.false_eq_true,if_false]
   simp only[hv,cond_false]at we
   obtain⟨M,hM⟩:∃M,M=(m.new (0,fc+4+28,11) (.row [I 0,I 0,I 0,I 0] 0 false)).set (0,fc+4+28,11) (.row [I (q*c+k),I (q*c+k+c),I (x1sv (at0 ph (q*c+k).toNat) (at0 ph (q*c+k+c).toNat)),I (at0 dn (q*c+k).toNat)] 0 false):=⟨_,rfl⟩
   have hMg:∀i:Id,i≠(0,fc+4+28,11)->M.get i=m.get i:=fun i hi=>by rw[hM,Mem.get_set,if_neg hi,Mem.get_new,if_neg hi]
   have g7:M.get (0,fc+4+28,11)=some (.row [I (q*c+k),I (q*c+k+c),I (x1sv (at0 ph (q*c+k).toNat) (at0 ph (q*c+k+c).toNat)),I (at0 dn (q*c+k).toNat)] 0 false):=by rw[hM];simp
   have g4:M.get (0,12,4)=some (.row [I n,ev] 0 false):=by rw[hMg _ (by simp)];exact h4
   have hGM:Gk 4 Edge.c okE M ev l:=hG.frame fun id hid=>hMg id (by rintro rfl;rcases hid with h|h<;>simp at h)
   obtain⟨a',m2,A,hG2,u1,u2,n2,f2⟩:=hGM.app Edge.len (by omega) (bytes:=32) (id0:=(0,fc+4+36,116)) (Or.inr rfl) (by unfold x1r4;omega) (mkE ph (ac++dn) (r*(c-1)+(q*c+k)).toNat (q*c+k,q*c+k+c))
   have g4':m2.get (0,12,4)=some (.row [I n,ev] 0 false):=by rw[f2 _ (by unfold okE;simp)];exact g4
   have hI':RefInv r c n p a b (m2.set (0,12,4) (.row [I n,a'] 0 false)) (l++[mkE ph (ac++dn) (r*(c-1)+(q*c+k)).toNat (q*c+k,q*c+k+c)]):=by
    refine⟨?_,?_,?_,by simp only[Mem.next_set,n2,hM,Mem.next_new];exact hn,a',by simp,hG2.frame fun id hid=>by rw[Mem.get_set,if_neg (by rintro rfl;rcases hid with h|h<;>simp at h)]⟩
    .rw[Mem.get_set,if_neg (by simp),f2 _ (by unfold okE;simp),hMg _ (by simp)];exact h1
    .rw[Mem.get_set,if_neg (by simp),f2 _ (by unfold okE;simp),hMg _ (by simp)];exact h2
    .rw[Mem.get_set,if_neg (by simp),f2 _ (by unfold okE;simp),hMg _ (by simp)];exact h3
   have hel:∀M:Mem,elems M.get 4 (.slit [I (q*c+k),I (q*c+k+c),I (x1sv (at0 ph (q*c+k).toNat) (at0 ph (q*c+k+c).toNat)),I (at0 dn (q*c+k).toNat)] 1 true)=some ((mkE ph (ac++dn) (r*(c-1)+(q*c+k)).toNat (q*c+k,q*c+k+c)).c,1):=fun _=>by rw[hmk];rfl
   have step:x1c (x1qp (d+3)) hs 0 rec0 (j+1) (.ptr (0,0,1) 0 0) (.ptr (0,1,2) 0 0) (.ptr (0,4,3) 0 0) (.ptr (0,12,4) 0 0) (I q) (I k) m fc=x1c (x1qp (d+3)) hs 0 rec0 j (.ptr (0,0,1) 0 0) (.ptr (0,1,2) 0 0) (.ptr (0,4,3) 0 0) (.ptr (0,12,4) 0 0) (I q) (I (k+1)) (m2.set (0,12,4) (.row [I n,a'] 0 false)) (fc+4+39+3):=by
    simp only[x1c]
    unfold x8b x8a
    simp(disch:=omega) [h1,h3,hkc,hto,ix,x1rg,we,hp.clean1,x1t7,x1qs,disj,tR,cAp,Nat.blt,hnb]
    simp only[List.getElem?_cons_zero,List.getElem?_cons_succ,x1qt]
    simp(disch:=omega) [<-hM,h4,g7,g4,x26h,hel,A,g4',u1,u2,x6u]
   rw[step,<-List.append_assoc]
   exact ih (k+1) j _ _ _ (by omega) (by omega) (by omega) (by simp;omega) hI'
  .simp only[if_true,List.nil_append]
   simp only[hv,cond_true]at we
   obtain⟨M,hM⟩:∃M,M=(m.new (0,fc+4+28,11) (.row [I 0,I 0,I 0,I 0] 0 false)).set (0,fc+4+28,11) (.row [I 0,I 0,I 0,I 0] 0 false):=⟨_,rfl⟩
   have hMg:∀i:Id,i≠(0,fc+4+28,11)->M.get i=m.get i:=fun i hi=>by rw[hM,Mem.get_set,if_neg hi,Mem.get_new,if_neg hi]
   have hI':RefInv r c n p a b M l:=by
    refine⟨?_,?_,?_,by simp only[hM,Mem.next_set,Mem.next_new];exact hn,ev,?_,hG.frame fun id hid=>hMg id (by rintro rfl;rcases hid with h|h<;>simp at h)⟩<;>rw[hMg _ (by simp)]<;>assumption
   have step:x1c (x1qp (d+3)) hs 0 rec0 (j+1) (.ptr (0,0,1) 0 0) (.ptr (0,1,2) 0 0) (.ptr (0,4,3) 0 0) (.ptr (0,12,4) 0 0) (I q) (I k) m fc=x1c (x1qp (d+3)) hs 0 rec0 j (.ptr (0,0,1) 0 0) (.ptr (0,1,2) 0 0) (.ptr (0,4,3) 0 0) (.ptr (0,12,4) 0 0) (I q) (I (k+1)) M (fc+4+32+3):=by
    simp only[x1c]
    unfold x8b x8a
    simp(disch:=omega) [h1,h3,hkc,hto,ix,x1rg,we,hp.clean1,x1t7,x1qs,disj,tR,cAp,Nat.blt,hnb]
    simp only[List.getElem?_cons_zero,List.getElem?_cons_succ,x1qt]
    simp(disch:=omega) [<-hM,x6u]
   rw[step]
   exact ih (k+1) j l M _ (by omega) (by omega) (by omega) (by omega) hI'
theorem l_rNet0(d:Nat)(hs:FHs){r c n:Int}{p a b:AV}{ph ac dn:List Int}(hp:Ints p ph)(ha:Ints a ac)(hb:Ints b dn)(hph:PhIn ph)(r0:1<=r)(r1:r<=64)(c0:1<=c)(c1:c<=64)(hlen:(ph.length:Int)=r*c)(hac:(ac.length:Int)=r*(c-1))(hdn:(dn.length:Int)=(r-1)*c) :
 ∀(s:Nat) (q:Int) (j:Nat) (l:List Edge) (m:Mem) (fc:Nat),0<=q->q+s=r-1->s<j->l.length+s*c.toNat<=20000->RefInv r c n p a b m l ->
 ∃m' fc',x32 (x1qp (d+3)) hs 0 j (.ptr (0,0,1) 0 0) (.ptr (0,1,2) 0 0) (.ptr (0,4,3) 0 0) (.ptr (0,12,4) 0 0) (I q) m fc=xj (x1qp (d+3)) hs 0 (.ptr (0,1,2) 0 0) (.ptr (0,12,4) 0 0) m' fc' /\
  RefInv r c n p a b m' (l++netM ph (ac++dn) (r*(c-1)+q*c).toNat (x1sr c c c.toNat s q)):=by
 have e5:0<=r*(c-1):=Int.mul_nonneg (by omega) (by omega)
 intro s
 induction s with
 |zero=>
  intro q j l m fc q0 hq hj hl hI
  obtain⟨j,rfl⟩:∃i,j=i+1:=⟨j-1,by omega⟩
  refine⟨m,fc+5,?_,by simpa[x1sr,netM]using hI⟩
  simp only[x32]
  unfold xav
  simp(disch:=omega) [hI.map,show ¬(q+1<r) by omega]
 |succ s ih=>
  intro q j l m fc q0 hq hj hl hI
  obtain⟨j,rfl⟩:∃i,j=i+1:=⟨j-1,by omega⟩
  rw[Nat.succ_mul]at hl
  obtain⟨m1,f1,h1,I1⟩:=l_rNet1 d hs (n:=n) hp ha hb hph r1 c0 c1 hlen hac hdn r0 q q0 (by omega) (x32 (x1qp (d+3)) hs 0 j) c.toNat 0 NN l m (fc+5+1) (by omega) (by omega) (by rw[x1r6];omega) (by omega) hI
  have hqc0:0<=q*c:=Int.mul_nonneg q0 (by omega)
  have hl1:=x1x1 ph (ac++dn) (rowL c (q*c) c.toNat 0) (r*(c-1)+(q*c+0)).toNat
  rw[x1yc]at hl1
  obtain⟨m2,f2,h2,I2⟩:=ih (q+1) j _ m1 f1 (by omega) (by omega) (by omega) (by rw[List.length_append];omega) I1
  refine⟨m2,f2,?_,?_⟩
  .rw[<-h2,<-h1]
   rw[x32]
   unfold xav x8c
   simp(disch:=omega) [hI.map,show q+1<r by omega]
  .rw[x1sr,x1zf,x1yc,<-List.append_assoc]
   rw[Int.add_zero]at I2
   rw[show(r*(c-1)+q*c).toNat+c.toNat=(r*(c-1)+(q+1)*c).toNat by rw[Int.add_mul];omega]
   exact I2
theorem l_rNet2(d:Nat)(hs:FHs){r c n:Int}{p a b:AV}{ph ac dn:List Int}(hp:Ints p ph)(ha:Ints a ac)(hb:Ints b dn)(hph:PhIn ph)(r0:1<=r)(r1:r<=64)(c0:1<=c)(c1:c<=64)(hlen:(ph.length:Int)=r*c)(hac:(ac.length:Int)=r*(c-1))(hdn:(dn.length:Int)=(r-1)*c) :
 ∀(s:Nat) (q:Int) (j:Nat) (l:List Edge) (m:Mem) (fc:Nat),0<=q->q+s=r->s<j->l.length+s*(c.toNat-1)<=10000->RefInv r c n p a b m l ->
 ∃m' fc',x33 (x1qp (d+3)) hs 0 j (.ptr (0,0,1) 0 0) (.ptr (0,1,2) 0 0) (.ptr (0,4,3) 0 0) (.ptr (0,12,4) 0 0) (I q) m fc=xf (x1qp (d+3)) hs 0 (.ptr (0,0,1) 0 0) (.ptr (0,1,2) 0 0) (.ptr (0,4,3) 0 0) (.ptr (0,12,4) 0 0) m' fc' /\
  RefInv r c n p a b m' (l++netM ph (ac++dn) (q*(c-1)).toNat (x1sr c 1 (c.toNat-1) s q)):=by
 intro s
 induction s with
 |zero=>
  intro q j l m fc q0 hq hj hl hI
  obtain⟨j,rfl⟩:∃i,j=i+1:=⟨j-1,by omega⟩
  refine⟨m,fc+4,?_,by simpa[x1sr,netM]using hI⟩
  simp only[x33]
  unfold xaw
  simp(disch:=omega) [hI.map,show ¬(q<r) by omega]
 |succ s ih=>
  intro q j l m fc q0 hq hj hl hI
  obtain⟨j,rfl⟩:∃i,j=i+1:=⟨j-1,by omega⟩
  rw[Nat.succ_mul]at hl
  obtain⟨m1,f1,h1,I1⟩:=l_rNet3 d hs (n:=n) hp ha hb hph r1 c0 c1 hlen hac q q0 (by omega) (x33 (x1qp (d+3)) hs 0 j) (c.toNat-1) 0 NN l m (fc+4+1) (by omega) (by omega) (by rw[x1r6];omega) (by omega) hI
  have hqc0:0<=q*(c-1):=Int.mul_nonneg q0 (by omega)
  have hl1:=x1x1 ph (ac++dn) (rowL 1 (q*c) (c.toNat-1) 0) (q*(c-1)+0).toNat
  rw[x1yc]at hl1
  obtain⟨m2,f2,h2,I2⟩:=ih (q+1) j _ m1 f1 (by omega) (by omega) (by omega) (by rw[List.length_append];omega) I1
  refine⟨m2,f2,?_,?_⟩
  .rw[<-h2,<-h1]
   rw[x33]
   unfold xaw x8f
   simp(disch:=omega) [hI.map,show q<r by omega]
  .rw[x1sr,x1zf,x1yc,<-List.append_assoc]
   rw[Int.add_zero]at I2
   rw[show(q*(c-1)).toNat+(c.toNat-1)=((q+1)*(c-1)).toNat by rw[Int.add_mul];omega]
   exact I2
theorem w_rNetOf(d:Nat){r c:Int}{p a b:AV}{ph ac dn:List Int}(hp:Ints p ph)(ha:Ints a ac)(hb:Ints b dn)(hr:x1rq r c ph ac dn=0)(m:Mem) :
 ∃ev,Sl Edge.c ev (x1rn r c ph ac dn)/\x1qq (x1qp (d+4)) x1u [.agg [I r,I c,p,a,b]] m=some (.agg [I ph.length,ev],m):=by
 obtain⟨r0,r1,c0,c1,hlen,hph,hac,hdn,h144,-⟩:=x1v7 hr
 have hin:=x1w0 hph
 have hrc:(r*c).toNat=r.toNat*c.toNat:=Int.toNat_mul (by omega) (by omega)
 have hb1:r.toNat*(c.toNat-1)<=144:=Nat.le_trans (Nat.mul_le_mul_left r.toNat (show c.toNat-1<=c.toNat by omega)) (by omega)
 have hb2:(r.toNat-1)*c.toNat<=144:=Nat.le_trans (Nat.mul_le_mul_right c.toNat (show r.toNat-1<=r.toNat by omega)) (by omega)
 have I0:RefInv r c ph.length p a b ((((((⟨[],1⟩:Mem).new (0,0,1) (.row [I r,I c,p,a,b] 0 false)).new (0,1,2) (.row [I 0,nilS] 0 false)).new (0,4,3) (.row [I 0,I 0,nilS] 0 false)).set (0,4,3) (.row [I r,I c,p] 0 false)).new (0,12,4) (.row [I 0,nilS] 0 false) |>.set (0,12,4) (.row [I ph.length,nilS] 0 false)) []:=by
  refine⟨?_,?_,?_,by simp,nilS,?_,.nil⟩<;>simp
 obtain⟨m1,f1,h1,I1⟩:=l_rNet2 d [] hp ha hb hin r0 r1 c0 c1 hlen hac hdn r.toNat 0 NN [] _ 15 (by omega) (by omega) (by rw[x1r6];omega) (by simp;omega) I0
 have hl1:=x1x1 ph (ac++dn) (x1sr c 1 (c.toNat-1) r.toNat 0) (0*(c-1)).toNat
 rw[x1ze]at hl1
 obtain⟨m2,f2,h2,I2⟩:=l_rNet0 d [] hp ha hb hin r0 r1 c0 c1 hlen hac hdn (r.toNat-1) 0 NN _ m1 (f1+1) (by omega) (by omega) (by rw[x1r6];omega) (by simp only[List.nil_append];omega) I1
 have hE:[]++netM ph (ac++dn) (0*(c-1)).toNat (x1sr c 1 (c.toNat-1) r.toNat 0)++netM ph (ac++dn) (r*(c-1)+0*c).toNat (x1sr c c c.toNat (r.toNat-1) 0)=x1rn r c ph ac dn:=by
  unfold x1rn
  rw[x26g r0 c0,x1zf,x1ze,List.nil_append,Int.zero_mul,Int.zero_mul,Int.add_zero]
  congr 2
  have h':(r*(c-1)).toNat=r.toNat*(c.toNat-1):=(Int.toNat_mul (by omega) (by omega)).trans (by congr 1;omega)
  rw[h'];simp
 rw[hE]at I2
 obtain⟨-,hres,-,-,ev,hgn,hG⟩:=I2
 have hG2:Gk 4 Edge.c okE (m2.set (0,1,2) (.row [I ph.length,ev] 0 false)) ev (x1rn r c ph ac dn):=hG.frame fun id hid=>by rw[Mem.get_set,if_neg (by rintro rfl;rcases hid with h|h<;>simp at h)]
 obtain⟨ev',hev,hfz⟩:=hG2.frz (k:=3) Edge.len Edge.still1
 refine⟨ev',hev,x1t6 (by simp[hp.still1,ha.still1,hb.still1]) (m':=m2.set (0,1,2) (.row [I ph.length,ev] 0 false)) (r:=.agg [I ph.length,ev]) ?_ ?_⟩
 .rw[xyz]
  unfold xe1 xfm
  have hbn:x1qx [I 0,nilS] [(0,1,I (r*c))]=some (.agg [I (r*c),nilS]):=by simp[x1qx,x1rx]
  have hb3:=x1x0 (wi_iff.mpr ⟨r0,r1⟩) (wi_iff.mpr ⟨c0,c1⟩)
  rw[hlen]at h1
  simp(disch:=omega) [mem0,hp.one,ha.one,hb.one,x1ut,z_net,hbn]
  unfold xax
  rw[h1]
  unfold xf
  rw[h2]
  unfold xj
  simp[hgn,hres,hG.one.1,hG.one.2,sLdP,hlen]
 .show([I (ph.length:Int),ev].mapM (frz (m2.set (0,1,2) (.row [I ph.length,ev] 0 false)).get 5)).map AV.agg=_
  simp only[List.mapM_cons,List.mapM_nil,hfz]
  rfl
theorem small_len{r c:Int}{ph ac dn:List Int}(h:x1tt r c ph ac dn=true):ph.length<=164/\ac.length<=300/\dn.length<=300:=by
 unfold x1tt at h
 by_cases c1:164<(ph.length:Int)
 .simp[c1]at h
 by_cases c2:300<(ac.length:Int)
 .simp[c2]at h
 by_cases c3:300<(dn.length:Int)
 .simp[c3]at h
 omega
def isP(x:Int):Bool:=wi x (-100000000) 100000000
theorem x233(d:Nat)(x:Int)(m:Mem):x1qq (x1qp (d+2)) x6r [I x] m=some (B (isP x),m):=by
 refine Ans.call0 ?_ rfl rfl
 unfold Ans
 rw[x10f]
 unfold xf0 xhg
 simp[mem0,x204,isP]
theorem x1yd(x y:Operand)(a b:Bool):sBin Try.prog .neq xb6 x y (B a) (B b)=some (B (a != b)):=by
 cases a<;>cases b<;>kernel_rfl
def x1sn:List Int->List Int->List Int->List Int×Int
 |out,p::ps,u::us=>
  bif decide (p=void) != decide (u=void)then([],31)
  else bif decide (u=void)then x1sn (out++[0]) ps us
  else bif !(isP u)then([],2)
  else bif !decide ((u-p) % 4096=0)then([],27)
  else x1sn (out++[(u-p).tdiv 4096]) ps us
 |out,_,_=>(out,0)
def x1s9(r c:Int)(ph:List Int)(r' c':Int)(us:List Int):List Int×Int:=
 bif !decide (r'=r)||!decide (c'=c)||!decide ((us.length:Int)=ph.length)then([],10)else x1sn [] ph us
theorem tmod_zero{x:Int}:decide (x.tmod 4096=0)=decide (x % 4096=0):=by
 rw[decide_eq_decide,Int.tmod_eq_emod]
 split<;>omega
theorem set_mid(out:List Int)(n:Nat)(v:Int):(out++List.replicate (n+1) 0).set out.length v=(out++[v])++List.replicate n 0:=by
 rw[List.set_append_right _ _ (Nat.le_refl _),Nat.sub_self,List.replicate_succ]
 simp
theorem l_turnsOf(d:Nat)(hs:FHs){r c:Int}{p u:AV}{ph us:List Int}(hp:Ints p ph)(hu:Ints u us)(hph:PhIn ph)(he:us.length=ph.length)(hl:us.length<=100000) :
 ∀(su sp:List Int) (k j:Nat) (out:List Int) (m:Mem) (fc:Nat),us.drop k=su->ph.drop k=sp->su.length<j->out.length=k->k<=us.length ->
  m.get (0,6,6)=some (.row [I r,I c,p] 0 false)->1<=m.next->OwnI m (0,32,36) (out++List.replicate su.length 0) ->
 ∃a m',x50 (x1qp (d+2)) hs 0 j (.ptr (0,6,6) 0 0) (srI (0,32,36) us.length) u (I us.length) (I k) m fc=some (.tup [a,I (x1sn out sp su).2],m')/\∃a',Ints a' (x1sn out sp su).1/\frz m'.get 5 a=some a':=by
 intro su
 induction su with
 |nil=>
  intro sp k j out m fc hd hdp hj ho hku hg hn hO
  obtain⟨j,rfl⟩:∃i,j=i+1:=⟨j-1,by simp at hj;omega⟩
  have hk0:=List.drop_eq_nil_iff.mp hd
  have hk:¬((k:Int)<(us.length:Int)):=by omega
  have hol:us.length=out.length:=by omega
  have e:x1sn out sp []=(out,0):=by cases sp<;>rfl
  rw[e]
  simp only[x50]
  unfold xd2
  simp[hk,x27]
  simp only[List.length_nil,List.replicate_zero,List.append_nil]at hO
  refine⟨_,_,⟨rfl,rfl⟩,_,Sl.lit out false,?_⟩
  have hfl:=x1th out
  have:=x1v4 (objs:=m.get) (id:=(0,32,36)) (cs:=out.flatMap intE) (ver:=0) (off:=0) (n:=out.length) (z:=1) (k:=3) (f:=false) (x:=true) hO (by omega) (by
   rw[List.drop_zero,List.take_of_length_le (by omega)];exact x1ur x1wf out)
  rw[List.drop_zero,List.take_of_length_le (by omega)]at this
  rw[hol]
  exact this
 |cons x rr ih=>
  intro sp k j out m fc hd hdp hj ho hku hg hn hO
  obtain⟨j,rfl⟩:∃i,j=i+1:=⟨j-1,by simp at hj;omega⟩
  obtain⟨hk,hke,hd⟩:=x1sm hd
  have hk':(k:Int)<(us.length:Int):=by omega
  have hkp:k<ph.length:=by omega
  have ix:=hu.ix x1rk hk
  have ix2:=hp.ix x1rk hkp
  have e1:at0 us k=x:=by rw[x1ri hk,hke]
  obtain⟨y,hy⟩:∃y,y=at0 ph k:=⟨_,rfl⟩
  have hsp:sp=y::ph.drop (k+1):=by rw[<-hdp,x1t5 hkp,hy,x1ri hkp]
  have hyw:=hph k
  rw[<-hy]at hyw
  subst hsp
  have hnb:Nat.ble 1 m.next=true:=Nat.ble_eq_true_of_le hn
  have hrl:us.length=k+(rr.length+1):=by
   have:=congrArg List.length hd
   simp at this
   omega
  simp only[x50]
  unfold xd2 xd1
  by_cases cx:x=void
  .by_cases cy:y=void
   .have hO2:OwnI m (0,32,36) ((out++[0])++List.replicate rr.length 0):=by
     unfold OwnI at hO ⊢
     rw[hO]
     simp[List.replicate_succ]
    have h6:=fun fc=>ih (ph.drop (k+1)) (k+1) j (out++[0]) m fc hd rfl (by simp at hj;omega) (by simp;omega) (by omega) hg hn hO2
    simp(disch:=omega) [hk',ix,ix2,x1rg,e1,<-hy,hg,x1uf,x1yd,cAp,tR,cx,cy,x1sn,hnb,Nat.blt,x7d]
    exact h6 _
   .simp(disch:=omega) [hk',ix,ix2,x1rg,e1,<-hy,hg,x1uf,x1yd,cAp,tR,cx,cy,x1sn,hnb,Nat.blt]
    exact⟨_,_,⟨rfl,rfl⟩,nilS,Or.inl ⟨rfl,rfl⟩,rfl⟩
  .by_cases cy:y=void
   .simp(disch:=omega) [hk',ix,ix2,x1rg,e1,<-hy,hg,x1uf,x1yd,cAp,tR,cx,cy,x1sn,hnb,Nat.blt]
    exact⟨_,_,⟨rfl,rfl⟩,nilS,Or.inl ⟨rfl,rfl⟩,rfl⟩
   .cases cp:isP x
    .simp(disch:=omega) [hk',ix,ix2,x1rg,e1,<-hy,hg,x1uf,x1yd,cAp,tR,cx,cy,x1sn,hnb,Nat.blt,x233,cp]
     exact⟨_,_,⟨rfl,rfl⟩,nilS,Or.inl ⟨rfl,rfl⟩,rfl⟩
    have hxp:=wi_t cp
    have ht:=tmod_zero (x:=x-y)
    by_cases cm:(x-y) % 4096=0
    .have ht1:(x-y).tmod 4096=0:=by rw[decide_eq_decide]at ht;exact ht.mpr cm
     have hq:-1000000<=(x-y).tdiv 4096/\(x-y).tdiv 4096<=1000000:=by
      rw[Int.tdiv_eq_ediv];split<;>omega
     have iw:=x1re (id:=(0,32,36)) (n:=us.length) (k:=(k:Int)) (by omega) hk'
     have hO':=hO
     unfold OwnI at hO'
     have hO2:OwnI (m.set (0,32,36) (.row (((out++[(x-y).tdiv 4096])++List.replicate rr.length 0).flatMap intE) 0 false)) (0,32,36) ((out++[(x-y).tdiv 4096])++List.replicate rr.length 0):=by unfold OwnI;simp
     have h6:=fun fc=>ih (ph.drop (k+1)) (k+1) j (out++[(x-y).tdiv 4096]) _ fc hd rfl (by simp at hj;omega) (by simp;omega) (by omega) (by rw[Mem.get_set,if_neg (by simp)];exact hg) (by simpa using hn) hO2
     have hst:x1s2 1 0 k (I ((x-y).tdiv 4096)) (some (.row ((out++List.replicate (rr.length+1) 0).flatMap intE) 0 false))=some (.row (((out++[(x-y).tdiv 4096])++List.replicate rr.length 0).flatMap intE) 0 false):=by
      rw[x1ss (by simp;omega),<-ho,set_mid]
     simp only[List.length_cons]at hO'
     simp(disch:=omega) [hk',ix,ix2,x1rg,e1,<-hy,hg,x1uf,x1yd,cAp,tR,cx,cy,x1sn,hnb,Nat.blt,x233,cp,x1y0,x1z1,ht1,cm]
     simp(disch:=omega)only[iw,x1qt,x1rl,Int.toNat_natCast,hO',hst,x7d,x1sl,x1rs]
     exact h6 _
    .have ht1:¬((x-y).tmod 4096=0):=by rw[decide_eq_decide]at ht;exact fun h=>cm (ht.mp h)
     simp(disch:=omega) [hk',ix,ix2,x1rg,e1,<-hy,hg,x1uf,x1yd,cAp,tR,cx,cy,x1sn,hnb,Nat.blt,x233,cp,x1y0,ht1,cm]
     exact⟨_,_,⟨rfl,rfl⟩,nilS,Or.inl ⟨rfl,rfl⟩,rfl⟩
theorem w_turnsOf(d:Nat){r c r' c':Int}{p a b u:AV}{ph us:List Int}(hp:Ints p ph)(ha:still1 a=true/\a.one=true)(hb:still1 b=true/\b.one=true)(hu:Ints u us)(hph:PhIn ph)(hl:ph.length<=100000)(m:Mem) :
 ∃t,Ints t (x1s9 r c ph r' c' us).1/\x1qq (x1qp (d+3)) x6q [.agg [I r,I c,p,a,b],.agg [I r',I c',u]] m=some (.tup [t,I (x1s9 r c ph r' c' us).2],m):=by
 obtain⟨ha1,ha2⟩:=ha
 obtain⟨hb1,hb2⟩:=hb
 by_cases c1:r'=r/\c'=c/\(us.length:Int)=ph.length
 .obtain⟨rfl,rfl,hl2⟩:=c1
  have hm:∃m0:Mem,m0=(((((⟨[],1⟩:Mem).new (0,0,2) (.row [I r',I c',p,a,b] 0 false)).new (0,1,3) (.row [I r',I c',u] 0 false)).new (0,6,6) (.row [I 0,I 0,nilS] 0 false)).set (0,6,6) (.row [I r',I c',p] 0 false)).new (0,32,36) (.row ((List.replicate ph.length (0:Int)).flatMap intE) 0 false):=⟨_,rfl⟩
  obtain⟨m0,hm⟩:=hm
  obtain⟨x,m',h1,t,h2,h3⟩:=l_turnsOf d [] (r:=r') (c:=c') hp hu hph (by omega) (by omega) us ph 0 NN [] m0 38 rfl rfl (by rw[x1r6];omega) rfl (by omega) (by rw[hm];simp) (by rw[hm];simp) (by rw[hm,show us.length=ph.length by omega];unfold OwnI;simp)
  have e:x1s9 r' c' ph r' c' us=x1sn [] ph us:=by simp[x1s9,hl2]
  rw[e]
  refine⟨t,h2,x1t6 (by simp[hp.still1,hu.still1,ha1,hb1]) (m':=m') (r:=.tup [x,I (x1sn [] ph us).2]) ?_ ?_⟩
  .rw[xl5]
   unfold xae xd4 xd3
   rw[hl2]at h1
   rw[show us.length=ph.length by omega]at h1
   simp(disch:=omega) [mem0,hp.one,hu.one,ha2,hb2,x1ut,hp.len x1r8,hu.len x1r8,hl2,x1t8,x1wh]
   rw[<-hm]
   exact h1
  .show([x,I (x1sn [] ph us).2].mapM (frz m'.get 5)).map AV.tup=_
   simp only[List.mapM_cons,List.mapM_nil,h3]
   rfl
 .have e:x1s9 r c ph r' c' us=([],10):=by
   unfold x1s9
   by_cases h1:r'=r<;>by_cases h2:c'=c<;>by_cases h3:(us.length:Int)=ph.length<;>simp[h1,h2,h3]<;>exact absurd ⟨h1,h2,h3⟩ c1
  rw[e]
  refine⟨nilS,Or.inl ⟨rfl,rfl⟩,Ans.call0_tup ?_ (by simp[hp.still1,hu.still1,ha1,hb1]) rfl⟩
  unfold Ans
  rw[xl5]
  unfold xae xd4
  by_cases h1:r'=r
  .by_cases h2:c'=c
   .have h3:¬((us.length:Int)=ph.length):=fun h3=>c1 ⟨h1,h2,h3⟩
    simp[mem0,hp.one,hu.one,ha2,hb2,x1ut,hp.len x1r8,hu.len x1r8,h1,h2,h3]
   .simp[mem0,hp.one,hu.one,ha2,hb2,x1ut,hp.len x1r8,hu.len x1r8,h1,h2]
  .simp[mem0,hp.one,hu.one,ha2,hb2,x1ut,hp.len x1r8,hu.len x1r8,h1]
theorem x234{r:List Int×Int}:∀{ps us out:List Int},x1sn out ps us=r->PhIn ps->TurnsIn out->us.length=ps.length->TurnsIn r.1/\(r.2=0->r.1.length=out.length+us.length)
 |[],us,out,h,_,ho,hl=>by
  have:us=[]:=List.length_eq_zero_iff.mp (by simpa using hl)
  subst this
  simp only[x1sn]at h
  subst h
  exact⟨ho,fun _=>by simp⟩
 |p::ps,[],out,_,_,_,hl=>by simp at hl
 |p::ps,u::us,out,h,hp,ho,hl=>by
  have hp1:PhIn ps:=fun k=>by
   have:=hp (k+1)
   unfold at0 at this ⊢
   simpa using this
  have hp0:=hp 0
  have h0:at0 (p::ps) 0=p:=rfl
  rw[h0]at hp0
  simp only[x1sn]at h
  have nil:TurnsIn ([]:List Int):=fun x hx=>by simp at hx
  by_cases c1:p=void<;>by_cases c2:u=void
  .simp[c1,c2]at h
   have:=x234 h hp1 (by intro x hx;rcases List.mem_append.mp hx with hx|hx;exact ho x hx;simp at hx;omega) (by simpa using hl)
   refine⟨this.1,fun e=>?_⟩
   have:=this.2 e
   simp at this ⊢;omega
  .simp[c1,c2]at h;subst h;exact⟨nil,fun e=>by cases e⟩
  .simp[c1,c2]at h;subst h;exact⟨nil,fun e=>by cases e⟩
  .cases c3:isP u
   .simp[c1,c2,c3]at h;subst h;exact⟨nil,fun e=>by cases e⟩
   by_cases c4:(u-p) % 4096=0
   .simp[c1,c2,c3,c4]at h
    have hx:=wi_t c3
    have hq:-1000000<=(u-p).tdiv 4096/\(u-p).tdiv 4096<=1000000:=by
     rw[Int.tdiv_eq_ediv];split<;>omega
    have:=x234 h hp1 (by intro x hx;rcases List.mem_append.mp hx with hx|hx;exact ho x hx;simp at hx;omega) (by simpa using hl)
    refine⟨this.1,fun e=>?_⟩
    have:=this.2 e
    simp at this ⊢;omega
   .simp[c1,c2,c3,c4]at h;subst h;exact⟨nil,fun e=>by cases e⟩
theorem x26i{r c r' c':Int}{ph us:List Int}(hp:PhIn ph)(h:(x1s9 r c ph r' c' us).2=0):TurnsIn (x1s9 r c ph r' c' us).1/\(x1s9 r c ph r' c' us).1.length=ph.length:=by
 by_cases c1:r'=r/\c'=c/\(us.length:Int)=ph.length
 .obtain⟨rfl,rfl,hl2⟩:=c1
  have e:x1s9 r' c' ph r' c' us=x1sn [] ph us:=by simp[x1s9,hl2]
  rw[e]at h ⊢
  have:=x234 (r:=x1sn [] ph us) rfl hp (fun x hx=>by simp at hx) (by omega)
  refine⟨this.1,?_⟩
  have:=this.2 h
  simp at this;omega
 .exfalso
  have e:x1s9 r c ph r' c' us=([],10):=by
   unfold x1s9
   by_cases h1:r'=r<;>by_cases h2:c'=c<;>by_cases h3:(us.length:Int)=ph.length<;>simp[h1,h2,h3]<;>exact absurd ⟨h1,h2,h3⟩ c1
  rw[e]at h;cases h
theorem x1zg{ph ws:List Int}{x:Edge}:∀{l:List (Int×Int)} {k:Nat},x∈netM ph ws k l->∃i p,l[i]?=some p/\x1s8 ph p=false/\x=mkE ph ws (k+i) p
 |[],k,h=>by simp[netM]at h
 |q::r,k,h=>by
  simp only[netM]at h
  cases hv:x1s8 ph q
  .rw[hv]at h
   rcases List.mem_cons.mp h with rfl|h
   .exact⟨0,q,rfl,hv,rfl⟩
   .obtain⟨i,p,h1,h2,h3⟩:=x1zg h
    exact⟨i+1,p,h1,h2,by rw[h3];congr 1;omega⟩
  .rw[hv]at h
   obtain⟨i,p,h1,h2,h3⟩:=x1zg h
   exact⟨i+1,p,h1,h2,by rw[h3];congr 1;omega⟩
theorem x1zh{r c:Int}{ph ac dn:List Int}(h:x1rq r c ph ac dn=0):Right ph.length (x1rn r c ph ac dn):=by
 obtain⟨r0,r1,c0,c1,hlen,hph,hac,hdn,h144,hw⟩:=x1v7 h
 have hin:=x1w0 hph
 have h1:=x1x1 ph (ac++dn) (x1tj r c) 0
 have h2:=x20m r0 c0
 have e1:r*(c-1)=r*c-r:=by rw[Int.mul_sub];omega
 have e2:(r-1)*c=r*c-c:=by rw[Int.sub_mul];omega
 refine⟨by omega,by omega,by unfold x1rn;omega,fun e he=>?_⟩
 obtain⟨i,p,h3,h4,rfl⟩:=x1zg he
 obtain⟨hi,hie⟩:=List.getElem?_eq_some_iff.mp h3
 have hs:=x20l r0 c0 (hie▸List.getElem_mem hi)
 simp only[x1s8,Bool.or_eq_false_iff,decide_eq_false_iff_not]at h4
 have b1:=hin p.1.toNat
 have b2:=hin p.2.toNat
 have hj:=x231 (a:=at0 ph p.1.toNat) (b:=at0 ph p.2.toNat) (by omega) (by omega) (by omega) (by omega)
 have hwi:i<(ac++dn).length:=by simp;omega
 have hwt:0<=at0 (ac++dn) (0+i)/\at0 (ac++dn) (0+i)<=1000:=by
  rw[Nat.zero_add,x1ri hwi]
  unfold x1uu at hw
  cases hany:(ac++dn).any (fun x=>!(wi x 0 1000))
  .rw[List.any_eq_false]at hany
   have:=hany _ (List.getElem_mem hwi)
   exact wi_t (by simpa using this)
  .rw[hany]at hw;cases hw
 exact⟨⟨hs.1,by simp only[mkE];omega⟩,⟨hs.2.2.1,by simp only[mkE];omega⟩,hs.2.2.2.2,⟨by simp only[mkE];omega,by simp only[mkE];omega⟩,hwt⟩
end Go.Ix
