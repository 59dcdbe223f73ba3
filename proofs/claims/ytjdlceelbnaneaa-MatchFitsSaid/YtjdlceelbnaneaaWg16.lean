import Derived.Test.YtjdlceelbnaneaaWg15
import Derived.Test.YtjdlceelbnaneaaWg11
set_option linter.unusedSimpArgs false
set_option linter.unusedVariables false
namespace Go.Ix
open Go.Proofs
attribute [local simp high] rd_5
variable{a:AV}{l:List Mp}
theorem w_size3(d:Nat)(x:Int)(m:Mem)(h1:-9223372036854775808<x)(h2:x<=9223372036854775807):x7s (x7q (d+1)) xj [I x] m=some (I (x.natAbs:Int),m):=by
 refine call0 rfl (m':=⟨[],1⟩) ?_ rfl
 rw[x5y]
 unfold x2j x2h
 simp(disch:=omega) [mem0]
 split<;>omega
attribute [local simp high] rd_5
variable{a:AV}{l:List Mp}
theorem l_rri(call:x7r)(hs:FHs)(u:Nat)(rec0:AV->AV->AV->Mem->Nat->O2)(ha:Pts a l)(hl:l.length<=1000)(hin:x85 l){f:Mp}{rest:List AV}(hf:PtIn f)(h0:sIx 5 a (I 0)=some (.plit (I f.ln::I f.sm::rest))){i:Nat}(hi:i<l.length):∀(suf:List Mp) (k j:Nat) (r:Int) (m:Mem) (fc:Nat),l.drop k=suf->suf.length<j ->
 ∃fc',xo call hs u rec0 j a (I r) (I i) (I k) m fc=x33 call hs u rec0 a (I (rrI f l[i] r suf)) (I i) m fc':=by
 intro suf
 have xi:=ha.ix Mp.len hi
 rw[xa8 hi,xlf]at xi
 have hx:=hin l[i] (xky hi)
 generalize l[i]=x at *
 have hfl:=hf.ln;have hfs:=hf.sm;have hxl:=hx.ln;have hxs:=hx.sm
 induction suf with
 |nil=>
  intro k j r m fc hd hj
  obtain⟨j,rfl⟩:∃i,j=i+1:=⟨j-1,by simp at hj;omega⟩
  have hk:¬((k:Int)<(l.length:Int)):=by have:=xlj.mp hd;omega
  refine⟨fc+4,?_⟩
  simp only[xo]
  unfold x36
  simp[ha.len x8n,hk,rrI]
 |cons y s ih=>
  intro k j r m fc hd hj
  obtain⟨j,rfl⟩:∃i,j=i+1:=⟨j-1,by simp at hj;omega⟩
  obtain⟨hk,he,hd⟩:=xa9 hd
  have hk':(k:Int)<(l.length:Int):=by omega
  have xk:=ha.ix Mp.len hk
  rw[xa8 hk,xlf,he]at xk
  have hy:=hin y (he▸xky hk)
  have hyl:=hy.ln;have hys:=hy.sm
  have d1:bd (x.ln-f.ln) 126:=(hxl.sub hfl).mono (by omega)
  have d2:bd (x.sm-f.sm) 126:=(hxs.sub hfs).mono (by omega)
  have d3:bd (y.ln-f.ln) 126:=(hyl.sub hfl).mono (by omega)
  have d4:bd (y.sm-f.sm) 126:=(hys.sub hfs).mono (by omega)
  have e1:=d1.mul d4
  have e2:=d2.mul d3
  have hpr:(x.ln-f.ln)*(y.sm-f.sm)-(x.sm-f.sm)*(y.ln-f.ln)=pr f x y:=rfl
  unfold bd at *
  rw[rrI]
  have key:∃fc',xo call hs u rec0 (j+1) a (I r) (I i) (I k) m fc=xo call hs u rec0 j a (I (rrS f x y r)) (I i) (I ((k+1:Nat):Int)) m fc':=by
   simp only[xo]
   generalize xo call hs u rec0 j=R
   unfold x36 x55 x54 x35 x34
   simp(disch:=omega) [ha.len x8n,hk',xi,xk,h0,Mp.c,x8d]
   unfold rrS
   rw[hpr]
   by_cases c1:x.ln-f.ln=0
   .by_cases c2:x.sm-f.sm=0
    .by_cases c3:pr f x y=0
     .refine⟨fc+4+44+6+8+3,?_⟩
      simp[c1,c2]at hpr
      simp(disch:=omega) [c1,c2,c3,x8d]
     .simp[c1,c2]at hpr
      omega
    .by_cases c3:pr f x y=0
     .refine⟨fc+4+44+9+8+3,?_⟩
      rw[<-hpr]at c3
      simp[c1]at c3 hpr
      rw[<-hpr]
      simp(disch:=omega) [c1,c2,c3,x8d]
     .refine⟨fc+4+44+9+9+3,?_⟩
      simp(disch:=omega) [c1,c2,c3,x8d]
   .by_cases c3:pr f x y=0
    .refine⟨fc+4+44+9+8+3,?_⟩
     simp(disch:=omega) [c1,c3,x8d]
    .refine⟨fc+4+44+9+9+3,?_⟩
     simp(disch:=omega) [c1,c3,x8d]
  obtain⟨fc1,h1⟩:=key
  obtain⟨fc2,h2⟩:=ih (k+1) j (rrS f x y r) m fc1 hd (by simp at hj;omega)
  exact⟨fc2,h1.trans h2⟩
theorem l_rro(call:x7r)(hs:FHs)(u:Nat)(ha:Pts a l)(hl:l.length<=1000)(hin:x85 l){f:Mp}{rest:List AV}(hf:PtIn f)(h0:sIx 5 a (I 0)=some (.plit (I f.ln::I f.sm::rest))):∀(suf:List Mp) (k j:Nat) (r:Int) (m:Mem) (fc:Nat),l.drop k=suf->suf.length<j ->
 x14 call hs u j a (I r) (I k) m fc=some (I (rrO f l r suf),m):=by
 intro suf
 induction suf with
 |nil=>
  intro k j r m fc hd hj
  obtain⟨j,rfl⟩:∃i,j=i+1:=⟨j-1,by simp at hj;omega⟩
  have hk:¬((k:Int)<(l.length:Int)):=by have:=xlj.mp hd;omega
  simp only[x14]
  unfold x37
  simp[ha.len x8n,hk,rrO,x53]
 |cons x s ih=>
  intro k j r m fc hd hj
  obtain⟨j,rfl⟩:∃i,j=i+1:=⟨j-1,by simp at hj;omega⟩
  obtain⟨hk,he,hd⟩:=xa9 hd
  have hk':(k:Int)<(l.length:Int):=by omega
  simp only[x14]
  unfold x37 x56
  obtain⟨fc',h'⟩:=l_rri call hs u (x14 call hs u j) ha hl hin hf h0 hk l 0 NN r m (fc+4+1) rfl (by rw[x8k];omega)
  rw[he,show I ((0:Nat):Int)=I 0 from rfl]at h'
  simp only[ha.len x8n,x8a,x92,hk',xl4,x96,h']
  unfold x33
  simp(disch:=omega) [x8d]
  have:=ih (k+1) j (rrI f x r l) m (fc'+3) hd (by simp at hj;omega)
  rw[rrO]
  simpa using this
theorem xhz(d:Nat)(ha:Pts a l)(hl:l.length<=1000)(hin:x85 l)(m:Mem):x7s (x7q (d+1)) xz [a] m=some (I (rkM l),m):=by
 refine x87 (by simp[ha.still]) ?_ m
 rw[x6f]
 unfold x4a x38
 cases l with
 |nil=>
  simp[mem0,ha.len x8n]
  exact RetF.st rfl rfl
 |cons f r=>
  have ix:=ha.ix Mp.len (k:=0) (by simp)
  rw[xa8 (by simp),xlf]at ix
  simp only[List.getElem_cons_zero,Mp.c,xln]at ix
  have hf:=hin f (xkg ..)
  have hne:¬((r.length:Int)+1=0):=by omega
  have h':=l_rro (x7q d) [] 0 ha hl hin hf ix (f::r) 0 NN 1 ⟨[],1⟩ (5+1) rfl (by rw[x8k];simp at hl ⊢;omega)
  rw[show I ((0:Nat):Int)=I 0 from rfl]at h'
  simp[mem0,ha.len x8n,hne,x57,h',rr_rk]
  exact RetF.st rfl rfl
section
variable{f:Aff}
theorem b_miss(hA:AffIn f){x:Mp}(hp:PtIn x):bd (tm f.l0 f.l1 f.l2 x.ln x.sm) 127000000000000000/\bd (tm f.s0 f.s1 f.s2 x.ln x.sm) 127000000000000000/\bd (f.den*x.b0) 8000000000000/\bd (f.den*x.b1) 8000000000000:=by
 have h0:=hA.d0;have h1:=hA.d1
 have hd:bd f.den 1000000000000:=by unfold bd;omega
 exact⟨hA.tl hp.ln hp.sm,hA.ts hp.ln hp.sm,(hd.mul hp.b0).mono (by omega),(hd.mul hp.b1).mono (by omega)⟩
theorem na_l(f:Aff)(x:Mp):((tm f.l0 f.l1 f.l2 x.ln x.sm-f.den*x.b0).natAbs:Int)=((x9l f x).natAbs:Int):=by
 have:x9l f x=-(tm f.l0 f.l1 f.l2 x.ln x.sm-f.den*x.b0):=by unfold x9l tm;omega
 rw[this,Int.natAbs_neg]
theorem na_s(f:Aff)(x:Mp):((tm f.s0 f.s1 f.s2 x.ln x.sm-f.den*x.b1).natAbs:Int)=((x9m f x).natAbs:Int):=by
 have:x9m f x=-(tm f.s0 f.s1 f.s2 x.ln x.sm-f.den*x.b1):=by unfold x9m tm;omega
 rw[this,Int.natAbs_neg]
theorem na_l2(f:Aff)(x:Mp):f.den*x.b0-tm f.l0 f.l1 f.l2 x.ln x.sm=x9l f x:=by unfold x9l tm;omega
theorem na_s2(f:Aff)(x:Mp):f.den*x.b1-tm f.s0 f.s1 f.s2 x.ln x.sm=x9m f x:=by unfold x9m tm;omega
theorem l_worst(d:Nat)(hs:FHs)(ha:Pts a l)(hl:l.length<=1000)(hin:x85 l)(hA:AffIn f):∀(suf:List Mp) (k j:Nat) (b mo:Int) (m:Mem) (fc:Nat),l.drop k=suf->suf.length<j->m.get (0,0,2)=some (.row f.c 0 false)->m.next=1 ->
 ∃m',xm (x7q (d+2)) hs 0 j (.ptr (0,0,2) 0 0) (I b) (I mo) a (I l.length) (I k) m fc=some (.tup (if(wM f k (b,mo) suf).2<0 then[I 0,I 10]else[I (wM f k (b,mo) suf).1,I 0]),m'):=by
 intro suf
 induction suf with
 |nil=>
  intro k j b mo m fc hd hj h2 hn
  obtain⟨j,rfl⟩:∃i,j=i+1:=⟨j-1,by simp at hj;omega⟩
  have hk:¬((k:Int)<(l.length:Int)):=by have:=xlj.mp hd;omega
  simp only[xm]
  unfold x2x x4v
  by_cases c:mo<0<;>simp[hk,wM,c]
 |cons x r ih=>
  intro k j b mo m fc hd hj h2 hn
  obtain⟨j,rfl⟩:∃i,j=i+1:=⟨j-1,by simp at hj;omega⟩
  obtain⟨hk,he,hd⟩:=xa9 hd
  have hk':(k:Int)<(l.length:Int):=by omega
  have ix:=ha.ix Mp.len hk
  have ld:=xc1 (m:=m) Mp.len (by omega) hk
  rw[he]at ld
  have hp:=hin x (he▸xky hk)
  obtain⟨t1,t2,p1,p2⟩:=b_miss hA hp
  have sh:=w_shat d hA hp.ln hp.sm
  unfold bd at t1 t2 p1 p2
  have z0:=λm=>w_size3 (d+1) (tm f.l0 f.l1 f.l2 x.ln x.sm-f.den*x.b0) m (by omega) (by omega)
  have z1:=λm=>w_size3 (d+1) (tm f.s0 f.s1 f.s2 x.ln x.sm-f.den*x.b1) m (by omega) (by omega)
  simp only[na_l]at z0
  simp only[na_s]at z1
  obtain⟨M,hM⟩:∃M:Mem,M=((((m.new (0,fc+1+3,12) (.row [I 0,I 0,I 0,I 0,I 0] 0 false)).set (0,fc+1+3,12) (.row [I x.ln,I x.sm,I x.b0,I x.b1,I x.sc] 0 false)).new (0,fc+1+13,13) (.row [I 0,I 0] 0 false)).set (0,fc+1+13,13) (.row [I (tm f.l0 f.l1 f.l2 x.ln x.sm),I (tm f.s0 f.s1 f.s2 x.ln x.sm)] 0 false)):=⟨_,rfl⟩
  have g2:M.get (0,0,2)=some (.row f.c 0 false):=by rw[hM];simp[h2]
  have gn:M.next=1:=by rw[hM];simp[hn]
  have g12:M.get (0,fc+1+3,12)=some (.row [I x.ln,I x.sm,I x.b0,I x.b1,I x.sc] 0 false):=by rw[hM];simp
  have g13:M.get (0,fc+1+13,13)=some (.row [I (tm f.l0 f.l1 f.l2 x.ln x.sm),I (tm f.s0 f.s1 f.s2 x.ln x.sm)] 0 false):=by rw[hM];simp
  have eb:x8g x4x [(0,7,.agg [I f.den,I f.l0,I f.l1,I f.l2,I f.s0,I f.s1,I f.s2])]=some (.agg [I f.den,I f.l0,I f.l1,I f.l2,I f.s0,I f.s1,I f.s2]):=by rw[z_shift3];simp[x8g,x9c]
  simp only[Aff.c]at h2 g2 sh
  have hw:(if(x9l f x).natAbs<(x9m f x).natAbs then((x9m f x).natAbs:Int)else((x9l f x).natAbs:Int))=wvA f x:=by
   unfold wvA wv
   by_cases c:(x9l f x).natAbs<(x9m f x).natAbs
   .rw[xk8 c,xk8 (by omega)]
   .rw[xk9 c,xk9 (by omega)]
  have key:∃fc',xm (x7q (d+2)) hs 0 (j+1) (.ptr (0,0,2) 0 0) (I b) (I mo) a (I l.length) (I k) m fc=xm (x7q (d+2)) hs 0 j (.ptr (0,0,2) 0 0) (I (if wvA f x > mo then((k:Int),wvA f x)else(b,mo)).1) (I (if wvA f x > mo then((k:Int),wvA f x)else(b,mo)).2) a (I l.length) (I ((k+1:Nat):Int)) M fc':=by
   simp only[xm]
   generalize xm (x7q (d+2)) hs 0 j=R
   unfold x2x x4w x2w
   simp only[x8a,x92,hk',xl4,x96,ix,ld]
   simp(disch:=omega) [Mp.c,z_pt,h2,eb,sh,z_2int]
   rw[<-hM]
   simp(disch:=omega) [g2,g12,g13,sIxA,asI,x8d,z0,z1,gn,hn,xan,h2,hw]
   by_cases c:mo<wvA f x
   .refine⟨fc+1+44+2,?_⟩
    simp(disch:=omega) [c,x8d]
   .refine⟨fc+1+40+2,?_⟩
    simp(disch:=omega) [c,x8d]
  obtain⟨fc1,h1⟩:=key
  obtain⟨m',h3⟩:=ih (k+1) j (if wvA f x > mo then((k:Int),wvA f x)else(b,mo)).1 (if wvA f x > mo then((k:Int),wvA f x)else(b,mo)).2 M fc1 hd (by simp at hj;omega) g2 gn
  exact⟨m',h1.trans h3⟩
theorem w_Worst(d:Nat)(ha:Pts a l)(hl:l.length<=1000)(m:Mem):x7s (x7q (d+6)) x1c [.agg f.c,a] m=some (.tup (bif decide (chkA f=0)then bif decide ((x80 l).2=0)then bif decide (l=[])then[I 0,I 10]else[I (wM f 0 (0,-1) l).1,I 0]else[I 0,I (x80 l).2]else[I 0,I (chkA f)]),m):=by
 refine x87 (by simp[ha.still,Aff.c]) ?_ m
 have a1:=xj9 (d+3) f
 rw[x6d]
 unfold x48 x2y
 simp only[Aff.c]at a1
 simp[mem0,Aff.c,a1]
 by_cases c0:chkA f=0
 rotate_left
 .simp[c0]
  exact RetF.tup rfl rfl
 by_cases c1:(x80 l).2=0
 rotate_left
 .simp[c0,c1,xdu d ha hl]
  exact RetF.tup rfl rfl
 obtain⟨-,-,hin⟩:=xc5 c1
 simp[c0,c1,xdu d ha hl]
 unfold x4z
 obtain⟨m',h'⟩:=l_worst (d+3) [] ha hl hin (chkA_in c0) l 0 NN 0 (-1) ((⟨[],1⟩:Mem).new (0,0,2) (.row f.c 0 false)) (19+3) rfl (by rw[x8k];omega) (by simp) (by simp)
 rw[show I ((0:Nat):Int)=I 0 from rfl]at h'
 simp only[Aff.c]at h'
 simp[ha.len x8n,h']
 by_cases h0:l=[]
 .subst h0
  simp[wM]
  exact RetF.tup rfl rfl
 .have:=wM_pos f h0
  rw[xk9 (by omega)]
  simp[h0]
  exact RetF.tup rfl rfl
theorem l_rworst(d:Nat)(hs:FHs)(ha:Pts a l)(hl:l.length<=1000)(hin:x85 l)(hA:AffIn f){m:Mem}(h2:m.get (0,0,2)=some (.row f.c 0 false))(hn:m.next=1):∀(suf:List Mp) (k j:Nat) (b mo:Int) (fc:Nat),l.drop k=suf->suf.length<j ->
 xn (x7q (d+1)) hs 0 j a (.ptr (0,0,2) 0 0) (I b) (I mo) (I k) m fc=some (I (wM f k (b,mo) suf).1,m):=by
 intro suf
 simp only[Aff.c]at h2
 induction suf with
 |nil=>
  intro k j b mo fc hd hj
  obtain⟨j,rfl⟩:∃i,j=i+1:=⟨j-1,by simp at hj;omega⟩
  have hk:¬((k:Int)<(l.length:Int)):=by have:=xlj.mp hd;omega
  simp only[xn]
  unfold x31 x50
  simp[ha.len x8n,hk,wM]
 |cons x r ih=>
  intro k j b mo fc hd hj
  obtain⟨j,rfl⟩:∃i,j=i+1:=⟨j-1,by simp at hj;omega⟩
  obtain⟨hk,he,hd⟩:=xa9 hd
  have hk':(k:Int)<(l.length:Int):=by omega
  have ix:=ha.ix Mp.len hk
  rw[xa8 hk,xlf,he]at ix
  have hp:=hin x (he▸xky hk)
  obtain⟨t1,t2,p1,p2⟩:=b_miss hA hp
  have m1:=w_term3 d t1
  have m2:=w_term3 d t2
  unfold bd at t1 t2 p1 p2
  have e1:=na_l2 f x
  have e2:=na_s2 f x
  have z0:=λm=>w_Size d (f.den*x.b0-tm f.l0 f.l1 f.l2 x.ln x.sm) m (by omega) (by omega)
  have z1:=λm=>w_Size d (f.den*x.b1-tm f.s0 f.s1 f.s2 x.ln x.sm) m (by omega) (by omega)
  rw[e1]at z0
  rw[e2]at z1
  have hw:(if(x9l f x).natAbs<(x9m f x).natAbs then((x9m f x).natAbs:Int)else((x9l f x).natAbs:Int))=wvA f x:=by
   unfold wvA wv
   by_cases c:(x9l f x).natAbs<(x9m f x).natAbs
   .rw[xk8 c,xk8 (by omega)]
   .rw[xk9 c,xk9 (by omega)]
  have key:∃fc',xn (x7q (d+1)) hs 0 (j+1) a (.ptr (0,0,2) 0 0) (I b) (I mo) (I k) m fc=xn (x7q (d+1)) hs 0 j a (.ptr (0,0,2) 0 0) (I (if wvA f x > mo then((k:Int),wvA f x)else(b,mo)).1) (I (if wvA f x > mo then((k:Int),wvA f x)else(b,mo)).2) (I ((k+1:Nat):Int)) m fc':=by
   simp only[xn]
   generalize xn (x7q (d+1)) hs 0 j=R
   unfold x31 x51 x2z
   simp(disch:=omega) [ha.len x8n,hk',ix,Mp.c,h2,sIxA,asI,m1,m2,x8d,e1,e2,z0,z1,hn,xan,cAp_n,hw,tR,cAp,show Nat.blt 0 1=true from rfl]
   by_cases c:mo<wvA f x
   .refine⟨fc+4+57+3,?_⟩
    simp(disch:=omega) [c,x8d]
   .refine⟨fc+4+53+3,?_⟩
    simp(disch:=omega) [c,x8d]
  obtain⟨fc1,h1⟩:=key
  rw[h1,wM]
  exact ih (k+1) j _ _ fc1 hd (by simp at hj;omega)
theorem w_rWorst(d:Nat)(ha:Pts a l)(hl:l.length<=1000)(hin:x85 l)(hA:AffIn f)(m:Mem):x7s (x7q (d+2)) x1d [.agg f.c,a] m=some (I (wM f 0 (0,-1) l).1,m):=by
 refine x87 (by simp[ha.still,Aff.c]) ?_ m
 rw[x6e]
 unfold x49 x32 x52
 have h':=l_rworst d [] ha hl hin hA (m:=(⟨[],1⟩:Mem).new (0,0,2) (.row f.c 0 false)) (by simp) (by simp) l 0 NN 0 (-1) (4+1) rfl (by rw[x8k];omega)
 rw[show I ((0:Nat):Int)=I 0 from rfl]at h'
 simp only[Aff.c]at h'
 simp[mem0,Aff.c,h']
 exact RetF.st rfl rfl
end
end Go.Ix
