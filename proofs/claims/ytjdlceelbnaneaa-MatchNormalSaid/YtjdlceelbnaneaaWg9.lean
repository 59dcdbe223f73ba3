import Derived.Test.YtjdlceelbnaneaaWg8
set_option linter.unusedSimpArgs false
set_option linter.unusedVariables false
namespace Go.Ix
open Go.Proofs
attribute [local simp high] rd_5
theorem z_norm3:x42=[I 0,I 0,I 0,I 0,I 0,I 0,I 0,I 0,I 0]:=by kernel_rfl
theorem xa7:xd=[I 0,I 0,I 0,I 0,I 0,I 0,I 0]:=by kernel_rfl
theorem z_2row:x43=[I 0,I 0,I 0,I 0,I 0,I 0]:=by kernel_rfl
theorem xbh:x1k=[I 0,I 0,I 0]:=by kernel_rfl
variable{a:AV}{l:List Mp}
def x7n(l:List Mp):List AV:=row9 (sN l) (sA l) (sB l) (sA l) (sC l) (sD l) (sB l) (sD l) (sE l)
def x7o(l:List Mp):List AV:=[I (of0 Mp.b0 l),I (of1 Mp.b0 l),I (of2 Mp.b0 l),I (of0 Mp.b1 l),I (of1 Mp.b1 l),I (of2 Mp.b1 l)]
theorem xgx(l:List Mp)(x:Mp):x7n (l++[x])=row9 (sN l+1) (sA l+x.ln) (sB l+x.sm) (sA l+x.ln) (sC l+x.ln*x.ln) (sD l+x.ln*x.sm) (sB l+x.sm) (sD l+x.ln*x.sm) (sE l+x.sm*x.sm):=by
 unfold x7n sN sA sB sC sD sE
 simp only[x9a,xa3]
theorem xgy(l:List Mp)(x:Mp):x7o (l++[x])=[I (of0 Mp.b0 l+x.b0),I (of1 Mp.b0 l+x.ln*x.b0),I (of2 Mp.b0 l+x.sm*x.b0),I (of0 Mp.b1 l+x.b1),I (of1 Mp.b1 l+x.ln*x.b1),I (of2 Mp.b1 l+x.sm*x.b1)]:=by
 unfold x7o of0 of1 of2
 simp only[x9a,xa3]
theorem c_fitP0(call:x5a)(hs:FHs){u s6 s7 fc j:Nat}{t2 t14 t15 t16:AV}(rec2:AV->AV->AV->AV->AV->AV->Mem->Nat->O2)(Q:O2->Prop){n a b d e f g h i p0 p1 p2 q0 q1 q2 x y bb cc sc:Int}{m:Mem}(h3:m.get (u,1,3)=some (.row (row9 n a b d e f g h i) 0 false))(h4:m.get (u,2,4)=some (.row [I p0,I p1,I p2,I q0,I q1,I q2] 0 false))(h6:m.get (u,s6,6)=some (.row [I x,I y,I bb,I cc,I sc] 0 false))(h7:m.get (u,s7,7)=some (.row [I 1,I x,I y] 0 false))(hx:bd x 63)(hy:bd y 63)(hb:bd bb 8)(hc:bd cc 8)(hn:bd n 1000000/\bd a 1000000/\bd b 1000000/\bd d 1000000/\bd e 1000000/\bd f 1000000/\bd g 1000000/\bd h 1000000/\bd i 1000000)(hp:bd p0 1000000/\bd p1 1000000/\bd p2 1000000/\bd q0 1000000/\bd q1 1000000/\bd q2 1000000)(hQ:∀m' fc',m'.get (u,1,3)=some (.row (row9 (n+1*1) (a+1*x) (b+1*y) d e f g h i) 0 false)->m'.get (u,2,4)=some (.row [I (p0+1*bb),I (p1),I (p2),I (q0+1*cc),I (q1),I (q2)] 0 false)->(∀id:Id,id.2.2≠3->id.2.2≠4->m'.get id=m.get id)->m'.next=m.next ->
 Q (x5 call hs u rec2 j t2 (.ptr (u,1,3) 0 0) (.ptr (u,2,4) 0 0) (.ptr (u,s6,6) 0 0) (.ptr (u,s7,7) 0 0) t14 t15 t16 (I 1) m' fc')) :
 Q (x5 call hs u rec2 (j+1) t2 (.ptr (u,1,3) 0 0) (.ptr (u,2,4) 0 0) (.ptr (u,s6,6) 0 0) (.ptr (u,s7,7) 0 0) t14 t15 t16 (I 0) m fc):=by
 obtain⟨b0,b1,b2,b3,b4,b5,b6,b7,b8⟩:=hn
 obtain⟨e0,e1,e2,e3,e4,e5⟩:=hp
 have r0:=hx.mul hx;have r1:=hx.mul hy;have r2:=hy.mul hy;have r3:=hy.mul hx
 have s0:=hx.mul hb;have s1:=hy.mul hb;have s2:=hx.mul hc;have s3:=hy.mul hc
 unfold bd at *
 obtain⟨NM,hNM⟩:∃NM,NN=NM+4:=⟨NN-4,by have:=x6l;omega⟩
 rw[x5]
 generalize x5 call hs u rec2 j=R3 at *
 unfold x1b
 simp only[x77,x5t,show(0:Int)<3 from by omega,xit,x78]
 unfold x1t x1s
 rw[hNM]
 simp only[xg]
 generalize xg call hs u rec2 R3 NM=R4
 unfold x1r x1q x1p
 simp(disch:=omega) [sIxA,asI,h3,h4,h6,h7,row9,x66]
 refine hQ _ _ ?_ ?_ ?_ ?_
 .simp[row9]
 .simp
 .intro id i1 i2
  simp only[Mem.get_set]
  repeat rw[xhl (by rintro rfl;first|exact i1 rfl|exact i2 rfl)]
 .simp
theorem c_fitP1(call:x5a)(hs:FHs){u s6 s7 fc j:Nat}{t2 t14 t15 t16:AV}(rec2:AV->AV->AV->AV->AV->AV->Mem->Nat->O2)(Q:O2->Prop){n a b d e f g h i p0 p1 p2 q0 q1 q2 x y bb cc sc:Int}{m:Mem}(h3:m.get (u,1,3)=some (.row (row9 n a b d e f g h i) 0 false))(h4:m.get (u,2,4)=some (.row [I p0,I p1,I p2,I q0,I q1,I q2] 0 false))(h6:m.get (u,s6,6)=some (.row [I x,I y,I bb,I cc,I sc] 0 false))(h7:m.get (u,s7,7)=some (.row [I 1,I x,I y] 0 false))(hx:bd x 63)(hy:bd y 63)(hb:bd bb 8)(hc:bd cc 8)(hn:bd n 1000000/\bd a 1000000/\bd b 1000000/\bd d 1000000/\bd e 1000000/\bd f 1000000/\bd g 1000000/\bd h 1000000/\bd i 1000000)(hp:bd p0 1000000/\bd p1 1000000/\bd p2 1000000/\bd q0 1000000/\bd q1 1000000/\bd q2 1000000)(hQ:∀m' fc',m'.get (u,1,3)=some (.row (row9 n a b (d+x*1) (e+x*x) (f+x*y) g h i) 0 false)->m'.get (u,2,4)=some (.row [I (p0),I (p1+x*bb),I (p2),I (q0),I (q1+x*cc),I (q2)] 0 false)->(∀id:Id,id.2.2≠3->id.2.2≠4->m'.get id=m.get id)->m'.next=m.next ->
 Q (x5 call hs u rec2 j t2 (.ptr (u,1,3) 0 0) (.ptr (u,2,4) 0 0) (.ptr (u,s6,6) 0 0) (.ptr (u,s7,7) 0 0) t14 t15 t16 (I 2) m' fc')) :
 Q (x5 call hs u rec2 (j+1) t2 (.ptr (u,1,3) 0 0) (.ptr (u,2,4) 0 0) (.ptr (u,s6,6) 0 0) (.ptr (u,s7,7) 0 0) t14 t15 t16 (I 1) m fc):=by
 obtain⟨b0,b1,b2,b3,b4,b5,b6,b7,b8⟩:=hn
 obtain⟨e0,e1,e2,e3,e4,e5⟩:=hp
 have r0:=hx.mul hx;have r1:=hx.mul hy;have r2:=hy.mul hy;have r3:=hy.mul hx
 have s0:=hx.mul hb;have s1:=hy.mul hb;have s2:=hx.mul hc;have s3:=hy.mul hc
 unfold bd at *
 obtain⟨NM,hNM⟩:∃NM,NN=NM+4:=⟨NN-4,by have:=x6l;omega⟩
 rw[x5]
 generalize x5 call hs u rec2 j=R3 at *
 unfold x1b
 simp only[x77,x5t,show(1:Int)<3 from by omega,xit,x78]
 unfold x1t x1s
 rw[hNM]
 simp only[xg]
 generalize xg call hs u rec2 R3 NM=R4
 unfold x1r x1q x1p
 simp(disch:=omega) [sIxA,asI,h3,h4,h6,h7,row9,x66]
 refine hQ _ _ ?_ ?_ ?_ ?_
 .simp[row9]
 .simp
 .intro id i1 i2
  simp only[Mem.get_set]
  repeat rw[xhl (by rintro rfl;first|exact i1 rfl|exact i2 rfl)]
 .simp
theorem c_fitP2(call:x5a)(hs:FHs){u s6 s7 fc j:Nat}{t2 t14 t15 t16:AV}(rec2:AV->AV->AV->AV->AV->AV->Mem->Nat->O2)(Q:O2->Prop){n a b d e f g h i p0 p1 p2 q0 q1 q2 x y bb cc sc:Int}{m:Mem}(h3:m.get (u,1,3)=some (.row (row9 n a b d e f g h i) 0 false))(h4:m.get (u,2,4)=some (.row [I p0,I p1,I p2,I q0,I q1,I q2] 0 false))(h6:m.get (u,s6,6)=some (.row [I x,I y,I bb,I cc,I sc] 0 false))(h7:m.get (u,s7,7)=some (.row [I 1,I x,I y] 0 false))(hx:bd x 63)(hy:bd y 63)(hb:bd bb 8)(hc:bd cc 8)(hn:bd n 1000000/\bd a 1000000/\bd b 1000000/\bd d 1000000/\bd e 1000000/\bd f 1000000/\bd g 1000000/\bd h 1000000/\bd i 1000000)(hp:bd p0 1000000/\bd p1 1000000/\bd p2 1000000/\bd q0 1000000/\bd q1 1000000/\bd q2 1000000)(hQ:∀m' fc',m'.get (u,1,3)=some (.row (row9 n a b d e f (g+y*1) (h+y*x) (i+y*y)) 0 false)->m'.get (u,2,4)=some (.row [I (p0),I (p1),I (p2+y*bb),I (q0),I (q1),I (q2+y*cc)] 0 false)->(∀id:Id,id.2.2≠3->id.2.2≠4->m'.get id=m.get id)->m'.next=m.next ->
 Q (x5 call hs u rec2 j t2 (.ptr (u,1,3) 0 0) (.ptr (u,2,4) 0 0) (.ptr (u,s6,6) 0 0) (.ptr (u,s7,7) 0 0) t14 t15 t16 (I 3) m' fc')) :
 Q (x5 call hs u rec2 (j+1) t2 (.ptr (u,1,3) 0 0) (.ptr (u,2,4) 0 0) (.ptr (u,s6,6) 0 0) (.ptr (u,s7,7) 0 0) t14 t15 t16 (I 2) m fc):=by
 obtain⟨b0,b1,b2,b3,b4,b5,b6,b7,b8⟩:=hn
 obtain⟨e0,e1,e2,e3,e4,e5⟩:=hp
 have r0:=hx.mul hx;have r1:=hx.mul hy;have r2:=hy.mul hy;have r3:=hy.mul hx
 have s0:=hx.mul hb;have s1:=hy.mul hb;have s2:=hx.mul hc;have s3:=hy.mul hc
 unfold bd at *
 obtain⟨NM,hNM⟩:∃NM,NN=NM+4:=⟨NN-4,by have:=x6l;omega⟩
 rw[x5]
 generalize x5 call hs u rec2 j=R3 at *
 unfold x1b
 simp only[x77,x5t,show(2:Int)<3 from by omega,xit,x78]
 unfold x1t x1s
 rw[hNM]
 simp only[xg]
 generalize xg call hs u rec2 R3 NM=R4
 unfold x1r x1q x1p
 simp(disch:=omega) [sIxA,asI,h3,h4,h6,h7,row9,x66]
 refine hQ _ _ ?_ ?_ ?_ ?_
 .simp[row9]
 .simp
 .intro id i1 i2
  simp only[Mem.get_set]
  repeat rw[xhl (by rintro rfl;first|exact i1 rfl|exact i2 rfl)]
 .simp
theorem b_fitP(d:Nat)(hs:FHs){u:Nat}{t2:AV}(rec2:AV->AV->AV->AV->AV->AV->Mem->Nat->O2)(Q:O2->Prop)(ha:Pts a l)(hl:l.length<=13)(hin:x5s l){k:Nat}(hk:k<l.length){m:Mem}{fc:Nat}(h3:m.get (u,1,3)=some (.row (x7n (l.take k)) 0 false))(h4:m.get (u,2,4)=some (.row (x7o (l.take k)) 0 false))(hQ:∀m' fc',m'.get (u,1,3)=some (.row (x7n (l.take (k+1))) 0 false)->m'.get (u,2,4)=some (.row (x7o (l.take (k+1))) 0 false)->m'.get (u,0,2)=m.get (u,0,2)->m'.next=m.next->Q (rec2 t2 (.ptr (u,1,3) 0 0) (.ptr (u,2,4) 0 0) a (I l.length) (I ((k+1:Nat):Int)) m' fc')) :
 Q (x2k (x59 (d+1)) hs u rec2 t2 (.ptr (u,1,3) 0 0) (.ptr (u,2,4) 0 0) a (I l.length) (I k) m fc):=by
 have hx:=hin l[k] (xih hk)
 have htk:l.take (k+1)=l.take k++[l[k]]:=xl3 hk
 rw[htk,xgx,xgy]at hQ
 have hin':x5s (l.take k):=λy hy=>hin y (xkz hy)
 have hl':(l.take k).length<=13:=by simp;omega
 have N:=bN hin' hl';have A:=bA hin' hl';have B:=bB hin' hl';have C:=bC hin' hl';have D:=bD hin' hl';have E:=bE hin' hl'
 have g0:∀x∈l.take k,bd x.b0 8:=λx hx=>(hin' x hx).b0
 have g1:∀x∈l.take k,bd x.b1 8:=λx hx=>(hin' x hx).b1
 have X0:=b0F hin' hl' g0;have X1:=b1F hin' hl' g0;have X2:=b2F hin' hl' g0
 have Y0:=b0F hin' hl' g1;have Y1:=b1F hin' hl' g1;have Y2:=b2F hin' hl' g1
 have ix:=ha.ix Mp.len hk
 have ld:=x98 (m:=m) Mp.len (by omega) hk
 unfold x7n at h3
 unfold x7o at h4
 generalize l[k]=x at *
 generalize sN (l.take k)=vn at *
 generalize sA (l.take k)=va at *
 generalize sB (l.take k)=vb at *
 generalize sC (l.take k)=vc at *
 generalize sD (l.take k)=vd at *
 generalize sE (l.take k)=ve at *
 generalize of0 Mp.b0 (l.take k)=x0 at *
 generalize of1 Mp.b0 (l.take k)=x1 at *
 generalize of2 Mp.b0 (l.take k)=x2 at *
 generalize of0 Mp.b1 (l.take k)=y0 at *
 generalize of1 Mp.b1 (l.take k)=y1 at *
 generalize of2 Mp.b1 (l.take k)=y2 at *
 obtain⟨xl,xs,xb0,xb1,xc⟩:=x
 have p0:bd xl 63:=hx.ln
 have p1:bd xs 63:=hx.sm
 have q0:bd xb0 8:=hx.b0
 have q1:bd xb1 8:=hx.b1
 have r0:=p0.mul p0;have r1:=p0.mul p1;have r2:=p1.mul p1;have r3:=p1.mul p0
 have s0:=p0.mul q0;have s1:=p1.mul q0;have s2:=p0.mul q1;have s3:=p1.mul q1
 simp only at hQ
 unfold x2k
 obtain⟨NM,hNM⟩:∃NM,NN=NM+4:=⟨NN-4,by have:=x6l;omega⟩
 simp only[ix,ld,x5t,hNM]
 simp[Mp.c,z_pt,xbg,xbh]
 refine c_fitP0 (x59 (d+1)) hs rec2 Q (n:=vn) (a:=va) (b:=vb) (d:=va) (e:=vc) (f:=vd) (g:=vb) (h:=vd) (i:=ve) (p0:=x0) (p1:=x1) (p2:=x2) (q0:=y0) (q1:=y1) (q2:=y2) (x:=xl) (y:=xs) (bb:=xb0) (cc:=xb1) (sc:=xc) (by simpa using h3) (by simpa using h4) (by simp) (by simp) p0 p1 q0 q1 ⟨N.mono (by omega),A.mono (by omega),B.mono (by omega),A.mono (by omega),C.mono (by omega),D.mono (by omega),B.mono (by omega),D.mono (by omega),E.mono (by omega)⟩ ⟨X0.mono (by omega),X1.mono (by omega),X2.mono (by omega),Y0.mono (by omega),Y1.mono (by omega),Y2.mono (by omega)⟩ λm1 fc1 k1 k2 k3 n1=>?_
 refine c_fitP1 (x59 (d+1)) hs rec2 Q (x:=xl) (y:=xs) (bb:=xb0) (cc:=xb1) (sc:=xc) k1 k2 (by rw[k3 _ (by simp) (by simp)];simp) (by rw[k3 _ (by simp) (by simp)];simp) p0 p1 q0 q1 ?_ ?_ λm2 fc2 k4 k5 k6 n2=>?_
 .unfold bd at *;omega
 .unfold bd at *;omega
 refine c_fitP2 (x59 (d+1)) hs rec2 Q (x:=xl) (y:=xs) (bb:=xb0) (cc:=xb1) (sc:=xc) k4 k5 (by rw[k6 _ (by simp) (by simp),k3 _ (by simp) (by simp)];simp) (by rw[k6 _ (by simp) (by simp),k3 _ (by simp) (by simp)];simp) p0 p1 q0 q1 ?_ ?_ λm3 fc3 k7 k8 k9 n3=>?_
 .unfold bd at *;omega
 .unfold bd at *;omega
 simp only[x5]
 unfold x1b x3y
 have hk2:(k:Int)<=13:=by omega
 simp(disch:=omega) [x66]
 refine hQ m3 _ ?_ ?_ ?_ ?_
 .rw[k7];simp[Int.mul_comm]
 .rw[k8];simp
 .rw[k9 _ (by simp) (by simp),k6 _ (by simp) (by simp),k3 _ (by simp) (by simp)];simp
 .rw[n3,n2,n1];simp
attribute [local simp high] rd_5
variable{a:AV}{l:List Mp}
theorem l_fitP(d:Nat)(hs:FHs){u:Nat}{t2:AV}(Q:O2->Prop)(ha:Pts a l)(hl:l.length<=13)(hin:x5s l):∀(suf:List Mp) (k j:Nat) (m:Mem) (fc:Nat),l.drop k=suf->suf.length<j ->
 m.get (u,1,3)=some (.row (x7n (l.take k)) 0 false)->m.get (u,2,4)=some (.row (x7o (l.take k)) 0 false) ->
 (∀m' fc',m'.get (u,1,3)=some (.row (x7n l) 0 false)->m'.get (u,2,4)=some (.row (x7o l) 0 false)->m'.get (u,0,2)=m.get (u,0,2)->m'.next=m.next->Q (x1o (x59 (d+1)) hs u t2 (.ptr (u,1,3) 0 0) (.ptr (u,2,4) 0 0) m' fc')) ->
 Q (x1c (x59 (d+1)) hs u j t2 (.ptr (u,1,3) 0 0) (.ptr (u,2,4) 0 0) a (I l.length) (I k) m fc):=by
 intro suf
 induction suf with
 |nil=>
  intro k j m fc hd hj h3 h4 hQ
  obtain⟨j,rfl⟩:∃i,j=i+1:=⟨j-1,by simp at hj;omega⟩
  have hk0:=xjo.mp hd
  have hk:¬((k:Int)<(l.length:Int)):=by omega
  rw[xi5 hk0]at h3 h4
  simp only[x1c]
  unfold x2l
  simp only[x77,hk,decide_false,x5t,xcn]
  exact hQ m _ h3 h4 rfl rfl
 |cons e r ih=>
  intro k j m fc hd hj h3 h4 hQ
  obtain⟨j,rfl⟩:∃i,j=i+1:=⟨j-1,by simp at hj;omega⟩
  obtain⟨hk,he,hd⟩:=x97 hd
  have hk':(k:Int)<(l.length:Int):=by omega
  simp only[x1c]
  unfold x2l
  simp only[x77,hk',xit,x5t,x78]
  refine b_fitP d hs _ Q ha hl hin hk h3 h4 λm1 fc1 g3 g4 g2 gn=>?_
  exact ih (k+1) j m1 fc1 hd (by simp at hj;omega) g3 g4 λm' fc' q3 q4 q2 qn=>hQ m' fc' q3 q4 (q2.trans g2) (qn.trans gn)
theorem cAp_p(x y v o:Nat):cAp (some 1) (tR (.ptr (0,x,y) v o)) 2=true:=_root_.id rfl
theorem dt9_DD(l:List Mp):dt9 (sN l) (sA l) (sB l) (sA l) (sC l) (sD l) (sB l) (sD l) (sE l)=DD l:=by unfold dt9 DD dt;grind
theorem dt9_P0(g:Mp->Int)(l:List Mp):dt9 (of0 g l) (of1 g l) (of2 g l) (sA l) (sC l) (sD l) (sB l) (sD l) (sE l)=C0 g l:=by unfold dt9 C0 c0;grind
theorem dt9_P1(g:Mp->Int)(l:List Mp):dt9 (sN l) (sA l) (sB l) (of0 g l) (of1 g l) (of2 g l) (sB l) (sD l) (sE l)=C1 g l:=by unfold dt9 C1 c1;grind
theorem dt9_P2(g:Mp->Int)(l:List Mp):dt9 (sN l) (sA l) (sB l) (sA l) (sC l) (sD l) (of0 g l) (of1 g l) (of2 g l)=C2 g l:=by unfold dt9 C2 c2;grind
theorem gF_steps(l:List Mp):gF l=(Int.gcd (Int.gcd (Int.gcd (Int.gcd (Int.gcd (Int.gcd (DD l) (C0 Mp.b0 l):Int) (C0 Mp.b1 l):Int) (C1 Mp.b0 l):Int) (C1 Mp.b1 l):Int) (C2 Mp.b0 l):Int) (C2 Mp.b1 l):Int):=rfl
theorem xa8{a b B:Int}(h:bd b B)(ha:bd a B):bd (Int.gcd a b:Int) B:=by
 rw[bd.abs]at *
 by_cases hb:b=0
 .subst hb;simpa using ha
 .have h1:((Int.gcd a b:Nat):Int) ∣ b:=Int.gcd_dvd_right a b
  have h2:=Int.natAbs_dvd_natAbs.mpr h1
  have h3:=Nat.le_of_dvd (by omega) h2
  simp at h3 ⊢
  omega
theorem b_fit6(d:Nat)(hs:FHs)(ha:Pts a l)(hl:l.length<=13)(hin:x5s l)(hD:0<DD l){m:Mem}{fc:Nat}(h3:m.get (0,1,3)=some (.row (x7n l) 0 false))(h4:m.get (0,2,4)=some (.row (x7o l) 0 false))(h2:m.get (0,0,2)=some (.row [I 0,I 0,I 0,I 0,I 0,I 0,I 0] 0 false))(hn:m.next=1) :
 ∃m',x1o (x59 (d+2)) hs 0 (.ptr (0,0,2) 0 0) (.ptr (0,1,3) 0 0) (.ptr (0,2,4) 0 0) m fc=some (.agg (fitM l).c,m'):=by
 have g0:∀x∈l,bd x.b0 8:=λx hx=>(hin x hx).b0
 have g1:∀x∈l,bd x.b1 8:=λx hx=>(hin x hx).b1
 have bD:=DD_bd hin hl
 have b00:=C0_bd hin hl g0;have b01:=C0_bd hin hl g1;have b10:=C1_bd hin hl g0;have b11:=C1_bd hin hl g1;have b20:=C2_bd hin hl g0;have b21:=C2_bd hin hl g1
 have wD:=x8r (n:=sN l) (a:=sA l) (b:=sB l) (d:=sA l) (e:=sC l) (f:=sD l) (g:=sB l) (h:=sD l) (i:=sE l) d (by rw[dt9_DD];exact bD.mono (by omega))
 have w00:=x8r (n:=of0 Mp.b0 l) (a:=of1 Mp.b0 l) (b:=of2 Mp.b0 l) (d:=sA l) (e:=sC l) (f:=sD l) (g:=sB l) (h:=sD l) (i:=sE l) d (by rw[dt9_P0];exact b00.mono (by omega))
 have w01:=x8r (n:=of0 Mp.b1 l) (a:=of1 Mp.b1 l) (b:=of2 Mp.b1 l) (d:=sA l) (e:=sC l) (f:=sD l) (g:=sB l) (h:=sD l) (i:=sE l) d (by rw[dt9_P0];exact b01.mono (by omega))
 have w10:=x8r (n:=sN l) (a:=sA l) (b:=sB l) (d:=of0 Mp.b0 l) (e:=of1 Mp.b0 l) (f:=of2 Mp.b0 l) (g:=sB l) (h:=sD l) (i:=sE l) d (by rw[dt9_P1];exact b10.mono (by omega))
 have w11:=x8r (n:=sN l) (a:=sA l) (b:=sB l) (d:=of0 Mp.b1 l) (e:=of1 Mp.b1 l) (f:=of2 Mp.b1 l) (g:=sB l) (h:=sD l) (i:=sE l) d (by rw[dt9_P1];exact b11.mono (by omega))
 have w20:=x8r (n:=sN l) (a:=sA l) (b:=sB l) (d:=sA l) (e:=sC l) (f:=sD l) (g:=of0 Mp.b0 l) (h:=of1 Mp.b0 l) (i:=of2 Mp.b0 l) d (by rw[dt9_P2];exact b20.mono (by omega))
 have w21:=x8r (n:=sN l) (a:=sA l) (b:=sB l) (d:=sA l) (e:=sC l) (f:=sD l) (g:=of0 Mp.b1 l) (h:=of1 Mp.b1 l) (i:=of2 Mp.b1 l) d (by rw[dt9_P2];exact b21.mono (by omega))
 rw[dt9_DD]at wD
 rw[dt9_P0]at w00 w01
 rw[dt9_P1]at w10 w11
 rw[dt9_P2]at w20 w21
 have D:=bD.mono (b:=4000000000000000000) (by omega)
 have B00:=b00.mono (b:=4000000000000000000) (by omega);have B01:=b01.mono (b:=4000000000000000000) (by omega);have B10:=b10.mono (b:=4000000000000000000) (by omega);have B11:=b11.mono (b:=4000000000000000000) (by omega);have B20:=b20.mono (b:=4000000000000000000) (by omega);have B21:=b21.mono (b:=4000000000000000000) (by omega)
 have G1:=xa8 B00 D
 have G2:=xa8 B01 G1
 have G3:=xa8 B10 G2
 have G4:=xa8 B11 G3
 have G5:=xa8 B20 G4
 have v1:=x9f d D B00
 have v2:=x9f d G1 B01
 have v3:=x9f d G2 B10
 have v4:=x9f d G3 B11
 have v5:=x9f d G4 B20
 have v6:=x9f d G5 B21
 have hgp:=xa5 hD
 obtain⟨d0,d1⟩:=xa6 l
 have y0:=x8s hgp d0 D
 have y00:=x8s hgp (d1 (C0 Mp.b0 l) (by simp[x5m])) B00
 have y01:=x8s hgp (d1 (C0 Mp.b1 l) (by simp[x5m])) B01
 have y10:=x8s hgp (d1 (C1 Mp.b0 l) (by simp[x5m])) B10
 have y11:=x8s hgp (d1 (C1 Mp.b1 l) (by simp[x5m])) B11
 have y20:=x8s hgp (d1 (C2 Mp.b0 l) (by simp[x5m])) B20
 have y21:=x8s hgp (d1 (C2 Mp.b1 l) (by simp[x5m])) B21
 have hgF:=gF_steps l
 generalize hgn:(Int.gcd (DD l) (C0 Mp.b0 l):Int)=q1 at *
 generalize (Int.gcd q1 (C0 Mp.b1 l):Int)=q2 at *
 generalize (Int.gcd q2 (C1 Mp.b0 l):Int)=q3 at *
 generalize (Int.gcd q3 (C1 Mp.b1 l):Int)=q4 at *
 generalize (Int.gcd q4 (C2 Mp.b0 l):Int)=q5 at *
 rw[<-hgF]at v6
 have f1:(fitM l).c=[I (DD l / gF l),I (C0 Mp.b0 l / gF l),I (C1 Mp.b0 l / gF l),I (C2 Mp.b0 l / gF l),I (C0 Mp.b1 l / gF l),I (C1 Mp.b1 l / gF l),I (C2 Mp.b1 l / gF l)]:=rfl
 rw[f1]
 clear f1 hgF d1 d0 hgp D B00 B01 B10 B11 B20 B21 G1 G2 G3 G4 G5 bD b00 b01 b10 b11 b20 b21 g0 g1 hgn
 unfold x7n at h3
 unfold x7o at h4
 obtain⟨NM,hNM⟩:∃NM,NN=NM+4:=⟨NN-4,by have:=x6l;omega⟩
 unfold x1o
 simp only[row9]at wD w00 w01 w10 w11 w20 w21 h3
 have W0:=w_withP0 (n:=sN l) (a:=sA l) (b:=sB l) (d:=sA l) (e:=sC l) (f:=sD l) (g:=sB l) (h:=sD l) (i:=sE l) (d+1)
 have W1:=w_withP1 (n:=sN l) (a:=sA l) (b:=sB l) (d:=sA l) (e:=sC l) (f:=sD l) (g:=sB l) (h:=sD l) (i:=sE l) (d+1)
 have W2:=w_withP2 (n:=sN l) (a:=sA l) (b:=sB l) (d:=sA l) (e:=sC l) (f:=sD l) (g:=sB l) (h:=sD l) (i:=sE l) (d+1)
 simp only[row9]at W0 W1 W2
 have eb:∀x:Int,x6c [I 0,I 0,I 0,I 0,I 0,I 0,I 0] [(0,1,I x)]=some (.agg [I x,I 0,I 0,I 0,I 0,I 0,I 0]):=λx=>by simp[x6c,x6x]
 simp[h3,wD,eb,xa7]
 unfold x3x
 rw[hNM]
 obtain⟨M0,hM0⟩:∃M0:Mem,(m.new (0,fc+3,10) (.row [I 0,I 0,I 0,I 0,I 0,I 0,I 0] 0 false)).set (0,fc+3,10) (.row [I (DD l),I 0,I 0,I 0,I 0,I 0,I 0] 0 false)=M0:=⟨_,rfl⟩
 rw[hM0]
 have k3:M0.get (0,1,3)=m.get (0,1,3):=by rw[<-hM0];simp
 have k4:M0.get (0,2,4)=m.get (0,2,4):=by rw[<-hM0];simp
 have k2:M0.get (0,0,2)=m.get (0,0,2):=by rw[<-hM0];simp
 have k10:M0.get (0,fc+3,10)=some (.row [I (DD l),I 0,I 0,I 0,I 0,I 0,I 0] 0 false):=by rw[<-hM0];simp
 have kn:M0.next=1:=by rw[<-hM0];simp[hn]
 rw[h3]at k3
 rw[h4]at k4
 rw[h2]at k2
 rw[x9]
 generalize hR:x9 (x59 (d+2)) hs 0 (NM+3)=R
 unfold x1a
 simp(disch:=omega) [k3,k4,k10,kn,sIxA,asI,W0,w00,w01,cAp_p,v1,v2]
 rw[<-hR,x9]
 obtain⟨M1,hM1⟩:∃M1:Mem,(M0.set (0,fc+3,10) (.row [I (DD l),I (C0 Mp.b0 l),I 0,I 0,I 0,I 0,I 0] 0 false)).set (0,fc+3,10) (.row [I (DD l),I (C0 Mp.b0 l),I 0,I 0,I (C0 Mp.b1 l),I 0,I 0] 0 false)=M1:=⟨_,rfl⟩
 rw[hM1]
 have j3:M1.get (0,1,3)=M0.get (0,1,3):=by rw[<-hM1];simp
 have j4:M1.get (0,2,4)=M0.get (0,2,4):=by rw[<-hM1];simp
 have j2:M1.get (0,0,2)=M0.get (0,0,2):=by rw[<-hM1];simp
 have j10:M1.get (0,fc+3,10)=some (.row [I (DD l),I (C0 Mp.b0 l),I 0,I 0,I (C0 Mp.b1 l),I 0,I 0] 0 false):=by rw[<-hM1];simp
 have jn:M1.next=1:=by rw[<-hM1];simp[kn]
 rw[k3]at j3
 rw[k4]at j4
 rw[k2]at j2
 generalize hR2:x9 (x59 (d+2)) hs 0 (NM+2)=R2
 unfold x1a
 simp(disch:=omega) [j3,j4,j10,jn,sIxA,asI,W1,w10,w11,cAp_p,v3,v4]
 rw[<-hR2,x9]
 obtain⟨M2,hM2⟩:∃M2:Mem,(M1.set (0,fc+3,10) (.row [I (DD l),I (C0 Mp.b0 l),I (C1 Mp.b0 l),I 0,I (C0 Mp.b1 l),I 0,I 0] 0 false)).set (0,fc+3,10) (.row [I (DD l),I (C0 Mp.b0 l),I (C1 Mp.b0 l),I 0,I (C0 Mp.b1 l),I (C1 Mp.b1 l),I 0] 0 false)=M2:=⟨_,rfl⟩
 rw[hM2]
 have i3:M2.get (0,1,3)=M1.get (0,1,3):=by rw[<-hM2];simp
 have i4:M2.get (0,2,4)=M1.get (0,2,4):=by rw[<-hM2];simp
 have i2:M2.get (0,0,2)=M1.get (0,0,2):=by rw[<-hM2];simp
 have i10:M2.get (0,fc+3,10)=some (.row [I (DD l),I (C0 Mp.b0 l),I (C1 Mp.b0 l),I 0,I (C0 Mp.b1 l),I (C1 Mp.b1 l),I 0] 0 false):=by rw[<-hM2];simp
 have inn:M2.next=1:=by rw[<-hM2];simp[jn]
 rw[j3]at i3
 rw[j4]at i4
 rw[j2]at i2
 generalize hR3:x9 (x59 (d+2)) hs 0 (NM+1)=R3
 unfold x1a
 simp(disch:=omega) [i3,i4,i10,inn,sIxA,asI,W2,w20,w21,cAp_p,v5,v6]
 rw[<-hR3,x9]
 unfold x1a x3w x3v
 rw[hNM]
 simp only[x2j]
 unfold x3u x3t
 simp(disch:=omega) [i2,i10,sIxA,asI,y0,y00,y01,y10,y11,y20,y21,sLdP]
end Go.Ix
