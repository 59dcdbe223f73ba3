import Derived.Test.YtgediplphidhpaaGreatWg6
set_option linter.unusedSimpArgs false
set_option linter.unusedVariables false
namespace Go.Ix
open Go.Proofs
attribute [local simp high] rd_5
theorem z_norm3:xi9=[I 0,I 0,I 0,I 0,I 0,I 0,I 0,I 0,I 0]:=by kernel_rfl
theorem xqt:xq=[I 0,I 0,I 0,I 0,I 0,I 0,I 0]:=by kernel_rfl
theorem z_2row:xia=[I 0,I 0,I 0,I 0,I 0,I 0]:=by kernel_rfl
theorem xxk:x66=[I 0,I 0,I 0]:=by kernel_rfl
variable{a:AV}{l:List Mp}
def xpp(l:List Mp):List AV:=row9 (sN l) (sA l) (sB l) (sA l) (sC l) (sD l) (sB l) (sD l) (sE l)
def xpq(l:List Mp):List AV:=[I (of0 Mp.b0 l),I (of1 Mp.b0 l),I (of2 Mp.b0 l),I (of0 Mp.b1 l),I (of1 Mp.b1 l),I (of2 Mp.b1 l)]
theorem x133(l:List Mp)(x:Mp):xpp (l++[x])=row9 (sN l+1) (sA l+x.ln) (sB l+x.sm) (sA l+x.ln) (sC l+x.ln*x.ln) (sD l+x.ln*x.sm) (sB l+x.sm) (sD l+x.ln*x.sm) (sE l+x.sm*x.sm):=by
 unfold xpp sN sA sB sC sD sE
 simp only[su_app,su_one]
theorem x134(l:List Mp)(x:Mp):xpq (l++[x])=[I (of0 Mp.b0 l+x.b0),I (of1 Mp.b0 l+x.ln*x.b0),I (of2 Mp.b0 l+x.sm*x.b0),I (of0 Mp.b1 l+x.b1),I (of1 Mp.b1 l+x.ln*x.b1),I (of2 Mp.b1 l+x.sm*x.b1)]:=by
 unfold xpq of0 of1 of2
 simp only[su_app,su_one]
theorem c_fitP0(call:xnv)(hs:FHs){u s6 s7 fc j:Nat}{t2 t14 t15 t16:AV}(rec2:AV->AV->AV->AV->AV->AV->Mem->Nat->O2)(Q:O2->Prop){n a b d e f g h i p0 p1 p2 q0 q1 q2 x y bb cc sc:Int}{m:Mem}(h3:m.get (u,1,3)=some (.row (row9 n a b d e f g h i) 0 false))(h4:m.get (u,2,4)=some (.row [I p0,I p1,I p2,I q0,I q1,I q2] 0 false))(h6:m.get (u,s6,6)=some (.row [I x,I y,I bb,I cc,I sc] 0 false))(h7:m.get (u,s7,7)=some (.row [I 1,I x,I y] 0 false))(hx:bd x 63)(hy:bd y 63)(hb:bd bb 8)(hc:bd cc 8)(hn:bd n 1000000/\bd a 1000000/\bd b 1000000/\bd d 1000000/\bd e 1000000/\bd f 1000000/\bd g 1000000/\bd h 1000000/\bd i 1000000)(hp:bd p0 1000000/\bd p1 1000000/\bd p2 1000000/\bd q0 1000000/\bd q1 1000000/\bd q2 1000000)(hQ:∀m' fc',m'.get (u,1,3)=some (.row (row9 (n+1*1) (a+1*x) (b+1*y) d e f g h i) 0 false)->m'.get (u,2,4)=some (.row [I (p0+1*bb),I (p1),I (p2),I (q0+1*cc),I (q1),I (q2)] 0 false)->(∀id:Id,id.2.2≠3->id.2.2≠4->m'.get id=m.get id)->m'.next=m.next ->
 Q (xm call hs u rec2 j t2 (.ptr (u,1,3) 0 0) (.ptr (u,2,4) 0 0) (.ptr (u,s6,6) 0 0) (.ptr (u,s7,7) 0 0) t14 t15 t16 (I 1) m' fc')) :
 Q (xm call hs u rec2 (j+1) t2 (.ptr (u,1,3) 0 0) (.ptr (u,2,4) 0 0) (.ptr (u,s6,6) 0 0) (.ptr (u,s7,7) 0 0) t14 t15 t16 (I 0) m fc):=by
 obtain⟨b0,b1,b2,b3,b4,b5,b6,b7,b8⟩:=hn
 obtain⟨e0,e1,e2,e3,e4,e5⟩:=hp
 have r0:=hx.mul hx;have r1:=hx.mul hy;have r2:=hy.mul hy;have r3:=hy.mul hx
 have s0:=hx.mul hb;have s1:=hy.mul hb;have s2:=hx.mul hc;have s3:=hy.mul hc
 unfold bd at *
 obtain⟨NM,hNM⟩:∃NM,NN=NM+4:=⟨NN-4,by have:=xo8;omega⟩
 rw[xm]
 generalize xm call hs u rec2 j=R3 at *
 unfold x4z
 simp only[xou,xnz,show(0:Int)<3 from by omega,x19d,xot]
 unfold x6f x6e
 rw[hNM]
 simp only[x1b]
 generalize x1b call hs u rec2 R3 NM=R4
 unfold x6d x6c x6b
 simp(disch:=omega) [sIxA,asI,h3,h4,h6,h7,row9,xnx]
 refine hQ _ _ ?_ ?_ ?_ ?_
 .simp[row9]
 .simp
 .intro id i1 i2
  simp only[Mem.get_set]
  repeat rw[if_neg (by rintro rfl;first|exact i1 rfl|exact i2 rfl)]
 .simp
theorem c_fitP1(call:xnv)(hs:FHs){u s6 s7 fc j:Nat}{t2 t14 t15 t16:AV}(rec2:AV->AV->AV->AV->AV->AV->Mem->Nat->O2)(Q:O2->Prop){n a b d e f g h i p0 p1 p2 q0 q1 q2 x y bb cc sc:Int}{m:Mem}(h3:m.get (u,1,3)=some (.row (row9 n a b d e f g h i) 0 false))(h4:m.get (u,2,4)=some (.row [I p0,I p1,I p2,I q0,I q1,I q2] 0 false))(h6:m.get (u,s6,6)=some (.row [I x,I y,I bb,I cc,I sc] 0 false))(h7:m.get (u,s7,7)=some (.row [I 1,I x,I y] 0 false))(hx:bd x 63)(hy:bd y 63)(hb:bd bb 8)(hc:bd cc 8)(hn:bd n 1000000/\bd a 1000000/\bd b 1000000/\bd d 1000000/\bd e 1000000/\bd f 1000000/\bd g 1000000/\bd h 1000000/\bd i 1000000)(hp:bd p0 1000000/\bd p1 1000000/\bd p2 1000000/\bd q0 1000000/\bd q1 1000000/\bd q2 1000000)(hQ:∀m' fc',m'.get (u,1,3)=some (.row (row9 n a b (d+x*1) (e+x*x) (f+x*y) g h i) 0 false)->m'.get (u,2,4)=some (.row [I (p0),I (p1+x*bb),I (p2),I (q0),I (q1+x*cc),I (q2)] 0 false)->(∀id:Id,id.2.2≠3->id.2.2≠4->m'.get id=m.get id)->m'.next=m.next ->
 Q (xm call hs u rec2 j t2 (.ptr (u,1,3) 0 0) (.ptr (u,2,4) 0 0) (.ptr (u,s6,6) 0 0) (.ptr (u,s7,7) 0 0) t14 t15 t16 (I 2) m' fc')) :
 Q (xm call hs u rec2 (j+1) t2 (.ptr (u,1,3) 0 0) (.ptr (u,2,4) 0 0) (.ptr (u,s6,6) 0 0) (.ptr (u,s7,7) 0 0) t14 t15 t16 (I 1) m fc):=by
 obtain⟨b0,b1,b2,b3,b4,b5,b6,b7,b8⟩:=hn
 obtain⟨e0,e1,e2,e3,e4,e5⟩:=hp
 have r0:=hx.mul hx;have r1:=hx.mul hy;have r2:=hy.mul hy;have r3:=hy.mul hx
 have s0:=hx.mul hb;have s1:=hy.mul hb;have s2:=hx.mul hc;have s3:=hy.mul hc
 unfold bd at *
 obtain⟨NM,hNM⟩:∃NM,NN=NM+4:=⟨NN-4,by have:=xo8;omega⟩
 rw[xm]
 generalize xm call hs u rec2 j=R3 at *
 unfold x4z
 simp only[xou,xnz,show(1:Int)<3 from by omega,x19d,xot]
 unfold x6f x6e
 rw[hNM]
 simp only[x1b]
 generalize x1b call hs u rec2 R3 NM=R4
 unfold x6d x6c x6b
 simp(disch:=omega) [sIxA,asI,h3,h4,h6,h7,row9,xnx]
 refine hQ _ _ ?_ ?_ ?_ ?_
 .simp[row9]
 .simp
 .intro id i1 i2
  simp only[Mem.get_set]
  repeat rw[if_neg (by rintro rfl;first|exact i1 rfl|exact i2 rfl)]
 .simp
theorem c_fitP2(call:xnv)(hs:FHs){u s6 s7 fc j:Nat}{t2 t14 t15 t16:AV}(rec2:AV->AV->AV->AV->AV->AV->Mem->Nat->O2)(Q:O2->Prop){n a b d e f g h i p0 p1 p2 q0 q1 q2 x y bb cc sc:Int}{m:Mem}(h3:m.get (u,1,3)=some (.row (row9 n a b d e f g h i) 0 false))(h4:m.get (u,2,4)=some (.row [I p0,I p1,I p2,I q0,I q1,I q2] 0 false))(h6:m.get (u,s6,6)=some (.row [I x,I y,I bb,I cc,I sc] 0 false))(h7:m.get (u,s7,7)=some (.row [I 1,I x,I y] 0 false))(hx:bd x 63)(hy:bd y 63)(hb:bd bb 8)(hc:bd cc 8)(hn:bd n 1000000/\bd a 1000000/\bd b 1000000/\bd d 1000000/\bd e 1000000/\bd f 1000000/\bd g 1000000/\bd h 1000000/\bd i 1000000)(hp:bd p0 1000000/\bd p1 1000000/\bd p2 1000000/\bd q0 1000000/\bd q1 1000000/\bd q2 1000000)(hQ:∀m' fc',m'.get (u,1,3)=some (.row (row9 n a b d e f (g+y*1) (h+y*x) (i+y*y)) 0 false)->m'.get (u,2,4)=some (.row [I (p0),I (p1),I (p2+y*bb),I (q0),I (q1),I (q2+y*cc)] 0 false)->(∀id:Id,id.2.2≠3->id.2.2≠4->m'.get id=m.get id)->m'.next=m.next ->
 Q (xm call hs u rec2 j t2 (.ptr (u,1,3) 0 0) (.ptr (u,2,4) 0 0) (.ptr (u,s6,6) 0 0) (.ptr (u,s7,7) 0 0) t14 t15 t16 (I 3) m' fc')) :
 Q (xm call hs u rec2 (j+1) t2 (.ptr (u,1,3) 0 0) (.ptr (u,2,4) 0 0) (.ptr (u,s6,6) 0 0) (.ptr (u,s7,7) 0 0) t14 t15 t16 (I 2) m fc):=by
 obtain⟨b0,b1,b2,b3,b4,b5,b6,b7,b8⟩:=hn
 obtain⟨e0,e1,e2,e3,e4,e5⟩:=hp
 have r0:=hx.mul hx;have r1:=hx.mul hy;have r2:=hy.mul hy;have r3:=hy.mul hx
 have s0:=hx.mul hb;have s1:=hy.mul hb;have s2:=hx.mul hc;have s3:=hy.mul hc
 unfold bd at *
 obtain⟨NM,hNM⟩:∃NM,NN=NM+4:=⟨NN-4,by have:=xo8;omega⟩
 rw[xm]
 generalize xm call hs u rec2 j=R3 at *
 unfold x4z
 simp only[xou,xnz,show(2:Int)<3 from by omega,x19d,xot]
 unfold x6f x6e
 rw[hNM]
 simp only[x1b]
 generalize x1b call hs u rec2 R3 NM=R4
 unfold x6d x6c x6b
 simp(disch:=omega) [sIxA,asI,h3,h4,h6,h7,row9,xnx]
 refine hQ _ _ ?_ ?_ ?_ ?_
 .simp[row9]
 .simp
 .intro id i1 i2
  simp only[Mem.get_set]
  repeat rw[if_neg (by rintro rfl;first|exact i1 rfl|exact i2 rfl)]
 .simp
theorem b_fitP(d:Nat)(hs:FHs){u:Nat}{t2:AV}(rec2:AV->AV->AV->AV->AV->AV->Mem->Nat->O2)(Q:O2->Prop)(ha:Pts a l)(hl:l.length<=30)(hin:xod l){k:Nat}(hk:k<l.length){m:Mem}{fc:Nat}(h3:m.get (u,1,3)=some (.row (xpp (l.take k)) 0 false))(h4:m.get (u,2,4)=some (.row (xpq (l.take k)) 0 false))(hQ:∀m' fc',m'.get (u,1,3)=some (.row (xpp (l.take (k+1))) 0 false)->m'.get (u,2,4)=some (.row (xpq (l.take (k+1))) 0 false)->m'.get (u,0,2)=m.get (u,0,2)->m'.next=m.next->Q (rec2 t2 (.ptr (u,1,3) 0 0) (.ptr (u,2,4) 0 0) a (I l.length) (I ((k+1:Nat):Int)) m' fc')) :
 Q (x8o (xnt (d+1)) hs u rec2 t2 (.ptr (u,1,3) 0 0) (.ptr (u,2,4) 0 0) a (I l.length) (I k) m fc):=by
 have hx:=hin l[k] (x19j hk)
 have htk:l.take (k+1)=l.take k++[l[k]]:=x1cc hk
 rw[htk,x133,x134]at hQ
 have hin':xod (l.take k):=λy hy=>hin y (x1dc hy)
 have hl':(l.take k).length<=30:=by simp;omega
 have N:=Th.bN hin' hl';have A:=Th.bA hin' hl';have B:=Th.bB hin' hl';have C:=Th.bC hin' hl';have D:=Th.bD hin' hl';have E:=Th.bE hin' hl'
 have g0:∀x∈l.take k,bd x.b0 8:=λx hx=>(hin' x hx).b0
 have g1:∀x∈l.take k,bd x.b1 8:=λx hx=>(hin' x hx).b1
 have X0:=Th.b0F hin' hl' g0;have X1:=Th.b1F hin' hl' g0;have X2:=Th.b2F hin' hl' g0
 have Y0:=Th.b0F hin' hl' g1;have Y1:=Th.b1F hin' hl' g1;have Y2:=Th.b2F hin' hl' g1
 have ix:=ha.ix Mp.len hk
 have ld:=xtj (m:=m) Mp.len (by omega) hk
 unfold xpp at h3
 unfold xpq at h4
 generalize l[k]=x at *
 generalize sN (l.take k)=vn at *
 generalize sA (l.take k)=va at *
 generalize sB (l.take k)=vb at *
 generalize sC (l.take k)=vc at *
 generalize sD (l.take k)=vd at *
 generalize sE (l.take k)=ve at *
 generalize of0 Mp.b0 (l.take k)=x0 at *
 generalize of1 Mp.b0 (l.take k)=x1 at *
 generalize of2 Mp.b0 (l.take k)=x2 at *
 generalize of0 Mp.b1 (l.take k)=y0 at *
 generalize of1 Mp.b1 (l.take k)=y1 at *
 generalize of2 Mp.b1 (l.take k)=y2 at *
 obtain⟨xl,xs,xb0,xb1,xc⟩:=x
 have p0:bd xl 63:=hx.ln
 have p1:bd xs 63:=hx.sm
 have q0:bd xb0 8:=hx.b0
 have q1:bd xb1 8:=hx.b1
 have r0:=p0.mul p0;have r1:=p0.mul p1;have r2:=p1.mul p1;have r3:=p1.mul p0
 have s0:=p0.mul q0;have s1:=p1.mul q0;have s2:=p0.mul q1;have s3:=p1.mul q1
 simp only at hQ
 unfold x8o
 obtain⟨NM,hNM⟩:∃NM,NN=NM+4:=⟨NN-4,by have:=xo8;omega⟩
 simp only[ix,ld,xnz,hNM]
 simp[Mp.c,z_pt,xxj,xxk]
 refine c_fitP0 (xnt (d+1)) hs rec2 Q (n:=vn) (a:=va) (b:=vb) (d:=va) (e:=vc) (f:=vd) (g:=vb) (h:=vd) (i:=ve) (p0:=x0) (p1:=x1) (p2:=x2) (q0:=y0) (q1:=y1) (q2:=y2) (x:=xl) (y:=xs) (bb:=xb0) (cc:=xb1) (sc:=xc) (by simpa using h3) (by simpa using h4) (by simp) (by simp) p0 p1 q0 q1 ⟨N.mono (by omega),A.mono (by omega),B.mono (by omega),A.mono (by omega),C.mono (by omega),D.mono (by omega),B.mono (by omega),D.mono (by omega),E.mono (by omega)⟩ ⟨X0.mono (by omega),X1.mono (by omega),X2.mono (by omega),Y0.mono (by omega),Y1.mono (by omega),Y2.mono (by omega)⟩ λm1 fc1 k1 k2 k3 n1=>?_
 refine c_fitP1 (xnt (d+1)) hs rec2 Q (x:=xl) (y:=xs) (bb:=xb0) (cc:=xb1) (sc:=xc) k1 k2 (by rw[k3 _ (by simp) (by simp)];simp) (by rw[k3 _ (by simp) (by simp)];simp) p0 p1 q0 q1 ?_ ?_ λm2 fc2 k4 k5 k6 n2=>?_
 .unfold bd at *;omega
 .unfold bd at *;omega
 refine c_fitP2 (xnt (d+1)) hs rec2 Q (x:=xl) (y:=xs) (bb:=xb0) (cc:=xb1) (sc:=xc) k4 k5 (by rw[k6 _ (by simp) (by simp),k3 _ (by simp) (by simp)];simp) (by rw[k6 _ (by simp) (by simp),k3 _ (by simp) (by simp)];simp) p0 p1 q0 q1 ?_ ?_ λm3 fc3 k7 k8 k9 n3=>?_
 .unfold bd at *;omega
 .unfold bd at *;omega
 simp only[xm]
 unfold x4z xfo
 have hk2:(k:Int)<=30:=by omega
 simp(disch:=omega) [xnx]
 refine hQ m3 _ ?_ ?_ ?_ ?_
 .rw[k7];simp[Int.mul_comm]
 .rw[k8];simp
 .rw[k9 _ (by simp) (by simp),k6 _ (by simp) (by simp),k3 _ (by simp) (by simp)];simp
 .rw[n3,n2,n1];simp
attribute [local simp high] rd_5
variable{a:AV}{l:List Mp}
theorem l_fitP(d:Nat)(hs:FHs){u:Nat}{t2:AV}(Q:O2->Prop)(ha:Pts a l)(hl:l.length<=30)(hin:xod l):∀(suf:List Mp) (k j:Nat) (m:Mem) (fc:Nat),l.drop k=suf->suf.length<j ->
 m.get (u,1,3)=some (.row (xpp (l.take k)) 0 false)->m.get (u,2,4)=some (.row (xpq (l.take k)) 0 false) ->
 (∀m' fc',m'.get (u,1,3)=some (.row (xpp l) 0 false)->m'.get (u,2,4)=some (.row (xpq l) 0 false)->m'.get (u,0,2)=m.get (u,0,2)->m'.next=m.next->Q (x6a (xnt (d+1)) hs u t2 (.ptr (u,1,3) 0 0) (.ptr (u,2,4) 0 0) m' fc')) ->
 Q (x50 (xnt (d+1)) hs u j t2 (.ptr (u,1,3) 0 0) (.ptr (u,2,4) 0 0) a (I l.length) (I k) m fc):=by
 intro suf
 induction suf with
 |nil=>
  intro k j m fc hd hj h3 h4 hQ
  obtain⟨j,rfl⟩:∃i,j=i+1:=⟨j-1,by simp at hj;omega⟩
  have hk0:=x19k.mp hd
  have hk:¬((k:Int)<(l.length:Int)):=by omega
  rw[x19p hk0]at h3 h4
  simp only[x50]
  unfold x8p
  simp only[xou,hk,x1a8,xnz,xpj]
  exact hQ m _ h3 h4 rfl rfl
 |cons e r ih=>
  intro k j m fc hd hj h3 h4 hQ
  obtain⟨j,rfl⟩:∃i,j=i+1:=⟨j-1,by simp at hj;omega⟩
  obtain⟨hk,he,hd⟩:=xpe hd
  have hk':(k:Int)<(l.length:Int):=by omega
  simp only[x50]
  unfold x8p
  simp only[xou,hk',x19d,xnz,xot]
  refine b_fitP d hs _ Q ha hl hin hk h3 h4 λm1 fc1 g3 g4 g2 gn=>?_
  exact ih (k+1) j m1 fc1 hd (by simp at hj;omega) g3 g4 λm' fc' q3 q4 q2 qn=>hQ m' fc' q3 q4 (q2.trans g2) (qn.trans gn)
theorem xtr(x y v o:Nat):cAp (some 1) (tR (.ptr (0,x,y) v o)) 2=true:=_root_.id rfl
theorem xxl(l:List Mp):dt9 (sN l) (sA l) (sB l) (sA l) (sC l) (sD l) (sB l) (sD l) (sE l)=DD l:=by unfold dt9 DD dt;grind
theorem dt9_P0(g:Mp->Int)(l:List Mp):dt9 (of0 g l) (of1 g l) (of2 g l) (sA l) (sC l) (sD l) (sB l) (sD l) (sE l)=C0 g l:=by unfold dt9 C0 c0;grind
theorem dt9_P1(g:Mp->Int)(l:List Mp):dt9 (sN l) (sA l) (sB l) (of0 g l) (of1 g l) (of2 g l) (sB l) (sD l) (sE l)=C1 g l:=by unfold dt9 C1 c1;grind
theorem dt9_P2(g:Mp->Int)(l:List Mp):dt9 (sN l) (sA l) (sB l) (sA l) (sC l) (sD l) (of0 g l) (of1 g l) (of2 g l)=C2 g l:=by unfold dt9 C2 c2;grind
theorem dt9_R0(g:Mp->Int)(l:List Mp):dt9 (of0 g l) (sA l) (sB l) (of1 g l) (sC l) (sD l) (of2 g l) (sD l) (sE l)=C0 g l:=by unfold dt9 C0 c0;grind
theorem dt9_R1(g:Mp->Int)(l:List Mp):dt9 (sN l) (of0 g l) (sB l) (sA l) (of1 g l) (sD l) (sB l) (of2 g l) (sE l)=C1 g l:=by unfold dt9 C1 c1;grind
theorem dt9_R2(g:Mp->Int)(l:List Mp):dt9 (sN l) (sA l) (of0 g l) (sA l) (sC l) (of1 g l) (sB l) (sD l) (of2 g l)=C2 g l:=by unfold dt9 C2 c2;grind
theorem x135(l:List Mp):gF l=(Int.gcd (Int.gcd (Int.gcd (Int.gcd (Int.gcd (Int.gcd (DD l) (C0 Mp.b0 l):Int) (C0 Mp.b1 l):Int) (C1 Mp.b0 l):Int) (C1 Mp.b1 l):Int) (C2 Mp.b0 l):Int) (C2 Mp.b1 l):Int):=rfl
theorem xru{a b B:Int}(h:bd b B)(ha:bd a B):bd (Int.gcd a b:Int) B:=by
 rw[bd.abs]at *
 by_cases hb:b=0
 .subst hb;simpa using ha
 .have h1:((Int.gcd a b:Nat):Int) ∣ b:=Int.gcd_dvd_right a b
  have h2:=Int.natAbs_dvd_natAbs.mpr h1
  have h3:=Nat.le_of_dvd (by omega) h2
  simp at h3 ⊢
  omega
theorem b_fit6(d:Nat)(hs:FHs)(ha:Pts a l)(hl:l.length<=30)(hin:xod l)(hD:0<DD l){m:Mem}{fc:Nat}(h3:m.get (0,1,3)=some (.row (xpp l) 0 false))(h4:m.get (0,2,4)=some (.row (xpq l) 0 false))(h2:m.get (0,0,2)=some (.row [I 0,I 0,I 0,I 0,I 0,I 0,I 0] 0 false))(hn:m.next=1) :
 ∃m',x6a (xnt (d+2)) hs 0 (.ptr (0,0,2) 0 0) (.ptr (0,1,3) 0 0) (.ptr (0,2,4) 0 0) m fc=some (.agg (fitM l).c,m'):=by
 have g0:∀x∈l,bd x.b0 8:=λx hx=>(hin x hx).b0
 have g1:∀x∈l,bd x.b1 8:=λx hx=>(hin x hx).b1
 have Th.bD:=Th.DD_bd hin hl
 have b00:=Th.C0_bd hin hl g0;have b01:=Th.C0_bd hin hl g1;have b10:=Th.C1_bd hin hl g0;have b11:=Th.C1_bd hin hl g1;have b20:=Th.C2_bd hin hl g0;have b21:=Th.C2_bd hin hl g1
 have wD:=xto (n:=sN l) (a:=sA l) (b:=sB l) (d:=sA l) (e:=sC l) (f:=sD l) (g:=sB l) (h:=sD l) (i:=sE l) d (by rw[xxl];exact Th.bD.mono (by omega))
 have w00:=xto (n:=of0 Mp.b0 l) (a:=of1 Mp.b0 l) (b:=of2 Mp.b0 l) (d:=sA l) (e:=sC l) (f:=sD l) (g:=sB l) (h:=sD l) (i:=sE l) d (by rw[dt9_P0];exact b00.mono (by omega))
 have w01:=xto (n:=of0 Mp.b1 l) (a:=of1 Mp.b1 l) (b:=of2 Mp.b1 l) (d:=sA l) (e:=sC l) (f:=sD l) (g:=sB l) (h:=sD l) (i:=sE l) d (by rw[dt9_P0];exact b01.mono (by omega))
 have w10:=xto (n:=sN l) (a:=sA l) (b:=sB l) (d:=of0 Mp.b0 l) (e:=of1 Mp.b0 l) (f:=of2 Mp.b0 l) (g:=sB l) (h:=sD l) (i:=sE l) d (by rw[dt9_P1];exact b10.mono (by omega))
 have w11:=xto (n:=sN l) (a:=sA l) (b:=sB l) (d:=of0 Mp.b1 l) (e:=of1 Mp.b1 l) (f:=of2 Mp.b1 l) (g:=sB l) (h:=sD l) (i:=sE l) d (by rw[dt9_P1];exact b11.mono (by omega))
 have w20:=xto (n:=sN l) (a:=sA l) (b:=sB l) (d:=sA l) (e:=sC l) (f:=sD l) (g:=of0 Mp.b0 l) (h:=of1 Mp.b0 l) (i:=of2 Mp.b0 l) d (by rw[dt9_P2];exact b20.mono (by omega))
 have w21:=xto (n:=sN l) (a:=sA l) (b:=sB l) (d:=sA l) (e:=sC l) (f:=sD l) (g:=of0 Mp.b1 l) (h:=of1 Mp.b1 l) (i:=of2 Mp.b1 l) d (by rw[dt9_P2];exact b21.mono (by omega))
 rw[xxl]at wD
 rw[dt9_P0]at w00 w01
 rw[dt9_P1]at w10 w11
 rw[dt9_P2]at w20 w21
 have D:=Th.bD.mono (b:=4000000000000000000) (by omega)
 have B00:=b00.mono (b:=4000000000000000000) (by omega);have B01:=b01.mono (b:=4000000000000000000) (by omega);have B10:=b10.mono (b:=4000000000000000000) (by omega);have B11:=b11.mono (b:=4000000000000000000) (by omega);have B20:=b20.mono (b:=4000000000000000000) (by omega);have B21:=b21.mono (b:=4000000000000000000) (by omega)
 have G1:=xru B00 D
 have G2:=xru B01 G1
 have G3:=xru B10 G2
 have G4:=xru B11 G3
 have G5:=xru B20 G4
 have v1:=xun d D B00
 have v2:=xun d G1 B01
 have v3:=xun d G2 B10
 have v4:=xun d G3 B11
 have v5:=xun d G4 B20
 have v6:=xun d G5 B21
 have hgp:=xvo hD
 obtain⟨d0,d1⟩:=xvp l
 have y0:=xqe hgp d0 D
 have y00:=xqe hgp (d1 (C0 Mp.b0 l) (by simp[xp8])) B00
 have y01:=xqe hgp (d1 (C0 Mp.b1 l) (by simp[xp8])) B01
 have y10:=xqe hgp (d1 (C1 Mp.b0 l) (by simp[xp8])) B10
 have y11:=xqe hgp (d1 (C1 Mp.b1 l) (by simp[xp8])) B11
 have y20:=xqe hgp (d1 (C2 Mp.b0 l) (by simp[xp8])) B20
 have y21:=xqe hgp (d1 (C2 Mp.b1 l) (by simp[xp8])) B21
 have hgF:=x135 l
 generalize hgn:(Int.gcd (DD l) (C0 Mp.b0 l):Int)=q1 at *
 generalize (Int.gcd q1 (C0 Mp.b1 l):Int)=q2 at *
 generalize (Int.gcd q2 (C1 Mp.b0 l):Int)=q3 at *
 generalize (Int.gcd q3 (C1 Mp.b1 l):Int)=q4 at *
 generalize (Int.gcd q4 (C2 Mp.b0 l):Int)=q5 at *
 rw[<-hgF]at v6
 have f1:(fitM l).c=[I (DD l / gF l),I (C0 Mp.b0 l / gF l),I (C1 Mp.b0 l / gF l),I (C2 Mp.b0 l / gF l),I (C0 Mp.b1 l / gF l),I (C1 Mp.b1 l / gF l),I (C2 Mp.b1 l / gF l)]:=rfl
 rw[f1]
 clear f1 hgF d1 d0 hgp D B00 B01 B10 B11 B20 B21 G1 G2 G3 G4 G5 Th.bD b00 b01 b10 b11 b20 b21 g0 g1 hgn
 unfold xpp at h3
 unfold xpq at h4
 obtain⟨NM,hNM⟩:∃NM,NN=NM+4:=⟨NN-4,by have:=xo8;omega⟩
 unfold x6a
 simp only[row9]at wD w00 w01 w10 w11 w20 w21 h3
 have W0:=w_withP0 (n:=sN l) (a:=sA l) (b:=sB l) (d:=sA l) (e:=sC l) (f:=sD l) (g:=sB l) (h:=sD l) (i:=sE l) (d+1)
 have W1:=w_withP1 (n:=sN l) (a:=sA l) (b:=sB l) (d:=sA l) (e:=sC l) (f:=sD l) (g:=sB l) (h:=sD l) (i:=sE l) (d+1)
 have W2:=w_withP2 (n:=sN l) (a:=sA l) (b:=sB l) (d:=sA l) (e:=sC l) (f:=sD l) (g:=sB l) (h:=sD l) (i:=sE l) (d+1)
 simp only[row9]at W0 W1 W2
 have eb:∀x:Int,xo5 [I 0,I 0,I 0,I 0,I 0,I 0,I 0] [(0,1,I x)]=some (.agg [I x,I 0,I 0,I 0,I 0,I 0,I 0]):=λx=>by simp[xo5,xq9]
 simp[h3,wD,eb,xqt]
 unfold xfn
 rw[hNM]
 obtain⟨M0,hM0⟩:∃M0:Mem,(m.new (0,fc+3,10) (.row [I 0,I 0,I 0,I 0,I 0,I 0,I 0] 0 false)).set (0,fc+3,10) (.row [I (DD l),I 0,I 0,I 0,I 0,I 0,I 0] 0 false)=M0:=⟨_,rfl⟩
 rw[hM0]
 have k3:M0.get (0,1,3)=m.get (0,1,3):=by rw[<-hM0];simp
 have k4:M0.get (0,2,4)=m.get (0,2,4):=by rw[<-hM0];simp
 have k2:M0.get (0,0,2)=m.get (0,0,2):=by rw[<-hM0];simp
 have k10:M0.get (0,fc+3,10)=some (.row [I (DD l),I 0,I 0,I 0,I 0,I 0,I 0] 0 false):=by rw[<-hM0];simp
 have kn:M0.next=1:=by rw[<-hM0];simp[hn]
 rw[h3]at k3
 rw[h4]at k4
 rw[h2]at k2
 rw[x12]
 generalize hR:x12 (xnt (d+2)) hs 0 (NM+3)=R
 unfold x4y
 simp(disch:=omega) [k3,k4,k10,kn,sIxA,asI,W0,w00,w01,xtr,v1,v2]
 rw[<-hR,x12]
 obtain⟨M1,hM1⟩:∃M1:Mem,(M0.set (0,fc+3,10) (.row [I (DD l),I (C0 Mp.b0 l),I 0,I 0,I 0,I 0,I 0] 0 false)).set (0,fc+3,10) (.row [I (DD l),I (C0 Mp.b0 l),I 0,I 0,I (C0 Mp.b1 l),I 0,I 0] 0 false)=M1:=⟨_,rfl⟩
 rw[hM1]
 have j3:M1.get (0,1,3)=M0.get (0,1,3):=by rw[<-hM1];simp
 have j4:M1.get (0,2,4)=M0.get (0,2,4):=by rw[<-hM1];simp
 have j2:M1.get (0,0,2)=M0.get (0,0,2):=by rw[<-hM1];simp
 have j10:M1.get (0,fc+3,10)=some (.row [I (DD l),I (C0 Mp.b0 l),I 0,I 0,I (C0 Mp.b1 l),I 0,I 0] 0 false):=by rw[<-hM1];simp
 have jn:M1.next=1:=by rw[<-hM1];simp[kn]
 rw[k3]at j3
 rw[k4]at j4
 rw[k2]at j2
 generalize hR2:x12 (xnt (d+2)) hs 0 (NM+2)=R2
 unfold x4y
 simp(disch:=omega) [j3,j4,j10,jn,sIxA,asI,W1,w10,w11,xtr,v3,v4]
 rw[<-hR2,x12]
 obtain⟨M2,hM2⟩:∃M2:Mem,(M1.set (0,fc+3,10) (.row [I (DD l),I (C0 Mp.b0 l),I (C1 Mp.b0 l),I 0,I (C0 Mp.b1 l),I 0,I 0] 0 false)).set (0,fc+3,10) (.row [I (DD l),I (C0 Mp.b0 l),I (C1 Mp.b0 l),I 0,I (C0 Mp.b1 l),I (C1 Mp.b1 l),I 0] 0 false)=M2:=⟨_,rfl⟩
 rw[hM2]
 have i3:M2.get (0,1,3)=M1.get (0,1,3):=by rw[<-hM2];simp
 have i4:M2.get (0,2,4)=M1.get (0,2,4):=by rw[<-hM2];simp
 have i2:M2.get (0,0,2)=M1.get (0,0,2):=by rw[<-hM2];simp
 have i10:M2.get (0,fc+3,10)=some (.row [I (DD l),I (C0 Mp.b0 l),I (C1 Mp.b0 l),I 0,I (C0 Mp.b1 l),I (C1 Mp.b1 l),I 0] 0 false):=by rw[<-hM2];simp
 have inn:M2.next=1:=by rw[<-hM2];simp[jn]
 rw[j3]at i3
 rw[j4]at i4
 rw[j2]at i2
 generalize hR3:x12 (xnt (d+2)) hs 0 (NM+1)=R3
 unfold x4y
 simp(disch:=omega) [i3,i4,i10,inn,sIxA,asI,W2,w20,w21,xtr,v5,v6]
 rw[<-hR3,x12]
 unfold x4y xfm xfl
 rw[hNM]
 simp only[x8n]
 unfold xfk xfj
 simp(disch:=omega) [i2,i10,sIxA,asI,y0,y00,y01,y10,y11,y20,y21,sLdP]
attribute [local simp high] rd_5
variable{a:AV}{l:List Mp}
theorem z_33:xib=[I 0,I 0,I 0,I 0,I 0,I 0,I 0,I 0,I 0]:=by kernel_rfl
theorem z_23:xic=[I 0,I 0,I 0,I 0,I 0,I 0]:=by kernel_rfl
theorem z_3i:xgc=[I 0,I 0,I 0]:=by kernel_rfl
theorem c_fitR0(call:xnv)(hs:FHs){u s6 fc j:Nat}{pv t2 kv:AV}(rec3:AV->AV->AV->AV->AV->Mem->Nat->O2)(Q:O2->Prop){n a b d e f g h i p0 p1 p2 q0 q1 q2 x y bb cc sc:Int}{rest:List AV}{m:Mem}(hix:sIx 5 pv kv=some (.plit (I x::I y::I bb::I cc::I sc::rest)))(h3:m.get (u,1,3)=some (.row (row9 n a b d e f g h i) 0 false))(h4:m.get (u,2,4)=some (.row [I p0,I p1,I p2,I q0,I q1,I q2] 0 false))(h6:m.get (u,s6,6)=some (.row [I 1,I x,I y] 0 false))(hx:bd x 63)(hy:bd y 63)(hb:bd bb 8)(hc:bd cc 8)(hn:bd n 1000000/\bd a 1000000/\bd b 1000000/\bd d 1000000/\bd e 1000000/\bd f 1000000/\bd g 1000000/\bd h 1000000/\bd i 1000000)(hp:bd p0 1000000/\bd p1 1000000/\bd p2 1000000/\bd q0 1000000/\bd q1 1000000/\bd q2 1000000)(hQ:∀m' fc',m'.get (u,1,3)=some (.row (row9 (n+1*1) (a+1*x) (b+1*y) d e f g h i) 0 false)->m'.get (u,2,4)=some (.row [I (p0+1*bb),I (p1),I (p2),I (q0+1*cc),I (q1),I (q2)] 0 false)->(∀id:Id,id.2.2≠3->id.2.2≠4->m'.get id=m.get id)->m'.next=m.next ->
 Q (xn call hs u rec3 j pv t2 (.ptr (u,1,3) 0 0) (.ptr (u,2,4) 0 0) kv (.ptr (u,s6,6) 0 0) (I 1) m' fc')) :
 Q (xn call hs u rec3 (j+1) pv t2 (.ptr (u,1,3) 0 0) (.ptr (u,2,4) 0 0) kv (.ptr (u,s6,6) 0 0) (I 0) m fc):=by
 obtain⟨b0,b1,b2,b3,b4,b5,b6,b7,b8⟩:=hn
 obtain⟨e0,e1,e2,e3,e4,e5⟩:=hp
 have r0:=hx.mul hx;have r1:=hx.mul hy;have r2:=hy.mul hy;have r3:=hy.mul hx
 have s0:=hx.mul hb;have s1:=hy.mul hb;have s2:=hx.mul hc;have s3:=hy.mul hc
 unfold bd at *
 obtain⟨NM,hNM⟩:∃NM,NN=NM+4:=⟨NN-4,by have:=xo8;omega⟩
 rw[xn]
 generalize xn call hs u rec3 j=R3 at *
 unfold x55
 simp only[xou,xnz,show(0:Int)<3 from by omega,x19d,xot]
 unfold x6p
 rw[hNM]
 simp only[x1d]
 generalize x1d call hs u rec3 R3 NM=R4
 unfold x6o x6n x6m
 simp(disch:=omega) [sIxA,asI,hix,h3,h4,h6,row9,xnx,tR,tS,xoa,disj]
 refine hQ _ _ ?_ ?_ ?_ ?_
 .simp[row9]
 .simp
 .intro id i1 i2
  simp only[Mem.get_set]
  repeat rw[if_neg (by rintro rfl;first|exact i1 rfl|exact i2 rfl)]
 .simp
theorem c_fitR1(call:xnv)(hs:FHs){u s6 fc j:Nat}{pv t2 kv:AV}(rec3:AV->AV->AV->AV->AV->Mem->Nat->O2)(Q:O2->Prop){n a b d e f g h i p0 p1 p2 q0 q1 q2 x y bb cc sc:Int}{rest:List AV}{m:Mem}(hix:sIx 5 pv kv=some (.plit (I x::I y::I bb::I cc::I sc::rest)))(h3:m.get (u,1,3)=some (.row (row9 n a b d e f g h i) 0 false))(h4:m.get (u,2,4)=some (.row [I p0,I p1,I p2,I q0,I q1,I q2] 0 false))(h6:m.get (u,s6,6)=some (.row [I 1,I x,I y] 0 false))(hx:bd x 63)(hy:bd y 63)(hb:bd bb 8)(hc:bd cc 8)(hn:bd n 1000000/\bd a 1000000/\bd b 1000000/\bd d 1000000/\bd e 1000000/\bd f 1000000/\bd g 1000000/\bd h 1000000/\bd i 1000000)(hp:bd p0 1000000/\bd p1 1000000/\bd p2 1000000/\bd q0 1000000/\bd q1 1000000/\bd q2 1000000)(hQ:∀m' fc',m'.get (u,1,3)=some (.row (row9 n a b (d+x*1) (e+x*x) (f+x*y) g h i) 0 false)->m'.get (u,2,4)=some (.row [I (p0),I (p1+x*bb),I (p2),I (q0),I (q1+x*cc),I (q2)] 0 false)->(∀id:Id,id.2.2≠3->id.2.2≠4->m'.get id=m.get id)->m'.next=m.next ->
 Q (xn call hs u rec3 j pv t2 (.ptr (u,1,3) 0 0) (.ptr (u,2,4) 0 0) kv (.ptr (u,s6,6) 0 0) (I 2) m' fc')) :
 Q (xn call hs u rec3 (j+1) pv t2 (.ptr (u,1,3) 0 0) (.ptr (u,2,4) 0 0) kv (.ptr (u,s6,6) 0 0) (I 1) m fc):=by
 obtain⟨b0,b1,b2,b3,b4,b5,b6,b7,b8⟩:=hn
 obtain⟨e0,e1,e2,e3,e4,e5⟩:=hp
 have r0:=hx.mul hx;have r1:=hx.mul hy;have r2:=hy.mul hy;have r3:=hy.mul hx
 have s0:=hx.mul hb;have s1:=hy.mul hb;have s2:=hx.mul hc;have s3:=hy.mul hc
 unfold bd at *
 obtain⟨NM,hNM⟩:∃NM,NN=NM+4:=⟨NN-4,by have:=xo8;omega⟩
 rw[xn]
 generalize xn call hs u rec3 j=R3 at *
 unfold x55
 simp only[xou,xnz,show(1:Int)<3 from by omega,x19d,xot]
 unfold x6p
 rw[hNM]
 simp only[x1d]
 generalize x1d call hs u rec3 R3 NM=R4
 unfold x6o x6n x6m
 simp(disch:=omega) [sIxA,asI,hix,h3,h4,h6,row9,xnx,tR,tS,xoa,disj]
 refine hQ _ _ ?_ ?_ ?_ ?_
 .simp[row9]
 .simp
 .intro id i1 i2
  simp only[Mem.get_set]
  repeat rw[if_neg (by rintro rfl;first|exact i1 rfl|exact i2 rfl)]
 .simp
theorem c_fitR2(call:xnv)(hs:FHs){u s6 fc j:Nat}{pv t2 kv:AV}(rec3:AV->AV->AV->AV->AV->Mem->Nat->O2)(Q:O2->Prop){n a b d e f g h i p0 p1 p2 q0 q1 q2 x y bb cc sc:Int}{rest:List AV}{m:Mem}(hix:sIx 5 pv kv=some (.plit (I x::I y::I bb::I cc::I sc::rest)))(h3:m.get (u,1,3)=some (.row (row9 n a b d e f g h i) 0 false))(h4:m.get (u,2,4)=some (.row [I p0,I p1,I p2,I q0,I q1,I q2] 0 false))(h6:m.get (u,s6,6)=some (.row [I 1,I x,I y] 0 false))(hx:bd x 63)(hy:bd y 63)(hb:bd bb 8)(hc:bd cc 8)(hn:bd n 1000000/\bd a 1000000/\bd b 1000000/\bd d 1000000/\bd e 1000000/\bd f 1000000/\bd g 1000000/\bd h 1000000/\bd i 1000000)(hp:bd p0 1000000/\bd p1 1000000/\bd p2 1000000/\bd q0 1000000/\bd q1 1000000/\bd q2 1000000)(hQ:∀m' fc',m'.get (u,1,3)=some (.row (row9 n a b d e f (g+y*1) (h+y*x) (i+y*y)) 0 false)->m'.get (u,2,4)=some (.row [I (p0),I (p1),I (p2+y*bb),I (q0),I (q1),I (q2+y*cc)] 0 false)->(∀id:Id,id.2.2≠3->id.2.2≠4->m'.get id=m.get id)->m'.next=m.next ->
 Q (xn call hs u rec3 j pv t2 (.ptr (u,1,3) 0 0) (.ptr (u,2,4) 0 0) kv (.ptr (u,s6,6) 0 0) (I 3) m' fc')) :
 Q (xn call hs u rec3 (j+1) pv t2 (.ptr (u,1,3) 0 0) (.ptr (u,2,4) 0 0) kv (.ptr (u,s6,6) 0 0) (I 2) m fc):=by
 obtain⟨b0,b1,b2,b3,b4,b5,b6,b7,b8⟩:=hn
 obtain⟨e0,e1,e2,e3,e4,e5⟩:=hp
 have r0:=hx.mul hx;have r1:=hx.mul hy;have r2:=hy.mul hy;have r3:=hy.mul hx
 have s0:=hx.mul hb;have s1:=hy.mul hb;have s2:=hx.mul hc;have s3:=hy.mul hc
 unfold bd at *
 obtain⟨NM,hNM⟩:∃NM,NN=NM+4:=⟨NN-4,by have:=xo8;omega⟩
 rw[xn]
 generalize xn call hs u rec3 j=R3 at *
 unfold x55
 simp only[xou,xnz,show(2:Int)<3 from by omega,x19d,xot]
 unfold x6p
 rw[hNM]
 simp only[x1d]
 generalize x1d call hs u rec3 R3 NM=R4
 unfold x6o x6n x6m
 simp(disch:=omega) [sIxA,asI,hix,h3,h4,h6,row9,xnx,tR,tS,xoa,disj]
 refine hQ _ _ ?_ ?_ ?_ ?_
 .simp[row9]
 .simp
 .intro id i1 i2
  simp only[Mem.get_set]
  repeat rw[if_neg (by rintro rfl;first|exact i1 rfl|exact i2 rfl)]
 .simp
theorem b_fitR(d:Nat)(hs:FHs){u:Nat}{t2:AV}(rec3:AV->AV->AV->AV->AV->Mem->Nat->O2)(Q:O2->Prop)(ha:Pts a l)(hl:l.length<=30)(hin:xod l){k:Nat}(hk:k<l.length){m:Mem}{fc:Nat}(h3:m.get (u,1,3)=some (.row (xpp (l.take k)) 0 false))(h4:m.get (u,2,4)=some (.row (xpq (l.take k)) 0 false))(hQ:∀m' fc',m'.get (u,1,3)=some (.row (xpp (l.take (k+1))) 0 false)->m'.get (u,2,4)=some (.row (xpq (l.take (k+1))) 0 false)->m'.get (u,0,2)=m.get (u,0,2)->m'.next=m.next->Q (rec3 a t2 (.ptr (u,1,3) 0 0) (.ptr (u,2,4) 0 0) (I ((k+1:Nat):Int)) m' fc')) :
 Q (x9a (xnt d) hs u rec3 a t2 (.ptr (u,1,3) 0 0) (.ptr (u,2,4) 0 0) (I k) m fc):=by
 have hx:=hin l[k] (x19j hk)
 have htk:l.take (k+1)=l.take k++[l[k]]:=x1cc hk
 rw[htk,x133,x134]at hQ
 have hin':xod (l.take k):=λy hy=>hin y (x1dc hy)
 have hl':(l.take k).length<=30:=by simp;omega
 have N:=Th.bN hin' hl';have A:=Th.bA hin' hl';have B:=Th.bB hin' hl';have C:=Th.bC hin' hl';have D:=Th.bD hin' hl';have E:=Th.bE hin' hl'
 have g0:∀x∈l.take k,bd x.b0 8:=λx hx=>(hin' x hx).b0
 have g1:∀x∈l.take k,bd x.b1 8:=λx hx=>(hin' x hx).b1
 have X0:=Th.b0F hin' hl' g0;have X1:=Th.b1F hin' hl' g0;have X2:=Th.b2F hin' hl' g0
 have Y0:=Th.b0F hin' hl' g1;have Y1:=Th.b1F hin' hl' g1;have Y2:=Th.b2F hin' hl' g1
 have ix:=ha.ix Mp.len hk
 rw[xp2 hk,x19b]at ix
 generalize (List.drop (k+1) l).flatMap Mp.c=rest at *
 unfold xpp at h3
 unfold xpq at h4
 generalize l[k]=x at *
 generalize sN (l.take k)=vn at *
 generalize sA (l.take k)=va at *
 generalize sB (l.take k)=vb at *
 generalize sC (l.take k)=vc at *
 generalize sD (l.take k)=vd at *
 generalize sE (l.take k)=ve at *
 generalize of0 Mp.b0 (l.take k)=x0 at *
 generalize of1 Mp.b0 (l.take k)=x1 at *
 generalize of2 Mp.b0 (l.take k)=x2 at *
 generalize of0 Mp.b1 (l.take k)=y0 at *
 generalize of1 Mp.b1 (l.take k)=y1 at *
 generalize of2 Mp.b1 (l.take k)=y2 at *
 obtain⟨xl,xs,xb0,xb1,xc⟩:=x
 have p0:bd xl 63:=hx.ln
 have p1:bd xs 63:=hx.sm
 have q0:bd xb0 8:=hx.b0
 have q1:bd xb1 8:=hx.b1
 have r0:=p0.mul p0;have r1:=p0.mul p1;have r2:=p1.mul p1;have r3:=p1.mul p0
 have s0:=p0.mul q0;have s1:=p1.mul q0;have s2:=p0.mul q1;have s3:=p1.mul q1
 simp only at hQ
 simp only[Mp.c,x1ad,x19r]at ix
 unfold x9a
 obtain⟨NM,hNM⟩:∃NM,NN=NM+4:=⟨NN-4,by have:=xo8;omega⟩
 have eb:∀x y:Int,xo5 [I 0,I 0,I 0] [(0,1,I 1),(1,1,I x),(2,1,I y)]=some (.agg [I 1,I x,I y]):=λx y=>by simp[xo5,xq9]
 simp[ix,hNM,z_3i,eb,tR,xoa,disj]
 refine c_fitR0 (xnt d) hs rec3 Q (n:=vn) (a:=va) (b:=vb) (d:=va) (e:=vc) (f:=vd) (g:=vb) (h:=vd) (i:=ve) (p0:=x0) (p1:=x1) (p2:=x2) (q0:=y0) (q1:=y1) (q2:=y2) (x:=xl) (y:=xs) (bb:=xb0) (cc:=xb1) (sc:=xc) ix (by simpa using h3) (by simpa using h4) (by simp) p0 p1 q0 q1 ⟨N.mono (by omega),A.mono (by omega),B.mono (by omega),A.mono (by omega),C.mono (by omega),D.mono (by omega),B.mono (by omega),D.mono (by omega),E.mono (by omega)⟩ ⟨X0.mono (by omega),X1.mono (by omega),X2.mono (by omega),Y0.mono (by omega),Y1.mono (by omega),Y2.mono (by omega)⟩ λm1 fc1 k1 k2 k3 n1=>?_
 refine c_fitR1 (xnt d) hs rec3 Q (x:=xl) (y:=xs) (bb:=xb0) (cc:=xb1) (sc:=xc) ix k1 k2 (by rw[k3 _ (by simp) (by simp)];simp) p0 p1 q0 q1 ?_ ?_ λm2 fc2 k4 k5 k6 n2=>?_
 .unfold bd at *;omega
 .unfold bd at *;omega
 refine c_fitR2 (xnt d) hs rec3 Q (x:=xl) (y:=xs) (bb:=xb0) (cc:=xb1) (sc:=xc) ix k4 k5 (by rw[k6 _ (by simp) (by simp),k3 _ (by simp) (by simp)];simp) p0 p1 q0 q1 ?_ ?_ λm3 fc3 k7 k8 k9 n3=>?_
 .unfold bd at *;omega
 .unfold bd at *;omega
 simp only[xn]
 unfold x55 xgb
 have hk2:(k:Int)<=30:=by omega
 simp(disch:=omega) [xnx]
 refine hQ m3 _ ?_ ?_ ?_ ?_
 .rw[k7];simp[Int.mul_comm]
 .rw[k8];simp
 .rw[k9 _ (by simp) (by simp),k6 _ (by simp) (by simp),k3 _ (by simp) (by simp)];simp
 .rw[n3,n2,n1];simp
theorem l_fitR(d:Nat)(hs:FHs){u:Nat}{t2:AV}(Q:O2->Prop)(ha:Pts a l)(hl:l.length<=30)(hin:xod l):∀(suf:List Mp) (k j:Nat) (m:Mem) (fc:Nat),l.drop k=suf->suf.length<j ->
 m.get (u,1,3)=some (.row (xpp (l.take k)) 0 false)->m.get (u,2,4)=some (.row (xpq (l.take k)) 0 false) ->
 (∀m' fc',m'.get (u,1,3)=some (.row (xpp l) 0 false)->m'.get (u,2,4)=some (.row (xpq l) 0 false)->m'.get (u,0,2)=m.get (u,0,2)->m'.next=m.next->Q (x6l (xnt d) hs u t2 (.ptr (u,1,3) 0 0) (.ptr (u,2,4) 0 0) m' fc')) ->
 Q (x56 (xnt d) hs u j a t2 (.ptr (u,1,3) 0 0) (.ptr (u,2,4) 0 0) (I k) m fc):=by
 intro suf
 induction suf with
 |nil=>
  intro k j m fc hd hj h3 h4 hQ
  obtain⟨j,rfl⟩:∃i,j=i+1:=⟨j-1,by simp at hj;omega⟩
  have hk0:=x19k.mp hd
  have hk:¬((k:Int)<(l.length:Int)):=by omega
  rw[x19p hk0]at h3 h4
  simp only[x56]
  unfold x9b
  simp only[ha.len xpb,xou,hk,x1a8,xnz,xpj]
  exact hQ m _ h3 h4 rfl rfl
 |cons e r ih=>
  intro k j m fc hd hj h3 h4 hQ
  obtain⟨j,rfl⟩:∃i,j=i+1:=⟨j-1,by simp at hj;omega⟩
  obtain⟨hk,he,hd⟩:=xpe hd
  have hk':(k:Int)<(l.length:Int):=by omega
  simp only[x56]
  unfold x9b
  simp only[ha.len xpb,xou,hk',x19d,xnz,xot]
  refine b_fitR d hs _ Q ha hl hin hk h3 h4 λm1 fc1 g3 g4 g2 gn=>?_
  exact ih (k+1) j m1 fc1 hd (by simp at hj;omega) g3 g4 λm' fc' q3 q4 q2 qn=>hQ m' fc' q3 q4 (q2.trans g2) (qn.trans gn)
theorem b_fit9(d:Nat)(hs:FHs)(ha:Pts a l)(hl:l.length<=30)(hin:xod l)(hD:0<DD l){m:Mem}{fc:Nat}(h3:m.get (0,1,3)=some (.row (xpp l) 0 false))(h4:m.get (0,2,4)=some (.row (xpq l) 0 false))(h2:m.get (0,0,2)=some (.row [I 0,I 0,I 0,I 0,I 0,I 0,I 0] 0 false))(hn:m.next=1) :
 ∃m',x6l (xnt (d+2)) hs 0 (.ptr (0,0,2) 0 0) (.ptr (0,1,3) 0 0) (.ptr (0,2,4) 0 0) m fc=some (.agg (fitM l).c,m'):=by
 have g0:∀x∈l,bd x.b0 8:=λx hx=>(hin x hx).b0
 have g1:∀x∈l,bd x.b1 8:=λx hx=>(hin x hx).b1
 have Th.bD:=Th.DD_bd hin hl
 have b00:=Th.C0_bd hin hl g0;have b01:=Th.C0_bd hin hl g1;have b10:=Th.C1_bd hin hl g0;have b11:=Th.C1_bd hin hl g1;have b20:=Th.C2_bd hin hl g0;have b21:=Th.C2_bd hin hl g1
 have wD:=xtp (n:=sN l) (a:=sA l) (b:=sB l) (d:=sA l) (e:=sC l) (f:=sD l) (g:=sB l) (h:=sD l) (i:=sE l) (d+1) (by rw[xxl];exact Th.bD.mono (by omega))
 have w00:=xtp (n:=of0 Mp.b0 l) (a:=sA l) (b:=sB l) (d:=of1 Mp.b0 l) (e:=sC l) (f:=sD l) (g:=of2 Mp.b0 l) (h:=sD l) (i:=sE l) (d+1) (by rw[dt9_R0];exact b00.mono (by omega))
 have w01:=xtp (n:=of0 Mp.b1 l) (a:=sA l) (b:=sB l) (d:=of1 Mp.b1 l) (e:=sC l) (f:=sD l) (g:=of2 Mp.b1 l) (h:=sD l) (i:=sE l) (d+1) (by rw[dt9_R0];exact b01.mono (by omega))
 have w10:=xtp (n:=sN l) (a:=of0 Mp.b0 l) (b:=sB l) (d:=sA l) (e:=of1 Mp.b0 l) (f:=sD l) (g:=sB l) (h:=of2 Mp.b0 l) (i:=sE l) (d+1) (by rw[dt9_R1];exact b10.mono (by omega))
 have w11:=xtp (n:=sN l) (a:=of0 Mp.b1 l) (b:=sB l) (d:=sA l) (e:=of1 Mp.b1 l) (f:=sD l) (g:=sB l) (h:=of2 Mp.b1 l) (i:=sE l) (d+1) (by rw[dt9_R1];exact b11.mono (by omega))
 have w20:=xtp (n:=sN l) (a:=sA l) (b:=of0 Mp.b0 l) (d:=sA l) (e:=sC l) (f:=of1 Mp.b0 l) (g:=sB l) (h:=sD l) (i:=of2 Mp.b0 l) (d+1) (by rw[dt9_R2];exact b20.mono (by omega))
 have w21:=xtp (n:=sN l) (a:=sA l) (b:=of0 Mp.b1 l) (d:=sA l) (e:=sC l) (f:=of1 Mp.b1 l) (g:=sB l) (h:=sD l) (i:=of2 Mp.b1 l) (d+1) (by rw[dt9_R2];exact b21.mono (by omega))
 rw[xxl]at wD
 rw[dt9_R0]at w00 w01
 rw[dt9_R1]at w10 w11
 rw[dt9_R2]at w20 w21
 have D:=Th.bD.mono (b:=4000000000000000000) (by omega)
 have B00:=b00.mono (b:=4000000000000000000) (by omega);have B01:=b01.mono (b:=4000000000000000000) (by omega);have B10:=b10.mono (b:=4000000000000000000) (by omega);have B11:=b11.mono (b:=4000000000000000000) (by omega);have B20:=b20.mono (b:=4000000000000000000) (by omega);have B21:=b21.mono (b:=4000000000000000000) (by omega)
 have G1:=xru B00 D
 have G2:=xru B01 G1
 have G3:=xru B10 G2
 have G4:=xru B11 G3
 have G5:=xru B20 G4
 have v1:=xtq d D B00
 have v2:=xtq d G1 B01
 have v3:=xtq d G2 B10
 have v4:=xtq d G3 B11
 have v5:=xtq d G4 B20
 have v6:=xtq d G5 B21
 have hgp:=xvo hD
 obtain⟨d0,d1⟩:=xvp l
 have y0:=xqe hgp d0 D
 have y00:=xqe hgp (d1 (C0 Mp.b0 l) (by simp[xp8])) B00
 have y01:=xqe hgp (d1 (C0 Mp.b1 l) (by simp[xp8])) B01
 have y10:=xqe hgp (d1 (C1 Mp.b0 l) (by simp[xp8])) B10
 have y11:=xqe hgp (d1 (C1 Mp.b1 l) (by simp[xp8])) B11
 have y20:=xqe hgp (d1 (C2 Mp.b0 l) (by simp[xp8])) B20
 have y21:=xqe hgp (d1 (C2 Mp.b1 l) (by simp[xp8])) B21
 have hgF:=x135 l
 generalize hgn:(Int.gcd (DD l) (C0 Mp.b0 l):Int)=q1 at *
 generalize (Int.gcd q1 (C0 Mp.b1 l):Int)=q2 at *
 generalize (Int.gcd q2 (C1 Mp.b0 l):Int)=q3 at *
 generalize (Int.gcd q3 (C1 Mp.b1 l):Int)=q4 at *
 generalize (Int.gcd q4 (C2 Mp.b0 l):Int)=q5 at *
 rw[<-hgF]at v6
 have f1:(fitM l).c=[I (DD l / gF l),I (C0 Mp.b0 l / gF l),I (C1 Mp.b0 l / gF l),I (C2 Mp.b0 l / gF l),I (C0 Mp.b1 l / gF l),I (C1 Mp.b1 l / gF l),I (C2 Mp.b1 l / gF l)]:=rfl
 rw[f1]
 clear f1 hgF d1 d0 hgp D B00 B01 B10 B11 B20 B21 G1 G2 G3 G4 G5 Th.bD b00 b01 b10 b11 b20 b21 g0 g1 hgn
 unfold xpp at h3
 unfold xpq at h4
 obtain⟨NM,hNM⟩:∃NM,NN=NM+4:=⟨NN-4,by have:=xo8;omega⟩
 unfold x6l
 simp only[row9]at wD w00 w01 w10 w11 w20 w21 h3
 have W0:=w_withR0 (n:=sN l) (a:=sA l) (b:=sB l) (d:=sA l) (e:=sC l) (f:=sD l) (g:=sB l) (h:=sD l) (i:=sE l) (d+1)
 have W1:=w_withR1 (n:=sN l) (a:=sA l) (b:=sB l) (d:=sA l) (e:=sC l) (f:=sD l) (g:=sB l) (h:=sD l) (i:=sE l) (d+1)
 have W2:=w_withR2 (n:=sN l) (a:=sA l) (b:=sB l) (d:=sA l) (e:=sC l) (f:=sD l) (g:=sB l) (h:=sD l) (i:=sE l) (d+1)
 simp only[row9]at W0 W1 W2
 have eb:∀x:Int,xo5 [I 0,I 0,I 0,I 0,I 0,I 0,I 0] [(0,1,I x)]=some (.agg [I x,I 0,I 0,I 0,I 0,I 0,I 0]):=λx=>by simp[xo5,xq9]
 simp[h3,wD,eb,xqt]
 unfold xga
 rw[hNM]
 obtain⟨M0,hM0⟩:∃M0:Mem,(m.new (0,fc+3,9) (.row [I 0,I 0,I 0,I 0,I 0,I 0,I 0] 0 false)).set (0,fc+3,9) (.row [I (DD l),I 0,I 0,I 0,I 0,I 0,I 0] 0 false)=M0:=⟨_,rfl⟩
 rw[hM0]
 have k3:M0.get (0,1,3)=m.get (0,1,3):=by rw[<-hM0];simp
 have k4:M0.get (0,2,4)=m.get (0,2,4):=by rw[<-hM0];simp
 have k2:M0.get (0,0,2)=m.get (0,0,2):=by rw[<-hM0];simp
 have k10:M0.get (0,fc+3,9)=some (.row [I (DD l),I 0,I 0,I 0,I 0,I 0,I 0] 0 false):=by rw[<-hM0];simp
 have kn:M0.next=1:=by rw[<-hM0];simp[hn]
 rw[h3]at k3
 rw[h4]at k4
 rw[h2]at k2
 rw[x13]
 generalize hR:x13 (xnt (d+2)) hs 0 (NM+3)=R
 unfold x54
 simp(disch:=omega) [k3,k4,k10,kn,sIxA,asI,W0,w00,w01,xtr]
 rw[<-hR,x13]
 obtain⟨M1,hM1⟩:∃M1:Mem,(M0.set (0,fc+3,9) (.row [I (DD l),I (C0 Mp.b0 l),I 0,I 0,I 0,I 0,I 0] 0 false)).set (0,fc+3,9) (.row [I (DD l),I (C0 Mp.b0 l),I 0,I 0,I (C0 Mp.b1 l),I 0,I 0] 0 false)=M1:=⟨_,rfl⟩
 rw[hM1]
 have j3:M1.get (0,1,3)=M0.get (0,1,3):=by rw[<-hM1];simp
 have j4:M1.get (0,2,4)=M0.get (0,2,4):=by rw[<-hM1];simp
 have j2:M1.get (0,0,2)=M0.get (0,0,2):=by rw[<-hM1];simp
 have j10:M1.get (0,fc+3,9)=some (.row [I (DD l),I (C0 Mp.b0 l),I 0,I 0,I (C0 Mp.b1 l),I 0,I 0] 0 false):=by rw[<-hM1];simp
 have jn:M1.next=1:=by rw[<-hM1];simp[kn]
 rw[k3]at j3
 rw[k4]at j4
 rw[k2]at j2
 generalize hR2:x13 (xnt (d+2)) hs 0 (NM+2)=R2
 unfold x54
 simp(disch:=omega) [j3,j4,j10,jn,sIxA,asI,W1,w10,w11,xtr]
 rw[<-hR2,x13]
 obtain⟨M2,hM2⟩:∃M2:Mem,(M1.set (0,fc+3,9) (.row [I (DD l),I (C0 Mp.b0 l),I (C1 Mp.b0 l),I 0,I (C0 Mp.b1 l),I 0,I 0] 0 false)).set (0,fc+3,9) (.row [I (DD l),I (C0 Mp.b0 l),I (C1 Mp.b0 l),I 0,I (C0 Mp.b1 l),I (C1 Mp.b1 l),I 0] 0 false)=M2:=⟨_,rfl⟩
 rw[hM2]
 have i3:M2.get (0,1,3)=M1.get (0,1,3):=by rw[<-hM2];simp
 have i4:M2.get (0,2,4)=M1.get (0,2,4):=by rw[<-hM2];simp
 have i2:M2.get (0,0,2)=M1.get (0,0,2):=by rw[<-hM2];simp
 have i10:M2.get (0,fc+3,9)=some (.row [I (DD l),I (C0 Mp.b0 l),I (C1 Mp.b0 l),I 0,I (C0 Mp.b1 l),I (C1 Mp.b1 l),I 0] 0 false):=by rw[<-hM2];simp
 have inn:M2.next=1:=by rw[<-hM2];simp[jn]
 rw[j3]at i3
 rw[j4]at i4
 rw[j2]at i2
 generalize hR3:x13 (xnt (d+2)) hs 0 (NM+1)=R3
 unfold x54
 simp(disch:=omega) [i3,i4,i10,inn,sIxA,asI,W2,w20,w21,xtr]
 rw[<-hR3,x13]
 unfold x54 xg9 xg8
 rw[hNM]
 obtain⟨M3,hM3⟩:∃M3:Mem,(M2.set (0,fc+3,9) (.row [I (DD l),I (C0 Mp.b0 l),I (C1 Mp.b0 l),I (C2 Mp.b0 l),I (C0 Mp.b1 l),I (C1 Mp.b1 l),I 0] 0 false)).set (0,fc+3,9) (.row [I (DD l),I (C0 Mp.b0 l),I (C1 Mp.b0 l),I (C2 Mp.b0 l),I (C0 Mp.b1 l),I (C1 Mp.b1 l),I (C2 Mp.b1 l)] 0 false)=M3:=⟨_,rfl⟩
 rw[hM3]
 have o2:M3.get (0,0,2)=some (.row [I 0,I 0,I 0,I 0,I 0,I 0,I 0] 0 false):=by rw[<-hM3];simp[i2]
 have o10:M3.get (0,fc+3,9)=some (.row [I (DD l),I (C0 Mp.b0 l),I (C1 Mp.b0 l),I (C2 Mp.b0 l),I (C0 Mp.b1 l),I (C1 Mp.b1 l),I (C2 Mp.b1 l)] 0 false):=by rw[<-hM3];simp
 have on:M3.next=1:=by rw[<-hM3];simp[inn]
 simp only[x99]
 unfold xg7 xg6 xg5
 rw[hNM]
 simp only[x98]
 unfold xg4 xg3
 simp(disch:=omega) [o2,o10,on,sIxA,asI,xtr,v1,v2,v3,v4,v5,v6,y0,y00,y01,y10,y11,y20,y21,sLdP]
theorem w_fit3(d:Nat)(ha:Pts a l)(hl:l.length<=30)(hin:xod l)(hD:0<DD l)(m:Mem):xnu (xnt (d+3)) x2f [a] m=some (.agg (fitM l).c,m):=by
 refine xo0 (by simp[ha.still]) ?_ m
 rw[xiz]
 unfold xd5 x8q xfp
 have hlen:sLen Tryz.prog x11 a=some (I l.length):=ha.len xxh
 simp[mem0,xqt,z_norm3,z_2row,hlen]
 rw[show(0:Int)=((0:Nat):Int)from rfl]
 refine l_fitP (d+1) [] (RetF λx=>x=.agg (fitM l).c) ha hl hin l 0 NN _ _ rfl (by rw[xo8];omega) (by simp[xpp,row9,sN,sA,sB,sC,sD,sE,su]) (by simp[xpq,of0,of1,of2,su]) λm' fc' h3 h4 h2 hn=>?_
 obtain⟨m2,h⟩:=b_fit6 d [] ha hl hin hD (fc:=fc') h3 h4 (by rw[h2];simp) (by rw[hn];simp)
 exact⟨_,_,_,h,xsb _ 4 (by simp[Aff.c]),rfl⟩
theorem w_rFit(d:Nat)(ha:Pts a l)(hl:l.length<=30)(hin:xod l)(hD:0<DD l)(m:Mem):xnu (xnt (d+3)) x2k [a] m=some (.agg (fitM l).c,m):=by
 refine xo0 (by simp[ha.still]) ?_ m
 rw[xj5]
 unfold xdb x9c xgd
 simp[mem0,xqt,z_33,z_23]
 rw[show(0:Int)=((0:Nat):Int)from rfl]
 refine l_fitR (d+2) [] (RetF λx=>x=.agg (fitM l).c) ha hl hin l 0 NN _ _ rfl (by rw[xo8];omega) (by simp[xpp,row9,sN,sA,sB,sC,sD,sE,su]) (by simp[xpq,of0,of1,of2,su]) λm' fc' h3 h4 h2 hn=>?_
 obtain⟨m2,h⟩:=b_fit9 d [] ha hl hin hD (fc:=fc') h3 h4 (by rw[h2];simp) (by rw[hn];simp)
 exact⟨_,_,_,h,xsb _ 4 (by simp[Aff.c]),rfl⟩
end Go.Ix
