import Derived.Test.YtdcffnlnagmbhaaGreatDoorWg14
import Derived.Test.YtdcffnlnagmbhaaGreatDoorWg17
import Derived.Test.YtdcffnlnagmbhaaGreatDoorWg10
import Derived.Test.YtdcffnlnagmbhaaGreatDoorWg16
import Derived.Test.YtdcffnlnagmbhaaGreatDoorWg13
import Derived.Test.YtdcffnlnagmbhaaGreatDoorWg11
set_option linter.unusedSimpArgs false
set_option linter.unusedVariables false
namespace Go.Ix
open Go.Proofs
theorem eqArr2x(k:Nat)(a b:Int):xpf Tryz.prog (Op.equalIn (k+1+1) xo (.agg #[.int .i64 a,.int .i64 b]) (.agg #[.int .i64 a,.int .i64 b]))=some true:=by
 have hu:Tryz.prog.underlying xo=some (.array 2 xpm):=by kernel_rfl
 have hz:xpf Tryz.prog (sizeOf xpm)=some 1:=by kernel_rfl
 have pa:=part2 a b
 have pa0:=pa 0 (by simp)
 have pa1:=pa 1 (by simp)
 simp only[List.getD_cons_zero,List.getD_cons_succ]at pa0 pa1
 rw[Op.equalIn]
 simp only[xqp,xwc hu,xpe,hz]
 simp only[Std.Legacy.Range.forIn_eq_forIn_range',Std.Legacy.Range.size,x1a3,x1ai,Nat.div_one,List.range'_succ,List.range'_zero,x1al,List.forIn_nil,xqp,x18o,x17n,x18q]
 have ie:∀x y:Int,xpf Tryz.prog (Op.equalIn (k+1) xpm (.int .i64 x) (.int .i64 y))=some (x == y):=λx y=>xvc _ _ _ _ _ _ xvd
 simp[xrn,xqp,pa0,pa1,ie]
theorem enx_pt(X Y:Operand)(x:Mp):sBin Tryz.prog .neq xl X Y (.agg x.c) (.agg x.c)=some (B false)/\sBin Tryz.prog .eql xl X Y (.agg x.c) (.agg x.c)=some (B true):=by
 obtain⟨n,a,b,c,s⟩:=x
 have hS:Tryz.prog.underlying xl=some (.struct (Tryz.prog.fieldsOf xl)):=by kernel_rfl
 have hp:Tryz.prog.stoodInHeld xl=false:=by kernel_rfl
 have hF:((Tryz.prog.fieldsOf xl).toList.map λf=>(f.type,f.offset,decide (f.name = "_")))=[(xpm,0,false),(xpm,1,false),(xo,2,false),(xpm,4,false)]:=by kernel_rfl
 have p0:xpf Tryz.prog (part xpm #[.int .i64 n,.int .i64 a,.int .i64 b,.int .i64 c,.int .i64 s] 0)=some (.int .i64 n):=by kernel_rfl
 have p1:xpf Tryz.prog (part xpm #[.int .i64 n,.int .i64 a,.int .i64 b,.int .i64 c,.int .i64 s] 1)=some (.int .i64 a):=by kernel_rfl
 have p2:xpf Tryz.prog (part xo #[.int .i64 n,.int .i64 a,.int .i64 b,.int .i64 c,.int .i64 s] 2)=some (.agg #[.int .i64 b,.int .i64 c]):=by kernel_rfl
 have p3:xpf Tryz.prog (part xpm #[.int .i64 n,.int .i64 a,.int .i64 b,.int .i64 c,.int .i64 s] 4)=some (.int .i64 s):=by kernel_rfl
 have key:xpf Tryz.prog (Op.equalIn 10000 xl (.agg #[.int .i64 n,.int .i64 a,.int .i64 b,.int .i64 c,.int .i64 s]) (.agg #[.int .i64 n,.int .i64 a,.int .i64 b,.int .i64 c,.int .i64 s]))=some true:=by
  rw[show(10000:Nat)=9997+1+1+1 from rfl,x110 _ _ _ _ hS hp]
  generalize (Tryz.prog.fieldsOf xl).toList=fs at hF
  have hl:=congrArg List.length hF
  simp only[x18a,x17d,x18f]at hl
  match fs,hl with
  |[f0,f1,f2,f3],_=>
   simp only[x17a,x17g,x199,x16v,and_true,decide_eq_false_iff_not]at hF
   obtain⟨⟨t0,o0,n0⟩,⟨t1,o1,n1⟩,⟨t2,o2,n2⟩,t3,o3,n3⟩:=hF
   have q2:xpf Tryz.prog (Op.equalIn 9999 xo (.agg #[.int .i64 b,.int .i64 c]) (.agg #[.int .i64 b,.int .i64 c]))=some true:=eqArr2x 9997 b c
   have q0:∀n:Int,xpf Tryz.prog (Op.equalIn 9999 xpm (.int .i64 n) (.int .i64 n))=some (n == n):=λn=>xvc _ _ _ _ _ _ xvd
   simp only[Op.eqFields,n0,n1,n2,n3,ne_eq,not_false_eq_true,x17k,t0,t1,t2,t3,o0,o1,o2,o3,xqp,p0,p1,p2,p3,xpe,q0,q2]
   simp[xrn,xqp,p0,p1,p2,p3,q0,q2]
 exact⟨x112 (r:=true) (x:=X) (y:=Y) (xs:=[.int .i64 n,.int .i64 a,.int .i64 b,.int .i64 c,.int .i64 s]) (ys:=[.int .i64 n,.int .i64 a,.int .i64 b,.int .i64 c,.int .i64 s]) (by kernel_rfl) key ⟨Mp.c ⟨n,a,b,c,s⟩,rfl⟩ _ _ rfl rfl,x113 (r:=true) (x:=X) (y:=Y) (xs:=[.int .i64 n,.int .i64 a,.int .i64 b,.int .i64 c,.int .i64 s]) (ys:=[.int .i64 n,.int .i64 a,.int .i64 b,.int .i64 c,.int .i64 s]) (by kernel_rfl) key _ _ rfl rfl⟩
theorem enx_aff(X Y:Operand)(f:Aff):sBin Tryz.prog .neq xi X Y (.agg f.c) (.agg f.c)=some (B false)/\sBin Tryz.prog .eql xi X Y (.agg f.c) (.agg f.c)=some (B true):=by
 obtain⟨n,a0,a1,a2,b0,b1,b2⟩:=f
 have hS:Tryz.prog.underlying xi=some (.struct (Tryz.prog.fieldsOf xi)):=by kernel_rfl
 have hp:Tryz.prog.stoodInHeld xi=false:=by kernel_rfl
 have hF:((Tryz.prog.fieldsOf xi).toList.map λf=>(f.type,f.offset,decide (f.name = "_")))=[(xpm,0,false),(xv,1,false),(xv,4,false)]:=by kernel_rfl
 have u3:Tryz.prog.underlying xv=some (.array 3 xpm):=by kernel_rfl
 have p0:xpf Tryz.prog (part xpm #[.int .i64 n,.int .i64 a0,.int .i64 a1,.int .i64 a2,.int .i64 b0,.int .i64 b1,.int .i64 b2] 0)=some (.int .i64 n):=by kernel_rfl
 have p1:xpf Tryz.prog (part xv #[.int .i64 n,.int .i64 a0,.int .i64 a1,.int .i64 a2,.int .i64 b0,.int .i64 b1,.int .i64 b2] 1)=some (.agg #[.int .i64 a0,.int .i64 a1,.int .i64 a2]):=by kernel_rfl
 have p2:xpf Tryz.prog (part xv #[.int .i64 n,.int .i64 a0,.int .i64 a1,.int .i64 a2,.int .i64 b0,.int .i64 b1,.int .i64 b2] 4)=some (.agg #[.int .i64 b0,.int .i64 b1,.int .i64 b2]):=by kernel_rfl
 have key:xpf Tryz.prog (Op.equalIn 10000 xi (.agg #[.int .i64 n,.int .i64 a0,.int .i64 a1,.int .i64 a2,.int .i64 b0,.int .i64 b1,.int .i64 b2]) (.agg #[.int .i64 n,.int .i64 a0,.int .i64 a1,.int .i64 a2,.int .i64 b0,.int .i64 b1,.int .i64 b2]))=some true:=by
  rw[show(10000:Nat)=9997+1+1+1 from rfl,x110 _ _ _ _ hS hp]
  generalize (Tryz.prog.fieldsOf xi).toList=fs at hF
  have hl:=congrArg List.length hF
  simp only[x18a,x17d,x18f]at hl
  match fs,hl with
  |[f0,f1,f2],_=>
   simp only[x17a,x17g,x199,x16v,and_true,decide_eq_false_iff_not]at hF
   obtain⟨⟨t0,o0,n0⟩,⟨t1,o1,n1⟩,t2,o2,n2⟩:=hF
   have q1:xpf Tryz.prog (Op.equalIn 9999 xv (.agg #[.int .i64 a0,.int .i64 a1,.int .i64 a2]) (.agg #[.int .i64 a0,.int .i64 a1,.int .i64 a2]))=_:=eqArr3 u3 9997 a0 a1 a2 a0 a1 a2
   have q2:xpf Tryz.prog (Op.equalIn 9999 xv (.agg #[.int .i64 b0,.int .i64 b1,.int .i64 b2]) (.agg #[.int .i64 b0,.int .i64 b1,.int .i64 b2]))=_:=eqArr3 u3 9997 b0 b1 b2 b0 b1 b2
   have q0:xpf Tryz.prog (Op.equalIn 9999 xpm (.int .i64 n) (.int .i64 n))=some (n == n):=xvc _ _ _ _ _ _ xvd
   simp only[Op.eqFields,n0,n1,n2,ne_eq,not_false_eq_true,x17k,t0,t1,t2,o0,o1,o2,xqp,p0,p1,p2,xpe,q0,q1,q2]
   simp[xrn,xqp,p1,p2,q1,q2]
 exact⟨x112 (r:=true) (x:=X) (y:=Y) (xs:=[.int .i64 n,.int .i64 a0,.int .i64 a1,.int .i64 a2,.int .i64 b0,.int .i64 b1,.int .i64 b2]) (ys:=[.int .i64 n,.int .i64 a0,.int .i64 a1,.int .i64 a2,.int .i64 b0,.int .i64 b1,.int .i64 b2]) (by kernel_rfl) key ⟨Aff.c ⟨n,a0,a1,a2,b0,b1,b2⟩,rfl⟩ _ _ rfl rfl,x113 (x:=X) (y:=Y) (xs:=[.int .i64 n,.int .i64 a0,.int .i64 a1,.int .i64 a2,.int .i64 b0,.int .i64 b1,.int .i64 b2]) (ys:=[.int .i64 n,.int .i64 a0,.int .i64 a1,.int .i64 a2,.int .i64 b0,.int .i64 b1,.int .i64 b2]) (by kernel_rfl) key _ _ rfl rfl⟩
end Go.Ix
set_option maxRecDepth 10000
namespace Go.Ix
open Go.Proofs
def Mp.n(x:Mp):List Int:=[x.ln,x.sm,x.b0,x.b1,x.sc]
def Aff.n(f:Aff):List Int:=[f.den,f.l0,f.l1,f.l2,f.s0,f.s1,f.s2]
theorem pt_back{x:Mp}(h:ptOK x=true):xqt (xq0 x.n)=(x,0):=by
 have hp:=ptOK_in h
 have hs:wi x.sc 0 1000=true:=by
  unfold ptOK at h
  simp only[x16y]at h
  exact h.2.2.2.2
 have hs:=wi_t hs
 have hb:xqb 16 5 (xq0 x.n)=some x.n:=by
  refine x117 (by omega) (by simp[Mp.n]) rfl λn hn=>?_
  obtain⟨h1,h2,h3,h4,h5⟩:=hp
  unfold bd at *
  simp only[Mp.n,x174,x18z,or_false]at hn
  rcases hn with rfl|rfl|rfl|rfl|rfl<;>omega
 unfold xqt
 rw[hb]
 have e:ptOf x.n=x:=rfl
 simp only[e,h,x17k]
theorem xwh{f:Aff}(h:chkA f=0):affM (xq0 f.n)=(f,0):=by
 have hp:=chkA_in h
 have hb:xqb 16 7 (xq0 f.n)=some f.n:=by
  refine x117 (by omega) (by simp[Aff.n]) rfl λn hn=>?_
  obtain⟨h1,h2,h3,h4,h5,h6,h7,h8⟩:=hp
  unfold bd at *
  simp only[Aff.n,x174,x18z,or_false]at hn
  rcases hn with rfl|rfl|rfl|rfl|rfl|rfl|rfl<;>omega
 unfold affM
 rw[hb]
 have e:xun f.n=f:=rfl
 simp only[e,h,x17k]
theorem x11f(l:List Int)(h:l.length<=7):(xq0 l).length<=100000:=by
 have:=xye l
 omega
theorem law_MatchTexts{x:Mp}{f:Aff}(hx:∀n∈x.n,I64 n)(hf:∀n∈f.n,I64 n)(s:ByteArray):∃m',xpc 31 [] x2j [.agg x.c,.agg f.c,T s] mem0=some (B true,m'):=by
 obtain⟨q,hq⟩:∃q,q=s.data.toList:=⟨_,rfl⟩
 rw[Tx_of s,<-hq]
 rw[xk9]
 unfold x6g x4y
 have o1:x.c.all AV.one=true:=rfl
 have o2:f.c.all AV.one=true:=rfl
 simp only[mem0,xxw,x10l,o1,o2,xqc,x17n]
 obtain⟨m1,hm1⟩:∃m1:Mem,m1=(⟨[],1⟩:Mem).new (0,0,3) (.row x.c 0 false):=⟨_,rfl⟩
 have q1:m1.get (0,0,3)=some (.row x.c 0 false):=by rw[hm1];simp
 rw[<-hm1]
 obtain⟨m2,hm2⟩:∃m2:Mem,m2=m1.new (0,1,4) (.row f.c 0 false):=⟨_,rfl⟩
 have q2:m2.get (0,1,4)=some (.row f.c 0 false):=by rw[hm2];simp
 have q2x:m2.get (0,0,3)=some (.row x.c 0 false):=by rw[hm2,Mem.get_new,x16t (by simp)];exact q1
 have n2:m2.next=1:=by rw[hm2,hm1];rfl
 rw[<-hm2]
 have l5:∀{m:Mem} {id:Id} {y:Mp},m.get id=some (.row y.c 0 false)->sLd true 5 (.ptr id 0 0) m=some (.agg y.c):=λhg=>by rw[xw2 hg];rfl
 have l7:∀{m:Mem} {id:Id} {y:Aff},m.get id=some (.row y.c 0 false)->sLd true 7 (.ptr id 0 0) m=some (.agg y.c):=λhg=>by rw[xw2 hg];rfl
 simp only[w_awake3,xpe,xsr,x17e,xq8,xrd,xue]
 by_cases g:(200:Int)<q.length
 .simp only[g,x179,xq6]
  exact⟨_,rfl⟩
 have hq2:q.length<=100000:=by omega
 have f1:=λm=>x134 (a:=x.ln) (b:=x.sm) (c:=x.b0) (d:=x.b1) (e:=x.sc) 27 hx m
 have f2:=λm=>x138 (a:=f.den) (b:=f.l0) (c:=f.l1) (d:=f.l2) (e:=f.s0) (f:=f.s1) (g:=f.s2) 26 hf m
 have f3:=λm=>x135 (a:=x.ln) (b:=x.sm) (c:=x.b0) (d:=x.b1) (e:=x.sc) 26 hx m
 have f4:=λm=>x136 (a:=f.den) (b:=f.l0) (c:=f.l1) (d:=f.l2) (e:=f.s0) (f:=f.s1) (g:=f.s2) 26 hf m
 have p1:=λm=>x11c 23 hq2 m
 have p2:=λm=>x11e 23 hq2 m
 have p3:=λm=>x132 23 hq2 m
 have p4:=λm=>x137 23 hq2 m
 have k1:=λm=>x11c 23 (x11f x.n (by simp[Mp.n])) m
 have k2:=λm=>x11e 23 (x11f f.n (by simp[Aff.n])) m
 have c1:=λm=>x11b 28 x m
 have c2:=λm=>x11a 28 f m
 have f1':∀m,xp9 (xpc 30) x19 [.agg x.c] m=some (Tx (xq0 x.n),m):=f1
 have f2':∀m,xp9 (xpc 30) x1a [.agg f.c] m=some (Tx (xq0 f.n),m):=f2
 have f3':∀m,xp9 (xpc 30) x1d [.agg x.c] m=some (Tx (xq0 x.n),m):=f3
 have f4':∀m,xp9 (xpc 30) x1e [.agg f.c] m=some (Tx (xq0 f.n),m):=f4
 have cap:∀l:List AV,l.all clean=true->(cAp (some m2.next) (tR (.ptr (0,1,4) 0 0)) (mkM 0 l)&&true)=true:=λl hl=>by
  rw[n2];simp[cAp,tR,mkM,hl]
 have capx:=cap [.agg x.c] rfl
 obtain⟨m3,hm3⟩:∃m3:Mem,m3=m2.new (0,19,9) (.row [I 0,I 0,I 0,I 0,I 0] 0 false):=⟨_,rfl⟩
 obtain⟨m4,hm4⟩:∃m4:Mem,m4=m3.set (0,19,9) (.row (xpo [I 0,I 0,I 0,I 0,I 0] 0 (AV.agg (xqt q).1.c).cells) 0 false):=⟨_,rfl⟩
 obtain⟨m5,hm5⟩:∃m5:Mem,m5=m4.new (0,27,11) (.row [I 0,I 0,I 0,I 0,I 0,I 0,I 0] 0 false):=⟨_,rfl⟩
 obtain⟨m6,hm6⟩:∃m6:Mem,m6=m5.set (0,27,11) (.row (xpo [I 0,I 0,I 0,I 0,I 0,I 0,I 0] 0 (AV.agg (affM q).1.c).cells) 0 false):=⟨_,rfl⟩
 obtain⟨m7,hm7⟩:∃m7:Mem,m7=m6.new (0,35,13) (.row [I 0,I 0,I 0,I 0,I 0] 0 false):=⟨_,rfl⟩
 obtain⟨m8,hm8⟩:∃m8:Mem,m8=m7.set (0,35,13) (.row (xpo [I 0,I 0,I 0,I 0,I 0] 0 (AV.agg (xqt q).1.c).cells) 0 false):=⟨_,rfl⟩
 obtain⟨m9,hm9⟩:∃m9:Mem,m9=m8.new (0,43,15) (.row [I 0,I 0,I 0,I 0,I 0,I 0,I 0] 0 false):=⟨_,rfl⟩
 obtain⟨mA,hmA⟩:∃mA:Mem,mA=m9.set (0,43,15) (.row (xpo [I 0,I 0,I 0,I 0,I 0,I 0,I 0] 0 (AV.agg (affM q).1.c).cells) 0 false):=⟨_,rfl⟩
 obtain⟨mB,hmB⟩:∃mB:Mem,mB=mA.new (0,81,17) (.row [I 0,I 0,I 0,I 0,I 0] 0 false):=⟨_,rfl⟩
 obtain⟨mC,hmC⟩:∃mC:Mem,mC=mB.set (0,81,17) (.row (xpo [I 0,I 0,I 0,I 0,I 0] 0 (AV.agg (xqt (xq0 x.n)).1.c).cells) 0 false):=⟨_,rfl⟩
 obtain⟨mD,hmD⟩:∃mD:Mem,mD=mC.new (0,89,19) (.row [I 0,I 0,I 0,I 0,I 0,I 0,I 0] 0 false):=⟨_,rfl⟩
 obtain⟨mE,hmE⟩:∃mE:Mem,mE=mD.set (0,89,19) (.row (xpo [I 0,I 0,I 0,I 0,I 0,I 0,I 0] 0 (AV.agg (affM (xq0 f.n)).1.c).cells) 0 false):=⟨_,rfl⟩
 have s5:∀{m m':Mem} {id:Id} {y:Mp} {R:Type} (K:Mem->Option R),m.get id=some (.row [I 0,I 0,I 0,I 0,I 0] 0 false)->m'=m.set id (.row (xpo [I 0,I 0,I 0,I 0,I 0] 0 (AV.agg y.c).cells) 0 false)->sSt 5 (.ptr id 0 0) (.agg y.c) m K=K m':=λK hg hm=>by
  rw[xrm (z:=5) hg rfl (by simp) rfl,hm]
 have s7:∀{m m':Mem} {id:Id} {y:Aff} {R:Type} (K:Mem->Option R),m.get id=some (.row [I 0,I 0,I 0,I 0,I 0,I 0,I 0] 0 false)->m'=m.set id (.row (xpo [I 0,I 0,I 0,I 0,I 0,I 0,I 0] 0 (AV.agg y.c).cells) 0 false)->sSt 7 (.ptr id 0 0) (.agg y.c) m K=K m':=λK hg hm=>by
  rw[xrm (z:=7) hg rfl (by simp) rfl,hm]
 have t4:∀{R:Type} (K:Mem->Option R),sSt 5 (.ptr (0,19,9) 0 0) (.agg (xqt q).1.c) m3 K=K m4:=λK=>s5 K (by rw[hm3,Mem.get_new,x16u rfl]) hm4
 have t6:∀{R:Type} (K:Mem->Option R),sSt 7 (.ptr (0,27,11) 0 0) (.agg (affM q).1.c) m5 K=K m6:=λK=>s7 K (by rw[hm5,Mem.get_new,x16u rfl]) hm6
 have t8:∀{R:Type} (K:Mem->Option R),sSt 5 (.ptr (0,35,13) 0 0) (.agg (xqt q).1.c) m7 K=K m8:=λK=>s5 K (by rw[hm7,Mem.get_new,x16u rfl]) hm8
 have tA:∀{R:Type} (K:Mem->Option R),sSt 7 (.ptr (0,43,15) 0 0) (.agg (affM q).1.c) m9 K=K mA:=λK=>s7 K (by rw[hm9,Mem.get_new,x16u rfl]) hmA
 have tC:∀{R:Type} (K:Mem->Option R),sSt 5 (.ptr (0,81,17) 0 0) (.agg (xqt (xq0 x.n)).1.c) mB K=K mC:=λK=>s5 K (by rw[hmB,Mem.get_new,x16u rfl]) hmC
 have tE:∀{R:Type} (K:Mem->Option R),sSt 7 (.ptr (0,89,19) 0 0) (.agg (affM (xq0 f.n)).1.c) mD K=K mE:=λK=>s7 K (by rw[hmD,Mem.get_new,x16u rfl]) hmE
 have gA:mA.get (0,43,15)=some (.row (affM q).1.c 0 false):=by rw[hmA,Mem.get_set,x16u rfl];rfl
 have hst:∀(i:Id),i≠(0,43,15)->i≠(0,35,13)->i≠(0,27,11)->i≠(0,19,9)->mA.get i=m2.get i:=λi a b c d=>by
  rw[hmA,Mem.get_set,x16t a,hm9,Mem.get_new,x16t a,hm8,Mem.get_set,x16t b,hm7,Mem.get_new,x16t b,hm6,Mem.get_set,x16t c,hm5,Mem.get_new,x16t c,hm4,Mem.get_set,x16t d,hm3,Mem.get_new,x16t d]
 have gA3:mA.get (0,0,3)=some (.row x.c 0 false):=by rw[hst _ (by simp) (by simp) (by simp) (by simp)];exact q2x
 have gA4:mA.get (0,1,4)=some (.row f.c 0 false):=by rw[hst _ (by simp) (by simp) (by simp) (by simp)];exact q2
 have gA13:mA.get (0,35,13)=some (.row (xqt q).1.c 0 false):=by
  rw[hmA,Mem.get_set,x16t (by simp),hm9,Mem.get_new,x16t (by simp),hm8,Mem.get_set,x16u rfl];rfl
 have gA11:mA.get (0,27,11)=some (.row (affM q).1.c 0 false):=by
  rw[hmA,Mem.get_set,x16t (by simp),hm9,Mem.get_new,x16t (by simp),hm8,Mem.get_set,x16t (by simp),hm7,Mem.get_new,x16t (by simp),hm6,Mem.get_set,x16u rfl];rfl
 have gA9:mA.get (0,19,9)=some (.row (xqt q).1.c 0 false):=by
  rw[hmA,Mem.get_set,x16t (by simp),hm9,Mem.get_new,x16t (by simp),hm8,Mem.get_set,x16t (by simp),hm7,Mem.get_new,x16t (by simp),hm6,Mem.get_set,x16t (by simp),hm5,Mem.get_new,x16t (by simp),hm4,Mem.get_set,x16u rfl];rfl
 have hst2:∀(i:Id),i≠(0,89,19)->i≠(0,81,17)->mE.get i=mA.get i:=λi a b=>by
  rw[hmE,Mem.get_set,x16t a,hmD,Mem.get_new,x16t a,hmC,Mem.get_set,x16t b,hmB,Mem.get_new,x16t b]
 have gE3:mE.get (0,0,3)=some (.row x.c 0 false):=by rw[hst2 _ (by simp) (by simp)];exact gA3
 have gE4:mE.get (0,1,4)=some (.row f.c 0 false):=by rw[hst2 _ (by simp) (by simp)];exact gA4
 have gE19:mE.get (0,89,19)=some (.row (affM (xq0 f.n)).1.c 0 false):=by rw[hmE,Mem.get_set,x16u rfl];rfl
 have gE17:mE.get (0,81,17)=some (.row (xqt (xq0 x.n)).1.c 0 false):=by
  rw[hmE,Mem.get_set,x16t (by simp),hmD,Mem.get_new,x16t (by simp),hmC,Mem.get_set,x16u rfl];rfl
 have r1:=l5 q2x
 have r2:=l7 q2
 have r3:=l5 gA3
 have r4:=l7 gA4
 have r5:=l5 gA9
 have r6:=l5 gA13
 have r7:=l7 gA11
 have r8:=l7 gA
 have e1:=λX Y=>enx_pt X Y (xqt q).1
 have e2:=λX Y=>enx_aff X Y (affM q).1
 have e3:=λX Y=>enx_pt X Y x
 have e4:=λX Y=>enx_aff X Y f
 have r9:=l5 gE3
 have ra:=l7 gE4
 simp only[g,x176,xq8,r1,r2,xpe,f1',f2',capx,xqc,p1,p2,p3,p4,xss,x184,x185,xug,z_pt,zz_aff,<-hm3,<-hm5,<-hm7,<-hm9,t4,t6,t8,tA,r3,r4,f3',f4',x_ne,x179,x17e,xt7,xt8,sGp_eq,sW_f,sW_t,x175,xqe,xqg,xt6,r5,r6,r7,r8,(e1 _ _).1,(e2 _ _).1,<-hmB,<-hmD,k1,k2,tC,tE,r9,ra,c1,c2]
 have rB:=l7 gE19
 have rC:=l5 gE17
 cases hp:ptOK x
 .simp only[xqg,x176,show ¬((2:Int)=0)from by decide,x175,sW_f,sW_t,sW_U,xpe,xqc,x17e,xqe,ra,c2]
  by_cases hz:chkA f=0
  .rw[xwh hz]at rB
   simp only[xwh hz,hz,xt6,x179,x17e,xpe,sW_f,x175,xqc,xsc,sW_t,rB,ra,(e4 _ _).2,xqe,xqg]
   exact⟨_,rfl⟩
  .simp only[hz,xt6,x176,x175,xpe,sW_f,x17e,xqg,sW_U,xqe,xqc]
   exact⟨_,rfl⟩
 .rw[pt_back hp]at rC
  simp only[pt_back hp,xqc,x179,x17e,sW_f,sW_t,sW_U,xpe,xqg,x175,xqe,xsc,rC,r9,(e3 _ _).2,ra,c2]
  by_cases hz:chkA f=0
  .rw[xwh hz]at rB
   simp only[xwh hz,hz,xt6,x179,x17e,xpe,sW_f,x175,xqc,xsc,sW_t,rB,ra,(e4 _ _).2,xqe,xqg]
   exact⟨_,rfl⟩
  .simp only[hz,xt6,x176,x175,xpe,sW_f,x17e,xqg,sW_U,xqe,xqc]
   exact⟨_,rfl⟩
end Go.Ix
set_option maxRecDepth 100000
namespace Go.Proofs.YtdcffnlnagmbhaaGreatDoor
open Go.ChangeShapes Go.WideShapes Go.ChangeAt Go.RowKit Go.Ix
def xtz(P:Program):Nat->TypeId->Bool
 |0,_=>false
 |k+1,t=>match P.underlying t with
  |some (.int .i64)=>true
  |some (.struct fs)=>fs.toList.all (λf=>xtz P k f.type)&&(match tile P 0 fs.toList with|some n=>Nat.beq n (P.cellsOf t)|none=>false)
  |some (.array n e)=>xtz P k e&&Nat.beq (n*P.cellsOf e) (P.cellsOf t)
  |_=>false
theorem x11g{P:Program}:∀{fs:List Field} {off n:Nat},tile P off fs=some n->∀i,off<=i->i<n->∃f∈fs,f.offset<=i/\i<f.offset+P.cellsOf f.type
 |[],off,n,h,i,h1,h2=>by
  simp only[tile,x16w]at h
  omega
 |f::fs,off,n,h,i,h1,h2=>by
  simp only[tile]at h
  cases hb:Nat.beq f.offset off with
  |false=>rw[hb]at h;cases h
  |true=>
   rw[hb,cond_true]at h
   have hoff:=x171 hb
   by_cases c:i<off+P.cellsOf f.type
   .exact⟨f,x17l ..,by omega,by omega⟩
   .obtain⟨g,hg,h3⟩:=x11g h i (by omega) h2
    exact⟨g,x172 _ hg,h3⟩
theorem xwi{P:Program}:∀(k:Nat) {t:TypeId} {q:List AV},xtz P k t=true->Sh P t q->∀a∈q,∃n,a=I n/\I64 n
 |0,_,_,h,_=>by simp[xtz]at h
 |k+1,t,q,h,hs=>by
  simp only[xtz]at h
  split at h
  .rename_i e
   obtain⟨n,rfl,hw⟩:=Sh.int_inv e hs
   have e1:IntKind.i64.min=-9223372036854775808:=by kernel_rfl
   have e2:IntKind.i64.max=9223372036854775807:=by kernel_rfl
   have hw:(decide (IntKind.i64.min<=n)&&decide (n<=IntKind.i64.max))=true:=hw
   rw[e1,e2,x16y,x18l,x18l]at hw
   intro a ha
   simp at ha
   exact⟨n,ha,hw⟩
  .rename_i fs e
   rw[x16y,x16z]at h
   obtain⟨h1,h2⟩:=h
   obtain⟨hl,hf⟩:=Sh.struct_inv e hs
   split at h2
   .rename_i n hn
    have hn2:=x171 h2
    intro a ha
    obtain⟨i,hi,rfl⟩:=x19k.mp ha
    obtain⟨f,hfm,f1,f2⟩:=x11g hn i (x19s _) (by omega)
    refine xwi k (h1 f hfm) (hf f hfm) _ ?_
    rw[x19k]
    refine⟨i-f.offset,by simp;omega,?_⟩
    rw[List.getElem_take,List.getElem_drop]
    congr 1;omega
   .cases h2
  .rename_i n e' e
   rw[x16y]at h
   have hn:=x171 h.2
   cases hs with
   |array h' _ hl hf=>
    rw[e]at h';cases h'
    intro a ha
    obtain⟨i,hi,rfl⟩:=x19k.mp ha
    have hz:0<P.cellsOf e':=by
     rcases Nat.eq_zero_or_pos (P.cellsOf e')with h0|h0
     .rw[h0]at hn;omega
     .exact h0
    have hlt:i / P.cellsOf e'<n:=(Nat.div_lt_iff_lt_mul hz).mpr (by omega)
    refine xwi k h.1 (hf (i / P.cellsOf e') hlt) _ ?_
    rw[x19k]
    have hm:=x19d i hz
    have hd:=Nat.div_add_mod i (P.cellsOf e')
    rw[Nat.mul_comm]at hd
    have hd2:(i / P.cellsOf e')*P.cellsOf e'+i % P.cellsOf e'<q.length:=by omega
    refine⟨i % P.cellsOf e',by simp;omega,?_⟩
    rw[List.getElem_take,List.getElem_drop]
    congr 1
   |string h'=>rw[e]at h';cases h'
   |int h'=>rw[e]at h';cases h'
   |nilS h'=>rw[e]at h';cases h'
   |slice h'=>rw[e]at h';cases h'
   |bool h'=>rw[e]at h';cases h'
   |float h'=>rw[e]at h';cases h'
   |struct h'=>rw[e]at h';cases h'
  .cases h
theorem aff_in{a:AV}(h:ArgSh Tryz.prog xi a):∃f:Aff,a=.agg f.c/\∀n∈f.n,I64 n:=by
 obtain⟨fs,h1,-⟩:=fs_of (t:=xi) (l:=[(xpm,0),(xv,1),(xv,4)]) (by kernel_rfl)
 obtain⟨q,rfl,hq⟩:=h.struct h1
 have hl:=(Sh.struct_inv h1 hq).1
 have hc:Tryz.prog.cellsOf xi=7:=by kernel_rfl
 have hf:=xwi 4 (show xtz Tryz.prog 4 xi=true by kernel_rfl) hq
 rw[hc]at hl
 match q,hl with
 |[x0,x1,x2,x3,x4,x5,x6],_=>
  obtain⟨n0,rfl,g0⟩:=hf x0 (by simp)
  obtain⟨n1,rfl,g1⟩:=hf x1 (by simp)
  obtain⟨n2,rfl,g2⟩:=hf x2 (by simp)
  obtain⟨n3,rfl,g3⟩:=hf x3 (by simp)
  obtain⟨n4,rfl,g4⟩:=hf x4 (by simp)
  obtain⟨n5,rfl,g5⟩:=hf x5 (by simp)
  obtain⟨n6,rfl,g6⟩:=hf x6 (by simp)
  refine⟨⟨n0,n1,n2,n3,n4,n5,n6⟩,rfl,λn hn=>?_⟩
  simp only[Aff.n,x174,x18z,or_false]at hn
  rcases hn with rfl|rfl|rfl|rfl|rfl|rfl|rfl<;>assumption
theorem point_in{a:AV}(h:ArgSh Tryz.prog xl a):∃x:Mp,a=.agg x.c/\∀n∈x.n,I64 n:=by
 obtain⟨fs,h1,-⟩:=fs_of (t:=xl) (l:=[(xpm,0),(xpm,1),(xo,2),(xpm,4)]) (by kernel_rfl)
 obtain⟨q,rfl,hq⟩:=h.struct h1
 have hl:=(Sh.struct_inv h1 hq).1
 have hc:Tryz.prog.cellsOf xl=5:=by kernel_rfl
 have hf:=xwi 4 (show xtz Tryz.prog 4 xl=true by kernel_rfl) hq
 rw[hc]at hl
 match q,hl with
 |[x0,x1,x2,x3,x4],_=>
  obtain⟨n0,rfl,g0⟩:=hf x0 (by simp)
  obtain⟨n1,rfl,g1⟩:=hf x1 (by simp)
  obtain⟨n2,rfl,g2⟩:=hf x2 (by simp)
  obtain⟨n3,rfl,g3⟩:=hf x3 (by simp)
  obtain⟨n4,rfl,g4⟩:=hf x4 (by simp)
  refine⟨⟨n0,n1,n2,n3,n4⟩,rfl,λn hn=>?_⟩
  simp only[Mp.n,x174,x18z,or_false]at hn
  rcases hn with rfl|rfl|rfl|rfl|rfl<;>assumption
end Go.Proofs.YtdcffnlnagmbhaaGreatDoor
