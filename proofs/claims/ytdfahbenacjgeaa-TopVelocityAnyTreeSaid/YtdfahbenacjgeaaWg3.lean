import Derived.Test.YtdfahbenacjgeaaWg1
import Derived.ProofKit
import Derived.Test.YtdfahbenacjgeaaWg2
namespace Go.Ix
open Go.Proofs
theorem F2{v:AV}{call:qI}{f:FuncId}{l:List AV}(h:((call [] f l mem0).bind λp=>Go.Ix.frz p.2.get qN p.1)=some v):RetF (λa=>a=v) (call [] f l mem0):=by rw[xdb]at h;obtain⟨⟨a,m'⟩,h1,h2⟩:=h;exact⟨a,m',v,h1,h2,rfl⟩
end Go.Ix
set_option linter.unusedSimpArgs false
set_option linter.unusedVariables false
namespace Go.Ix
open Go.Proofs
def mW(a b:Int):Int:=w64 (a*b)
def aW(a b:Int):Int:=w64 (a+b)
def sW2(a b:Int):Int:=w64 (a-b)
structure Nm where
 a:Int
 b:Int
 c:Int
 d:Int
 e:Int
 f:Int
 g:Int
 h:Int
 i:Int
 x:Int
 y:Int
 z:Int
abbrev Nm.v(n:Nm):AV:=.agg [I n.a,I n.b,I n.c,I n.d,I n.e,I n.f,I n.g,I n.h,I n.i,I n.x,I n.y,I n.z]
def co2(p q r s:Int):Int:=sW2 (mW p q) (mW r s)
def rH(n:Nm):Int:=aW (aW (aW 0 (mW n.a (co2 n.e n.i n.f n.h))) (mW n.b (co2 n.f n.g n.d n.i))) (mW n.c (co2 n.d n.h n.e n.g))
theorem e_det(d:Nat)(n:Nm):((qG (d+4) [] dO [n.v] mem0).bind λp=>Go.Ix.frz p.2.get qN p.1)=some (I (rH n)):=by kernel_rfl
def vA(n:Nm):Int:=aW (aW (aW 0 (mW (co2 n.e n.i n.f n.h) n.x)) (mW (co2 n.h n.c n.i n.b) n.y)) (mW (co2 n.b n.f n.c n.e) n.z)
def vB(n:Nm):Int:=aW (aW (aW 0 (mW (co2 n.f n.g n.d n.i) n.x)) (mW (co2 n.i n.a n.g n.c) n.y)) (mW (co2 n.c n.d n.a n.f) n.z)
def uP(n:Nm):Int:=aW (aW (aW 0 (mW (co2 n.d n.h n.e n.g) n.x)) (mW (co2 n.g n.b n.h n.a) n.y)) (mW (co2 n.a n.e n.b n.d) n.z)
theorem e_fit(d:Nat)(n:Nm):((qG (d+4) [] fS [n.v] mem0).bind λp=>Go.Ix.frz p.2.get qN p.1)=some (.agg [I (vA n),I (vB n),I (uP n)]):=by kernel_rfl
structure Ep where
 day:Int
 bl:Int
 ph:Int
 mg:Int
def Ep.c(e:Ep):List AV:=[I e.day,I e.bl,I e.ph,I e.mg]
def Ep.r(d0:Int)(e:Ep):List AV:=[I (sW2 e.day d0),I e.bl,I 1]
def Ep.p(e:Ep):List AV:=[I e.ph]
def d0E(l:List Ep):Int:=match l with|e::_=>e.day|[]=>0
def tT(l:List Ep)(n:Nat):AV:=.agg [.slit (l.flatMap (Ep.r (d0E l))) n false,.slit (l.flatMap Ep.p) n false]
def L1(d0:Int)(n:Nm)(e:Ep):Nm:=
 ⟨aW n.a (mW (sW2 e.day d0) (sW2 e.day d0)),aW n.b (mW (sW2 e.day d0) e.bl),aW n.c (mW (sW2 e.day d0) 1),aW n.d (mW e.bl (sW2 e.day d0)),aW n.e (mW e.bl e.bl),aW n.f (mW e.bl 1),aW n.g (mW 1 (sW2 e.day d0)),aW n.h (mW 1 e.bl),aW n.i (mW 1 1),aW n.x (mW (sW2 e.day d0) e.ph),aW n.y (mW e.bl e.ph),aW n.z (mW 1 e.ph)⟩
def nmW(l:List Ep):Nm:=l.foldl (L1 (d0E l)) ⟨0,0,0,0,0,0,0,0,0,0,0,0⟩
theorem e_rows1(d:Nat)(s:ByteArray)(x:Bool)(e1:Ep):((qG (d+4) [] aK [.agg [.sc (.string s),.slit ([e1].flatMap Ep.c) 1 x]] mem0).bind λp=>Go.Ix.frz p.2.get qN p.1)=some (tT [e1] 1):=by kernel_rfl
theorem e_norm1(d:Nat)(e1:Ep):((qG (d+4) [] aL [tT [e1] 1] mem0).bind λp=>Go.Ix.frz p.2.get qN p.1)=some (nmW [e1]).v:=by kernel_rfl
theorem e_rows2(d:Nat)(s:ByteArray)(x:Bool)(e1 e2:Ep):((qG (d+4) [] aK [.agg [.sc (.string s),.slit ([e1,e2].flatMap Ep.c) 2 x]] mem0).bind λp=>Go.Ix.frz p.2.get qN p.1)=some (tT [e1,e2] 2):=by kernel_rfl
theorem e_norm2(d:Nat)(e1 e2:Ep):((qG (d+4) [] aL [tT [e1,e2] 2] mem0).bind λp=>Go.Ix.frz p.2.get qN p.1)=some (nmW [e1,e2]).v:=by kernel_rfl
theorem e_rows3(d:Nat)(s:ByteArray)(x:Bool)(e1 e2 e3:Ep):((qG (d+4) [] aK [.agg [.sc (.string s),.slit ([e1,e2,e3].flatMap Ep.c) 3 x]] mem0).bind λp=>Go.Ix.frz p.2.get qN p.1)=some (tT [e1,e2,e3] 3):=by kernel_rfl
theorem e_norm3(d:Nat)(e1 e2 e3:Ep):((qG (d+4) [] aL [tT [e1,e2,e3] 3] mem0).bind λp=>Go.Ix.frz p.2.get qN p.1)=some (nmW [e1,e2,e3]).v:=by kernel_rfl
theorem e_rows4(d:Nat)(s:ByteArray)(x:Bool)(e1 e2 e3 e4:Ep):((qG (d+4) [] aK [.agg [.sc (.string s),.slit ([e1,e2,e3,e4].flatMap Ep.c) 4 x]] mem0).bind λp=>Go.Ix.frz p.2.get qN p.1)=some (tT [e1,e2,e3,e4] 4):=by kernel_rfl
theorem e_norm4(d:Nat)(e1 e2 e3 e4:Ep):((qG (d+4) [] aL [tT [e1,e2,e3,e4] 4] mem0).bind λp=>Go.Ix.frz p.2.get qN p.1)=some (nmW [e1,e2,e3,e4]).v:=by kernel_rfl
theorem e_rows5(d:Nat)(s:ByteArray)(x:Bool)(e1 e2 e3 e4 e5:Ep):((qG (d+4) [] aK [.agg [.sc (.string s),.slit ([e1,e2,e3,e4,e5].flatMap Ep.c) 5 x]] mem0).bind λp=>Go.Ix.frz p.2.get qN p.1)=some (tT [e1,e2,e3,e4,e5] 5):=by kernel_rfl
theorem e_norm5(d:Nat)(e1 e2 e3 e4 e5:Ep):((qG (d+4) [] aL [tT [e1,e2,e3,e4,e5] 5] mem0).bind λp=>Go.Ix.frz p.2.get qN p.1)=some (nmW [e1,e2,e3,e4,e5]).v:=by kernel_rfl
theorem e_rows6(d:Nat)(s:ByteArray)(x:Bool)(e1 e2 e3 e4 e5 e6:Ep):((qG (d+4) [] aK [.agg [.sc (.string s),.slit ([e1,e2,e3,e4,e5,e6].flatMap Ep.c) 6 x]] mem0).bind λp=>Go.Ix.frz p.2.get qN p.1)=some (tT [e1,e2,e3,e4,e5,e6] 6):=by kernel_rfl
theorem e_norm6(d:Nat)(e1 e2 e3 e4 e5 e6:Ep):((qG (d+4) [] aL [tT [e1,e2,e3,e4,e5,e6] 6] mem0).bind λp=>Go.Ix.frz p.2.get qN p.1)=some (nmW [e1,e2,e3,e4,e5,e6]).v:=by kernel_rfl
theorem e_rows7(d:Nat)(s:ByteArray)(x:Bool)(e1 e2 e3 e4 e5 e6 e7:Ep):((qG (d+4) [] aK [.agg [.sc (.string s),.slit ([e1,e2,e3,e4,e5,e6,e7].flatMap Ep.c) 7 x]] mem0).bind λp=>Go.Ix.frz p.2.get qN p.1)=some (tT [e1,e2,e3,e4,e5,e6,e7] 7):=by kernel_rfl
theorem e_norm7(d:Nat)(e1 e2 e3 e4 e5 e6 e7:Ep):((qG (d+4) [] aL [tT [e1,e2,e3,e4,e5,e6,e7] 7] mem0).bind λp=>Go.Ix.frz p.2.get qN p.1)=some (nmW [e1,e2,e3,e4,e5,e6,e7]).v:=by kernel_rfl
theorem e_rows8(d:Nat)(s:ByteArray)(x:Bool)(e1 e2 e3 e4 e5 e6 e7 e8:Ep):((qG (d+4) [] aK [.agg [.sc (.string s),.slit ([e1,e2,e3,e4,e5,e6,e7,e8].flatMap Ep.c) 8 x]] mem0).bind λp=>Go.Ix.frz p.2.get qN p.1)=some (tT [e1,e2,e3,e4,e5,e6,e7,e8] 8):=by kernel_rfl
theorem e_norm8(d:Nat)(e1 e2 e3 e4 e5 e6 e7 e8:Ep):((qG (d+4) [] aL [tT [e1,e2,e3,e4,e5,e6,e7,e8] 8] mem0).bind λp=>Go.Ix.frz p.2.get qN p.1)=some (nmW [e1,e2,e3,e4,e5,e6,e7,e8]).v:=by kernel_rfl
theorem Ep.len(e:Ep):e.c.length=4:=rfl
theorem Ep.still(e:Ep):e.c.all still1=true:=rfl
theorem k_rows(d:Nat)(s:ByteArray)(x:Bool){l:List Ep}(h0:l≠[])(h8:l.length<=8):((qG (d+4) [] aK [.agg [.sc (.string s),.slit (l.flatMap Ep.c) l.length x]] mem0).bind λp=>Go.Ix.frz p.2.get qN p.1)=some (tT l l.length):=by
 match l,h0,h8 with
 |[],h0,_=>exact absurd rfl h0
 |[e1],_,_=>exact e_rows1 d s x e1
 |[e1,e2],_,_=>exact e_rows2 d s x e1 e2
 |[e1,e2,e3],_,_=>exact e_rows3 d s x e1 e2 e3
 |[e1,e2,e3,e4],_,_=>exact e_rows4 d s x e1 e2 e3 e4
 |[e1,e2,e3,e4,e5],_,_=>exact e_rows5 d s x e1 e2 e3 e4 e5
 |[e1,e2,e3,e4,e5,e6],_,_=>exact e_rows6 d s x e1 e2 e3 e4 e5 e6
 |[e1,e2,e3,e4,e5,e6,e7],_,_=>exact e_rows7 d s x e1 e2 e3 e4 e5 e6 e7
 |[e1,e2,e3,e4,e5,e6,e7,e8],_,_=>exact e_rows8 d s x e1 e2 e3 e4 e5 e6 e7 e8
 |_::_::_::_::_::_::_::_::_::_,_,h8=>simp at h8
theorem k_norm(d:Nat){l:List Ep}(h0:l≠[])(h8:l.length<=8):((qG (d+4) [] aL [tT l l.length] mem0).bind λp=>Go.Ix.frz p.2.get qN p.1)=some (nmW l).v:=by
 match l,h0,h8 with
 |[],h0,_=>exact absurd rfl h0
 |[e1],_,_=>exact e_norm1 d e1
 |[e1,e2],_,_=>exact e_norm2 d e1 e2
 |[e1,e2,e3],_,_=>exact e_norm3 d e1 e2 e3
 |[e1,e2,e3,e4],_,_=>exact e_norm4 d e1 e2 e3 e4
 |[e1,e2,e3,e4,e5],_,_=>exact e_norm5 d e1 e2 e3 e4 e5
 |[e1,e2,e3,e4,e5,e6],_,_=>exact e_norm6 d e1 e2 e3 e4 e5 e6
 |[e1,e2,e3,e4,e5,e6,e7],_,_=>exact e_norm7 d e1 e2 e3 e4 e5 e6 e7
 |[e1,e2,e3,e4,e5,e6,e7,e8],_,_=>exact e_norm8 d e1 e2 e3 e4 e5 e6 e7 e8
 |_::_::_::_::_::_::_::_::_::_,_,h8=>simp at h8
theorem w_rowsOf(d:Nat){s:ByteArray}{a:AV}{l:List Ep}(ha:Sl Ep.c a l)(h0:l≠[])(h8:l.length<=8)(m:Mem):qK (qG (d+4)) aK [.agg [.sc (.string s),a]] m=some (tT l l.length,m):=by
 rcases ha with ⟨-,h⟩|⟨x,rfl⟩
 .exact absurd h h0
 .exact tM rfl (F2 (k_rows d s x h0 h8)) m
theorem w_normal(d:Nat){l:List Ep}(h0:l≠[])(h8:l.length<=8)(m:Mem):qK (qG (d+4)) aL [tT l l.length] m=some ((nmW l).v,m):=tM rfl (F2 (k_norm d h0 h8)) m
theorem w_det(d:Nat)(n:Nm)(m:Mem):qK (qG (d+4)) dO [n.v] m=some (I (rH n),m):=tM rfl (F2 (e_det d n)) m
theorem w_fit(d:Nat)(n:Nm)(m:Mem):qK (qG (d+4)) fS [n.v] m=some (.agg [I (vA n),I (vB n),I (uP n)],m):=tM rfl (F2 (e_fit d n)) m
end Go.Ix
set_option maxRecDepth 100000
namespace Go.Proofs.Ytdfahbenacjgeaa
open Go.ChangeShapes Go.WideShapes Go.ChangeAt Go.RowKit Go.Ix
theorem eps_sh{z:AV}(f:Sh Try.prog aD [z]):∃l,Sl Ep.c z l:=sl_sh (e:=fE) (by kernel_rfl) (λr hl hr=>by
 obtain⟨fs,h1,h2⟩:=fs_of (t:=fE) (l:=[(sD,0),(sD,1),(sD,2),(sD,3)]) (by kernel_rfl)
 obtain⟨-,hff⟩:=Sh.struct_inv h1 hr
 have hc:Try.prog.cellsOf fE=4:=by kernel_rfl
 have hci:Try.prog.cellsOf sD=1:=by kernel_rfl
 rw[hc]at hl
 match r,hl with
 |[x,y,w,v],_=>
  have:∀p∈fs.toList.map (λf=>(f.type,f.offset)),Sh Try.prog p.1 (([x,y,w,v].drop p.2).take (Try.prog.cellsOf p.1)):=λp hp=>by
   obtain⟨f,hf,rfl⟩:=xch.mp hp
   exact hff f hf
  rw[h2]at this
  have a0:=this (sD,0) (by simp)
  have a1:=this (sD,1) (by simp)
  have a2:=this (sD,2) (by simp)
  have a3:=this (sD,3) (by simp)
  simp only[hci,xcd,xfs,xeq,xe0]at a0 a1 a2 a3
  obtain⟨p0,e0⟩:=A9 a0
  obtain⟨p1,e1⟩:=A9 a1
  obtain⟨p2,e2⟩:=A9 a2
  obtain⟨p3,e3⟩:=A9 a3
  simp at e0 e1 e2 e3
  exact⟨⟨p0,p1,p2,p3⟩,by rw[e0,e1,e2,e3];rfl⟩) f
theorem series_in{a:AV}(h:ArgSh Try.prog fD a):∃s x l,a=.agg [T s,x]/\Sl Ep.c x l:=by
 obtain⟨fs,h1,h2⟩:=fs_of (t:=fD) (l:=[(aB,0),(aD,1)]) (by kernel_rfl);obtain⟨q,rfl,hq⟩:=h.struct h1;obtain⟨hl,hff⟩:=Sh.struct_inv h1 hq;have hc:Try.prog.cellsOf fD=2:=(by kernel_rfl);have hc1:Try.prog.cellsOf aB=1:=(by kernel_rfl);have hc2:Try.prog.cellsOf aD=1:=(by kernel_rfl);rw[hc]at hl;match q,hl with
 |[x,y],_=>
  have:∀p∈fs.toList.map (λf=>(f.type,f.offset)),Sh Try.prog p.1 (([x,y].drop p.2).take (Try.prog.cellsOf p.1)):=λp hp=>by obtain⟨f,hf,rfl⟩:=xch.mp hp;exact hff f hf
  rw[h2]at this;have a0:=this _ (xcf ..);have a1:=this (aD,1) (by simp);simp only[hc1,hc2,xcd,xfs,xeq,xe0]at a0 a1;obtain⟨s,hs⟩:=sh_str a0;obtain⟨l,hl⟩:=eps_sh a1;simp at hs;exact⟨s,y,l,by rw[hs],hl⟩
theorem two_arr{r:List AV}(h:Sh Try.prog aO r):∃p:Pq,r=p.c:=by
 have ht:Try.prog.underlying aO=some (.array 2 sD):=(by kernel_rfl);have hc:Try.prog.cellsOf aO=2:=(by kernel_rfl);have hci:Try.prog.cellsOf sD=1:=(by kernel_rfl);cases h with
 |array h' _ hl hf=>
  rw[ht]at h';cases h';rw[hc]at hl;match r,hl with
  |[x,y],_=>have a0:=hf 0 (by omega);have a1:=hf 1 (by omega);simp[hci]at a0 a1;obtain⟨p,hp⟩:=A9 a0;obtain⟨q,hq⟩:=A9 a1;simp at hp hq;exact⟨⟨p,q⟩,by rw[hp,hq];rfl⟩
 |string h'=>rw[ht]at h';cases h'
 |int h'=>rw[ht]at h';cases h'
 |nilS h'=>rw[ht]at h';cases h'
 |slice h'=>rw[ht]at h';cases h'
 |bool h'=>rw[ht]at h';cases h'
 |float h'=>rw[ht]at h';cases h'
 |struct h'=>rw[ht]at h';cases h'
theorem arrs_sh{z:AV}(f:Sh Try.prog aN [z]):∃l,Sl Pq.c z l:=sl_sh (e:=aO) (by kernel_rfl) (λ_ _ hr=>two_arr hr) f
theorem nets8_in{a:AV}(h:ArgSh Try.prog qE a):∃x y F G,a=.agg [x,y]/\Sl Pq.c x F/\Sl Pq.c y G:=by
 obtain⟨fs,h1,h2⟩:=fs_of (t:=qE) (l:=[(aN,0),(aN,1)]) (by kernel_rfl);obtain⟨q,rfl,hq⟩:=h.struct h1;obtain⟨hl,hff⟩:=Sh.struct_inv h1 hq;have hc:Try.prog.cellsOf qE=2:=(by kernel_rfl);have hc2:Try.prog.cellsOf aN=1:=(by kernel_rfl);rw[hc]at hl;match q,hl with
 |[x,y],_=>
  have:∀p∈fs.toList.map (λf=>(f.type,f.offset)),Sh Try.prog p.1 (([x,y].drop p.2).take (Try.prog.cellsOf p.1)):=λp hp=>by obtain⟨f,hf,rfl⟩:=xch.mp hp;exact hff f hf
  rw[h2]at this;have a0:=this (aN,0) (by simp);have a1:=this (aN,1) (by simp);simp only[hc2,xcd,xfs,xeq,xe0]at a0 a1;obtain⟨F,hF⟩:=arrs_sh a0;obtain⟨G,hG⟩:=arrs_sh a1;exact⟨x,y,F,G,rfl,hF,hG⟩
end Go.Proofs.Ytdfahbenacjgeaa
namespace Go.Ix
open Go.Proofs
theorem ml2{a b:Int}{A B:Nat}(ha:a.natAbs<=A)(hb:b.natAbs<=B):(a*b).natAbs<=A*B:=by rw[Int.natAbs_mul];exact xfu ha hb
theorem uQ{a b:Int}{A B:Nat}(ha:a.natAbs<=A)(hb:b.natAbs<=B)(h:A*B<9000000000000000000):mW a b=a*b/\(a*b).natAbs<=A*B:=by have:=ml2 ha hb;exact⟨qQ (by omega) (by omega),this⟩
def nmX(d0:Int)(n:Nm)(e:Ep):Nm:=
 ⟨n.a+(e.day-d0)*(e.day-d0),n.b+(e.day-d0)*e.bl,n.c+(e.day-d0)*1,n.d+e.bl*(e.day-d0),n.e+e.bl*e.bl,n.f+e.bl*1,n.g+1*(e.day-d0),n.h+1*e.bl,n.i+1*1,n.x+(e.day-d0)*e.ph,n.y+e.bl*e.ph,n.z+1*e.ph⟩
structure EpOK (d0:Int) (e:Ep):Prop where
 d:0<=e.day/\e.day<=100000
 s:0<=e.day-d0/\e.day-d0<=400
 b:-100<=e.bl/\e.bl<=100
 p:-16000<=e.ph/\e.ph<=16000
structure NmB (k:Nat) (n:Nm):Prop where
 a:n.a.natAbs<=k*160000
 b:n.b.natAbs<=k*40000
 c:n.c.natAbs<=k*400
 d:n.d.natAbs<=k*40000
 e:n.e.natAbs<=k*10000
 f:n.f.natAbs<=k*100
 g:n.g.natAbs<=k*400
 h:n.h.natAbs<=k*100
 i:n.i.natAbs<=k
 x:n.x.natAbs<=k*6400000
 y:n.y.natAbs<=k*1600000
 z:n.z.natAbs<=k*16000
theorem nmS_ok{d0:Int}{n:Nm}{e:Ep}{k:Nat}(h:NmB k n)(he:EpOK d0 e)(h0:0<=d0/\d0<=100000)(hk:k<=20):L1 d0 n e=nmX d0 n e/\NmB (k+1) (nmX d0 n e):=by obtain⟨⟨d1,d2⟩,⟨s1,s2⟩,⟨b1,b2⟩,⟨p1,p2⟩⟩:=he;have hs:sW2 e.day d0=e.day-d0:=qQ (by omega) (by omega);have nd:(e.day-d0).natAbs<=400:=(by omega);have nb:e.bl.natAbs<=100:=(by omega);have np:e.ph.natAbs<=16000:=(by omega);have n1:(1:Int).natAbs<=1:=(by omega);obtain⟨q1,r1⟩:=uQ nd nd (by omega);obtain⟨q2,r2⟩:=uQ nd nb (by omega);obtain⟨q3,r3⟩:=uQ nd n1 (by omega);obtain⟨q4,r4⟩:=uQ nb nd (by omega);obtain⟨q5,r5⟩:=uQ nb nb (by omega);obtain⟨q6,r6⟩:=uQ nb n1 (by omega);obtain⟨q7,r7⟩:=uQ n1 nd (by omega);obtain⟨q8,r8⟩:=uQ n1 nb (by omega);obtain⟨q9,r9⟩:=uQ n1 n1 (by omega);obtain⟨qa,ra⟩:=uQ nd np (by omega);obtain⟨qb,rb⟩:=uQ nb np (by omega);obtain⟨qc,rc⟩:=uQ n1 np (by omega);obtain⟨ha,hb,hc,hd,he,hf,hg,hh,hi,hx,hy,hz⟩:=h;have st:∀{u v:Int} {U V:Nat},u.natAbs<=k*U->v.natAbs<=V->U<=100000000->V<=100000000->V<=U->aW u v=u+v/\(u+v).natAbs<=(k+1)*U:=λ{u v U V} hu hv h1 h2 h3=>(by have h4:k*U<=20*U:=xd8 _ hk;have h5:(k+1)*U=k*U+U:=xd6 k U;exact⟨qQ (by omega) (by omega),by omega⟩);obtain⟨t1,w1⟩:=st ha r1 (by omega) (by omega) (by omega);obtain⟨t2,w2⟩:=st hb r2 (by omega) (by omega) (by omega);obtain⟨t3,w3⟩:=st hc r3 (by omega) (by omega) (by omega);obtain⟨t4,w4⟩:=st hd r4 (by omega) (by omega) (by omega);obtain⟨t5,w5⟩:=st he r5 (by omega) (by omega) (by omega);obtain⟨t6,w6⟩:=st hf r6 (by omega) (by omega) (by omega);obtain⟨t7,w7⟩:=st hg r7 (by omega) (by omega) (by omega);obtain⟨t8,w8⟩:=st hh r8 (by omega) (by omega) (by omega);obtain⟨t9,w9⟩:=st (U:=1) (by simpa using hi) r9 (by omega) (by omega) (by omega);obtain⟨ta,wa⟩:=st hx ra (by omega) (by omega) (by omega);obtain⟨tb,wb⟩:=st hy rb (by omega) (by omega) (by omega);obtain⟨tc,wc⟩:=st hz rc (by omega) (by omega) (by omega);refine⟨?_,⟨w1,w2,w3,w4,w5,w6,w7,w8,by simpa[nmX]using w9,wa,wb,wc⟩⟩;unfold L1 nmX;rw[hs,q1,q2,q3,q4,q5,q6,q7,q8,q9,qa,qb,qc,t1,t2,t3,t4,t5,t6,t7,t8,t9,ta,tb,tc]
def nm0:Nm:=⟨0,0,0,0,0,0,0,0,0,0,0,0⟩
def nmI(l:List Ep):Nm:=l.foldl (nmX (d0E l)) nm0
theorem nmF_ok{d0:Int}(h0:0<=d0/\d0<=100000):∀(l:List Ep) (n:Nm) (k:Nat),NmB k n->(∀e∈l,EpOK d0 e)->k+l.length<=8->l.foldl (L1 d0) n=l.foldl (nmX d0) n/\NmB 8 (l.foldl (nmX d0) n)
 |[],n,k,h,_,hk=>⟨rfl,by
  have hk:k<=8:=by simpa using hk
  obtain⟨ha,hb,hc,hd,he,hf,hg,hh,hi,hx,hy,hz⟩:=h
  have st:∀{u U:Nat},u<=k*U->u<=8*U:=λ{u U} hu=>xd4 hu (xd8 U hk)
  exact⟨st ha,st hb,st hc,st hd,st he,st hf,st hg,st hh,xd4 hi hk,st hx,st hy,st hz⟩⟩
 |e::r,n,k,h,hl,hk=>by have hk':k+1+r.length<=8:=(by simp at hk;omega);obtain⟨e1,e2⟩:=nmS_ok h (hl e xcf) h0 (by omega);rw[xeo,xeo,e1];exact nmF_ok h0 r _ (k+1) e2 (λx hx=>hl x (xc9 _ hx)) hk'
theorem T8{l:List Ep}(h0:0<=d0E l/\d0E l<=100000)(hl:∀e∈l,EpOK (d0E l) e)(h8:l.length<=8):nmW l=nmI l/\NmB 8 (nmI l):=by have:=nmF_ok h0 l nm0 0 ⟨by simp[nm0],by simp[nm0],by simp[nm0],by simp[nm0],by simp[nm0],by simp[nm0],by simp[nm0],by simp[nm0],by simp[nm0],by simp[nm0],by simp[nm0],by simp[nm0]⟩ hl (by omega);exact this
def coX(p q r s:Int):Int:=p*q-r*s
theorem zB{p q r s:Int}{P Q R S:Nat}(hp:p.natAbs<=P)(hq:q.natAbs<=Q)(hr:r.natAbs<=R)(hs:s.natAbs<=S)(h1:P*Q<1000000000000000000)(h2:R*S<1000000000000000000):co2 p q r s=coX p q r s/\(coX p q r s).natAbs<=P*Q+R*S:=by obtain⟨e1,b1⟩:=uQ hp hq (by omega);obtain⟨e2,b2⟩:=uQ hr hs (by omega);unfold co2 coX;rw[e1,e2];exact⟨qQ (by omega) (by omega),by omega⟩
theorem L2{p q r s t u:Int}{P Q R S T U:Nat}(hp:p.natAbs<=P)(hq:q.natAbs<=Q)(hr:r.natAbs<=R)(hs:s.natAbs<=S)(ht:t.natAbs<=T)(hu:u.natAbs<=U)(h1:P*Q<=100000000000000000)(h2:R*S<=100000000000000000)(h3:T*U<=100000000000000000) :
 aW (aW (aW 0 (mW p q)) (mW r s)) (mW t u)=p*q+r*s+t*u/\(p*q+r*s+t*u).natAbs<=300000000000000000:=by
 obtain⟨e1,b1⟩:=uQ hp hq (by omega);obtain⟨e2,b2⟩:=uQ hr hs (by omega);obtain⟨e3,b3⟩:=uQ ht hu (by omega);rw[e1,e2,e3];have f1:aW 0 (p*q)=p*q:=(by unfold aW;rw[qQ (by omega) (by omega)];omega);have f2:aW (p*q) (r*s)=p*q+r*s:=qQ (by omega) (by omega);have f3:aW (p*q+r*s) (t*u)=p*q+r*s+t*u:=qQ (by omega) (by omega);rw[f1,f2,f3];exact⟨rfl,by omega⟩
def v4(n:Nm):Int:=n.a*coX n.e n.i n.f n.h+n.b*coX n.f n.g n.d n.i+n.c*coX n.d n.h n.e n.g
def fiX(n:Nm):Int:=coX n.e n.i n.f n.h*n.x+coX n.h n.c n.i n.b*n.y+coX n.b n.f n.c n.e*n.z
def fiY(n:Nm):Int:=coX n.f n.g n.d n.i*n.x+coX n.i n.a n.g n.c*n.y+coX n.c n.d n.a n.f*n.z
def fiZ(n:Nm):Int:=coX n.d n.h n.e n.g*n.x+coX n.g n.b n.h n.a*n.y+coX n.a n.e n.b n.d*n.z
theorem T9{n:Nm}(h:NmB 8 n):(rH n=v4 n/\(v4 n).natAbs<=300000000000000000)/\(vA n=fiX n/\(fiX n).natAbs<=300000000000000000)/\(vB n=fiY n/\(fiY n).natAbs<=300000000000000000)/\(uP n=fiZ n/\(fiZ n).natAbs<=300000000000000000):=by obtain⟨ha,hb,hc,hd,he,hf,hg,hh,hi,hx,hy,hz⟩:=h;obtain⟨c1,r1⟩:=zB he hi hf hh (by omega) (by omega);obtain⟨c2,r2⟩:=zB hf hg hd hi (by omega) (by omega);obtain⟨c3,r3⟩:=zB hd hh he hg (by omega) (by omega);obtain⟨c4,r4⟩:=zB hh hc hi hb (by omega) (by omega);obtain⟨c5,r5⟩:=zB hb hf hc he (by omega) (by omega);obtain⟨c6,r6⟩:=zB hi ha hg hc (by omega) (by omega);obtain⟨c7,r7⟩:=zB hc hd ha hf (by omega) (by omega);obtain⟨c8,r8⟩:=zB hg hb hh ha (by omega) (by omega);obtain⟨c9,r9⟩:=zB ha he hb hd (by omega) (by omega);unfold rH vA vB uP v4 fiX fiY fiZ;rw[c1,c2,c3,c4,c5,c6,c7,c8,c9];exact⟨L2 ha r1 hb r2 hc r3 (by omega) (by omega) (by omega),L2 r1 hx r4 hy r5 hz (by omega) (by omega) (by omega),L2 r2 hx r6 hy r7 hz (by omega) (by omega) (by omega),L2 r3 hx r8 hy r9 hz (by omega) (by omega) (by omega)⟩
def Ep.sh(φ:Int)(e:Ep):Ep:=⟨e.day,e.bl,e.ph-φ,e.mg⟩
structure NmSh (φ:Int) (n n':Nm):Prop where
 a:n'.a=n.a
 b:n'.b=n.b
 c:n'.c=n.c
 d:n'.d=n.d
 e:n'.e=n.e
 f:n'.f=n.f
 g:n'.g=n.g
 h:n'.h=n.h
 i:n'.i=n.i
 x:n'.x=n.x-φ*n.c
 y:n'.y=n.y-φ*n.f
 z:n'.z=n.z-φ*n.i
theorem nmSh_step{φ d0:Int}{n n':Nm}(h:NmSh φ n n')(e:Ep):NmSh φ (nmX d0 n e) (nmX d0 n' (e.sh φ)):=by
 obtain⟨ha,hb,hc,hd,he,hf,hg,hh,hi,hx,hy,hz⟩:=h;constructor;all_goals simp only[nmX,Ep.sh,ha,hb,hc,hd,he,hf,hg,hh,hi,hx,hy,hz]
 .grind
 .grind
 .grind
theorem x6y{φ d0:Int}:∀(l:List Ep) (n n':Nm),NmSh φ n n'->NmSh φ (l.foldl (nmX d0) n) ((l.map (Ep.sh φ)).foldl (nmX d0) n')
 |[],n,n',h=>h
 |e::r,n,n',h=>x6y r _ _ (nmSh_step h e)
theorem d0_sh(φ:Int)(l:List Ep):d0E (l.map (Ep.sh φ))=d0E l:=by cases l<;>rfl
theorem nmI_sh(φ:Int)(l:List Ep):NmSh φ (nmI l) (nmI (l.map (Ep.sh φ))):=by unfold nmI;rw[d0_sh];exact x6y l nm0 nm0 ⟨rfl,rfl,rfl,rfl,rfl,rfl,rfl,rfl,rfl,by simp[nm0],by simp[nm0],by simp[nm0]⟩
theorem fit_sh{φ:Int}{n n':Nm}(h:NmSh φ n n'):v4 n'=v4 n/\fiX n'=fiX n/\fiY n'=fiY n/\fiZ n'=fiZ n-φ*v4 n:=by obtain⟨ha,hb,hc,hd,he,hf,hg,hh,hi,hx,hy,hz⟩:=h;unfold v4 fiX fiY fiZ coX;rw[ha,hb,hc,hd,he,hf,hg,hh,hi,hx,hy,hz];refine⟨rfl,?_,?_,?_⟩<;>grind
def uR(e:Ep):Bool:=!(wi e.day 0 100000)||!(wi e.bl (-100) 100)||!(wi e.ph (-16000) 16000)||!(wi e.mg 0 2048)
def sP(l:List Ep)(k:Nat):Int:=((l[k]?).map Ep.day).getD 0
def epE(l:List Ep)(k:Nat)(e:Ep):Int:=bif uR e then 2 else bif decide (0<k)&&decide (e.day<=sP l (k-1))then 9 else bif decide (400<sW2 e.day (sP l 0))then 8 else 0
def uS(l:List Ep):Nat->List Ep->Int
 |_,[]=>0
 |k,e::r=>bif decide (epE l k e=0)then uS l (k+1) r else epE l k e
def sH(s:ByteArray)(l:List Ep):Int:=bif !(tJ s)then 4 else bif decide (l.length=0)then 10 else bif decide (20<l.length)then 8 else uS l 0 l
theorem B1{l:List Ep}{k:Nat}(h:k<l.length):sP l k=l[k].day:=by unfold sP;rw[xci h];rfl
theorem d0_at{l:List Ep}(h:l≠[]):sP l 0=d0E l:=by
 cases l with
 |nil=>exact absurd rfl h
 |cons e r=>rfl
theorem epsE_at{l:List Ep}:∀(suf:List Ep) (k:Nat),l.drop k=suf->uS l k suf=0->∀j (hj:j<l.length),k<=j->epE l j l[j]=0
 |[],k,hd,_,j,hj,hkj=>by have:=xe7.mp hd;omega
 |e::r,k,hd,h,j,hj,hkj=>by
  obtain⟨hk,he,hd1⟩:=d6 hd;rw[uS]at h;by_cases c:epE l k e=0
  .simp only[c,xcc,sN]at h;rcases xcu k j with hc|hc
   .exact epsE_at r (k+1) hd1 h j hj hc
   .have:j=k:=(by omega);subst this;rw[he];exact c
  .simp only[c,xd2,uZ]at h
structure SerOK (l:List Ep):Prop where
 ne:l≠[]
 len:l.length<=20
 d0:0<=d0E l/\d0E l<=100000
 all:∀e∈l,EpOK (d0E l) e
theorem epE_0{l:List Ep}{k:Nat}{e:Ep}(h:epE l k e=0):uR e=false/\(0<k->sP l (k-1)<e.day)/\sW2 e.day (sP l 0)<=400:=by
 unfold epE at h;cases c1:uR e with
 |true=>simp[c1]at h
 |false=>
  simp only[c1,uZ]at h;cases c2:decide (0<k)&&decide (e.day<=sP l (k-1))with
  |true=>simp[c2]at h
  |false=>
   simp only[c2,uZ]at h;by_cases c3:400<sW2 e.day (sP l 0)
   .simp[c3]at h
   .refine⟨rfl,λhk=>?_,by omega⟩;simp only[hk,xcc,xda,decide_eq_false_iff_not]at c2;omega
theorem epBad_f{e:Ep}(h:uR e=false):(0<=e.day/\e.day<=100000)/\(-100<=e.bl/\e.bl<=100)/\(-16000<=e.ph/\e.ph<=16000):=by unfold uR at h;simp only[Bool.or_eq_false_iff,Bool.not_eq_false']at h;exact⟨xC h.1.1.1,xC h.1.1.2,xC h.1.2⟩
theorem F3{s:ByteArray}{l:List Ep}(h:sH s l=0):SerOK l:=by
 unfold sH at h;cases hn:tJ s with
 |false=>simp[hn]at h
 |true=>
  by_cases h0:l.length=0
  .simp[hn,h0]at h
  .by_cases h20:20<l.length
   .simp[hn,h0,h20]at h
   .have h':uS l 0 l=0:=(by simpa[hn,h0,h20]using h);have hne:l≠[]:=λe=>h0 (by rw[e];rfl)
    have hA:=epsE_at l 0 rfl h';have hd0:=d0_at hne;have hl0:0<l.length:=(by omega);have hz:=epBad_f (epE_0 (hA 0 hl0 (xc7 _))).1;have hz0:d0E l=l[0].day:=(by rw[<-hd0,B1 hl0]);have hup:∀j (hj:j<l.length),d0E l<=l[j].day:=by
     intro j;induction j with
     |zero=>intro hj;omega
     |succ j ih=>intro hj;have h1:=(epE_0 (hA (j+1) hj (xf7 _))).2.1 (by omega);rw[Nat.add_sub_cancel,B1 (by omega)]at h1;have:=ih (by omega);omega
    refine⟨hne,by omega,by omega,λe he=>?_⟩;obtain⟨j,hj,rfl⟩:=List.getElem_of_mem he;obtain⟨e1,e2,e3⟩:=epE_0 (hA j hj (xf7 _));obtain⟨b1,b2,b3⟩:=epBad_f e1;have:=hup j hj;rw[hd0]at e3;unfold sW2 at e3;rw[qQ (by omega) (by omega)]at e3;exact⟨b1,by omega,b2,b3⟩
theorem uA:Try.prog.underlying aD=some (.slice fE):=by kernel_rfl
theorem z_epoch:fO=[I 0,I 0,I 0,I 0]:=by kernel_rfl
theorem w_isMoved(d:Nat)(a:Int)(m:Mem):qK (qG (d+2)) cV [I a] m=some (B (wi a (-16000) 16000),m):=by refine call0 rfl (m':=⟨[],1⟩) ?_ rfl;rw[x10];unfold kW gJ;simp[mem0,u7]
theorem x9z(d:Nat)(a:Int)(m:Mem):qK (qG (d+2)) cW [I a] m=some (B (wi a 0 2048),m):=by refine call0 rfl (m':=⟨[],1⟩) ?_ rfl;rw[x11];unfold kX gK;simp[mem0,u7]
theorem xa0(d:Nat){s:ByteArray}{a:AV}{l:List Ep}(h:Sl Ep.c a l)(m:Mem) :
 qK (qG (d+3)) cP [.agg [T s,a]] m=some (I (sH s l),m):=by
 refine tM (by simp[h.still1]) ?_ m;rw[xq];unfold kN fP;generalize hm1:(⟨[],1⟩:Mem).new (0,0,1) (.row [T s,a] 0 false)=m1;have g1:m1.get (0,0,1)=some (.row [T s,a] 0 false):=(by rw[<-hm1];simp);simp[mem0,h.one,hm1,g1,w_IsName];unfold sH;cases hn:tJ s with
 |false=>simp;exact RetF.st rfl rfl
 |true=>
 simp[g1,h.len uA];by_cases h0:l.length=0
 .have h0':l=[]:=xdy.mp h0;simp[h0'];exact RetF.st rfl rfl
 have h0':¬l=[]:=λe=>h0 (by rw[e];rfl)
 simp[h0,h0'];by_cases h20:20<l.length
 .have h20':(20:Int)<(l.length:Int):=(by omega);simp[h20,h20',g1,h.len uA];exact RetF.st rfl rfl
 have h20':¬(20:Int)<(l.length:Int):=(by omega);simp[h20,h20',g1,h.len uA];unfold mY;refine tW (N:=l.length) (σ:=Unit) (λn k _ m fc=>bA (qG (d+2)) [] 0 n (.ptr (0,0,1) 0 0) (I k) m fc) (λk _ m=>m.get (0,0,1)=some (.row [T s,a] 0 false)/\uS l 0 l=uS l k (l.drop k)) _ ?_ ?_ NN 0 () m1 _ (by omega) (by rw[rQ];omega) ⟨g1,rfl⟩
 .rintro n k-m fc hk ⟨hm,hE⟩ next;have hk':(k:Int)<(l.length:Int):=(by omega);have ix:=h.ix Ep.len hk;have ld:=λm=>vW (m:=m) Ep.len (by omega) hk
  have ix0:sIx 4 a (I 0)=some (.plit (l.flatMap Ep.c)):=(by simpa using h.ix Ep.len (show 0<l.length by omega));have ld0:∀m,sLd false 1 (.plit (l.flatMap Ep.c)) m=some (I (sP l 0)):=λm=>by have:=wK (enc:=Ep.c) (m:=m) (l:=l) (show 0<l.length by omega) 0 (v:=I (sP l 0)) (by rw[B1 (by omega)];rfl);simpa using this
  rw[uO hk,uS]at hE;have hfin:∀(z:Int) (m':Mem),epE l k l[k]=z->z≠0->RetF (λv=>v=I (uS l 0 l)) (some (I z,m')):=λz m' hz h0=>by rw[hE,hz];simp only[h0,xd2,uZ];exact RetF.st rfl rfl
  have hgo:∀(m':Mem) fc',m'.get (0,0,1)=some (.row [T s,a] 0 false)->epE l k l[k]=0->RetF (λv=>v=I (uS l 0 l)) (bA (qG (d+2)) [] 0 n (.ptr (0,0,1) 0 0) (I ((k:Int)+1)) m' fc'):=λm' fc' g hz=>by refine next () m' fc' ⟨g,?_⟩;rw[hE,hz];rfl
  generalize hee:l[k]=e at *
  simp only[bA];unfold fN;simp[hm,h.len uA,hk,ix,ld,z_epoch,Ep.c];generalize hm2:Mem.set _ _ _=m2;have g2:m2.get (0,fc+10,4)=some (.row e.c 0 false):=(by rw[<-hm2];simp[Ep.c]);have g20:m2.get (0,0,1)=some (.row [T s,a] 0 false):=(by rw[<-hm2];simp[hm]);simp[g2,Ep.c,u7];cases c1:wi e.day 0 100000 with
  |false=>simp;exact hfin 2 _ (by simp[epE,uR,c1]) (by omega)
  |true=>
  simp[g2,Ep.c,u7];cases c2:wi e.bl (-100) 100 with
  |false=>simp;exact hfin 2 _ (by simp[epE,uR,c1,c2]) (by omega)
  |true=>
  simp[g2,Ep.c,w_isMoved];cases c3:wi e.ph (-16000) 16000 with
  |false=>simp;exact hfin 2 _ (by simp[epE,uR,c1,c2,c3]) (by omega)
  |true=>
  simp[g2,Ep.c,x9z];cases c4:wi e.mg 0 2048 with
  |false=>simp;exact hfin 2 _ (by simp[epE,uR,c1,c2,c3,c4]) (by omega)
  |true=>
  have hb:uR e=false:=(by simp[uR,c1,c2,c3,c4]);have fin2:∀fc',(0<k->sP l (k-1)<e.day)->RetF (λv=>v=I (uS l 0 l)) (bif decide (400<w64 (e.day-sP l 0))then some (I 8,m2)else bA (qG (d+2)) [] 0 n (.ptr (0,0,1) 0 0) (I ((k:Int)+1)) m2 fc'):=λfc' hp=>by
   have hp2:(decide (0<k)&&decide (e.day<=sP l (k-1)))=false:=by
    by_cases h1:0<k
    .have:=hp h1;simp[h1];omega
    .simp[h1]
   by_cases c6:400<w64 (e.day-sP l 0)
   .simp only[c6,xcc,sN];exact hfin 8 _ (by unfold epE sW2;rw[hb,hp2];simp[c6]) (by omega)
   .simp only[c6,xd2,uZ];exact hgo _ _ g20 (by unfold epE sW2;rw[hb,hp2];simp[c6])
  by_cases hk0:0<k
  .have hkI:(0:Int)<(k:Int):=(by omega);have hk1:((k:Int)-1)=((k-1:Nat):Int):=(by omega);have ix1:sIx 4 a (I ((k-1:Nat):Int))=some (.plit ((l.drop (k-1)).flatMap Ep.c)):=h.ix Ep.len (show k-1<l.length by omega);have ld1:∀m,sLd false 1 (.plit ((l.drop (k-1)).flatMap Ep.c)) m=some (I (sP l (k-1))):=λm=>by have:=wK (enc:=Ep.c) (m:=m) (l:=l) (show k-1<l.length by omega) 0 (v:=I (sP l (k-1))) (by rw[B1 (by omega)];rfl);simpa using this
   have hw:w64 ((k:Int)-1)=((k-1:Nat):Int):=(by rw[qQ (by omega) (by omega),hk1]);simp[hk0,hkI,g2,g20,Ep.c,hw,ix1,ld1];by_cases c5:e.day<=sP l (k-1)
   .simp[c5];exact hfin 9 _ (by unfold epE;rw[hb];simp[hk0,c5]) (by omega)
   .simp[c5,g2,g20,Ep.c,ix0,ld0,K4];rw[qQ (n:=(k:Int)+1) (by omega) (by omega)];exact fin2 _ (λ_=>by omega)
  .have:k=0:=(by omega);subst this;simp[g2,g20,Ep.c,ix0,ld0,K4];have:=fin2 (fc+60) (λh=>absurd h (by omega));simpa[qQ]using this
 .rintro n-m fc ⟨hm,hE⟩;rw[xdg (xc7 _)]at hE;simp only[bA];unfold fN mX;simp[hm,h.len uA];exact RetF.st rfl (by rw[hE];rfl)
end Go.Ix
