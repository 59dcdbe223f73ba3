import Derived.Test.YtjdlceelbnaneaaWg16
set_option linter.unusedSimpArgs false
set_option linter.unusedVariables false
namespace Go.Ix
open Go.Proofs
attribute [local simp high] rd_5
variable{a:AV}{l:List Mp}
theorem eq_aff(X Y:Operand)(f:Aff):sBin Try.prog .eql x7 X Y (.agg f.c) (.agg f.c)=some (B true):=by
 obtain⟨n,a0,a1,a2,b0,b1,b2⟩:=f
 have hS:Try.prog.underlying x7=some (.struct (Try.prog.fieldsOf x7)):=by kernel_rfl
 have hp:Try.prog.stoodInHeld x7=false:=by kernel_rfl
 have hF:((Try.prog.fieldsOf x7).toList.map λf=>(f.type,f.offset,decide (f.name = "_")))=[(x7v,0,false),(xr,1,false),(xr,4,false)]:=by kernel_rfl
 have u3:Try.prog.underlying xr=some (.array 3 x7v):=by kernel_rfl
 have p0:x5b Try.prog (part x7v #[.int .i64 n,.int .i64 a0,.int .i64 a1,.int .i64 a2,.int .i64 b0,.int .i64 b1,.int .i64 b2] 0)=some (.int .i64 n):=by kernel_rfl
 have p1:x5b Try.prog (part xr #[.int .i64 n,.int .i64 a0,.int .i64 a1,.int .i64 a2,.int .i64 b0,.int .i64 b1,.int .i64 b2] 1)=some (.agg #[.int .i64 a0,.int .i64 a1,.int .i64 a2]):=by kernel_rfl
 have p2:x5b Try.prog (part xr #[.int .i64 n,.int .i64 a0,.int .i64 a1,.int .i64 a2,.int .i64 b0,.int .i64 b1,.int .i64 b2] 4)=some (.agg #[.int .i64 b0,.int .i64 b1,.int .i64 b2]):=by kernel_rfl
 have key:x5b Try.prog (Op.equalIn 10000 x7 (.agg #[.int .i64 n,.int .i64 a0,.int .i64 a1,.int .i64 a2,.int .i64 b0,.int .i64 b1,.int .i64 b2]) (.agg #[.int .i64 n,.int .i64 a0,.int .i64 a1,.int .i64 a2,.int .i64 b0,.int .i64 b1,.int .i64 b2]))=some true:=by
  rw[show(10000:Nat)=9997+1+1+1 from rfl,xgl _ _ _ _ hS hp]
  generalize (Try.prog.fieldsOf x7).toList=fs at hF
  have hl:=congrArg List.length hF
  simp only[xjs,xhz,xj8]at hl
  match fs,hl with
  |[f0,f1,f2],_=>
   simp only[xhw,xi9,xjm,xhm,and_true,decide_eq_false_iff_not]at hF
   obtain⟨⟨t0,o0,n0⟩,⟨t1,o1,n1⟩,t2,o2,n2⟩:=hF
   have q1:x5b Try.prog (Op.equalIn 9999 xr (.agg #[.int .i64 a0,.int .i64 a1,.int .i64 a2]) (.agg #[.int .i64 a0,.int .i64 a1,.int .i64 a2]))=_:=eqArr3 u3 9997 a0 a1 a2 a0 a1 a2
   have q2:x5b Try.prog (Op.equalIn 9999 xr (.agg #[.int .i64 b0,.int .i64 b1,.int .i64 b2]) (.agg #[.int .i64 b0,.int .i64 b1,.int .i64 b2]))=_:=eqArr3 u3 9997 b0 b1 b2 b0 b1 b2
   have q0:x5b Try.prog (Op.equalIn 9999 x7v (.int .i64 n) (.int .i64 n))=some (n == n):=xcs _ _ _ _ _ _ xct
   simp only[Op.eqFields,n0,n1,n2,ne_eq,not_false_eq_true,xig,t0,t1,t2,o0,o1,o2,x67,p0,p1,p2,x5t,q0,q1,q2]
   simp[x7l,x67,p1,p2,q1,q2]
 exact xgn (x:=X) (y:=Y) (xs:=[.int .i64 n,.int .i64 a0,.int .i64 a1,.int .i64 a2,.int .i64 b0,.int .i64 b1,.int .i64 b2]) (ys:=[.int .i64 n,.int .i64 a0,.int .i64 a1,.int .i64 a2,.int .i64 b0,.int .i64 b1,.int .i64 b2]) (by kernel_rfl) key _ _ rfl rfl
def affZ:Aff:=⟨0,0,0,0,0,0,0⟩
def fitE(l:List Mp):Int:=if(x60 l).2=0 then(if rkM l=3 then 0 else 30)else(x60 l).2
def fitA(l:List Mp):Aff:=if fitE l=0 then fitM l else affZ
theorem rkM_le(l:List Mp):0<=rkM l/\rkM l<=3:=by
 cases l with
 |nil=>simp[rkM]
 |cons f r=>rcases rkM_ok f r with ⟨h,-⟩|⟨_,_,_,h,-⟩|⟨_,_,_,_,h,-⟩<;>omega
theorem w_Fit(d:Nat)(ha:Pts a l)(hl:l.length<=1000)(h13:(x60 l).2=0->l.length<=13)(m:Mem):x5c (x59 (d+6)) xh [a] m=some (.tup [.agg (fitA l).c,I (fitE l)],m):=by
 refine x5x (by simp[ha.still]) ?_ m
 rw[x47]
 unfold x2w x24
 have eb:x6c [I 0,I 0,I 0,I 0,I 0,I 0,I 0] []=some (.agg [I 0,I 0,I 0,I 0,I 0,I 0,I 0]):=by simp[x6c,x6x]
 simp[mem0,xa7,xgw d ha hl,eb]
 by_cases c:(x60 l).2=0
 rotate_left
 .have e:fitE l=(x60 l).2:=by unfold fitE;rw[xhl c]
  have e2:fitA l=affZ:=by unfold fitA;rw[e,xhl c]
  simp[c,e,e2]
  exact RetF.tup rfl rfl
 obtain⟨-,-,hin⟩:=xcy c
 have hr:=rkM_le l
 by_cases c3:rkM l=3
 .have e:fitE l=0:=by unfold fitE;rw[xhk c,xhk c3]
  have e2:fitA l=fitM l:=by unfold fitA;rw[xhk e]
  have hf:=w_fit3 (d+2) ha (h13 c) hin (rk_det c3)
  simp only[Aff.c]at hf
  simp[c,w_rank3 (d+3) ha hl hin,c3,hf,e,e2,Aff.c]
  exact RetF.tup rfl rfl
 .have e:fitE l=30:=by unfold fitE;rw[xhk c,xhl c3]
  have e2:fitA l=affZ:=by unfold fitA;rw[e,xhl (by omega)]
  have c4:rkM l<3:=by omega
  simp[c,w_rank3 (d+3) ha hl hin,c4,e,e2]
  exact RetF.tup rfl rfl
attribute [local simp high] rd_5
theorem xgz(objs:Id->Option Ob)(k:Nat){l:List AV}(h:l.all still1=true):l.flatMap (x5d objs k)=[]:=by
 rw[xje]
 intro a ha
 cases k with
 |zero=>rfl
 |succ k=>exact xb2 objs k (xhq.mp h a ha)
theorem sCall0_gk{α:Type}{enc:α->List AV}{z:Nat}{call:x5a}{f:FuncId}{ok:Id->Prop}{m:Mem}{a:AV}{L:List α}{r:AV}(hz:∀x,(enc x).length=z)(hs:∀x,(enc x).all still1=true)(hG:Gk z enc ok m a L)(hw:∀a',Sl enc a' L->∀m:Mem,x5c call f [a'] m=some (r,m)):∃m2:Mem,x5c call f [a] m=some (r,m2)/\m2.next=m.next/\∀j,¬ok j->m2.get j=m.get j:=by
 rcases hG with ⟨rfl,rfl⟩|⟨id,ver,h0,rfl,hg⟩
 .exact⟨m,hw _ (Or.inl ⟨rfl,rfl⟩) m,rfl,λ_ _=>rfl⟩
 .have hfl:=x7j hz L
  have hst:(L.flatMap enc).all still1=true:=x99 hs L
  have hfz:Go.Ix.frz m.get deep (.sref id ver 0 L.length z true)=some (.slit (L.flatMap enc) L.length false):=by
   have:=xa2 (objs:=m.get) (id:=id) (cs:=L.flatMap enc) (ver:=ver) (off:=0) (n:=L.length) (z:=z) (k:=4) (f:=false) (x:=true) hg (by omega) (by
    rw[xie,xi5 (by omega)];exact hst)
   rw[xie,xi5 (by omega)]at this
   exact this
  have hw:=hw _ (Sl.lit L false) mem0
  have hl2:[AV.slit (L.flatMap enc) L.length false].mapM (Go.Ix.frz mem0.get deep)=some [AV.slit (L.flatMap enc) L.length false]:=xco _ (by simp)
  unfold x5c at hw ⊢
  rw[hl2]at hw
  rw[show[AV.sref id ver 0 L.length z true].mapM (Go.Ix.frz m.get deep)=some [AV.slit (L.flatMap enc) L.length false]from by simp only[xiz,List.mapM_nil,hfz];rfl]
  simp only at hw ⊢
  cases hc:call [] f [AV.slit (L.flatMap enc) L.length false] mem0 with
  |none=>rw[hc]at hw;cases hw
  |some r0=>
   obtain⟨r0,m'⟩:=r0
   rw[hc]at hw
   simp only[xhp,xhm]at hw
   obtain⟨v,hv,rfl,-⟩:=hw
   have hr:[AV.sref id ver 0 L.length z true].flatMap (x5d m.get deep)=[id]:=by
    have h1:x5d m.get deep (.sref id ver 0 L.length z true)=[id]:=by
     show(match m.get id with
      |some (.row cs _ _)=>id::((cs.drop 0).take (L.length*z)).flatMap (x5d m.get 5)
      |_=>[id])=[id]
     rw[hg]
     simp only[xie]
     rw[xi5 (by omega),xgz _ _ hst]
    simp only[xj4,List.flatMap_nil,h1]
    rfl
   have hm2:∀j,(⟨x87 [id] m.hp,m.next⟩:Mem).get j=shut [id] m.get j:=λj=>congrFun (xcd [id] m.hp) j
   refine⟨⟨x87 [id] m.hp,m.next⟩,?_,rfl,λj hj=>?_⟩
   .simp only[hv,hr]
    rfl
   .rw[hm2];unfold shut;rw[xhl (by simp;rintro rfl;exact hj h0)]
theorem e_missF(d:Nat)(f:Aff)(x:Mp):((x59 (d+1) [] xo [.agg f.c,.agg x.c,B false] mem0).bind λp=>Go.Ix.frz p.2.get deep p.1)=some (I (sW2 (sW2 (sW2 (mW f.den x.b0) f.l0) (mW f.l1 x.ln)) (mW f.l2 x.sm))):=by kernel_rfl
theorem e_missT(d:Nat)(f:Aff)(x:Mp):((x59 (d+1) [] xo [.agg f.c,.agg x.c,B true] mem0).bind λp=>Go.Ix.frz p.2.get deep p.1)=some (I (sW2 (sW2 (sW2 (mW f.den x.b1) f.s0) (mW f.s1 x.ln)) (mW f.s2 x.sm))):=by kernel_rfl
structure AffSm (f:Aff):Prop where
 d0:0<f.den
 d1:f.den<=1000000000000
 l0:bd f.l0 10000000000000
 l1:bd f.l1 10000000000000
 l2:bd f.l2 10000000000000
 s0:bd f.s0 10000000000000
 s1:bd f.s1 10000000000000
 s2:bd f.s2 10000000000000
theorem sW_of{a b y:Int}(h:Cg (sW2 a b) y)(hb:bd y 9223372036854775807):sW2 a b=y:=by
 obtain⟨k,e⟩:=h
 obtain⟨-,h1,h2⟩:=xbb (a-b)
 unfold sW2 at *
 unfold bd at hb
 omega
section
variable{f:Aff}{x:Mp}
theorem AffSm.dn(h:AffSm f):bd f.den 1000000000000:=by have:=h.d0;have:=h.d1;unfold bd;omega
theorem AffSm.inn(h:AffSm f):AffIn f:=⟨h.d0,h.d1,h.l0.mono (by omega),h.l1.mono (by omega),h.l2.mono (by omega),h.s0.mono (by omega),h.s1.mono (by omega),h.s2.mono (by omega)⟩
theorem xd3(h:AffSm f)(hx:PtIn x):bd (x6g f x) 1300000000000000:=((((h.dn.mul hx.b0).sub h.l0).sub (h.l1.mul hx.ln)).sub (h.l2.mul hx.sm)).mono (by omega)
theorem xd4(h:AffSm f)(hx:PtIn x):bd (x6h f x) 1300000000000000:=((((h.dn.mul hx.b1).sub h.s0).sub (h.s1.mul hx.ln)).sub (h.s2.mul hx.sm)).mono (by omega)
theorem w_missF(d:Nat)(h:AffSm f)(hx:PtIn x)(m:Mem):x5c (x59 (d+1)) xo [.agg f.c,.agg x.c,B false] m=some (I (x6g f x),m):=by
 have e:=e_missF d f x
 rw[show sW2 (sW2 (sW2 (mW f.den x.b0) f.l0) (mW f.l1 x.ln)) (mW f.l2 x.sm)=x6g f x from
  sW_of (cg_s (cg_s (cg_s (cg_m (.refl _) (.refl _)) (.refl _)) (cg_m (.refl _) (.refl _))) (cg_m (.refl _) (.refl _))) ((xd3 h hx).mono (by omega))]at e
 exact x5x rfl (x7x e) m
theorem w_missT(d:Nat)(h:AffSm f)(hx:PtIn x)(m:Mem):x5c (x59 (d+1)) xo [.agg f.c,.agg x.c,B true] m=some (I (x6h f x),m):=by
 have e:=e_missT d f x
 rw[show sW2 (sW2 (sW2 (mW f.den x.b1) f.s0) (mW f.s1 x.ln)) (mW f.s2 x.sm)=x6h f x from
  sW_of (cg_s (cg_s (cg_s (cg_m (.refl _) (.refl _)) (.refl _)) (cg_m (.refl _) (.refl _))) (cg_m (.refl _) (.refl _))) ((xd4 h hx).mono (by omega))]at e
 exact x5x rfl (x7x e) m
end
def x68(f:Aff):Nat->Mp->Int
 |0,x=>x6g f x
 |_+1,x=>x6h f x
theorem xbj{f:Aff}(h:AffSm f){x:Mp}(hx:PtIn x)(kk:Nat):bd (x68 f kk x) 1300000000000000:=by
 cases kk with
 |zero=>exact xd3 h hx
 |succ k=>exact xd4 h hx
variable{a:AV}{l:List Mp}{f:Aff}
theorem xd5{g:Mp->Int}{b:Int}{l:List Mp}(hl:l.length<=12)(h0:0<=b)(h:∀x∈l,bd (g x) b):bd (su g l) (12*b):=by
 have h1:=su_le (f:=g) (b:=b) (l:=l) h
 have h2:(l.length:Int)*b<=12*b:=xkw (by omega) h0
 unfold bd;omega
theorem l_sums(d:Nat)(hs:FHs){t5:AV}(rec2:AV->AV->AV->AV->Mem->Nat->O2)(ha:Pts a l)(hl:l.length<=12)(hin:x5s l)(hA:AffSm f)(kk:Nat)(hk1:kk<=1){m:Mem}(h3:m.get (0,17,3)=some (.row [I f.den,I f.l0,I f.l1,I f.l2,I f.s0,I f.s1,I f.s2] 0 false)):∀(suf:List Mp) (k j:Nat) (fc:Nat),l.drop k=suf->suf.length<j ->
 ∃fc',xq (x59 (d+1)) hs 0 rec2 j a (.ptr (0,17,3) 0 0) t5 (I kk) (I (su (x68 f kk) (l.take k))) (I (su (λx=>x68 f kk x*x.ln) (l.take k))) (I (su (λx=>x68 f kk x*x.sm) (l.take k))) (I k) m fc =
  x1y (x59 (d+1)) hs 0 rec2 a (.ptr (0,17,3) 0 0) t5 (I kk) (I (su (x68 f kk) l)) (I (su (λx=>x68 f kk x*x.ln) l)) (I (su (λx=>x68 f kk x*x.sm) l)) m fc':=by
 intro suf
 induction suf with
 |nil=>
  intro k j fc hd hj
  obtain⟨j,rfl⟩:∃i,j=i+1:=⟨j-1,by simp at hj;omega⟩
  have hk0:=xjo.mp hd
  have hk:¬((k:Int)<(l.length:Int)):=by omega
  rw[xi5 hk0]
  refine⟨fc+4,?_⟩
  simp only[xq]
  unfold x1z
  simp[ha.len x7m,hk]
 |cons x r ih=>
  intro k j fc hd hj
  obtain⟨j,rfl⟩:∃i,j=i+1:=⟨j-1,by simp at hj;omega⟩
  obtain⟨hk,he,hd⟩:=x97 hd
  have hk':(k:Int)<(l.length:Int):=by omega
  have ix:=ha.ix Mp.len hk
  rw[x8o hk,xj4,he]at ix
  have hx:=hin x (he▸xih hk)
  have htk:l.take (k+1)=l.take k++[x]:=by rw[xl3 hk,he]
  obtain⟨fc',h'⟩:=ih (k+1) j (fc+40) hd (by simp at hj;omega)
  rw[htk]at h'
  simp only[x9a,xa3]at h'
  refine⟨fc',?_⟩
  rw[<-h']
  have hin':∀y∈l.take k,PtIn y:=λy hy=>hin y (xkz hy)
  have hl':(l.take k).length<=12:=by simp;omega
  have b0:=xd5 (g:=x68 f kk) hl' (b:=1300000000000000) (by omega) λy hy=>xbj hA (hin' y hy) kk
  have b1:=xd5 (g:=λx=>x68 f kk x*x.ln) hl' (b:=1300000000000000*63) (by omega) λy hy=>(xbj hA (hin' y hy) kk).mul (hin' y hy).ln
  have b2:=xd5 (g:=λx=>x68 f kk x*x.sm) hl' (b:=1300000000000000*63) (by omega) λy hy=>(xbj hA (hin' y hy) kk).mul (hin' y hy).sm
  have c0:=xbj hA hx kk
  have c1:=c0.mul hx.ln
  have c2:=c0.mul hx.sm
  generalize su (x68 f kk) (l.take k)=S0 at *
  generalize su (λx=>x68 f kk x*x.ln) (l.take k)=S1 at *
  generalize su (λx=>x68 f kk x*x.sm) (l.take k)=S2 at *
  unfold bd at b0 b1 b2 c0 c1 c2
  simp only[xq]
  generalize xq (x59 (d+1)) hs 0 rec2 j=R
  unfold x1z
  have hkc:kk=0\/kk=1:=by omega
  rcases hkc with rfl|rfl
  .have hm:=w_missF d hA hx
   simp only[Aff.c,Mp.c]at hm
   simp only[x68]at *
   simp(disch:=omega) [ha.len x7m,hk',ix,Mp.c,h3,hm,x66]
  .have hm:=w_missT d hA hx
   simp only[Aff.c,Mp.c]at hm
   simp only[x68]at *
   simp(disch:=omega) [ha.len x7m,hk',ix,Mp.c,h3,hm,x66]
end Go.Ix
