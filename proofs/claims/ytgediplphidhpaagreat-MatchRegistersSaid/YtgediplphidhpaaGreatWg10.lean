import Derived.Test.YtgediplphidhpaaGreatWg8
import Derived.Test.YtgediplphidhpaaGreatWg9
import Derived.Test.YtgediplphidhpaaGreatWg6
import Derived.Test.YtgediplphidhpaaGreatWg2
set_option linter.unusedSimpArgs false
set_option linter.unusedVariables false
namespace Go.Ix
open Go.Proofs
attribute [local simp high] rd_5
variable{a:AV}{l:List Mp}
theorem l_rri(call:xnv)(hs:FHs)(u:Nat)(rec0:AV->AV->AV->Mem->Nat->O2)(ha:Pts a l)(hl:l.length<=1000)(hin:xod l){f:Mp}{rest:List AV}(hf:PtIn f)(h0:sIx 5 a (I 0)=some (.plit (I f.ln::I f.sm::rest))){i:Nat}(hi:i<l.length):∀(suf:List Mp) (k j:Nat) (r:Int) (m:Mem) (fc:Nat),l.drop k=suf->suf.length<j ->
 ∃fc',x1c call hs u rec0 j a (I r) (I i) (I k) m fc=x92 call hs u rec0 a (I (rrI f l[i] r suf)) (I i) m fc':=by
 intro suf
 have xi:=ha.ix Mp.len hi
 rw[xp2 hi,x19b]at xi
 have hx:=hin l[i] (x19j hi)
 generalize l[i]=x at *
 have hfl:=hf.ln;have hfs:=hf.sm;have hxl:=hx.ln;have hxs:=hx.sm
 induction suf with
 |nil=>
  intro k j r m fc hd hj
  obtain⟨j,rfl⟩:∃i,j=i+1:=⟨j-1,by simp at hj;omega⟩
  have hk:¬((k:Int)<(l.length:Int)):=by have:=x19k.mp hd;omega
  refine⟨fc+4,?_⟩
  simp only[x1c]
  unfold x95
  simp[ha.len xpb,hk,rrI]
 |cons y s ih=>
  intro k j r m fc hd hj
  obtain⟨j,rfl⟩:∃i,j=i+1:=⟨j-1,by simp at hj;omega⟩
  obtain⟨hk,he,hd⟩:=xpe hd
  have hk':(k:Int)<(l.length:Int):=by omega
  have xk:=ha.ix Mp.len hk
  rw[xp2 hk,x19b,he]at xk
  have hy:=hin y (he▸x19j hk)
  have hyl:=hy.ln;have hys:=hy.sm
  have d1:bd (x.ln-f.ln) 126:=(hxl.sub hfl).mono (by omega)
  have d2:bd (x.sm-f.sm) 126:=(hxs.sub hfs).mono (by omega)
  have d3:bd (y.ln-f.ln) 126:=(hyl.sub hfl).mono (by omega)
  have d4:bd (y.sm-f.sm) 126:=(hys.sub hfs).mono (by omega)
  have e1:=d1.mul d4
  have e2:=d2.mul d3
  have hpr:(x.ln-f.ln)*(y.sm-f.sm)-(x.sm-f.sm)*(y.ln-f.ln)=pr f x y:=rfl
  unfold bd at *
  rw[rrI]
  have key:∃fc',x1c call hs u rec0 (j+1) a (I r) (I i) (I k) m fc=x1c call hs u rec0 j a (I (rrS f x y r)) (I i) (I ((k+1:Nat):Int)) m fc':=by
   simp only[x1c]
   generalize x1c call hs u rec0 j=R
   unfold x95 xg0 xfz x94 x93
   simp(disch:=omega) [ha.len xpb,hk',xi,xk,h0,Mp.c,xnx]
   unfold rrS
   rw[hpr]
   by_cases c1:x.ln-f.ln=0
   .by_cases c2:x.sm-f.sm=0
    .by_cases c3:pr f x y=0
     .refine⟨fc+4+44+6+8+3,?_⟩
      simp[c1,c2]at hpr
      simp(disch:=omega) [c1,c2,c3,xnx]
     .simp[c1,c2]at hpr
      omega
    .by_cases c3:pr f x y=0
     .refine⟨fc+4+44+9+8+3,?_⟩
      rw[<-hpr]at c3
      simp[c1]at c3 hpr
      rw[<-hpr]
      simp(disch:=omega) [c1,c2,c3,xnx]
     .refine⟨fc+4+44+9+9+3,?_⟩
      simp(disch:=omega) [c1,c2,c3,xnx]
   .by_cases c3:pr f x y=0
    .refine⟨fc+4+44+9+8+3,?_⟩
     simp(disch:=omega) [c1,c3,xnx]
    .refine⟨fc+4+44+9+9+3,?_⟩
     simp(disch:=omega) [c1,c3,xnx]
  obtain⟨fc1,h1⟩:=key
  obtain⟨fc2,h2⟩:=ih (k+1) j (rrS f x y r) m fc1 hd (by simp at hj;omega)
  exact⟨fc2,h1.trans h2⟩
theorem l_rro(call:xnv)(hs:FHs)(u:Nat)(ha:Pts a l)(hl:l.length<=1000)(hin:xod l){f:Mp}{rest:List AV}(hf:PtIn f)(h0:sIx 5 a (I 0)=some (.plit (I f.ln::I f.sm::rest))):∀(suf:List Mp) (k j:Nat) (r:Int) (m:Mem) (fc:Nat),l.drop k=suf->suf.length<j ->
 x37 call hs u j a (I r) (I k) m fc=some (I (rrO f l r suf),m):=by
 intro suf
 induction suf with
 |nil=>
  intro k j r m fc hd hj
  obtain⟨j,rfl⟩:∃i,j=i+1:=⟨j-1,by simp at hj;omega⟩
  have hk:¬((k:Int)<(l.length:Int)):=by have:=x19k.mp hd;omega
  simp only[x37]
  unfold x96
  simp[ha.len xpb,hk,rrO,xfy]
 |cons x s ih=>
  intro k j r m fc hd hj
  obtain⟨j,rfl⟩:∃i,j=i+1:=⟨j-1,by simp at hj;omega⟩
  obtain⟨hk,he,hd⟩:=xpe hd
  have hk':(k:Int)<(l.length:Int):=by omega
  simp only[x37]
  unfold x96 xg1
  obtain⟨fc',h'⟩:=l_rri call hs u (x37 call hs u j) ha hl hin hf h0 hk l 0 NN r m (fc+4+1) rfl (by rw[xo8];omega)
  rw[he,show I ((0:Nat):Int)=I 0 from rfl]at h'
  simp only[ha.len xpb,xnz,xou,hk',x19d,xot,h']
  unfold x92
  simp(disch:=omega) [xnx]
  have:=ih (k+1) j (rrI f x r l) m (fc'+3) hd (by simp at hj;omega)
  rw[rrO]
  simpa using this
theorem x13h(d:Nat)(ha:Pts a l)(hl:l.length<=1000)(hin:xod l)(m:Mem):xnu (xnt (d+1)) x1h [a] m=some (I (rkM l),m):=by
 refine xo0 (by simp[ha.still]) ?_ m
 rw[xj4]
 unfold xda x97
 cases l with
 |nil=>
  simp[mem0,ha.len xpb]
  exact RetF.st rfl rfl
 |cons f r=>
  have ix:=ha.ix Mp.len (k:=0) (by simp)
  rw[xp2 (by simp),x19b]at ix
  simp only[List.getElem_cons_zero,Mp.c,x1ad]at ix
  have hf:=hin f (x199 ..)
  have hne:¬((r.length:Int)+1=0):=by omega
  have h':=l_rro (xnt d) [] 0 ha hl hin hf ix (f::r) 0 NN 1 ⟨[],1⟩ (5+1) rfl (by rw[xo8];simp at hl ⊢;omega)
  rw[show I ((0:Nat):Int)=I 0 from rfl]at h'
  simp[mem0,ha.len xpb,hne,xg2,h',rr_rk]
  exact RetF.st rfl rfl
section
variable{f:Aff}
end
attribute [local simp high] rd_5
variable{a:AV}{l:List Mp}
theorem eq_aff(X Y:Operand)(f:Aff):sBin Tryz.prog .eql xu X Y (.agg f.c) (.agg f.c)=some (B true):=by
 obtain⟨n,a0,a1,a2,b0,b1,b2⟩:=f
 have hS:Tryz.prog.underlying xu=some (.struct (Tryz.prog.fieldsOf xu)):=by kernel_rfl
 have hp:Tryz.prog.stoodInHeld xu=false:=by kernel_rfl
 have hF:((Tryz.prog.fieldsOf xu).toList.map λf=>(f.type,f.offset,decide (f.name = "_")))=[(xo4,0,false),(x25,1,false),(x25,4,false)]:=by kernel_rfl
 have u3:Tryz.prog.underlying x25=some (.array 3 xo4):=by kernel_rfl
 have p0:xo1 Tryz.prog (part xo4 #[.int .i64 n,.int .i64 a0,.int .i64 a1,.int .i64 a2,.int .i64 b0,.int .i64 b1,.int .i64 b2] 0)=some (.int .i64 n):=by kernel_rfl
 have p1:xo1 Tryz.prog (part x25 #[.int .i64 n,.int .i64 a0,.int .i64 a1,.int .i64 a2,.int .i64 b0,.int .i64 b1,.int .i64 b2] 1)=some (.agg #[.int .i64 a0,.int .i64 a1,.int .i64 a2]):=by kernel_rfl
 have p2:xo1 Tryz.prog (part x25 #[.int .i64 n,.int .i64 a0,.int .i64 a1,.int .i64 a2,.int .i64 b0,.int .i64 b1,.int .i64 b2] 4)=some (.agg #[.int .i64 b0,.int .i64 b1,.int .i64 b2]):=by kernel_rfl
 have key:xo1 Tryz.prog (Op.equalIn 10000 xu (.agg #[.int .i64 n,.int .i64 a0,.int .i64 a1,.int .i64 a2,.int .i64 b0,.int .i64 b1,.int .i64 b2]) (.agg #[.int .i64 n,.int .i64 a0,.int .i64 a1,.int .i64 a2,.int .i64 b0,.int .i64 b1,.int .i64 b2]))=some true:=by
  rw[show(10000:Nat)=9997+1+1+1 from rfl,x12o _ _ _ _ hS hp]
  generalize (Tryz.prog.fieldsOf xu).toList=fs at hF
  have hl:=congrArg List.length hF
  simp only[x1ab,x19e,x1az]at hl
  match fs,hl with
  |[f0,f1,f2],_=>
   simp only[x19f,x19x,x1b7,x192,and_true,decide_eq_false_iff_not]at hF
   obtain⟨⟨t0,o0,n0⟩,⟨t1,o1,n1⟩,t2,o2,n2⟩:=hF
   have q1:xo1 Tryz.prog (Op.equalIn 9999 x25 (.agg #[.int .i64 a0,.int .i64 a1,.int .i64 a2]) (.agg #[.int .i64 a0,.int .i64 a1,.int .i64 a2]))=_:=eqArr3 u3 9997 a0 a1 a2 a0 a1 a2
   have q2:xo1 Tryz.prog (Op.equalIn 9999 x25 (.agg #[.int .i64 b0,.int .i64 b1,.int .i64 b2]) (.agg #[.int .i64 b0,.int .i64 b1,.int .i64 b2]))=_:=eqArr3 u3 9997 b0 b1 b2 b0 b1 b2
   have q0:xo1 Tryz.prog (Op.equalIn 9999 xo4 (.int .i64 n) (.int .i64 n))=some (n == n):=xvk _ _ _ _ _ _ xvl
   simp only[Op.eqFields,n0,n1,n2,ne_eq,not_false_eq_true,x19o,t0,t1,t2,o0,o1,o2,xpa,p0,p1,p2,xnz,q0,q1,q2]
   simp[xqp,xpa,p1,p2,q1,q2]
 exact x15j (x:=X) (y:=Y) (xs:=[.int .i64 n,.int .i64 a0,.int .i64 a1,.int .i64 a2,.int .i64 b0,.int .i64 b1,.int .i64 b2]) (ys:=[.int .i64 n,.int .i64 a0,.int .i64 a1,.int .i64 a2,.int .i64 b0,.int .i64 b1,.int .i64 b2]) (by kernel_rfl) key _ _ rfl rfl
theorem rkM_le(l:List Mp):0<=rkM l/\rkM l<=3:=by
 cases l with
 |nil=>simp[rkM]
 |cons f r=>rcases rkM_ok f r with ⟨h,-⟩|⟨_,_,_,h,-⟩|⟨_,_,_,_,h,-⟩<;>omega
attribute [local simp high] rd_5
structure AffSm (f:Aff):Prop where
 d0:0<f.den
 d1:f.den<=1000000000000
 l0:bd f.l0 10000000000000
 l1:bd f.l1 10000000000000
 l2:bd f.l2 10000000000000
 s0:bd f.s0 10000000000000
 s1:bd f.s1 10000000000000
 s2:bd f.s2 10000000000000
section
variable{f:Aff}{x:Mp}
theorem AffSm.inn(h:AffSm f):AffIn f:=⟨h.d0,h.d1,h.l0.mono (by omega),h.l1.mono (by omega),h.l2.mono (by omega),h.s0.mono (by omega),h.s1.mono (by omega),h.s2.mono (by omega)⟩
end
variable{a:AV}{l:List Mp}{f:Aff}
end Go.Ix
set_option exponentiation.threshold 3000
namespace Go.Ix
open Go.Proofs Ieee
abbrev Px:=Nat×Nat
def pxE(p:Px):List AV:=[C32 p.1 p.2]
theorem pxL(p:Px):(pxE p).length=1:=rfl
theorem pxS(p:Px):(pxE p).all still1=true:=rfl
def f32E(x:Nat):List AV:=[.sc (.float .f32 x)]
theorem f32L(x:Nat):(f32E x).length=1:=rfl
def prsM:List Nat->List Px
 |x::y::r=>(x,y)::prsM r
 |_=>[]
theorem xqw:Tryz.prog.underlying x1w=some (.slice xd):=by kernel_rfl
theorem u_f32:Tryz.prog.underlying x1s=some (.slice x9):=by kernel_rfl
theorem xq5:xe=[I 0,I 0,nilS]:=by kernel_rfl
theorem z_c64:x8b=[C32 0 0]:=by kernel_rfl
theorem cplx32(x y:Nat):xoi Tryz.prog .complex #[x9,x9] xd [.sc (.float .f32 x),.sc (.float .f32 y)]=some (C32 x y):=by
 have h:xo1 Tryz.prog (biS .complex #[x9,x9] xd [.float .f32 x,.float .f32 y])=some (.complex .f32 x y):=by kernel_rfl
 unfold xoi bi0
 simp only[show xop [AV.sc (.float .f32 x),AV.sc (.float .f32 y)]=some [.float .f32 x,.float .f32 y]from rfl,h]
 rfl
theorem xzr(x y:Nat):(C32 x y).cells=[C32 x y]:=rfl
theorem build_im(L S:Int):xo5 xe [(0,1,I L),(1,1,I S)]=some (.agg [I L,I S,nilS]):=by
 rw[xq5];rfl
def okI(u:Nat):Id->Prop:=λid=>id.1=u/\id.2.2=32
theorem xzs:∀l:List Nat,(prsM l).length<=l.length
 |x::y::r=>by have:=xzs r;simp only[prsM,x19e];omega
 |[x]=>by simp[prsM]
 |[]=>by simp[prsM]
theorem frz_img{objs:Id->Option Ob}{L S:Int}{v v':AV}(h:Go.Ix.frz objs 5 v=some v'):Go.Ix.frz objs deep (.agg [I L,I S,v])=some (.agg [I L,I S,v']):=by
 show([I L,I S,v].mapM (Go.Ix.frz objs 5)).map AV.agg=_
 simp only[x1a9,x1b4,h]
 rfl
theorem l_Image(call:xnv)(hs:FHs)(L S:Int){a:AV}{l:List Nat}(ha:Sl f32E a l)(hl:l.length<=1048576) :
 ∀(n k j:Nat) (v:AV) (acc:List Px) (m:Mem) (fc:Nat),l.length<=k+2*n+1->n<j->acc.length<=k->k<=1048577->acc++prsM (l.drop k)=prsM l ->
 Gk 1 pxE (okI 0) m v acc->m.get (0,0,6)=some (.row [I 0,I 0,nilS] 0 false)->m.get (0,4,7)=some (.row [I L,I S,v] 0 false) ->
 ∃w v' m',x62 call hs 0 j a (.ptr (0,0,6) 0 0) (.ptr (0,4,7) 0 0) (I k) m fc=some (.agg [I L,I S,w],m')/\Go.Ix.frz m'.get deep (.agg [I L,I S,w])=some (.agg [I L,I S,v'])/\Sl pxE v' (prsM l):=by
 intro n
 induction n using Nat.strongRecOn with
 |ind n ih=>
 intro k j v acc m fc hn hj hacc hkb hP hG h6 h7
 obtain⟨j,rfl⟩:∃i,j=i+1:=⟨j-1,by omega⟩
 obtain⟨hv1,hv2⟩:=hG.one
 simp only[x62]
 unfold xfa
 by_cases hk:k+1<l.length
 rotate_left
 .have hk':¬((k:Int)+1<(l.length:Int)):=by omega
  have e0:prsM (l.drop k)=[]:=by
   have h1:(l.drop k).length<=1:=by rw[x1df];omega
   cases h2:l.drop k with
   |nil=>rfl
   |cons x r=>
    rw[h2]at h1
    have:r=[]:=x1c5.mp (by simpa using h1)
    subst this
    rfl
  rw[e0,x1b9]at hP
  subst hP
  have hG2:Gk 1 pxE (okI 0) (m.set (0,0,6) (.row [I L,I S,v] 0 false)) v (prsM l):=hG.frame λid hid=>Mem.get_set_ne (by rintro rfl;exact absurd hid.2 (by decide))
  obtain⟨v',hv',hf⟩:=hG2.frz (k:=3) pxL pxS
  refine⟨v,v',m.set (0,0,6) (.row [I L,I S,v] 0 false),?_,frz_img hf,hv'⟩
  simp(disch:=omega) [ha.len u_f32,hk',xnx,xf9,h7,h6,hv2,sLdP]
 .have hk':(k:Int)+1<(l.length:Int):=by omega
  have i1:=ha.ix f32L (k:=k) (by omega)
  have i2:=ha.ix f32L (k:=k+1) hk
  rw[xp2 (by omega),x19b]at i1
  rw[xp2 hk,x19b]at i2
  have ed:l.drop k=l[k]::l[k+1]::l.drop (k+2):=by rw[xp2 (by omega),xp2 hk]
  rw[ed]at hP
  simp only[prsM]at hP
  obtain⟨v2,m2,hA,hG2,c2,o2,hn2,hfr⟩:=hG.app pxL (by decide) (bytes:=8) (id0:=(0,fc+18,32)) ⟨rfl,rfl⟩ (by unfold xol;omega) (l[k],l[k+1])
  have g6:m2.get (0,0,6)=some (.row [I 0,I 0,nilS] 0 false):=by rw[hfr _ (λh=>absurd h.2 (by decide))];exact h6
  have g7:m2.get (0,4,7)=some (.row [I L,I S,v] 0 false):=by rw[hfr _ (λh=>absurd h.2 (by decide))];exact h7
  obtain⟨w,v',m',e,hf,hS⟩:=ih (n-1) (by omega) (k+2) j v2 (acc++[(l[k],l[k+1])]) (m2.set (0,4,7) (.row [I L,I S,v2] 0 false)) (fc+24) (by omega) (by omega) (by simp;omega) (by omega) (by rw[<-hP];simp)
   (hG2.frame λid hid=>Mem.get_set_ne (by rintro rfl;exact absurd hid.2 (by decide))) (by rw[Mem.get_set_ne (by decide)];exact g6) (by simp)
  refine⟨w,v',m',?_,hf,hS⟩
  rw[<-e]
  have hA':∀(k':AV->Mem->O2),sApp 1 8 (0,fc+18,32) (some ([C32 l[k] l[k+1]],1)) v m k'=k' v2 m2:=hA
  have i2':sIx 1 a (I ((k:Int)+1))=some (.plit (f32E l[k+1]++List.flatMap f32E (List.drop (k+1+1) l))):=by rw[<-i2];rfl
  simp(disch:=omega) [ha.len u_f32,hk',xnx,h7,i1,i2',f32E,cplx32,z_c64]
  rw[xvi (xzr _ _) rfl rfl,show elems m.get 1 (.slit [C32 l[k] l[k+1]] 1 true)=some ([C32 l[k] l[k+1]],1)from rfl,hA']
  simp[g7,o2,c2,tR,xoa,disj]
theorem w_Image(d:Nat)(L S:Int){a:AV}{l:List Nat}(ha:Sl f32E a l)(hl:l.length<=1048576):∃b,Sl pxE b (prsM l)/\∀m,xnu (xnt (d+1)) x3o [I L,I S,a] m=some (.agg [I L,I S,b],m):=by
 obtain⟨w,v',m',e,hf,hS⟩:=l_Image (xnt d) [] L S ha hl (l.length / 2) 0 NN nilS [] ((((⟨[],1⟩:Mem).new (0,0,6) (.row [I 0,I 0,nilS] 0 false)).new (0,4,7) (.row [I 0,I 0,nilS] 0 false)).set (0,4,7) (.row [I L,I S,nilS] 0 false)) 7 (by omega) (by rw[xo8];omega) (by simp) (by omega) rfl Gk.nil (by simp) (by simp)
 refine⟨v',hS,λm=>xo0 (by simp[ha.still]) ?_ m⟩
 rw[xit]
 unfold xcz x8c
 simp[mem0,xq5,xny,build_im,xfb]
 exact⟨_,_,_,e,hf,rfl⟩
theorem x13i(d:Nat)(L S:Int){a:AV}{l:List Nat}(ha:Sl f32E a l)(hl:l.length<=1048576):∃b,Sl pxE b (prsM l)/\∀m,xnu (xnt (d+2)) x2a [.agg [I L,I S,a]] m=some (.agg [I L,I S,b],m):=by
 obtain⟨b,hb,e⟩:=w_Image d L S ha hl
 refine⟨b,hb,λm=>xo0 (by simp[ha.still1]) ?_ m⟩
 rw[xiv]
 unfold xd1 x8e
 simp[mem0,xq5,xny,ha.one,e,hb.one,sLdP]
 exact RetF.st (by simp[hb.still1]) rfl
theorem x13j(d:Nat)(L S:Int){a:AV}{l:List Nat}(ha:Sl f32E a l)(m:Mem):xnu (xnt (d+1)) x29 [.agg [I L,I S,a]] m=some (B (decide (l.length<=200)),m):=by
 refine xo0 (by simp[ha.still1]) ?_ m
 rw[xiu]
 unfold xd0 x8d
 simp[mem0,ha.one,ha.len u_f32]
 refine RetF.st rfl ?_
 by_cases c:l.length<=200
 .have:(l.length:Int)<=200:=by omega
  simp[c,this]
 .have:¬(l.length:Int)<=200:=by omega
  simp[c,this]
def xsf(p:Px):Int:=pE (fcs p.1) (fcs p.2)
def chkS:Nat->List Px->Int×Int
 |_,[]=>(0,0)
 |k,p::r=>if xsf p=0 then chkS (k+1) r else((k:Int),xsf p)
def szE(L S:Int)(n:Nat):Int:=bif wi L 1 64&&wi S 1 64 then(if(n:Int)=L*S then 0 else 10)else 2
def imE(L S:Int)(D:List Px):Int×Int:=if szE L S D.length=0 then chkS 0 D else(0,szE L S D.length)
theorem xxo(d:Nat)(a b c:Int)(m:Mem):xnu (xnt (d+1)) x2z [I a,I b,I c] m=some (B (wi a b c),m):=by
 refine call0 rfl (m':=⟨[],1⟩) ?_ rfl
 rw[xko]
 unfold xet xch wi
 by_cases h:b<=a<;>by_cases h2:a<=c<;>simp[h,h2,mem0]
theorem xw0{L S:Int}(h1:wi L 1 64=true)(h2:wi S 1 64=true):1<=L*S/\L*S<=4096:=by
 have:=wi_t h1
 have:=wi_t h2
 have h3:L*S<=64*64:=x1bh (by omega) (by omega) (by omega) (by omega)
 have h4:1*1<=L*S:=x1bh (by omega) (by omega) (by omega) (by omega)
 omega
theorem w_szErr3(d:Nat)(L S:Int)(n:Nat)(m:Mem):xnu (xnt (d+2)) x4f [I L,I S,I n] m=some (I (szE L S n),m):=by
 refine xo0 rfl ?_ m
 rw[xkf]
 unfold xek xc7 szE
 cases c1:wi L 1 64
 .simp[mem0,xxo,c1];exact RetF.st rfl rfl
 cases c2:wi S 1 64
 .simp[mem0,xxo,c1,c2];exact RetF.st rfl rfl
 have hb:=xw0 c1 c2
 by_cases c3:(n:Int)=L*S
 .simp(disch:=omega) [mem0,xxo,c1,c2,xnx,c3];exact RetF.st rfl rfl
 .simp(disch:=omega) [mem0,xxo,c1,c2,xnx,c3];exact RetF.st rfl rfl
theorem x15s(d:Nat)(L S:Int)(n:Nat)(m:Mem):xnu (xnt (d+2)) x4a [I L,I S,I n] m=some (I (szE L S n),m):=by
 refine xo0 rfl ?_ m
 rw[xk2]
 unfold xe7 xbn szE
 cases c1:wi L 1 64
 .simp[mem0,xpo,c1];exact RetF.st rfl rfl
 cases c2:wi S 1 64
 .simp[mem0,xpo,c1,c2];exact RetF.st rfl rfl
 have hb:=xw0 c1 c2
 by_cases c3:(n:Int)=L*S
 .simp(disch:=omega) [mem0,xpo,c1,c2,xnx,c3];exact RetF.st rfl rfl
 .simp(disch:=omega) [mem0,xpo,c1,c2,xnx,c3];exact RetF.st rfl rfl
variable{a:AV}{D:List Px}{L S:Int}
theorem x15t(d:Nat)(hs:FHs)(u:Nat)(ha:Sl pxE a D)(hl:D.length<=5000):∀(suf:List Px) (k j:Nat) (m:Mem) (fc:Nat),D.drop k=suf->suf.length<j ->
 x5r (xnt (d+4)) hs u j xqi a (I D.length) (I k) m fc=some (.tup [I (chkS k suf).1,I (chkS k suf).2],m):=by
 intro suf
 induction suf with
 |nil=>
  intro k j m fc hd hj
  obtain⟨j,rfl⟩:∃i,j=i+1:=⟨j-1,by simp at hj;omega⟩
  have hk:¬((k:Int)<(D.length:Int)):=by have:=x19k.mp hd;omega
  simp only[x5r]
  unfold xc8
  simp[hk,xht,chkS]
 |cons e r ih=>
  intro k j m fc hd hj
  obtain⟨j,rfl⟩:∃i,j=i+1:=⟨j-1,by simp at hj;omega⟩
  obtain⟨hk,he,hd⟩:=xpe hd
  have hk':(k:Int)<(D.length:Int):=by omega
  have ix:=ha.ix pxL hk
  rw[xp2 hk,x19b,he]at ix
  simp only[x5r]
  unfold xc8
  rw[chkS]
  by_cases c:xsf e=0
  .have h':=ih (k+1) j m (fc+14) hd (by simp at hj;omega)
   have c':pE (fcs e.1) (fcs e.2)=0:=c
   rw[if_pos c,<-h']
   simp(disch:=omega) [hk',ix,pxE,x131,c',xnx]
  .have c':¬pE (fcs e.1) (fcs e.2)=0:=c
   rw[if_neg c]
   simp(disch:=omega) [hk',ix,pxE,x131,c',xnx,xsf]
theorem x15u(d:Nat)(ha:Sl pxE a D)(hl:D.length<=5000)(m:Mem):xnu (xnt (d+6)) x47 [.agg [I L,I S,a]] m=some (.tup [I (imE L S D).1,I (imE L S D).2],m):=by
 have hsE:∀m,xnu (xnt (d+5)) x4g [a,xqi] m=some (.tup [I (chkS 0 D).1,I (chkS 0 D).2],m):=λm=>by
  refine xo0 (by simp[ha.still]) ?_ m
  rw[xkg]
  unfold xel xc9 xhu
  have h':=x15t d [] 0 ha hl D 0 NN ⟨[],1⟩ 5 rfl (by rw[xo8];omega)
  simp[mem0,ha.len xqw]
  rw[show(0:Int)=((0:Nat):Int)from rfl,h']
  exact RetF.tup rfl rfl
 refine xo0 (by simp[ha.still1]) ?_ m
 rw[xjw]
 unfold xe2 xbb
 simp[mem0,ha.one,ha.len xqw,w_szErr3,hsE]
 unfold imE
 by_cases c:szE L S D.length=0
 .simp[c];exact RetF.tup rfl rfl
 .simp[c];exact RetF.tup rfl rfl
theorem x15v(d:Nat)(hs:FHs)(u:Nat)(ha:Sl pxE a D)(hl:D.length<=5000):∀(suf:List Px) (k j:Nat) (m:Mem) (fc:Nat),D.drop k=suf->suf.length<j->m.get (u,0,1)=some (.row [I L,I S,a] 0 false) ->
 x5f (xnt (d+3)) hs u j (.ptr (u,0,1) 0 0) (I k) m fc=some (.tup [I (chkS k suf).1,I (chkS k suf).2],m):=by
 intro suf
 induction suf with
 |nil=>
  intro k j m fc hd hj hg
  obtain⟨j,rfl⟩:∃i,j=i+1:=⟨j-1,by simp at hj;omega⟩
  have hk:¬((k:Int)<(D.length:Int)):=by have:=x19k.mp hd;omega
  simp only[x5f]
  unfold xa7
  simp[hk,hg,ha.len xqw,xh4,chkS]
 |cons e r ih=>
  intro k j m fc hd hj hg
  obtain⟨j,rfl⟩:∃i,j=i+1:=⟨j-1,by simp at hj;omega⟩
  obtain⟨hk,he,hd⟩:=xpe hd
  have hk':(k:Int)<(D.length:Int):=by omega
  have ix:=ha.ix pxL hk
  rw[xp2 hk,x19b,he]at ix
  simp only[x5f]
  unfold xa7
  rw[chkS]
  by_cases c:xsf e=0
  .have h':=ih (k+1) j m (fc+17) hd (by simp at hj;omega) hg
   have c':pE (fcs e.1) (fcs e.2)=0:=c
   rw[if_pos c,<-h']
   simp(disch:=omega) [hk',hg,ha.len xqw,ix,pxE,x132,c',xnx]
  .have c':¬pE (fcs e.1) (fcs e.2)=0:=c
   rw[if_neg c]
   simp(disch:=omega) [hk',hg,ha.len xqw,ix,pxE,x132,c',xnx,xsf]
theorem x15w(d:Nat)(ha:Sl pxE a D)(hl:D.length<=5000)(m:Mem):xnu (xnt (d+4)) x3x [.agg [I L,I S,a]] m=some (.tup [I (imE L S D).1,I (imE L S D).2],m):=by
 refine xo0 (by simp[ha.still1]) ?_ m
 rw[xjh]
 unfold xdn xa8
 simp[mem0,ha.one,ha.len xqw,x15s]
 unfold imE
 by_cases c:szE L S D.length=0
 .have h':=x15v (L:=L) (S:=S) d [] 0 ha hl D 0 NN ((⟨[],1⟩:Mem).new (0,0,1) (.row [I L,I S,a] 0 false)) 15 rfl (by rw[xo8];omega) (by simp)
  simp[c,xh5]
  rw[show(0:Int)=((0:Nat):Int)from rfl,h']
  exact RetF.tup rfl rfl
 .simp[c];exact RetF.tup rfl rfl
theorem x13k(d:Nat)(ha:Sl pxE a D)(hl:D.length<=5000)(m:Mem):xnu (xnt (d+7)) x3t [.agg [I L,I S,a]] m=some (I (imE L S D).2,m):=by
 refine xo0 (by simp[ha.still1]) ?_ m
 rw[xjb]
 unfold xdh x9s
 simp[mem0,ha.one,x15u d ha hl]
 exact RetF.st rfl rfl
theorem x13l(d:Nat)(ha:Sl pxE a D)(hl:D.length<=5000)(m:Mem):xnu (xnt (d+5)) x2h [.agg [I L,I S,a]] m=some (I (imE L S D).2,m):=by
 refine xo0 (by simp[ha.still1]) ?_ m
 rw[xj1]
 unfold xd7 x8w
 simp[mem0,ha.one,x15w d ha hl]
 exact RetF.st rfl rfl
end Go.Ix
set_option maxRecDepth 100000
namespace Go.Proofs.YtgediplphidhpaaGreat
open Go.ChangeShapes Go.WideShapes Go.ChangeAt Go.RowKit Go.Ix
theorem sh_f32{q:List AV}(h:Sh Tryz.prog x9 q):∃x,q=f32E x:=by
 have e:Tryz.prog.underlying x9=some (.float .f32):=by kernel_rfl
 cases h with
 |float h' b wf=>rw[e]at h';cases h';exact⟨b,rfl⟩
 |string h'=>rw[e]at h';cases h'
 |int h'=>rw[e]at h';cases h'
 |nilS h'=>rw[e]at h';cases h'
 |slice h'=>rw[e]at h';cases h'
 |bool h'=>rw[e]at h';cases h'
 |struct h'=>rw[e]at h';cases h'
 |array h'=>rw[e]at h';cases h'
theorem f32s_sh{z:AV}(f:Sh Tryz.prog x1s [z]):∃l,Sl f32E z l:=sl_sh (e:=x9) (by kernel_rfl) (λ_ _ hr=>sh_f32 hr) f
theorem shot_sh{q:List AV}(hq:Sh Tryz.prog x17 q):∃L S b l,q=[I L,I S,b]/\Sl f32E b l:=by
 obtain⟨fs,h1,h2⟩:=fs_of (t:=x17) (l:=[(xo4,0),(xo4,1),(x1s,2)]) (by kernel_rfl)
 obtain⟨hl,hf⟩:=Sh.struct_inv h1 hq
 have hc:Tryz.prog.cellsOf x17=3:=by kernel_rfl
 rw[hc]at hl
 have c1:Tryz.prog.cellsOf xo4=1:=by kernel_rfl
 have c2:Tryz.prog.cellsOf x1s=1:=by kernel_rfl
 match q,hl with
 |[x0,x1,x2],_=>
  have g:∀t o,(t,o)∈[(xo4,0),(xo4,1),(x1s,2)]->Sh Tryz.prog t ((([x0,x1,x2]:List AV).drop o).take (Tryz.prog.cellsOf t)):=by
   intro t o hm
   rw[<-h2]at hm
   obtain⟨f,hf1,hf2⟩:=x1a1.mp hm
   cases hf2
   exact hf f hf1
  have g0:=g xo4 0 (by simp)
  have g1:=g xo4 1 (by simp)
  have g2:=g x1s 2 (by simp)
  rw[c1]at g0 g1
  rw[c2]at g2
  obtain⟨n0,e0⟩:=sh_int g0
  obtain⟨n1,e1⟩:=sh_int g1
  obtain⟨l,hl⟩:=f32s_sh (z:=x2) g2
  simp at e0 e1
  subst e0 e1
  exact⟨n0,n1,x2,l,rfl,hl⟩
theorem two_in3{a:AV}(h:ArgSh Tryz.prog xhz a):∃L S b l L' S' b' l',a=.agg [I L,I S,b,I L',I S',b']/\Sl f32E b l/\Sl f32E b' l':=by
 obtain⟨fs,h1,h2⟩:=fs_of (t:=xhz) (l:=[(x17,0),(x17,3)]) (by kernel_rfl)
 obtain⟨q,rfl,hq⟩:=h.struct h1
 obtain⟨hl,hf⟩:=Sh.struct_inv h1 hq
 have hc:Tryz.prog.cellsOf xhz=6:=by kernel_rfl
 rw[hc]at hl
 have c1:Tryz.prog.cellsOf x17=3:=by kernel_rfl
 match q,hl with
 |[x0,x1,x2,x3,x4,x5],_=>
  have g:∀t o,(t,o)∈[(x17,0),(x17,3)]->Sh Tryz.prog t ((([x0,x1,x2,x3,x4,x5]:List AV).drop o).take (Tryz.prog.cellsOf t)):=by
   intro t o hm
   rw[<-h2]at hm
   obtain⟨f,hf1,hf2⟩:=x1a1.mp hm
   cases hf2
   exact hf f hf1
  have g0:=g x17 0 (by simp)
  have g1:=g x17 3 (by simp)
  rw[c1]at g0 g1
  obtain⟨L,S,b,l,e0,hb⟩:=shot_sh g0
  obtain⟨L',S',b',l',e1,hb'⟩:=shot_sh g1
  simp at e0 e1
  obtain⟨rfl,rfl,rfl⟩:=e0
  obtain⟨rfl,rfl,rfl⟩:=e1
  exact⟨_,_,_,l,_,_,_,l',rfl,hb,hb'⟩
end Go.Proofs.YtgediplphidhpaaGreat
namespace Go.Proofs.YtgediplphidhpaaGreat
open Go.ChangeShapes Go.WideShapes Go.ChangeAt Go.RowKit Go.Ix
theorem tk3_in{a:AV}(h:ArgSh Tryz.prog xcp a):∃x y z u v w,a=.agg [I x,I y,I z,I u,I v,I w]:=by
 obtain⟨fs,h1,-⟩:=fs_of (t:=xcp) (l:=[(xo4,0),(xo4,1),(xo4,2),(xo4,3),(xo4,4),(xo4,5)]) (by kernel_rfl)
 obtain⟨q,rfl,hq⟩:=h.struct h1
 have hl:=(Sh.struct_inv h1 hq).1
 have hc:Tryz.prog.cellsOf xcp=6:=by kernel_rfl
 have hf:=xzb 4 (show xuj Tryz.prog 4 xcp=true by kernel_rfl) hq
 rw[hc]at hl
 match q,hl with
 |[x0,x1,x2,x3,x4,x5],_=>
  obtain⟨n0,rfl⟩:=hf x0 (by simp)
  obtain⟨n1,rfl⟩:=hf x1 (by simp)
  obtain⟨n2,rfl⟩:=hf x2 (by simp)
  obtain⟨n3,rfl⟩:=hf x3 (by simp)
  obtain⟨n4,rfl⟩:=hf x4 (by simp)
  obtain⟨n5,rfl⟩:=hf x5 (by simp)
  exact⟨n0,n1,n2,n3,n4,n5,rfl⟩
end Go.Proofs.YtgediplphidhpaaGreat
