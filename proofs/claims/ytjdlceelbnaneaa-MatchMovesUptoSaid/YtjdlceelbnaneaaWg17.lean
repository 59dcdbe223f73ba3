import Derived.Test.YtjdlceelbnaneaaWg16
import Derived.Test.YtjdlceelbnaneaaWg6
set_option linter.unusedSimpArgs false
set_option linter.unusedVariables false
set_option exponentiation.threshold 3000
namespace Go.Ix
open Go.Proofs Ieee
theorem w_Sample(d:Nat){x y:Int}(hx:bd x 2047)(hy:bd y 2047)(m:Mem):x81 (x80 (d+1)) x10 [I x,I y] m=some (sPX (x,y),m):=by
 unfold bd at hx hy
 refine x8c rfl ?_ m
 rw[x5y]
 unfold x40 x2o
 have h1:¬(10000:Int)<x:=by omega
 have h2:¬(10000:Int)<y:=by omega
 have e1:(if x<10000 then x else 10000)=x:=xlb (by omega)
 have e2:(if y<10000 then y else 10000)=y:=xlb (by omega)
 have e3:(if x > -10000 then x else -10000)=x:=xlb (by omega)
 have e4:(if y > -10000 then y else -10000)=y:=xlb (by omega)
 simp only[mem0,sMin_I,sMax_I,x8x,e1,e2,e3,e4,s_if32,cplx32]
 exact RetF.st rfl rfl
theorem xfs(d:Nat)(x:Nat)(m:Mem):x81 (x80 (d+1)) x1m [.sc (.float .f32 x)] m=some (.sc (.int .u32 x),m):=by
 have h:((x80 (d+1) [] x1m [.sc (.float .f32 x)] mem0).bind λq=>Go.Ix.frz q.2.get deep q.1)=some (.sc (.int .u32 x)):=by kernel_rfl
 exact x8c rfl (retF_e h) m
theorem xft(X Y:Operand)(x y:Nat):sBin Try.prog .neq xd X Y (.sc (.int .u32 x)) (.sc (.int .u32 y))=some (B (!decide (x=y))):=by
 have h:x86 Try.prog (do eqGuard .neq xd X Y (.int .u32 x) (.int .u32 y);binOp .neq xd (.int .u32 x) (.int .u32 y))=some (.bool (!decide ((x:Int)=y))):=by
  rw[pr_bind]
  have hg:x86 Try.prog (eqGuard .neq xd X Y (.int .u32 x) (.int .u32 y))=some ():=rfl
  rw[hg]
  have h2:binOp .neq xd (.int .u32 x) (.int .u32 y)=.pure (.bool ((x:Int) != y)):=rfl
  show x86 Try.prog (binOp .neq xd (.int .u32 x) (.int .u32 y))=_
  rw[h2]
  show some (Value.bool ((x:Int) != y))=_
  congr 2
 refine sBin_0 ?_
 show(x86 Try.prog (do eqGuard .neq xd X Y (.int .u32 x) (.int .u32 y);binOp .neq xd (.int .u32 x) (.int .u32 y))).map x8i=_
 rw[h]
 show some (B (!decide ((x:Int)=y)))=_
 by_cases c:x=y
 .subst c;simp
 .have:¬(x:Int)=y:=by omega
  simp[c,this]
variable{a b:AV}{A B':List Px}
theorem l_Same(d:Nat)(hs:FHs)(u:Nat)(ha:Sl pxE a A)(hb:Sl pxE b B')(hl:A.length=B'.length)(hl2:A.length<=100000):∀(suf suf2:List Px) (k j:Nat) (m:Mem) (fc:Nat),A.drop k=suf->B'.drop k=suf2->suf.length<j ->
 x1n (x80 (d+1)) hs u j a b (I k) m fc=some (B (decide (suf=suf2)),m):=by
 intro suf
 induction suf with
 |nil=>
  intro suf2 k j m fc hd hd2 hj
  obtain⟨j,rfl⟩:∃i,j=i+1:=⟨j-1,by simp at hj;omega⟩
  have hk0:=xnh.mp hd
  have hk:¬((k:Int)<(A.length:Int)):=by omega
  have:suf2=[]:=by rw[<-hd2];exact xnh.mpr (by omega)
  subst this
  simp only[x1n]
  unfold x2m
  simp[ha.len x9b,hk,x50]
 |cons p suf ih=>
  intro suf2 k j m fc hd hd2 hj
  obtain⟨j,rfl⟩:∃i,j=i+1:=⟨j-1,by simp at hj;omega⟩
  obtain⟨hk,he,hd⟩:=xcn hd
  have hk':(k:Int)<(A.length:Int):=by omega
  have hkB:k<B'.length:=by omega
  rw[x93 hkB]at hd2
  subst hd2
  generalize hq:B'[k]=q
  have ix:=ha.ix pxL hk
  rw[x93 hk,xm9,he]at ix
  have ix2:=hb.ix pxL hkB
  rw[x93 hkB,xm9,hq]at ix2
  have h':=ih (B'.drop (k+1)) (k+1) j m (fc+35) hd rfl (by simp at hj;omega)
  have hcons:decide (p::suf=q::B'.drop (k+1))=(decide (p.1=q.1)&&(decide (p.2=q.2)&&decide (suf=B'.drop (k+1)))):=by
   rw[<-Bool.decide_and,<-Bool.decide_and]
   congr 1
   rw[xnx,Prod.ext_iff,and_assoc]
  rw[hcons]
  simp only[x1n]
  unfold x2m
  simp only[ha.len x9b,xae,hk',xoa,x8x,xap,ix,ix2,pxE]
  by_cases c1:p.1=q.1
  rotate_left
  .simp(disch:=omega) [xcv,xfs,xft,c1,cAp,tR,mkM,show Nat.blt 0 1=true from rfl]
  by_cases c2:p.2=q.2
  rotate_left
  .simp(disch:=omega) [xcv,xe0,xfs,xft,c1,c2,cAp,tR,mkM,show Nat.blt 0 1=true from rfl,ix,ix2,pxE]
  .simp(disch:=omega) [xcv,xe0,xfs,xft,c1,c2,cAp,tR,mkM,show Nat.blt 0 1=true from rfl,ix,ix2,pxE,x8h]
   exact h'
theorem w_Same(d:Nat)(ha:Sl pxE a A)(hb:Sl pxE b B')(hl2:A.length<=100000)(m:Mem):x81 (x80 (d+2)) xz [a,b] m=some (B (decide (A=B')),m):=by
 refine x8c (by simp[ha.still,hb.still]) ?_ m
 rw[x5x]
 unfold x3z x2n
 by_cases c:A.length=B'.length
 .have h':=l_Same d [] 0 ha hb c hl2 A B' 0 NN ⟨[],1⟩ 7 rfl rfl (by rw[x9t];omega)
  have c':(A.length:Int)=B'.length:=by omega
  simp[mem0,ha.len x9b,hb.len x9b,c',x51]
  rw[show(0:Int)=((0:Nat):Int)from rfl,h']
  exact RetF.st rfl rfl
 .have c':¬(A.length:Int)=B'.length:=by omega
  have hne:¬A=B':=λe=>c (by rw[e])
  simp[mem0,ha.len x9b,hb.len x9b,c',hne]
  exact RetF.st rfl rfl
theorem xij{n b:Int}(hn:bd n 2047)(h1:1<=b):rnd (b*n) b=n:=by
 have e:(2*(b*n)+b) / (2*b)=n:=by
  have:2*(b*n)+b=b+2*b*n:=by rw[Int.mul_assoc];omega
  rw[this,Int.add_mul_ediv_left _ _ (by omega),Int.ediv_eq_zero_of_lt (by omega) (by omega)]
  omega
 unfold rnd
 unfold bd at hn
 rw[e]
 split<;>split<;>omega
variable{a:AV}{D:List Px}{L S:Int}
theorem smp_whole(hR:RtI L S D){k:Int}(hk:wi k 0 2=true)(p q:Int):smpM L S D k (16*p) (16*q)=atM L S D p q:=by
 have hb:=xar hR p q
 obtain⟨s1,s2,s3,s4,s5,s6⟩:=kS_bd hk
 have e1:16*p % 16=0:=by omega
 have e2:16*q % 16=0:=by omega
 have e3:16*p / 16=p:=by omega
 have e4:16*q / 16=q:=by omega
 have key:smpX L S D k (16*p) (16*q)=kS k*kS k*(atM L S D p q).1/\smpY L S D k (16*p) (16*q)=kS k*kS k*(atM L S D p q).2:=by
  unfold smpX smpY
  rw[e1,e2,e3,e4,kw_0 hk]
  have:=wi_t hk
  have:k=0\/k=1\/k=2:=by omega
  rcases this with rfl|rfl|rfl
  .simp[x9g,rowS,kA,kS]
  .simp[x9g,rowS,kA,kS]
  .simp[x9g,rowS,kA,kS,show p-1+1=p by omega,show q-1+1=q by omega]
 unfold smpM
 rw[key.1,key.2,xij hb.1 s3,xij hb.2 s3]
theorem pxS1(x y:Nat):Sl pxE (.slit [C32 x y] 1 true) [(x,y)]:=Sl.lit (enc:=pxE) [(x,y)] true
theorem mkl{R:Type}(x y:Nat){id:Id}{m:Mem}{k:AV->Mem->Option R}:xa1 x1z [(0,1,C32 x y)] 1 1 id m k=k (.slit [C32 x y] 1 true) m:=by rw[z_c64];exact xdt rfl rfl rfl
theorem el1(objs:Id->Option Ob)(x y:Nat):elems objs 1 (.slit [C32 x y] 1 true)=some ([C32 x y],1):=rfl
theorem build_im0(L S:Int):x8k [I 0,I 0,nilS] [(0,1,I L),(1,1,I S)]=some (.agg [I L,I S,nilS]):=rfl
theorem sh_bd{t den:Int}(ht:bd t 127000000000000000)(h1:0<den):bd ((32*t+den) / (2*den)) 2100000000000000000:=by
 unfold bd at *
 constructor
 .exact Int.le_ediv_of_mul_le (by omega) (by omega)
 .exact Int.le_of_lt_add_one (Int.ediv_lt_of_lt_mul (by omega) (by omega))
def pxR(L S:Int)(D:List Px)(k:Int)(f:Aff)(l s:Nat):Px:=spx (smpM L S D k (16*l+shL f l s) (16*s+shS f l s))
def rowR(L S:Int)(D:List Px)(k:Int)(f:Aff)(l s n:Nat):List Px:=(List.range' s n).map (pxR L S D k f l)
def allR(L S:Int)(D:List Px)(k:Int)(f:Aff)(rs l n:Nat):List Px:=(List.range' l n).flatMap λl=>rowR L S D k f l 0 rs
theorem rowR_s(L S:Int)(D:List Px)(k:Int)(f:Aff)(l s n:Nat):rowR L S D k f l s (n+1)=pxR L S D k f l s::rowR L S D k f l (s+1) n:=by
 unfold rowR;rw[List.range'_succ,xlr]
theorem allR_s(L S:Int)(D:List Px)(k:Int)(f:Aff)(rs l n:Nat):allR L S D k f rs l (n+1)=rowR L S D k f l 0 rs++allR L S D k f rs (l+1) n:=by
 unfold allR;rw[List.range'_succ,xm9]
theorem xd0(L S:Int)(D:List Px)(k:Int)(f:Aff)(l s n:Nat):(rowR L S D k f l s n).length=n:=by
 unfold rowR;simp
theorem xe5(L S:Int)(D:List Px)(k:Int)(f:Aff)(rs:Nat):∀n l:Nat,(allR L S D k f rs l n).length=n*rs
 |0,l=>by simp[allR]
 |n+1,l=>by rw[allR_s,xmo,xd0,xe5 L S D k f rs n (l+1),xmb];omega
variable{a:AV}{D:List Px}{L S:Int}
def okR(t:Nat):Id->Prop:=λid=>id.1=0/\id.2.2=t
structure RInv (t:Nat) (a:AV) (L S k rl rs:Int) (f:Aff) (v:AV) (acc:List Px) (m:Mem):Prop where
 g2:m.get (0,0,2)=some (.row [I L,I S,a] 0 false)
 g3:m.get (0,1,3)=some (.row ([I k,I rl,I rs]++f.c) 0 false)
 g4:m.get (0,2,4)=some (.row [I 0,I 0,nilS] 0 false)
 g5:m.get (0,8,5)=some (.row [I rl,I rs,v] 0 false)
 gk:Gk 1 pxE (okR t) m v acc
theorem RInv.ends{t:Nat}{k rl rs:Int}{f:Aff}{v:AV}{acc:List Px}{m:Mem}(h:RInv t a L S k rl rs f v acc m)(ht:t≠4):∃v',Go.Ix.frz (m.set (0,2,4) (.row [I rl,I rs,v] 0 false)).get deep (.agg [I rl,I rs,v])=some (.agg [I rl,I rs,v'])/\Sl pxE v' acc:=by
 have hG2:Gk 1 pxE (okR t) (m.set (0,2,4) (.row [I rl,I rs,v] 0 false)) v acc:=h.gk.frame λid hid=>Mem.get_set_ne (by rintro rfl;exact ht hid.2.symm)
 obtain⟨v',hv',hf⟩:=hG2.frz (k:=3) pxL pxS
 exact⟨v',frz_img hf,hv'⟩
section
variable(d:Nat)(hs:FHs)(ha:Sl pxE a D)(hR:RtI L S D){k:Int}(hk:wi k 0 2=true){f:Aff}(hf:AffIn f)
include ha hR hk hf
theorem l_res1(rec0:xah){rl rs:Nat}(hrl:rl<=64)(hrs:rs<=64)(l:Nat)(hl:l<=63){t15 t16:AV}:∀(n s j:Nat) (v:AV) (acc:List Px) (m:Mem) (fc:Nat),s+n=rs->n<j->acc.length<=64*l+s->RInv 48 a L S k rl rs f v acc m ->
 ∃v' m' fc',x1s (x80 (d+4)) hs 0 rec0 j (.ptr (0,0,2) 0 0) (.ptr (0,1,3) 0 0) (.ptr (0,2,4) 0 0) (.ptr (0,8,5) 0 0) (I l) t15 t16 (I rs) (I s) m fc
  = x39 (x80 (d+4)) hs 0 rec0 (.ptr (0,0,2) 0 0) (.ptr (0,1,3) 0 0) (.ptr (0,2,4) 0 0) (.ptr (0,8,5) 0 0) t15 t16 m' fc'/\RInv 48 a L S k rl rs f v' (acc++rowR L S D k f l s n) m':=by
 intro n
 induction n with
 |zero=>
  intro s j v acc m fc hn hj hacc hI
  obtain⟨j,rfl⟩:∃i,j=i+1:=⟨j-1,by omega⟩
  have hk0:¬((s:Int)<(rs:Int)):=by omega
  refine⟨v,m,fc+1,?_,by simpa[rowR]using hI⟩
  simp only[x1s]
  unfold x3a
  simp[hk0]
 |succ n ih=>
  intro s j v acc m fc hn hj hacc hI
  obtain⟨j,rfl⟩:∃i,j=i+1:=⟨j-1,by omega⟩
  have hk0:(s:Int)<(rs:Int):=by omega
  obtain⟨g2,g3,g4,g5,gk⟩:=hI
  have hp:=λm=>w_parts3 (d+1) hf (x:=l) (y:=s) (by unfold bd;omega) (by unfold bd;omega) m
  have b1:bd (shL f l s) 2100000000000000000:=sh_bd (hf.tl (by unfold bd;omega) (by unfold bd;omega)) hf.d0
  have b2:bd (shS f l s) 2100000000000000000:=sh_bd (hf.ts (by unfold bd;omega) (by unfold bd;omega)) hf.d0
  have hsm:=λm=>w_sample d ha hR hk (y:=16*l+shL f l s) (x:=16*s+shS f l s) (by unfold bd at *;omega) (by unfold bd at *;omega) m
  obtain⟨M,hM⟩:∃M:Mem,(m.new (0,fc+9,8) (.row [I 0,I 0] 0 false)).set (0,fc+9,8) (.row [I (shL f l s),I (shS f l s)] 0 false)=M:=⟨_,rfl⟩
  have fr:∀id:Id,id.2.2≠8->M.get id=m.get id:=λid h=>by
   rw[<-hM,Mem.get_set_ne (by rintro rfl;exact h rfl),Mem.get_new_ne (by rintro rfl;exact h rfl)]
  have gk1:Gk 1 pxE (okR 48) M v acc:=gk.frame λid hid=>fr id (by rw[hid.2];decide)
  have e8:M.get (0,fc+9,8)=some (.row [I (shL f l s),I (shS f l s)] 0 false):=by rw[<-hM];simp
  obtain⟨v2,m2,hA,hG2,c2,o2,hn2,hfr⟩:=gk1.app pxL (by decide) (bytes:=8) (id0:=(0,fc+29,48)) ⟨rfl,rfl⟩ (by unfold x8b;omega) (pxR L S D k f l s)
  have hA':∀(k':AV->Mem->O2),sApp 1 8 (0,fc+29,48) (some ([sPX (smpM L S D k (16*l+shL f l s) (16*s+shS f l s))],1)) v M k'=k' v2 m2:=hA
  have fr2:∀id:Id,id.2.2≠8->id.2.2≠48->m2.get id=m.get id:=λid h h'=>by
   rw[hfr _ (λq=>h' q.2),fr id h]
  obtain⟨v',m',fc',e,hI'⟩:=ih (s+1) j v2 (acc++[pxR L S D k f l s]) (m2.set (0,8,5) (.row [I rl,I rs,v2] 0 false)) (fc+34) (by omega) (by omega) (by simp;omega)
   ⟨by rw[Mem.get_set_ne (by decide),fr2 _ (by decide) (by decide)];exact g2,by rw[Mem.get_set_ne (by decide),fr2 _ (by decide) (by decide)];exact g3,by rw[Mem.get_set_ne (by decide),fr2 _ (by decide) (by decide)];exact g4,by simp,hG2.frame λid hid=>Mem.get_set_ne (by rintro rfl;exact absurd hid.2 (by decide))⟩
  refine⟨v',m',fc',?_,by rw[rowR_s];simpa using hI'⟩
  rw[<-e]
  have G2:M.get (0,0,2)=some (.row [I L,I S,a] 0 false):=by rw[fr _ (by decide)];exact g2
  have G3:M.get (0,1,3)=some (.row ([I k,I rl,I rs]++f.c) 0 false):=by rw[fr _ (by decide)];exact g3
  have G5:M.get (0,8,5)=some (.row [I rl,I rs,v] 0 false):=by rw[fr _ (by decide)];exact g5
  have G5':m2.get (0,8,5)=some (.row [I rl,I rs,v] 0 false):=by rw[fr2 _ (by decide) (by decide)];exact g5
  simp only[x1s]
  conv=>lhs;unfold x3a
  unfold bd at b1 b2
  simp only[Aff.c]at g3 G3 hp
  simp only[xae,hk0,xoa,x8x,xap]
  have bs:x8k x5g [(0,7,AV.agg [I f.den,I f.l0,I f.l1,I f.l2,I f.s0,I f.s1,I f.s2])]=some (AV.agg [I f.den,I f.l0,I f.l1,I f.l2,I f.s0,I f.s1,I f.s2]):=by rw[z_shift3];rfl
  have e16:∀q:Nat,(q:Int)*16=16*q:=λq=>Int.mul_comm _ _
  simp(disch:=omega) [g3,Aff.c,bs,hp,z_2int,e16]
  rw[hM]
  simp(disch:=omega) [G2,G3,G5,g2,g5,e8,sIxA,asI,build_F,x8h,hsm,z_c64]
  rw[xdt (xif _ _) rfl rfl,el1,hA']
  simp[G5',o2,c2,tR,x8t,disj,cAp,mkM,clean,ha.clean1]
theorem l_res0{rl rs:Nat}(hrl:rl<=64)(hrs:rs<=64):∀(n l j:Nat) (v:AV) (acc:List Px) (m:Mem) (fc:Nat),l+n=rl->n<j->acc.length<=64*l->RInv 48 a L S k rl rs f v acc m ->
 ∃v' m' fc',xu (x80 (d+4)) hs 0 j (.ptr (0,0,2) 0 0) (.ptr (0,1,3) 0 0) (.ptr (0,2,4) 0 0) (.ptr (0,8,5) 0 0) (I rl) (I l) m fc
  = x38 (x80 (d+4)) hs 0 (.ptr (0,2,4) 0 0) (.ptr (0,8,5) 0 0) m' fc'/\RInv 48 a L S k rl rs f v' (acc++allR L S D k f rs l n) m':=by
 intro n
 induction n with
 |zero=>
  intro l j v acc m fc hn hj hacc hI
  obtain⟨j,rfl⟩:∃i,j=i+1:=⟨j-1,by omega⟩
  have hk0:¬((l:Int)<(rl:Int)):=by omega
  refine⟨v,m,fc+1,?_,by simpa[allR]using hI⟩
  simp only[xu]
  unfold x3b
  simp[hk0]
 |succ n ih=>
  intro l j v acc m fc hn hj hacc hI
  obtain⟨j,rfl⟩:∃i,j=i+1:=⟨j-1,by omega⟩
  have hk0:(l:Int)<(rl:Int):=by omega
  obtain⟨v1,m1,fc1,e1,hI1⟩:=l_res1 d hs ha hR hk hf (xu (x80 (d+4)) hs 0 j) hrl hrs l (by omega) (t15:=I rl) (t16:=I l) rs 0 NN v acc m (fc+1+5) (by omega) (by rw[x9t];omega) (by omega) hI
  have hlen:(acc++rowR L S D k f l 0 rs).length<=64*(l+1):=by rw[xmo,xd0];omega
  obtain⟨v',m',fc',e,hI'⟩:=ih (l+1) j v1 _ m1 (fc1+2) (by omega) (by omega) hlen hI1
  refine⟨v',m',fc',?_,by rw[allR_s,<-List.append_assoc];exact hI'⟩
  rw[<-e]
  have g3:=hI.g3
  simp only[xu]
  conv=>lhs;unfold x3b x5h
  simp only[xae,hk0,xoa,x8x,xap]
  simp only[Aff.c]at g3
  simp[g3]
  rw[show(0:Int)=((0:Nat):Int)from rfl,e1]
  unfold x39
  simp(disch:=omega) [x8h]
theorem xk7{rl rs:Nat}(hrl:rl<=64)(hrs:rs<=64):∃b,Sl pxE b (allR L S D k f rs 0 rl)/\∀m,x81 (x80 (d+5)) x1b [.agg [I L,I S,a],.agg ([I k,I rl,I rs]++f.c)] m=some (.agg [I rl,I rs,b],m):=by
 obtain⟨M,hM⟩:∃M:Mem,((((((⟨[],1⟩:Mem).new (0,0,2) (.row [I L,I S,a] 0 false)).new (0,1,3) (.row ([I k,I rl,I rs]++f.c) 0 false)).new (0,2,4) (.row [I 0,I 0,nilS] 0 false)).new (0,8,5) (.row [I 0,I 0,nilS] 0 false)).set (0,8,5) (.row [I rl,I rs,nilS] 0 false))=M:=⟨_,rfl⟩
 have hI:RInv 48 a L S k rl rs f nilS [] M:=⟨by rw[<-hM];simp,by rw[<-hM];simp,by rw[<-hM];simp,by rw[<-hM];simp,Gk.nil⟩
 have g3:=hI.g3
 obtain⟨v',m',fc',e,hI'⟩:=l_res0 d [] ha hR hk hf hrl hrs rl 0 NN nilS [] M 13 (by omega) (by rw[x9t];omega) (by simp) hI
 obtain⟨v2,hfz,hv2⟩:=hI'.ends (by decide)
 rw[xn8]at hv2
 refine⟨v2,hv2,λm=>x8c (by simp[ha.still1,Aff.c]) ?_ m⟩
 rw[x6b]
 unfold x4d x3c
 simp only[Aff.c,xn0,xn8]at hM g3
 simp[mem0,ha.one,xa5,x8u,build_im0,Aff.c]
 rw[hM]
 unfold x5i
 simp[g3]
 rw[show(0:Int)=((0:Nat):Int)from rfl,e]
 unfold x38
 have h4:=hI'.g4
 have h5:=hI'.g5
 have o:=hI'.gk.one
 simp[h4,h5,o.1,o.2,sLdP]
 exact⟨_,_,_,rfl,hfz,rfl⟩
end
end Go.Ix
namespace Go.Ix
open Go.Proofs Ieee
variable{a:AV}{D:List Px}{L S:Int}
section
variable(d:Nat)(hs:FHs)(ha:Sl pxE a D)(hR:RtI L S D){k:Int}(hk:wi k 0 2=true){f:Aff}(hf:AffIn f)
include ha hR hk hf
end
def rsE(k rl rs:Int)(f:Aff):Int:=bif wi k 0 2 then(bif wi rl 1 64&&wi rs 1 64 then chkA f else 2)else 15
def reE(L S:Int)(D:List Px)(k rl rs:Int)(f:Aff):Int:=if(imE L S D).2=0 then rsE k rl rs f else(imE L S D).2
theorem build_i0:x8k [I 0,I 0,nilS] []=some (.agg [I 0,I 0,nilS]):=rfl
theorem xik(d:Nat)(ha:Sl pxE a D)(hl:D.length<=5000){k:Int}{rl rs:Nat}{f:Aff}(hrl:rl<=64)(hrs:rs<=64)(he:reE L S D k rl rs f=0):∃b,Sl pxE b (allR L S D k f rs 0 rl)/\∀m,x81 (x80 (d+8)) xk [.agg [I L,I S,a],.agg ([I k,I rl,I rs]++f.c)] m=some (.tup [.agg [I rl,I rs,b],I 0],m):=by
 have ie:=λm=>xk3 (L:=L) (S:=S) d ha hl m
 have hc:=λm=>xjt (d+5) f m
 unfold reE at he
 by_cases c:(imE L S D).2=0
 rotate_left
 .rw[xlc c]at he;exact absurd he c
 rw[xlb c]at he
 unfold rsE at he
 cases c1:wi k 0 2
 .simp[c1]at he
 cases c2:wi rl 1 64
 .simp[c1,c2]at he
 cases c3:wi rs 1 64
 .simp[c1,c2,c3]at he
 have he:chkA f=0:=by simpa[c1,c2,c3]using he
 obtain⟨b,hb,e⟩:=xk7 (d+2) ha (imE_0 c) c1 (chkA_in he) hrl hrs
 refine⟨b,hb,λm=>x8c (by simp[ha.still1,Aff.c]) ?_ m⟩
 have bsc:x8k x55 [(0,3,.agg [I L,I S,a])]=some (.agg [I L,I S,a]):=by
  have:x55=[I 0,I 0,nilS]:=by kernel_rfl
  rw[this];rfl
 simp only[Aff.c,xn0,xn8]at hc e
 rw[x61]
 unfold x43 x2t x56 x1o
 simp[mem0,ha.one,Aff.c,xa5,x8u,ie,c,build_i0,sLdP,xk5,c1,xbi,c2,c3,hc,he,bsc,e,hb.one]
 exact RetF.tup (by simp[hb.still1]) rfl
end Go.Ix
