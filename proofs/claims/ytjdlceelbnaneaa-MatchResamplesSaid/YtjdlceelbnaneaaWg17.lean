import Derived.Test.YtjdlceelbnaneaaWg16
import Derived.Test.YtjdlceelbnaneaaWg6
set_option linter.unusedSimpArgs false
set_option linter.unusedVariables false
set_option exponentiation.threshold 3000
namespace Go.Ix
open Go.Proofs Ieee
theorem w_Sample(d:Nat){x y:Int}(hx:bd x 2047)(hy:bd y 2047)(m:Mem):x9v (x9u (d+1)) xu [I x,I y] m=some (sPX (x,y),m):=by
 unfold bd at hx hy
 refine xa1 rfl ?_ m
 rw[x7h]
 unfold x55 x3e
 have h1:¬(10000:Int)<x:=by omega
 have h2:¬(10000:Int)<y:=by omega
 have e1:(if x<10000 then x else 10000)=x:=xns (by omega)
 have e2:(if y<10000 then y else 10000)=y:=xns (by omega)
 have e3:(if x > -10000 then x else -10000)=x:=xns (by omega)
 have e4:(if y > -10000 then y else -10000)=y:=xns (by omega)
 simp only[mem0,sMin_I,sMax_I,xaq,e1,e2,e3,e4,s_if32,cplx32]
 exact RetF.st rfl rfl
theorem xhw(d:Nat)(x:Nat)(m:Mem):x9v (x9u (d+1)) x21 [.sc (.float .f32 x)] m=some (.sc (.int .u32 x),m):=by
 have h:((x9u (d+1) [] x21 [.sc (.float .f32 x)] mem0).bind λq=>Go.Ix.frz q.2.get deep q.1)=some (.sc (.int .u32 x)):=by kernel_rfl
 exact xa1 rfl (xeu h) m
theorem xhx(X Y:Operand)(x y:Nat):sBin Try.prog .neq xi X Y (.sc (.int .u32 x)) (.sc (.int .u32 y))=some (B (!decide (x=y))):=by
 have h:xa0 Try.prog (do eqGuard .neq xi X Y (.int .u32 x) (.int .u32 y);binOp .neq xi (.int .u32 x) (.int .u32 y))=some (.bool (!decide ((x:Int)=y))):=by
  rw[pr_bind]
  have hg:xa0 Try.prog (eqGuard .neq xi X Y (.int .u32 x) (.int .u32 y))=some ():=rfl
  rw[hg]
  have h2:binOp .neq xi (.int .u32 x) (.int .u32 y)=.pure (.bool ((x:Int) != y)):=rfl
  show xa0 Try.prog (binOp .neq xi (.int .u32 x) (.int .u32 y))=_
  rw[h2]
  show some (Value.bool ((x:Int) != y))=_
  congr 2
 refine sBin_0 ?_
 show(xa0 Try.prog (do eqGuard .neq xi X Y (.int .u32 x) (.int .u32 y);binOp .neq xi (.int .u32 x) (.int .u32 y))).map xad=_
 rw[h]
 show some (B (!decide ((x:Int)=y)))=_
 by_cases c:x=y
 .subst c;simp
 .have:¬(x:Int)=y:=by omega
  simp[c,this]
variable{a b:AV}{A B':List Px}
theorem l_Same(d:Nat)(hs:FHs)(u:Nat)(ha:Sl pxE a A)(hb:Sl pxE b B')(hl:A.length=B'.length)(hl2:A.length<=100000):∀(suf suf2:List Px) (k j:Nat) (m:Mem) (fc:Nat),A.drop k=suf->B'.drop k=suf2->suf.length<j ->
 x22 (x9u (d+1)) hs u j a b (I k) m fc=some (B (decide (suf=suf2)),m):=by
 intro suf
 induction suf with
 |nil=>
  intro suf2 k j m fc hd hd2 hj
  obtain⟨j,rfl⟩:∃i,j=i+1:=⟨j-1,by simp at hj;omega⟩
  have hk0:=xph.mp hd
  have hk:¬((k:Int)<(A.length:Int)):=by omega
  have:suf2=[]:=by rw[<-hd2];exact xph.mpr (by omega)
  subst this
  simp only[x22]
  unfold x37
  simp[ha.len xbr,hk,x69]
 |cons p suf ih=>
  intro suf2 k j m fc hd hd2 hj
  obtain⟨j,rfl⟩:∃i,j=i+1:=⟨j-1,by simp at hj;omega⟩
  obtain⟨hk,he,hd⟩:=xdf hd
  have hk':(k:Int)<(A.length:Int):=by omega
  have hkB:k<B'.length:=by omega
  rw[xax hkB]at hd2
  subst hd2
  generalize hq:B'[k]=q
  have ix:=ha.ix pxL hk
  rw[xax hk,xok,he]at ix
  have ix2:=hb.ix pxL hkB
  rw[xax hkB,xok,hq]at ix2
  have h':=ih (B'.drop (k+1)) (k+1) j m (fc+35) hd rfl (by simp at hj;omega)
  have hcons:decide (p::suf=q::B'.drop (k+1))=(decide (p.1=q.1)&&(decide (p.2=q.2)&&decide (suf=B'.drop (k+1)))):=by
   rw[<-Bool.decide_and,<-Bool.decide_and]
   congr 1
   rw[xqh,Prod.ext_iff,and_assoc]
  rw[hcons]
  simp only[x22]
  unfold x37
  simp only[ha.len xbr,xby,hk',xq5,xaq,xcb,ix,ix2,pxE]
  by_cases c1:p.1=q.1
  rotate_left
  .simp(disch:=omega) [xez,xhw,xhx,c1,cAp,tR,mkM,show Nat.blt 0 1=true from rfl]
  by_cases c2:p.2=q.2
  rotate_left
  .simp(disch:=omega) [xez,xg6,xhw,xhx,c1,c2,cAp,tR,mkM,show Nat.blt 0 1=true from rfl,ix,ix2,pxE]
  .simp(disch:=omega) [xez,xg6,xhw,xhx,c1,c2,cAp,tR,mkM,show Nat.blt 0 1=true from rfl,ix,ix2,pxE,xac]
   exact h'
theorem w_Same(d:Nat)(ha:Sl pxE a A)(hb:Sl pxE b B')(hl2:A.length<=100000)(m:Mem):x9v (x9u (d+2)) x1d [a,b] m=some (B (decide (A=B')),m):=by
 refine xa1 (by simp[ha.still,hb.still]) ?_ m
 rw[x7f]
 unfold x53 x38
 by_cases c:A.length=B'.length
 .have h':=l_Same d [] 0 ha hb c hl2 A B' 0 NN ⟨[],1⟩ 7 rfl rfl (by rw[xb6];omega)
  have c':(A.length:Int)=B'.length:=by omega
  simp[mem0,ha.len xbr,hb.len xbr,c',x6a]
  rw[show(0:Int)=((0:Nat):Int)from rfl,h']
  exact RetF.st rfl rfl
 .have c':¬(A.length:Int)=B'.length:=by omega
  have hne:¬A=B':=λe=>c (by rw[e])
  simp[mem0,ha.len xbr,hb.len xbr,c',hne]
  exact RetF.st rfl rfl
theorem xko(d:Nat){L S L' S':Int}(ha:Sl pxE a A)(hb:Sl pxE b B')(hl2:A.length<=100000)(m:Mem):x9v (x9u (d+3)) xv [.agg [I L,I S,a],.agg [I L',I S',b]] m=some (B (decide (L=L')&&(decide (S=S')&&decide (A=B'))),m):=by
 refine xa1 (by simp[ha.still1,hb.still1]) ?_ m
 rw[x7j]
 unfold x57 x3g
 have h:=λm=>w_Same d ha hb hl2 m
 by_cases c1:L=L'
 .by_cases c2:S=S'
  .simp[mem0,ha.one,hb.one,c1,c2,h];exact RetF.st rfl rfl
  .simp[mem0,ha.one,hb.one,c1,c2,h];exact RetF.st rfl rfl
 .simp[mem0,ha.one,hb.one,c1,h];exact RetF.st rfl rfl
end Go.Ix
namespace Go.Ix
open Go.Proofs Ieee
variable{a:AV}{D:List Px}{L S:Int}
theorem el1(objs:Id->Option Ob)(x y:Nat):elems objs 1 (.slit [C32 x y] 1 true)=some ([C32 x y],1):=rfl
theorem xkp(L S:Int):xan [I 0,I 0,nilS] [(0,1,I L),(1,1,I S)]=some (.agg [I L,I S,nilS]):=rfl
theorem sh_bd{t den:Int}(ht:bd t 127000000000000000)(h1:0<den):bd ((32*t+den) / (2*den)) 2100000000000000000:=by
 unfold bd at *
 constructor
 .exact Int.le_ediv_of_mul_le (by omega) (by omega)
 .exact Int.le_of_lt_add_one (Int.ediv_lt_of_lt_mul (by omega) (by omega))
def pxR(L S:Int)(D:List Px)(k:Int)(f:Aff)(l s:Nat):Px:=spx (smpM L S D k (16*l+shL f l s) (16*s+shS f l s))
def rowR(L S:Int)(D:List Px)(k:Int)(f:Aff)(l s n:Nat):List Px:=(List.range' s n).map (pxR L S D k f l)
def allR(L S:Int)(D:List Px)(k:Int)(f:Aff)(rs l n:Nat):List Px:=(List.range' l n).flatMap λl=>rowR L S D k f l 0 rs
theorem rowR_s(L S:Int)(D:List Px)(k:Int)(f:Aff)(l s n:Nat):rowR L S D k f l s (n+1)=pxR L S D k f l s::rowR L S D k f l (s+1) n:=by
 unfold rowR;rw[List.range'_succ,xo7]
theorem allR_s(L S:Int)(D:List Px)(k:Int)(f:Aff)(rs l n:Nat):allR L S D k f rs l (n+1)=rowR L S D k f l 0 rs++allR L S D k f rs (l+1) n:=by
 unfold allR;rw[List.range'_succ,xok]
theorem xhy(L S:Int)(D:List Px)(k:Int)(f:Aff)(l s n:Nat):(rowR L S D k f l s n).length=n:=by
 unfold rowR;simp
theorem xkq(L S:Int)(D:List Px)(k:Int)(f:Aff)(rs:Nat):∀n l:Nat,(allR L S D k f rs l n).length=n*rs
 |0,l=>by simp[allR]
 |n+1,l=>by rw[allR_s,xoz,xhy,xkq L S D k f rs n (l+1),xow];omega
variable{a:AV}{D:List Px}{L S:Int}
def okR(t:Nat):Id->Prop:=λid=>id.1=0/\id.2.2=t
structure RInv (t:Nat) (a:AV) (L S k rl rs:Int) (f:Aff) (v:AV) (acc:List Px) (m:Mem):Prop where
 g2:m.get (0,0,2)=some (.row [I L,I S,a] 0 false)
 g3:m.get (0,1,3)=some (.row ([I k,I rl,I rs]++f.c) 0 false)
 g4:m.get (0,2,4)=some (.row [I 0,I 0,nilS] 0 false)
 g5:m.get (0,8,5)=some (.row [I rl,I rs,v] 0 false)
 gk:Gk 1 pxE (okR t) m v acc
theorem RInv.ends{t:Nat}{k rl rs:Int}{f:Aff}{v:AV}{acc:List Px}{m:Mem}(h:RInv t a L S k rl rs f v acc m)(ht:t≠4):∃v',Go.Ix.frz (m.set (0,2,4) (.row [I rl,I rs,v] 0 false)).get deep (.agg [I rl,I rs,v])=some (.agg [I rl,I rs,v'])/\Sl pxE v' acc:=by
 have hG2:Gk 1 pxE (okR t) (m.set (0,2,4) (.row [I rl,I rs,v] 0 false)) v acc:=h.gk.frame λid hid=>Mem.get_set_ne (by rintro rfl;exact ht hid.2.symm)
 obtain⟨v',hv',hf⟩:=hG2.frz (k:=3) pxL pxS
 exact⟨v',frz_img hf,hv'⟩
section
variable(d:Nat)(hs:FHs)(ha:Sl pxE a D)(hR:RtI L S D){k:Int}(hk:wi k 0 2=true){f:Aff}(hf:AffIn f)
include ha hR hk hf
theorem l_res1(rec0:xbi){rl rs:Nat}(hrl:rl<=64)(hrs:rs<=64)(l:Nat)(hl:l<=63){t15 t16:AV}:∀(n s j:Nat) (v:AV) (acc:List Px) (m:Mem) (fc:Nat),s+n=rs->n<j->acc.length<=64*l+s->RInv 48 a L S k rl rs f v acc m ->
 ∃v' m' fc',x27 (x9u (d+4)) hs 0 rec0 j (.ptr (0,0,2) 0 0) (.ptr (0,1,3) 0 0) (.ptr (0,2,4) 0 0) (.ptr (0,8,5) 0 0) (I l) t15 t16 (I rs) (I s) m fc
  = x49 (x9u (d+4)) hs 0 rec0 (.ptr (0,0,2) 0 0) (.ptr (0,1,3) 0 0) (.ptr (0,2,4) 0 0) (.ptr (0,8,5) 0 0) t15 t16 m' fc'/\RInv 48 a L S k rl rs f v' (acc++rowR L S D k f l s n) m':=by
 intro n
 induction n with
 |zero=>
  intro s j v acc m fc hn hj hacc hI
  obtain⟨j,rfl⟩:∃i,j=i+1:=⟨j-1,by omega⟩
  have hk0:¬((s:Int)<(rs:Int)):=by omega
  refine⟨v,m,fc+1,?_,by simpa[rowR]using hI⟩
  simp only[x27]
  unfold x4a
  simp[hk0]
 |succ n ih=>
  intro s j v acc m fc hn hj hacc hI
  obtain⟨j,rfl⟩:∃i,j=i+1:=⟨j-1,by omega⟩
  have hk0:(s:Int)<(rs:Int):=by omega
  obtain⟨g2,g3,g4,g5,gk⟩:=hI
  have hp:=λm=>w_parts3 (d+1) hf (x:=l) (y:=s) (by unfold bd;omega) (by unfold bd;omega) m
  have b1:bd (shL f l s) 2100000000000000000:=sh_bd (hf.tl (by unfold bd;omega) (by unfold bd;omega)) hf.d0
  have b2:bd (shS f l s) 2100000000000000000:=sh_bd (hf.ts (by unfold bd;omega) (by unfold bd;omega)) hf.d0
  have hsm:=λm=>w_sample d ha hR hk (y:=16*l+shL f l s) (x:=16*s+shS f l s) (by unfold bd at *;omega) (by unfold bd at *;omega) m
  obtain⟨M,hM⟩:∃M:Mem,(m.new (0,fc+9,8) (.row [I 0,I 0] 0 false)).set (0,fc+9,8) (.row [I (shL f l s),I (shS f l s)] 0 false)=M:=⟨_,rfl⟩
  have fr:∀id:Id,id.2.2≠8->M.get id=m.get id:=λid h=>by
   rw[<-hM,Mem.get_set_ne (by rintro rfl;exact h rfl),Mem.get_new_ne (by rintro rfl;exact h rfl)]
  have gk1:Gk 1 pxE (okR 48) M v acc:=gk.frame λid hid=>fr id (by rw[hid.2];decide)
  have e8:M.get (0,fc+9,8)=some (.row [I (shL f l s),I (shS f l s)] 0 false):=by rw[<-hM];simp
  obtain⟨v2,m2,hA,hG2,c2,o2,hn2,hfr⟩:=gk1.app pxL (by decide) (bytes:=8) (id0:=(0,fc+29,48)) ⟨rfl,rfl⟩ (by unfold xa8;omega) (pxR L S D k f l s)
  have hA':∀(k':AV->Mem->O2),sApp 1 8 (0,fc+29,48) (some ([sPX (smpM L S D k (16*l+shL f l s) (16*s+shS f l s))],1)) v M k'=k' v2 m2:=hA
  have fr2:∀id:Id,id.2.2≠8->id.2.2≠48->m2.get id=m.get id:=λid h h'=>by
   rw[hfr _ (λq=>h' q.2),fr id h]
  obtain⟨v',m',fc',e,hI'⟩:=ih (s+1) j v2 (acc++[pxR L S D k f l s]) (m2.set (0,8,5) (.row [I rl,I rs,v2] 0 false)) (fc+34) (by omega) (by omega) (by simp;omega)
   ⟨by rw[Mem.get_set_ne (by decide),fr2 _ (by decide) (by decide)];exact g2,by rw[Mem.get_set_ne (by decide),fr2 _ (by decide) (by decide)];exact g3,by rw[Mem.get_set_ne (by decide),fr2 _ (by decide) (by decide)];exact g4,by simp,hG2.frame λid hid=>Mem.get_set_ne (by rintro rfl;exact absurd hid.2 (by decide))⟩
  refine⟨v',m',fc',?_,by rw[rowR_s];simpa using hI'⟩
  rw[<-e]
  have G2:M.get (0,0,2)=some (.row [I L,I S,a] 0 false):=by rw[fr _ (by decide)];exact g2
  have G3:M.get (0,1,3)=some (.row ([I k,I rl,I rs]++f.c) 0 false):=by rw[fr _ (by decide)];exact g3
  have G5:M.get (0,8,5)=some (.row [I rl,I rs,v] 0 false):=by rw[fr _ (by decide)];exact g5
  have G5':m2.get (0,8,5)=some (.row [I rl,I rs,v] 0 false):=by rw[fr2 _ (by decide) (by decide)];exact g5
  simp only[x27]
  conv=>lhs;unfold x4a
  unfold bd at b1 b2
  simp only[Aff.c]at g3 G3 hp
  simp only[xby,hk0,xq5,xaq,xcb]
  have bs:xan x6t [(0,7,AV.agg [I f.den,I f.l0,I f.l1,I f.l2,I f.s0,I f.s1,I f.s2])]=some (AV.agg [I f.den,I f.l0,I f.l1,I f.l2,I f.s0,I f.s1,I f.s2]):=by rw[z_shift3];rfl
  have e16:∀q:Nat,(q:Int)*16=16*q:=λq=>Int.mul_comm _ _
  simp(disch:=omega) [g3,Aff.c,bs,hp,xg5,e16]
  rw[hM]
  simp(disch:=omega) [G2,G3,G5,g2,g5,e8,sIxA,asI,xep,xac,hsm,z_c64]
  rw[xfy (xht _ _) rfl rfl,el1,hA']
  simp[G5',o2,c2,tR,xap,disj,cAp,mkM,clean,ha.clean1]
theorem l_res0{rl rs:Nat}(hrl:rl<=64)(hrs:rs<=64):∀(n l j:Nat) (v:AV) (acc:List Px) (m:Mem) (fc:Nat),l+n=rl->n<j->acc.length<=64*l->RInv 48 a L S k rl rs f v acc m ->
 ∃v' m' fc',x18 (x9u (d+4)) hs 0 j (.ptr (0,0,2) 0 0) (.ptr (0,1,3) 0 0) (.ptr (0,2,4) 0 0) (.ptr (0,8,5) 0 0) (I rl) (I l) m fc
  = x48 (x9u (d+4)) hs 0 (.ptr (0,2,4) 0 0) (.ptr (0,8,5) 0 0) m' fc'/\RInv 48 a L S k rl rs f v' (acc++allR L S D k f rs l n) m':=by
 intro n
 induction n with
 |zero=>
  intro l j v acc m fc hn hj hacc hI
  obtain⟨j,rfl⟩:∃i,j=i+1:=⟨j-1,by omega⟩
  have hk0:¬((l:Int)<(rl:Int)):=by omega
  refine⟨v,m,fc+1,?_,by simpa[allR]using hI⟩
  simp only[x18]
  unfold x4b
  simp[hk0]
 |succ n ih=>
  intro l j v acc m fc hn hj hacc hI
  obtain⟨j,rfl⟩:∃i,j=i+1:=⟨j-1,by omega⟩
  have hk0:(l:Int)<(rl:Int):=by omega
  obtain⟨v1,m1,fc1,e1,hI1⟩:=l_res1 d hs ha hR hk hf (x18 (x9u (d+4)) hs 0 j) hrl hrs l (by omega) (t15:=I rl) (t16:=I l) rs 0 NN v acc m (fc+1+5) (by omega) (by rw[xb6];omega) (by omega) hI
  have hlen:(acc++rowR L S D k f l 0 rs).length<=64*(l+1):=by rw[xoz,xhy];omega
  obtain⟨v',m',fc',e,hI'⟩:=ih (l+1) j v1 _ m1 (fc1+2) (by omega) (by omega) hlen hI1
  refine⟨v',m',fc',?_,by rw[allR_s,<-xr8];exact hI'⟩
  rw[<-e]
  have g3:=hI.g3
  simp only[x18]
  conv=>lhs;unfold x4b x6u
  simp only[xby,hk0,xq5,xaq,xcb]
  simp only[Aff.c]at g3
  simp[g3]
  rw[show(0:Int)=((0:Nat):Int)from rfl,e1]
  unfold x49
  simp(disch:=omega) [xac]
theorem xmd{rl rs:Nat}(hrl:rl<=64)(hrs:rs<=64):∃b,Sl pxE b (allR L S D k f rs 0 rl)/\∀m,x9v (x9u (d+5)) x1s [.agg [I L,I S,a],.agg ([I k,I rl,I rs]++f.c)] m=some (.agg [I rl,I rs,b],m):=by
 obtain⟨M,hM⟩:∃M:Mem,((((((⟨[],1⟩:Mem).new (0,0,2) (.row [I L,I S,a] 0 false)).new (0,1,3) (.row ([I k,I rl,I rs]++f.c) 0 false)).new (0,2,4) (.row [I 0,I 0,nilS] 0 false)).new (0,8,5) (.row [I 0,I 0,nilS] 0 false)).set (0,8,5) (.row [I rl,I rs,nilS] 0 false))=M:=⟨_,rfl⟩
 have hI:RInv 48 a L S k rl rs f nilS [] M:=⟨by rw[<-hM];simp,by rw[<-hM];simp,by rw[<-hM];simp,by rw[<-hM];simp,Gk.nil⟩
 have g3:=hI.g3
 obtain⟨v',m',fc',e,hI'⟩:=l_res0 d [] ha hR hk hf hrl hrs rl 0 NN nilS [] M 13 (by omega) (by rw[xb6];omega) (by simp) hI
 obtain⟨v2,hfz,hv2⟩:=hI'.ends (by decide)
 rw[xp6]at hv2
 refine⟨v2,hv2,λm=>xa1 (by simp[ha.still1,Aff.c]) ?_ m⟩
 rw[x7y]
 unfold x5m x4c
 simp only[Aff.c,xp5,xp6]at hM g3
 simp[mem0,ha.one,xb7,xaf,xkp,Aff.c]
 rw[hM]
 unfold x6v
 simp[g3]
 rw[show(0:Int)=((0:Nat):Int)from rfl,e]
 unfold x48
 have h4:=hI'.g4
 have h5:=hI'.g5
 have o:=hI'.gk.one
 simp[h4,h5,o.1,o.2,sLdP]
 exact⟨_,_,_,rfl,hfz,rfl⟩
end
end Go.Ix
namespace Go.Ix
open Go.Proofs Ieee
variable{a:AV}{D:List Px}{L S:Int}
section
variable(d:Nat)(hs:FHs)(ha:Sl pxE a D)(hR:RtI L S D){k:Int}(hk:wi k 0 2=true){f:Aff}(hf:AffIn f)
include ha hR hk hf
theorem l_rres1(rec0:xcg){rl rs:Nat}(hrl:rl<=64)(hrs:rs<=64)(l:Nat)(hl:l<=63):∀(n s j:Nat) (v:AV) (acc:List Px) (m:Mem) (fc:Nat),s+n=rs->n<j->acc.length<=64*l+s->RInv 57 a L S k rl rs f v acc m ->
 ∃v' m' fc',x24 (x9u (d+4)) hs 0 rec0 j (.ptr (0,0,2) 0 0) (.ptr (0,1,3) 0 0) (.ptr (0,2,4) 0 0) (.ptr (0,8,5) 0 0) (I l) (I s) m fc
  = x3o (x9u (d+4)) hs 0 rec0 (.ptr (0,0,2) 0 0) (.ptr (0,1,3) 0 0) (.ptr (0,2,4) 0 0) (.ptr (0,8,5) 0 0) (I l) m' fc'/\RInv 57 a L S k rl rs f v' (acc++rowR L S D k f l s n) m':=by
 intro n
 induction n with
 |zero=>
  intro s j v acc m fc hn hj hacc hI
  obtain⟨j,rfl⟩:∃i,j=i+1:=⟨j-1,by omega⟩
  have hk0:¬((s:Int)<(rs:Int)):=by omega
  have g3:=hI.g3
  refine⟨v,m,fc+4,?_,by simpa[rowR]using hI⟩
  simp only[x24]
  unfold x3p
  simp[hk0,g3]
 |succ n ih=>
  intro s j v acc m fc hn hj hacc hI
  obtain⟨j,rfl⟩:∃i,j=i+1:=⟨j-1,by omega⟩
  have hk0:(s:Int)<(rs:Int):=by omega
  obtain⟨g2,g3,g4,g5,gk⟩:=hI
  have hp:=λm=>xlz (d+2) hf (x:=l) (y:=s) (by unfold bd;omega) (by unfold bd;omega) m
  have b1:bd (shL f l s) 2100000000000000000:=sh_bd (hf.tl (by unfold bd;omega) (by unfold bd;omega)) hf.d0
  have b2:bd (shS f l s) 2100000000000000000:=sh_bd (hf.ts (by unfold bd;omega) (by unfold bd;omega)) hf.d0
  have hsm:=λm=>xmc d ha hR hk (y:=16*l+shL f l s) (x:=16*s+shS f l s) (by unfold bd at *;omega) (by unfold bd at *;omega) m
  have hS:∀m,x9v (x9u (d+4)) xu [I (smpM L S D k (16*l+shL f l s) (16*s+shS f l s)).1,I (smpM L S D k (16*l+shL f l s) (16*s+shS f l s)).2] m=some (sPX (smpM L S D k (16*l+shL f l s) (16*s+shS f l s)),m):=λm=>w_Sample (d+3) (rnd_bd _ _) (rnd_bd _ _) m
  obtain⟨M,hM⟩:∃M:Mem,(m.new (0,fc+9,8) (.row [I 0,I 0] 0 false)).set (0,fc+9,8) (.row [I (shL f l s),I (shS f l s)] 0 false)=M:=⟨_,rfl⟩
  have fr:∀id:Id,id.2.2≠8->M.get id=m.get id:=λid h=>by
   rw[<-hM,Mem.get_set_ne (by rintro rfl;exact h rfl),Mem.get_new_ne (by rintro rfl;exact h rfl)]
  have gk1:Gk 1 pxE (okR 57) M v acc:=gk.frame λid hid=>fr id (by rw[hid.2];decide)
  have e8:M.get (0,fc+9,8)=some (.row [I (shL f l s),I (shS f l s)] 0 false):=by rw[<-hM];simp
  obtain⟨v2,m2,hA,hG2,c2,o2,hn2,hfr⟩:=gk1.app pxL (by decide) (bytes:=8) (id0:=(0,fc+37,57)) ⟨rfl,rfl⟩ (by unfold xa8;omega) (pxR L S D k f l s)
  have hA':∀(k':AV->Mem->O2),sApp 1 8 (0,fc+37,57) (some ([sPX (smpM L S D k (16*l+shL f l s) (16*s+shS f l s))],1)) v M k'=k' v2 m2:=hA
  have fr2:∀id:Id,id.2.2≠8->id.2.2≠57->m2.get id=m.get id:=λid h h'=>by
   rw[hfr _ (λq=>h' q.2),fr id h]
  obtain⟨v',m',fc',e,hI'⟩:=ih (s+1) j v2 (acc++[pxR L S D k f l s]) (m2.set (0,8,5) (.row [I rl,I rs,v2] 0 false)) (fc+43) (by omega) (by omega) (by simp;omega)
   ⟨by rw[Mem.get_set_ne (by decide),fr2 _ (by decide) (by decide)];exact g2,by rw[Mem.get_set_ne (by decide),fr2 _ (by decide) (by decide)];exact g3,by rw[Mem.get_set_ne (by decide),fr2 _ (by decide) (by decide)];exact g4,by simp,hG2.frame λid hid=>Mem.get_set_ne (by rintro rfl;exact absurd hid.2 (by decide))⟩
  refine⟨v',m',fc',?_,by rw[rowR_s];simpa using hI'⟩
  rw[<-e]
  have G2:M.get (0,0,2)=some (.row [I L,I S,a] 0 false):=by rw[fr _ (by decide)];exact g2
  have G3:M.get (0,1,3)=some (.row ([I k,I rl,I rs]++f.c) 0 false):=by rw[fr _ (by decide)];exact g3
  have G5:M.get (0,8,5)=some (.row [I rl,I rs,v] 0 false):=by rw[fr _ (by decide)];exact g5
  have G5':m2.get (0,8,5)=some (.row [I rl,I rs,v] 0 false):=by rw[fr2 _ (by decide) (by decide)];exact g5
  simp only[x24]
  conv=>lhs;unfold x3p
  unfold bd at b1 b2
  simp only[Aff.c]at g3 G3 hp
  simp(disch:=omega) [g3,hk0,Aff.c,hp,xg5]
  rw[hM]
  simp(disch:=omega) [G2,G3,G5,g2,g5,e8,sIxA,asI,xep,xac,hsm,z_c64]
  simp only[xpn,xaq]
  simp(disch:=omega) [G2,G3,G5,g2,g5,e8,sIxA,asI,xep,xac,hS,z_c64]
  rw[xfy (xht _ _) rfl rfl,el1,hA']
  simp[G5',o2,c2,tR,xap,disj,cAp,mkM,clean,ha.clean1]
theorem l_rres0{rl rs:Nat}(hrl:rl<=64)(hrs:rs<=64):∀(n l j:Nat) (v:AV) (acc:List Px) (m:Mem) (fc:Nat),l+n=rl->n<j->acc.length<=64*l->RInv 57 a L S k rl rs f v acc m ->
 ∃v' m' fc',x16 (x9u (d+4)) hs 0 j (.ptr (0,0,2) 0 0) (.ptr (0,1,3) 0 0) (.ptr (0,2,4) 0 0) (.ptr (0,8,5) 0 0) (I l) m fc
  = x3n (x9u (d+4)) hs 0 (.ptr (0,2,4) 0 0) (.ptr (0,8,5) 0 0) m' fc'/\RInv 57 a L S k rl rs f v' (acc++allR L S D k f rs l n) m':=by
 intro n
 induction n with
 |zero=>
  intro l j v acc m fc hn hj hacc hI
  obtain⟨j,rfl⟩:∃i,j=i+1:=⟨j-1,by omega⟩
  have hk0:¬((l:Int)<(rl:Int)):=by omega
  have g3:=hI.g3
  refine⟨v,m,fc+4,?_,by simpa[allR]using hI⟩
  simp only[x16]
  unfold x3r
  simp[hk0,g3]
 |succ n ih=>
  intro l j v acc m fc hn hj hacc hI
  obtain⟨j,rfl⟩:∃i,j=i+1:=⟨j-1,by omega⟩
  have hk0:(l:Int)<(rl:Int):=by omega
  obtain⟨v1,m1,fc1,e1,hI1⟩:=l_rres1 d hs ha hR hk hf (x16 (x9u (d+4)) hs 0 j) hrl hrs l (by omega) rs 0 NN v acc m (fc+4+1) (by omega) (by rw[xb6];omega) (by omega) hI
  have hlen:(acc++rowR L S D k f l 0 rs).length<=64*(l+1):=by rw[xoz,xhy];omega
  obtain⟨v',m',fc',e,hI'⟩:=ih (l+1) j v1 _ m1 (fc1+3) (by omega) (by omega) hlen hI1
  refine⟨v',m',fc',?_,by rw[allR_s,<-xr8];exact hI'⟩
  rw[<-e]
  have g3:=hI.g3
  simp only[x16]
  conv=>lhs;unfold x3r x6i
  simp only[Aff.c]at g3
  simp[g3,hk0]
  rw[show(0:Int)=((0:Nat):Int)from rfl,e1]
  unfold x3o
  simp(disch:=omega) [xac]
theorem xme{rl rs:Nat}(hrl:rl<=64)(hrs:rs<=64):∃b,Sl pxE b (allR L S D k f rs 0 rl)/\∀m,x9v (x9u (d+5)) x1j [.agg [I L,I S,a],.agg ([I k,I rl,I rs]++f.c)] m=some (.agg [I rl,I rs,b],m):=by
 obtain⟨M,hM⟩:∃M:Mem,((((((⟨[],1⟩:Mem).new (0,0,2) (.row [I L,I S,a] 0 false)).new (0,1,3) (.row ([I k,I rl,I rs]++f.c) 0 false)).new (0,2,4) (.row [I 0,I 0,nilS] 0 false)).new (0,8,5) (.row [I 0,I 0,nilS] 0 false)).set (0,8,5) (.row [I rl,I rs,nilS] 0 false))=M:=⟨_,rfl⟩
 have hI:RInv 57 a L S k rl rs f nilS [] M:=⟨by rw[<-hM];simp,by rw[<-hM];simp,by rw[<-hM];simp,by rw[<-hM];simp,Gk.nil⟩
 have g3:=hI.g3
 obtain⟨v',m',fc',e,hI'⟩:=l_rres0 d [] ha hR hk hf hrl hrs rl 0 NN nilS [] M 11 (by omega) (by rw[xb6];omega) (by simp) hI
 obtain⟨v2,hfz,hv2⟩:=hI'.ends (by decide)
 rw[xp6]at hv2
 refine⟨v2,hv2,λm=>xa1 (by simp[ha.still1,Aff.c]) ?_ m⟩
 rw[x7n]
 unfold x5b x3s
 simp only[Aff.c,xp5,xp6]at hM g3
 simp[mem0,ha.one,xb7,xaf,xkp,Aff.c]
 rw[hM]
 unfold x6j
 rw[show(0:Int)=((0:Nat):Int)from rfl,e]
 unfold x3n
 have h4:=hI'.g4
 have h5:=hI'.g5
 have o:=hI'.gk.one
 simp[h4,h5,o.1,o.2,sLdP]
 exact⟨_,_,_,rfl,hfz,rfl⟩
end
def rsE(k rl rs:Int)(f:Aff):Int:=bif wi k 0 2 then(bif wi rl 1 64&&wi rs 1 64 then chkA f else 2)else 15
theorem xmf(d:Nat)(k rl rs:Int)(f:Aff)(m:Mem):x9v (x9u (d+3)) x1i [.agg ([I k,I rl,I rs]++f.c)] m=some (I (rsE k rl rs f),m):=by
 refine xa1 (by simp[Aff.c]) ?_ m
 have hc:=λm=>xly d f m
 simp only[Aff.c]at hc
 rw[x7m]
 unfold x5a x3m rsE
 cases c1:wi k 0 2
 .simp[mem0,Aff.c,xg9,c1];exact RetF.st rfl rfl
 cases c2:wi rl 1 64
 .simp[mem0,Aff.c,xg9,c1,xav,c2];exact RetF.st rfl rfl
 cases c3:wi rs 1 64
 .simp[mem0,Aff.c,xg9,c1,xav,c2,c3];exact RetF.st rfl rfl
 simp[mem0,Aff.c,xg9,c1,xav,c2,c3,hc]
 exact RetF.st rfl rfl
def reE(L S:Int)(D:List Px)(k rl rs:Int)(f:Aff):Int:=if(imE L S D).2=0 then rsE k rl rs f else(imE L S D).2
theorem xd3:xan [I 0,I 0,nilS] []=some (.agg [I 0,I 0,nilS]):=rfl
theorem xmg(d:Nat)(ha:Sl pxE a D)(hl:D.length<=5000)(k rl rs:Int)(f:Aff)(he:reE L S D k rl rs f≠0)(m:Mem):x9v (x9u (d+8)) xw [.agg [I L,I S,a],.agg ([I k,I rl,I rs]++f.c)] m=some (.tup [.agg [I 0,I 0,nilS],I (reE L S D k rl rs f)],m):=by
 have ie:=λm=>xkk (L:=L) (S:=S) d ha hl m
 have hc:=λm=>xk6 (d+5) f m
 simp only[Aff.c]at hc
 refine xa1 (by simp[ha.still1,Aff.c]) ?_ m
 rw[x72]
 unfold x2v x2i x3l x15
 unfold reE rsE at he ⊢
 by_cases c:(imE L S D).2=0
 rotate_left
 .simp[mem0,ha.one,Aff.c,xb7,xaf,ie,c,xd3,sLdP]
  exact RetF.tup rfl rfl
 rw[xns c]at he ⊢
 cases c1:wi k 0 2
 .simp[mem0,ha.one,Aff.c,xb7,xaf,ie,c,xd3,sLdP,xf4,c1]
  exact RetF.tup rfl rfl
 cases c2:wi rl 1 64
 .simp[mem0,ha.one,Aff.c,xb7,xaf,ie,c,xd3,sLdP,xf4,c1,xce,c2]
  exact RetF.tup rfl rfl
 cases c3:wi rs 1 64
 .simp[mem0,ha.one,Aff.c,xb7,xaf,ie,c,xd3,sLdP,xf4,c1,xce,c2,c3]
  exact RetF.tup rfl rfl
 have he:chkA f≠0:=by simpa[c1,c2,c3]using he
 simp[mem0,ha.one,Aff.c,xb7,xaf,ie,c,xd3,sLdP,xf4,c1,xce,c2,c3,hc,he]
 exact RetF.tup rfl rfl
theorem xmh(d:Nat)(ha:Sl pxE a D)(hl:D.length<=5000){k:Int}{rl rs:Nat}{f:Aff}(hrl:rl<=64)(hrs:rs<=64)(he:reE L S D k rl rs f=0):∃b,Sl pxE b (allR L S D k f rs 0 rl)/\∀m,x9v (x9u (d+8)) xw [.agg [I L,I S,a],.agg ([I k,I rl,I rs]++f.c)] m=some (.tup [.agg [I rl,I rs,b],I 0],m):=by
 have ie:=λm=>xkk (L:=L) (S:=S) d ha hl m
 have hc:=λm=>xk6 (d+5) f m
 unfold reE at he
 by_cases c:(imE L S D).2=0
 rotate_left
 .rw[xnt c]at he;exact absurd he c
 rw[xns c]at he
 unfold rsE at he
 cases c1:wi k 0 2
 .simp[c1]at he
 cases c2:wi rl 1 64
 .simp[c1,c2]at he
 cases c3:wi rs 1 64
 .simp[c1,c2,c3]at he
 have he:chkA f=0:=by simpa[c1,c2,c3]using he
 obtain⟨b,hb,e⟩:=xmd (d+2) ha (imE_0 c) c1 (chkA_in he) hrl hrs
 refine⟨b,hb,λm=>xa1 (by simp[ha.still1,Aff.c]) ?_ m⟩
 have bsc:xan x6h [(0,3,.agg [I L,I S,a])]=some (.agg [I L,I S,a]):=by
  have:x6h=[I 0,I 0,nilS]:=by kernel_rfl
  rw[this];rfl
 simp only[Aff.c,xp5,xp6]at hc e
 rw[x72]
 unfold x2v x2i x3l x15
 simp[mem0,ha.one,Aff.c,xb7,xaf,ie,c,xd3,sLdP,xf4,c1,xce,c2,c3,hc,he,bsc,e,hb.one]
 exact RetF.tup (by simp[hb.still1]) rfl
theorem law_MatchResamples(L S:Int){l:List Nat}(h0:Sl f32E a l)(k rl rs:Int)(f:Aff):∃m',x9u 31 [] x2b [.agg [I L,I S,a],.agg ([I k,I rl,I rs]++f.c)] mem0=some (B true,m'):=by
 rw[x76]
 unfold x4u x2x
 have hsm:=λm=>w_small3 29 L S h0 m
 by_cases cl:l.length<=200
 rotate_left
 .simp[mem0,h0.one,xev,hsm,cl,Aff.c]
 cases g1:wi rl 13 64
 rotate_left
 .simp[mem0,h0.one,xev,hsm,cl,Aff.c,xav,g1]
 cases g2:wi rs 13 64
 rotate_left
 .simp[mem0,h0.one,xev,hsm,cl,Aff.c,xav,g1,g2]
 obtain⟨b,hb,eb⟩:=w_LImage 28 L S h0 (by omega)
 have hD:=prs_len l
 have ei:=λm=>xm9 (L:=L) (S:=S) 25 hb (by omega) m
 have er:=λm=>xmf 27 k rl rs f m
 by_cases c:reE L S (prsM l) k rl rs f=0
 rotate_left
 .have es:=λm=>xmg (L:=L) (S:=S) 22 hb (by omega) k rl rs f c m
  simp only[Aff.c,xp5,xp6]at er es
  simp[mem0,h0.one,xev,hsm,cl,Aff.c,xav,g1,g2,eb,xb7,hb.one,es,ei,cAp,tR,mkM,show Nat.blt 0 1=true from rfl,xap,disj,h0.clean1,hb.clean1,clean]
  unfold x2w x2d
  have s0:=λm=>xko (a:=nilS) (b:=nilS) (A:=[]) (B':=[]) 27 (L:=0) (S:=0) (L':=0) (S':=0) (Or.inl ⟨rfl,rfl⟩) (Or.inl ⟨rfl,rfl⟩) (by simp) m
  unfold reE at c ⊢
  by_cases c0:(imE L S (prsM l)).2=0
  .rw[xns c0]at c ⊢
   simp[c0,er,c,xd3,xb7,s0]
  .rw[xnt c0]at c ⊢
   simp[c0,xd3,xb7,s0]
 have c0:(imE L S (prsM l)).2=0:=by
  unfold reE at c
  by_cases c0:(imE L S (prsM l)).2=0
  .exact c0
  .rw[xnt c0]at c;exact absurd c c0
 have cr:rsE k rl rs f=0:=by unfold reE at c;rwa[xns c0]at c
 have ck:wi k 0 2=true/\wi rl 1 64=true/\wi rs 1 64=true/\chkA f=0:=by
  unfold rsE at cr
  cases c1:wi k 0 2
  .simp[c1]at cr
  cases c2:wi rl 1 64
  .simp[c1,c2]at cr
  cases c3:wi rs 1 64
  .simp[c1,c2,c3]at cr
  exact⟨rfl,rfl,rfl,by simpa[c1,c2,c3]using cr⟩
 obtain⟨c1,c2,c3,c4⟩:=ck
 have b2:=wi_t c2
 have b3:=wi_t c3
 have n2:¬(13<=rl/\rl<=64):=λh=>by
  have:wi rl 13 64=true:=by unfold wi;simp;omega
  rw[this]at g1;cases g1
 have n3:¬(13<=rs/\rs<=64):=λh=>by
  have:wi rs 13 64=true:=by unfold wi;simp;omega
  rw[this]at g2;cases g2
 obtain⟨p,rfl⟩:∃p:Nat,rl=p:=⟨rl.toNat,by omega⟩
 obtain⟨q,rfl⟩:∃q:Nat,rs=q:=⟨rs.toNat,by omega⟩
 obtain⟨x,hx,ex⟩:=xmh (L:=L) (S:=S) 22 hb (by omega) (k:=k) (rl:=p) (rs:=q) (f:=f) (by omega) (by omega) c
 obtain⟨y,hy,ey⟩:=xme 25 hb (imE_0 c0) c1 (chkA_in c4) (rl:=p) (rs:=q) (by omega) (by omega)
 have s1:=λm=>xko 27 (L:=p) (S:=q) (L':=p) (S':=q) hx hy (by rw[xkq];have:=xre (show p<=12 by omega) (show q<=12 by omega);omega) m
 simp only[Aff.c,xp5,xp6]at er ex ey
 simp[mem0,h0.one,xev,hsm,cl,Aff.c,xav,g1,g2,eb,xb7,hb.one,ex,ei,cAp,tR,mkM,show Nat.blt 0 1=true from rfl,xap,disj,h0.clean1,hb.clean1,clean,hx.one]
 unfold x2w x2d
 simp[c0,er,cr,hb.one,hx.one,ey,s1,cAp,tR,mkM,xap,disj,hb.clean1,clean]
end Go.Ix
