import Derived.Test.YtgediplphidhpaaGreatWg14
import Derived.Test.YtgediplphidhpaaGreatWg15
import Derived.Test.YtgediplphidhpaaGreatWg5
import Derived.Test.YtgediplphidhpaaGreatWg1
set_option linter.unusedSimpArgs false
set_option linter.unusedVariables false
set_option exponentiation.threshold 3000
set_option maxRecDepth 10000
namespace Go.Ix
open Go.Proofs
def thM(n e:Int):Int:=n*1000 / e
theorem xw4{n e:Int}(h0:0<=n)(h1:n<=e)(he:0<e):0<=thM n e/\thM n e<=1000:=by
 unfold thM
 refine⟨Int.ediv_nonneg (by omega) (by omega),?_⟩
 have:n*1000 / e<1001:=Int.ediv_lt_of_lt_mul he (by omega)
 omega
theorem thM_nat{n e:Nat}:((n*1000 / e:Nat):Int)=thM n e:=by
 unfold thM
 rw[Int.natCast_ediv,Int.natCast_mul];rfl
theorem cvt_i(q:Nat)(h:q<9223372036854775808):sCvt Tryz.prog x7 xo4 (U6 q)=some (I q):=by
 have hn:xo1 Tryz.prog (convert x7 xo4 (.int .u64 (q:Int)))=some (.int .i64 (IntKind.wrap .i64 (q:Int))):=by kernel_rfl
 unfold sCvt cvt0
 simp only[show xo9 (U6 q)=some (.int .u64 (q:Int))from rfl,show xr2 Tryz.prog x7 xo4 (.int .u64 (q:Int))=none from rfl,hn]
 have e:IntKind.wrap .i64 (q:Int)=(q:Int):=by rw[<-xsu];exact xnx (by omega) (by omega)
 rw[e]
 rfl
theorem w_thou(d:Nat){n e:Int}(h0:0<=n)(h1:n<=e)(he:0<e)(h2:e<9000000000000000000)(m:Mem):xnu (xnt (d+4)) x2n [.agg [I n,I e]] m=some (I (thM n e),m):=by
 obtain⟨N,rfl⟩:∃N:Nat,n=N:=⟨n.toNat,by omega⟩
 obtain⟨E,rfl⟩:∃E:Nat,e=E:=⟨e.toNat,by omega⟩
 have m1:=λm=>x104 (d+2) (x:=N) (y:=1000) (by omega) (by omega) m
 have hdm:=Nat.div_add_mod' (N*1000) 18446744073709551616
 obtain⟨r,hr⟩:=w_Div64 d (hi:=N*1000 / 18446744073709551616) (lo:=N*1000 % 18446744073709551616) (y:=E) (x1aa _ (by omega)) (by omega) (by omega) (by rw[hdm];omega)
 rw[hdm]at hr
 have hq:=thM_nat (n:=N) (e:=E)
 have hb:=xw4 h0 h1 he
 have c1:=xut (n:=(N:Int)) (by omega) (by omega)
 have c2:=xut (n:=(E:Int)) (by omega) (by omega)
 have c3:=cvt_i (N*1000 / E) (by omega)
 rw[hq]at c3
 rw[x1ax]at c1 c2
 refine xo0 rfl ?_ m
 rw[xjd]
 unfold xdj xa0
 rw[show(AV.sc (.int .u64 1000))=U6 1000 from rfl]
 simp[mem0,c1,c2,m1,hr,c3]
 exact RetF.st rfl rfl
theorem cmpI_le{a b:Int}:cmpI a b<=0↔a<=b:=by unfold cmpI;split<;>(try split)<;>omega
theorem cmpI_ge{a b:Int}:0<=cmpI a b↔b<=a:=by unfold cmpI;split<;>(try split)<;>omega
theorem th_le{n e k:Int}(he:0<e):(k+1)*e<=1000*n↔k+1<=thM n e:=by
 unfold thM
 rw[Int.le_ediv_iff_mul_le he,Int.mul_comm 1000]
theorem l_thou(d:Nat){n e:Int}(h0:0<=n)(h1:n<=e)(he:0<e)(h2:e<=1000000000000000000){M:Mem}(g1:M.get (0,0,1)=some (.row [I n,I e] 0 false))(j0:Nat):∀(i k j fc:Nat),k+i=1000->i<j->(k:Int)<=thM n e ->
 x5i (xnt (d+2)) [] 0 j (.ptr (0,0,1) 0 0) (I k) M fc=some (I (thM n e),M):=by
 have hb:=xw4 h0 h1 he
 intro i
 induction i with
 |zero=>
  intro k j fc hk hj hkl
  obtain⟨j,rfl⟩:∃i,j=i+1:=⟨j-1,by omega⟩
  have c1:¬((k:Int)<1000):=by omega
  simp only[x5i]
  unfold xaj xai
  simp[c1]
  omega
 |succ i ih=>
  intro k j fc hk hj hkl
  obtain⟨j,rfl⟩:∃i,j=i+1:=⟨j-1,by omega⟩
  have c1:(k:Int)<1000:=by omega
  have hw:w64 ((k:Int)+1)=(k:Int)+1:=xnx (by omega) (by omega)
  have hc:=λm=>xxw d (n:=(k:Int)+1) (e:=1000) (m:=n) (k:=e) (by omega) (by omega) (by omega) (by omega) m
  simp only[x5i]
  unfold xaj xai
  rw[Int.mul_comm n 1000]at hc
  by_cases c2:(k:Int)+1<=thM n e
  .have c3:cmpI (((k:Int)+1)*e) (1000*n)<=0:=cmpI_le.mpr ((th_le he).mpr c2)
   simp[c1,hw,g1,sIxA,asI,hc,c3]
   rw[show(k:Int)+1=((k+1:Nat):Int) by omega]
   exact ih (k+1) j _ (by omega) (by omega) (by omega)
  .have c3:¬cmpI (((k:Int)+1)*e) (1000*n)<=0:=λh=>c2 ((th_le he).mp (cmpI_le.mp h))
   simp[c1,hw,g1,sIxA,asI,hc,c3]
   omega
theorem w_rthou(d:Nat){n e:Int}(h0:0<=n)(h1:n<=e)(he:0<e)(h2:e<=1000000000000000000)(m:Mem):xnu (xnt (d+3)) x40 [.agg [I n,I e]] m=some (I (thM n e),m):=by
 have hb:=xw4 h0 h1 he
 refine xo0 rfl ?_ m
 rw[xjk]
 unfold xdq xak
 simp only[mem0]
 obtain⟨M,hM⟩:∃M:Mem,((⟨[],1⟩:Mem).new (0,0,1) (.row [I n,I e] 0 false))=M:=⟨_,rfl⟩
 have g1:M.get (0,0,1)=some (.row [I n,I e] 0 false):=by rw[<-hM];simp
 have l:=l_thou d h0 h1 he h2 g1 0 1000 0 NN (0+3) (by omega) (by rw[xo8];omega) (by omega)
 simp
 rw[hM,show(0:Int)=((0:Nat):Int)from rfl,l]
 exact RetF.st rfl rfl
def tkE(a b s r l t:Int):Int:=bif wi a 1 8&&(wi b 1 8&&(wi s 1 64&&(wi r 0 4&&(wi l 0 1000&&wi t 0 8))))then 0 else 2
theorem xtz(d:Nat)(hs:FHs)(a:Int)(m:Mem):xqa (xnt (d+2)) hs 2 (.clo x1p []) [I a] m=some (B (wi a 1 8),⟨m.hp,m.next+1⟩):=by
 show xnt (d+2) hs x1p [I a] m=_
 rw[xkh]
 unfold xem xca
 simp[xqr]
theorem x144(d:Nat)(a b s r l t:Int)(m:Mem):xnu (xnt (d+3)) x48 [.agg [I a,I b,I s,I r,I l,I t]] m=some (I (tkE a b s r l t),m):=by
 refine xo0 rfl ?_ m
 rw[xjz]
 unfold xe5 xbe tkE
 cases c1:wi a 1 8
 .simp[mem0,xtz,xtm,c1];exact RetF.st rfl rfl
 cases c2:wi b 1 8
 .simp[mem0,xtz,xtm,c1,c2];exact RetF.st rfl rfl
 cases c3:wi s 1 64
 .simp[mem0,xtz,xtm,xqr,c1,c2,c3];exact RetF.st rfl rfl
 cases c4:wi r 0 4
 .simp[mem0,xtz,xtm,xqr,c1,c2,c3,c4];exact RetF.st rfl rfl
 cases c5:wi l 0 1000
 .simp[mem0,xtz,xtm,xqr,c1,c2,c3,c4,c5];exact RetF.st rfl rfl
 cases c6:wi t 0 8
 .simp[mem0,xtz,xtm,xqr,c1,c2,c3,c4,c5,c6];exact RetF.st rfl rfl
 .simp[mem0,xtz,xtm,xqr,c1,c2,c3,c4,c5,c6];exact RetF.st rfl rfl
theorem x167(d:Nat)(a b s r l t:Int)(m:Mem):xnu (xnt (d+2)) x3l [.agg [I a,I b,I s,I r,I l,I t]] m=some (I (tkE a b s r l t),m):=by
 refine xo0 rfl ?_ m
 rw[xip]
 unfold xcv x85 tkE
 cases c1:wi a 1 8
 .simp[mem0,xpo,c1];exact RetF.st rfl rfl
 cases c2:wi b 1 8
 .simp[mem0,xpo,c1,c2];exact RetF.st rfl rfl
 cases c3:wi s 1 64
 .simp[mem0,xpo,c1,c2,c3];exact RetF.st rfl rfl
 cases c4:wi r 0 4
 .simp[mem0,xpo,c1,c2,c3,c4];exact RetF.st rfl rfl
 cases c5:wi l 0 1000
 .simp[mem0,xpo,c1,c2,c3,c4,c5];exact RetF.st rfl rfl
 cases c6:wi t 0 8
 .simp[mem0,xpo,c1,c2,c3,c4,c5,c6];exact RetF.st rfl rfl
 .simp[mem0,xpo,c1,c2,c3,c4,c5,c6];exact RetF.st rfl rfl
end Go.Ix
namespace Go.Ix
open Go.Proofs
variable{a b:AV}{D D2:List Px}{L S L2 S2:Int}
def stp(n:Int)(a st:Nat):Nat->Nat->List Nat
 |0,_=>[]
 |f+1,x=>if(x:Int)+a<=n then x::stp n a st f (x+st)else[]
theorem x107{n:Int}{a st:Nat}:∀f x,(stp n a st f x).length<=f
 |0,_=>x196 _
 |f+1,x=>by
  unfold stp
  split
  .have:=x107 (n:=n) (a:=a) (st:=st) f (x+st)
   rw[x19e];omega
  .exact x1c1 _
theorem stp_in{n:Int}{a st:Nat}:∀{f x y},y∈stp n a st f x->(y:Int)+a<=n
 |0,_,_,h=>by cases h
 |f+1,x,y,h=>by
  unfold stp at h
  split at h
  .rename_i c
   rcases x19a.mp h with rfl|h
   .exact c
   .exact stp_in h
  .cases h
def xqy(L S:Int)(z w st:Nat):Nat->Nat->List (Nat×Nat)
 |0,_=>[]
 |f+1,x=>if(x:Int)+z<=L then(stp S w st 65 0).map (λy=>(x,y))++xqy L S z w st f (x+st)else[]
def xos(L S:Int)(z w st:Nat):List (Nat×Nat):=xqy L S z w st 65 0
theorem xxz{L S:Int}{z w st:Nat}:∀{f x q},q∈xqy L S z w st f x->(q.1:Int)+z<=L/\(q.2:Int)+w<=S
 |0,_,_,h=>by cases h
 |f+1,x,q,h=>by
  unfold xqy at h
  split at h
  .rename_i c
   rcases x1ae.mp h with h|h
   .obtain⟨y,hy,rfl⟩:=x1a1.mp h
    exact⟨c,stp_in hy⟩
   .exact xxz h
  .cases h
def wnE(z w:Nat)(q:Nat×Nat):List AV:=[I q.1,I q.2,I z,I w]
theorem wnL(z w:Nat)(q:Nat×Nat):(wnE z w q).length=4:=rfl
theorem wnS(z w:Nat)(q:Nat×Nat):(wnE z w q).all still1=true:=rfl
theorem x145{z0 z1 z2 z3:AV}{x y z w:Int}{id:Id}{m:Mem}{k:AV->Mem->O2}:xp1 [z0,z1,z2,z3] [(0,4,.agg [I x,I y,I z,I w])] 1 4 id m k=k (.slit [I x,I y,I z,I w] 1 true) m:=by
 simp[xp1,xq9,xp4,x1cw]
theorem el_w4(objs:Id->Option Ob)(x y z w:AV):elems objs 4 (.slit [x,y,z,w] 1 true)=some ([x,y,z,w],1):=rfl
theorem xy0{z0 z1 z2 z3 z4:AV}{x y z w v:Int}{id:Id}{m:Mem}{k:AV->Mem->O2}:xp1 [z0,z1,z2,z3,z4] [(0,5,.agg [I x,I y,I z,I w,I v])] 1 5 id m k=k (.slit [I x,I y,I z,I w,I v] 1 true) m:=by
 simp[xp1,xq9,xp4,x1cw]
theorem el_p5(objs:Id->Option Ob)(x y z w v:AV):elems objs 5 (.slit [x,y,z,w,v] 1 true)=some ([x,y,z,w,v],1):=rfl
theorem x146(x y z w:Int):xo5 [I 0,I 0,I 0,I 0] [(0,1,I x),(1,1,I y),(2,1,I z),(3,1,I w)]=some (.agg [I x,I y,I z,I w]):=rfl
theorem xuu:Tryz.prog.underlying x19=some (.slice xi0):=by kernel_rfl
structure TInv (tag:Nat) (pr tk:List AV) (z w:Nat) (v:AV) (acc:List (Nat×Nat)) (m:Mem):Prop where
 g2:m.get (0,0,2)=some (.row pr 0 false)
 g3:m.get (0,1,3)=some (.row tk 0 false)
 gk:Gk 4 (wnE z w) (okR tag) m v acc
 nx:m.next=1
section
variable(call:xnv)(hs:FHs){z w st:Nat}(hz:1<=z/\z<=8)(hw:1<=w/\w<=8)(hst:1<=st/\st<=64)(hL:1<=L/\L<=64)(hS:1<=S/\S<=64){r l t:Int}
include hw hst hS
theorem l_rwin1(rec0:xo6)(x:Nat)(hx:x<=64):∀(f y j:Nat) (v:AV) (acc:List (Nat×Nat)) (m:Mem) (fc:Nat),65<=f+y->f<j->y<=128->acc.length+f<=65*x+65->TInv 42 [I L,I S,a,I L2,I S2,b] [I z,I w,I st,I r,I l,I t] z w v acc m ->
 ∃v' m' fc',x3e call hs 0 rec0 j (.ptr (0,0,2) 0 0) (.ptr (0,1,3) 0 0) v (I x) (I y) m fc
  = xa9 call hs 0 rec0 (.ptr (0,0,2) 0 0) (.ptr (0,1,3) 0 0) v' (I x) m' fc'/\TInv 42 [I L,I S,a,I L2,I S2,b] [I z,I w,I st,I r,I l,I t] z w v' (acc++(stp S w st f y).map (λy=>(x,y))) m':=by
 intro f
 induction f with
 |zero=>
  intro y j v acc m fc hf hj hy hacc hI
  obtain⟨j,rfl⟩:∃i,j=i+1:=⟨j-1,by omega⟩
  have g2:=hI.g2
  have g3:=hI.g3
  have hw':w64 ((y:Int)+w)=(y:Int)+w:=xnx (by omega) (by omega)
  have c:¬((y:Int)+w<=S):=by omega
  refine⟨v,m,fc+8,?_,by simpa[stp]using hI⟩
  simp only[x3e]
  unfold x73
  simp[g2,g3,hw',c]
 |succ f ih=>
  intro y j v acc m fc hf hj hy hacc hI
  obtain⟨j,rfl⟩:∃i,j=i+1:=⟨j-1,by omega⟩
  obtain⟨g2,g3,gk,nx⟩:=hI
  have hw':w64 ((y:Int)+w)=(y:Int)+w:=xnx (by omega) (by omega)
  have hw2:w64 ((y:Int)+st)=((y+st:Nat):Int):=by rw[xnx (by omega) (by omega)];omega
  unfold stp
  by_cases c:(y:Int)+w<=S
  rotate_left
  .refine⟨v,m,fc+8,?_,by rw[if_neg c];simpa using(⟨g2,g3,gk,nx⟩:TInv 42 _ _ z w v acc m)⟩
   simp only[x3e]
   unfold x73
   simp[g2,g3,hw',c]
  rw[if_pos c,x19f]
  obtain⟨v2,m2,hA,hG2,c2,o2,hn2,hfr⟩:=gk.app (wnL z w) (by decide) (bytes:=32) (id0:=(0,fc+17,42)) ⟨rfl,rfl⟩ (by unfold xol;omega) (x,y)
  have hA':∀(k':AV->Mem->O2),sApp 4 32 (0,fc+17,42) (some ([I x,I y,I z,I w],1)) v m k'=k' v2 m2:=hA
  have fr2:∀id:Id,id.2.2≠42->m2.get id=m.get id:=λid h'=>hfr _ (λq=>h' q.2)
  have G2:m2.get (0,0,2)=_:=(fr2 _ (by decide)).trans g2
  have G3:m2.get (0,1,3)=_:=(fr2 _ (by decide)).trans g3
  obtain⟨v',m',fc',e,hI'⟩:=ih (y+st) j v2 (acc++[(x,y)]) m2 (fc+24) (by omega) (by omega) (by omega) (by rw[x1a2];simp;omega) ⟨G2,G3,hG2,by omega⟩
  refine⟨v',m',fc',?_,by simpa using hI'⟩
  rw[<-e]
  simp only[x3e]
  conv=>lhs;unfold x73
  simp[g2,g3,hw',c,xrw,x146]
  rw[x145,el_w4,hA']
  simp[G3,hw2]
include hz hL
theorem l_rwin0:∀(f x j:Nat) (v:AV) (acc:List (Nat×Nat)) (m:Mem) (fc:Nat),65<=f+x->f<j->x<=128->acc.length<=65*x->TInv 42 [I L,I S,a,I L2,I S2,b] [I z,I w,I st,I r,I l,I t] z w v acc m ->
 ∃v' m' fc',x20 call hs 0 j (.ptr (0,0,2) 0 0) (.ptr (0,1,3) 0 0) v (I x) m fc
  = x72 call hs 0 v' m' fc'/\TInv 42 [I L,I S,a,I L2,I S2,b] [I z,I w,I st,I r,I l,I t] z w v' (acc++xqy L S z w st f x) m':=by
 intro f
 induction f with
 |zero=>
  intro x j v acc m fc hf hj hx hacc hI
  obtain⟨j,rfl⟩:∃i,j=i+1:=⟨j-1,by omega⟩
  have g2:=hI.g2
  have g3:=hI.g3
  have hw':w64 ((x:Int)+z)=(x:Int)+z:=xnx (by omega) (by omega)
  have c:¬((x:Int)+z<=L):=by omega
  refine⟨v,m,fc+8,?_,by simpa[xqy]using hI⟩
  simp only[x20]
  unfold x74
  simp[g2,g3,hw',c]
 |succ f ih=>
  intro x j v acc m fc hf hj hx hacc hI
  obtain⟨j,rfl⟩:∃i,j=i+1:=⟨j-1,by omega⟩
  have g2:=hI.g2
  have g3:=hI.g3
  have hw':w64 ((x:Int)+z)=(x:Int)+z:=xnx (by omega) (by omega)
  have hw2:w64 ((x:Int)+st)=((x+st:Nat):Int):=by rw[xnx (by omega) (by omega)];omega
  unfold xqy
  by_cases c:(x:Int)+z<=L
  rotate_left
  .refine⟨v,m,fc+8,?_,by rw[if_neg c];simpa using hI⟩
   simp only[x20]
   unfold x74
   simp[g2,g3,hw',c]
  rw[if_pos c]
  obtain⟨v1,m1,fc1,e1,hI1⟩:=l_rwin1 call hs hw hst hS (x20 call hs 0 j) x (by omega) 65 0 NN v acc m (fc+8+1) (by omega) (by rw[xo8];omega) (by omega) (by omega) hI
  have hsl:=x107 (n:=S) (a:=w) (st:=st) 65 0
  have h65:65*(x+1)<=65*(x+st):=x1a3 (x196 _) (by omega)
  obtain⟨v',m',fc',e,hI'⟩:=ih (x+st) j v1 _ m1 (fc1+5) (by omega) (by omega) (by omega) (by rw[x1a2,x1ab];omega) hI1
  refine⟨v',m',fc',?_,by simpa[x1ao]using hI'⟩
  rw[<-e]
  have g31:=hI1.g3
  simp only[x20]
  conv=>lhs;unfold x74 xh6
  simp[g2,g3,hw',c]
  rw[show(0:Int)=((0:Nat):Int)from rfl,e1]
  unfold xa9
  simp[g31,hw2]
end
theorem x168(d:Nat){z w st:Nat}(hz:1<=z/\z<=8)(hw:1<=w/\w<=8)(hst:1<=st/\st<=64)(ha:Sl pxE a D)(hR:RtI L S D)(hb:Sl pxE b D2)(r l t:Int):∃x,Sl (wnE z w) x (if 30<(xos L S z w st).length then[]else xos L S z w st) /\
 ∀m,xnu (xnt (d+1)) x3y [.agg [I L,I S,a,I L2,I S2,b],.agg [I z,I w,I st,I r,I l,I t]] m=some (.tup [x,I (if 30<(xos L S z w st).length then 8 else 0)],m):=by
 have hL:=wi_t hR.l
 have hS:=wi_t hR.s
 obtain⟨M,hM⟩:∃M:Mem,((⟨[],1⟩:Mem).new (0,0,2) (.row [I L,I S,a,I L2,I S2,b] 0 false)).new (0,1,3) (.row [I z,I w,I st,I r,I l,I t] 0 false)=M:=⟨_,rfl⟩
 have hI:TInv 42 [I L,I S,a,I L2,I S2,b] [I z,I w,I st,I r,I l,I t] z w nilS [] M:=⟨by rw[<-hM];simp,by rw[<-hM];simp,Gk.nil,by rw[<-hM];rfl⟩
 obtain⟨v',m',fc',e,hI'⟩:=l_rwin0 (xnt d) [] hz hw hst (by omega) (by omega) 65 0 NN nilS [] M 6 (by omega) (by rw[xo8];omega) (by omega) (by simp) hI
 rw[x19r,show xqy L S z w st 65 0=xos L S z w st from rfl]at hI'
 have hln:=hI'.gk.len xuu
 by_cases c:30<(xos L S z w st).length
 .rw[if_pos c,if_pos c]
  refine⟨nilS,Or.inl ⟨rfl,rfl⟩,λm=>xo0 (by simp[ha.still1,hb.still1]) ?_ m⟩
  have c':(30:Int)<((xos L S z w st).length:Int):=by omega
  rw[xi7]
  unfold x7w x75 xaa
  simp[mem0,ha.one,hb.one]
  rw[hM,show(0:Int)=((0:Nat):Int)from rfl,e]
  unfold x72
  simp[hln,c']
  exact RetF.tup rfl rfl
 .rw[if_neg c,if_neg c]
  obtain⟨x,hx,hfz⟩:=hI'.gk.frz (k:=3) (wnL z w) (wnS z w)
  refine⟨x,hx,λm=>xo0 (by simp[ha.still1,hb.still1]) ?_ m⟩
  have c':¬((30:Int)<((xos L S z w st).length:Int)):=by omega
  rw[xi7]
  unfold x7w x75 xaa
  simp[mem0,ha.one,hb.one]
  rw[hM,show(0:Int)=((0:Nat):Int)from rfl,e]
  unfold x72
  simp[hln,c']
  exact RetF.mk (xx4 hfz rfl) rfl
end Go.Ix
namespace Go.Ix
open Go.Proofs
variable{a b:AV}{D D2:List Px}{L S L2 S2:Int}
structure PIv (pr tk:List AV) (z w:Nat) (v:AV) (acc:List (Nat×Nat)) (m:Mem):Prop where
 g2:m.get (0,0,2)=some (.row pr 0 false)
 g3:m.get (0,1,3)=some (.row tk 0 false)
 g4:m.get (0,2,4)=some (.row [I 0,I 0,nilS,I 0,I 0,nilS] 0 false)
 g7:m.get (0,10,7)=some (.row pr 0 false)
 gk:Gk 4 (wnE z w) (okR 61) m v acc
 nx:m.next=1
section
variable(call:xnv)(hs:FHs){z w st:Nat}(hz:1<=z/\z<=8)(hw:1<=w/\w<=8)(hst:1<=st/\st<=64)(hL:1<=L/\L<=64)(hS:1<=S/\S<=64){r l t:Int}
include hw hst hS
theorem l_pwin1(rec0:xoe)(x:Nat)(hx:x<=64):∀(f y j:Nat) (v:AV) (acc:List (Nat×Nat)) (m:Mem) (fc:Nat),65<=f+y->f<j->y<=128->acc.length+f<=65*x+65->PIv [I L,I S,a,I L2,I S2,b] [I z,I w,I st,I r,I l,I t] z w v acc m ->
 ∃v' m' fc',x3c call hs 0 rec0 j (.ptr (0,0,2) 0 0) (.ptr (0,1,3) 0 0) (.ptr (0,2,4) 0 0) (.ptr (0,10,7) 0 0) v (I x) (I y) m fc
  = x9y call hs 0 rec0 (.ptr (0,0,2) 0 0) (.ptr (0,1,3) 0 0) (.ptr (0,2,4) 0 0) (.ptr (0,10,7) 0 0) v' (I x) m' fc'/\PIv [I L,I S,a,I L2,I S2,b] [I z,I w,I st,I r,I l,I t] z w v' (acc++(stp S w st f y).map (λy=>(x,y))) m':=by
 intro f
 induction f with
 |zero=>
  intro y j v acc m fc hf hj hy hacc hI
  obtain⟨j,rfl⟩:∃i,j=i+1:=⟨j-1,by omega⟩
  have g2:=hI.g2
  have g3:=hI.g3
  have hw':w64 ((y:Int)+w)=(y:Int)+w:=xnx (by omega) (by omega)
  have c:¬((y:Int)+w<=S):=by omega
  refine⟨v,m,fc+8,?_,by simpa[stp]using hI⟩
  simp only[x3c]
  unfold x6y
  simp[g2,g3,hw',c]
 |succ f ih=>
  intro y j v acc m fc hf hj hy hacc hI
  obtain⟨j,rfl⟩:∃i,j=i+1:=⟨j-1,by omega⟩
  obtain⟨g2,g3,g4,g7,gk,nx⟩:=hI
  have hw':w64 ((y:Int)+w)=(y:Int)+w:=xnx (by omega) (by omega)
  have hw2:w64 ((y:Int)+st)=((y+st:Nat):Int):=by rw[xnx (by omega) (by omega)];omega
  unfold stp
  by_cases c:(y:Int)+w<=S
  rotate_left
  .refine⟨v,m,fc+8,?_,by rw[if_neg c];simpa using(⟨g2,g3,g4,g7,gk,nx⟩:PIv _ _ z w v acc m)⟩
   simp only[x3c]
   unfold x6y
   simp[g2,g3,hw',c]
  rw[if_pos c,x19f]
  obtain⟨v2,m2,hA,hG2,c2,o2,hn2,hfr⟩:=gk.app (wnL z w) (by decide) (bytes:=32) (id0:=(0,fc+17,61)) ⟨rfl,rfl⟩ (by unfold xol;omega) (x,y)
  have hA':∀(k':AV->Mem->O2),sApp 4 32 (0,fc+17,61) (some ([I x,I y,I z,I w],1)) v m k'=k' v2 m2:=hA
  have fr2:∀id:Id,id.2.2≠61->m2.get id=m.get id:=λid h'=>hfr _ (λq=>h' q.2)
  have G2:m2.get (0,0,2)=_:=(fr2 _ (by decide)).trans g2
  have G3:m2.get (0,1,3)=_:=(fr2 _ (by decide)).trans g3
  have G4:m2.get (0,2,4)=_:=(fr2 _ (by decide)).trans g4
  have G7:m2.get (0,10,7)=_:=(fr2 _ (by decide)).trans g7
  obtain⟨v',m',fc',e,hI'⟩:=ih (y+st) j v2 (acc++[(x,y)]) m2 (fc+24) (by omega) (by omega) (by omega) (by rw[x1a2];simp;omega) ⟨G2,G3,G4,G7,hG2,by omega⟩
  refine⟨v',m',fc',?_,by simpa using hI'⟩
  rw[<-e]
  simp only[x3c]
  conv=>lhs;unfold x6y
  simp[g2,g3,hw',c,xrw,x146]
  rw[x145,el_w4,hA']
  simp[G3,hw2]
include hz hL
theorem l_pwin0:∀(f x j:Nat) (v:AV) (acc:List (Nat×Nat)) (m:Mem) (fc:Nat),65<=f+x->f<j->x<=128->acc.length<=65*x->PIv [I L,I S,a,I L2,I S2,b] [I z,I w,I st,I r,I l,I t] z w v acc m ->
 ∃v' m' fc',x1y call hs 0 j (.ptr (0,0,2) 0 0) (.ptr (0,1,3) 0 0) (.ptr (0,2,4) 0 0) (.ptr (0,10,7) 0 0) v (I x) m fc
  = x6x call hs 0 (.ptr (0,2,4) 0 0) (.ptr (0,10,7) 0 0) v' m' fc'/\PIv [I L,I S,a,I L2,I S2,b] [I z,I w,I st,I r,I l,I t] z w v' (acc++xqy L S z w st f x) m':=by
 intro f
 induction f with
 |zero=>
  intro x j v acc m fc hf hj hx hacc hI
  obtain⟨j,rfl⟩:∃i,j=i+1:=⟨j-1,by omega⟩
  have g2:=hI.g2
  have g3:=hI.g3
  have hw':w64 ((x:Int)+z)=(x:Int)+z:=xnx (by omega) (by omega)
  have c:¬((x:Int)+z<=L):=by omega
  refine⟨v,m,fc+8,?_,by simpa[xqy]using hI⟩
  simp only[x1y]
  unfold x6z
  simp[g2,g3,hw',c]
 |succ f ih=>
  intro x j v acc m fc hf hj hx hacc hI
  obtain⟨j,rfl⟩:∃i,j=i+1:=⟨j-1,by omega⟩
  have g2:=hI.g2
  have g3:=hI.g3
  have hw':w64 ((x:Int)+z)=(x:Int)+z:=xnx (by omega) (by omega)
  have hw2:w64 ((x:Int)+st)=((x+st:Nat):Int):=by rw[xnx (by omega) (by omega)];omega
  unfold xqy
  by_cases c:(x:Int)+z<=L
  rotate_left
  .refine⟨v,m,fc+8,?_,by rw[if_neg c];simpa using hI⟩
   simp only[x1y]
   unfold x6z
   simp[g2,g3,hw',c]
  rw[if_pos c]
  obtain⟨v1,m1,fc1,e1,hI1⟩:=l_pwin1 call hs hw hst hS (x1y call hs 0 j) x (by omega) 65 0 NN v acc m (fc+8+1) (by omega) (by rw[xo8];omega) (by omega) (by omega) hI
  have hsl:=x107 (n:=S) (a:=w) (st:=st) 65 0
  have h65:65*(x+1)<=65*(x+st):=x1a3 (x196 _) (by omega)
  obtain⟨v',m',fc',e,hI'⟩:=ih (x+st) j v1 _ m1 (fc1+5) (by omega) (by omega) (by omega) (by rw[x1a2,x1ab];omega) hI1
  refine⟨v',m',fc',?_,by simpa[x1ao]using hI'⟩
  rw[<-e]
  have g31:=hI1.g3
  simp only[x1y]
  conv=>lhs;unfold x6z xgw
  simp[g2,g3,hw',c]
  rw[show(0:Int)=((0:Nat):Int)from rfl,e1]
  unfold x9y
  simp[g31,hw2]
end
def ptE(L S:Int)(D:List Px)(L2 S2:Int)(D2:List Px)(z w s r l t:Int):Int:=if prE L S D L2 S2 D2=0 then tkE z w s r l t else prE L S D L2 S2 D2
theorem xuv{z w s r l t:Int}(h:tkE z w s r l t=0):(1<=z/\z<=8)/\(1<=w/\w<=8)/\(1<=s/\s<=64)/\(0<=r/\r<=4)/\(0<=l/\l<=1000)/\(0<=t/\t<=8):=by
 unfold tkE at h
 cases c1:wi z 1 8
 .simp[c1]at h
 cases c2:wi w 1 8
 .simp[c1,c2]at h
 cases c3:wi s 1 64
 .simp[c1,c2,c3]at h
 cases c4:wi r 0 4
 .simp[c1,c2,c3,c4]at h
 cases c5:wi l 0 1000
 .simp[c1,c2,c3,c4,c5]at h
 cases c6:wi t 0 8
 .simp[c1,c2,c3,c4,c5,c6]at h
 exact⟨wi_t c1,wi_t c2,wi_t c3,wi_t c4,wi_t c5,wi_t c6⟩
theorem ptE_0{z w s r l t:Int}(h:ptE L S D L2 S2 D2 z w s r l t=0):prE L S D L2 S2 D2=0/\tkE z w s r l t=0:=by
 unfold ptE at h
 by_cases c:prE L S D L2 S2 D2=0
 .rw[if_pos c]at h;exact⟨c,h⟩
 .rw[if_neg c]at h;exact absurd h c
abbrev pair0:AV:=.agg [I 0,I 0,nilS,I 0,I 0,nilS]
theorem x108:xo5 [I 0,I 0,nilS,I 0,I 0,nilS] []=some pair0:=rfl
theorem x169(d:Nat)(ha:Sl pxE a D)(hl:D.length<=5000)(hb:Sl pxE b D2)(hl2:D2.length<=5000)(z w s r l t:Int)(he:ptE L S D L2 S2 D2 z w s r l t≠0)(m:Mem):xnu (xnt (d+9)) x2m [.agg [I L,I S,a,I L2,I S2,b],.agg [I z,I w,I s,I r,I l,I t]] m
 = some (.tup [pair0,nilS,I (ptE L S D L2 S2 D2 z w s r l t)],m):=by
 have po:=λm=>x13w (L:=L) (S:=S) (L2:=L2) (S2:=S2) d ha hl hb hl2 m
 have ct:=λm=>x144 (d+5) z w s r l t m
 refine xo0 (by simp[ha.still1,hb.still1]) ?_ m
 rw[xf2]
 unfold x5v x5d
 unfold ptE at he ⊢
 by_cases c:prE L S D L2 S2 D2=0
 rotate_left
 .simp[mem0,ha.one,hb.one,xqx,xny,po,c,x108,sLdP]
  exact RetF.tup rfl rfl
 .rw[if_pos c]at he ⊢
  simp[mem0,ha.one,hb.one,xqx,xny,po,c,ct,he,x108,sLdP]
  exact RetF.tup rfl rfl
theorem w_windows(d:Nat)(ha:Sl pxE a D)(hl:D.length<=5000)(hb:Sl pxE b D2)(hl2:D2.length<=5000){z w st:Nat}{r l t:Int}(he:ptE L S D L2 S2 D2 z w st r l t=0):∃x,Sl (wnE z w) x (if 30<(xos L S z w st).length then[]else xos L S z w st) /\
 ∀m,xnu (xnt (d+9)) x2m [.agg [I L,I S,a,I L2,I S2,b],.agg [I z,I w,I st,I r,I l,I t]] m
  = some (.tup [if 30<(xos L S z w st).length then pair0 else .agg [I L,I S,a,I L2,I S2,b],x,I (if 30<(xos L S z w st).length then 8 else 0)],m):=by
 obtain⟨c,ck⟩:=ptE_0 he
 have hR:=xtv (xtx c).1
 have hL:=wi_t hR.l
 have hS:=wi_t hR.s
 obtain⟨hz,hw,hst,-⟩:=xuv ck
 have po:=λm=>x13w (L:=L) (S:=S) (L2:=L2) (S2:=S2) d ha hl hb hl2 m
 have ct:=λm=>x144 (d+5) z w st r l t m
 obtain⟨M,hM⟩:∃M:Mem,(((((⟨[],1⟩:Mem).new (0,0,2) (.row [I L,I S,a,I L2,I S2,b] 0 false)).new (0,1,3) (.row [I z,I w,I st,I r,I l,I t] 0 false)).new (0,2,4) (.row [I 0,I 0,nilS,I 0,I 0,nilS] 0 false)).new (0,10,7) (.row [I 0,I 0,nilS,I 0,I 0,nilS] 0 false)).set (0,10,7) (.row [I L,I S,a,I L2,I S2,b] 0 false)=M:=⟨_,rfl⟩
 have hI:PIv [I L,I S,a,I L2,I S2,b] [I z,I w,I st,I r,I l,I t] z w nilS [] M:=⟨by rw[<-hM];simp,by rw[<-hM];simp,by rw[<-hM];simp,by rw[<-hM];simp,Gk.nil,by rw[<-hM];rfl⟩
 obtain⟨v',m',fc',e,hI'⟩:=l_pwin0 (xnt (d+8)) [] (by omega) (by omega) (by omega) (by omega) (by omega) 65 0 NN nilS [] M (21+1) (by omega) (by rw[xo8];omega) (by omega) (by simp) hI
 rw[x19r,show xqy L S z w st 65 0=xos L S z w st from rfl]at hI'
 have hln:=hI'.gk.len xuu
 have g4:=hI'.g4
 have g7:=hI'.g7
 by_cases cn:30<(xos L S z w st).length
 .rw[if_pos cn,if_pos cn,if_pos cn]
  refine⟨nilS,Or.inl ⟨rfl,rfl⟩,λm=>xo0 (by simp[ha.still1,hb.still1]) ?_ m⟩
  have c':(30:Int)<((xos L S z w st).length:Int):=by omega
  rw[xf2]
  unfold x5v x5d x9z
  simp[mem0,ha.one,hb.one,xqx,xny,po,c,ct,ck]
  rw[hM,show(0:Int)=((0:Nat):Int)from rfl,e]
  unfold x6x
  simp[hln,c',xqx,x108,g4,sLdP]
  exact RetF.tup rfl rfl
 .rw[if_neg cn,if_neg cn,if_neg cn]
  have hG2:Gk 4 (wnE z w) (okR 61) (m'.set (0,2,4) (.row [I L,I S,a,I L2,I S2,b] 0 false)) v' (xos L S z w st):=hI'.gk.frame λid hid=>Mem.get_set_ne (by rintro rfl;exact absurd hid.2 (by decide))
  obtain⟨x,hx,hfz⟩:=hG2.frz (k:=3) (wnL z w) (wnS z w)
  refine⟨x,hx,λm=>xo0 (by simp[ha.still1,hb.still1]) ?_ m⟩
  have c':¬((30:Int)<((xos L S z w st).length:Int)):=by omega
  rw[xf2]
  unfold x5v x5d x9z
  simp[mem0,ha.one,hb.one,xqx,xny,po,c,ct,ck]
  rw[hM,show(0:Int)=((0:Nat):Int)from rfl,e]
  unfold x6x
  simp[hln,c',g4,g7,ha.one,hb.one,sLdP]
  exact RetF.mk (frz_tup3 (xsb _ 3 (by simp[still,ha.still1,hb.still1])) hfz rfl) rfl
theorem eqArr2s(k:Nat)(a b:Int):xo1 Tryz.prog (Op.equalIn (k+1+1) xx (.agg #[.int .i64 a,.int .i64 b]) (.agg #[.int .i64 a,.int .i64 b]))=some true:=by
 have hu:Tryz.prog.underlying xx=some (.array 2 xo4):=by kernel_rfl
 have hz:xo1 Tryz.prog (sizeOf xo4)=some 1:=by kernel_rfl
 have pa:=part2 a b
 have pa0:=pa 0 (by simp)
 have pa1:=pa 1 (by simp)
 simp only[List.getD_cons_zero,List.getD_cons_succ]at pa0 pa1
 rw[Op.equalIn]
 simp only[xpa,xx5 hu,xnz,hz]
 simp only[Std.Legacy.Range.forIn_eq_forIn_range',Std.Legacy.Range.size,x1c7,x1bu,Nat.div_one,x1cz,List.range'_zero,x1dk,List.forIn_nil,xpa,x19q,x1aj,Nat.mul_one]
 have ie:∀x y:Int,xo1 Tryz.prog (Op.equalIn (k+1) xo4 (.int .i64 x) (.int .i64 y))=some (x == y):=λx y=>xvk _ _ _ _ _ _ xvl
 simp[xqp,xpa,pa0,pa1,ie]
theorem ne_pt(X Y:Operand)(x:Mp):sBin Tryz.prog .neq xv X Y (.agg x.c) (.agg x.c)=some (B false):=by
 obtain⟨n,a,b,c,s⟩:=x
 have hS:Tryz.prog.underlying xv=some (.struct (Tryz.prog.fieldsOf xv)):=by kernel_rfl
 have hp:Tryz.prog.stoodInHeld xv=false:=by kernel_rfl
 have hF:((Tryz.prog.fieldsOf xv).toList.map λf=>(f.type,f.offset,decide (f.name = "_")))=[(xo4,0,false),(xo4,1,false),(xx,2,false),(xo4,4,false)]:=by kernel_rfl
 have p0:xo1 Tryz.prog (part xo4 #[.int .i64 n,.int .i64 a,.int .i64 b,.int .i64 c,.int .i64 s] 0)=some (.int .i64 n):=by kernel_rfl
 have p1:xo1 Tryz.prog (part xo4 #[.int .i64 n,.int .i64 a,.int .i64 b,.int .i64 c,.int .i64 s] 1)=some (.int .i64 a):=by kernel_rfl
 have p2:xo1 Tryz.prog (part xx #[.int .i64 n,.int .i64 a,.int .i64 b,.int .i64 c,.int .i64 s] 2)=some (.agg #[.int .i64 b,.int .i64 c]):=by kernel_rfl
 have p3:xo1 Tryz.prog (part xo4 #[.int .i64 n,.int .i64 a,.int .i64 b,.int .i64 c,.int .i64 s] 4)=some (.int .i64 s):=by kernel_rfl
 have key:xo1 Tryz.prog (Op.equalIn 10000 xv (.agg #[.int .i64 n,.int .i64 a,.int .i64 b,.int .i64 c,.int .i64 s]) (.agg #[.int .i64 n,.int .i64 a,.int .i64 b,.int .i64 c,.int .i64 s]))=some true:=by
  rw[show(10000:Nat)=9997+1+1+1 from rfl,x12o _ _ _ _ hS hp]
  generalize (Tryz.prog.fieldsOf xv).toList=fs at hF
  have hl:=congrArg List.length hF
  simp only[x1ab,x19e,x1az]at hl
  match fs,hl with
  |[f0,f1,f2,f3],_=>
   simp only[x19f,x19x,x1b7,x192,and_true,decide_eq_false_iff_not]at hF
   obtain⟨⟨t0,o0,n0⟩,⟨t1,o1,n1⟩,⟨t2,o2,n2⟩,t3,o3,n3⟩:=hF
   have q2:xo1 Tryz.prog (Op.equalIn 9999 xx (.agg #[.int .i64 b,.int .i64 c]) (.agg #[.int .i64 b,.int .i64 c]))=some true:=eqArr2s 9997 b c
   have q0:∀n:Int,xo1 Tryz.prog (Op.equalIn 9999 xo4 (.int .i64 n) (.int .i64 n))=some (n == n):=λn=>xvk _ _ _ _ _ _ xvl
   simp only[Op.eqFields,n0,n1,n2,n3,ne_eq,not_false_eq_true,x19o,t0,t1,t2,t3,o0,o1,o2,o3,xpa,p0,p1,p2,p3,xnz,q0,q2]
   simp[xqp,xpa,p0,p1,p2,p3,q0,q2]
 exact x12q (r:=true) (x:=X) (y:=Y) (xs:=[.int .i64 n,.int .i64 a,.int .i64 b,.int .i64 c,.int .i64 s]) (ys:=[.int .i64 n,.int .i64 a,.int .i64 b,.int .i64 c,.int .i64 s]) (by kernel_rfl) key ⟨Mp.c ⟨n,a,b,c,s⟩,rfl⟩ _ _ rfl rfl
theorem l_rPts(call:xnv)(hs:FHs)(u:Nat){a b:AV}{l:List Mp}(ha:Pts a l)(hb:Pts b l)(hl:l.length<=1000)(m:Mem):∀(suf:List Mp) (k j fc:Nat),l.drop k=suf->suf.length<j->x4r call hs u j a b (I k) m fc=some (B true,m):=by
 intro suf
 induction suf with
 |nil=>
  intro k j fc hd hj
  obtain⟨j,rfl⟩:∃i,j=i+1:=⟨j-1,by omega⟩
  have hk:=x19k.mp hd
  have c:¬((k:Int)<(l.length:Int)):=by omega
  have e1:sLen Tryz.prog xj a=some (I l.length):=ha.len xpb
  simp only[x4r]
  unfold x89 xf7
  simp[e1,c]
 |cons x suf ih=>
  intro k j fc hd hj
  obtain⟨j,rfl⟩:∃i,j=i+1:=⟨j-1,by simp at hj;omega⟩
  have hk:k<l.length:=by
   rcases x19t k l.length with h|h
   .exact h
   .rw[x19k.mpr h]at hd;cases hd
  have c:(k:Int)<(l.length:Int):=by omega
  have e1:sLen Tryz.prog xj a=some (I l.length):=ha.len xpb
  have i1:sIx 5 a (I k)=_:=ha.ix Mp.len hk
  have i2:sIx 5 b (I k)=_:=hb.ix Mp.len hk
  rw[hd,x19b]at i1 i2
  have hd2:l.drop (k+1)=suf:=by rw[<-x1ds,hd];rfl
  have hne:=λX Y=>ne_pt X Y x
  simp only[Mp.c]at i1 i2 hne
  simp only[x4r]
  unfold x89
  simp[e1,c,i1,i2,rd_5,hne,xnx]
  rw[xnx (by omega) (by omega),show(k:Int)+1=((k+1:Nat):Int) by omega]
  exact ih (k+1) j _ hd2 (by simp at hj;omega)
theorem w_rPoints(d:Nat){a b:AV}{l:List Mp}(ha:Pts a l)(hb:Pts b l)(hl:l.length<=1000)(m:Mem):xnu (xnt (d+1)) x3n [a,b] m=some (B true,m):=by
 have e1:sLen Tryz.prog xj a=some (I l.length):=ha.len xpb
 have e2:sLen Tryz.prog xj b=some (I l.length):=hb.len xpb
 refine xo0 (by simp[ha.still,hb.still]) ?_ m
 rw[xis]
 unfold xcy x8a xf8
 simp[mem0,e1,e2]
 rw[show(0:Int)=((0:Nat):Int)from rfl,l_rPts _ _ _ ha hb hl _ l 0 NN _ rfl (by rw[xo8];omega)]
 exact RetF.st rfl rfl
end Go.Ix
namespace Go.Ix
open Go.Proofs
variable{a b:AV}{D D2:List Px}{L S L2 S2:Int}
open Classical in
noncomputable def bsO(L S:Int)(D:List Px)(L2 S2:Int)(D2:List Px)(z w:Nat)(R:Int)(q:Nat×Nat):Option Fo:=
 if h:∃o,BestO (scO L S D L2 S2 D2 q.1 q.2 z w) (grid R) o then h.choose else none
theorem bsO_eq{z w:Nat}{R:Int}{q:Nat×Nat}{o:Option Fo}(h:BestO (scO L S D L2 S2 D2 q.1 q.2 z w) (grid R) o):bsO L S D L2 S2 D2 z w R q=o:=by
 unfold bsO
 rw[dif_pos ⟨o,h⟩]
 exact(Exists.choose_spec (⟨o,h⟩:∃o,BestO (scO L S D L2 S2 D2 q.1 q.2 z w) (grid R) o)).uniq h
def ptO(z w:Nat)(lst:Int)(q:Nat×Nat):Option Fo->List Mp
 |none=>[]
 |some f=>if thM f.n f.e<lst then[]else[⟨((q.1+z / 2:Nat):Int),((q.2+w / 2:Nat):Int),f.p,f.q,thM f.n f.e⟩]
noncomputable def ptsM(L S:Int)(D:List Px)(L2 S2:Int)(D2:List Px)(z w:Nat)(R lst:Int)(ps:List (Nat×Nat)):List Mp:=
 ps.flatMap λq=>ptO z w lst q (bsO L S D L2 S2 D2 z w R q)
theorem ptO_len(z w:Nat)(lst:Int)(q:Nat×Nat)(o:Option Fo):(ptO z w lst q o).length<=1:=by
 cases o with
 |none=>exact x1c1 _
 |some f=>unfold ptO;dsimp only;split<;>simp
theorem xy1{z w:Nat}{R lst:Int}:∀ps:List (Nat×Nat),(ptsM L S D L2 S2 D2 z w R lst ps).length<=ps.length
 |[]=>x196 _
 |q::ps=>by
  have h1:=ptO_len z w lst q (bsO L S D L2 S2 D2 z w R q)
  have h2:(ptsM L S D L2 S2 D2 z w R lst ps).length<=ps.length:=xy1 ps
  unfold ptsM at h2 ⊢
  rw[x19b,x1a2,x19e]
  omega
theorem z_mpt:xr=[I 0,I 0,I 0,I 0,I 0]:=by kernel_rfl
theorem x147(x y p q s:Int):xo5 [I 0,I 0,I 0,I 0,I 0] [(0,1,I x),(1,1,I y),(2,2,.agg [I p,I q]),(4,1,I s)]=some (.agg [I x,I y,I p,I q,I s]):=rfl
structure OIv (pr tk:List AV) (v:AV) (acc:List Mp) (m:Mem):Prop where
 g3:m.get (0,1,3)=some (.row tk 0 false)
 g6:m.get (0,11,6)=some (.row pr 0 false)
 gk:Gk 5 Mp.c (okR 65) m v acc
 nx:m.next=1
section
variable(d:Nat)(hs:FHs)(ha:Sl pxE a D)(hR:RtI L S D)(hb:Sl pxE b D2)(hR2:RtI L2 S2 D2){z w:Nat}(hz:1<=z/\z<=8)(hw:1<=w/\w<=8){st R lst t:Int}(hr:0<=R/\R<=4){x:AV}{ps:List (Nat×Nat)}(hx:Sl (wnE z w) x ps)(hpl:ps.length<=30)(hpi:∀q∈ps,(q.1:Int)+z<=L/\(q.2:Int)+w<=S)
include ha hR hb hR2 hz hw hr hx hpl hpi
theorem l_off:∀(suf:List (Nat×Nat)) (k j:Nat) (v:AV) (acc:List Mp) (m:Mem) (fc:Nat),ps.drop k=suf->suf.length<j->acc.length<=k->OIv [I L,I S,a,I L2,I S2,b] [I z,I w,I st,I R,I lst,I t] v acc m ->
 ∃v' m',x1u (xnt (d+6)) hs 0 j (.ptr (0,1,3) 0 0) (.ptr (0,11,6) 0 0) (I 0) v x (I ps.length) (I k) m fc
  = some (.tup [v',I 0],m')/\Gk 5 Mp.c (okR 65) m' v' (acc++ptsM L S D L2 S2 D2 z w R lst suf):=by
 have hL:=wi_t hR.l
 have hS:=wi_t hR.s
 intro suf
 induction suf with
 |nil=>
  intro k j v acc m fc hd hj hacc hI
  obtain⟨j,rfl⟩:∃i,j=i+1:=⟨j-1,by omega⟩
  have hk:=x19k.mp hd
  have c:¬((k:Int)<(ps.length:Int)):=by omega
  refine⟨v,m,?_,by simpa[ptsM]using hI.gk⟩
  simp only[x1u]
  unfold x4u x63
  simp[c]
 |cons q suf ih=>
  intro k j v acc m fc hd hj hacc hI
  obtain⟨j,rfl⟩:∃i,j=i+1:=⟨j-1,by simp at hj;omega⟩
  have hk:k<ps.length:=by
   rcases x19t k ps.length with h|h
   .exact h
   .rw[x19k.mpr h]at hd;cases hd
  have c:(k:Int)<(ps.length:Int):=by omega
  have hq:=hpi q (x1ct (by rw[hd];exact x199))
  have i1:sIx 4 x (I k)=_:=hx.ix (wnL z w) hk
  rw[hd,x19b]at i1
  simp only[wnE,x1ad,x19r]at i1
  have hd2:ps.drop (k+1)=suf:=by rw[<-x1ds,hd];rfl
  obtain⟨g3,g6,gk,nx⟩:=hI
  obtain⟨o,ho,eo⟩:=w_best (L:=L) (S:=S) (L2:=L2) (S2:=S2) d ha hR hb hR2 hz hw (x:=(q.1:Int)) (y:=(q.2:Int)) (R:=R) (by omega) (by omega) hr
  have hbs:=bsO_eq ho
  have hw1:w64 ((k:Int)+1)=((k+1:Nat):Int):=by rw[xnx (by omega) (by omega)];omega
  have hnx:∀(A:Id) (o:Ob) (B:Id) (o2:Ob),((m.new A o).set A o).next=1:=λ_ _ _ _=>nx
  have e64:ptsM L S D L2 S2 D2 z w R lst (q::suf)=ptO z w lst q o++ptsM L S D L2 S2 D2 z w R lst suf:=by
   unfold ptsM;rw[x19b,hbs]
  rw[e64]
  simp only[x1u]
  unfold x4u xfc
  cases o with
  |none=>
   obtain⟨v',m',e,hG⟩:=ih (k+1) j v acc ((((m.new (0,fc+1+2,11) (.row [I 0,I 0,I 0,I 0] 0 false)).set (0,fc+1+2,11) (.row [I q.1,I q.2,I z,I w] 0 false)).new (0,fc+1+12,12) (.row [I 0,I 0,I 0,I 0] 0 false)).set (0,fc+1+12,12) (.row [I 0,I 0,I 0,I 0] 0 false)) (fc+1+25+2) hd2 (by simp at hj;omega) (by omega)
    ⟨by simpa using g3,by simpa using g6,gk.frame λid hid=>by rw[Mem.get_set_ne (by rintro rfl;exact absurd hid.2 (by simp)),Mem.get_new,if_neg (by rintro rfl;exact absurd hid.2 (by simp)),Mem.get_set_ne (by rintro rfl;exact absurd hid.2 (by simp)),Mem.get_new,if_neg (by rintro rfl;exact absurd hid.2 (by simp))],nx⟩
   refine⟨v',m',?_,by simpa[ptO]using hG⟩
   rw[<-e]
   simp only[rowO,Option.isSome]at eo
   simp[c,i1,xrw,xny,g3,g6,eo,xt0,nx,ha.one,hb.one,cAp,mkM,tR,clean]
   unfold x4s
   simp[hw1]
  |some f=>
   obtain⟨f0,f1,f2,f3,-⟩:=xsz hR hR2 hz.2 hw.2 (Best.hs ho)
   have th:=λm=>w_thou (d+2) f0 f2 f1 (by omega) m
   have hth:=xw4 f0 f2 f1
   simp only[rowO,Option.isSome,Fo.c]at eo
   obtain⟨M,hM⟩:∃M:Mem,((((m.new (0,fc+1+2,11) (.row [I 0,I 0,I 0,I 0] 0 false)).set (0,fc+1+2,11) (.row [I q.1,I q.2,I z,I w] 0 false)).new (0,fc+1+12,12) (.row [I 0,I 0,I 0,I 0] 0 false)).set (0,fc+1+12,12) (.row [I f.p,I f.q,I f.n,I f.e] 0 false))=M:=⟨_,rfl⟩
   have G3:M.get (0,1,3)=some (.row [I z,I w,I st,I R,I lst,I t] 0 false):=by rw[<-hM];simpa using g3
   have G6:M.get (0,11,6)=some (.row [I L,I S,a,I L2,I S2,b] 0 false):=by rw[<-hM];simpa using g6
   have G11:M.get (0,fc+1+2,11)=some (.row [I q.1,I q.2,I z,I w] 0 false):=by rw[<-hM];simp
   have G12:M.get (0,fc+1+12,12)=some (.row [I f.p,I f.q,I f.n,I f.e] 0 false):=by rw[<-hM];simp
   have GN:M.next=1:=by rw[<-hM];exact nx
   have GK:Gk 5 Mp.c (okR 65) M v acc:=gk.frame λid hid=>by rw[<-hM,Mem.get_set_ne (by rintro rfl;exact absurd hid.2 (by simp)),Mem.get_new,if_neg (by rintro rfl;exact absurd hid.2 (by simp)),Mem.get_set_ne (by rintro rfl;exact absurd hid.2 (by simp)),Mem.get_new,if_neg (by rintro rfl;exact absurd hid.2 (by simp))]
   by_cases cl:thM f.n f.e<lst
   .obtain⟨v',m',e,hG⟩:=ih (k+1) j v acc M (fc+1+25+2) hd2 (by simp at hj;omega) (by omega) ⟨G3,G6,GK,GN⟩
    refine⟨v',m',?_,by simpa[ptO,cl]using hG⟩
    rw[<-e]
    simp[c,i1,xrw,xny,g3,g6,eo,xt0,nx,ha.one,hb.one,hM,G3,G12,th,cl,cAp,mkM,tR,clean,show Nat.blt 0 1=true from rfl]
    unfold x4s
    simp[hw1,GN,show Nat.blt 0 1=true from rfl]
   .have hz2:w64 ((z:Int).tdiv 2)=((z / 2:Nat):Int):=by rw[show(z:Int).tdiv 2=((z / 2:Nat):Int)from rfl];exact xnx (by omega) (by omega)
    have hw2:w64 ((w:Int).tdiv 2)=((w / 2:Nat):Int):=by rw[show(w:Int).tdiv 2=((w / 2:Nat):Int)from rfl];exact xnx (by omega) (by omega)
    have hz3:w64 ((q.1:Int)+((z / 2:Nat):Int))=((q.1+z / 2:Nat):Int):=by rw[xnx (by omega) (by omega)];omega
    have hw3:w64 ((q.2:Int)+((w / 2:Nat):Int))=((q.2+w / 2:Nat):Int):=by rw[xnx (by omega) (by omega)];omega
    have qz:=xr9 (x:=(z:Int)) (y:=2) (by decide)
    have qw:=xr9 (x:=(w:Int)) (y:=2) (by decide)
    rw[hz2]at qz
    rw[hw2]at qw
    obtain⟨v2,m2,hA,hG2,c2,o2,hn2,hfr⟩:=GK.app Mp.len (by decide) (bytes:=40) (id0:=(0,fc+1+45,65)) ⟨rfl,rfl⟩ (by unfold xol;omega) (⟨((q.1+z / 2:Nat):Int),((q.2+w / 2:Nat):Int),f.p,f.q,thM f.n f.e⟩:Mp)
    have hA':∀(k':AV->Mem->O2),sApp 5 40 (0,fc+1+45,65) (some ([I ((q.1+z / 2:Nat):Int),I ((q.2+w / 2:Nat):Int),I f.p,I f.q,I (thM f.n f.e)],1)) v M k'=k' v2 m2:=hA
    have fr2:∀id:Id,id.2.2≠65->m2.get id=M.get id:=λid h'=>hfr _ (λq=>h' q.2)
    obtain⟨v',m',e,hG⟩:=ih (k+1) j v2 _ m2 (fc+1+47+2) hd2 (by simp at hj;omega) (by simp;omega) ⟨(fr2 _ (by decide)).trans G3,(fr2 _ (by decide)).trans G6,hG2,by omega⟩
    refine⟨v',m',?_,by simpa[ptO,cl]using hG⟩
    rw[<-e]
    generalize q.1+z / 2=X at *
    generalize q.2+w / 2=Y at *
    generalize z / 2=Z at *
    generalize w / 2=W at *
    simp[c,i1,xrw,xny,g3,g6,eo,xt0,nx,ha.one,hb.one,hM,G3,G11,G12,th,cl,qz,qw,hz3,hw3,z_mpt,x147,cAp,mkM,tR,clean,show Nat.blt 0 1=true from rfl]
    rw[xy0,el_p5,hA']
    unfold x4s
    simp[hw1,GN,show Nat.blt 0 1=true from rfl]
end
theorem w_OffE(d:Nat)(ha:Sl pxE a D)(hl:D.length<=5000)(hb:Sl pxE b D2)(hl2:D2.length<=5000)(z w s r l t:Int)(he:ptE L S D L2 S2 D2 z w s r l t≠0)(m:Mem):xnu (xnt (d+10)) x2b [.agg [I L,I S,a,I L2,I S2,b],.agg [I z,I w,I s,I r,I l,I t]] m
 = some (.tup [nilS,I (ptE L S D L2 S2 D2 z w s r l t)],m):=by
 have we:=λm=>x169 (L:=L) (S:=S) (L2:=L2) (S2:=S2) d ha hl hb hl2 z w s r l t he m
 have e0:sLen Tryz.prog x19 nilS=some (I 0):=Sl.len (l:=([]:List (Nat×Nat))) (enc:=wnE 0 0) xuu (Or.inl ⟨rfl,rfl⟩)
 obtain⟨NM,hNM⟩:∃NM,NN=NM+1:=⟨NN-1,by have:=xo8;omega⟩
 refine xo0 (by simp[ha.still1,hb.still1]) ?_ m
 rw[xf1]
 unfold x5u x4v x64
 simp[mem0,ha.one,hb.one,we,xqx,xny,e0,hNM]
 simp only[x1u]
 unfold x4u x63
 simp
 exact RetF.tup rfl rfl
theorem w_OffO(d:Nat)(ha:Sl pxE a D)(hl:D.length<=5000)(hb:Sl pxE b D2)(hl2:D2.length<=5000){z w st:Nat}{r l t:Int}(he:ptE L S D L2 S2 D2 z w st r l t=0):∃x,Pts x (if 30<(xos L S z w st).length then[]else ptsM L S D L2 S2 D2 z w r l (xos L S z w st)) /\
 ∀m,xnu (xnt (d+10)) x2b [.agg [I L,I S,a,I L2,I S2,b],.agg [I z,I w,I st,I r,I l,I t]] m
  = some (.tup [x,I (if 30<(xos L S z w st).length then 8 else 0)],m):=by
 obtain⟨x,hx,we⟩:=w_windows (L:=L) (S:=S) (L2:=L2) (S2:=S2) d ha hl hb hl2 he
 obtain⟨c,ck⟩:=ptE_0 he
 have hR:=xtv (xtx c).1
 have hR2:=xtv (xtx c).2
 obtain⟨hz,hw,hst,hr,-⟩:=xuv ck
 by_cases cn:30<(xos L S z w st).length
 .simp only[if_pos cn]at hx we ⊢
  have e0:sLen Tryz.prog x19 x=some (I 0):=hx.len xuu
  obtain⟨NM,hNM⟩:∃NM,NN=NM+1:=⟨NN-1,by have:=xo8;omega⟩
  refine⟨nilS,Or.inl ⟨rfl,rfl⟩,λm=>xo0 (by simp[ha.still1,hb.still1]) ?_ m⟩
  rw[xf1]
  unfold x5u x4v x64
  simp[mem0,ha.one,hb.one,we,xqx,xny,e0,hNM]
  simp only[x1u]
  unfold x4u x63
  simp
  exact RetF.tup rfl rfl
 .simp only[if_neg cn]at hx we ⊢
  have e0:sLen Tryz.prog x19 x=some (I (xos L S z w st).length):=hx.len xuu
  obtain⟨M,hM⟩:∃M:Mem,((((⟨[],1⟩:Mem).new (0,0,2) (.row [I L,I S,a,I L2,I S2,b] 0 false)).new (0,1,3) (.row [I z,I w,I st,I r,I l,I t] 0 false)).new (0,11,6) (.row [I 0,I 0,nilS,I 0,I 0,nilS] 0 false)).set (0,11,6) (.row [I L,I S,a,I L2,I S2,b] 0 false)=M:=⟨_,rfl⟩
  have hI:OIv [I L,I S,a,I L2,I S2,b] [I z,I w,I st,I r,I l,I t] nilS [] M:=⟨by rw[<-hM];simp,by rw[<-hM];simp,Gk.nil,by rw[<-hM];rfl⟩
  obtain⟨v',m',e,hG⟩:=l_off (d+3) [] ha hR hb hR2 (by omega) (by omega) hr hx (by omega) (λq hq=>xxz hq) (xos L S z w st) 0 NN nilS [] M (16+3) rfl (by rw[xo8];omega) (by simp) hI
  obtain⟨x',hx',hfz⟩:=hG.frz (k:=3) Mp.len Mp.still
  refine⟨x',by simpa using hx',λm=>xo0 (by simp[ha.still1,hb.still1]) ?_ m⟩
  rw[xf1]
  unfold x5u x4v x64
  simp[mem0,ha.one,hb.one,we,xqx,xny,e0]
  rw[hM,show(0:Int)=((0:Nat):Int)from rfl]
  rw[show(I ((0:Nat):Int))=I 0 from rfl]at e ⊢
  rw[e]
  exact RetF.mk (xx4 hfz rfl) rfl
end Go.Ix
