import Derived.Test.YtklcdahoajabmaaWg11
import Derived.Test.YtklcdahoajabmaaWg6
import Derived.Test.YtklcdahoajabmaaWg10
import Derived.Test.YtklcdahoajabmaaWg9
import Derived.Test.YtklcdahoajabmaaWg7
set_option linter.unusedSimpArgs false
set_option linter.unusedVariables false
namespace Go.Ix
open Go.Proofs
attribute [local simp high] rd_5
variable{a:AV}{l:List Mp}
attribute [local simp high] rd_5
variable{a:AV}{l:List Mp}
theorem xik(d:Nat)(x:Int)(m:Mem)(h1:-9223372036854775808<x)(h2:x<=9223372036854775807):xcv (xcu (d+1)) xe [I x] m=some (I (x.natAbs:Int),m):=by
 refine call0 rfl (m':=⟨[],1⟩) ?_ rfl
 rw[x91]
 unfold x3o x3f
 simp(disch:=omega) [mem0]
 split<;>omega
attribute [local simp high] rd_5
variable{a:AV}{l:List Mp}
section
variable{f:Aff}
end
attribute [local simp high] rd_5
variable{a:AV}{l:List Mp}
attribute [local simp high] rd_5
section
variable{f:Aff}{x:Mp}
end
variable{a:AV}{l:List Mp}{f:Aff}
end Go.Ix
set_option exponentiation.threshold 3000
namespace Go.Ix
open Go.Proofs Ieee
abbrev Px:=Nat×Nat
def pxE(p:Px):List AV:=[C32 p.1 p.2]
theorem pxL(p:Px):(pxE p).length=1:=rfl
theorem pxS(p:Px):(pxE p).all still1=true:=rfl
def f32E(x:Nat):List AV:=[.sc (.float .f32 x)]
theorem f32L(x:Nat):(f32E x).length=1:=rfl
def prsM:List Nat->List Px
 |x::y::r=>(x,y)::prsM r
 |_=>[]
theorem xey:Try.prog.underlying x10=some (.slice x8):=by kernel_rfl
theorem xfn:Try.prog.underlying xg=some (.slice x6):=by kernel_rfl
theorem xdv:x9=[I 0,I 0,nilS]:=by kernel_rfl
theorem z_c64:x32=[C32 0 0]:=by kernel_rfl
theorem cplx32(x y:Nat):xd8 Try.prog .complex #[x6,x6] x8 [.sc (.float .f32 x),.sc (.float .f32 y)]=some (C32 x y):=by
 have h:xd0 Try.prog (biS .complex #[x6,x6] x8 [.float .f32 x,.float .f32 y])=some (.complex .f32 x y):=by kernel_rfl
 unfold xd8 bi0
 simp only[show xdf [AV.sc (.float .f32 x),AV.sc (.float .f32 y)]=some [.float .f32 x,.float .f32 y]from rfl,h]
 rfl
theorem xlv(x y:Nat):(C32 x y).cells=[C32 x y]:=rfl
theorem build_im(L S:Int):xd4 x9 [(0,1,I L),(1,1,I S)]=some (.agg [I L,I S,nilS]):=by
 rw[xdv];rfl
def okI(u:Nat):Id->Prop:=λid=>id.1=u/\id.2.2=32
theorem prs_len:∀l:List Nat,(prsM l).length<=l.length
 |x::y::r=>by have:=prs_len r;simp only[prsM,xtl];omega
 |[x]=>by simp[prsM]
 |[]=>by simp[prsM]
theorem xlw{objs:Id->Option Ob}{L S:Int}{v v':AV}(h:Go.Ix.frz objs 5 v=some v'):Go.Ix.frz objs deep (.agg [I L,I S,v])=some (.agg [I L,I S,v']):=by
 show([I L,I S,v].mapM (Go.Ix.frz objs 5)).map AV.agg=_
 simp only[xue,xvn,h]
 rfl
theorem l_Image(call:xcw)(hs:FHs)(L S:Int){a:AV}{l:List Nat}(ha:Sl f32E a l)(hl:l.length<=1048576) :
 ∀(n k j:Nat) (v:AV) (acc:List Px) (m:Mem) (fc:Nat),l.length<=k+2*n+1->n<j->acc.length<=k->k<=1048577->acc++prsM (l.drop k)=prsM l ->
 Gk 1 pxE (okI 0) m v acc->m.get (0,0,6)=some (.row [I 0,I 0,nilS] 0 false)->m.get (0,4,7)=some (.row [I L,I S,v] 0 false) ->
 ∃w v' m',x34 call hs 0 j a (.ptr (0,0,6) 0 0) (.ptr (0,4,7) 0 0) (I k) m fc=some (.agg [I L,I S,w],m')/\Go.Ix.frz m'.get deep (.agg [I L,I S,w])=some (.agg [I L,I S,v'])/\Sl pxE v' (prsM l):=by
 intro n
 induction n using Nat.strongRecOn with
 |ind n ih=>
 intro k j v acc m fc hn hj hacc hkb hP hG h6 h7
 obtain⟨j,rfl⟩:∃i,j=i+1:=⟨j-1,by omega⟩
 obtain⟨hv1,hv2⟩:=hG.one
 simp only[x34]
 unfold x7w
 by_cases hk:k+1<l.length
 rotate_left
 .have hk':¬((k:Int)+1<(l.length:Int)):=by omega
  have e0:prsM (l.drop k)=[]:=by
   have h1:(l.drop k).length<=1:=by rw[xwz];omega
   cases h2:l.drop k with
   |nil=>rfl
   |cons x r=>
    rw[h2]at h1
    have:r=[]:=xwx.mp (by simpa using h1)
    subst this
    rfl
  rw[e0,xwd]at hP
  subst hP
  have hG2:Gk 1 pxE (okI 0) (m.set (0,0,6) (.row [I L,I S,v] 0 false)) v (prsM l):=hG.frame λid hid=>Mem.get_set_ne (by rintro rfl;exact absurd hid.2 (by decide))
  obtain⟨v',hv',hf⟩:=hG2.frz (k:=3) pxL pxS
  refine⟨v,v',m.set (0,0,6) (.row [I L,I S,v] 0 false),?_,xlw hf,hv'⟩
  simp(disch:=omega) [ha.len xfn,hk',xd6,x7v,h7,h6,hv2,sLdP]
 .have hk':(k:Int)+1<(l.length:Int):=by omega
  have i1:=ha.ix f32L (k:=k) (by omega)
  have i2:=ha.ix f32L (k:=k+1) hk
  rw[xe2 (by omega),xu7]at i1
  rw[xe2 hk,xu7]at i2
  have ed:l.drop k=l[k]::l[k+1]::l.drop (k+2):=by rw[xe2 (by omega),xe2 hk]
  rw[ed]at hP
  simp only[prsM]at hP
  obtain⟨v2,m2,hA,hG2,c2,o2,hn2,hfr⟩:=hG.app pxL (by decide) (bytes:=8) (id0:=(0,fc+18,32)) ⟨rfl,rfl⟩ (by unfold xda;omega) (l[k],l[k+1])
  have g6:m2.get (0,0,6)=some (.row [I 0,I 0,nilS] 0 false):=by rw[hfr _ (λh=>absurd h.2 (by decide))];exact h6
  have g7:m2.get (0,4,7)=some (.row [I L,I S,v] 0 false):=by rw[hfr _ (λh=>absurd h.2 (by decide))];exact h7
  obtain⟨w,v',m',e,hf,hS⟩:=ih (n-1) (by omega) (k+2) j v2 (acc++[(l[k],l[k+1])]) (m2.set (0,4,7) (.row [I L,I S,v2] 0 false)) (fc+24) (by omega) (by omega) (by simp;omega) (by omega) (by rw[<-hP];simp)
   (hG2.frame λid hid=>Mem.get_set_ne (by rintro rfl;exact absurd hid.2 (by decide))) (by rw[Mem.get_set_ne (by decide)];exact g6) (by simp)
  refine⟨w,v',m',?_,hf,hS⟩
  rw[<-e]
  have hA':∀(k':AV->Mem->O2),sApp 1 8 (0,fc+18,32) (some ([C32 l[k] l[k+1]],1)) v m k'=k' v2 m2:=hA
  have i2':sIx 1 a (I ((k:Int)+1))=some (.plit (f32E l[k+1]++List.flatMap f32E (List.drop (k+1+1) l))):=by rw[<-i2];rfl
  simp(disch:=omega) [ha.len xfn,hk',xd6,h7,i1,i2',f32E,cplx32,z_c64]
  rw[xic (xlv _ _) rfl rfl,show elems m.get 1 (.slit [C32 l[k] l[k+1]] 1 true)=some ([C32 l[k] l[k+1]],1)from rfl,hA']
  simp[g7,o2,c2,tR,xdb,disj]
theorem w_Image(d:Nat)(L S:Int){a:AV}{l:List Nat}(ha:Sl f32E a l)(hl:l.length<=1048576):∃b,Sl pxE b (prsM l)/\∀m,xcv (xcu (d+1)) x1w [I L,I S,a] m=some (.agg [I L,I S,b],m):=by
 obtain⟨w,v',m',e,hf,hS⟩:=l_Image (xcu d) [] L S ha hl (l.length / 2) 0 NN nilS [] ((((⟨[],1⟩:Mem).new (0,0,6) (.row [I 0,I 0,nilS] 0 false)).new (0,4,7) (.row [I 0,I 0,nilS] 0 false)).set (0,4,7) (.row [I L,I S,nilS] 0 false)) 7 (by omega) (by rw[xdy];omega) (by simp) (by omega) rfl Gk.nil (by simp) (by simp)
 refine⟨v',hS,λm=>xd3 (by simp[ha.still]) ?_ m⟩
 rw[x9k]
 unfold x6c x44
 simp[mem0,xdv,xcy,build_im,x7x]
 exact⟨_,_,_,e,hf,rfl⟩
theorem w_LImage(d:Nat)(L S:Int){a:AV}{l:List Nat}(ha:Sl f32E a l)(hl:l.length<=1048576):∃b,Sl pxE b (prsM l)/\∀m,xcv (xcu (d+2)) xm [.agg [I L,I S,a]] m=some (.agg [I L,I S,b],m):=by
 obtain⟨b,hb,e⟩:=w_Image d L S ha hl
 refine⟨b,hb,λm=>xd3 (by simp[ha.still1]) ?_ m⟩
 rw[x99]
 unfold x61 x3s
 simp[mem0,xdv,xcy,ha.one,e,hb.one,sLdP]
 exact RetF.st (by simp[hb.still1]) rfl
def xf9(p:Px):Int:=pE (fcs p.1) (fcs p.2)
def chkS:Nat->List Px->Int×Int
 |_,[]=>(0,0)
 |k,p::r=>if xf9 p=0 then chkS (k+1) r else((k:Int),xf9 p)
def szE(L S:Int)(n:Nat):Int:=bif wi L 1 64&&wi S 1 64 then(if(n:Int)=L*S then 0 else 10)else 2
def imE(L S:Int)(D:List Px):Int×Int:=if szE L S D.length=0 then chkS 0 D else(0,szE L S D.length)
theorem xjs(d:Nat)(a b c:Int)(m:Mem):xcv (xcu (d+1)) x1a [I a,I b,I c] m=some (B (wi a b c),m):=by
 refine call0 rfl (m':=⟨[],1⟩) ?_ rfl
 rw[xa5]
 unfold x6x x56 wi
 by_cases h:b<=a<;>by_cases h2:a<=c<;>simp[h,h2,mem0]
theorem xjt{L S:Int}(h1:wi L 1 64=true)(h2:wi S 1 64=true):1<=L*S/\L*S<=4096:=by
 have:=wi_t h1
 have:=wi_t h2
 have h3:L*S<=64*64:=xve (by omega) (by omega) (by omega) (by omega)
 have h4:1*1<=L*S:=xve (by omega) (by omega) (by omega) (by omega)
 omega
theorem w_szErr3(d:Nat)(L S:Int)(n:Nat)(m:Mem):xcv (xcu (d+2)) x22 [I L,I S,I n] m=some (I (szE L S n),m):=by
 refine xd3 rfl ?_ m
 rw[x9s]
 unfold x6k x4i szE
 cases c1:wi L 1 64
 .simp[mem0,xjs,c1];exact RetF.st rfl rfl
 cases c2:wi S 1 64
 .simp[mem0,xjs,c1,c2];exact RetF.st rfl rfl
 have hb:=xjt c1 c2
 by_cases c3:(n:Int)=L*S
 .simp(disch:=omega) [mem0,xjs,c1,c2,xd6,c3];exact RetF.st rfl rfl
 .simp(disch:=omega) [mem0,xjs,c1,c2,xd6,c3];exact RetF.st rfl rfl
theorem xr4(d:Nat)(L S:Int)(n:Nat)(m:Mem):xcv (xcu (d+2)) x26 [I L,I S,I n] m=some (I (szE L S n),m):=by
 refine xd3 rfl ?_ m
 rw[xa1]
 unfold x6t x4y szE
 cases c1:wi L 1 64
 .simp[mem0,xeb,c1];exact RetF.st rfl rfl
 cases c2:wi S 1 64
 .simp[mem0,xeb,c1,c2];exact RetF.st rfl rfl
 have hb:=xjt c1 c2
 by_cases c3:(n:Int)=L*S
 .simp(disch:=omega) [mem0,xeb,c1,c2,xd6,c3];exact RetF.st rfl rfl
 .simp(disch:=omega) [mem0,xeb,c1,c2,xd6,c3];exact RetF.st rfl rfl
variable{a:AV}{D:List Px}{L S:Int}
theorem xr5(d:Nat)(hs:FHs)(u:Nat)(ha:Sl pxE a D)(hl:D.length<=5000):∀(suf:List Px) (k j:Nat) (m:Mem) (fc:Nat),D.drop k=suf->suf.length<j ->
 x2o (xcu (d+4)) hs u j xen a (I D.length) (I k) m fc=some (.tup [I (chkS k suf).1,I (chkS k suf).2],m):=by
 intro suf
 induction suf with
 |nil=>
  intro k j m fc hd hj
  obtain⟨j,rfl⟩:∃i,j=i+1:=⟨j-1,by simp at hj;omega⟩
  have hk:¬((k:Int)<(D.length:Int)):=by have:=xvf.mp hd;omega
  simp only[x2o]
  unfold x4j
  simp[hk,x86,chkS]
 |cons e r ih=>
  intro k j m fc hd hj
  obtain⟨j,rfl⟩:∃i,j=i+1:=⟨j-1,by simp at hj;omega⟩
  obtain⟨hk,he,hd⟩:=xhc hd
  have hk':(k:Int)<(D.length:Int):=by omega
  have ix:=ha.ix pxL hk
  rw[xe2 hk,xu7,he]at ix
  simp only[x2o]
  unfold x4j
  rw[chkS]
  by_cases c:xf9 e=0
  .have h':=ih (k+1) j m (fc+14) hd (by simp at hj;omega)
   have c':pE (fcs e.1) (fcs e.2)=0:=c
   rw[xta c,<-h']
   simp(disch:=omega) [hk',ix,pxE,xop,c',xd6]
  .have c':¬pE (fcs e.1) (fcs e.2)=0:=c
   rw[xtb c]
   simp(disch:=omega) [hk',ix,pxE,xop,c',xd6,xf9]
theorem xp1(d:Nat)(ha:Sl pxE a D)(hl:D.length<=5000)(m:Mem):xcv (xcu (d+6)) x15 [.agg [I L,I S,a]] m=some (.tup [I (imE L S D).1,I (imE L S D).2],m):=by
 have hsE:∀m,xcv (xcu (d+5)) x23 [a,xen] m=some (.tup [I (chkS 0 D).1,I (chkS 0 D).2],m):=λm=>by
  refine xd3 (by simp[ha.still]) ?_ m
  rw[x9t]
  unfold x6l x4k x87
  have h':=xr5 d [] 0 ha hl D 0 NN ⟨[],1⟩ 5 rfl (by rw[xdy];omega)
  simp[mem0,ha.len xey]
  rw[show(0:Int)=((0:Nat):Int)from rfl,h']
  exact RetF.tup rfl rfl
 refine xd3 (by simp[ha.still1]) ?_ m
 rw[x9e]
 unfold x66 x3x
 simp[mem0,ha.one,ha.len xey,w_szErr3,hsE]
 unfold imE
 by_cases c:szE L S D.length=0
 .simp[c];exact RetF.tup rfl rfl
 .simp[c];exact RetF.tup rfl rfl
theorem xr6(d:Nat)(hs:FHs)(u:Nat)(ha:Sl pxE a D)(hl:D.length<=5000):∀(suf:List Px) (k j:Nat) (m:Mem) (fc:Nat),D.drop k=suf->suf.length<j->m.get (u,0,1)=some (.row [I L,I S,a] 0 false) ->
 x2m (xcu (d+3)) hs u j (.ptr (u,0,1) 0 0) (I k) m fc=some (.tup [I (chkS k suf).1,I (chkS k suf).2],m):=by
 intro suf
 induction suf with
 |nil=>
  intro k j m fc hd hj hg
  obtain⟨j,rfl⟩:∃i,j=i+1:=⟨j-1,by simp at hj;omega⟩
  have hk:¬((k:Int)<(D.length:Int)):=by have:=xvf.mp hd;omega
  simp only[x2m]
  unfold x45
  simp[hk,hg,ha.len xey,x7y,chkS]
 |cons e r ih=>
  intro k j m fc hd hj hg
  obtain⟨j,rfl⟩:∃i,j=i+1:=⟨j-1,by simp at hj;omega⟩
  obtain⟨hk,he,hd⟩:=xhc hd
  have hk':(k:Int)<(D.length:Int):=by omega
  have ix:=ha.ix pxL hk
  rw[xe2 hk,xu7,he]at ix
  simp only[x2m]
  unfold x45
  rw[chkS]
  by_cases c:xf9 e=0
  .have h':=ih (k+1) j m (fc+17) hd (by simp at hj;omega) hg
   have c':pE (fcs e.1) (fcs e.2)=0:=c
   rw[xta c,<-h']
   simp(disch:=omega) [hk',hg,ha.len xey,ix,pxE,xoq,c',xd6]
  .have c':¬pE (fcs e.1) (fcs e.2)=0:=c
   rw[xtb c]
   simp(disch:=omega) [hk',hg,ha.len xey,ix,pxE,xoq,c',xd6,xf9]
theorem xr7(d:Nat)(ha:Sl pxE a D)(hl:D.length<=5000)(m:Mem):xcv (xcu (d+4)) x1x [.agg [I L,I S,a]] m=some (.tup [I (imE L S D).1,I (imE L S D).2],m):=by
 refine xd3 (by simp[ha.still1]) ?_ m
 rw[x9l]
 unfold x6d x46
 simp[mem0,ha.one,ha.len xey,xr4]
 unfold imE
 by_cases c:szE L S D.length=0
 .have h':=xr6 (L:=L) (S:=S) d [] 0 ha hl D 0 NN ((⟨[],1⟩:Mem).new (0,0,1) (.row [I L,I S,a] 0 false)) 15 rfl (by rw[xdy];omega) (by simp)
  simp[c,x7z]
  rw[show(0:Int)=((0:Nat):Int)from rfl,h']
  exact RetF.tup rfl rfl
 .simp[c];exact RetF.tup rfl rfl
theorem xju(d:Nat)(ha:Sl pxE a D)(hl:D.length<=5000)(m:Mem):xcv (xcu (d+7)) xr [.agg [I L,I S,a]] m=some (I (imE L S D).2,m):=by
 refine xd3 (by simp[ha.still1]) ?_ m
 rw[x9n]
 unfold x6f x48
 simp[mem0,ha.one,xp1 d ha hl]
 exact RetF.st rfl rfl
theorem xr8(d:Nat)(ha:Sl pxE a D)(hl:D.length<=5000)(m:Mem):xcv (xcu (d+5)) x1r [.agg [I L,I S,a]] m=some (I (imE L S D).2,m):=by
 refine xd3 (by simp[ha.still1]) ?_ m
 rw[x9a]
 unfold x62 x3t
 simp[mem0,ha.one,xr7 d ha hl]
 exact RetF.st rfl rfl
end Go.Ix
