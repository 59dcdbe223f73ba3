import Derived.Test.YtifmaegopmkaoaaGreatWg10
import Derived.Test.YtifmaegopmkaoaaGreatWg6
import Derived.Test.YtifmaegopmkaoaaGreatWg2
set_option linter.unusedSimpArgs false
set_option linter.unusedVariables false
namespace Go.Ix
open Go.Proofs
attribute [local simp high] rd_5
variable{a:AV}{l:List Mp}
attribute [local simp high] rd_5
section
variable{f:Aff}{x:Mp}
end
variable{a:AV}{l:List Mp}{f:Aff}
end Go.Ix
set_option exponentiation.threshold 3000
namespace Go.Ix
open Go.Proofs Ieee
abbrev Px:=Nat×Nat
def pxE(p:Px):List AV:=[C32 p.1 p.2]
theorem pxL(p:Px):(pxE p).length=1:=rfl
theorem pxS(p:Px):(pxE p).all still1=true:=rfl
def f32E(x:Nat):List AV:=[.sc (.float .f32 x)]
theorem f32L(x:Nat):(f32E x).length=1:=rfl
def prsM:List Nat->List Px
 |x::y::r=>(x,y)::prsM r
 |_=>[]
theorem xk7:Tryz.prog.underlying x4i=some (.slice xb):=by kernel_rfl
theorem u_f32:Tryz.prog.underlying x14=some (.slice x8):=by kernel_rfl
theorem xk8:x20=[I 0,I 0,nilS]:=by kernel_rfl
theorem z_c64:xau=[C32 0 0]:=by kernel_rfl
theorem cplx32(x y:Nat):xfa Tryz.prog .complex #[x8,x8] xb [.sc (.float .f32 x),.sc (.float .f32 y)]=some (C32 x y):=by
 have h:xev Tryz.prog (biS .complex #[x8,x8] xb [.float .f32 x,.float .f32 y])=some (.complex .f32 x y):=by kernel_rfl
 unfold xfa bi0
 simp only[show xf9 [AV.sc (.float .f32 x),AV.sc (.float .f32 y)]=some [.float .f32 x,.float .f32 y]from rfl,h]
 rfl
theorem cells_c32(x y:Nat):(C32 x y).cells=[C32 x y]:=rfl
theorem build_im(L S:Int):xf7 x20 [(0,1,I L),(1,1,I S)]=some (.agg [I L,I S,nilS]):=by
 rw[xk8];rfl
def okI(u:Nat):Id->Prop:=λid=>id.1=u/\id.2.2=32
theorem xon:∀l:List Nat,(prsM l).length<=l.length
 |x::y::r=>by have:=xon r;simp only[prsM,xwk];omega
 |[x]=>by simp[prsM]
 |[]=>by simp[prsM]
theorem frz_img{objs:Id->Option Ob}{L S:Int}{v v':AV}(h:Go.Ix.frz objs 5 v=some v'):Go.Ix.frz objs deep (.agg [I L,I S,v])=some (.agg [I L,I S,v']):=by
 show([I L,I S,v].mapM (Go.Ix.frz objs 5)).map AV.agg=_
 simp only[xxd,xyp,h]
 rfl
theorem l_Image(call:xer)(hs:FHs)(L S:Int){a:AV}{l:List Nat}(ha:Sl f32E a l)(hl:l.length<=1048576) :
 ∀(n k j:Nat) (v:AV) (acc:List Px) (m:Mem) (fc:Nat),l.length<=k+2*n+1->n<j->acc.length<=k->k<=1048577->acc++prsM (l.drop k)=prsM l ->
 Gk 1 pxE (okI 0) m v acc->m.get (0,0,6)=some (.row [I 0,I 0,nilS] 0 false)->m.get (0,4,7)=some (.row [I L,I S,v] 0 false) ->
 ∃w v' m',x44 call hs 0 j a (.ptr (0,0,6) 0 0) (.ptr (0,4,7) 0 0) (I k) m fc=some (.agg [I L,I S,w],m')/\Go.Ix.frz m'.get deep (.agg [I L,I S,w])=some (.agg [I L,I S,v'])/\Sl pxE v' (prsM l):=by
 intro n
 induction n using Nat.strongRecOn with
 |ind n ih=>
 intro k j v acc m fc hn hj hacc hkb hP hG h6 h7
 obtain⟨j,rfl⟩:∃i,j=i+1:=⟨j-1,by omega⟩
 obtain⟨hv1,hv2⟩:=hG.one
 simp only[x44]
 unfold x9o
 by_cases hk:k+1<l.length
 rotate_left
 .have hk':¬((k:Int)+1<(l.length:Int)):=by omega
  have e0:prsM (l.drop k)=[]:=by
   have h1:(l.drop k).length<=1:=by rw[x102];omega
   cases h2:l.drop k with
   |nil=>rfl
   |cons x r=>
    rw[h2]at h1
    have:r=[]:=x100.mp (by simpa using h1)
    subst this
    rfl
  rw[e0,x106]at hP
  subst hP
  have hG2:Gk 1 pxE (okI 0) (m.set (0,0,6) (.row [I L,I S,v] 0 false)) v (prsM l):=hG.frame λid hid=>Mem.get_set_ne (by rintro rfl;exact absurd hid.2 (by decide))
  obtain⟨v',hv',hf⟩:=hG2.frz (k:=3) pxL pxS
  refine⟨v,v',m.set (0,0,6) (.row [I L,I S,v] 0 false),?_,frz_img hf,hv'⟩
  simp(disch:=omega) [ha.len u_f32,hk',xet,x9n,h7,h6,hv2,sLdP]
 .have hk':(k:Int)+1<(l.length:Int):=by omega
  have i1:=ha.ix f32L (k:=k) (by omega)
  have i2:=ha.ix f32L (k:=k+1) hk
  rw[xgq (by omega),xwy]at i1
  rw[xgq hk,xwy]at i2
  have ed:l.drop k=l[k]::l[k+1]::l.drop (k+2):=by rw[xgq (by omega),xgq hk]
  rw[ed]at hP
  simp only[prsM]at hP
  obtain⟨v2,m2,hA,hG2,c2,o2,hn2,hfr⟩:=hG.app pxL (by decide) (bytes:=8) (id0:=(0,fc+18,32)) ⟨rfl,rfl⟩ (by unfold xf8;omega) (l[k],l[k+1])
  have g6:m2.get (0,0,6)=some (.row [I 0,I 0,nilS] 0 false):=by rw[hfr _ (λh=>absurd h.2 (by decide))];exact h6
  have g7:m2.get (0,4,7)=some (.row [I L,I S,v] 0 false):=by rw[hfr _ (λh=>absurd h.2 (by decide))];exact h7
  obtain⟨w,v',m',e,hf,hS⟩:=ih (n-1) (by omega) (k+2) j v2 (acc++[(l[k],l[k+1])]) (m2.set (0,4,7) (.row [I L,I S,v2] 0 false)) (fc+24) (by omega) (by omega) (by simp;omega) (by omega) (by rw[<-hP];simp)
   (hG2.frame λid hid=>Mem.get_set_ne (by rintro rfl;exact absurd hid.2 (by decide))) (by rw[Mem.get_set_ne (by decide)];exact g6) (by simp)
  refine⟨w,v',m',?_,hf,hS⟩
  rw[<-e]
  have hA':∀(k':AV->Mem->O2),sApp 1 8 (0,fc+18,32) (some ([C32 l[k] l[k+1]],1)) v m k'=k' v2 m2:=hA
  have i2':sIx 1 a (I ((k:Int)+1))=some (.plit (f32E l[k+1]++List.flatMap f32E (List.drop (k+1+1) l))):=by rw[<-i2];rfl
  simp(disch:=omega) [ha.len u_f32,hk',xet,h7,i1,i2',f32E,cplx32,z_c64]
  rw[xo4 (cells_c32 _ _) rfl rfl,show elems m.get 1 (.slit [C32 l[k] l[k+1]] 1 true)=some ([C32 l[k] l[k+1]],1)from rfl,hA']
  simp[g7,o2,c2,tR,xfo,disj]
theorem w_Image(d:Nat)(L S:Int){a:AV}{l:List Nat}(ha:Sl f32E a l)(hl:l.length<=1048576):∃b,Sl pxE b (prsM l)/\∀m,xeq (xep (d+1)) x2b [I L,I S,a] m=some (.agg [I L,I S,b],m):=by
 obtain⟨w,v',m',e,hf,hS⟩:=l_Image (xep d) [] L S ha hl (l.length / 2) 0 NN nilS [] ((((⟨[],1⟩:Mem).new (0,0,6) (.row [I 0,I 0,nilS] 0 false)).new (0,4,7) (.row [I 0,I 0,nilS] 0 false)).set (0,4,7) (.row [I L,I S,nilS] 0 false)) 7 (by omega) (by rw[xfm];omega) (by simp) (by omega) rfl Gk.nil (by simp) (by simp)
 refine⟨v',hS,λm=>xez (by simp[ha.still]) ?_ m⟩
 rw[xb9]
 unfold x7x x5d
 simp[mem0,xk8,xew,build_im,x9p]
 exact⟨_,_,_,e,hf,rfl⟩
theorem xry(d:Nat)(L S:Int){a:AV}{l:List Nat}(ha:Sl f32E a l)(hl:l.length<=1048576):∃b,Sl pxE b (prsM l)/\∀m,xeq (xep (d+2)) x1i [.agg [I L,I S,a]] m=some (.agg [I L,I S,b],m):=by
 obtain⟨b,hb,e⟩:=w_Image d L S ha hl
 refine⟨b,hb,λm=>xez (by simp[ha.still1]) ?_ m⟩
 rw[xbb]
 unfold x7z x5f
 simp[mem0,xk8,xew,ha.one,e,hb.one,sLdP]
 exact RetF.st (by simp[hb.still1]) rfl
theorem xrz(d:Nat)(L S:Int){a:AV}{l:List Nat}(ha:Sl f32E a l)(m:Mem):xeq (xep (d+1)) x1h [.agg [I L,I S,a]] m=some (B (decide (l.length<=200)),m):=by
 refine xez (by simp[ha.still1]) ?_ m
 rw[xba]
 unfold x7y x5e
 simp[mem0,ha.one,ha.len u_f32]
 refine RetF.st rfl ?_
 by_cases c:l.length<=200
 .have:(l.length:Int)<=200:=by omega
  simp[c,this]
 .have:¬(l.length:Int)<=200:=by omega
  simp[c,this]
def xi6(p:Px):Int:=pE (fcs p.1) (fcs p.2)
def chkS:Nat->List Px->Int×Int
 |_,[]=>(0,0)
 |k,p::r=>if xi6 p=0 then chkS (k+1) r else((k:Int),xi6 p)
def szE(L S:Int)(n:Nat):Int:=bif wi L 1 64&&wi S 1 64 then(if(n:Int)=L*S then 0 else 10)else 2
def imE(L S:Int)(D:List Px):Int×Int:=if szE L S D.length=0 then chkS 0 D else(0,szE L S D.length)
theorem xmi(d:Nat)(a b c:Int)(m:Mem):xeq (xep (d+1)) x1s [I a,I b,I c] m=some (B (wi a b c),m):=by
 refine call0 rfl (m':=⟨[],1⟩) ?_ rfl
 rw[xci]
 unfold x95 x7h wi
 by_cases h:b<=a<;>by_cases h2:a<=c<;>simp[h,h2,mem0]
theorem xle{L S:Int}(h1:wi L 1 64=true)(h2:wi S 1 64=true):1<=L*S/\L*S<=4096:=by
 have:=wi_t h1
 have:=wi_t h2
 have h3:L*S<=64*64:=xyg (by omega) (by omega) (by omega) (by omega)
 have h4:1*1<=L*S:=xyg (by omega) (by omega) (by omega) (by omega)
 omega
theorem w_szErr3(d:Nat)(L S:Int)(n:Nat)(m:Mem):xeq (xep (d+2)) x2v [I L,I S,I n] m=some (I (szE L S n),m):=by
 refine xez rfl ?_ m
 rw[xcb]
 unfold x8y x79 szE
 cases c1:wi L 1 64
 .simp[mem0,xmi,c1];exact RetF.st rfl rfl
 cases c2:wi S 1 64
 .simp[mem0,xmi,c1,c2];exact RetF.st rfl rfl
 have hb:=xle c1 c2
 by_cases c3:(n:Int)=L*S
 .simp(disch:=omega) [mem0,xmi,c1,c2,xet,c3];exact RetF.st rfl rfl
 .simp(disch:=omega) [mem0,xmi,c1,c2,xet,c3];exact RetF.st rfl rfl
theorem xu3(d:Nat)(L S:Int)(n:Nat)(m:Mem):xeq (xep (d+2)) x2t [I L,I S,I n] m=some (I (szE L S n),m):=by
 refine xez rfl ?_ m
 rw[xc6]
 unfold x8t x73 szE
 cases c1:wi L 1 64
 .simp[mem0,xg5,c1];exact RetF.st rfl rfl
 cases c2:wi S 1 64
 .simp[mem0,xg5,c1,c2];exact RetF.st rfl rfl
 have hb:=xle c1 c2
 by_cases c3:(n:Int)=L*S
 .simp(disch:=omega) [mem0,xg5,c1,c2,xet,c3];exact RetF.st rfl rfl
 .simp(disch:=omega) [mem0,xg5,c1,c2,xet,c3];exact RetF.st rfl rfl
variable{a:AV}{D:List Px}{L S:Int}
theorem xu4(d:Nat)(hs:FHs)(u:Nat)(ha:Sl pxE a D)(hl:D.length<=5000):∀(suf:List Px) (k j:Nat) (m:Mem) (fc:Nat),D.drop k=suf->suf.length<j ->
 x3m (xep (d+4)) hs u j xgr a (I D.length) (I k) m fc=some (.tup [I (chkS k suf).1,I (chkS k suf).2],m):=by
 intro suf
 induction suf with
 |nil=>
  intro k j m fc hd hj
  obtain⟨j,rfl⟩:∃i,j=i+1:=⟨j-1,by simp at hj;omega⟩
  have hk:¬((k:Int)<(D.length:Int)):=by have:=xxn.mp hd;omega
  simp only[x3m]
  unfold x7a
  simp[hk,xag,chkS]
 |cons e r ih=>
  intro k j m fc hd hj
  obtain⟨j,rfl⟩:∃i,j=i+1:=⟨j-1,by simp at hj;omega⟩
  obtain⟨hk,he,hd⟩:=xo1 hd
  have hk':(k:Int)<(D.length:Int):=by omega
  have ix:=ha.ix pxL hk
  rw[xgq hk,xwy,he]at ix
  simp only[x3m]
  unfold x7a
  rw[chkS]
  by_cases c:xi6 e=0
  .have h':=ih (k+1) j m (fc+14) hd (by simp at hj;omega)
   have c':pE (fcs e.1) (fcs e.2)=0:=c
   rw[if_pos c,<-h']
   simp(disch:=omega) [hk',ix,pxE,xrm,c',xet]
  .have c':¬pE (fcs e.1) (fcs e.2)=0:=c
   rw[if_neg c]
   simp(disch:=omega) [hk',ix,pxE,xrm,c',xet,xi6]
theorem xu5(d:Nat)(ha:Sl pxE a D)(hl:D.length<=5000)(m:Mem):xeq (xep (d+6)) x2o [.agg [I L,I S,a]] m=some (.tup [I (imE L S D).1,I (imE L S D).2],m):=by
 have hsE:∀m,xeq (xep (d+5)) x2w [a,xgr] m=some (.tup [I (chkS 0 D).1,I (chkS 0 D).2],m):=λm=>by
  refine xez (by simp[ha.still]) ?_ m
  rw[xcc]
  unfold x8z x7b xah
  have h':=xu4 d [] 0 ha hl D 0 NN ⟨[],1⟩ 5 rfl (by rw[xfm];omega)
  simp[mem0,ha.len xk7]
  rw[show(0:Int)=((0:Nat):Int)from rfl,h']
  exact RetF.tup rfl rfl
 refine xez (by simp[ha.still1]) ?_ m
 rw[xbz]
 unfold x8m x6u
 simp[mem0,ha.one,ha.len xk7,w_szErr3,hsE]
 unfold imE
 by_cases c:szE L S D.length=0
 .simp[c];exact RetF.tup rfl rfl
 .simp[c];exact RetF.tup rfl rfl
theorem xu6(d:Nat)(hs:FHs)(u:Nat)(ha:Sl pxE a D)(hl:D.length<=5000):∀(suf:List Px) (k j:Nat) (m:Mem) (fc:Nat),D.drop k=suf->suf.length<j->m.get (u,0,1)=some (.row [I L,I S,a] 0 false) ->
 x3g (xep (d+3)) hs u j (.ptr (u,0,1) 0 0) (I k) m fc=some (.tup [I (chkS k suf).1,I (chkS k suf).2],m):=by
 intro suf
 induction suf with
 |nil=>
  intro k j m fc hd hj hg
  obtain⟨j,rfl⟩:∃i,j=i+1:=⟨j-1,by simp at hj;omega⟩
  have hk:¬((k:Int)<(D.length:Int)):=by have:=xxn.mp hd;omega
  simp only[x3g]
  unfold x6e
  simp[hk,hg,ha.len xk7,xa6,chkS]
 |cons e r ih=>
  intro k j m fc hd hj hg
  obtain⟨j,rfl⟩:∃i,j=i+1:=⟨j-1,by simp at hj;omega⟩
  obtain⟨hk,he,hd⟩:=xo1 hd
  have hk':(k:Int)<(D.length:Int):=by omega
  have ix:=ha.ix pxL hk
  rw[xgq hk,xwy,he]at ix
  simp only[x3g]
  unfold x6e
  rw[chkS]
  by_cases c:xi6 e=0
  .have h':=ih (k+1) j m (fc+17) hd (by simp at hj;omega) hg
   have c':pE (fcs e.1) (fcs e.2)=0:=c
   rw[if_pos c,<-h']
   simp(disch:=omega) [hk',hg,ha.len xk7,ix,pxE,xrn,c',xet]
  .have c':¬pE (fcs e.1) (fcs e.2)=0:=c
   rw[if_neg c]
   simp(disch:=omega) [hk',hg,ha.len xk7,ix,pxE,xrn,c',xet,xi6]
theorem xu7(d:Nat)(ha:Sl pxE a D)(hl:D.length<=5000)(m:Mem):xeq (xep (d+4)) x2j [.agg [I L,I S,a]] m=some (.tup [I (imE L S D).1,I (imE L S D).2],m):=by
 refine xez (by simp[ha.still1]) ?_ m
 rw[xbp]
 unfold x8c x6f
 simp[mem0,ha.one,ha.len xk7,xu3]
 unfold imE
 by_cases c:szE L S D.length=0
 .have h':=xu6 (L:=L) (S:=S) d [] 0 ha hl D 0 NN ((⟨[],1⟩:Mem).new (0,0,1) (.row [I L,I S,a] 0 false)) 15 rfl (by rw[xfm];omega) (by simp)
  simp[c,xa7]
  rw[show(0:Int)=((0:Nat):Int)from rfl,h']
  exact RetF.tup rfl rfl
 .simp[c];exact RetF.tup rfl rfl
theorem xs0(d:Nat)(ha:Sl pxE a D)(hl:D.length<=5000)(m:Mem):xeq (xep (d+7)) x2g [.agg [I L,I S,a]] m=some (I (imE L S D).2,m):=by
 refine xez (by simp[ha.still1]) ?_ m
 rw[xbm]
 unfold x8a x65
 simp[mem0,ha.one,xu5 d ha hl]
 exact RetF.st rfl rfl
theorem xs1(d:Nat)(ha:Sl pxE a D)(hl:D.length<=5000)(m:Mem):xeq (xep (d+5)) x1k [.agg [I L,I S,a]] m=some (I (imE L S D).2,m):=by
 refine xez (by simp[ha.still1]) ?_ m
 rw[xbh]
 unfold x85 x5o
 simp[mem0,ha.one,xu7 d ha hl]
 exact RetF.st rfl rfl
end Go.Ix
set_option maxRecDepth 100000
namespace Go.Proofs.YtifmaegopmkaoaaGreat
open Go.ChangeShapes Go.WideShapes Go.ChangeAt Go.RowKit Go.Ix
theorem sh_f32{q:List AV}(h:Sh Tryz.prog x8 q):∃x,q=f32E x:=by
 have e:Tryz.prog.underlying x8=some (.float .f32):=by kernel_rfl
 cases h with
 |float h' b wf=>rw[e]at h';cases h';exact⟨b,rfl⟩
 |string h'=>rw[e]at h';cases h'
 |int h'=>rw[e]at h';cases h'
 |nilS h'=>rw[e]at h';cases h'
 |slice h'=>rw[e]at h';cases h'
 |bool h'=>rw[e]at h';cases h'
 |struct h'=>rw[e]at h';cases h'
 |array h'=>rw[e]at h';cases h'
theorem f32s_sh{z:AV}(f:Sh Tryz.prog x14 [z]):∃l,Sl f32E z l:=sl_sh (e:=x8) (by kernel_rfl) (λ_ _ hr=>sh_f32 hr) f
theorem shot_sh{q:List AV}(hq:Sh Tryz.prog xn q):∃L S b l,q=[I L,I S,b]/\Sl f32E b l:=by
 obtain⟨fs,h1,h2⟩:=fs_of (t:=xn) (l:=[(xey,0),(xey,1),(x14,2)]) (by kernel_rfl)
 obtain⟨hl,hf⟩:=Sh.struct_inv h1 hq
 have hc:Tryz.prog.cellsOf xn=3:=by kernel_rfl
 rw[hc]at hl
 have c1:Tryz.prog.cellsOf xey=1:=by kernel_rfl
 have c2:Tryz.prog.cellsOf x14=1:=by kernel_rfl
 match q,hl with
 |[x0,x1,x2],_=>
  have g:∀t o,(t,o)∈[(xey,0),(xey,1),(x14,2)]->Sh Tryz.prog t ((([x0,x1,x2]:List AV).drop o).take (Tryz.prog.cellsOf t)):=by
   intro t o hm
   rw[<-h2]at hm
   obtain⟨f,hf1,hf2⟩:=xwr.mp hm
   cases hf2
   exact hf f hf1
  have g0:=g xey 0 (by simp)
  have g1:=g xey 1 (by simp)
  have g2:=g x14 2 (by simp)
  rw[c1]at g0 g1
  rw[c2]at g2
  obtain⟨n0,e0⟩:=sh_int g0
  obtain⟨n1,e1⟩:=sh_int g1
  obtain⟨l,hl⟩:=f32s_sh (z:=x2) g2
  simp at e0 e1
  subst e0 e1
  exact⟨n0,n1,x2,l,rfl,hl⟩
theorem two_in3{a:AV}(h:ArgSh Tryz.prog xam a):∃L S b l L' S' b' l',a=.agg [I L,I S,b,I L',I S',b']/\Sl f32E b l/\Sl f32E b' l':=by
 obtain⟨fs,h1,h2⟩:=fs_of (t:=xam) (l:=[(xn,0),(xn,3)]) (by kernel_rfl)
 obtain⟨q,rfl,hq⟩:=h.struct h1
 obtain⟨hl,hf⟩:=Sh.struct_inv h1 hq
 have hc:Tryz.prog.cellsOf xam=6:=by kernel_rfl
 rw[hc]at hl
 have c1:Tryz.prog.cellsOf xn=3:=by kernel_rfl
 match q,hl with
 |[x0,x1,x2,x3,x4,x5],_=>
  have g:∀t o,(t,o)∈[(xn,0),(xn,3)]->Sh Tryz.prog t ((([x0,x1,x2,x3,x4,x5]:List AV).drop o).take (Tryz.prog.cellsOf t)):=by
   intro t o hm
   rw[<-h2]at hm
   obtain⟨f,hf1,hf2⟩:=xwr.mp hm
   cases hf2
   exact hf f hf1
  have g0:=g xn 0 (by simp)
  have g1:=g xn 3 (by simp)
  rw[c1]at g0 g1
  obtain⟨L,S,b,l,e0,hb⟩:=shot_sh g0
  obtain⟨L',S',b',l',e1,hb'⟩:=shot_sh g1
  simp at e0 e1
  obtain⟨rfl,rfl,rfl⟩:=e0
  obtain⟨rfl,rfl,rfl⟩:=e1
  exact⟨_,_,_,l,_,_,_,l',rfl,hb,hb'⟩
end Go.Proofs.YtifmaegopmkaoaaGreat
namespace Go.Proofs.YtifmaegopmkaoaaGreat
open Go.ChangeShapes Go.WideShapes Go.ChangeAt Go.RowKit Go.Ix
theorem tk3_in{a:AV}(h:ArgSh Tryz.prog x7o a):∃x y z u v w,a=.agg [I x,I y,I z,I u,I v,I w]:=by
 obtain⟨fs,h1,-⟩:=fs_of (t:=x7o) (l:=[(xey,0),(xey,1),(xey,2),(xey,3),(xey,4),(xey,5)]) (by kernel_rfl)
 obtain⟨q,rfl,hq⟩:=h.struct h1
 have hl:=(Sh.struct_inv h1 hq).1
 have hc:Tryz.prog.cellsOf x7o=6:=by kernel_rfl
 have hf:=xoc 4 (show xk2 Tryz.prog 4 x7o=true by kernel_rfl) hq
 rw[hc]at hl
 match q,hl with
 |[x0,x1,x2,x3,x4,x5],_=>
  obtain⟨n0,rfl⟩:=hf x0 (by simp)
  obtain⟨n1,rfl⟩:=hf x1 (by simp)
  obtain⟨n2,rfl⟩:=hf x2 (by simp)
  obtain⟨n3,rfl⟩:=hf x3 (by simp)
  obtain⟨n4,rfl⟩:=hf x4 (by simp)
  obtain⟨n5,rfl⟩:=hf x5 (by simp)
  exact⟨n0,n1,n2,n3,n4,n5,rfl⟩
end Go.Proofs.YtifmaegopmkaoaaGreat
namespace Go.Ix
open Go.Proofs Ieee
def val(x:Nat):Int:=match fcs x with
 | .num s V=>sg s (V / 2 ^ 1074)
 |_=>0
def RtP(x:Nat):Prop:=∃s k,fcs x=.num s (k*2 ^ 1074)/\k<=2047
theorem RtP.val{x:Nat}(h:RtP x):∃s k,fcs x=.num s (k*2 ^ 1074)/\k<=2047/\val x=sg s k:=by
 obtain⟨s,k,h1,h2⟩:=h
 refine⟨s,k,h1,h2,?_⟩
 unfold Go.Ix.val
 rw[h1]
 show sg s (k*2 ^ 1074 / 2 ^ 1074)=_
 rw[Nat.mul_div_cancel _ (Nat.two_pow_pos _)]
theorem RtP.bd{x:Nat}(h:RtP x):-2047<=Go.Ix.val x/\Go.Ix.val x<=2047:=by
 obtain⟨s,k,-,h2,h3⟩:=h.val
 rw[h3]
 cases s<;>simp[sg]<;>omega
theorem xs2{c:Fc}(h1:c.whole=true)(h2:c.big=false):∃s k,c=.num s (k*2 ^ 1074)/\k<=2047:=by
 obtain⟨s,V,rfl⟩:=xl8 h1
 have h1:(V % 2 ^ 1074 == 0)=true:=h1
 have h2:decide (2047*2 ^ 1074<V)=false:=h2
 have g1:V % 2 ^ 1074=0:=by simpa using h1
 have g2:¬2047*2 ^ 1074<V:=of_decide_eq_false h2
 have hd:=Nat.div_add_mod V (2 ^ 1074)
 have hp:0<2 ^ 1074:=Nat.two_pow_pos _
 refine⟨s,V / 2 ^ 1074,?_,?_⟩
 .congr 1
  rw[g1,Nat.mul_comm]at hd
  omega
 .exact Nat.le_of_lt_succ (Nat.div_lt_of_lt_mul (by
   generalize (2:Nat) ^ 1074=K at *
   have:K*(2047+1)=2047*K+K:=by omega
   omega))
theorem pxErr_0{p:Px}(h:xi6 p=0):RtP p.1/\RtP p.2:=by
 unfold xi6 pE at h
 cases c1:(fcs p.1).whole
 .rw[c1]at h;simp at h
 cases c2:(fcs p.2).whole
 .rw[c1,c2]at h;simp at h
 rw[c1,c2]at h
 cases b1:(fcs p.1).big
 rotate_left
 .rw[b1]at h;simp at h
 cases b2:(fcs p.2).big
 rotate_left
 .rw[b1,b2]at h;simp at h
 exact⟨xs2 c1 b1,xs2 c2 b2⟩
def RtD(D:List Px):Prop:=∀p∈D,RtP p.1/\RtP p.2
theorem chkS_0:∀(D:List Px) (k:Nat),(chkS k D).2=0->RtD D
 |[],_,_=>λ_ h=>by cases h
 |p::r,k,h=>by
  unfold chkS at h
  by_cases c:xi6 p=0
  .rw[if_pos c]at h
   have:=chkS_0 r (k+1) h
   intro q hq
   rcases xwh.mp hq with rfl|hq
   .exact pxErr_0 c
   .exact this q hq
  .rw[if_neg c]at h;exact absurd h c
structure RtI (L S:Int) (D:List Px):Prop where
 l:wi L 1 64=true
 s:wi S 1 64=true
 n:(D.length:Int)=L*S
 d:RtD D
theorem imE_0{L S:Int}{D:List Px}(h:(imE L S D).2=0):RtI L S D:=by
 unfold imE at h
 by_cases c:szE L S D.length=0
 .rw[if_pos c]at h
  unfold szE at c
  cases c1:wi L 1 64
  .rw[c1]at c;simp at c
  cases c2:wi S 1 64
  .rw[c1,c2]at c;simp at c
  rw[c1,c2]at c
  by_cases c3:(D.length:Int)=L*S
  .exact⟨c1,c2,c3,chkS_0 D 0 h⟩
  .simp[c3]at c
 .rw[if_neg c]at h;exact absurd h c
theorem Fz_i{x y:Nat}(hx:RtP x)(hy:RtP y){v:Value}(h:Fz (fcs x) (fcs y) v):Fzi (val x) (val y) v:=by
 obtain⟨s,k,h1,h2,h3⟩:=hx.val
 obtain⟨s',k',g1,g2,g3⟩:=hy.val
 rw[h1,g1]at h
 obtain⟨p,q,rfl,hp,hq⟩:=h
 rw[h3,g3]
 exact⟨p,q,rfl,Cl_I hp,Cl_I hq⟩
theorem s_c2ci{x y:Nat}(hx:RtP x)(hy:RtP y):∃r,sCvt Tryz.prog xb x9 (C32 x y)=some r/\Is (Fzi (val x) (val y)) r:=by
 obtain⟨r,e,h⟩:=s_c2c x y
 exact⟨r,e,h.mono λv hv=>Fz_i hx hy hv⟩
def atM(L S:Int)(D:List Px)(l s:Int):Int×Int:=
 bif wi l 0 (L-1)&&wi s 0 (S-1)then(val (D.getD (l*S+s).toNat (0,0)).1,val (D.getD (l*S+s).toNat (0,0)).2)else(0,0)
theorem I_0:IsI 0 0:=⟨false,0,-1074,rfl,by omega,by omega,by
 show((0*2 ^ ((-1074:Int)+1074).toNat:Nat):Int)=0*2 ^ 1074
 rw[xwu,Int.zero_mul];rfl⟩
theorem at_in{L S l s:Int}{D:List Px}(hR:RtI L S D)(h1:wi l 0 (L-1)=true)(h2:wi s 0 (S-1)=true):0<=l*S+s/\l*S+s<D.length/\0<=l*S/\l*S<=4096:=by
 have a1:=wi_t h1
 have a2:=wi_t h2
 have a3:=wi_t hR.s
 have a4:=wi_t hR.l
 have b1:0<=l*S:=xxh (by omega) (by omega)
 have b2:l*S<=(L-1)*S:=xy5 (by omega) (by omega)
 have b3:(L-1)*S=L*S-S:=by rw[Int.sub_mul,xy6]
 have b4:=xle hR.l hR.s
 have:=hR.n
 omega
variable{a:AV}{D:List Px}{L S:Int}
theorem w_at(d:Nat)(ha:Sl pxE a D)(hR:RtI L S D)(l s:Int)(m:Mem):∃r,xeq (xep (d+2)) x2p [.agg [I L,I S,a],I l,I s] m=some (r,m)/\Is (Fzi (atM L S D l s).1 (atM L S D l s).2) r:=by
 have hl:=wi_t hR.l
 have hs:=wi_t hR.s
 cases c1:wi l 0 (L-1)
 .refine⟨.sc (.complex .f64 0 0),xez (by simp[ha.still1]) ?_ m,?_⟩
  .rw[x9e]
   unfold x3r x3j
   simp(disch:=omega) [mem0,ha.one,xh5,c1,xet]
   exact RetF.st rfl rfl
  .unfold atM
   rw[c1]
   exact Is.sc ⟨0,0,rfl,I_0,I_0⟩
 cases c2:wi s 0 (S-1)
 .refine⟨.sc (.complex .f64 0 0),xez (by simp[ha.still1]) ?_ m,?_⟩
  .rw[x9e]
   unfold x3r x3j
   simp(disch:=omega) [mem0,ha.one,xh5,c1,c2,xet]
   exact RetF.st rfl rfl
  .unfold atM
   rw[c1,c2]
   exact Is.sc ⟨0,0,rfl,I_0,I_0⟩
 obtain⟨b1,b2,b3,b4⟩:=at_in hR c1 c2
 have hk:(l*S+s).toNat<D.length:=by omega
 have ix:=ha.ixI pxL b1 b2
 rw[xgq hk,xwy]at ix
 have hrt:=hR.d _ (xxj hk)
 obtain⟨r,e,hr⟩:=s_c2ci hrt.1 hrt.2
 have b5:=xle hR.l hR.s
 have b6:=hR.n
 refine⟨r,xez (by simp[ha.still1]) ?_ m,?_⟩
 .rw[x9e]
  unfold x3r x3j
  simp(disch:=omega) [mem0,ha.one,xh5,c1,c2,xet,ix,pxE,e]
  exact RetF.st hr.oneZi.st rfl
 .unfold atM
  rw[c1,c2,xwt,xwo hk]
  exact hr
theorem w_lies(d:Nat)(hb:still1 a=true)(ho:a.one=true)(L S l s p q:Int)(h1:w64 (L-p)=L-p)(h2:w64 (S-q)=S-q)(m:Mem):xeq (xep (d+2)) x1o [.agg [I L,I S,a],I l,I s,I p,I q] m=some (B (wi l 0 (L-p)&&wi s 0 (S-q)),m):=by
 refine xez (by simp[hb]) ?_ m
 rw[xc8]
 unfold x8v x75
 cases c1:wi l 0 (L-p)
 .simp[mem0,ho,xg5,h1,h2,c1]
  exact RetF.st rfl rfl
 .simp[mem0,ho,xg5,h1,h2,c1]
  exact RetF.st rfl rfl
theorem s_f32i{x:Nat}(h:RtP x):sCvt Tryz.prog x8 xey (.sc (.float .f32 x))=some (I (val x)):=by
 obtain⟨s,k,h1,h2,h3⟩:=h.val
 refine sCvt_1 (A:=(·=.float .f32 x)) (Is.sc rfl) rfl (λu hu=>by subst hu;rfl) (λu hu=>?_)
 subst hu
 have hn:nfS Tryz.prog (convert x8 xey (.float .f32 x))=nfS Tryz.prog (Conv.floatToInt .f32 x .i64):=by kernel_rfl
 rw[<-xgn,hn,xgn]
 unfold Conv.floatToInt
 have ht:(FloatKind.f32.decode x).toInt .zero=some (sg s k):=by
  show(single.read x).toInt .zero=_
  unfold fcs at h1
  cases hr:single.read x with
  |nan=>rw[hr]at h1;cases h1
  |infinity=>rw[hr]at h1;cases h1
  |number s' m e=>
   rw[hr]at h1
   simp only[Fc.num.injEq]at h1
   obtain⟨rfl,h1⟩:=h1
   obtain⟨q1,q2,q3⟩:=xrf hr
   unfold Datum.toInt
   rw[xoh,xmc (by omega),h1,Nat.mul_div_cancel _ (Nat.two_pow_pos _)]
   show some (signed s' k 0)=_
   unfold signed sg
   rw[Nat.shiftLeft_zero]
 simp only[ht]
 have e1:IntKind.i64.min=-9223372036854775808:=rfl
 have e2:IntKind.i64.max=9223372036854775807:=rfl
 have:=h.bd
 rw[h3]at this
 rw[e1,e2,if_pos (by omega),h3]
 exact OkR.pure rfl
theorem w_Parts{x y:Nat}(hx:RtP x)(hy:RtP y)(d:Nat)(m:Mem):xeq (xep (d+1)) x2z [C32 x y] m=some (.tup [I (val x),I (val y)],m):=by
 refine xez (by simp) ?_ m
 rw[xch]
 unfold x94 x7g
 simp[mem0,real32,imag32,s_f32i hx,s_f32i hy]
 exact RetF.tup rfl rfl
theorem w_rAt(d:Nat)(ha:Sl pxE a D)(hR:RtI L S D)(l s:Int)(m:Mem):xeq (xep (d+3)) x1p [.agg [I L,I S,a],I l,I s] m=some (.tup [I (atM L S D l s).1,I (atM L S D l s).2],m):=by
 have hl:=wi_t hR.l
 have hs:=wi_t hR.s
 have hlies:=λd m=>w_lies d ha.still1 ha.one L S l s 1 1 (xet (by omega) (by omega)) (xet (by omega) (by omega)) m
 refine xez (by simp[ha.still1]) ?_ m
 rw[xc9]
 unfold x8w x76 atM
 cases c:(wi l 0 (L-1)&&wi s 0 (S-1))
 .simp[mem0,ha.one,hlies,c]
  exact RetF.tup rfl rfl
 have c':=c
 rw[xwb]at c'
 obtain⟨c1,c2⟩:=c'
 obtain⟨b1,b2,b3,b4⟩:=at_in hR c1 c2
 have hk:(l*S+s).toNat<D.length:=by omega
 have ix:=ha.ixI pxL b1 b2
 rw[xgq hk,xwy]at ix
 have hrt:=hR.d _ (xxj hk)
 have b5:=xle hR.l hR.s
 have b6:=hR.n
 simp(disch:=omega) [mem0,ha.one,hlies,c,xet,ix,pxE,w_Parts hrt.1 hrt.2]
 exact RetF.tup rfl rfl
end Go.Ix
