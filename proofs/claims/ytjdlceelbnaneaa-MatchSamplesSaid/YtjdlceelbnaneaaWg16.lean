import Derived.Test.YtjdlceelbnaneaaWg15
import Derived.Test.YtjdlceelbnaneaaWg9
import Derived.Test.YtjdlceelbnaneaaWg3
set_option linter.unusedSimpArgs false
set_option linter.unusedVariables false
namespace Go.Ix
open Go.Proofs
attribute [local simp high] rd_5
section
variable{f:Aff}{x:Mp}
end
variable{a:AV}{l:List Mp}{f:Aff}
end Go.Ix
set_option exponentiation.threshold 3000
namespace Go.Ix
open Go.Proofs Ieee
abbrev Px:=Nat×Nat
def pxE(p:Px):List AV:=[C32 p.1 p.2]
theorem pxL(p:Px):(pxE p).length=1:=rfl
theorem pxS(p:Px):(pxE p).all still1=true:=rfl
def f32E(x:Nat):List AV:=[.sc (.float .f32 x)]
theorem f32L(x:Nat):(f32E x).length=1:=rfl
def prsM:List Nat->List Px
 |x::y::r=>(x,y)::prsM r
 |_=>[]
theorem x9i:Try.prog.underlying xl=some (.slice x5):=by kernel_rfl
theorem u_f32:Try.prog.underlying xf=some (.slice x4):=by kernel_rfl
theorem z_img:xx=[I 0,I 0,nilS]:=by kernel_rfl
theorem z_c64:xe=[C32 0 0]:=by kernel_rfl
theorem cplx32(x y:Nat):x7y Try.prog .complex #[x4,x4] x5 [.sc (.float .f32 x),.sc (.float .f32 y)]=some (C32 x y):=by
 have h:x7t Try.prog (biS .complex #[x4,x4] x5 [.float .f32 x,.float .f32 y])=some (.complex .f32 x y):=by kernel_rfl
 unfold x7y bi0
 simp only[show x83 [AV.sc (.float .f32 x),AV.sc (.float .f32 y)]=some [.float .f32 x,.float .f32 y]from rfl,h]
 rfl
theorem cells_c32(x y:Nat):(C32 x y).cells=[C32 x y]:=rfl
theorem build_im(L S:Int):x8y xx [(0,1,I L),(1,1,I S)]=some (.agg [I L,I S,nilS]):=by
 rw[z_img];rfl
def okI(u:Nat):Id->Prop:=λid=>id.1=u/\id.2.2=32
theorem prs_len:∀l:List Nat,(prsM l).length<=l.length
 |x::y::r=>by have:=prs_len r;simp only[prsM,xl6];omega
 |[x]=>by simp[prsM]
 |[]=>by simp[prsM]
theorem frz_img{objs:Id->Option Ob}{L S:Int}{v v':AV}(h:Go.Ix.frz objs 5 v=some v'):Go.Ix.frz objs deep (.agg [I L,I S,v])=some (.agg [I L,I S,v']):=by
 show([I L,I S,v].mapM (Go.Ix.frz objs 5)).map AV.agg=_
 simp only[xmc,List.mapM_nil,h]
 rfl
theorem l_Image(call:x7q)(hs:FHs)(L S:Int){a:AV}{l:List Nat}(ha:Sl f32E a l)(hl:l.length<=1000) :
 ∀(n k j:Nat) (v:AV) (acc:List Px) (m:Mem) (fc:Nat),l.length<=k+n->n<j->acc.length<=k->k<=1001->acc++prsM (l.drop k)=prsM l ->
 Gk 1 pxE (okI 0) m v acc->m.get (0,0,6)=some (.row [I 0,I 0,nilS] 0 false)->m.get (0,4,7)=some (.row [I L,I S,v] 0 false) ->
 ∃w v' m',x1z call hs 0 j a (.ptr (0,0,6) 0 0) (.ptr (0,4,7) 0 0) (I k) m fc=some (.agg [I L,I S,w],m')/\Go.Ix.frz m'.get deep (.agg [I L,I S,w])=some (.agg [I L,I S,v'])/\Sl pxE v' (prsM l):=by
 intro n
 induction n using Nat.strongRecOn with
 |ind n ih=>
 intro k j v acc m fc hn hj hacc hkb hP hG h6 h7
 obtain⟨j,rfl⟩:∃i,j=i+1:=⟨j-1,by omega⟩
 obtain⟨hv1,hv2⟩:=hG.one
 simp only[x1z]
 unfold x51
 by_cases hk:k+1<l.length
 rotate_left
 .have hk':¬((k:Int)+1<(l.length:Int)):=by omega
  have e0:prsM (l.drop k)=[]:=by
   have h1:(l.drop k).length<=1:=by rw[xo5];omega
   cases h2:l.drop k with
   |nil=>rfl
   |cons x r=>
    rw[h2]at h1
    have:r=[]:=xo3.mp (by simpa using h1)
    subst this
    rfl
  rw[e0,xo9]at hP
  subst hP
  have hG2:Gk 1 pxE (okI 0) (m.set (0,0,6) (.row [I L,I S,v] 0 false)) v (prsM l):=hG.frame λid hid=>Mem.get_set_ne (by rintro rfl;exact absurd hid.2 (by decide))
  obtain⟨v',hv',hf⟩:=hG2.frz (k:=3) pxL pxS
  refine⟨v,v',m.set (0,0,6) (.row [I L,I S,v] 0 false),?_,frz_img hf,hv'⟩
  simp(disch:=omega) [ha.len u_f32,hk',x86,x50,h7,h6,hv2,sLdP]
 .have hk':(k:Int)+1<(l.length:Int):=by omega
  have i1:=ha.ix f32L (k:=k) (by omega)
  have i2:=ha.ix f32L (k:=k+1) hk
  rw[x8n (by omega),xlo]at i1
  rw[x8n hk,xlo]at i2
  have ed:l.drop k=l[k]::l[k+1]::l.drop (k+2):=by rw[x8n (by omega),x8n hk]
  rw[ed]at hP
  simp only[prsM]at hP
  obtain⟨v2,m2,hA,hG2,c2,o2,hn2,hfr⟩:=hG.app pxL (by decide) (bytes:=8) (id0:=(0,fc+18,32)) ⟨rfl,rfl⟩ (by unfold x82;omega) (l[k],l[k+1])
  have g6:m2.get (0,0,6)=some (.row [I 0,I 0,nilS] 0 false):=by rw[hfr _ (λh=>absurd h.2 (by decide))];exact h6
  have g7:m2.get (0,4,7)=some (.row [I L,I S,v] 0 false):=by rw[hfr _ (λh=>absurd h.2 (by decide))];exact h7
  obtain⟨w,v',m',e,hf,hS⟩:=ih (n-2) (by omega) (k+2) j v2 (acc++[(l[k],l[k+1])]) (m2.set (0,4,7) (.row [I L,I S,v2] 0 false)) (fc+24) (by omega) (by omega) (by simp;omega) (by omega) (by rw[<-hP];simp)
   (hG2.frame λid hid=>Mem.get_set_ne (by rintro rfl;exact absurd hid.2 (by decide))) (by rw[Mem.get_set_ne (by decide)];exact g6) (by simp)
  refine⟨w,v',m',?_,hf,hS⟩
  rw[<-e]
  have hA':∀(k':AV->Mem->O2),sApp 1 8 (0,fc+18,32) (some ([C32 l[k] l[k+1]],1)) v m k'=k' v2 m2:=hA
  have i2':sIx 1 a (I ((k:Int)+1))=some (.plit (f32E l[k+1]++List.flatMap f32E (List.drop (k+1+1) l))):=by rw[<-i2];rfl
  simp(disch:=omega) [ha.len u_f32,hk',x86,h7,i1,i2',f32E,cplx32,z_c64]
  rw[xey (cells_c32 _ _) rfl rfl,show elems m.get 1 (.slit [C32 l[k] l[k+1]] 1 true)=some ([C32 l[k] l[k+1]],1)from rfl,hA']
  simp[g7,o2,c2,tR,x8j,disj]
theorem w_Image(d:Nat)(L S:Int){a:AV}{l:List Nat}(ha:Sl f32E a l)(hl:l.length<=1000):∃b,Sl pxE b (prsM l)/\∀m,x7p (x7o (d+1)) x14 [I L,I S,a] m=some (.agg [I L,I S,b],m):=by
 obtain⟨w,v',m',e,hf,hS⟩:=l_Image (x7o d) [] L S ha hl l.length 0 NN nilS [] ((((⟨[],1⟩:Mem).new (0,0,6) (.row [I 0,I 0,nilS] 0 false)).new (0,4,7) (.row [I 0,I 0,nilS] 0 false)).set (0,4,7) (.row [I L,I S,nilS] 0 false)) 7 (by omega) (by rw[xab];omega) (by simp) (by omega) rfl Gk.nil (by simp) (by simp)
 refine⟨v',hS,λm=>x81 (by simp[ha.still]) ?_ m⟩
 rw[x5u]
 unfold x41 x2u
 simp[mem0,z_img,x97,build_im,x52]
 exact⟨_,_,_,e,hf,rfl⟩
theorem w_LImage(d:Nat)(L S:Int){a:AV}{l:List Nat}(ha:Sl f32E a l)(hl:l.length<=1000):∃b,Sl pxE b (prsM l)/\∀m,x7p (x7o (d+2)) xg [.agg [I L,I S,a]] m=some (.agg [I L,I S,b],m):=by
 obtain⟨b,hb,e⟩:=w_Image d L S ha hl
 refine⟨b,hb,λm=>x81 (by simp[ha.still1]) ?_ m⟩
 rw[x5n]
 unfold x3u x2i
 simp[mem0,z_img,x97,ha.one,e,hb.one,sLdP]
 exact RetF.st (by simp[hb.still1]) rfl
theorem w_small3(d:Nat)(L S:Int){a:AV}{l:List Nat}(ha:Sl f32E a l)(m:Mem):x7p (x7o (d+1)) x11 [.agg [I L,I S,a]] m=some (B (decide (l.length<=200)),m):=by
 refine x81 (by simp[ha.still1]) ?_ m
 rw[x5m]
 unfold x3t x2h
 simp[mem0,ha.one,ha.len u_f32]
 refine RetF.st rfl ?_
 by_cases c:l.length<=200
 .have:(l.length:Int)<=200:=by omega
  simp[c,this]
 .have:¬(l.length:Int)<=200:=by omega
  simp[c,this]
def xac(p:Px):Int:=pE (fcs p.1) (fcs p.2)
def chkS:Nat->List Px->Int×Int
 |_,[]=>(0,0)
 |k,p::r=>if xac p=0 then chkS (k+1) r else((k:Int),xac p)
def szE(L S:Int)(n:Nat):Int:=bif wi L 1 64&&wi S 1 64 then(if(n:Int)=L*S then 0 else 10)else 2
def imE(L S:Int)(D:List Px):Int×Int:=if szE L S D.length=0 then chkS 0 D else(0,szE L S D.length)
theorem xdq(d:Nat)(a b c:Int)(m:Mem):x7p (x7o (d+1)) xt [I a,I b,I c] m=some (B (wi a b c),m):=by
 refine call0 rfl (m':=⟨[],1⟩) ?_ rfl
 rw[x6c]
 unfold x4j x3i wi
 by_cases h:b<=a<;>by_cases h2:a<=c<;>simp[h,h2,mem0]
theorem xco{L S:Int}(h1:wi L 1 64=true)(h2:wi S 1 64=true):1<=L*S/\L*S<=4096:=by
 have:=wi_t h1
 have:=wi_t h2
 have h3:L*S<=64*64:=xoa (by omega) (by omega) (by omega) (by omega)
 have h4:1*1<=L*S:=xoa (by omega) (by omega) (by omega) (by omega)
 omega
theorem w_szErr3(d:Nat)(L S:Int)(n:Nat)(m:Mem):x7p (x7o (d+2)) x1g [I L,I S,I n] m=some (I (szE L S n),m):=by
 refine x81 rfl ?_ m
 rw[x69]
 unfold x4g x3e szE
 cases c1:wi L 1 64
 .simp[mem0,xdq,c1];exact RetF.st rfl rfl
 cases c2:wi S 1 64
 .simp[mem0,xdq,c1,c2];exact RetF.st rfl rfl
 have hb:=xco c1 c2
 by_cases c3:(n:Int)=L*S
 .simp(disch:=omega) [mem0,xdq,c1,c2,x86,c3];exact RetF.st rfl rfl
 .simp(disch:=omega) [mem0,xdq,c1,c2,x86,c3];exact RetF.st rfl rfl
theorem xji(d:Nat)(L S:Int)(n:Nat)(m:Mem):x7p (x7o (d+2)) x1d [I L,I S,I n] m=some (I (szE L S n),m):=by
 refine x81 rfl ?_ m
 rw[x66]
 unfold x4d x3b szE
 cases c1:wi L 1 64
 .simp[mem0,x9f,c1];exact RetF.st rfl rfl
 cases c2:wi S 1 64
 .simp[mem0,x9f,c1,c2];exact RetF.st rfl rfl
 have hb:=xco c1 c2
 by_cases c3:(n:Int)=L*S
 .simp(disch:=omega) [mem0,x9f,c1,c2,x86,c3];exact RetF.st rfl rfl
 .simp(disch:=omega) [mem0,x9f,c1,c2,x86,c3];exact RetF.st rfl rfl
variable{a:AV}{D:List Px}{L S:Int}
theorem xjj(d:Nat)(hs:FHs)(u:Nat)(ha:Sl pxE a D)(hl:D.length<=5000):∀(suf:List Px) (k j:Nat) (m:Mem) (fc:Nat),D.drop k=suf->suf.length<j ->
 x1r (x7o (d+4)) hs u j x98 a (I D.length) (I k) m fc=some (.tup [I (chkS k suf).1,I (chkS k suf).2],m):=by
 intro suf
 induction suf with
 |nil=>
  intro k j m fc hd hj
  obtain⟨j,rfl⟩:∃i,j=i+1:=⟨j-1,by simp at hj;omega⟩
  have hk:¬((k:Int)<(D.length:Int)):=by have:=xmj.mp hd;omega
  simp only[x1r]
  unfold x3f
  simp[hk,x59,chkS]
 |cons e r ih=>
  intro k j m fc hd hj
  obtain⟨j,rfl⟩:∃i,j=i+1:=⟨j-1,by simp at hj;omega⟩
  obtain⟨hk,he,hd⟩:=xb4 hd
  have hk':(k:Int)<(D.length:Int):=by omega
  have ix:=ha.ix pxL hk
  rw[x8n hk,xlo,he]at ix
  simp only[x1r]
  unfold x3f
  rw[chkS]
  by_cases c:xac e=0
  .have h':=ih (k+1) j m (fc+14) hd (by simp at hj;omega)
   have c':pE (fcs e.1) (fcs e.2)=0:=c
   rw[xkv c,<-h']
   simp(disch:=omega) [hk',ix,pxE,xhq,c',x86]
  .have c':¬pE (fcs e.1) (fcs e.2)=0:=c
   rw[xkw c]
   simp(disch:=omega) [hk',ix,pxE,xhq,c',x86,xac]
theorem xjk(d:Nat)(ha:Sl pxE a D)(hl:D.length<=5000)(m:Mem):x7p (x7o (d+6)) x1b [.agg [I L,I S,a]] m=some (.tup [I (imE L S D).1,I (imE L S D).2],m):=by
 have hsE:∀m,x7p (x7o (d+5)) x1h [a,x98] m=some (.tup [I (chkS 0 D).1,I (chkS 0 D).2],m):=λm=>by
  refine x81 (by simp[ha.still]) ?_ m
  rw[x6a]
  unfold x4h x3g x5a
  have h':=xjj d [] 0 ha hl D 0 NN ⟨[],1⟩ 5 rfl (by rw[xab];omega)
  simp[mem0,ha.len x9i]
  rw[show(0:Int)=((0:Nat):Int)from rfl,h']
  exact RetF.tup rfl rfl
 refine x81 (by simp[ha.still1]) ?_ m
 rw[x63]
 unfold x4a x38
 simp[mem0,ha.one,ha.len x9i,w_szErr3,hsE]
 unfold imE
 by_cases c:szE L S D.length=0
 .simp[c];exact RetF.tup rfl rfl
 .simp[c];exact RetF.tup rfl rfl
theorem xjl(d:Nat)(hs:FHs)(u:Nat)(ha:Sl pxE a D)(hl:D.length<=5000):∀(suf:List Px) (k j:Nat) (m:Mem) (fc:Nat),D.drop k=suf->suf.length<j->m.get (u,0,1)=some (.row [I L,I S,a] 0 false) ->
 x1p (x7o (d+3)) hs u j (.ptr (u,0,1) 0 0) (I k) m fc=some (.tup [I (chkS k suf).1,I (chkS k suf).2],m):=by
 intro suf
 induction suf with
 |nil=>
  intro k j m fc hd hj hg
  obtain⟨j,rfl⟩:∃i,j=i+1:=⟨j-1,by simp at hj;omega⟩
  have hk:¬((k:Int)<(D.length:Int)):=by have:=xmj.mp hd;omega
  simp only[x1p]
  unfold x34
  simp[hk,hg,ha.len x9i,x56,chkS]
 |cons e r ih=>
  intro k j m fc hd hj hg
  obtain⟨j,rfl⟩:∃i,j=i+1:=⟨j-1,by simp at hj;omega⟩
  obtain⟨hk,he,hd⟩:=xb4 hd
  have hk':(k:Int)<(D.length:Int):=by omega
  have ix:=ha.ix pxL hk
  rw[x8n hk,xlo,he]at ix
  simp only[x1p]
  unfold x34
  rw[chkS]
  by_cases c:xac e=0
  .have h':=ih (k+1) j m (fc+17) hd (by simp at hj;omega) hg
   have c':pE (fcs e.1) (fcs e.2)=0:=c
   rw[xkv c,<-h']
   simp(disch:=omega) [hk',hg,ha.len x9i,ix,pxE,xhr,c',x86]
  .have c':¬pE (fcs e.1) (fcs e.2)=0:=c
   rw[xkw c]
   simp(disch:=omega) [hk',hg,ha.len x9i,ix,pxE,xhr,c',x86,xac]
theorem xjm(d:Nat)(ha:Sl pxE a D)(hl:D.length<=5000)(m:Mem):x7p (x7o (d+4)) x19 [.agg [I L,I S,a]] m=some (.tup [I (imE L S D).1,I (imE L S D).2],m):=by
 refine x81 (by simp[ha.still1]) ?_ m
 rw[x60]
 unfold x47 x35
 simp[mem0,ha.one,ha.len x9i,xji]
 unfold imE
 by_cases c:szE L S D.length=0
 .have h':=xjl (L:=L) (S:=S) d [] 0 ha hl D 0 NN ((⟨[],1⟩:Mem).new (0,0,1) (.row [I L,I S,a] 0 false)) 15 rfl (by rw[xab];omega) (by simp)
  simp[c,x57]
  rw[show(0:Int)=((0:Nat):Int)from rfl,h']
  exact RetF.tup rfl rfl
 .simp[c];exact RetF.tup rfl rfl
theorem xjn(d:Nat)(ha:Sl pxE a D)(hl:D.length<=5000)(m:Mem):x7p (x7o (d+7)) x17 [.agg [I L,I S,a]] m=some (I (imE L S D).2,m):=by
 refine x81 (by simp[ha.still1]) ?_ m
 rw[x5y]
 unfold x45 x2y
 simp[mem0,ha.one,xjk d ha hl]
 exact RetF.st rfl rfl
theorem xjo(d:Nat)(ha:Sl pxE a D)(hl:D.length<=5000)(m:Mem):x7p (x7o (d+5)) x12 [.agg [I L,I S,a]] m=some (I (imE L S D).2,m):=by
 refine x81 (by simp[ha.still1]) ?_ m
 rw[x5p]
 unfold x3w x2k
 simp[mem0,ha.one,xjm d ha hl]
 exact RetF.st rfl rfl
end Go.Ix
set_option maxRecDepth 100000
namespace Go.Proofs.Ytjdlceelbnaneaa
open Go.ChangeShapes Go.WideShapes Go.ChangeAt Go.RowKit Go.Ix
theorem sh_f32{q:List AV}(h:Sh Try.prog x4 q):∃x,q=f32E x:=by
 have e:Try.prog.underlying x4=some (.float .f32):=by kernel_rfl
 cases h with
 |float h' b wf=>rw[e]at h';cases h';exact⟨b,rfl⟩
 |string h'=>rw[e]at h';cases h'
 |int h'=>rw[e]at h';cases h'
 |nilS h'=>rw[e]at h';cases h'
 |slice h'=>rw[e]at h';cases h'
 |bool h'=>rw[e]at h';cases h'
 |struct h'=>rw[e]at h';cases h'
 |array h'=>rw[e]at h';cases h'
theorem f32s_sh{z:AV}(f:Sh Try.prog xf [z]):∃l,Sl f32E z l:=sl_sh (e:=x4) (by kernel_rfl) (λ_ _ hr=>sh_f32 hr) f
theorem shot_sh{q:List AV}(hq:Sh Try.prog x29 q):∃L S b l,q=[I L,I S,b]/\Sl f32E b l:=by
 obtain⟨fs,h1,h2⟩:=fs_of (t:=x29) (l:=[(x7x,0),(x7x,1),(xf,2)]) (by kernel_rfl)
 obtain⟨hl,hf⟩:=Sh.struct_inv h1 hq
 have hc:Try.prog.cellsOf x29=3:=by kernel_rfl
 rw[hc]at hl
 have c1:Try.prog.cellsOf x7x=1:=by kernel_rfl
 have c2:Try.prog.cellsOf xf=1:=by kernel_rfl
 match q,hl with
 |[x0,x1,x2],_=>
  have g:∀t o,(t,o)∈[(x7x,0),(x7x,1),(xf,2)]->Sh Try.prog t ((([x0,x1,x2]:List AV).drop o).take (Try.prog.cellsOf t)):=by
   intro t o hm
   rw[<-h2]at hm
   obtain⟨f,hf1,hf2⟩:=xlm.mp hm
   cases hf2
   exact hf f hf1
  have g0:=g x7x 0 (by simp)
  have g1:=g x7x 1 (by simp)
  have g2:=g xf 2 (by simp)
  rw[c1]at g0 g1
  rw[c2]at g2
  obtain⟨n0,e0⟩:=sh_int g0
  obtain⟨n1,e1⟩:=sh_int g1
  obtain⟨l,hl⟩:=f32s_sh (z:=x2) g2
  simp at e0 e1
  subst e0 e1
  exact⟨n0,n1,x2,l,rfl,hl⟩
theorem shot_in{a:AV}(h:ArgSh Try.prog x29 a):∃L S b l,a=.agg [I L,I S,b]/\Sl f32E b l:=by
 obtain⟨fs,h1,-⟩:=fs_of (t:=x29) (l:=[(x7x,0),(x7x,1),(xf,2)]) (by kernel_rfl)
 obtain⟨q,rfl,hq⟩:=h.struct h1
 obtain⟨L,S,b,l,rfl,hl⟩:=shot_sh hq
 exact⟨L,S,b,l,rfl,hl⟩
theorem two3_in{a:AV}(h:ArgSh Try.prog x8 a):∃x y,a=.agg [I x,I y]:=by
 obtain⟨q,rfl,hq⟩:=h.array (t:=x8) (e:=x7x) (n:=2) (by kernel_rfl)
 have hf:=xf2 4 (show xbn Try.prog 4 x8=true by kernel_rfl) hq
 have hc:Try.prog.cellsOf x8=2:=by kernel_rfl
 have hl:q.length=2:=by
  cases hq with
  |array h' _ hl hf=>rw[hc]at hl;exact hl
  |string h'=>exact absurd h' (by rw[show Try.prog.underlying x8=some (.array 2 x7x) by kernel_rfl];intro h;cases h)
  |int h'=>exact absurd h' (by rw[show Try.prog.underlying x8=some (.array 2 x7x) by kernel_rfl];intro h;cases h)
  |nilS h'=>exact absurd h' (by rw[show Try.prog.underlying x8=some (.array 2 x7x) by kernel_rfl];intro h;cases h)
  |slice h'=>exact absurd h' (by rw[show Try.prog.underlying x8=some (.array 2 x7x) by kernel_rfl];intro h;cases h)
  |bool h'=>exact absurd h' (by rw[show Try.prog.underlying x8=some (.array 2 x7x) by kernel_rfl];intro h;cases h)
  |float h'=>exact absurd h' (by rw[show Try.prog.underlying x8=some (.array 2 x7x) by kernel_rfl];intro h;cases h)
  |struct h'=>exact absurd h' (by rw[show Try.prog.underlying x8=some (.array 2 x7x) by kernel_rfl];intro h;cases h)
 match q,hl with
 |[x0,x1],_=>
  obtain⟨n0,rfl⟩:=hf x0 (by simp)
  obtain⟨n1,rfl⟩:=hf x1 (by simp)
  exact⟨n0,n1,rfl⟩
end Go.Proofs.Ytjdlceelbnaneaa
