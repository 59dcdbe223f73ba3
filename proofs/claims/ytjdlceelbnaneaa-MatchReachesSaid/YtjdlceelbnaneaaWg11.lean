import Derived.Test.YtjdlceelbnaneaaWg10
import Derived.Test.YtjdlceelbnaneaaWg6
import Derived.Test.YtjdlceelbnaneaaWg2
set_option linter.unusedSimpArgs false
set_option linter.unusedVariables false
namespace Go.Ix
open Go.Proofs
attribute [local simp high] rd_5
variable{a:AV}{l:List Mp}
attribute [local simp high] rd_5
section
variable{f:Aff}{x:Mp}
end
variable{a:AV}{l:List Mp}{f:Aff}
end Go.Ix
set_option exponentiation.threshold 3000
namespace Go.Ix
open Go.Proofs Ieee
abbrev Px:=Nat×Nat
def pxE(p:Px):List AV:=[C32 p.1 p.2]
theorem pxL(p:Px):(pxE p).length=1:=rfl
theorem pxS(p:Px):(pxE p).all still1=true:=rfl
def f32E(x:Nat):List AV:=[.sc (.float .f32 x)]
theorem f32L(x:Nat):(f32E x).length=1:=rfl
def prsM:List Nat->List Px
 |x::y::r=>(x,y)::prsM r
 |_=>[]
theorem u_c64:Try.prog.underlying x62=some (.slice xh):=by kernel_rfl
theorem u_f32:Try.prog.underlying xu=some (.slice xg):=by kernel_rfl
theorem xdd:x1j=[I 0,I 0,nilS]:=by kernel_rfl
theorem z_c64:x6h=[C32 0 0]:=by kernel_rfl
theorem cplx32(x y:Nat):x9s Try.prog .complex #[xg,xg] xh [.sc (.float .f32 x),.sc (.float .f32 y)]=some (C32 x y):=by
 have h:x9l Try.prog (biS .complex #[xg,xg] xh [.float .f32 x,.float .f32 y])=some (.complex .f32 x y):=by kernel_rfl
 unfold x9s bi0
 simp only[show x9n [AV.sc (.float .f32 x),AV.sc (.float .f32 y)]=some [.float .f32 x,.float .f32 y]from rfl,h]
 rfl
theorem cells_c32(x y:Nat):(C32 x y).cells=[C32 x y]:=rfl
theorem build_im(L S:Int):x9u x1j [(0,1,I L),(1,1,I S)]=some (.agg [I L,I S,nilS]):=by
 rw[xdd];rfl
def okI(u:Nat):Id->Prop:=λid=>id.1=u/\id.2.2=32
theorem xh8:∀l:List Nat,(prsM l).length<=l.length
 |x::y::r=>by have:=xh8 r;simp only[prsM,xnk];omega
 |[x]=>by simp[prsM]
 |[]=>by simp[prsM]
theorem frz_img{objs:Id->Option Ob}{L S:Int}{v v':AV}(h:Go.Ix.frz objs 5 v=some v'):Go.Ix.frz objs deep (.agg [I L,I S,v])=some (.agg [I L,I S,v']):=by
 show([I L,I S,v].mapM (Go.Ix.frz objs 5)).map AV.agg=_
 simp only[xob,xq4,h]
 rfl
theorem l_Image(call:x9a)(hs:FHs)(L S:Int){a:AV}{l:List Nat}(ha:Sl f32E a l)(hl:l.length<=1048576) :
 ∀(n k j:Nat) (v:AV) (acc:List Px) (m:Mem) (fc:Nat),l.length<=k+2*n+1->n<j->acc.length<=k->k<=1048577->acc++prsM (l.drop k)=prsM l ->
 Gk 1 pxE (okI 0) m v acc->m.get (0,0,6)=some (.row [I 0,I 0,nilS] 0 false)->m.get (0,4,7)=some (.row [I L,I S,v] 0 false) ->
 ∃w v' m',x2e call hs 0 j a (.ptr (0,0,6) 0 0) (.ptr (0,4,7) 0 0) (I k) m fc=some (.agg [I L,I S,w],m')/\Go.Ix.frz m'.get deep (.agg [I L,I S,w])=some (.agg [I L,I S,v'])/\Sl pxE v' (prsM l):=by
 intro n
 induction n using Nat.strongRecOn with
 |ind n ih=>
 intro k j v acc m fc hn hj hacc hkb hP hG h6 h7
 obtain⟨j,rfl⟩:∃i,j=i+1:=⟨j-1,by omega⟩
 obtain⟨hv1,hv2⟩:=hG.one
 simp only[x2e]
 unfold x5o
 by_cases hk:k+1<l.length
 rotate_left
 .have hk':¬((k:Int)+1<(l.length:Int)):=by omega
  have e0:prsM (l.drop k)=[]:=by
   have h1:(l.drop k).length<=1:=by rw[xqn];omega
   cases h2:l.drop k with
   |nil=>rfl
   |cons x r=>
    rw[h2]at h1
    have:r=[]:=xql.mp (by simpa using h1)
    subst this
    rfl
  rw[e0,xqs]at hP
  subst hP
  have hG2:Gk 1 pxE (okI 0) (m.set (0,0,6) (.row [I L,I S,v] 0 false)) v (prsM l):=hG.frame λid hid=>Mem.get_set_ne (by rintro rfl;exact absurd hid.2 (by decide))
  obtain⟨v',hv',hf⟩:=hG2.frz (k:=3) pxL pxS
  refine⟨v,v',m.set (0,0,6) (.row [I L,I S,v] 0 false),?_,frz_img hf,hv'⟩
  simp(disch:=omega) [ha.len u_f32,hk',x9j,x5n,h7,h6,hv2,sLdP]
 .have hk':(k:Int)+1<(l.length:Int):=by omega
  have i1:=ha.ix f32L (k:=k) (by omega)
  have i2:=ha.ix f32L (k:=k+1) hk
  rw[xb7 (by omega),xom]at i1
  rw[xb7 hk,xom]at i2
  have ed:l.drop k=l[k]::l[k+1]::l.drop (k+2):=by rw[xb7 (by omega),xb7 hk]
  rw[ed]at hP
  simp only[prsM]at hP
  obtain⟨v2,m2,hA,hG2,c2,o2,hn2,hfr⟩:=hG.app pxL (by decide) (bytes:=8) (id0:=(0,fc+18,32)) ⟨rfl,rfl⟩ (by unfold x9m;omega) (l[k],l[k+1])
  have g6:m2.get (0,0,6)=some (.row [I 0,I 0,nilS] 0 false):=by rw[hfr _ (λh=>absurd h.2 (by decide))];exact h6
  have g7:m2.get (0,4,7)=some (.row [I L,I S,v] 0 false):=by rw[hfr _ (λh=>absurd h.2 (by decide))];exact h7
  obtain⟨w,v',m',e,hf,hS⟩:=ih (n-1) (by omega) (k+2) j v2 (acc++[(l[k],l[k+1])]) (m2.set (0,4,7) (.row [I L,I S,v2] 0 false)) (fc+24) (by omega) (by omega) (by simp;omega) (by omega) (by rw[<-hP];simp)
   (hG2.frame λid hid=>Mem.get_set_ne (by rintro rfl;exact absurd hid.2 (by decide))) (by rw[Mem.get_set_ne (by decide)];exact g6) (by simp)
  refine⟨w,v',m',?_,hf,hS⟩
  rw[<-e]
  have hA':∀(k':AV->Mem->O2),sApp 1 8 (0,fc+18,32) (some ([C32 l[k] l[k+1]],1)) v m k'=k' v2 m2:=hA
  have i2':sIx 1 a (I ((k:Int)+1))=some (.plit (f32E l[k+1]++List.flatMap f32E (List.drop (k+1+1) l))):=by rw[<-i2];rfl
  simp(disch:=omega) [ha.len u_f32,hk',x9j,h7,i1,i2',f32E,cplx32,z_c64]
  rw[xgv (cells_c32 _ _) rfl rfl,show elems m.get 1 (.slit [C32 l[k] l[k+1]] 1 true)=some ([C32 l[k] l[k+1]],1)from rfl,hA']
  simp[g7,o2,c2,tR,x9t,disj]
theorem w_Image(d:Nat)(L S:Int){a:AV}{l:List Nat}(ha:Sl f32E a l)(hl:l.length<=1048576):∃b,Sl pxE b (prsM l)/\∀m,x99 (x98 (d+1)) x1o [I L,I S,a] m=some (.agg [I L,I S,b],m):=by
 obtain⟨w,v',m',e,hf,hS⟩:=l_Image (x98 d) [] L S ha hl (l.length / 2) 0 NN nilS [] ((((⟨[],1⟩:Mem).new (0,0,6) (.row [I 0,I 0,nilS] 0 false)).new (0,4,7) (.row [I 0,I 0,nilS] 0 false)).set (0,4,7) (.row [I L,I S,nilS] 0 false)) 7 (by omega) (by rw[xay];omega) (by simp) (by omega) rfl Gk.nil (by simp) (by simp)
 refine⟨v',hS,λm=>x9k (by simp[ha.still]) ?_ m⟩
 rw[x70]
 unfold x4p x37
 simp[mem0,xdd,x9e,build_im,x5p]
 exact⟨_,_,_,e,hf,rfl⟩
theorem xjw(d:Nat)(L S:Int){a:AV}{l:List Nat}(ha:Sl f32E a l)(hl:l.length<=1048576):∃b,Sl pxE b (prsM l)/\∀m,x99 (x98 (d+2)) x15 [.agg [I L,I S,a]] m=some (.agg [I L,I S,b],m):=by
 obtain⟨b,hb,e⟩:=w_Image d L S ha hl
 refine⟨b,hb,λm=>x9k (by simp[ha.still1]) ?_ m⟩
 rw[x6z]
 unfold x4o x36
 simp[mem0,xdd,x9e,ha.one,e,hb.one,sLdP]
 exact RetF.st (by simp[hb.still1]) rfl
theorem xjx(d:Nat)(L S:Int){a:AV}{l:List Nat}(ha:Sl f32E a l)(m:Mem):x99 (x98 (d+1)) x14 [.agg [I L,I S,a]] m=some (B (decide (l.length<=200)),m):=by
 refine x9k (by simp[ha.still1]) ?_ m
 rw[x6y]
 unfold x4n x35
 simp[mem0,ha.one,ha.len u_f32]
 refine RetF.st rfl ?_
 by_cases c:l.length<=200
 .have:(l.length:Int)<=200:=by omega
  simp[c,this]
 .have:¬(l.length:Int)<=200:=by omega
  simp[c,this]
def xct(p:Px):Int:=pE (fcs p.1) (fcs p.2)
def chkS:Nat->List Px->Int×Int
 |_,[]=>(0,0)
 |k,p::r=>if xct p=0 then chkS (k+1) r else((k:Int),xct p)
def szE(L S:Int)(n:Nat):Int:=bif wi L 1 64&&wi S 1 64 then(if(n:Int)=L*S then 0 else 10)else 2
def imE(L S:Int)(D:List Px):Int×Int:=if szE L S D.length=0 then chkS 0 D else(0,szE L S D.length)
theorem xfg(d:Nat)(a b c:Int)(m:Mem):x99 (x98 (d+1)) x1e [I a,I b,I c] m=some (B (wi a b c),m):=by
 refine call0 rfl (m':=⟨[],1⟩) ?_ rfl
 rw[x7p]
 unfold x5d x47 wi
 by_cases h:b<=a<;>by_cases h2:a<=c<;>simp[h,h2,mem0]
theorem mul_bd{L S:Int}(h1:wi L 1 64=true)(h2:wi S 1 64=true):1<=L*S/\L*S<=4096:=by
 have:=wi_t h1
 have:=wi_t h2
 have h3:L*S<=64*64:=xp8 (by omega) (by omega) (by omega) (by omega)
 have h4:1*1<=L*S:=xp8 (by omega) (by omega) (by omega) (by omega)
 omega
theorem w_szErr3(d:Nat)(L S:Int)(n:Nat)(m:Mem):x99 (x98 (d+2)) x1x [I L,I S,I n] m=some (I (szE L S n),m):=by
 refine x9k rfl ?_ m
 rw[x7k]
 unfold x59 x41 szE
 cases c1:wi L 1 64
 .simp[mem0,xfg,c1];exact RetF.st rfl rfl
 cases c2:wi S 1 64
 .simp[mem0,xfg,c1,c2];exact RetF.st rfl rfl
 have hb:=mul_bd c1 c2
 by_cases c3:(n:Int)=L*S
 .simp(disch:=omega) [mem0,xfg,c1,c2,x9j,c3];exact RetF.st rfl rfl
 .simp(disch:=omega) [mem0,xfg,c1,c2,x9j,c3];exact RetF.st rfl rfl
variable{a:AV}{D:List Px}{L S:Int}
theorem xls(d:Nat)(hs:FHs)(u:Nat)(ha:Sl pxE a D)(hl:D.length<=5000):∀(suf:List Px) (k j:Nat) (m:Mem) (fc:Nat),D.drop k=suf->suf.length<j ->
 x28 (x98 (d+4)) hs u j xbl a (I D.length) (I k) m fc=some (.tup [I (chkS k suf).1,I (chkS k suf).2],m):=by
 intro suf
 induction suf with
 |nil=>
  intro k j m fc hd hj
  obtain⟨j,rfl⟩:∃i,j=i+1:=⟨j-1,by simp at hj;omega⟩
  have hk:¬((k:Int)<(D.length:Int)):=by have:=List.drop_eq_nil_iff.mp hd;omega
  simp only[x28]
  unfold x42
  simp[hk,x68,chkS]
 |cons e r ih=>
  intro k j m fc hd hj
  obtain⟨j,rfl⟩:∃i,j=i+1:=⟨j-1,by simp at hj;omega⟩
  obtain⟨hk,he,hd⟩:=xjd hd
  have hk':(k:Int)<(D.length:Int):=by omega
  have ix:=ha.ix pxL hk
  rw[xb7 hk,xom,he]at ix
  simp only[x28]
  unfold x42
  rw[chkS]
  by_cases c:xct e=0
  .have h':=ih (k+1) j m (fc+14) hd (by simp at hj;omega)
   have c':pE (fcs e.1) (fcs e.2)=0:=c
   rw[xn5 c,<-h']
   simp(disch:=omega) [hk',ix,pxE,xjl,c',x9j]
  .have c':¬pE (fcs e.1) (fcs e.2)=0:=c
   rw[xn6 c]
   simp(disch:=omega) [hk',ix,pxE,xjl,c',x9j,xct]
theorem xlt(d:Nat)(ha:Sl pxE a D)(hl:D.length<=5000)(m:Mem):x99 (x98 (d+6)) x1t [.agg [I L,I S,a]] m=some (.tup [I (imE L S D).1,I (imE L S D).2],m):=by
 have hsE:∀m,x99 (x98 (d+5)) x1y [a,xbl] m=some (.tup [I (chkS 0 D).1,I (chkS 0 D).2],m):=λm=>by
  refine x9k (by simp[ha.still]) ?_ m
  rw[x7l]
  unfold x5a x43 x69
  have h':=xls d [] 0 ha hl D 0 NN ⟨[],1⟩ 5 rfl (by rw[xay];omega)
  simp[mem0,ha.len u_c64]
  rw[show(0:Int)=((0:Nat):Int)from rfl,h']
  exact RetF.tup rfl rfl
 refine x9k (by simp[ha.still1]) ?_ m
 rw[x7d]
 unfold x52 x3r
 simp[mem0,ha.one,ha.len u_c64,w_szErr3,hsE]
 unfold imE
 by_cases c:szE L S D.length=0
 .simp[c];exact RetF.tup rfl rfl
 .simp[c];exact RetF.tup rfl rfl
theorem xjy(d:Nat)(ha:Sl pxE a D)(hl:D.length<=5000)(m:Mem):x99 (x98 (d+7)) x1p [.agg [I L,I S,a]] m=some (I (imE L S D).2,m):=by
 refine x9k (by simp[ha.still1]) ?_ m
 rw[x76]
 unfold x4v x3j
 simp[mem0,ha.one,xlt d ha hl]
 exact RetF.st rfl rfl
end Go.Ix
set_option maxRecDepth 100000
namespace Go.Proofs.Ytjdlceelbnaneaa
open Go.ChangeShapes Go.WideShapes Go.ChangeAt Go.RowKit Go.Ix
theorem sh_f32{q:List AV}(h:Sh Try.prog xg q):∃x,q=f32E x:=by
 have e:Try.prog.underlying xg=some (.float .f32):=by kernel_rfl
 cases h with
 |float h' b wf=>rw[e]at h';cases h';exact⟨b,rfl⟩
 |string h'=>rw[e]at h';cases h'
 |int h'=>rw[e]at h';cases h'
 |nilS h'=>rw[e]at h';cases h'
 |slice h'=>rw[e]at h';cases h'
 |bool h'=>rw[e]at h';cases h'
 |struct h'=>rw[e]at h';cases h'
 |array h'=>rw[e]at h';cases h'
theorem f32s_sh{z:AV}(f:Sh Try.prog xu [z]):∃l,Sl f32E z l:=sl_sh (e:=xg) (by kernel_rfl) (λ_ _ hr=>sh_f32 hr) f
theorem shot_sh{q:List AV}(hq:Sh Try.prog xk q):∃L S b l,q=[I L,I S,b]/\Sl f32E b l:=by
 obtain⟨fs,h1,h2⟩:=fs_of (t:=xk) (l:=[(x9q,0),(x9q,1),(xu,2)]) (by kernel_rfl)
 obtain⟨hl,hf⟩:=Sh.struct_inv h1 hq
 have hc:Try.prog.cellsOf xk=3:=by kernel_rfl
 rw[hc]at hl
 have c1:Try.prog.cellsOf x9q=1:=by kernel_rfl
 have c2:Try.prog.cellsOf xu=1:=by kernel_rfl
 match q,hl with
 |[x0,x1,x2],_=>
  have g:∀t o,(t,o)∈[(x9q,0),(x9q,1),(xu,2)]->Sh Try.prog t ((([x0,x1,x2]:List AV).drop o).take (Try.prog.cellsOf t)):=by
   intro t o hm
   rw[<-h2]at hm
   obtain⟨f,hf1,hf2⟩:=xnv.mp hm
   cases hf2
   exact hf f hf1
  have g0:=g x9q 0 (by simp)
  have g1:=g x9q 1 (by simp)
  have g2:=g xu 2 (by simp)
  rw[c1]at g0 g1
  rw[c2]at g2
  obtain⟨n0,e0⟩:=sh_int g0
  obtain⟨n1,e1⟩:=sh_int g1
  obtain⟨l,hl⟩:=f32s_sh (z:=x2) g2
  simp at e0 e1
  subst e0 e1
  exact⟨n0,n1,x2,l,rfl,hl⟩
theorem two3_in{a:AV}(h:ArgSh Try.prog xa a):∃x y,a=.agg [I x,I y]:=by
 obtain⟨q,rfl,hq⟩:=h.array (t:=xa) (e:=x9q) (n:=2) (by kernel_rfl)
 have hf:=xf7 4 (show xcr Try.prog 4 xa=true by kernel_rfl) hq
 have hc:Try.prog.cellsOf xa=2:=by kernel_rfl
 have hl:q.length=2:=by
  cases hq with
  |array h' _ hl hf=>rw[hc]at hl;exact hl
  |string h'=>exact absurd h' (by rw[show Try.prog.underlying xa=some (.array 2 x9q) by kernel_rfl];intro h;cases h)
  |int h'=>exact absurd h' (by rw[show Try.prog.underlying xa=some (.array 2 x9q) by kernel_rfl];intro h;cases h)
  |nilS h'=>exact absurd h' (by rw[show Try.prog.underlying xa=some (.array 2 x9q) by kernel_rfl];intro h;cases h)
  |slice h'=>exact absurd h' (by rw[show Try.prog.underlying xa=some (.array 2 x9q) by kernel_rfl];intro h;cases h)
  |bool h'=>exact absurd h' (by rw[show Try.prog.underlying xa=some (.array 2 x9q) by kernel_rfl];intro h;cases h)
  |float h'=>exact absurd h' (by rw[show Try.prog.underlying xa=some (.array 2 x9q) by kernel_rfl];intro h;cases h)
  |struct h'=>exact absurd h' (by rw[show Try.prog.underlying xa=some (.array 2 x9q) by kernel_rfl];intro h;cases h)
 match q,hl with
 |[x0,x1],_=>
  obtain⟨n0,rfl⟩:=hf x0 (by simp)
  obtain⟨n1,rfl⟩:=hf x1 (by simp)
  exact⟨n0,n1,rfl⟩
theorem win_in{a:AV}(h:ArgSh Try.prog x2a a):∃x y z w,a=.agg [I x,I y,I z,I w]:=by
 obtain⟨fs,h1,-⟩:=fs_of (t:=x2a) (l:=[(x9q,0),(x9q,1),(x9q,2),(x9q,3)]) (by kernel_rfl)
 obtain⟨q,rfl,hq⟩:=h.struct h1
 have hl:=(Sh.struct_inv h1 hq).1
 have hc:Try.prog.cellsOf x2a=4:=by kernel_rfl
 have hf:=xf7 4 (show xcr Try.prog 4 x2a=true by kernel_rfl) hq
 rw[hc]at hl
 match q,hl with
 |[x0,x1,x2,x3],_=>
  obtain⟨n0,rfl⟩:=hf x0 (by simp)
  obtain⟨n1,rfl⟩:=hf x1 (by simp)
  obtain⟨n2,rfl⟩:=hf x2 (by simp)
  obtain⟨n3,rfl⟩:=hf x3 (by simp)
  exact⟨n0,n1,n2,n3,rfl⟩
theorem two_in3{a:AV}(h:ArgSh Try.prog x6d a):∃L S b l L' S' b' l',a=.agg [I L,I S,b,I L',I S',b']/\Sl f32E b l/\Sl f32E b' l':=by
 obtain⟨fs,h1,h2⟩:=fs_of (t:=x6d) (l:=[(xk,0),(xk,3)]) (by kernel_rfl)
 obtain⟨q,rfl,hq⟩:=h.struct h1
 obtain⟨hl,hf⟩:=Sh.struct_inv h1 hq
 have hc:Try.prog.cellsOf x6d=6:=by kernel_rfl
 rw[hc]at hl
 have c1:Try.prog.cellsOf xk=3:=by kernel_rfl
 match q,hl with
 |[x0,x1,x2,x3,x4,x5],_=>
  have g:∀t o,(t,o)∈[(xk,0),(xk,3)]->Sh Try.prog t ((([x0,x1,x2,x3,x4,x5]:List AV).drop o).take (Try.prog.cellsOf t)):=by
   intro t o hm
   rw[<-h2]at hm
   obtain⟨f,hf1,hf2⟩:=xnv.mp hm
   cases hf2
   exact hf f hf1
  have g0:=g xk 0 (by simp)
  have g1:=g xk 3 (by simp)
  rw[c1]at g0 g1
  obtain⟨L,S,b,l,e0,hb⟩:=shot_sh g0
  obtain⟨L',S',b',l',e1,hb'⟩:=shot_sh g1
  simp at e0 e1
  obtain⟨rfl,rfl,rfl⟩:=e0
  obtain⟨rfl,rfl,rfl⟩:=e1
  exact⟨_,_,_,l,_,_,_,l',rfl,hb,hb'⟩
end Go.Proofs.Ytjdlceelbnaneaa
