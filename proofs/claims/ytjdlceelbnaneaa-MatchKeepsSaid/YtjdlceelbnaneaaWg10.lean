import Derived.Test.YtjdlceelbnaneaaWg2
import Derived.Test.YtjdlceelbnaneaaWg1
import Derived.Test.YtjdlceelbnaneaaWBase
import Derived.ProofKit
import Derived.Test.YtjdlceelbnaneaaWg6
import Derived.Test.YtjdlceelbnaneaaWg9
set_option linter.unusedSimpArgs false
set_option linter.unusedVariables false
namespace Go.Ix
open Go.Proofs
theorem InB.get{l:List Scene}(h:InB l){k:Nat}(hk:k<l.length):(0<=l[k].day/\l[k].day<=100000)/\(-100000<=l[k].bl/\l[k].bl<=100000):=h _ (xj5 hk)
def Pq.v(p:Pq):Value:=.agg [.int .i64 p.a,.int .i64 p.b].toArray
theorem x71:Try.prog.underlying x6=some (.slice xt):=by kernel_rfl
theorem xfm:Try.prog.underlying x1m=some (.slice xt):=by kernel_rfl
theorem z_pt:x1i=[I 0,I 0,I 0,I 0,I 0]:=by kernel_rfl
theorem rd_5(a b c d e:AV)(cs:List AV):rd true 5 (a::b::c::d::e::cs)=some (.agg [a,b,c,d,e]):=by rw[rd_t];simp only[xim];rw[xjb (by omega)];rfl
attribute [local simp high] rd_5
theorem xbv(m:Mem)(n:Nat)(i:Id):(⟨m.hp,n⟩:Mem).get i=m.get i:=_root_.id rfl
abbrev Pts:=@Sl Mp Mp.c
def ptOK(x:Mp):Bool:=wi x.ln 0 63&&(wi x.sm 0 63&&(wi x.b0 (-8) 8&&(wi x.b1 (-8) 8&&wi x.sc 0 1000)))
theorem ptOK_in{x:Mp}(h:ptOK x=true):PtIn x:=by
 simp only[ptOK,xi9]at h
 obtain⟨h1,h2,h3,h4,-⟩:=h
 have:=wi_t h1
 have:=wi_t h2
 exact⟨by omega,by omega,by omega,by omega,wi_t h3,wi_t h4⟩
theorem xbw(d:Nat)(hs:FHs)(a:Int)(m:Mem):x96 (x6e (d+2)) hs 2 (.clo xf []) [I a] m=some (B (wi a (-8) 8),⟨m.hp,m.next+1⟩):=by
 show x6e (d+2) hs xf [I a] m=_
 rw[x54]
 unfold x3c x2m
 simp[x8v]
theorem xh9(d:Nat)(x:Mp)(m:Mem):x6h (x6e (d+3)) x10 [.agg x.c] m=some (I (bif ptOK x then 0 else 2),m):=by
 refine x78 rfl ?_ m
 rw[x50]
 unfold x38 x2e
 simp[mem0,Mp.c,x8v]
 unfold ptOK
 cases c0:wi x.ln 0 63
 .simp;exact RetF.st rfl rfl
 cases c1:wi x.sm 0 63
 .simp[x8v,c1];exact RetF.st rfl rfl
 cases c2:wi x.b0 (-8) 8
 .simp[x8v,c1,xbw,xbv,sIxA,asI,c2];exact RetF.st rfl rfl
 cases c3:wi x.b1 (-8) 8
 .simp[x8v,c1,xbw,xbv,sIxA,asI,c2,c3];exact RetF.st rfl rfl
 cases c4:wi x.sc 0 1000
 .simp[x8v,c1,xbw,xbv,sIxA,asI,c2,c3,c4];exact RetF.st rfl rfl
 simp[x8v,c1,xbw,xbv,sIxA,asI,c2,c3,c4];exact RetF.st rfl rfl
theorem xha(d:Nat)(x:Mp)(m:Mem):x6h (x6e (d+2)) x12 [.agg x.c] m=some (I (bif ptOK x then 0 else 2),m):=by
 refine x78 rfl ?_ m
 rw[x53]
 unfold x3b x2l
 simp[mem0,Mp.c,x98]
 unfold ptOK
 cases c0:wi x.ln 0 63
 .simp;exact RetF.st rfl rfl
 cases c1:wi x.sm 0 63
 .simp[x98,c1];exact RetF.st rfl rfl
 cases c2:wi x.b0 (-8) 8
 .simp[x98,c1,sIxA,asI,c2];exact RetF.st rfl rfl
 cases c3:wi x.b1 (-8) 8
 .simp[x98,c1,sIxA,asI,c2,c3];exact RetF.st rfl rfl
 cases c4:wi x.sc 0 1000
 .simp[x98,c1,sIxA,asI,c2,c3,c4];exact RetF.st rfl rfl
 simp[x98,c1,sIxA,asI,c2,c3,c4];exact RetF.st rfl rfl
def cpM:Nat->List Mp->Int×Int
 |_,[]=>(0,0)
 |k,x::r=>bif ptOK x then cpM (k+1) r else((k:Int),2)
def x76(l:List Mp):Int×Int:=if 30<l.length then(0,8)else cpM 0 l
theorem cpM_0:∀(l:List Mp) (k:Nat),(cpM k l).2=0->(cpM k l).1=0/\x8u l
 |[],_,_=>⟨rfl,λ_ h=>by cases h⟩
 |x::r,k,h=>by
  simp only[cpM]at h ⊢
  cases c:ptOK x
  .simp[c]at h
  .simp only[c,x9o]at h ⊢
   obtain⟨h1,h2⟩:=cpM_0 r (k+1) h
   refine⟨h1,λy hy=>?_⟩
   rcases xig.mp hy with rfl|hy
   .exact ptOK_in c
   .exact h2 y hy
theorem xdb{l:List Mp}(h:(x76 l).2=0):l.length<=30/\(x76 l).1=0/\x8u l:=by
 unfold x76 at h ⊢
 by_cases c:30<l.length
 .simp[c]at h
 .simp only[c,xii]at h ⊢
  obtain⟨h1,h2⟩:=cpM_0 l 0 h
  exact⟨by omega,h1,h2⟩
variable{a:AV}{l:List Mp}
theorem xhb(d:Nat)(hs:FHs)(u:Nat)(ha:Pts a l)(hl:l.length<=1000):∀(suf:List Mp) (k j:Nat) (m:Mem) (fc:Nat),l.drop k=suf->suf.length<j ->
 ∃m',x17 (x6e (d+3)) hs u j a (I l.length) (I k) m fc=some (.tup [I (cpM k suf).1,I (cpM k suf).2],m'):=by
 intro suf
 induction suf with
 |nil=>
  intro k j m fc hd hj
  obtain⟨j,rfl⟩:∃i,j=i+1:=⟨j-1,by simp at hj;omega⟩
  have hk:¬((k:Int)<(l.length:Int)):=by have:=xjq.mp hd;omega
  simp only[x17]
  unfold x1u
  simp[hk,x3m,cpM]
 |cons e r ih=>
  intro k j m fc hd hj
  obtain⟨j,rfl⟩:∃i,j=i+1:=⟨j-1,by simp at hj;omega⟩
  obtain⟨hk,he,hd⟩:=x9m hd
  have hk':(k:Int)<(l.length:Int):=by omega
  have ix:=ha.ix Mp.len hk
  have ld:=xbs (m:=m) Mp.len (by omega) hk
  rw[he]at ld
  have pe:=xh9 d e
  simp only[x17]
  unfold x1u
  simp only[x6z,x8r,hk',xj1,x89,ix,ld]
  simp only[Mp.c]at pe ⊢
  simp[z_pt,pe]
  rw[cpM]
  cases c:ptOK e
  .simp
  .obtain⟨m',h'⟩:=ih (k+1) j ((m.new (u,fc+4,5) (.row [I 0,I 0,I 0,I 0,I 0] 0 false)).set (u,fc+4,5) (.row [I e.ln,I e.sm,I e.b0,I e.b1,I e.sc] 0 false)) (fc+14) hd (by simp at hj;omega)
   simp(disch:=omega) [x6u]
   exact⟨m',by simpa using h'⟩
theorem xfn(d:Nat)(ha:Pts a l)(hl:l.length<=1000)(m:Mem):x6h (x6e (d+4)) xi [a] m=some (.tup [I (x76 l).1,I (x76 l).2],m):=by
 refine x78 (by simp[ha.still]) ?_ m
 rw[x4s]
 unfold x30 x1v
 simp[mem0,ha.len x71]
 unfold x76
 by_cases c:30<l.length
 .have c':(30:Int)<(l.length:Int):=by omega
  simp[c,c']
  exact RetF.tup rfl rfl
 .have c':¬(30:Int)<(l.length:Int):=by omega
  obtain⟨m',h'⟩:=xhb d [] 0 ha (by omega) l 0 NN ⟨[],1⟩ 8 rfl (by rw[x7f];omega)
  simp[c,c',x3n,ha.len x71]
  rw[show(0:Int)=((0:Nat):Int)from rfl,h']
  exact RetF.tup rfl rfl
theorem xhc(d:Nat)(hs:FHs)(u:Nat)(ha:Pts a l)(hl:l.length<=1000):∀(suf:List Mp) (k j:Nat) (m:Mem) (fc:Nat),l.drop k=suf->suf.length<j ->
 x19 (x6e (d+2)) hs u j a (I k) m fc=some (.tup [I (cpM k suf).1,I (cpM k suf).2],m):=by
 intro suf
 induction suf with
 |nil=>
  intro k j m fc hd hj
  obtain⟨j,rfl⟩:∃i,j=i+1:=⟨j-1,by simp at hj;omega⟩
  have hk:¬((k:Int)<(l.length:Int)):=by have:=xjq.mp hd;omega
  simp only[x19]
  unfold x1x
  simp[hk,ha.len x71,x3o,cpM]
 |cons e r ih=>
  intro k j m fc hd hj
  obtain⟨j,rfl⟩:∃i,j=i+1:=⟨j-1,by simp at hj;omega⟩
  obtain⟨hk,he,hd⟩:=x9m hd
  have hk':(k:Int)<(l.length:Int):=by omega
  have ix:=ha.ix Mp.len hk
  have ld:=xbs (m:=m) Mp.len (by omega) hk
  rw[he]at ld
  have pe:=xha d e
  simp only[x19]
  unfold x1x
  simp only[x6z,ha.len x71,x8r,hk',xj1,x89,ix,ld,pe]
  rw[cpM]
  cases c:ptOK e
  .simp
  .have h':=ih (k+1) j m (fc+15) hd (by simp at hj;omega)
   simp(disch:=omega) [x6u]
   simpa using h'
theorem xdc(d:Nat)(ha:Pts a l)(hl:l.length<=1000)(m:Mem):x6h (x6e (d+3)) xx [a] m=some (.tup [I (x76 l).1,I (x76 l).2],m):=by
 refine x78 (by simp[ha.still]) ?_ m
 rw[x4u]
 unfold x32 x1y
 simp[mem0,ha.len x71]
 unfold x76
 by_cases c:30<l.length
 .have c':(30:Int)<(l.length:Int):=by omega
  simp[c,c']
  exact RetF.tup rfl rfl
 .have c':¬(30:Int)<(l.length:Int):=by omega
  have h':=xhc d [] 0 ha (by omega) l 0 NN ⟨[],1⟩ 6 rfl (by rw[x7f];omega)
  simp[c,c',x3p]
  rw[show(0:Int)=((0:Nat):Int)from rfl,h']
  exact RetF.tup rfl rfl
theorem xbx(d:Nat)(ha:Pts a l)(hl:l.length<=1000)(m:Mem):x6h (x6e (d+5)) xk [a] m=some (.tup [a,I (x76 l).2],m):=by
 refine x78 (by simp[ha.still]) ?_ m
 rw[x4y]
 unfold x36 x2c
 simp[mem0,xfn d ha hl]
 exact RetF.tup (by simp[ha.still]) rfl
theorem xby(d:Nat)(ha:Pts a l)(hl:l.length<=1000)(m:Mem):∃a',Pts a' l/\x6h (x6e (d+1)) xe [a] m=some (a',m):=by
 have hr:x6m l.length 40:=by unfold x6m;omega
 have he:=ha.elems Mp.len
 by_cases h0:l=[]
 .subst h0
  refine⟨.slit [] 0 true,Sl.lit [] true,x78 (by simp[ha.still]) ?_ m⟩
  rw[x4i]
  unfold x1o x1h
  simp[mem0,he,xfe hr]
  exact RetF.st rfl rfl
 .have hq:l.length≠0:=λe=>h0 (xki.mp e)
  refine⟨.slit (l.flatMap Mp.c) l.length false,Sl.lit l false,x78 (by simp[ha.still]) ?_ m⟩
  rw[x4i]
  unfold x1o x1h
  simp[mem0,he,xfe hr,hq]
  have hfl:=x8s Mp.len l
  refine RetF.mk (a':=.slit (l.flatMap Mp.c) l.length false) ?_ rfl
  have:=xbt (objs:=((⟨[],1⟩:Mem).new (0,3,5) (.row (l.flatMap Mp.c) 0 false)).get) (id:=(0,3,5)) (cs:=l.flatMap Mp.c) (ver:=0) (off:=0) (n:=l.length) (z:=5) (k:=4) (f:=false) (x:=true) (by simp) (by omega) (by
   rw[xj3,xiu (by omega)];exact xay Mp.still l)
  rw[xj3,xiu (by omega)]at this
  exact this
def x9q(l:List Mp):Bool:=decide (l.length<=12)||(decide (30<l.length)&&decide (l.length<=32))
theorem w_some(d:Nat)(ha:Pts a l)(m:Mem):x6h (x6e (d+1)) xu [a] m=some (B (x9q l),m):=by
 refine x78 (by simp[ha.still]) ?_ m
 rw[x4r]
 unfold x2z x1t
 simp[mem0,ha.len x71]
 unfold x9q
 by_cases c1:l.length<=12
 .have c1':(l.length:Int)<=12:=by omega
  simp[c1,c1']
  exact RetF.st rfl rfl
 .have c1':¬(l.length:Int)<=12:=by omega
  by_cases c2:30<l.length
  .have c2':(30:Int)<(l.length:Int):=by omega
   by_cases c3:l.length<=32
   .have c3':(l.length:Int)<=32:=by omega
    simp[c1,c1',c2,c2',c3,c3',ha.len x71]
    exact RetF.st rfl rfl
   .have c3':¬(l.length:Int)<=32:=by omega
    simp[c1,c1',c2,c2',c3,c3',ha.len x71]
    exact RetF.st rfl rfl
  .have c2':¬(30:Int)<(l.length:Int):=by omega
   simp[c1,c1',c2,c2',ha.len x71]
   exact RetF.st rfl rfl
theorem someP_of{l:List Mp}(h:x9q l=true)(h30:l.length<=30):l.length<=12:=by
 unfold x9q at h
 simp at h
 omega
theorem someP_le{l:List Mp}(h:x9q l=true):l.length<=32:=by
 unfold x9q at h
 simp at h
 omega
end Go.Ix
