import Derived.Test.YtjdlceelbnaneaaWg7
import Derived.Test.YtjdlceelbnaneaaWg5
set_option linter.unusedSimpArgs false
set_option linter.unusedVariables false
namespace Go.Ix
open Go.Proofs
theorem x8n:Try.prog.underlying x8=some (.slice x15):=by kernel_rfl
theorem xhk:Try.prog.underlying x1r=some (.slice x15):=by kernel_rfl
theorem z_pt:x1j=[I 0,I 0,I 0,I 0,I 0]:=by kernel_rfl
theorem rd_5(a b c d e:AV)(cs:List AV):rd true 5 (a::b::c::d::e::cs)=some (.agg [a,b,c,d,e]):=by rw[rd_t];simp only[xkn];rw[xle (by omega)];rfl
attribute [local simp high] rd_5
theorem xds(m:Mem)(n:Nat)(i:Id):(⟨m.hp,n⟩:Mem).get i=m.get i:=_root_.id rfl
abbrev Pts:=@Sl Mp Mp.c
def ptOK(x:Mp):Bool:=wi x.ln 0 63&&(wi x.sm 0 63&&(wi x.b0 (-8) 8&&(wi x.b1 (-8) 8&&wi x.sc 0 1000)))
theorem ptOK_in{x:Mp}(h:ptOK x=true):PtIn x:=by
 simp only[ptOK,xkc]at h
 obtain⟨h1,h2,h3,h4,-⟩:=h
 have:=wi_t h1
 have:=wi_t h2
 exact⟨by omega,by omega,by omega,by omega,wi_t h3,wi_t h4⟩
theorem xdt(d:Nat)(hs:FHs)(a:Int)(m:Mem):xay (x7q (d+2)) hs 2 (.clo xw []) [I a] m=some (B (wi a (-8) 8),⟨m.hp,m.next+1⟩):=by
 show x7q (d+2) hs xw [I a] m=_
 rw[x6r]
 unfold x4m x3y
 simp[xam]
theorem xjb(d:Nat)(x:Mp)(m:Mem):x7s (x7q (d+3)) x1h [.agg x.c] m=some (I (bif ptOK x then 0 else 2),m):=by
 refine x87 rfl ?_ m
 rw[x6o]
 unfold x4j x3u
 simp[mem0,Mp.c,xam]
 unfold ptOK
 cases c0:wi x.ln 0 63
 .simp;exact RetF.st rfl rfl
 cases c1:wi x.sm 0 63
 .simp[xam,c1];exact RetF.st rfl rfl
 cases c2:wi x.b0 (-8) 8
 .simp[xam,c1,xdt,xds,sIxA,asI,c2];exact RetF.st rfl rfl
 cases c3:wi x.b1 (-8) 8
 .simp[xam,c1,xdt,xds,sIxA,asI,c2,c3];exact RetF.st rfl rfl
 cases c4:wi x.sc 0 1000
 .simp[xam,c1,xdt,xds,sIxA,asI,c2,c3,c4];exact RetF.st rfl rfl
 simp[xam,c1,xdt,xds,sIxA,asI,c2,c3,c4];exact RetF.st rfl rfl
theorem xjc(d:Nat)(x:Mp)(m:Mem):x7s (x7q (d+2)) x1i [.agg x.c] m=some (I (bif ptOK x then 0 else 2),m):=by
 refine x87 rfl ?_ m
 rw[x6p]
 unfold x4k x3v
 simp[mem0,Mp.c,x9w]
 unfold ptOK
 cases c0:wi x.ln 0 63
 .simp;exact RetF.st rfl rfl
 cases c1:wi x.sm 0 63
 .simp[x9w,c1];exact RetF.st rfl rfl
 cases c2:wi x.b0 (-8) 8
 .simp[x9w,c1,sIxA,asI,c2];exact RetF.st rfl rfl
 cases c3:wi x.b1 (-8) 8
 .simp[x9w,c1,sIxA,asI,c2,c3];exact RetF.st rfl rfl
 cases c4:wi x.sc 0 1000
 .simp[x9w,c1,sIxA,asI,c2,c3,c4];exact RetF.st rfl rfl
 simp[x9w,c1,sIxA,asI,c2,c3,c4];exact RetF.st rfl rfl
def cpM:Nat->List Mp->Int×Int
 |_,[]=>(0,0)
 |k,x::r=>bif ptOK x then cpM (k+1) r else((k:Int),2)
def x80(l:List Mp):Int×Int:=if 30<l.length then(0,8)else cpM 0 l
theorem cpM_0:∀(l:List Mp) (k:Nat),(cpM k l).2=0->(cpM k l).1=0/\x85 l
 |[],_,_=>⟨rfl,λ_ h=>by cases h⟩
 |x::r,k,h=>by
  simp only[cpM]at h ⊢
  cases c:ptOK x
  .simp[c]at h
  .simp only[c,xdm]at h ⊢
   obtain⟨h1,h2⟩:=cpM_0 r (k+1) h
   refine⟨h1,λy hy=>?_⟩
   rcases xkh.mp hy with rfl|hy
   .exact ptOK_in c
   .exact h2 y hy
theorem xc5{l:List Mp}(h:(x80 l).2=0):l.length<=30/\(x80 l).1=0/\x85 l:=by
 unfold x80 at h ⊢
 by_cases c:30<l.length
 .simp[c]at h
 .simp only[c,xkm]at h ⊢
  obtain⟨h1,h2⟩:=cpM_0 l 0 h
  exact⟨by omega,h1,h2⟩
variable{a:AV}{l:List Mp}
theorem xjd(d:Nat)(hs:FHs)(u:Nat)(ha:Pts a l)(hl:l.length<=1000):∀(suf:List Mp) (k j:Nat) (m:Mem) (fc:Nat),l.drop k=suf->suf.length<j ->
 ∃m',x1n (x7q (d+3)) hs u j a (I l.length) (I k) m fc=some (.tup [I (cpM k suf).1,I (cpM k suf).2],m'):=by
 intro suf
 induction suf with
 |nil=>
  intro k j m fc hd hj
  obtain⟨j,rfl⟩:∃i,j=i+1:=⟨j-1,by simp at hj;omega⟩
  have hk:¬((k:Int)<(l.length:Int)):=by have:=xlj.mp hd;omega
  simp only[x1n]
  unfold x3e
  simp[hk,x5j,cpM]
 |cons e r ih=>
  intro k j m fc hd hj
  obtain⟨j,rfl⟩:∃i,j=i+1:=⟨j-1,by simp at hj;omega⟩
  obtain⟨hk,he,hd⟩:=xa9 hd
  have hk':(k:Int)<(l.length:Int):=by omega
  have ix:=ha.ix Mp.len hk
  have ld:=xc1 (m:=m) Mp.len (by omega) hk
  rw[he]at ld
  have pe:=xjb d e
  simp only[x1n]
  unfold x3e
  simp only[x8a,x92,hk',xl4,x96,ix,ld]
  simp only[Mp.c]at pe ⊢
  simp[z_pt,pe]
  rw[cpM]
  cases c:ptOK e
  .simp
  .obtain⟨m',h'⟩:=ih (k+1) j ((m.new (u,fc+4,5) (.row [I 0,I 0,I 0,I 0,I 0] 0 false)).set (u,fc+4,5) (.row [I e.ln,I e.sm,I e.b0,I e.b1,I e.sc] 0 false)) (fc+14) hd (by simp at hj;omega)
   simp(disch:=omega) [x8d]
   exact⟨m',by simpa using h'⟩
theorem xje(d:Nat)(ha:Pts a l)(hl:l.length<=1000)(m:Mem):x7s (x7q (d+4)) x1e [a] m=some (.tup [I (x80 l).1,I (x80 l).2],m):=by
 refine x87 (by simp[ha.still]) ?_ m
 rw[x6h]
 unfold x4c x3f
 simp[mem0,ha.len x8n]
 unfold x80
 by_cases c:30<l.length
 .have c':(30:Int)<(l.length:Int):=by omega
  simp[c,c']
  exact RetF.tup rfl rfl
 .have c':¬(30:Int)<(l.length:Int):=by omega
  obtain⟨m',h'⟩:=xjd d [] 0 ha (by omega) l 0 NN ⟨[],1⟩ 8 rfl (by rw[x8k];omega)
  simp[c,c',x5k,ha.len x8n]
  rw[show(0:Int)=((0:Nat):Int)from rfl,h']
  exact RetF.tup rfl rfl
theorem xjf(d:Nat)(hs:FHs)(u:Nat)(ha:Pts a l)(hl:l.length<=1000):∀(suf:List Mp) (k j:Nat) (m:Mem) (fc:Nat),l.drop k=suf->suf.length<j ->
 x1o (x7q (d+2)) hs u j a (I k) m fc=some (.tup [I (cpM k suf).1,I (cpM k suf).2],m):=by
 intro suf
 induction suf with
 |nil=>
  intro k j m fc hd hj
  obtain⟨j,rfl⟩:∃i,j=i+1:=⟨j-1,by simp at hj;omega⟩
  have hk:¬((k:Int)<(l.length:Int)):=by have:=xlj.mp hd;omega
  simp only[x1o]
  unfold x3g
  simp[hk,ha.len x8n,x5l,cpM]
 |cons e r ih=>
  intro k j m fc hd hj
  obtain⟨j,rfl⟩:∃i,j=i+1:=⟨j-1,by simp at hj;omega⟩
  obtain⟨hk,he,hd⟩:=xa9 hd
  have hk':(k:Int)<(l.length:Int):=by omega
  have ix:=ha.ix Mp.len hk
  have ld:=xc1 (m:=m) Mp.len (by omega) hk
  rw[he]at ld
  have pe:=xjc d e
  simp only[x1o]
  unfold x3g
  simp only[x8a,ha.len x8n,x92,hk',xl4,x96,ix,ld,pe]
  rw[cpM]
  cases c:ptOK e
  .simp
  .have h':=ih (k+1) j m (fc+15) hd (by simp at hj;omega)
   simp(disch:=omega) [x8d]
   simpa using h'
theorem xjg(d:Nat)(ha:Pts a l)(hl:l.length<=1000)(m:Mem):x7s (x7q (d+3)) x1f [a] m=some (.tup [I (x80 l).1,I (x80 l).2],m):=by
 refine x87 (by simp[ha.still]) ?_ m
 rw[x6i]
 unfold x4d x3h
 simp[mem0,ha.len x8n]
 unfold x80
 by_cases c:30<l.length
 .have c':(30:Int)<(l.length:Int):=by omega
  simp[c,c']
  exact RetF.tup rfl rfl
 .have c':¬(30:Int)<(l.length:Int):=by omega
  have h':=xjf d [] 0 ha (by omega) l 0 NN ⟨[],1⟩ 6 rfl (by rw[x8k];omega)
  simp[c,c',x5m]
  rw[show(0:Int)=((0:Nat):Int)from rfl,h']
  exact RetF.tup rfl rfl
theorem xjh(d:Nat)(ha:Pts a l)(hl:l.length<=1000)(m:Mem):x7s (x7q (d+4)) x16 [a] m=some (I (x80 l).2,m):=by
 refine x87 (by simp[ha.still]) ?_ m
 rw[x67]
 unfold x42 x2o
 simp[mem0,xjg d ha hl]
 exact RetF.st rfl rfl
theorem xdu(d:Nat)(ha:Pts a l)(hl:l.length<=1000)(m:Mem):x7s (x7q (d+5)) xv [a] m=some (.tup [a,I (x80 l).2],m):=by
 refine x87 (by simp[ha.still]) ?_ m
 rw[x6l]
 unfold x4g x3l
 simp[mem0,xje d ha hl]
 exact RetF.tup (by simp[ha.still]) rfl
theorem xhl(d:Nat)(ha:Pts a l)(hl:l.length<=1000)(m:Mem):∃a',Pts a' l/\x7s (x7q (d+1)) xu [a] m=some (a',m):=by
 have hr:x7z l.length 40:=by unfold x7z;omega
 have he:=ha.elems Mp.len
 by_cases h0:l=[]
 .subst h0
  refine⟨.slit [] 0 true,Sl.lit [] true,x87 (by simp[ha.still]) ?_ m⟩
  rw[x5x]
  unfold x2i x1y
  simp[mem0,he,xhe hr]
  exact RetF.st rfl rfl
 .have hq:l.length≠0:=λe=>h0 (xnd.mp e)
  refine⟨.slit (l.flatMap Mp.c) l.length false,Sl.lit l false,x87 (by simp[ha.still]) ?_ m⟩
  rw[x5x]
  unfold x2i x1y
  simp[mem0,he,xhe hr,hq]
  have hfl:=xak Mp.len l
  refine RetF.mk (a':=.slit (l.flatMap Mp.c) l.length false) ?_ rfl
  have:=xdn (objs:=((⟨[],1⟩:Mem).new (0,3,5) (.row (l.flatMap Mp.c) 0 false)).get) (id:=(0,3,5)) (cs:=l.flatMap Mp.c) (ver:=0) (off:=0) (n:=l.length) (z:=5) (k:=4) (f:=false) (x:=true) (by simp) (by omega) (by
   rw[xl7,xkz (by omega)];exact xcr Mp.still l)
  rw[xl7,xkz (by omega)]at this
  exact this
def xbh(l:List Mp):Bool:=decide (l.length<=12)||(decide (30<l.length)&&decide (l.length<=32))
theorem w_some(d:Nat)(ha:Pts a l)(m:Mem):x7s (x7q (d+1)) x1a [a] m=some (B (xbh l),m):=by
 refine x87 (by simp[ha.still]) ?_ m
 rw[x6b]
 unfold x46 x2u
 simp[mem0,ha.len x8n]
 unfold xbh
 by_cases c1:l.length<=12
 .have c1':(l.length:Int)<=12:=by omega
  simp[c1,c1']
  exact RetF.st rfl rfl
 .have c1':¬(l.length:Int)<=12:=by omega
  by_cases c2:30<l.length
  .have c2':(30:Int)<(l.length:Int):=by omega
   by_cases c3:l.length<=32
   .have c3':(l.length:Int)<=32:=by omega
    simp[c1,c1',c2,c2',c3,c3',ha.len x8n]
    exact RetF.st rfl rfl
   .have c3':¬(l.length:Int)<=32:=by omega
    simp[c1,c1',c2,c2',c3,c3',ha.len x8n]
    exact RetF.st rfl rfl
  .have c2':¬(30:Int)<(l.length:Int):=by omega
   simp[c1,c1',c2,c2',ha.len x8n]
   exact RetF.st rfl rfl
theorem someP_of{l:List Mp}(h:xbh l=true)(h30:l.length<=30):l.length<=12:=by
 unfold xbh at h
 simp at h
 omega
theorem someP_le{l:List Mp}(h:xbh l=true):l.length<=32:=by
 unfold xbh at h
 simp at h
 omega
def dt9(n a b d e f g h i:Int):Int:=n*(e*i-f*h)+a*(f*g-d*i)+b*(d*h-e*g)
def row9(n a b d e f g h i:Int):List AV:=[I n,I a,I b,I d,I e,I f,I g,I h,I i]
theorem e_cross3(k:Nat)(d e f g h i:Int):((x7q (k+1) [] x5n [.agg [I d,I e,I f],.agg [I g,I h,I i]] mem0).bind λp=>Go.Ix.frz p.2.get deep p.1)=some (.agg [I (co2 e i f h),I (co2 f g d i),I (co2 d h e g)]):=by kernel_rfl
theorem e_detP(k:Nat)(n a b d e f g h i:Int):((x7q (k+2) [] x2a [.agg (row9 n a b d e f g h i)] mem0).bind λp=>Go.Ix.frz p.2.get deep p.1)=some (I (dotW n a b (co2 e i f h) (co2 f g d i) (co2 d h e g))):=by kernel_rfl
theorem e_detR(k:Nat)(n a b d e f g h i:Int):((x7q (k+1) [] x20 [.agg (row9 n a b d e f g h i)] mem0).bind λp=>Go.Ix.frz p.2.get deep p.1)=some (I (aW (sW2 (mW n (co2 e i f h)) (mW a (co2 d i f g))) (mW b (co2 d h e g)))):=by kernel_rfl
theorem xbi(p q r s:Int):Cg (co2 p q r s) (p*q-r*s):=cg_s (cg_m (.refl p) (.refl q)) (cg_m (.refl r) (.refl s))
section
variable{n a b d e f g h i:Int}
theorem xbj(k:Nat)(hb:bd (dt9 n a b d e f g h i) 9223372036854775807)(m:Mem):x7s (x7q (k+2)) x2a [.agg (row9 n a b d e f g h i)] m=some (I (dt9 n a b d e f g h i),m):=by
 have h0:=e_detP k n a b d e f g h i
 have h1:dotW n a b (co2 e i f h) (co2 f g d i) (co2 d h e g)=dt9 n a b d e f g h i:=by
  refine aW_of ?_ hb
  exact cg_a (cg_a (cg_m (.refl n) (xbi ..)) (cg_m (.refl a) (xbi ..))) (cg_m (.refl b) (xbi ..))
 rw[h1]at h0
 exact x87 rfl (x9d h0) m
theorem xbk(k:Nat)(hb:bd (dt9 n a b d e f g h i) 9223372036854775807)(m:Mem):x7s (x7q (k+1)) x20 [.agg (row9 n a b d e f g h i)] m=some (I (dt9 n a b d e f g h i),m):=by
 have h0:=e_detR k n a b d e f g h i
 have h1:aW (sW2 (mW n (co2 e i f h)) (mW a (co2 d i f g))) (mW b (co2 d h e g))=dt9 n a b d e f g h i:=by
  refine aW_of ?_ hb
  refine(cg_a (cg_s (cg_m (.refl n) (xbi ..)) (cg_m (.refl a) (xbi ..))) (cg_m (.refl b) (xbi ..))).trans ?_
  unfold dt9
  grind
 rw[h1]at h0
 exact x87 rfl (x9d h0) m
theorem w_withP0(k:Nat)(x y z:Int)(m:Mem):x7s (x7q (k+1)) x29 [.agg (row9 n a b d e f g h i),I 0,.agg [I x,I y,I z]] m=some (.agg (row9 x y z d e f g h i),m):=x87 rfl (x9d (by kernel_rfl)) m
theorem w_withP1(k:Nat)(x y z:Int)(m:Mem):x7s (x7q (k+1)) x29 [.agg (row9 n a b d e f g h i),I 1,.agg [I x,I y,I z]] m=some (.agg (row9 n a b x y z g h i),m):=x87 rfl (x9d (by kernel_rfl)) m
theorem w_withP2(k:Nat)(x y z:Int)(m:Mem):x7s (x7q (k+1)) x29 [.agg (row9 n a b d e f g h i),I 2,.agg [I x,I y,I z]] m=some (.agg (row9 n a b d e f x y z),m):=x87 rfl (x9d (by kernel_rfl)) m
theorem w_withR0(k:Nat)(x y z:Int)(m:Mem):x7s (x7q (k+1)) x1z [.agg (row9 n a b d e f g h i),.agg [I x,I y,I z],I 0] m=some (.agg (row9 x a b y e f z h i),m):=x87 rfl (x9d (by kernel_rfl)) m
theorem w_withR1(k:Nat)(x y z:Int)(m:Mem):x7s (x7q (k+1)) x1z [.agg (row9 n a b d e f g h i),.agg [I x,I y,I z],I 1] m=some (.agg (row9 n x b d y f g z i),m):=x87 rfl (x9d (by kernel_rfl)) m
theorem w_withR2(k:Nat)(x y z:Int)(m:Mem):x7s (x7q (k+1)) x1z [.agg (row9 n a b d e f g h i),.agg [I x,I y,I z],I 2] m=some (.agg (row9 n a x d e y g h z),m):=x87 rfl (x9d (by kernel_rfl)) m
theorem xdv(k:Nat)(x y:Int)(m:Mem):x7s (x7q (k+1)) x3o [I x,I y] m=some (.agg [I 1,I x,I y],m):=x87 rfl (x9d (by kernel_rfl)) m
end
theorem l_div3(call:x7r)(hs:FHs)(u:Nat)(m:Mem):∀(n:Nat) (a b:Int) (j fc:Nat),b.natAbs<2 ^ n->2*n+1<=j ->
 ∃fc',xy call hs u j (I a) (I b) m fc=x3w call hs u (I (eG a b)) m fc':=by
 intro n
 induction n with
 |zero=>
  intro a b j fc h hj
  obtain⟨j,rfl⟩:∃i,j=i+1:=⟨j-1,by omega⟩
  have:b=0:=by simp at h;omega
  subst this
  simp only[xy]
  unfold x1v
  exact⟨fc+2,by simp[eG_0]⟩
 |succ n ih=>
  intro a b j fc h hj
  obtain⟨j,rfl⟩:∃i,j=i+1+1:=⟨j-2,by omega⟩
  by_cases hb:b=0
  .subst hb
   simp only[xy]
   unfold x1v
   exact⟨fc+2,by simp[eG_0]⟩
  .have e1:(a.tmod b).natAbs=a.natAbs % b.natAbs:=Int.natAbs_tmod a b
   rw[eG_s hb]
   by_cases hc:a.tmod b=0
   .refine⟨fc+8+2,?_⟩
    simp only[xy]
    unfold x1v
    simp[hb,xby hb,hc,eG_0]
   .have e2:(b.tmod (a.tmod b)).natAbs=b.natAbs % (a.natAbs % b.natAbs):=by rw[Int.natAbs_tmod,e1]
    have h2:=xhh (a:=a.natAbs) (b:=b.natAbs) (by omega) (by omega)
    obtain⟨fc',hf⟩:=ih (a.tmod b) (b.tmod (a.tmod b)) j (fc+8+8) (by rw[e2];have:=Nat.pow_succ 2 n;omega) (by omega)
    refine⟨fc',?_⟩
    rw[eG_s hc,<-hf]
    simp only[xy]
    unfold x1v
    simp[hb,xby hb,hc,xby hc]
theorem l_gcdR(call:x7r)(hs:FHs)(u:Nat)(m:Mem):∀(n:Nat) (a b:Int) (j fc:Nat),b.natAbs<2 ^ n->2*n+1<=j ->
 ∃fc',xx call hs u j (I a) (I b) m fc=x3i call hs u (I (eG a b)) m fc':=by
 intro n
 induction n with
 |zero=>
  intro a b j fc h hj
  obtain⟨j,rfl⟩:∃i,j=i+1:=⟨j-1,by omega⟩
  have:b=0:=by simp at h;omega
  subst this
  simp only[xx]
  unfold x1p
  exact⟨fc+2,by simp[eG_0]⟩
 |succ n ih=>
  intro a b j fc h hj
  obtain⟨j,rfl⟩:∃i,j=i+1+1:=⟨j-2,by omega⟩
  by_cases hb:b=0
  .subst hb
   simp only[xx]
   unfold x1p
   exact⟨fc+2,by simp[eG_0]⟩
  .have e1:(a.tmod b).natAbs=a.natAbs % b.natAbs:=Int.natAbs_tmod a b
   rw[eG_s hb]
   by_cases hc:a.tmod b=0
   .refine⟨fc+8+2,?_⟩
    simp only[xx]
    unfold x1p
    simp[hb,xby hb,hc,eG_0]
   .have e2:(b.tmod (a.tmod b)).natAbs=b.natAbs % (a.natAbs % b.natAbs):=by rw[Int.natAbs_tmod,e1]
    have h2:=xhh (a:=a.natAbs) (b:=b.natAbs) (by omega) (by omega)
    obtain⟨fc',hf⟩:=ih (a.tmod b) (b.tmod (a.tmod b)) j (fc+8+8) (by rw[e2];have:=Nat.pow_succ 2 n;omega) (by omega)
    refine⟨fc',?_⟩
    rw[eG_s hc,<-hf]
    simp only[xx]
    unfold x1p
    simp[hb,xby hb,hc,xby hc]
theorem eG_bd{a b:Int}(ha:bd a 4000000000000000000)(hb:bd b 4000000000000000000):bd (eG a b) 4000000000000000000:=by
 have hg:(eG a b).natAbs=Int.gcd a b:=eG_gcd b.natAbs a b (xki _)
 rw[bd.abs]at *
 rw[hg]
 by_cases h:b=0
 .subst h
  simpa using ha
 .have h1:((Int.gcd a b:Nat):Int) ∣ b:=Int.gcd_dvd_right a b
  have h2:=Int.natAbs_dvd_natAbs.mpr h1
  have h3:=Nat.le_of_dvd (by omega) h2
  simp at h3
  omega
theorem xc6(k:Nat){a b:Int}(ha:bd a 4000000000000000000)(hb:bd b 4000000000000000000)(m:Mem):x7s (x7q (k+2)) x13 [I a,I b] m=some (I (Int.gcd a b:Int),m):=by
 refine x87 rfl ?_ m
 have hbd:=eG_bd ha hb
 unfold bd at hbd hb
 obtain⟨fc',h⟩:=l_div3 (x7q (k+1)) [] 0 ⟨[],1⟩ 64 a b NN 1 (by omega) (by rw[x8k];omega)
 rw[x6q]
 unfold x4l x3x
 simp only[mem0]
 rw[h]
 unfold x3w
 have e:(x7q (k+1))=x7q (k+1):=rfl
 have hs:x7s (x7q (k+1)) xj [I (eG a b)] (⟨[],1⟩:Mem)=some (I ((eG a b).natAbs:Int),⟨[],1⟩):=by
  refine call0 rfl (m':=⟨[],1⟩) ?_ rfl
  rw[x5y]
  unfold x2j x2h
  simp(disch:=omega) [mem0]
  split<;>omega
 rw[hs,eG_gcd b.natAbs a b (xki _)]
 exact RetF.st rfl rfl
theorem xc7(k:Nat){a b:Int}(ha:bd a 4000000000000000000)(hb:bd b 4000000000000000000)(m:Mem):x7s (x7q (k+2)) x11 [I a,I b] m=some (I (Int.gcd a b:Int),m):=by
 refine x87 rfl ?_ m
 have hbd:=eG_bd ha hb
 unfold bd at hbd hb
 obtain⟨fc',h⟩:=l_gcdR (x7q (k+1)) [] 0 ⟨[],1⟩ 64 a b NN 1 (by omega) (by rw[x8k];omega)
 rw[x6j]
 unfold x4e x3j
 simp only[mem0]
 rw[h]
 unfold x3i
 rw[w_Size k (eG a b) _ (by omega) (by omega),eG_gcd b.natAbs a b (xki _)]
 exact RetF.st rfl rfl
theorem x99{x g:Int}(h0:0<g)(hd:g ∣ x)(hb:bd x 4000000000000000000):sQuo (I x) (I g)=some (I (x / g)):=by
 rw[sQuo_I (by omega),Int.tdiv_eq_ediv_of_dvd hd]
 have:=ediv_bd h0 hd hb
 unfold bd at this
 rw[x8d (by omega) (by omega)]
end Go.Ix
