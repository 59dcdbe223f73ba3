import Derived.Test.YtjdlceelbnaneaaWg7
import Derived.Test.YtjdlceelbnaneaaWg5
set_option linter.unusedSimpArgs false
set_option linter.unusedVariables false
namespace Go.Ix
open Go.Proofs
theorem x7m:Try.prog.underlying x8=some (.slice xt):=by kernel_rfl
theorem xf4:Try.prog.underlying x19=some (.slice xt):=by kernel_rfl
theorem z_pt:xe=[I 0,I 0,I 0,I 0,I 0]:=by kernel_rfl
theorem rd_5(a b c d e:AV)(cs:List AV):rd true 5 (a::b::c::d::e::cs)=some (.agg [a,b,c,d,e]):=by rw[rd_t];simp only[xhz];rw[xi6 (by omega)];rfl
attribute [local simp high] rd_5
theorem xbd(m:Mem)(n:Nat)(i:Id):(⟨m.hp,n⟩:Mem).get i=m.get i:=_root_.id rfl
abbrev Pts:=@Sl Mp Mp.c
def ptOK(x:Mp):Bool:=wi x.ln 0 63&&(wi x.sm 0 63&&(wi x.b0 (-8) 8&&(wi x.b1 (-8) 8&&wi x.sc 0 1000)))
theorem ptOK_in{x:Mp}(h:ptOK x=true):PtIn x:=by
 simp only[ptOK,xho]at h
 obtain⟨h1,h2,h3,h4,-⟩:=h
 have:=wi_t h1
 have:=wi_t h2
 exact⟨by omega,by omega,by omega,by omega,wi_t h3,wi_t h4⟩
theorem xbe(d:Nat)(hs:FHs)(a:Int)(m:Mem):x88 (x59 (d+2)) hs 2 (.clo xi []) [I a] m=some (B (wi a (-8) 8),⟨m.hp,m.next+1⟩):=by
 show x59 (d+2) hs xi [I a] m=_
 rw[x4l]
 unfold x3a x2s
 simp[x8q]
theorem xgp(d:Nat)(x:Mp)(m:Mem):x5c (x59 (d+3)) x13 [.agg x.c] m=some (I (bif ptOK x then 0 else 2),m):=by
 refine x5x rfl ?_ m
 rw[x4i]
 unfold x37 x2o
 simp[mem0,Mp.c,x8q]
 unfold ptOK
 cases c0:wi x.ln 0 63
 .simp;exact RetF.st rfl rfl
 cases c1:wi x.sm 0 63
 .simp[x8q,c1];exact RetF.st rfl rfl
 cases c2:wi x.b0 (-8) 8
 .simp[x8q,c1,xbe,xbd,sIxA,asI,c2];exact RetF.st rfl rfl
 cases c3:wi x.b1 (-8) 8
 .simp[x8q,c1,xbe,xbd,sIxA,asI,c2,c3];exact RetF.st rfl rfl
 cases c4:wi x.sc 0 1000
 .simp[x8q,c1,xbe,xbd,sIxA,asI,c2,c3,c4];exact RetF.st rfl rfl
 simp[x8q,c1,xbe,xbd,sIxA,asI,c2,c3,c4];exact RetF.st rfl rfl
theorem xgq(d:Nat)(x:Mp)(m:Mem):x5c (x59 (d+2)) x14 [.agg x.c] m=some (I (bif ptOK x then 0 else 2),m):=by
 refine x5x rfl ?_ m
 rw[x4j]
 unfold x38 x2p
 simp[mem0,Mp.c,x6n]
 unfold ptOK
 cases c0:wi x.ln 0 63
 .simp;exact RetF.st rfl rfl
 cases c1:wi x.sm 0 63
 .simp[x6n,c1];exact RetF.st rfl rfl
 cases c2:wi x.b0 (-8) 8
 .simp[x6n,c1,sIxA,asI,c2];exact RetF.st rfl rfl
 cases c3:wi x.b1 (-8) 8
 .simp[x6n,c1,sIxA,asI,c2,c3];exact RetF.st rfl rfl
 cases c4:wi x.sc 0 1000
 .simp[x6n,c1,sIxA,asI,c2,c3,c4];exact RetF.st rfl rfl
 simp[x6n,c1,sIxA,asI,c2,c3,c4];exact RetF.st rfl rfl
def cpM:Nat->List Mp->Int×Int
 |_,[]=>(0,0)
 |k,x::r=>bif ptOK x then cpM (k+1) r else((k:Int),2)
def x60(l:List Mp):Int×Int:=if 30<l.length then(0,8)else cpM 0 l
theorem cpM_0:∀(l:List Mp) (k:Nat),(cpM k l).2=0->(cpM k l).1=0/\x5s l
 |[],_,_=>⟨rfl,λ_ h=>by cases h⟩
 |x::r,k,h=>by
  simp only[cpM]at h ⊢
  cases c:ptOK x
  .simp[c]at h
  .simp only[c,xa1]at h ⊢
   obtain⟨h1,h2⟩:=cpM_0 r (k+1) h
   refine⟨h1,λy hy=>?_⟩
   rcases xhu.mp hy with rfl|hy
   .exact ptOK_in c
   .exact h2 y hy
theorem xcy{l:List Mp}(h:(x60 l).2=0):l.length<=30/\(x60 l).1=0/\x5s l:=by
 unfold x60 at h ⊢
 by_cases c:30<l.length
 .simp[c]at h
 .simp only[c,xhy]at h ⊢
  obtain⟨h1,h2⟩:=cpM_0 l 0 h
  exact⟨by omega,h1,h2⟩
variable{a:AV}{l:List Mp}
theorem xgr(d:Nat)(hs:FHs)(u:Nat)(ha:Pts a l)(hl:l.length<=1000):∀(suf:List Mp) (k j:Nat) (m:Mem) (fc:Nat),l.drop k=suf->suf.length<j ->
 ∃m',x16 (x59 (d+3)) hs u j a (I l.length) (I k) m fc=some (.tup [I (cpM k suf).1,I (cpM k suf).2],m'):=by
 intro suf
 induction suf with
 |nil=>
  intro k j m fc hd hj
  obtain⟨j,rfl⟩:∃i,j=i+1:=⟨j-1,by simp at hj;omega⟩
  have hk:¬((k:Int)<(l.length:Int)):=by have:=xjo.mp hd;omega
  simp only[x16]
  unfold x29
  simp[hk,x3m,cpM]
 |cons e r ih=>
  intro k j m fc hd hj
  obtain⟨j,rfl⟩:∃i,j=i+1:=⟨j-1,by simp at hj;omega⟩
  obtain⟨hk,he,hd⟩:=x97 hd
  have hk':(k:Int)<(l.length:Int):=by omega
  have ix:=ha.ix Mp.len hk
  have ld:=x98 (m:=m) Mp.len (by omega) hk
  rw[he]at ld
  have pe:=xgp d e
  simp only[x16]
  unfold x29
  simp only[x5t,x77,hk',xit,x78,ix,ld]
  simp only[Mp.c]at pe ⊢
  simp[z_pt,pe]
  rw[cpM]
  cases c:ptOK e
  .simp
  .obtain⟨m',h'⟩:=ih (k+1) j ((m.new (u,fc+4,5) (.row [I 0,I 0,I 0,I 0,I 0] 0 false)).set (u,fc+4,5) (.row [I e.ln,I e.sm,I e.b0,I e.b1,I e.sc] 0 false)) (fc+14) hd (by simp at hj;omega)
   simp(disch:=omega) [x66]
   exact⟨m',by simpa using h'⟩
theorem xgs(d:Nat)(ha:Pts a l)(hl:l.length<=1000)(m:Mem):x5c (x59 (d+4)) xx [a] m=some (.tup [I (x60 l).1,I (x60 l).2],m):=by
 refine x5x (by simp[ha.still]) ?_ m
 rw[x4b]
 unfold x30 x2a
 simp[mem0,ha.len x7m]
 unfold x60
 by_cases c:30<l.length
 .have c':(30:Int)<(l.length:Int):=by omega
  simp[c,c']
  exact RetF.tup rfl rfl
 .have c':¬(30:Int)<(l.length:Int):=by omega
  obtain⟨m',h'⟩:=xgr d [] 0 ha (by omega) l 0 NN ⟨[],1⟩ 8 rfl (by rw[x6l];omega)
  simp[c,c',x3n,ha.len x7m]
  rw[show(0:Int)=((0:Nat):Int)from rfl,h']
  exact RetF.tup rfl rfl
theorem xgt(d:Nat)(hs:FHs)(u:Nat)(ha:Pts a l)(hl:l.length<=1000):∀(suf:List Mp) (k j:Nat) (m:Mem) (fc:Nat),l.drop k=suf->suf.length<j ->
 x17 (x59 (d+2)) hs u j a (I k) m fc=some (.tup [I (cpM k suf).1,I (cpM k suf).2],m):=by
 intro suf
 induction suf with
 |nil=>
  intro k j m fc hd hj
  obtain⟨j,rfl⟩:∃i,j=i+1:=⟨j-1,by simp at hj;omega⟩
  have hk:¬((k:Int)<(l.length:Int)):=by have:=xjo.mp hd;omega
  simp only[x17]
  unfold x2b
  simp[hk,ha.len x7m,x3o,cpM]
 |cons e r ih=>
  intro k j m fc hd hj
  obtain⟨j,rfl⟩:∃i,j=i+1:=⟨j-1,by simp at hj;omega⟩
  obtain⟨hk,he,hd⟩:=x97 hd
  have hk':(k:Int)<(l.length:Int):=by omega
  have ix:=ha.ix Mp.len hk
  have ld:=x98 (m:=m) Mp.len (by omega) hk
  rw[he]at ld
  have pe:=xgq d e
  simp only[x17]
  unfold x2b
  simp only[x5t,ha.len x7m,x77,hk',xit,x78,ix,ld,pe]
  rw[cpM]
  cases c:ptOK e
  .simp
  .have h':=ih (k+1) j m (fc+15) hd (by simp at hj;omega)
   simp(disch:=omega) [x66]
   simpa using h'
theorem xgu(d:Nat)(ha:Pts a l)(hl:l.length<=1000)(m:Mem):x5c (x59 (d+3)) xy [a] m=some (.tup [I (x60 l).1,I (x60 l).2],m):=by
 refine x5x (by simp[ha.still]) ?_ m
 rw[x4c]
 unfold x31 x2c
 simp[mem0,ha.len x7m]
 unfold x60
 by_cases c:30<l.length
 .have c':(30:Int)<(l.length:Int):=by omega
  simp[c,c']
  exact RetF.tup rfl rfl
 .have c':¬(30:Int)<(l.length:Int):=by omega
  have h':=xgt d [] 0 ha (by omega) l 0 NN ⟨[],1⟩ 6 rfl (by rw[x6l];omega)
  simp[c,c',x3p]
  rw[show(0:Int)=((0:Nat):Int)from rfl,h']
  exact RetF.tup rfl rfl
theorem xgv(d:Nat)(ha:Pts a l)(hl:l.length<=1000)(m:Mem):x5c (x59 (d+4)) xu [a] m=some (I (x60 l).2,m):=by
 refine x5x (by simp[ha.still]) ?_ m
 rw[x46]
 unfold x2v x23
 simp[mem0,xgu d ha hl]
 exact RetF.st rfl rfl
theorem xgw(d:Nat)(ha:Pts a l)(hl:l.length<=1000)(m:Mem):x5c (x59 (d+5)) xz [a] m=some (.tup [a,I (x60 l).2],m):=by
 refine x5x (by simp[ha.still]) ?_ m
 rw[x4e]
 unfold x33 x2e
 simp[mem0,xgs d ha hl]
 exact RetF.tup (by simp[ha.still]) rfl
theorem w_points(d:Nat)(ha:Pts a l)(hl:l.length<=1000)(m:Mem):∃a',Pts a' l/\x5c (x59 (d+1)) xv [a] m=some (a',m):=by
 have hr:x5h l.length 40:=by unfold x5h;omega
 have he:=ha.elems Mp.len
 by_cases h0:l=[]
 .subst h0
  refine⟨.slit [] 0 true,Sl.lit [] true,x5x (by simp[ha.still]) ?_ m⟩
  rw[x40]
  unfold x1u x1g
  simp[mem0,he,xey hr]
  exact RetF.st rfl rfl
 .have hq:l.length≠0:=λe=>h0 (xkp.mp e)
  refine⟨.slit (l.flatMap Mp.c) l.length false,Sl.lit l false,x5x (by simp[ha.still]) ?_ m⟩
  rw[x40]
  unfold x1u x1g
  simp[mem0,he,xey hr,hq]
  have hfl:=x7j Mp.len l
  refine RetF.mk (a':=.slit (l.flatMap Mp.c) l.length false) ?_ rfl
  have:=xa2 (objs:=((⟨[],1⟩:Mem).new (0,3,5) (.row (l.flatMap Mp.c) 0 false)).get) (id:=(0,3,5)) (cs:=l.flatMap Mp.c) (ver:=0) (off:=0) (n:=l.length) (z:=5) (k:=4) (f:=false) (x:=true) (by simp) (by omega) (by
   rw[xie,xi5 (by omega)];exact x99 Mp.still l)
  rw[xie,xi5 (by omega)]at this
  exact this
def dt9(n a b d e f g h i:Int):Int:=n*(e*i-f*h)+a*(f*g-d*i)+b*(d*h-e*g)
def row9(n a b d e f g h i:Int):List AV:=[I n,I a,I b,I d,I e,I f,I g,I h,I i]
theorem e_cross3(k:Nat)(d e f g h i:Int):((x59 (k+1) [] x3q [.agg [I d,I e,I f],.agg [I g,I h,I i]] mem0).bind λp=>Go.Ix.frz p.2.get deep p.1)=some (.agg [I (co2 e i f h),I (co2 f g d i),I (co2 d h e g)]):=by kernel_rfl
theorem e_detP(k:Nat)(n a b d e f g h i:Int):((x59 (k+2) [] x1n [.agg (row9 n a b d e f g h i)] mem0).bind λp=>Go.Ix.frz p.2.get deep p.1)=some (I (dotW n a b (co2 e i f h) (co2 f g d i) (co2 d h e g))):=by kernel_rfl
theorem xbf(p q r s:Int):Cg (co2 p q r s) (p*q-r*s):=cg_s (cg_m (.refl p) (.refl q)) (cg_m (.refl r) (.refl s))
section
variable{n a b d e f g h i:Int}
theorem x8r(k:Nat)(hb:bd (dt9 n a b d e f g h i) 9223372036854775807)(m:Mem):x5c (x59 (k+2)) x1n [.agg (row9 n a b d e f g h i)] m=some (I (dt9 n a b d e f g h i),m):=by
 have h0:=e_detP k n a b d e f g h i
 have h1:dotW n a b (co2 e i f h) (co2 f g d i) (co2 d h e g)=dt9 n a b d e f g h i:=by
  refine aW_of ?_ hb
  exact cg_a (cg_a (cg_m (.refl n) (xbf ..)) (cg_m (.refl a) (xbf ..))) (cg_m (.refl b) (xbf ..))
 rw[h1]at h0
 exact x5x rfl (x7x h0) m
theorem w_withP0(k:Nat)(x y z:Int)(m:Mem):x5c (x59 (k+1)) x1m [.agg (row9 n a b d e f g h i),I 0,.agg [I x,I y,I z]] m=some (.agg (row9 x y z d e f g h i),m):=x5x rfl (x7x (by kernel_rfl)) m
theorem w_withP1(k:Nat)(x y z:Int)(m:Mem):x5c (x59 (k+1)) x1m [.agg (row9 n a b d e f g h i),I 1,.agg [I x,I y,I z]] m=some (.agg (row9 n a b x y z g h i),m):=x5x rfl (x7x (by kernel_rfl)) m
theorem w_withP2(k:Nat)(x y z:Int)(m:Mem):x5c (x59 (k+1)) x1m [.agg (row9 n a b d e f g h i),I 2,.agg [I x,I y,I z]] m=some (.agg (row9 n a b d e f x y z),m):=x5x rfl (x7x (by kernel_rfl)) m
theorem xbg(k:Nat)(x y:Int)(m:Mem):x5c (x59 (k+1)) x2h [I x,I y] m=some (.agg [I 1,I x,I y],m):=x5x rfl (x7x (by kernel_rfl)) m
end
theorem l_div3(call:x5a)(hs:FHs)(u:Nat)(m:Mem):∀(n:Nat) (a b:Int) (j fc:Nat),b.natAbs<2 ^ n->2*n+1<=j ->
 ∃fc',xk call hs u j (I a) (I b) m fc=x2q call hs u (I (eG a b)) m fc':=by
 intro n
 induction n with
 |zero=>
  intro a b j fc h hj
  obtain⟨j,rfl⟩:∃i,j=i+1:=⟨j-1,by omega⟩
  have:b=0:=by simp at h;omega
  subst this
  simp only[xk]
  unfold x1d
  exact⟨fc+2,by simp[eG_0]⟩
 |succ n ih=>
  intro a b j fc h hj
  obtain⟨j,rfl⟩:∃i,j=i+1+1:=⟨j-2,by omega⟩
  by_cases hb:b=0
  .subst hb
   simp only[xk]
   unfold x1d
   exact⟨fc+2,by simp[eG_0]⟩
  .have e1:(a.tmod b).natAbs=a.natAbs % b.natAbs:=Int.natAbs_tmod a b
   rw[eG_s hb]
   by_cases hc:a.tmod b=0
   .refine⟨fc+8+2,?_⟩
    simp only[xk]
    unfold x1d
    simp[hb,x9z hb,hc,eG_0]
   .have e2:(b.tmod (a.tmod b)).natAbs=b.natAbs % (a.natAbs % b.natAbs):=by rw[Int.natAbs_tmod,e1]
    have h2:=mod_half (a:=a.natAbs) (b:=b.natAbs) (by omega) (by omega)
    obtain⟨fc',hf⟩:=ih (a.tmod b) (b.tmod (a.tmod b)) j (fc+8+8) (by rw[e2];have:=Nat.pow_succ 2 n;omega) (by omega)
    refine⟨fc',?_⟩
    rw[eG_s hc,<-hf]
    simp only[xk]
    unfold x1d
    simp[hb,x9z hb,hc,x9z hc]
theorem eG_bd{a b:Int}(ha:bd a 4000000000000000000)(hb:bd b 4000000000000000000):bd (eG a b) 4000000000000000000:=by
 have hg:(eG a b).natAbs=Int.gcd a b:=eG_gcd b.natAbs a b (xht _)
 rw[bd.abs]at *
 rw[hg]
 by_cases h:b=0
 .subst h
  simpa using ha
 .have h1:((Int.gcd a b:Nat):Int) ∣ b:=Int.gcd_dvd_right a b
  have h2:=Int.natAbs_dvd_natAbs.mpr h1
  have h3:=Nat.le_of_dvd (by omega) h2
  simp at h3
  omega
theorem x9f(k:Nat){a b:Int}(ha:bd a 4000000000000000000)(hb:bd b 4000000000000000000)(m:Mem):x5c (x59 (k+2)) xn [I a,I b] m=some (I (Int.gcd a b:Int),m):=by
 refine x5x rfl ?_ m
 have hbd:=eG_bd ha hb
 unfold bd at hbd hb
 obtain⟨fc',h⟩:=l_div3 (x59 (k+1)) [] 0 ⟨[],1⟩ 64 a b NN 1 (by omega) (by rw[x6l];omega)
 rw[x4k]
 unfold x39 x2r
 simp only[mem0]
 rw[h]
 unfold x2q
 have e:(x59 (k+1))=x59 (k+1):=rfl
 have hs:x5c (x59 (k+1)) x12 [I (eG a b)] (⟨[],1⟩:Mem)=some (I ((eG a b).natAbs:Int),⟨[],1⟩):=by
  refine call0 rfl (m':=⟨[],1⟩) ?_ rfl
  rw[x4h]
  unfold x36 x2n
  simp(disch:=omega) [mem0]
  split<;>omega
 rw[hs,eG_gcd b.natAbs a b (xht _)]
 exact RetF.st rfl rfl
theorem x8s{x g:Int}(h0:0<g)(hd:g ∣ x)(hb:bd x 4000000000000000000):sQuo (I x) (I g)=some (I (x / g)):=by
 rw[sQuo_I (by omega),Int.tdiv_eq_ediv_of_dvd hd]
 have:=x8b h0 hd hb
 unfold bd at this
 rw[x66 (by omega) (by omega)]
end Go.Ix
