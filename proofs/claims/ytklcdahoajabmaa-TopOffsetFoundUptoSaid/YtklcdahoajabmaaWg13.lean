import Derived.Test.YtklcdahoajabmaaWg3
import Derived.Test.YtklcdahoajabmaaWg12
import Derived.JoinedCond
import Derived.ChangeArms
import Derived.Test.YtklcdahoajabmaaWg0
import Derived.ProofKit
import Derived.Test.YtklcdahoajabmaaWg5
import Derived.Test.YtklcdahoajabmaaWg1
set_option maxRecDepth 100000
namespace Go.Proofs.Ytklcdahoajabmaa
open Go.ChangeShapes Go.WideShapes Go.ChangeAt Go.RowKit Go.Ix
theorem sh_f32{q:List AV}(h:Sh Try.prog x6 q):∃x,q=f32E x:=by
 have e:Try.prog.underlying x6=some (.float .f32):=by kernel_rfl
 cases h with
 |float h' b wf=>rw[e]at h';cases h';exact⟨b,rfl⟩
 |string h'=>rw[e]at h';cases h'
 |int h'=>rw[e]at h';cases h'
 |nilS h'=>rw[e]at h';cases h'
 |slice h'=>rw[e]at h';cases h'
 |bool h'=>rw[e]at h';cases h'
 |struct h'=>rw[e]at h';cases h'
 |array h'=>rw[e]at h';cases h'
theorem f32s_sh{z:AV}(f:Sh Try.prog xg [z]):∃l,Sl f32E z l:=sl_sh (e:=x6) (by kernel_rfl) (λ_ _ hr=>sh_f32 hr) f
theorem shot_sh{q:List AV}(hq:Sh Try.prog x1q q):∃L S b l,q=[I L,I S,b]/\Sl f32E b l:=by
 obtain⟨fs,h1,h2⟩:=fs_of (t:=x1q) (l:=[(xd5,0),(xd5,1),(xg,2)]) (by kernel_rfl)
 obtain⟨hl,hf⟩:=Sh.struct_inv h1 hq
 have hc:Try.prog.cellsOf x1q=3:=by kernel_rfl
 rw[hc]at hl
 have c1:Try.prog.cellsOf xd5=1:=by kernel_rfl
 have c2:Try.prog.cellsOf xg=1:=by kernel_rfl
 match q,hl with
 |[x0,x1,x2],_=>
  have g:∀t o,(t,o)∈[(xd5,0),(xd5,1),(xg,2)]->Sh Try.prog t ((([x0,x1,x2]:List AV).drop o).take (Try.prog.cellsOf t)):=by
   intro t o hm
   rw[<-h2]at hm
   obtain⟨f,hf1,hf2⟩:=xtz.mp hm
   cases hf2
   exact hf f hf1
  have g0:=g xd5 0 (by simp)
  have g1:=g xd5 1 (by simp)
  have g2:=g xg 2 (by simp)
  rw[c1]at g0 g1
  rw[c2]at g2
  obtain⟨n0,e0⟩:=sh_int g0
  obtain⟨n1,e1⟩:=sh_int g1
  obtain⟨l,hl⟩:=f32s_sh (z:=x2) g2
  simp at e0 e1
  subst e0 e1
  exact⟨n0,n1,x2,l,rfl,hl⟩
theorem shot_in{a:AV}(h:ArgSh Try.prog x1q a):∃L S b l,a=.agg [I L,I S,b]/\Sl f32E b l:=by
 obtain⟨fs,h1,-⟩:=fs_of (t:=x1q) (l:=[(xd5,0),(xd5,1),(xg,2)]) (by kernel_rfl)
 obtain⟨q,rfl,hq⟩:=h.struct h1
 obtain⟨L,S,b,l,rfl,hl⟩:=shot_sh hq
 exact⟨L,S,b,l,rfl,hl⟩
theorem two3_in{a:AV}(h:ArgSh Try.prog xb a):∃x y,a=.agg [I x,I y]:=by
 obtain⟨q,rfl,hq⟩:=h.array (t:=xb) (e:=xd5) (n:=2) (by kernel_rfl)
 have hf:=xjh 4 (show xgu Try.prog 4 xb=true by kernel_rfl) hq
 have hc:Try.prog.cellsOf xb=2:=by kernel_rfl
 have hl:q.length=2:=by
  cases hq with
  |array h' _ hl hf=>rw[hc]at hl;exact hl
  |string h'=>exact absurd h' (by rw[show Try.prog.underlying xb=some (.array 2 xd5) by kernel_rfl];intro h;cases h)
  |int h'=>exact absurd h' (by rw[show Try.prog.underlying xb=some (.array 2 xd5) by kernel_rfl];intro h;cases h)
  |nilS h'=>exact absurd h' (by rw[show Try.prog.underlying xb=some (.array 2 xd5) by kernel_rfl];intro h;cases h)
  |slice h'=>exact absurd h' (by rw[show Try.prog.underlying xb=some (.array 2 xd5) by kernel_rfl];intro h;cases h)
  |bool h'=>exact absurd h' (by rw[show Try.prog.underlying xb=some (.array 2 xd5) by kernel_rfl];intro h;cases h)
  |float h'=>exact absurd h' (by rw[show Try.prog.underlying xb=some (.array 2 xd5) by kernel_rfl];intro h;cases h)
  |struct h'=>exact absurd h' (by rw[show Try.prog.underlying xb=some (.array 2 xd5) by kernel_rfl];intro h;cases h)
 match q,hl with
 |[x0,x1],_=>
  obtain⟨n0,rfl⟩:=hf x0 (by simp)
  obtain⟨n1,rfl⟩:=hf x1 (by simp)
  exact⟨n0,n1,rfl⟩
theorem win_in{a:AV}(h:ArgSh Try.prog x2y a):∃x y z w,a=.agg [I x,I y,I z,I w]:=by
 obtain⟨fs,h1,-⟩:=fs_of (t:=x2y) (l:=[(xd5,0),(xd5,1),(xd5,2),(xd5,3)]) (by kernel_rfl)
 obtain⟨q,rfl,hq⟩:=h.struct h1
 have hl:=(Sh.struct_inv h1 hq).1
 have hc:Try.prog.cellsOf x2y=4:=by kernel_rfl
 have hf:=xjh 4 (show xgu Try.prog 4 x2y=true by kernel_rfl) hq
 rw[hc]at hl
 match q,hl with
 |[x0,x1,x2,x3],_=>
  obtain⟨n0,rfl⟩:=hf x0 (by simp)
  obtain⟨n1,rfl⟩:=hf x1 (by simp)
  obtain⟨n2,rfl⟩:=hf x2 (by simp)
  obtain⟨n3,rfl⟩:=hf x3 (by simp)
  exact⟨n0,n1,n2,n3,rfl⟩
end Go.Proofs.Ytklcdahoajabmaa
set_option linter.unusedVariables false
namespace Go.Proofs.Ytklcdahoajabmaa
open Go.ChangeShapes Go.WideShapes Go.ChangeAt Go.RowKit Go.Ix
theorem bulk_one{H:Type}(d:DataW H):1<=Rows.uptoBulk d:=by
 cases d with
 |lit l=>cases l<;>simp[Rows.uptoBulk]
 |nil=>simp[Rows.uptoBulk]
 |ptr d=>simp[Rows.uptoBulk]
 |slice elems spare=>simp[Rows.uptoBulk]
 |agg parts=>simp[Rows.uptoBulk]
 |iface t d=>simp[Rows.uptoBulk]
 |map entries=>simp[Rows.uptoBulk]
 |held h=>simp[Rows.uptoBulk]
theorem bulk_part{H:Type}{d:DataW H}:∀{l:List (DataW H)},d∈l->Rows.uptoBulk d<=Rows.uptoBulkAll l
 |x::r,h=>by
  simp only[Rows.uptoBulkAll]
  rcases xtm.mp h with rfl|e
  .omega
  .have:=bulk_part e;omega
theorem xp2{H:Type}:∀l:List (DataW H),l.length<=Rows.uptoBulkAll l
 |[]=>by simp[Rows.uptoBulkAll]
 |x::r=>by
  have:=bulk_one x
  have:=xp2 r
  simp only[Rows.uptoBulkAll,xtl]
  omega
theorem shot_bulk{H:Type}{enc:TypeId×Value->H}{W:World}{spare:Nat->Bool}{held:Bool}{b0:Nat}{F:Nat->Prop}{η:Eta}{ζ:List Nat}{v:Value}{d:DataW H}{ps:List MemPlace}{L S:Int}{b:AV}{l:List Nat}(ht:DataW.Trod enc Try.prog W b0 spare held x1q v d ps)(hV:V F W η ζ (.agg [I L,I S,b]) v)(hl:Sl f32E b l):l.length<=Rows.uptoBulk d:=by
 rcases hl with ⟨rfl,rfl⟩|⟨fl,rfl⟩
 .simp
 obtain⟨fuel,h⟩:=ht
 obtain⟨fs,h1,h2⟩:=fs_of (t:=x1q) (l:=[(xd5,0),(xd5,1),(xg,2)]) (by kernel_rfl)
 obtain⟨xs,n,-,hx,hlen,hxl,hf⟩:=DataW.trod_struct h1 h
 cases hV with
 |agg cs vs hsz hV=>
  have h3:fs.size=3:=by
   have:=congrArg List.length h2
   simpa using this
  have hfs:∃f,fs[2]?=some f/\f.type=xg/\f.offset=2:=by
   have g:(fs.toList.map λf=>(f.type,f.offset))[2]?=some (xg,2):=by rw[h2];rfl
   rw[xvs,xtf]at g
   obtain⟨f,g1,g2⟩:=g
   simp only[xtc]at g2
   exact⟨f,by simpa using g1,g2.1,g2.2⟩
  obtain⟨f,f1,f2,f3⟩:=hfs
  have hq:=hf 2 f f1
  have hs2:vs.size=3:=by rw[hsz];rfl
  have hu:vs[2]?=some vs[2]:=xto (by omega)
  have hv2:=hV 2 _ _ rfl hu
  have hc1:Try.prog.cellsOf xg=1:=by kernel_rfl
  rw[f2,f3,hc1,xtr (by omega)]at hq
  rcases DataW.trod_slice (e:=x6) (by kernel_rfl) hq with ⟨hc,-⟩|⟨a,len,cap,elems,rest,m,-,hc,hxx,-,-,-,he,-,-⟩
  .exfalso
   have hc':vs[2]=.slice none 0 0:=by
    have h5:(Value.cells (.agg vs)).toList=vs.toList:=by simp[Value.cells]
    rw[h5]at hc
    have h6:(vs.toList.drop 2).take 1=[vs[2]]:=by
     rw[xx3 (by simpa using(show 2<vs.size by omega))]
     simp
    rw[h6]at hc
    simpa using hc
   rw[hc']at hv2
   cases hv2
  .have hc':vs[2]=.slice (some a) len cap:=by
    have h5:(Value.cells (.agg vs)).toList=vs.toList:=by simp[Value.cells]
    rw[h5]at hc
    have h6:(vs.toList.drop 2).take 1=[vs[2]]:=by
     rw[xx3 (by simpa using(show 2<vs.size by omega))]
     simp
    rw[h6]at hc
    simpa using hc
   rw[hc']at hv2
   have hll:l.length=len:=by
    cases hv2
    rfl
   have hd:d=.agg (xs.map (·.1)):=congrArg Prod.fst hx
   have hm:(xs[2]'(by omega)).1∈xs.map (·.1):=xtz.mpr ⟨_,xub _,rfl⟩
   have hb:=bulk_part hm
   rw[hxx]at hb
   have hb2:=xp2 (elems.map (·.1))
   rw[hd]
   simp only[Rows.uptoBulk]at hb ⊢
   rw[xvt]at hb2
   omega
end Go.Proofs.Ytklcdahoajabmaa
namespace Go.Ix
theorem e_matched:((xcu 30 [] x7p [] mem0).map (λp=>p.1))=some (B true):=by kernel_rfl
theorem xge(m:Mem):xcv (xcu 30) x7p [] m=some (B true,m):=by
 have h:=e_matched
 rw[xtf]at h
 obtain⟨⟨r,m'⟩,h1,rfl⟩:=h
 exact call0 rfl h1 rfl
end Go.Ix
set_option linter.unusedSimpArgs false
set_option exponentiation.threshold 3000
namespace Go.Ix
open Go.Proofs Ieee
def val(x:Nat):Int:=match fcs x with
 | .num s V=>sg s (V / 2 ^ 1074)
 |_=>0
def RtP(x:Nat):Prop:=∃s k,fcs x=.num s (k*2 ^ 1074)/\k<=2047
theorem RtP.val{x:Nat}(h:RtP x):∃s k,fcs x=.num s (k*2 ^ 1074)/\k<=2047/\val x=sg s k:=by
 obtain⟨s,k,h1,h2⟩:=h
 refine⟨s,k,h1,h2,?_⟩
 unfold Go.Ix.val
 rw[h1]
 show sg s (k*2 ^ 1074 / 2 ^ 1074)=_
 rw[Nat.mul_div_cancel _ (Nat.two_pow_pos _)]
theorem RtP.bd{x:Nat}(h:RtP x):-2047<=Go.Ix.val x/\Go.Ix.val x<=2047:=by
 obtain⟨s,k,-,h2,h3⟩:=h.val
 rw[h3]
 cases s<;>simp[sg]<;>omega
theorem xp3{c:Fc}(h1:c.whole=true)(h2:c.big=false):∃s k,c=.num s (k*2 ^ 1074)/\k<=2047:=by
 obtain⟨s,V,rfl⟩:=xif h1
 have h1:(V % 2 ^ 1074 == 0)=true:=h1
 have h2:decide (2047*2 ^ 1074<V)=false:=h2
 have g1:V % 2 ^ 1074=0:=by simpa using h1
 have g2:¬2047*2 ^ 1074<V:=of_decide_eq_false h2
 have hd:=Nat.div_add_mod V (2 ^ 1074)
 have hp:0<2 ^ 1074:=Nat.two_pow_pos _
 refine⟨s,V / 2 ^ 1074,?_,?_⟩
 .congr 1
  rw[g1,Nat.mul_comm]at hd
  omega
 .exact Nat.le_of_lt_succ (Nat.div_lt_of_lt_mul (by
   generalize (2:Nat) ^ 1074=K at *
   have:K*(2047+1)=2047*K+K:=by omega
   omega))
theorem pxErr_0{p:Px}(h:xf9 p=0):RtP p.1/\RtP p.2:=by
 unfold xf9 pE at h
 cases c1:(fcs p.1).whole
 .rw[c1]at h;simp at h
 cases c2:(fcs p.2).whole
 .rw[c1,c2]at h;simp at h
 rw[c1,c2]at h
 cases b1:(fcs p.1).big
 rotate_left
 .rw[b1]at h;simp at h
 cases b2:(fcs p.2).big
 rotate_left
 .rw[b1,b2]at h;simp at h
 exact⟨xp3 c1 b1,xp3 c2 b2⟩
def RtD(D:List Px):Prop:=∀p∈D,RtP p.1/\RtP p.2
theorem chkS_0:∀(D:List Px) (k:Nat),(chkS k D).2=0->RtD D
 |[],_,_=>λ_ h=>by cases h
 |p::r,k,h=>by
  unfold chkS at h
  by_cases c:xf9 p=0
  .rw[xta c]at h
   have:=chkS_0 r (k+1) h
   intro q hq
   rcases xtm.mp hq with rfl|hq
   .exact pxErr_0 c
   .exact this q hq
  .rw[xtb c]at h;exact absurd h c
structure RtI (L S:Int) (D:List Px):Prop where
 l:wi L 1 64=true
 s:wi S 1 64=true
 n:(D.length:Int)=L*S
 d:RtD D
theorem xgf{L S:Int}{D:List Px}(h:(imE L S D).2=0):RtI L S D:=by
 unfold imE at h
 by_cases c:szE L S D.length=0
 .rw[xta c]at h
  unfold szE at c
  cases c1:wi L 1 64
  .rw[c1]at c;simp at c
  cases c2:wi S 1 64
  .rw[c1,c2]at c;simp at c
  rw[c1,c2]at c
  by_cases c3:(D.length:Int)=L*S
  .exact⟨c1,c2,c3,chkS_0 D 0 h⟩
  .simp[c3]at c
 .rw[xtb c]at h;exact absurd h c
theorem Fz_i{x y:Nat}(hx:RtP x)(hy:RtP y){v:Value}(h:Fz (fcs x) (fcs y) v):Fzi (val x) (val y) v:=by
 obtain⟨s,k,h1,h2,h3⟩:=hx.val
 obtain⟨s',k',g1,g2,g3⟩:=hy.val
 rw[h1,g1]at h
 obtain⟨p,q,rfl,hp,hq⟩:=h
 rw[h3,g3]
 exact⟨p,q,rfl,Cl_I hp,Cl_I hq⟩
theorem s_c2ci{x y:Nat}(hx:RtP x)(hy:RtP y):∃r,sCvt Try.prog x8 x5 (C32 x y)=some r/\Is (Fzi (val x) (val y)) r:=by
 obtain⟨r,e,h⟩:=s_c2c x y
 exact⟨r,e,h.mono λv hv=>Fz_i hx hy hv⟩
def atM(L S:Int)(D:List Px)(l s:Int):Int×Int:=
 bif wi l 0 (L-1)&&wi s 0 (S-1)then(val (D.getD (l*S+s).toNat (0,0)).1,val (D.getD (l*S+s).toNat (0,0)).2)else(0,0)
theorem I_0:IsI 0 0:=⟨false,0,-1074,rfl,by omega,by omega,by
 show((0*2 ^ ((-1074:Int)+1074).toNat:Nat):Int)=0*2 ^ 1074
 rw[xty,Int.zero_mul];rfl⟩
theorem at_in{L S l s:Int}{D:List Px}(hR:RtI L S D)(h1:wi l 0 (L-1)=true)(h2:wi s 0 (S-1)=true):0<=l*S+s/\l*S+s<D.length/\0<=l*S/\l*S<=4096:=by
 have a1:=wi_t h1
 have a2:=wi_t h2
 have a3:=wi_t hR.s
 have a4:=wi_t hR.l
 have b1:0<=l*S:=xuv (by omega) (by omega)
 have b2:l*S<=(L-1)*S:=xvx (by omega) (by omega)
 have b3:(L-1)*S=L*S-S:=by rw[Int.sub_mul,Int.one_mul]
 have b4:=xjt hR.l hR.s
 have:=hR.n
 omega
variable{a:AV}{D:List Px}{L S:Int}
theorem w_at(d:Nat)(ha:Sl pxE a D)(hR:RtI L S D)(l s:Int)(m:Mem):∃r,xcv (xcu (d+2)) x1c [.agg [I L,I S,a],I l,I s] m=some (r,m)/\Is (Fzi (atM L S D l s).1 (atM L S D l s).2) r:=by
 have hl:=wi_t hR.l
 have hs:=wi_t hR.s
 cases c1:wi l 0 (L-1)
 .refine⟨.sc (.complex .f64 0 0),xd3 (by simp[ha.still1]) ?_ m,?_⟩
  .rw[x7l]
   unfold x30 x2w
   simp(disch:=omega) [mem0,ha.one,xec,c1,xd6]
   exact RetF.st rfl rfl
  .unfold atM
   rw[c1]
   exact Is.sc ⟨0,0,rfl,I_0,I_0⟩
 cases c2:wi s 0 (S-1)
 .refine⟨.sc (.complex .f64 0 0),xd3 (by simp[ha.still1]) ?_ m,?_⟩
  .rw[x7l]
   unfold x30 x2w
   simp(disch:=omega) [mem0,ha.one,xec,c1,c2,xd6]
   exact RetF.st rfl rfl
  .unfold atM
   rw[c1,c2]
   exact Is.sc ⟨0,0,rfl,I_0,I_0⟩
 obtain⟨b1,b2,b3,b4⟩:=at_in hR c1 c2
 have hk:(l*S+s).toNat<D.length:=by omega
 have ix:=ha.ixI pxL b1 b2
 rw[xe2 hk,xu7]at ix
 have hrt:=hR.d _ (xub hk)
 obtain⟨r,e,hr⟩:=s_c2ci hrt.1 hrt.2
 have b5:=xjt hR.l hR.s
 have b6:=hR.n
 refine⟨r,xd3 (by simp[ha.still1]) ?_ m,?_⟩
 .rw[x7l]
  unfold x30 x2w
  simp(disch:=omega) [mem0,ha.one,xec,c1,c2,xd6,ix,pxE,e]
  exact RetF.st hr.oneZi.st rfl
 .unfold atM
  rw[c1,c2,xtu,xtr hk]
  exact hr
theorem w_lies(d:Nat)(hb:still1 a=true)(ho:a.one=true)(L S l s p q:Int)(h1:w64 (L-p)=L-p)(h2:w64 (S-q)=S-q)(m:Mem):xcv (xcu (d+2)) x1y [.agg [I L,I S,a],I l,I s,I p,I q] m=some (B (wi l 0 (L-p)&&wi s 0 (S-q)),m):=by
 refine xd3 (by simp[hb]) ?_ m
 rw[x9m]
 unfold x6e x47
 cases c1:wi l 0 (L-p)
 .simp[mem0,ho,xeb,h1,h2,c1]
  exact RetF.st rfl rfl
 .simp[mem0,ho,xeb,h1,h2,c1]
  exact RetF.st rfl rfl
open Go.Proofs
theorem xr9(d:Nat)(k:Int)(m:Mem):xcv (xcu (d+2)) x1z [I k] m=some (B (wi k 0 2),m):=by
 refine xd3 rfl ?_ m
 rw[x9o]
 unfold x6g x49
 simp[mem0,xec]
 exact RetF.st rfl rfl
theorem s_zmul{a b:AV}{p q u v:Int}{t:TypeId}{X Y:Operand}(ha:Is (Fzi p q) a)(hb:Is (Fzi u v) b)(h1:bd p 4000000000000000)(h2:bd q 4000000000000000)(h3:bd u 4000000000000000)(h4:bd v 4000000000000000)(k1:bd (p*u) 2000000000000000)(k2:bd (q*v) 2000000000000000)(k3:bd (p*v) 2000000000000000)(k4:bd (q*u) 2000000000000000):∃r,sBin Try.prog .mul t X Y a b=some r/\Is (Fzi (p*u-q*v) (p*v+q*u)) r:=by
 refine xjj ha hb ?_
 rintro _ _ ⟨x,y,rfl,hx,hy⟩ ⟨z,w,rfl,hz,hw⟩
 unfold bd at *
 obtain⟨e,f,h,he,hf⟩:=zi_mul hx hy hz hw (by omega) (by omega) (by omega) (by omega) (by omega) (by omega) (by omega) (by omega)
 have hb:binS .mul t X Y [.complex .f64 x y,.complex .f64 z w]=Op.complexOp .mul .f64 x y z w:=rfl
 rw[hb,h]
 exact OkR.pure ⟨xjn ⟨e,f,rfl,he,hf⟩,e,f,rfl,he,hf⟩
theorem s_zadd{a b:AV}{p q u v:Int}{t:TypeId}{X Y:Operand}(ha:Is (Fzi p q) a)(hb:Is (Fzi u v) b)(k1:bd (p+u) 4000000000000000)(k2:bd (q+v) 4000000000000000):∃r,sBin Try.prog .add t X Y a b=some r/\Is (Fzi (p+u) (q+v)) r:=by
 refine xjj ha hb ?_
 rintro _ _ ⟨x,y,rfl,hx,hy⟩ ⟨z,w,rfl,hz,hw⟩
 unfold bd at *
 obtain⟨e,f,h,he,hf⟩:=zi_add hx hy hz hw (by omega) (by omega)
 have hb:binS .add t X Y [.complex .f64 x y,.complex .f64 z w]=Op.complexOp .add .f64 x y z w:=rfl
 rw[hb,h]
 exact OkR.pure ⟨xjn ⟨e,f,rfl,he,hf⟩,e,f,rfl,he,hf⟩
theorem xlx{a:AV}{p q:Int}{t:TypeId}{ts:Array TypeId}(ha:Is (Fzi p q) a):∃r,xd8 Try.prog .real ts t [a]=some r/\Is (Fi p) r:=by
 refine xjk ha ?_
 rintro _ ⟨u,v,rfl,hu,hv⟩
 exact OkR.pure ⟨xjm ⟨u,rfl,hu⟩,u,rfl,hu⟩
theorem xly{a:AV}{p q:Int}{t:TypeId}{ts:Array TypeId}(ha:Is (Fzi p q) a):∃r,xd8 Try.prog .imag ts t [a]=some r/\Is (Fi q) r:=by
 refine xjk ha ?_
 rintro _ ⟨u,v,rfl,hu,hv⟩
 exact OkR.pure ⟨xjm ⟨v,rfl,hv⟩,v,rfl,hv⟩
theorem s_fi{a:AV}{n:Int}(ha:Is (Fi n) a)(hn:bd n 9000000000000000000):sCvt Try.prog x4 xd5 a=some (I n):=by
 refine sCvt_1 (A:=Fi n) ha rfl (λu hu=>by obtain⟨w,rfl,-⟩:=hu;rfl) (λu hu=>?_)
 obtain⟨w,rfl,hw⟩:=hu
 have hn':nfS Try.prog (convert x4 xd5 (.float .f64 w))=nfS Try.prog (Conv.floatToInt .f64 w .i64):=by kernel_rfl
 rw[<-xeh,hn',xeh]
 unfold Conv.floatToInt
 simp only[I_toInt hw]
 have e1:IntKind.i64.min=-9223372036854775808:=rfl
 have e2:IntKind.i64.max=9223372036854775807:=rfl
 unfold bd at hn
 rw[e1,e2,xta (by omega)]
 exact OkR.pure rfl
theorem s_if64(n:Int):sCvt Try.prog xd5 x4 (I n)=some (.sc (.float .f64 (FloatKind.f64.nearest n))):=by
 have hn:xd0 Try.prog (convert xd5 x4 (.int .i64 n))=some (.float .f64 (FloatKind.f64.nearest n)):=by kernel_rfl
 unfold sCvt cvt0
 simp only[show xd7 (I n)=some (.int .i64 n)from rfl,show xfr Try.prog xd5 x4 (.int .i64 n)=none from rfl,hn]
 rfl
theorem s_if32(n:Int):sCvt Try.prog xd5 x6 (I n)=some (.sc (.float .f32 (FloatKind.f32.nearest n))):=by
 have hn:xd0 Try.prog (convert xd5 x6 (.int .i64 n))=some (.float .f32 (FloatKind.f32.nearest n)):=by kernel_rfl
 unfold sCvt cvt0
 simp only[show xd7 (I n)=some (.int .i64 n)from rfl,show xfr Try.prog xd5 x6 (.int .i64 n)=none from rfl,hn]
 rfl
theorem cplx64(x y:Nat):xd8 Try.prog .complex #[x4,x4] x5 [.sc (.float .f64 x),.sc (.float .f64 y)]=some (.sc (.complex .f64 x y)):=by
 have h:xd0 Try.prog (biS .complex #[x4,x4] x5 [.float .f64 x,.float .f64 y])=some (.complex .f64 x y):=by kernel_rfl
 unfold xd8 bi0
 simp only[show xdf [AV.sc (.float .f64 x),AV.sc (.float .f64 y)]=some [.float .f64 x,.float .f64 y]from rfl,h]
 rfl
def kwM(k p:Int):List Int:=if k=0 then[1-p / 8,p / 8]else if k=1 then[16-p,p]else[32*p*p-p*p*p-256*p,3*p*p*p-80*p*p+8192,64*p*p-3*p*p*p+256*p,p*p*p-16*p*p]
def kA(k:Int):Int:=if k=2 then 1 else 0
def kS(k:Int):Int:=if k=0 then 1 else if k=1 then 16 else 8192
theorem xp4{Q:Int->Int->Prop}{k p:Int}(hk:wi k 0 2=true)(hp:0<=p/\p<=15)(h:∀k p:Int,(k=0\/k=1\/k=2)->(p=0\/p=1\/p=2\/p=3\/p=4\/p=5\/p=6\/p=7\/p=8\/p=9\/p=10\/p=11\/p=12\/p=13\/p=14\/p=15)->Q k p):Q k p:=by
 have:=wi_t hk
 exact h k p (by omega) (by omega)
theorem kw_ok{k p:Int}(hk:wi k 0 2=true)(hp:0<=p/\p<=15):(∀w∈kwM k p,bd w 8192)/\(kwM k p).length<=4:=by
 refine xp4 (Q:=λk p=>(∀w∈kwM k p,bd w 8192)/\(kwM k p).length<=4) hk hp ?_
 clear hk hp k p
 intro k p hk hp
 unfold bd
 rcases hk with rfl|rfl|rfl<;>rcases hp with rfl|rfl|rfl|rfl|rfl|rfl|rfl|rfl|rfl|rfl|rfl|rfl|rfl|rfl|rfl|rfl<;>decide
theorem kw_0{k:Int}(hk:wi k 0 2=true):kwM k 0=if k=0 then[1,0]else if k=1 then[16,0]else[0,8192,0,0]:=by
 have:=wi_t hk
 have:k=0\/k=1\/k=2:=by omega
 rcases this with rfl|rfl|rfl<;>decide
theorem xra{k p:Int}(hk:wi k 0 2=true)(hp:0<=p/\p<=15):∀d:Nat,((xcu (d+1) [] x3b [I k,I p] mem0).bind λq=>Go.Ix.frz q.2.get deep q.1)=some (.agg [.slit ((kwM k p).flatMap intE) (kwM k p).length true,I (kA k),I (kS k)]):=by
 refine xp4 (Q:=λk p=>∀d:Nat,((xcu (d+1) [] x3b [I k,I p] mem0).bind λq=>Go.Ix.frz q.2.get deep q.1)=some (.agg [.slit ((kwM k p).flatMap intE) (kwM k p).length true,I (kA k),I (kS k)])) hk hp ?_
 clear hk hp k p
 intro k p hk hp d
 rcases hk with rfl|rfl|rfl<;>rcases hp with rfl|rfl|rfl|rfl|rfl|rfl|rfl|rfl|rfl|rfl|rfl|rfl|rfl|rfl|rfl|rfl<;>kernel_rfl
theorem xp5{k p:Int}(hk:wi k 0 2=true)(hp:0<=p/\p<=15)(d:Nat)(m:Mem):xcv (xcu (d+1)) x3b [I k,I p] m=some (.agg [.slit ((kwM k p).flatMap intE) (kwM k p).length true,I (kA k),I (kS k)],m):=
 xd3 rfl (xjp (xra hk hp d)) m
def rowS(v:Int)(f:Int->Int):Int->List Int->Int
 |_,[]=>0
 |s,w::r=>v*w*f s+rowS v f (s+1) r
def xei(f:Int->Int->Int)(s:Int)(W:List Int):Int->List Int->Int
 |_,[]=>0
 |l,v::V=>rowS v (f l) s W+xei f s W (l+1) V
theorem vw_bd{v w x:Int}(hv:bd v 8192)(hw:bd w 8192)(hx:bd x 2047):bd (v*w) 67108864/\bd (v*w*x) 137371844608:=by
 have h1:=hv.mul hw
 have h2:=h1.mul hx
 exact⟨h1.mono (by decide),h2.mono (by decide)⟩
theorem xjv{v:Int}{f:Int->Int}(hv:bd v 8192)(hf:∀s,bd (f s) 2047):∀(W:List Int) (s:Int),(∀w∈W,bd w 8192)->bd (rowS v f s W) (W.length*137371844608)
 |[],s,_=>by unfold rowS bd;simp
 |w::r,s,h=>by
  have h1:=(vw_bd hv (h w (by simp)) (hf s)).2
  have h2:=xjv hv hf r (s+1) λx hx=>h x (by simp[hx])
  unfold rowS
  unfold bd at *
  simp only[xtl,xvy]
  generalize v*w*f s=A at *
  generalize rowS v f (s+1) r=B at *
  omega
theorem xlz{f:Int->Int->Int}{s:Int}{W:List Int}(hf:∀l s,bd (f l s) 2047)(hW:∀w∈W,bd w 8192)(h4:W.length<=4):∀(V:List Int) (l:Int),(∀v∈V,bd v 8192)->bd (xei f s W l V) (V.length*549487378432)
 |[],l,_=>by unfold xei bd;simp
 |v::V,l,h=>by
  have h1:=xjv (h v (by simp)) (hf l) W s hW
  have h2:=xlz (s:=s) hf hW h4 V (l+1) λx hx=>h x (by simp[hx])
  unfold xei
  unfold bd at *
  simp only[xtl,xvy]
  generalize rowS v (f l) s W=A at *
  generalize xei f s W (l+1) V=B at *
  omega
theorem xfo{L S:Int}{D:List Px}(hR:RtI L S D)(l s:Int):bd (atM L S D l s).1 2047/\bd (atM L S D l s).2 2047:=by
 unfold atM
 cases c:(wi l 0 (L-1)&&wi s 0 (S-1))
 .unfold bd;simp
 rw[xte]at c
 obtain⟨b1,b2,-,-⟩:=at_in hR c.1 c.2
 have hk:(l*S+s).toNat<D.length:=by omega
 have hrt:=hR.d _ (xub hk)
 rw[xia,xtu,xtr hk]
 exact⟨hrt.1.bd,hrt.2.bd⟩
theorem u_int:Try.prog.underlying xi=some (.slice xd5):=by kernel_rfl
abbrev slI(l:List Int):AV:=.slit (l.flatMap intE) l.length true
theorem xhl(l:List Int):Sl intE (slI l) l:=Sl.lit l true
variable{a:AV}{D:List Px}{L S:Int}
section
variable(d:Nat)(hs:FHs)(u:Nat)(ha:Sl pxE a D)(hR:RtI L S D)
include ha hR
theorem l_smp1(rec0:xeo)(V W:List Int)(hW:∀w∈W,bd w 8192)(h4:W.length<=4)(ln sm ah bh ks v:Int)(i:Nat)(hv:bd v 8192)(hln:bd ln 1000000000000000000)(hsm:bd sm 1000000000000000000)(hah:0<=ah/\ah<=1)(hbh:0<=bh/\bh<=1)(hi:i<=4){t38 t39 xV:AV}(m:Mem)(g3:m.get (u,0,3)=some (.row [I L,I S,a] 0 false))(g9:m.get (u,25,9)=some (.row [xV,I ah,I ks] 0 false))(g10:m.get (u,26,10)=some (.row [slI W,I bh,I ks] 0 false)) :
 ∀(suf:List Int) (k j:Nat) (r:AV) (A B:Int) (fc:Nat),W.drop k=suf->suf.length<j->Is (Fzi A B) r->bd A (3000000000000000-suf.length*137371844608)->bd B (3000000000000000-suf.length*137371844608) ->
 ∃r' fc',x2s (xcu (d+2)) hs u rec0 j (.ptr (u,0,3) 0 0) (I ln) (I sm) (.ptr (u,25,9) 0 0) (.ptr (u,26,10) 0 0) r (I i) (I v) t38 t39 (I i) (slI W) (I W.length) (I k) m fc
  = x52 (xcu (d+2)) hs u rec0 (.ptr (u,0,3) 0 0) (I ln) (I sm) (.ptr (u,25,9) 0 0) (.ptr (u,26,10) 0 0) r' t38 t39 (I i) m fc' /\
  Is (Fzi (A+rowS v (λs=>(atM L S D (ln+i-ah) s).1) (sm+k-bh) suf) (B+rowS v (λs=>(atM L S D (ln+i-ah) s).2) (sm+k-bh) suf)) r':=by
 intro suf
 induction suf with
 |nil=>
  intro k j r A B fc hd hj hr hA hB
  obtain⟨j,rfl⟩:∃i,j=i+1:=⟨j-1,by simp at hj;omega⟩
  have hk:¬((k:Int)<(W.length:Int)):=by have:=xvf.mp hd;omega
  refine⟨r,fc+1,?_,by simpa[rowS]using hr⟩
  simp only[x2s]
  unfold x53
  simp[hk]
 |cons w suf ih=>
  intro k j r A B fc hd hj hr hA hB
  obtain⟨j,rfl⟩:∃i,j=i+1:=⟨j-1,by simp at hj;omega⟩
  obtain⟨hk,he,hd⟩:=xhc hd
  have hk':(k:Int)<(W.length:Int):=by omega
  have ix:=(xhl W).ix (z:=1) (λ_=>rfl) hk
  rw[xe2 hk,xu7,he]at ix
  have hw:bd w 8192:=hW w (he▸xub hk)
  have hat:=xfo hR (ln+i-ah) (sm+k-bh)
  obtain⟨z,ez,hz⟩:=w_at d ha hR (ln+i-ah) (sm+k-bh) m
  have hv1:=vw_bd hv hw hat.1
  have hv2:=vw_bd hv hw hat.2
  have hvw:v*w<=67108864/\-67108864<=v*w:=⟨hv1.1.2,hv1.1.1⟩
  have hc:Is (Fzi (v*w) 0) (.sc (.complex .f64 (FloatKind.f64.nearest (v*w)) 0)):=Is.sc ⟨_,_,rfl,I_int (by omega),I_0⟩
  generalize hP:(atM L S D (ln+i-ah) (sm+k-bh)).1=P at *
  generalize hQ:(atM L S D (ln+i-ah) (sm+k-bh)).2=Q at *
  obtain⟨y,ey,hy⟩:=s_zmul (t:=x5) (X:=.tmp 58) (Y:=.tmp 72) hc hz (by unfold bd;omega) (by unfold bd;omega) (hat.1.mono (by decide)) (hat.2.mono (by decide)) (hv1.2.mono (by decide)) (by rw[Int.zero_mul];unfold bd;omega) (hv2.2.mono (by decide)) (by rw[Int.zero_mul];unfold bd;omega)
  have hy:Is (Fzi (v*w*P) (v*w*Q)) y:=by simpa using hy
  have q1:=hv1.2
  have q2:=hv2.2
  unfold bd at hln hsm q1 q2 hA hB
  simp only[xtl,xvy]at hA hB
  obtain⟨x,ex,hx⟩:=s_zadd (t:=x5) (X:=.tmp 53) (Y:=.tmp 73) hr hy (by unfold bd;omega) (by unfold bd;omega)
  have hkl:k<=4:=by omega
  obtain⟨r',fc',e,hr'⟩:=ih (k+1) j x (A+v*w*P) (B+v*w*Q) (fc+31) hd (by simp at hj;omega) hx (by unfold bd;omega) (by unfold bd;omega)
  refine⟨r',fc',?_,?_⟩
  .rw[<-e]
   simp only[x2s]
   conv=>lhs;unfold x53
   simp(disch:=omega) [hk',ix,intE,xd6,s_if64,cplx64,g3,g9,g10,ez,ey,ex]
  .unfold rowS
   rw[hP,hQ]
   have e1:sm+((k+1:Nat):Int)-bh=sm+k-bh+1:=by omega
   rw[e1]at hr'
   rw[<-xwj,<-xwj]
   exact hr'
theorem l_smp0(V W:List Int)(hV:∀w∈V,bd w 8192)(hV4:V.length<=4)(hW:∀w∈W,bd w 8192)(h4:W.length<=4)(ln sm ah bh ks:Int)(hln:bd ln 1000000000000000000)(hsm:bd sm 1000000000000000000)(hah:0<=ah/\ah<=1)(hbh:0<=bh/\bh<=1){xV:AV}(m:Mem)(g3:m.get (u,0,3)=some (.row [I L,I S,a] 0 false))(g9:m.get (u,25,9)=some (.row [xV,I ah,I ks] 0 false))(g10:m.get (u,26,10)=some (.row [slI W,I bh,I ks] 0 false)) :
 ∀(suf:List Int) (i j:Nat) (r:AV) (A B:Int) (fc:Nat),V.drop i=suf->suf.length<j->Is (Fzi A B) r->bd A (2000000000000000-suf.length*549487378432)->bd B (2000000000000000-suf.length*549487378432) ->
 ∃r' fc',x1p (xcu (d+2)) hs u j (.ptr (u,0,3) 0 0) (I ln) (I sm) (.ptr (u,25,9) 0 0) (.ptr (u,26,10) 0 0) r (slI V) (I V.length) (I i) m fc
  = x51 (xcu (d+2)) hs u (.ptr (u,25,9) 0 0) (.ptr (u,26,10) 0 0) r' m fc' /\
  Is (Fzi (A+xei (λl s=>(atM L S D l s).1) (sm-bh) W (ln+i-ah) suf) (B+xei (λl s=>(atM L S D l s).2) (sm-bh) W (ln+i-ah) suf)) r':=by
 intro suf
 induction suf with
 |nil=>
  intro i j r A B fc hd hj hr hA hB
  obtain⟨j,rfl⟩:∃i,j=i+1:=⟨j-1,by simp at hj;omega⟩
  have hk:¬((i:Int)<(V.length:Int)):=by have:=xvf.mp hd;omega
  refine⟨r,fc+1,?_,by simpa[xei]using hr⟩
  simp only[x1p]
  unfold x54
  simp[hk]
 |cons v suf ih=>
  intro i j r A B fc hd hj hr hA hB
  obtain⟨j,rfl⟩:∃i,j=i+1:=⟨j-1,by simp at hj;omega⟩
  obtain⟨hk,he,hd⟩:=xhc hd
  have hk':(i:Int)<(V.length:Int):=by omega
  have ix:=(xhl V).ix (z:=1) (λ_=>rfl) hk
  rw[xe2 hk,xu7,he]at ix
  have hv:bd v 8192:=hV v (he▸xub hk)
  have b1:=xjv (f:=λs=>(atM L S D (ln+i-ah) s).1) hv (λs=>(xfo hR _ s).1) W (sm-bh) hW
  have b2:=xjv (f:=λs=>(atM L S D (ln+i-ah) s).2) hv (λs=>(xfo hR _ s).2) W (sm-bh) hW
  unfold bd at hA hB b1 b2
  simp only[xtl,xvy]at hA hB
  obtain⟨r1,fc1,e1,hr1⟩:=l_smp1 d hs u ha hR (x1p (xcu (d+2)) hs u j) V W hW h4 ln sm ah bh ks v i hv hln hsm hah hbh (by omega) (t38:=slI V) (t39:=I V.length) m g3 g9 g10 W 0 NN r A B (fc+1+9) rfl (by rw[xdy];omega) hr (by unfold bd;omega) (by unfold bd;omega)
  rw[show sm+((0:Nat):Int)-bh=sm-bh by omega]at hr1
  obtain⟨r',fc',e,hr'⟩:=ih (i+1) j r1 _ _ (fc1+2) hd (by simp at hj;omega) hr1 (by unfold bd;omega) (by unfold bd;omega)
  refine⟨r',fc',?_,?_⟩
  .rw[<-e]
   simp only[x1p]
   conv=>lhs;unfold x54 x8n
   simp only[xev,hk',xvz,xdd,xfj,ix]
   simp[intE,g10,(xhl W).len u_int]
   rw[show(0:Int)=((0:Nat):Int)from rfl,e1]
   unfold x52
   simp(disch:=omega) [xd6]
  .unfold xei
   have e1:ln+((i+1:Nat):Int)-ah=ln+i-ah+1:=by omega
   rw[e1]at hr'
   rw[<-xwj,<-xwj]
   exact hr'
end
end Go.Ix
