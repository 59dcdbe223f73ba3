import Derived.Test.YtjdlceelbnaneaaWg2
import Derived.Test.YtjdlceelbnaneaaWg3
import Derived.ProofKit
import Derived.Test.YtjdlceelbnaneaaWBase
import Derived.Test.YtjdlceelbnaneaaWg1
set_option maxRecDepth 100000
namespace Go.Proofs.Ytjdlceelbnaneaa
open Go.ChangeShapes Go.WideShapes Go.ChangeAt Go.RowKit Go.Ix
def x9d(P:Program):Nat->TypeId->Bool
 |0,_=>false
 |k+1,t=>match P.underlying t with
  |some (.int .i64)=>true
  |some (.struct fs)=>fs.toList.all (λf=>x9d P k f.type)&&(match tile P 0 fs.toList with|some n=>Nat.beq n (P.cellsOf t)|none=>false)
  |some (.array n e)=>x9d P k e&&Nat.beq (n*P.cellsOf e) (P.cellsOf t)
  |_=>false
theorem xf2{P:Program}:∀{fs:List Field} {off n:Nat},tile P off fs=some n->∀i,off<=i->i<n->∃f∈fs,f.offset<=i/\i<f.offset+P.cellsOf f.type
 |[],off,n,h,i,h1,h2=>by
  simp only[tile,xhn]at h
  omega
 |f::fs,off,n,h,i,h1,h2=>by
  simp only[tile]at h
  cases hb:Nat.beq f.offset off with
  |false=>rw[hb]at h;cases h
  |true=>
   rw[hb,cond_true]at h
   have hoff:=xhv hb
   by_cases c:i<off+P.cellsOf f.type
   .exact⟨f,xhs ..,by omega,by omega⟩
   .obtain⟨g,hg,h3⟩:=xf2 h i (by omega) h2
    exact⟨g,xhr _ hg,h3⟩
theorem xcx{P:Program}:∀(k:Nat) {t:TypeId} {q:List AV},x9d P k t=true->Sh P t q->∀a∈q,∃n,a=I n
 |0,_,_,h,_=>by simp[x9d]at h
 |k+1,t,q,h,hs=>by
  simp only[x9d]at h
  split at h
  .rename_i e
   obtain⟨n,rfl,-⟩:=Sh.int_inv e hs
   intro a ha
   simp at ha
   exact⟨n,ha⟩
  .rename_i fs e
   rw[xho,xhq]at h
   obtain⟨h1,h2⟩:=h
   obtain⟨hl,hf⟩:=Sh.struct_inv e hs
   split at h2
   .rename_i n hn
    have hn2:=xhv h2
    intro a ha
    obtain⟨i,hi,rfl⟩:=xkb.mp ha
    obtain⟨f,hfm,f1,f2⟩:=xf2 hn i (xk1 _) (by omega)
    refine xcx k (h1 f hfm) (hf f hfm) _ ?_
    rw[xkb]
    refine⟨i-f.offset,by simp;omega,?_⟩
    rw[List.getElem_take,List.getElem_drop]
    congr 1;omega
   .cases h2
  .rename_i n e' e
   rw[xho]at h
   have hn:=xhv h.2
   cases hs with
   |array h' _ hl hf=>
    rw[e]at h';cases h'
    intro a ha
    obtain⟨i,hi,rfl⟩:=xkb.mp ha
    have hz:0<P.cellsOf e':=by
     rcases Nat.eq_zero_or_pos (P.cellsOf e')with h0|h0
     .rw[h0]at hn;omega
     .exact h0
    have hlt:i / P.cellsOf e'<n:=(Nat.div_lt_iff_lt_mul hz).mpr (by omega)
    refine xcx k h.1 (hf (i / P.cellsOf e') hlt) _ ?_
    rw[xkb]
    have hm:=xj0 i hz
    have hd:=Nat.div_add_mod i (P.cellsOf e')
    rw[Nat.mul_comm]at hd
    have hd2:(i / P.cellsOf e')*P.cellsOf e'+i % P.cellsOf e'<q.length:=by omega
    refine⟨i % P.cellsOf e',by simp;omega,?_⟩
    rw[List.getElem_take,List.getElem_drop]
    congr 1
   |string h'=>rw[e]at h';cases h'
   |int h'=>rw[e]at h';cases h'
   |nilS h'=>rw[e]at h';cases h'
   |slice h'=>rw[e]at h';cases h'
   |bool h'=>rw[e]at h';cases h'
   |float h'=>rw[e]at h';cases h'
   |struct h'=>rw[e]at h';cases h'
  .cases h
theorem points_sh{z:AV}(f:Sh Try.prog x8 [z]):∃l,Sl Mp.c z l:=sl_sh (e:=xt) (by kernel_rfl) (λr hl hr=>by
 have hc:Try.prog.cellsOf xt=5:=by kernel_rfl
 have hf:=xcx 4 (show x9d Try.prog 4 xt=true by kernel_rfl) hr
 rw[hc]at hl
 match r,hl with
 |[x0,x1,x2,x3,x4],_=>
  obtain⟨n0,rfl⟩:=hf x0 (by simp)
  obtain⟨n1,rfl⟩:=hf x1 (by simp)
  obtain⟨n2,rfl⟩:=hf x2 (by simp)
  obtain⟨n3,rfl⟩:=hf x3 (by simp)
  obtain⟨n4,rfl⟩:=hf x4 (by simp)
  exact⟨⟨n0,n1,n2,n3,n4⟩,rfl⟩) f
theorem points_in{a:AV}(h:ArgSh Try.prog x8 a):∃l,Sl Mp.c a l:=points_sh (h.slice (t:=x8) (e:=xt) (by kernel_rfl))
end Go.Proofs.Ytjdlceelbnaneaa
set_option linter.unusedSimpArgs false
set_option linter.unusedVariables false
namespace Go.Ix
structure PtIn (x:Mp):Prop where
 l0:0<=x.ln
 l1:x.ln<=63
 s0:0<=x.sm
 s1:x.sm<=63
 b0:bd x.b0 8
 b1:bd x.b1 8
def x5s(l:List Mp):Prop:=∀x∈l,PtIn x
theorem x7w{f:Mp->Int}{b:Int}{l:List Mp}(hl:l.length<=13)(h0:0<=b)(h:∀x∈l,bd (f x) b):bd (su f l) (13*b):=by
 have h1:=su_le (f:=f) (b:=b) (l:=l) h
 have h2:(l.length:Int)*b<=13*b:=xkw (by omega) h0
 unfold bd;omega
theorem PtIn.ln{x:Mp}(h:PtIn x):bd x.ln 63:=by have:=h.l0;have:=h.l1;unfold bd;omega
theorem PtIn.sm{x:Mp}(h:PtIn x):bd x.sm 63:=by have:=h.s0;have:=h.s1;unfold bd;omega
section
variable{l:List Mp}
theorem bN(h:x5s l)(hl:l.length<=13):bd (sN l) 13:=(x7w (b:=1) hl (by omega) λx hx=>by unfold bd;omega).mono (by omega)
theorem bA(h:x5s l)(hl:l.length<=13):bd (sA l) 819:=(x7w (b:=63) hl (by omega) λx hx=>(h x hx).ln).mono (by omega)
theorem bB(h:x5s l)(hl:l.length<=13):bd (sB l) 819:=(x7w (b:=63) hl (by omega) λx hx=>(h x hx).sm).mono (by omega)
theorem bC(h:x5s l)(hl:l.length<=13):bd (sC l) 51597:=(x7w (b:=3969) hl (by omega) λx hx=>((h x hx).ln.mul (h x hx).ln).mono (by omega)).mono (by omega)
theorem bD(h:x5s l)(hl:l.length<=13):bd (sD l) 51597:=(x7w (b:=3969) hl (by omega) λx hx=>((h x hx).ln.mul (h x hx).sm).mono (by omega)).mono (by omega)
theorem bE(h:x5s l)(hl:l.length<=13):bd (sE l) 51597:=(x7w (b:=3969) hl (by omega) λx hx=>((h x hx).sm.mul (h x hx).sm).mono (by omega)).mono (by omega)
theorem b0F{g:Mp->Int}(h:x5s l)(hl:l.length<=13)(hg:∀x∈l,bd (g x) 8):bd (of0 g l) 104:=(x7w (b:=8) hl (by omega) hg).mono (by omega)
theorem b1F{g:Mp->Int}(h:x5s l)(hl:l.length<=13)(hg:∀x∈l,bd (g x) 8):bd (of1 g l) 6552:=(x7w (b:=504) hl (by omega) λx hx=>((h x hx).ln.mul (hg x hx)).mono (by omega)).mono (by omega)
theorem b2F{g:Mp->Int}(h:x5s l)(hl:l.length<=13)(hg:∀x∈l,bd (g x) 8):bd (of2 g l) 6552:=(x7w (b:=504) hl (by omega) λx hx=>((h x hx).sm.mul (hg x hx)).mono (by omega)).mono (by omega)
theorem DD_bd(h:x5s l)(hl:l.length<=13):bd (DD l) 1000000000000:=by
 have N:=bN h hl;have A:=bA h hl;have B:=bB h hl;have C:=bC h hl;have D:=bD h hl;have E:=bE h hl
 unfold DD dt
 exact(((N.mul ((C.mul E).sub (D.mul D))).sub (A.mul ((A.mul E).sub (D.mul B)))).add (B.mul ((A.mul D).sub (C.mul B)))).mono (by omega)
theorem C0_bd{g:Mp->Int}(h:x5s l)(hl:l.length<=13)(hg:∀x∈l,bd (g x) 8):bd (C0 g l) 10000000000000:=by
 have N:=bN h hl;have A:=bA h hl;have B:=bB h hl;have C:=bC h hl;have D:=bD h hl;have E:=bE h hl
 have X:=b0F h hl hg;have Y:=b1F h hl hg;have Z:=b2F h hl hg
 unfold C0 c0
 exact(((X.mul ((C.mul E).sub (D.mul D))).sub (Y.mul ((A.mul E).sub (B.mul D)))).add (Z.mul ((A.mul D).sub (B.mul C)))).mono (by omega)
theorem C1_bd{g:Mp->Int}(h:x5s l)(hl:l.length<=13)(hg:∀x∈l,bd (g x) 8):bd (C1 g l) 10000000000000:=by
 have N:=bN h hl;have A:=bA h hl;have B:=bB h hl;have C:=bC h hl;have D:=bD h hl;have E:=bE h hl
 have X:=b0F h hl hg;have Y:=b1F h hl hg;have Z:=b2F h hl hg
 unfold C1 c1
 exact(((N.mul ((Y.mul E).sub (Z.mul D))).sub (X.mul ((A.mul E).sub (B.mul D)))).add (B.mul ((A.mul Z).sub (B.mul Y)))).mono (by omega)
theorem C2_bd{g:Mp->Int}(h:x5s l)(hl:l.length<=13)(hg:∀x∈l,bd (g x) 8):bd (C2 g l) 10000000000000:=by
 have N:=bN h hl;have A:=bA h hl;have B:=bB h hl;have C:=bC h hl;have D:=bD h hl;have E:=bE h hl
 have X:=b0F h hl hg;have Y:=b1F h hl hg;have Z:=b2F h hl hg
 unfold C2 c2
 exact(((N.mul ((C.mul Z).sub (D.mul Y))).sub (A.mul ((A.mul Z).sub (B.mul Y)))).add (X.mul ((A.mul D).sub (B.mul C)))).mono (by omega)
theorem x8b{x g b:Int}(hg:0<g)(hd:g ∣ x)(h:bd x b):bd (x / g) b:=by
 obtain⟨u,rfl⟩:=hd
 rw[Int.mul_ediv_cancel_left _ (by omega)]
 rw[bd.abs]at *
 rw[Int.natAbs_mul,Int.natCast_mul]at h
 have:(1:Int)*(u.natAbs:Int)<=(g.natAbs:Int)*(u.natAbs:Int):=xkw (by omega) (by omega)
 omega
theorem fit_bd(h:x5s l)(hl:l.length<=13)(hD:0<DD l):(0<(fitM l).den/\(fitM l).den<=1000000000000) /\
 bd (fitM l).l0 10000000000000/\bd (fitM l).l1 10000000000000/\bd (fitM l).l2 10000000000000/\bd (fitM l).s0 10000000000000/\bd (fitM l).s1 10000000000000/\bd (fitM l).s2 10000000000000:=by
 have hg:=xa5 hD
 obtain⟨d0,d1⟩:=xa6 l
 have g0:∀x∈l,bd x.b0 8:=λx hx=>(h x hx).b0
 have g1:∀x∈l,bd x.b1 8:=λx hx=>(h x hx).b1
 have e:=(x8b hg d0 (DD_bd h hl)).2
 exact⟨⟨fit_den hD,e⟩,x8b hg (d1 _ (by simp[x5m])) (C0_bd h hl g0),x8b hg (d1 _ (by simp[x5m])) (C1_bd h hl g0),x8b hg (d1 _ (by simp[x5m])) (C2_bd h hl g0),
  x8b hg (d1 _ (by simp[x5m])) (C0_bd h hl g1),x8b hg (d1 _ (by simp[x5m])) (C1_bd h hl g1),x8b hg (d1 _ (by simp[x5m])) (C2_bd h hl g1)⟩
end
open Go.Proofs
theorem x7x{v:AV}{call:x5a}{f:FuncId}{l:List AV}(h:((call [] f l mem0).bind λp=>Go.Ix.frz p.2.get deep p.1)=some v):RetF (λa=>a=v) (call [] f l mem0):=by
 rw[xik]at h
 obtain⟨⟨a,m'⟩,h1,h2⟩:=h
 exact⟨a,m',v,h1,h2,rfl⟩
def mW(a b:Int):Int:=w64 (a*b)
def aW(a b:Int):Int:=w64 (a+b)
def sW2(a b:Int):Int:=w64 (a-b)
structure Nm where
 a:Int
 b:Int
 c:Int
 d:Int
 e:Int
 f:Int
 g:Int
 h:Int
 i:Int
 x:Int
 y:Int
 z:Int
abbrev Nm.v(n:Nm):AV:=.agg [I n.a,I n.b,I n.c,I n.d,I n.e,I n.f,I n.g,I n.h,I n.i,I n.x,I n.y,I n.z]
def co2(p q r s:Int):Int:=sW2 (mW p q) (mW r s)
structure Ep where
 day:Int
 bl:Int
 ph:Int
 mg:Int
def Ep.c(e:Ep):List AV:=[I e.day,I e.bl,I e.ph,I e.mg]
def Ep.r(d0:Int)(e:Ep):List AV:=[I (sW2 e.day d0),I e.bl,I 1]
def Ep.p(e:Ep):List AV:=[I e.ph]
theorem Ep.len(e:Ep):e.c.length=4:=rfl
theorem Ep.still(e:Ep):e.c.all still1=true:=rfl
def Cg(x y:Int):Prop:=∃k:Int,x=y+18446744073709551616*k
theorem Cg.refl(x:Int):Cg x x:=⟨0,by omega⟩
theorem xbb(n:Int):Cg (w64 n) n/\-9223372036854775808<=w64 n/\w64 n<=9223372036854775807:=by
 rw[x8n]
 have e:IntKind.i64.wrap n=if(n % 18446744073709551616) ≥ 9223372036854775808 then n % 18446744073709551616-18446744073709551616 else n % 18446744073709551616:=by
  show(if(true&&decide (n % (2 ^ 64:Int) ≥ (2 ^ 63:Int)))=true then n % (2 ^ 64:Int)-(2 ^ 64:Int)else n % (2 ^ 64:Int))=_
  simp
 rw[e]
 have h1:=xkx n (show(18446744073709551616:Int)≠0 by omega)
 have h2:=xky n (show(0:Int)<18446744073709551616 by omega)
 have h3:=Int.mul_ediv_add_emod n 18446744073709551616
 split
 .exact⟨⟨-(n / 18446744073709551616)-1,by omega⟩,by omega,by omega⟩
 .exact⟨⟨-(n / 18446744073709551616),by omega⟩,by omega,by omega⟩
theorem Cg.w{x y:Int}(h:Cg x y):Cg (w64 x) y:=by
 obtain⟨k,h⟩:=h
 obtain⟨⟨j,e⟩,-⟩:=xbb x
 exact⟨k+j,by rw[e,h];omega⟩
theorem Cg.add{a b x y:Int}(h:Cg a x)(k:Cg b y):Cg (a+b) (x+y):=by
 obtain⟨p,h⟩:=h
 obtain⟨q,k⟩:=k
 exact⟨p+q,by rw[h,k];omega⟩
theorem Cg.sub{a b x y:Int}(h:Cg a x)(k:Cg b y):Cg (a-b) (x-y):=by
 obtain⟨p,h⟩:=h
 obtain⟨q,k⟩:=k
 exact⟨p-q,by rw[h,k];omega⟩
theorem Cg.mul{a b x y:Int}(h:Cg a x)(k:Cg b y):Cg (a*b) (x*y):=by
 obtain⟨p,h⟩:=h
 obtain⟨q,k⟩:=k
 exact⟨x*q+p*y+18446744073709551616*(p*q),by rw[h,k];grind⟩
theorem Cg.fin{x y:Int}(h:Cg x y)(h1:bd x 9223372036854775807)(hb:bd y 9223372036854775807):x=y:=by
 obtain⟨k,h⟩:=h
 unfold bd at *
 omega
theorem xbc{x y:Int}(h:Cg x y)(hb:bd y 9223372036854775807):w64 x=y:=by
 obtain⟨k,e⟩:=h.w
 obtain⟨-,h1,h2⟩:=xbb x
 unfold bd at hb
 omega
theorem cg_m{a b x y:Int}(h:Cg a x)(k:Cg b y):Cg (mW a b) (x*y):=(h.mul k).w
theorem cg_a{a b x y:Int}(h:Cg a x)(k:Cg b y):Cg (aW a b) (x+y):=(h.add k).w
theorem cg_s{a b x y:Int}(h:Cg a x)(k:Cg b y):Cg (sW2 a b) (x-y):=(h.sub k).w
theorem aW_of{a b y:Int}(h:Cg (aW a b) y)(hb:bd y 9223372036854775807):aW a b=y:=by
 obtain⟨k,e⟩:=h
 obtain⟨-,h1,h2⟩:=xbb (a+b)
 unfold aW at *
 unfold bd at hb
 omega
theorem Cg.trans{x y z:Int}(h:Cg x y)(e:y=z):Cg x z:=e▸h
theorem e_awake3:((x59 30 [] x3g [] mem0).map (λp=>p.1))=some (B true):=by kernel_rfl
theorem w_awake3(m:Mem):x5c (x59 30) x3g [] m=some (B true,m):=by
 have h:=e_awake3
 rw[xhp]at h
 obtain⟨⟨r,m'⟩,h1,rfl⟩:=h
 exact call0 rfl h1 rfl
end Go.Ix
namespace Go.Ix
variable{R:Type}{m:Mem}
theorem x9e:∀l:List Int,l.flatMap intE=l.map I
 |[]=>rfl
 |x::l=>by rw[xj4,x9e l];rfl
theorem xf3(l:List Int):(l.flatMap intE).length=l.length:=by rw[x9e];simp
@[simp high] theorem ldRow_int{l:List Int}{k:Nat}{fz:Bool}(hk:k<l.length):ldRow false 1 0 k (some (.row (l.flatMap intE) 0 fz))=some (I (at0 l k)):=by
  simp only[ldRow,Nat.beq_refl,cond_true,rd,xic,xhy]
  rw[x9e,<-List.map_drop,x8o hk,x7k hk]
  rfl
@[simp high] theorem stRow_int{l:List Int}{k:Nat}{v:Int}(hk:k<l.length):stRow 1 0 k (I v) (some (.row (l.flatMap intE) 0 false))=some (.row ((l.set k v).flatMap intE) 0 false):=by
  have h:(0:Nat)=0/\(I v).cells.length=1/\k+1<=(l.flatMap intE).length/\((I v).cells.all AV.one)=true:=⟨rfl,rfl,by rw[xf3];omega,rfl⟩
  rw[xcp,xi6 h,cond_true]
  simp only[x9e,x5o,cells_I]
  congr 2
  rw[List.map_set,xl2,xhk (by simpa using hk)]
  simp
end Go.Ix
namespace Go.Ix
open Go.Proofs
variable{α:Type}{z:Nat}{enc:α->List AV}{l:List α}{a:AV}
def Gq{α:Type}(z:Nat)(enc:α->List AV)(u:Nat)(T:List Nat)(m:Mem)(a:AV)(l:List α):Prop:=
 (a=nilS/\l=[])\/∃s t ver,t∈T/\a=.sref (u,s,t) ver 0 l.length z true/\m.get (u,s,t)=some (.row (l.flatMap enc) ver false)
theorem Gq.nil{u:Nat}{T:List Nat}{m:Mem}:Gq z enc u T m nilS []:=Or.inl ⟨rfl,rfl⟩
theorem Gq.frame{u:Nat}{T:List Nat}{m m':Mem}(h:Gq z enc u T m a l)(hm:∀s t,t∈T->m'.get (u,s,t)=m.get (u,s,t)):Gq z enc u T m' a l:=by
 rcases h with h|⟨s,t,ver,h0,h1,h2⟩
 .exact Or.inl h
 .exact Or.inr ⟨s,t,ver,h0,h1,by rw[hm _ _ h0];exact h2⟩
theorem Gq.app(hz:∀x,(enc x).length=z)(h0:0<z){u t0 s0 bytes:Nat}{T:List Nat}{m:Mem}(ht:t0∈T)(hr:x5h (l.length+1) bytes)(h:Gq z enc u T m a l)(x:α) :
 ∃a' m',(∀{R:Type} (k:AV->Mem->Option R),sApp z bytes (u,s0,t0) (some (enc x,1)) a m k=k a' m')/\Gq z enc u T m' a' (l++[x])/\m'.next=m.next/\∀j:Id,j.2.2∉T->m'.get j=m.get j:=by
 rcases h with ⟨rfl,rfl⟩|⟨s,t,ver,h1,rfl,hg⟩
 .refine⟨.sref (u,s0,t0) 0 0 1 z true,m.new (u,s0,t0) (.row (enc x) 0 false),λk=>?_,Or.inr ⟨s0,t0,0,ht,rfl,by simp⟩,rfl,λj hj=>?_⟩
  .simp only[sApp]
   rw[xhl (by omega),xhk (by simpa using hr)]
  .rw[Mem.get_new,xhl (by rintro rfl;exact hj ht)]
 .have hl:=x7j hz l
  refine⟨.sref (u,s,t) (ver+1) 0 (l.length+1) z true,m.set (u,s,t) (.row (l.flatMap enc++enc x) (ver+1) false),λk=>?_,Or.inr ⟨s,t,ver+1,h1,by simp,by simp⟩,rfl,λj hj=>?_⟩
  .simp only[sApp,hg]
   rw[xhk ⟨trivial,trivial,by omega,hr⟩,xhl (by omega),xhl (by rw[hl,xip];omega),xie,xi5 (by omega)]
  .rw[Mem.get_set,xhl (by rintro rfl;exact hj h1)]
theorem Gq.frz(hz:∀x,(enc x).length=z)(hs:∀x,(enc x).all still1=true){u:Nat}{T:List Nat}{m:Mem}(h:Gq z enc u T m a l):∃a',Sl enc a' l/\Go.Ix.frz m.get deep a=some a':=by
 rcases h with ⟨rfl,rfl⟩|⟨s,t,ver,_,rfl,hg⟩
 .exact⟨nilS,Or.inl ⟨rfl,rfl⟩,rfl⟩
 .have hl:=x7j hz l
  refine⟨.slit (l.flatMap enc) l.length false,Sl.lit l false,?_⟩
  have:=xa2 (objs:=m.get) (id:=(u,s,t)) (cs:=l.flatMap enc) (ver:=ver) (off:=0) (n:=l.length) (z:=z) (k:=4) (f:=false) (x:=true) hg (by omega) (by
   rw[xie,xi5 (by omega)];exact x99 hs l)
  rw[xie,xi5 (by omega)]at this
  exact this
theorem Gq.len{u:Nat}{T:List Nat}{m:Mem}{t e:TypeId}(ht:Try.prog.underlying t=some (.slice e))(h:Gq z enc u T m a l):sLen Try.prog t a=some (I l.length):=by
 rcases h with ⟨rfl,rfl⟩|⟨s,t,ver,_,rfl,hg⟩
 .exact xb3 ht
 .rfl
end Go.Ix
