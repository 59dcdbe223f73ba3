import Derived.Test.YthfjdkhccimggaaGreatDoorWg2
import Derived.Test.YthfjdkhccimggaaGreatDoorW10Lab
set_option linter.unusedSimpArgs false
namespace Go.Ix
open Go.Proofs
theorem Edge.still(e:Edge):e.c.all still1=true:=rfl
theorem x1f0(d:Nat){a:AV}{l:List Int}(h:Ints a l)(hl:l.length<=1000000)(m:Mem):∃a',Ints a' l/\x14e (x14k (d+1)) x15 [a] m=some (a',m):=by
 have hr:x14z l.length 8:=by unfold x14z;omega
 have he:=h.elems x16f
 by_cases h0:l=[]
 .subst h0
  refine⟨.slit [] 0 true,Sl.lit [] true,call0 (m':=⟨[],1⟩) (by simp[h.still]) ?_ rfl⟩
  rw[xir]
  unfold x3w x3l
  have hr0:x14z 0 8:=by unfold x14z;omega
  simp[mem0,he,x1at hr0]
 .have hq:l.length≠0:=by simpa using h0
  have hlen:=x18v x16f l
  refine⟨.slit (l.flatMap intE) l.length false,Sl.lit l false,x1ep (m':=(⟨[],1⟩:Mem).new (0,3,5) (.row (l.flatMap intE) 0 false)) (r:=.sref (0,3,5) 0 0 l.length 1 true) (by simp[h.still]) ?_ ?_⟩
  .rw[xir]
   unfold x3w x3l
   simp[mem0,he,x1at hr,hq,h0]
  .have:=x1cb (objs:=((⟨[],1⟩:Mem).new (0,3,5) (.row (l.flatMap intE) 0 false)).get) (id:=(0,3,5)) (cs:=l.flatMap intE) (ver:=0) (off:=0) (n:=l.length) (z:=1) (k:=4) (f:=false) (x:=true) (by simp) (by omega) (by
    rw[x1n8,x1ng (by omega)];exact x1au x1ga l)
   rw[x1n8,x1ng (by omega)]at this
   exact this
def RetF(T:AV->Prop)(r:O2):Prop:=∃a m' a',r=some (a,m')/\frz m'.get deep a=some a'/\T a'
theorem RetF.st{T:AV->Prop}{a:AV}{m:Mem}(h:still a=true)(ht:T a):RetF T (some (a,m)):=⟨a,m,a,rfl,x17g _ 4 h,ht⟩
theorem RetF.tup{T:AV->Prop}{l:List AV}{m:Mem}(h:l.all still=true)(ht:T (.tup l)):RetF T (some (.tup l,m)):=⟨_,m,_,rfl,frz_tup h,ht⟩
theorem RetF.mk{T:AV->Prop}{a a':AV}{m:Mem}(h:frz m.get deep a=some a')(ht:T a'):RetF T (some (a,m)):=⟨a,m,a',rfl,h,ht⟩
theorem callF{T:AV->Prop}{call:x14d}{f:FuncId}{l:List AV}(hl:l.all still=true)(h:RetF T (call [] f l mem0))(m:Mem):∃a,T a/\x14e call f l m=some (a,m):=by
 obtain⟨a,m',a',h1,h2,h3⟩:=h
 exact⟨a',h3,x1ep hl h1 h2⟩
theorem Gr.len{α:Type}{z:Nat}{enc:α->List AV}{l:List α}{a:AV}{u t:Nat}{m:Mem}{y e:TypeId}(ht:Tryz.prog.underlying y=some (.slice e))(h:Gr z enc u t m a l):sLen Tryz.prog y a=some (I l.length):=by
 rcases h with ⟨rfl,rfl⟩|⟨s,ver,rfl,hg⟩
 .exact len_nil ht
 .rfl
end Go.Ix
set_option linter.unusedVariables false
namespace Go.Ix
open Go.Proofs
theorem x1f1{α:Type}{enc:α->List AV}{z bytes:Nat}(hz:∀x,(enc x).length=z){a:AV}{l:List α}(h:Sl enc a l)(hr:x14z l.length bytes)(id:Id)(m:Mem) :
 (l=[]/\∀{R:Type} (k:AV->Mem->Option R),sApp z bytes id (elems m.get z a) (.slit [] 0 true) m k=k (.slit [] 0 true) m) \/
 (l≠[]/\∀{R:Type} (k:AV->Mem->Option R),sApp z bytes id (elems m.get z a) (.slit [] 0 true) m k=k (.sref id 0 0 l.length z true) (m.new id (.row (l.flatMap enc) 0 false))):=by
 have he:=h.elems hz m.get
 by_cases hq:l.length=0
 .refine .inl ⟨List.length_eq_zero_iff.mp hq,λk=>?_⟩
  rw[he,x1at hr,x1n9 hq]
  rfl
 .refine .inr ⟨λe=>hq (by rw[e];rfl),λk=>?_⟩
  rw[he,x1at hr,x1oj hq]
  rfl
theorem x1ay{α:Type}{enc:α->List AV}{z k:Nat}(hz:∀x,(enc x).length=z)(hs:∀x,(enc x).all still1=true){objs:Id->Option Ob}{id:Id}{l:List α}{x:Bool}(hg:objs id=some (.row (l.flatMap enc) 0 false)) :
 frz objs (k+2) (.sref id 0 0 l.length z x)=some (.slit (l.flatMap enc) l.length false):=by
 have hl:=x18v hz l
 have:=x1cb (objs:=objs) (id:=id) (cs:=l.flatMap enc) (ver:=0) (off:=0) (n:=l.length) (z:=z) (k:=k) (f:=false) (x:=x) hg (by omega) (by
  rw[x1n8,x1ng (by omega)];exact x1au hs l)
 rw[x1n8,x1ng (by omega)]at this
 exact this
theorem x1cf{objs:Id->Option Ob}{a b a' b':AV}{x y:Int}{k:Nat}(ha:frz objs (k+1) a=some a')(hb:frz objs (k+1) b=some b'):frz objs (k+2) (.agg [a,b,I x,I y])=some (.agg [a',b',I x,I y]):=by
 show([a,b,I x,I y].mapM (frz objs (k+1))).map AV.agg=_
 have hi:∀z:Int,frz objs (k+1) (I z)=some (I z):=λ_=>rfl
 simp only[x1ne,x1ok,ha,hb,hi]
 rfl
theorem Ps.stillA(x:Ps):x.c.all still1=true:=rfl
theorem Lk.stillA(x:Lk):x.c.all still1=true:=rfl
theorem z_oplan:x7a=[nilS,nilS,I 0,I 0]:=by kernel_rfl
theorem x1gi(d:Nat){s p:AV}{gap sto:Int}{l:List Ps}{P:List Lk}(hs:Sl Ps.c s l)(hp:Sl Lk.c p P)(hl:l.length<=1000000)(hP:P.length<=1000000)(m:Mem) :
 ∃s' p',Sl Ps.c s' l/\Sl Lk.c p' P/\x14e (x14k (d+1)) xv [.agg [s,p,I gap,I sto]] m=some (.agg [s',p',I gap,I sto],m):=by
 have hr:x14z l.length 48:=by unfold x14z;omega
 have hr2:x14z P.length 16:=by unfold x14z;omega
 have key:RetF (λv=>∃s' p',v=.agg [s',p',I gap,I sto]/\Sl Ps.c s' l/\Sl Lk.c p' P) (x14k (d+1) [] xv [.agg [s,p,I gap,I sto]] mem0):=by
  rw[xx4]
  unfold x8p x79
  have a1:=λm=>x1f1 Ps.len hs hr (0,5,6) m
  have a2:=λm=>x1f1 Lk.len hp hr2 (0,9,10) m
  have hx:=hs.tX
  have hx2:=hp.tX
  simp[mem0,hs.one,hp.one,z_oplan]
  generalize hm1:Mem.new _ _ _=m1
  rcases a1 m1 with ⟨rfl,h1⟩|⟨h0,h1⟩
  .simp only[h1]
   simp[<-hm1]
   rcases a2 m1 with ⟨rfl,h2⟩|⟨h02,h2⟩<;>rw[<-hm1]at h2
   .simp[h2,x14n,x16r,sLdP,tR,tA,hx,hx2,x14q,disj,<-hm1]
    exact RetF.st rfl ⟨_,_,rfl,Sl.lit [] true,Sl.lit [] true⟩
   .simp[h2,x14n,x16r,sLdP,tR,tA,hx,hx2,x14q,disj,<-hm1]
    refine RetF.mk (x1cf rfl (x1ay (k:=3) Lk.len Lk.stillA (x:=true) (l:=P) ?_)) ⟨_,_,rfl,Sl.lit [] true,Sl.lit P false⟩
    simp
  .simp only[h1]
   simp[<-hm1]
   generalize hm2:Mem.new (Mem.new _ _ _) (0,5,6) _=m2
   rcases a2 m2 with ⟨rfl,h2⟩|⟨h02,h2⟩
   .simp only[h2]
    simp[x14n,x16r,sLdP,tR,tA,hx,hx2,x14q,disj,<-hm2]
    refine RetF.mk (x1cf (x1ay (k:=3) Ps.len Ps.stillA (x:=true) (l:=l) ?_) rfl) ⟨_,_,rfl,Sl.lit l false,Sl.lit [] true⟩
    simp
   .simp only[h2]
    simp[x14n,x16r,sLdP,tR,tA,hx,hx2,x14q,disj,<-hm2]
    refine RetF.mk (x1cf (x1ay (k:=3) Ps.len Ps.stillA (x:=true) (l:=l) ?_) (x1ay (k:=3) Lk.len Lk.stillA (x:=true) (l:=P) ?_)) ⟨_,_,rfl,Sl.lit l false,Sl.lit P false⟩<;>simp
 obtain⟨v,⟨s',p',rfl,h1,h2⟩,hc⟩:=callF (by simp[hs.still1,hp.still1]) key m
 exact⟨s',p',h1,h2,hc⟩
end Go.Ix
