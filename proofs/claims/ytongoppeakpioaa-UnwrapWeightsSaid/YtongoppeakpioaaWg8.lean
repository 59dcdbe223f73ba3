import Derived.Test.YtongoppeakpioaaWg3
import Derived.Test.YtongoppeakpioaaWg7
set_option linter.unusedSimpArgs false
set_option linter.unusedVariables false
namespace Go.Ix
open Go.Proofs
def Edge.same(a b:Edge):Bool:=decide (a.fr=b.fr)&&(decide (a.to=b.to)&&(decide (a.jump=b.jump)&&decide (a.wt=b.wt)))
def sideL(skip:Int->Bool)(step:Int):Nat->Int->List (Int×Int)
 |0,_=>[]
 |n+1,k=>bif skip k then sideL skip step n (k+1)else(k,k+step)::sideL skip step n (k+1)
def acrossS(c:Int)(k:Int):Bool:=decide (k % c=c-1)
def downS(r c:Int)(k:Int):Bool:=decide (k / c=r-1)
def sidesM(r c:Int):List (Int×Int):=sideL (acrossS c) 1 (r*c).toNat 0++sideL (downS r c) c (r*c).toNat 0
def rowL(step base:Int):Nat->Int->List (Int×Int)
 |0,_=>[]
 |n+1,k=>(base+k,base+k+step)::rowL step base n (k+1)
def x59(c step:Int)(w:Nat):Nat->Int->List (Int×Int)
 |0,_=>[]
 |n+1,q=>rowL step (q*c) w 0++x59 c step w n (q+1)
theorem x9t(skip:Int->Bool)(step:Int):∀(a b:Nat) (k:Int),sideL skip step (a+b) k=sideL skip step a k++sideL skip step b (k+a)
 |0,b,k=>by simp[sideL]
 |a+1,b,k=>by
  rw[show a+1+b=(a+b)+1 by omega]
  simp only[sideL]
  rw[x9t skip step a b (k+1),show k+1+(a:Int)=k+((a+1:Nat):Int) by omega]
  cases skip k<;>rfl
theorem x8x{q c k:Int}(h0:0<=k)(h1:k<c):(q*c+k) % c=k/\(q*c+k) / c=q:=by
 constructor
 .rw[Int.add_comm,Int.add_mul_emod_self_right,Int.emod_eq_of_lt h0 h1]
 .rw[Int.add_comm,Int.add_mul_ediv_right _ _ (by omega),Int.ediv_eq_zero_of_lt h0 h1];omega
theorem xe8{c:Int}(q:Int):∀(n:Nat) (k:Int),0<=k->k+n=c->0<n->sideL (acrossS c) 1 n (q*c+k)=rowL 1 (q*c) (n-1) k
 |0,k,_,_,h=>by omega
 |1,k,h0,h1,_=>by
  have h1':k=c-1:=by omega
  have:=(x8x (q:=q) h0 (show k<c by omega)).1
  have h2:acrossS c (q*c+k)=true:=xgw (by omega)
  simp[sideL,rowL,h2]
 |n+2,k,h0,h1,_=>by
  have:=(x8x (q:=q) h0 (show k<c by omega)).1
  have ih:=xe8 (c:=c) q (n+1) (k+1) (by omega) (by omega) (by omega)
  have hk:¬(k=c-1):=by omega
  rw[sideL]
  simp only[acrossS,this,hk,xho,cond_false]
  rw[show n+2-1=(n+1-1)+1 by omega,rowL,<-ih,Int.add_assoc]
theorem xbj{r c:Int}(q:Int):∀(n:Nat) (k:Int),0<=k->k+n=c->sideL (downS r c) c n (q*c+k)=if q=r-1 then[]else rowL c (q*c) n k
 |0,k,_,_=>by simp[sideL,rowL]
 |n+1,k,h0,h1=>by
  have:=(x8x (q:=q) h0 (show k<c by omega)).2
  have ih:=xbj (r:=r) (c:=c) q n (k+1) (by omega) (by omega)
  rw[sideL]
  simp only[downS,this]
  rw[<-Int.add_assoc]at ih
  by_cases h:q=r-1
  .rw[xgh h]at ih ⊢
   rw[xgw h,cond_true,<-ih]
  .rw[xgi h]at ih ⊢
   rw[xhv h,cond_false,rowL,<-ih]
theorem xbk{c:Int}(hc:1<=c):∀(n:Nat) (q:Int),sideL (acrossS c) 1 (n*c.toNat) (q*c)=x59 c 1 (c.toNat-1) n q
 |0,q=>by simp[sideL,x59]
 |n+1,q=>by
  have h:=xe8 (c:=c) q c.toNat 0 (by omega) (by omega) (by omega)
  rw[Int.add_zero]at h
  rw[xhl,xiq,x9t,h,x59,<-xbk hc n (q+1),xi8,xiz,show((c.toNat:Nat):Int)=c by omega]
theorem xe9{r c:Int}(hc:1<=c):∀(n:Nat) (q:Int),q+n=r->sideL (downS r c) c (n*c.toNat) (q*c)=x59 c c c.toNat (n-1) q
 |0,q,_=>by simp[sideL,x59]
 |1,q,h=>by
  have h:=xbj (r:=r) (c:=c) q c.toNat 0 (by omega) (by omega)
  rw[Int.add_zero,xgh (by omega)]at h
  simp[h,x59]
 |n+2,q,h=>by
  have h1:=xbj (r:=r) (c:=c) q c.toNat 0 (by omega) (by omega)
  rw[Int.add_zero,xgi (by omega)]at h1
  rw[xhl,xiq,x9t,h1,show n+2-1=(n+1-1)+1 by omega,x59,<-xe9 (r:=r) hc (n+1) (q+1) (by omega),xi8,xiz,show((c.toNat:Nat):Int)=c by omega]
theorem xfv{r c:Int}(hr:1<=r)(hc:1<=c):sidesM r c=x59 c 1 (c.toNat-1) r.toNat 0++x59 c c c.toNat (r.toNat-1) 0:=by
 have h:(r*c).toNat=r.toNat*c.toNat:=Int.toNat_mul (by omega) (by omega)
 have h1:=xbk hc r.toNat 0
 have h2:=xe9 (r:=r) hc r.toNat 0 (by omega)
 rw[Int.zero_mul]at h1 h2
 unfold sidesM
 rw[h,h1,h2]
theorem xea(step base:Int):∀(n:Nat) (k:Int),(rowL step base n k).length=n
 |0,_=>rfl
 |n+1,k=>by simp[rowL,xea step base n]
theorem x9u(c step:Int)(w:Nat):∀(n:Nat) (q:Int),(x59 c step w n q).length=n*w
 |0,_=>by simp[x59]
 |n+1,q=>by simp[x59,xea,x9u c step w n,xhl,xiq]
theorem x9v{skip:Int->Bool}{step:Int}:∀{n:Nat} {k:Int} {x:Int×Int},x∈sideL skip step n k->k<=x.1/\x.1<k+n/\x.2=x.1+step/\skip x.1=false
 |0,k,x,h=>by simp[sideL]at h
 |n+1,k,x,h=>by
  simp only[sideL]at h
  cases hs:skip k
  .rw[hs]at h
   rcases xh0.mp h with rfl|h
   .exact⟨by omega,by simp only;omega,rfl,hs⟩
   .obtain⟨a,b,c,d⟩:=x9v h;exact⟨by omega,by omega,c,d⟩
  .rw[hs]at h
   obtain⟨a,b,c,d⟩:=x9v h;exact⟨by omega,by omega,c,d⟩
theorem sides_in{r c:Int}(hr:1<=r)(hc:1<=c){x:Int×Int}(h:x∈sidesM r c):0<=x.1/\x.1<r*c/\0<=x.2/\x.2<r*c/\x.1≠x.2:=by
 have h0:0<=r*c:=xjl (by omega) (by omega)
 rcases xiv.mp h with h|h
 .obtain⟨h1,h2,h3,h4⟩:=x9v h
  have h4:¬(x.1 % c=c-1):=of_decide_eq_false h4
  refine⟨h1,by omega,by omega,?_,by omega⟩
  by_cases e:x.1+1=r*c
  .exfalso
   apply h4
   have:x.1=(r-1)*c+(c-1):=by rw[Int.sub_mul];omega
   rw[this]
   exact(x8x (by omega) (by omega)).1
  .omega
 .obtain⟨h1,h2,h3,h4⟩:=x9v h
  have h4:¬(x.1 / c=r-1):=of_decide_eq_false h4
  refine⟨h1,by omega,by omega,?_,by omega⟩
  have h5:x.1 / c<r:=Int.ediv_lt_of_lt_mul (by omega) (by omega)
  have h6:x.1 / c+1<=r-1:=by omega
  have h7:=Int.emod_add_mul_ediv x.1 c
  have h8:=Int.emod_lt_of_pos x.1 (show 0<c by omega)
  have h9:c*(x.1 / c+1)<=c*(r-1):=Int.mul_le_mul_of_nonneg_left h6 (by omega)
  rw[Int.mul_add,Int.mul_sub]at h9
  rw[Int.mul_comm c r]at h9
  omega
theorem xeb{r c:Int}(hr:1<=r)(hc:1<=c):((sidesM r c).length:Int)=r*(c-1)+(r-1)*c:=by
 rw[xfv hr hc,xhu,x9u,x9u,Int.natCast_add,Int.natCast_mul,Int.natCast_mul,show((r.toNat:Nat):Int)=r by omega,show((c.toNat-1:Nat):Int)=c-1 by omega,show((r.toNat-1:Nat):Int)=r-1 by omega,show((c.toNat:Nat):Int)=c by omega]
theorem z_2int:xt=[I 0,I 0]:=by kernel_rfl
theorem x9w(x y:Int):sIdx Try.prog x1t (.agg [I x,I y]) (I 0)=some (I x)/\sIdx Try.prog x1t (.agg [I x,I y]) (I 1)=some (I y):=⟨by kernel_rfl,by kernel_rfl⟩
theorem live_0{objs:Id->Option Ob}{id:Id}(h:id.2.2=0):live objs id=true:=by unfold live;rw[h];rfl
theorem inv_yld{call:x3p}{id:Id}{h:List AV->Mem->Option Mem}{hs:FHs}{mode:Nat}{l:List AV}{m:Mem}(hid:id.2.2=0):x6b call ((id,h)::hs) mode (.yld id) l m=(h l m).map λm'=>(B true,m'):=by
 simp[x6b,x7d,live_0 hid]
theorem xbl(x y:Int):x5f xt [(0,1,I x),(1,1,I y)]=some (.agg [I x,I y]):=by
 simp[x5f,x69,z_2int]
theorem l_sides0(call:x3p)(id:Id)(hid:id.2.2=0)(h:List AV->Mem->Option Mem)(hs:FHs)(u:Nat){r c:Int}(hc:1<=c)(hc2:c<=64)(hrc:r*c<=4096)(full:List (Int×Int))(Inv:Nat->Mem->Prop)(hf:full.length<=10000)(hstep:∀k p m,full[k]?=some p->Inv k m->∃m',h [I k,.agg [I p.1,I p.2]] m=some m'/\Inv (k+1) m')(rec0:AV->AV->AV->AV->AV->AV->Mem->Nat->Option (AV×Mem))(t9:AV) :
 ∀(n:Nat) (k:Int) (i j:Nat) (tail:List (Int×Int)) (m:Mem) (fc:Nat),0<=k->k+n=r*c->n<j->Inv i m->full.drop i=sideL (acrossS c) 1 n k++tail ->
 ∃m' fc',x9 call ((id,h)::hs) u rec0 j (.yld id) (.plit [I c]) (.plit [I r]) (I i) (I 0) (I 1) t9 (I 0) (I (r*c)) (I k) m fc=rec0 (.yld id) (.plit [I c]) (.plit [I r]) (I ((i+(sideL (acrossS c) 1 n k).length:Nat):Int)) t9 (I 1) m' fc'/\Inv (i+(sideL (acrossS c) 1 n k).length) m':=by
 intro n
 induction n with
 |zero=>
  intro k i j tail m fc h0 hk hj hI hd
  obtain⟨j,rfl⟩:∃i,j=i+1:=⟨j-1,by omega⟩
  refine⟨m,fc+1+2,?_,by simpa[sideL]using hI⟩
  simp only[x9]
  unfold xx
  simp(disch:=omega) [show ¬(k<r*c) by omega,x1q,sideL]
 |succ n ih=>
  intro k i j tail m fc h0 hk hj hI hd
  obtain⟨j,rfl⟩:∃i,j=i+1:=⟨j-1,by omega⟩
  simp only[x9]
  unfold xx x1r
  have hr1:k.tmod c=k % c:=Int.tmod_eq_emod_of_nonneg h0
  have hlt:k<r*c:=by omega
  cases hs':acrossS c k
  .have hne:¬(k % c=c-1):=of_decide_eq_false hs'
   have hL:sideL (acrossS c) 1 (n+1) k=(k,k+1)::sideL (acrossS c) 1 n (k+1):=by rw[sideL,hs'];rfl
   rw[hL]at hd ⊢
   obtain⟨hi,hie,hd⟩:=x8s hd
   obtain⟨m',h1,h2⟩:=hstep i (k,k+1) m (by rw[xgz hi,hie]) hI
   obtain⟨m2,fc2,h3,h4⟩:=ih (k+1) (i+1) j tail m' (fc+39) (by omega) (by omega) (by omega) h2 hd
   refine⟨m2,fc2,?_,by rw[xh3,show i+((sideL (acrossS c) 1 n (k+1)).length+1)=i+1+(sideL (acrossS c) 1 n (k+1)).length by omega];exact h4⟩
   rw[xh3,show i+((sideL (acrossS c) 1 n (k+1)).length+1)=i+1+(sideL (acrossS c) 1 n (k+1)).length by omega,<-h3]
   simp(disch:=omega) [hlt,sRem_I,hr1,hne,xbl,inv_yld hid,h1,xm]
  .have hne:k % c=c-1:=xi1 hs'
   have hL:sideL (acrossS c) 1 (n+1) k=sideL (acrossS c) 1 n (k+1):=by rw[sideL,hs'];rfl
   rw[hL]at hd ⊢
   obtain⟨m2,fc2,h3,h4⟩:=ih (k+1) i j tail m (fc+27) (by omega) (by omega) (by omega) hI hd
   refine⟨m2,fc2,?_,h4⟩
   rw[<-h3]
   simp(disch:=omega) [hlt,sRem_I,hr1,hne,xm]
theorem l_sides1(call:x3p)(id:Id)(hid:id.2.2=0)(h:List AV->Mem->Option Mem)(hs:FHs)(u:Nat){r c:Int}(hc:1<=c)(hc2:c<=64)(hr2:-100<=r/\r<=64)(hrc:r*c<=4096)(full:List (Int×Int))(Inv:Nat->Mem->Prop)(hf:full.length<=10000)(hstep:∀k p m,full[k]?=some p->Inv k m->∃m',h [I k,.agg [I p.1,I p.2]] m=some m'/\Inv (k+1) m')(rec0:AV->AV->AV->AV->AV->AV->Mem->Nat->Option (AV×Mem))(t9:AV) :
 ∀(n:Nat) (k:Int) (i j:Nat) (tail:List (Int×Int)) (m:Mem) (fc:Nat),0<=k->k+n=r*c->n<j->Inv i m->full.drop i=sideL (downS r c) c n k++tail ->
 ∃m' fc',x9 call ((id,h)::hs) u rec0 j (.yld id) (.plit [I c]) (.plit [I r]) (I i) (I 1) (I c) t9 (I 1) (I (r*c)) (I k) m fc=rec0 (.yld id) (.plit [I c]) (.plit [I r]) (I ((i+(sideL (downS r c) c n k).length:Nat):Int)) t9 (I 2) m' fc'/\Inv (i+(sideL (downS r c) c n k).length) m':=by
 intro n
 induction n with
 |zero=>
  intro k i j tail m fc h0 hk hj hI hd
  obtain⟨j,rfl⟩:∃i,j=i+1:=⟨j-1,by omega⟩
  refine⟨m,fc+1+2,?_,by simpa[sideL]using hI⟩
  simp only[x9]
  unfold xx
  simp(disch:=omega) [show ¬(k<r*c) by omega,x1q,sideL]
 |succ n ih=>
  intro k i j tail m fc h0 hk hj hI hd
  obtain⟨j,rfl⟩:∃i,j=i+1:=⟨j-1,by omega⟩
  simp only[x9]
  unfold xx x1r
  have hr1:k.tdiv c=k / c:=Int.tdiv_eq_ediv_of_nonneg h0
  have hlt:k<r*c:=by omega
  have q0:0<=k / c:=Int.ediv_nonneg h0 (by omega)
  have q1:k / c<=k:=Int.ediv_le_self _ h0
  cases hs':downS r c k
  .have hne:¬(k / c=r-1):=of_decide_eq_false hs'
   have hL:sideL (downS r c) c (n+1) k=(k,k+c)::sideL (downS r c) c n (k+1):=by rw[sideL,hs'];rfl
   rw[hL]at hd ⊢
   obtain⟨hi,hie,hd⟩:=x8s hd
   obtain⟨m',h1,h2⟩:=hstep i (k,k+c) m (by rw[xgz hi,hie]) hI
   obtain⟨m2,fc2,h3,h4⟩:=ih (k+1) (i+1) j tail m' (fc+39) (by omega) (by omega) (by omega) h2 hd
   refine⟨m2,fc2,?_,by rw[xh3,show i+((sideL (downS r c) c n (k+1)).length+1)=i+1+(sideL (downS r c) c n (k+1)).length by omega];exact h4⟩
   rw[xh3,show i+((sideL (downS r c) c n (k+1)).length+1)=i+1+(sideL (downS r c) c n (k+1)).length by omega,<-h3]
   simp(disch:=omega) [hlt,sQuo_I,hr1,hne,xbl,inv_yld hid,h1,xm]
  .have hne:k / c=r-1:=xi1 hs'
   have hL:sideL (downS r c) c (n+1) k=sideL (downS r c) c n (k+1):=by rw[sideL,hs'];rfl
   rw[hL]at hd ⊢
   obtain⟨m2,fc2,h3,h4⟩:=ih (k+1) i j tail m (fc+27) (by omega) (by omega) (by omega) hI hd
   refine⟨m2,fc2,?_,h4⟩
   rw[<-h3]
   simp(disch:=omega) [hlt,sQuo_I,hr1,hne,xm]
theorem w_sides1(d:Nat)(id:Id)(hid:id.2.2=0)(h:List AV->Mem->Option Mem)(hs:FHs){r c:Int}(hr:1<=r)(hr2:r<=64)(hc:1<=c)(hc2:c<=64)(Inv:Nat->Mem->Prop)(m:Mem)(h0:Inv 0 ⟨m.hp,m.next+1⟩)(hstep:∀k p m,(sidesM r c)[k]?=some p->Inv k m->∃m',h [I k,.agg [I p.1,I p.2]] m=some m'/\Inv (k+1) m') :
 ∃m',x3q (d+1) ((id,h)::hs) xb [.yld id,.plit [I c],.plit [I r]] m=some (.tup [],m')/\Inv (sidesM r c).length m':=by
 have hrc:=x83 (wi_iff.mpr ⟨hr,hr2⟩) (wi_iff.mpr ⟨hc,hc2⟩)
 have hlen:(sidesM r c).length<=10000:=by
  have:=xeb hr hc
  have e1:r*(c-1)=r*c-r:=by rw[Int.mul_sub];omega
  have e2:(r-1)*c=r*c-c:=by rw[Int.sub_mul];omega
  omega
 rw[x35]
 unfold x28 x1u
 obtain⟨j,hj⟩:=NN_3
 have hn:(0:Int)+((r*c).toNat:Int)=r*c:=by omega
 obtain⟨m1,f1,e1,i1⟩:=l_sides0 (x3q d) id hid h hs m.next hc hc2 hrc.2 (sidesM r c) Inv hlen hstep (xa (x3q d) ((id,h)::hs) m.next (j+2)) (.agg [I 1,I c]) (r*c).toNat 0 0 NN (sideL (downS r c) c (r*c).toNat 0) ⟨m.hp,m.next+1⟩ 13 (by omega) hn (by rw[x7k];omega) h0 rfl
 rw[xgr]at e1 i1
 obtain⟨m2,f2,e2,i2⟩:=l_sides1 (x3q d) id hid h hs m.next hc hc2 ⟨by omega,hr2⟩ hrc.2 (sidesM r c) Inv hlen hstep (xa (x3q d) ((id,h)::hs) m.next (j+1)) (.agg [I 1,I c]) (r*c).toNat 0 (sideL (acrossS c) 1 (r*c).toNat 0).length NN [] m1 (f1+9) (by omega) hn (by rw[x7k];omega) i1 (by
  unfold sidesM
  rw[List.drop_left,xiy])
 refine⟨m2,?_,?_⟩
 rotate_left
 .unfold sidesM;rw[xhu];exact i2
 .have hL:∀(n:Nat) (t0 t1 t2 t4 t9 t10:AV) (M:Mem) (fc:Nat),xa (x3q d) ((id,h)::hs) m.next (n+1) t0 t1 t2 t4 t9 t10 M fc=xy (x3q d) ((id,h)::hs) m.next (xa (x3q d) ((id,h)::hs) m.next n) t0 t1 t2 t4 t9 t10 M fc:=λ_ _ _ _ _ _ _ _ _=>rfl
  have h3:xa (x3q d) ((id,h)::hs) m.next NN=xa (x3q d) ((id,h)::hs) m.next (j+3):=by rw[hj]
  simp only[xba,rd_f,x3y,xbl,h3,hL]
  unfold xy x1s
  simp(disch:=omega)only[x5n,x3y,x4f,x4k,xhm,(x9w 1 c).1,(x9w 1 c).2,xba,rd_f,x8r,x53,show((0:Int)<2)from by omega]
  refine Eq.trans e1 ?_
  rw[hL]
  unfold xy x1s
  simp(disch:=omega)only[x5n,x3y,x4f,x4k,xhm,(x9w 1 c).1,(x9w 1 c).2,xba,rd_f,x8r,x53,show((1:Int)<2)from by omega]
  refine Eq.trans e2 ?_
  rw[hL]
  unfold xy
  simp
end Go.Ix
