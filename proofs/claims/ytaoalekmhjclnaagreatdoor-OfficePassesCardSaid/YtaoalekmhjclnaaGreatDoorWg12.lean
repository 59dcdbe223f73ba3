import Derived.Test.YtaoalekmhjclnaaGreatDoorWg11
set_option linter.unusedSimpArgs false
set_option linter.unusedVariables false
namespace Go.Ix
open Go.Proofs
theorem x1bl(l:List Ps)(gap:Int){i k:Nat}(hi:i<=k):∀K,k<=K->at0 (x15n l gap K) i=at0 (x15n l gap k) i
 |0,h=>by
  have:k=0:=by omega
  subst this;rfl
 |K+1,h=>by
  rcases Nat.lt_or_eq_of_le h with h1|rfl
  .rw[show x15n l gap (K+1)=x15n l gap K++[x16x l gap (x15n l gap K) K]from rfl,x1gn (by rw[x172];omega)]
   exact x1bl l gap hi K (by omega)
  .rfl
theorem labs_0(l:List Ps)(gap:Int)(K:Nat):at0 (x15n l gap K) 0=0:=x1bl l gap (x1o4 0) K (x1pz _)
theorem x1gp{l:List Ps}{kl:List Lk}{gap sto:Int}(R:RPlan l kl gap sto){k K:Nat}(hK:K<=l.length)(hk:k<K):at0 (x15n l gap K) (k+1)=x16x l gap (x15n l gap K) k:=by
 have hkl:k<l.length:=by omega
 have ha:=x18t (gap:=gap) (fr:=l[k].fr) hkl (by have:=(R.at (x1od hkl)).2.2.2.2;have:=R.gap0;omega)
 rw[x1bl l gap (x1o4 (k+1)) K hk]
 have e:at0 (x15n l gap (k+1)) (k+1)=x16x l gap (x15n l gap k) k:=by
  rw[show x15n l gap (k+1)=x15n l gap k++[x16x l gap (x15n l gap k) k]from rfl]
  have:=x1go (l:=x15n l gap k) (x:=x16x l gap (x15n l gap k) k)
  rw[x172]at this
  exact this
 rw[e]
 unfold x16x
 rw[x16w hkl,x1bl l gap (x1o4 k) K (by omega),x1bl l gap ha K (by omega)]
theorem labs_low{l:List Ps}{kl:List Lk}{gap sto:Int}(R:RPlan l kl gap sto):∀(k:Nat),k<=l.length->x17a l gap (x15n l gap l.length) (at0 (x15n l gap l.length) k) k=false
 |0,_=>rfl
 |k+1,hk=>by
  rw[x1gp R (x1o4 _) hk]
  unfold x17a x16x
  simp only[x1ri,decide_eq_false_iff_not]
  split<;>constructor<;>omega
theorem labs_go{l:List Ps}{kl:List Lk}{gap sto:Int}(R:RPlan l kl gap sto):∀(suf:List Int) (k:Nat),(x15n l gap l.length).drop k=suf->lbGo l gap (x15n l gap l.length) k suf=(at0 (x15n l gap l.length) l.length,0)
 |[],k,hd=>by
  unfold lbGo
  rw[x172,labs_0,x1rc,Int.sub_zero]
 |e::r,k,hd=>by
  obtain⟨hk,he,hd1⟩:=x16s hd
  have hlen:=x172 l gap l.length
  have ea:at0 (x15n l gap l.length) k=e:=by rw[x17u hk,he]
  have hb:=x1ar R l.length (x1o4 _) k (by omega)
  have hl:=labs_low R k (by omega)
  have h40:=R.len
  rw[ea]at hb hl
  unfold lbGo
  have hw:wi e 0 1000000000=true:=by simp only[wi,x1o1,x1oy];omega
  rw[hw,hl]
  exact labs_go R r (k+1) hd1
theorem labs_fin{l:List Ps}{kl:List Lk}{gap sto:Int}(R:RPlan l kl gap sto):x17q l gap (x15n l gap l.length)=(at0 (x15n l gap l.length) l.length,0):=by
 unfold x17q
 rw[x1ow (x172 l gap l.length)]
 exact labs_go R _ 0 rfl
theorem x1e2{l:List Ps}{kl:List Lk}{gap sto:Int}(R:RPlan l kl gap sto):∀(n k:Nat),k<=n->k<=l.length->∃p:Option Int,(∀q,p=some q->0<=q/\q<k)/\∀r,ckM l gap none 0 ((x16y l gap (x15n l gap l.length) n k).reverse++r)=ckM l gap p (at0 (x15n l gap l.length) k) r
 |0,k,hk,_=>by
  have:k=0:=by omega
  subst this
  exact⟨none,λq h=>by simp at h,λr=>by rw[labs_0];rfl⟩
 |n+1,0,_,_=>⟨none,λq h=>by simp at h,λr=>by rw[labs_0];rfl⟩
 |n+1,k+1,hk,hl=>by
  have hkl:k<l.length:=by omega
  have hbk:x16y l gap (x15n l gap l.length) (n+1) (k+1)=if at0 (x15n l gap l.length) (k+1)=at0 (x15n l gap l.length) k then x16y l gap (x15n l gap l.length) n k else(k:Int)::x16y l gap (x15n l gap l.length) n (ahM gap (psAt l k).fr l):=rfl
  rw[hbk]
  by_cases hq:at0 (x15n l gap l.length) (k+1)=at0 (x15n l gap l.length) k
  .rw[x1nx hq,hq]
   obtain⟨p,h1,h2⟩:=x1e2 R n k (by omega) (by omega)
   exact⟨p,λq e=>by have:=h1 q e;omega,h2⟩
  .rw[x1ny hq,x16w hkl]
   have ha:=x18t (gap:=gap) (fr:=l[k].fr) hkl (by have:=(R.at (x1od hkl)).2.2.2.2;have:=R.gap0;omega)
   obtain⟨p,h1,h2⟩:=x1e2 R n (ahM gap l[k].fr l) (by omega) (by omega)
   refine⟨some (k:Int),λq e=>by cases e;omega,λr=>?_⟩
   rw[List.reverse_cons,x1r3,h2]
   have hstep:=x1gp R (x1o4 _) hkl
   unfold x16x at hstep
   rw[x16w hkl]at hstep
   have hv:at0 (x15n l gap l.length) (k+1)=at0 (x15n l gap l.length) (ahM gap l[k].fr l)+l[k].va:=by
    split at hstep
    .omega
    .exact absurd hstep hq
   show ckM l gap p _ ((k:Int)::r)=_
   conv=>lhs;unfold ckM
   have hw:wi (k:Int) 0 ((l.length:Int)-1)=true:=by simp only[wi,x1o1,x1oy];omega
   rw[hw,x16w hkl,hv]
   cases p with
   |none=>rfl
   |some q=>
    have:=h1 q rfl
    have c1:decide ((k:Int)<=q)=false:=x1pt (by omega)
    have c2:decide ((ahM gap l[k].fr l:Int)<=q)=false:=x1pt (by omega)
    simp only[c1,c2,x1pw,x17n]
theorem back_ok{l:List Ps}{kl:List Lk}{gap sto:Int}(R:RPlan l kl gap sto):ckM l gap none 0 (x16y l gap (x15n l gap l.length) l.length l.length).reverse=(at0 (x15n l gap l.length) l.length,0):=by
 obtain⟨p,h1,h2⟩:=x1e2 R l.length l.length (x1o4 _) (x1o4 _)
 have:=h2 []
 rw[x1q7]at this
 rw[this]
 rfl
theorem x1ci{l:List Ps}{gap:Int}{lab:List Int}:∀(n k:Nat),(x16y l gap lab n k).length<=n
 |0,_=>x1o4 _
 |n+1,0=>x1pz _
 |n+1,k+1=>by
  have hbk:x16y l gap lab (n+1) (k+1)=if at0 lab (k+1)=at0 lab k then x16y l gap lab n k else(k:Int)::x16y l gap lab n (ahM gap (psAt l k).fr l):=rfl
  rw[hbk]
  split
  .have:=x1ci (l:=l) (gap:=gap) (lab:=lab) n k;omega
  .have:=x1ci (l:=l) (gap:=gap) (lab:=lab) n (ahM gap (psAt l k).fr l)
   simp;omega
theorem w_Reverse(d:Nat){u:Nat}{m:Mem}{oa:AV}{s:List Int}(h:Gr 1 intE u 69 m oa s)(hs:s.length<=1000000) :
 ∃m',x15i (d+1) [] x27 [oa] m=some (.tup [],m')/\Gr 1 intE u 69 m' oa s.reverse/\∀j:Id,j.2.2≠69->m'.get j=m.get j:=by
 rw[xyg]
 unfold x9q
 rcases h with ⟨rfl,rfl⟩|⟨s0,ver,rfl,hg⟩
 .refine⟨⟨m.hp,m.next+1⟩,?_,.inl ⟨rfl,rfl⟩,λj _=>rfl⟩
  unfold x40
  have hl:sLen Tryz.prog x4 nilS=some (I 0):=x1bd x17v
  obtain⟨N',hN⟩:∃N',NN=N'+1:=⟨NN-1,by rw[x16v]⟩
  have hw:w64 ((0:Int)-1)=-1:=by rw[x15x (by omega) (by omega)];rfl
  simp only[hl,x19i,x162,hw]
  rw[hN]
  simp only[x15]
  unfold x3z
  have hlt:¬((0:Int) < -1):=by omega
  simp only[x171,hlt,x1oz,x17t,x162]
 .obtain⟨m',e1,e2,e3⟩:=l_rev (x15i d) [] m.next (id:=(u,s0,69)) (ver:=ver) (n:=s.length) (l:=s) rfl hs (s.length) 0 NN s ⟨m.hp,m.next+1⟩ 5 (by omega) (by rw[x16v];omega) (by omega) rfl (λt ht=>by simp) hg
  refine⟨m',?_,.inr ⟨s0,ver,by simp,e2⟩,λj hj=>?_⟩
  .unfold x40
   have hl:sLen Tryz.prog x4 (.sref (u,s0,69) ver 0 s.length 1 true)=some (I s.length):=rfl
   have hw:w64 ((s.length:Int)-1)=(s.length:Int)-1-(0:Nat):=by rw[x15x (by omega) (by omega)];simp
   simp only[hl,x19i,x162,hw]
   exact e1
  .rw[e3 j (by rintro rfl;exact hj rfl)];rfl
theorem GL.frzk{u t:Nat}{m:Mem}{a:AV}{l:List Int}(h:GL u t m a l)(k:Nat):∃a',Ints a' l/\Go.Ix.frz m.get (k+2) a=some a':=by
 rcases h with ⟨x,rfl,rfl⟩|⟨s,ver,rfl,hg⟩
 .exact⟨_,.inr ⟨true,rfl⟩,rfl⟩
 .exact Gr.frzk (t:=t) x16u x1dv (u:=u) (.inr ⟨s,ver,rfl,hg⟩)
def bestS(l:List Ps)(gap:Int):List Int:=(x16y l gap (x15n l gap l.length) l.length l.length).reverse
theorem x1ib(d:Nat){pa li:AV}{gap sto:Int}{l:List Ps}{kl:List Lk}(h:Sl Ps.c pa l)(h2:Sl Lk.c li kl)(hn:∀x∈l,x.nm.size<=1000)(R:RPlan l kl gap sto)(m:Mem) :
 ∃sa la,Ints sa (bestS l gap)/\Ints la (x15n l gap l.length)/\x15e (x15i (d+6)) xu [.agg [pa,li,I gap,I sto]] m=some (.tup [sa,la,I (at0 (x15n l gap l.length) l.length),I 0],m):=by
 have hl40:=R.len
 have key:RetF (λv=>∃sa la,v=.tup [sa,la,I (at0 (x15n l gap l.length) l.length),I 0]/\Ints sa (bestS l gap)/\Ints la (x15n l gap l.length)) (x15i (d+6) [] xu [.agg [pa,li,I gap,I sto]] mem0):=by
  rw[xjk]
  have hlit:∀{R:Type} (x:Int) (id:Id) (m:Mem) (q:AV->Mem->Option R),x15v x16k [(0,1,I x)] 1 1 id m q=q (.slit [I x] 1 true) m:=λx id m q=>by rw[x1bj];exact x1a7 rfl rfl rfl
  unfold x48 x3v
  simp only[mem0,x17f,x17l,x1oc,x1ox,h.one,h2.one,x17m,x1ou,x1oo,x16o,x19j,x1bi]
  simp[x1aq d (gap:=gap) (sto:=sto) h h2 hn,h.one,h2.one,R.ok,hlit]
  generalize hm1:Mem.set _ _ _=m1
  have hg6:m1.get (0,10,6)=some (.row [pa,li,I gap,I sto] 0 false):=by rw[<-hm1,Mem.get_set_same]
  have hg1:m1.get (0,0,1)=some (.row [pa,li,I gap,I sto] 0 false):=by rw[<-hm1,Mem.get_set_ne (by simp),Mem.get_new_ne (by simp),Mem.get_new_same]
  unfold xaf
  simp[hg1,h.len x16n]
  refine l_best (d+4) 0 h h2 R (i1:=(0,0,1)) (i6:=(0,10,6)) (by decide) (by decide) (λm fc la q1 q6 hla=>?_) l 0 NN m1 _ (.slit [I 0] 1 true) rfl (by rw[x16v];omega) (by omega) hg1 hg6 (.inl ⟨0,rfl,rfl⟩)
  unfold x7y xae
  simp[q1,h.len x16n]
  refine l_back (d+4) 0 h h2 R (x172 l gap l.length) (i6:=(0,10,6)) (by decide) (n0:=l.length) (λm fc oa hoa hla=>?_) l.length l.length NN [] m _ nilS (by omega) (by rw[x16v];omega) (by omega) (by simp;omega) rfl q6 hla Gr.nil
  obtain⟨m2,r1,r2,r3⟩:=w_Reverse (d+4) hoa (by have:=x1ci (l:=l) (gap:=gap) (lab:=x15n l gap l.length) l.length l.length;omega)
  have hla2:GL 0 46 m2 la (x15n l gap l.length):=hla.frame λs=>r3 _ (by simp)
  obtain⟨p,e1,e2⟩:=hla2.at (k:=l.length) (by rw[x172];omega)
  have e3:=hla2.len
  rw[x172]at e3
  have ew:w64 (((l.length+1:Nat):Int)-1)=(l.length:Int):=by rw[x15x (by omega) (by omega)];omega
  unfold x7x
  simp only[r1,e3,x162,x19i,ew,e1,e2]
  obtain⟨sa',f1,f2⟩:=Gr.frzk (k:=3) x16u x1dv r2
  obtain⟨la',f3,f4⟩:=hla2.frzk 3
  refine RetF.mk (a':=.tup [sa',la',I (at0 (x15n l gap l.length) l.length),I 0]) ?_ ⟨sa',la',rfl,f1,f3⟩
  show([oa,la,I (at0 (x15n l gap l.length) l.length),I 0].mapM (Go.Ix.frz m2.get 5)).map AV.tup=_
  have hi:∀z:Int,Go.Ix.frz m2.get 5 (I z)=some (I z):=λ_=>rfl
  simp only[x1p8,x1q6,f2,f4,hi]
  rfl
 obtain⟨v,⟨sa,la,rfl,h3,h4⟩,hc⟩:=callF (by simp[h.still1,h2.still1]) key m
 exact⟨sa,la,h3,h4,hc⟩
end Go.Ix
