import Derived.Test.YtjdlceelbnaneaaWg3
import Derived.Test.YtjdlceelbnaneaaW3FitR
import Derived.Test.YtjdlceelbnaneaaWg2
import Derived.Test.YtjdlceelbnaneaaWg4
set_option linter.unusedSimpArgs false
set_option linter.unusedVariables false
namespace Go.Ix
open Go.Proofs
attribute [local simp high] rd_5
variable{a:AV}{l:List Mp}
theorem part3(w0 w1 w2:Int):∀o∈[0,1,2],x5b Try.prog (part x7v #[.int .i64 w0,.int .i64 w1,.int .i64 w2] o)=some (.int .i64 ([w0,w1,w2].getD o 0)):=by
 intro o ho
 simp only[xhu,List.not_mem_nil,or_false]at ho
 rcases ho with rfl|rfl|rfl<;>kernel_rfl
theorem eqArr3{t:TypeId}(hu:Try.prog.underlying t=some (.array 3 x7v))(k:Nat)(x0 x1 x2 y0 y1 y2:Int) :
 x5b Try.prog (Op.equalIn (k+1+1) t (.agg #[.int .i64 x0,.int .i64 x1,.int .i64 x2]) (.agg #[.int .i64 y0,.int .i64 y1,.int .i64 y2]))=some (decide (x0=y0/\x1=y1/\x2=y2)):=by
 have hz:x5b Try.prog (sizeOf x7v)=some 1:=by kernel_rfl
 have pa:=part3 x0 x1 x2
 have pb:=part3 y0 y1 y2
 have pa0:=pa 0 (by simp)
 have pa1:=pa 1 (by simp)
 have pa2:=pa 2 (by simp)
 have pb0:=pb 0 (by simp)
 have pb1:=pb 1 (by simp)
 have pb2:=pb 2 (by simp)
 simp only[List.getD_cons_zero,List.getD_cons_succ]at pa0 pa1 pa2 pb0 pb1 pb2
 rw[Op.equalIn]
 simp only[x67,xcr hu,x5t,hz]
 simp only[Std.Legacy.Range.forIn_eq_forIn_range',Std.Legacy.Range.size,Nat.sub_zero,Nat.add_sub_cancel,Nat.div_one,List.range'_succ,List.range'_zero,List.forIn_cons,List.forIn_nil,x67,xja,xiv,Nat.one_mul,Nat.mul_one]
 simp only[Nat.reduceAdd,pa0,pa1,pa2,pb0,pb1,pb2,x5t,xcs _ _ _ _ _ _ xct]
 have ie:∀x y:Int,x5b Try.prog (Op.equalIn (k+1) x7v (.int .i64 x) (.int .i64 y))=some (x == y):=λx y=>xcs _ _ _ _ _ _ xct
 by_cases h0:x0=y0
 .subst h0
  by_cases h1:x1=y1
  .subst h1
   by_cases h2:x2=y2
   .subst h2
    simp[x7l,x67,pa1,pa2,ie]
   .simp[h2,x7l,x67,pa1,pa2,pb1,pb2,ie]
  .simp[h1,x7l,x67,pa1,pb1,ie]
 .simp[h0,x7l,x67]
theorem ne_row3(X Y:Operand)(x y z w:Int):sBin Try.prog .neq x1l X Y (.agg [I 1,I x,I y]) (.agg [I 1,I z,I w])=some (B (!decide (x=z/\y=w))):=by
 have h:=eqArr3 (t:=x1l) (by kernel_rfl) 9998 1 x y 1 z w
 have h2:=xgm (x:=X) (y:=Y) (xs:=[.int .i64 1,.int .i64 x,.int .i64 y]) (ys:=[.int .i64 1,.int .i64 z,.int .i64 w]) (t:=x1l) (by kernel_rfl) h ⟨[I 1,I x,I y],rfl⟩ [I 1,I x,I y] [I 1,I z,I w] rfl rfl
 simpa using h2
theorem w_cross3(k:Nat){fl fs pl ps:Int}(h1:bd fl 63)(h2:bd fs 63)(h3:bd pl 63)(h4:bd ps 63)(m:Mem):x5c (x59 (k+1)) x3q [.agg [I 1,I fl,I fs],.agg [I 1,I pl,I ps]] m=some (.agg [I (fl*ps-fs*pl),I (fs-ps),I (pl-fl)],m):=by
 have h:=e_cross3 k 1 fl fs 1 pl ps
 have c1:co2 fl ps fs pl=fl*ps-fs*pl:=by
  have b:=(h1.mul h4).sub (h2.mul h3)
  exact xbc (cg_s (cg_m (.refl fl) (.refl ps)) (cg_m (.refl fs) (.refl pl))) (b.mono (by omega)) |> λe=>by
   unfold co2 sW2 at *
   have:=(xbf fl ps fs pl)
   exact xbc ((cg_m (.refl fl) (.refl ps)).sub (cg_m (.refl fs) (.refl pl))) (b.mono (by omega))
 have c2:co2 fs 1 1 ps=fs-ps:=by
  unfold co2 sW2
  exact xbc (((cg_m (.refl fs) (.refl 1)).sub (cg_m (.refl 1) (.refl ps))).trans (by omega)) (by unfold bd at *;omega)
 have c3:co2 1 pl fl 1=pl-fl:=by
  unfold co2 sW2
  exact xbc (((cg_m (.refl 1) (.refl pl)).sub (cg_m (.refl fl) (.refl 1))).trans (by omega)) (by unfold bd at *;omega)
 rw[c1,c2,c3]at h
 exact x5x rfl (x7x h) m
theorem w_dot3(k:Nat){x y z pl ps:Int}(h1:bd x 7938)(h2:bd y 63)(h3:bd z 63)(h4:bd pl 63)(h5:bd ps 63)(m:Mem):x5c (x59 (k+1)) x3r [.agg [I x,I y,I z],.agg [I 1,I pl,I ps]] m=some (I (x+y*pl+z*ps),m):=by
 have h:=e_dot3 k x y z 1 pl ps
 have e:dotW x y z 1 pl ps=x+y*pl+z*ps:=by
  refine aW_of ((cg_a (cg_a (cg_m (.refl x) (.refl 1)) (cg_m (.refl y) (.refl pl))) (cg_m (.refl z) (.refl ps))).trans (by omega)) ?_
  exact((h1.add (h2.mul h4)).add (h3.mul h5)).mono (by omega)
 rw[e]at h
 exact x5x rfl (x7x h) m
theorem l_rk2(d:Nat)(hs:FHs)(ha:Pts a l)(hl:l.length<=1000)(hin:x5s l){x y z:Int}(hx:bd x 7938)(hy:bd y 63)(hz:bd z 63){f:List AV}:∀(suf:List Mp) (k j:Nat) (m:Mem) (fc:Nat),l.drop k=suf->suf.length<j->m.get (0,15,4)=some (.row [I x,I y,I z] 0 false) ->
 ∃m',xf (x59 (d+1)) hs 0 j (.ptr (0,13,3) 0 0) (.ptr (0,15,4) 0 0) (I 2) a (I l.length) (I k) m fc=some (I (rk2 x y z suf),m'):=by
 intro suf
 induction suf with
 |nil=>
  intro k j m fc hd hj h4
  obtain⟨j,rfl⟩:∃i,j=i+1:=⟨j-1,by simp at hj;omega⟩
  have hk:¬((k:Int)<(l.length:Int)):=by have:=xjo.mp hd;omega
  simp only[xf]
  unfold x18 x2f
  simp[hk,rk2]
 |cons e r ih=>
  intro k j m fc hd hj h4
  obtain⟨j,rfl⟩:∃i,j=i+1:=⟨j-1,by simp at hj;omega⟩
  obtain⟨hk,he,hd⟩:=x97 hd
  have hk':(k:Int)<(l.length:Int):=by omega
  have ix:=ha.ix Mp.len hk
  have ld:=x98 (m:=m) Mp.len (by omega) hk
  rw[he]at ld
  have hp:=hin e (he▸xih hk)
  have dt:=w_dot3 d hx hy hz hp.ln hp.sm
  obtain⟨M,hM⟩:∃M:Mem,M=((((m.new (0,fc+1+2,7) (.row [I 0,I 0,I 0,I 0,I 0] 0 false)).set (0,fc+1+2,7) (.row [I e.ln,I e.sm,I e.b0,I e.b1,I e.sc] 0 false)).new (0,fc+1+9,8) (.row [I 0,I 0,I 0] 0 false)).set (0,fc+1+9,8) (.row [I 1,I e.ln,I e.sm] 0 false)):=⟨_,rfl⟩
  have g4:M.get (0,15,4)=some (.row [I x,I y,I z] 0 false):=by rw[hM];simp[h4]
  have g8:M.get (0,fc+1+9,8)=some (.row [I 1,I e.ln,I e.sm] 0 false):=by rw[hM];simp
  simp only[xf]
  unfold x18 x2g x1j
  simp only[x5t,x77,hk',xit,x78,ix,ld]
  simp[Mp.c,z_pt,xbg,xbh]
  rw[<-hM]
  rw[rk2]
  simp[h4,g4,g8,dt]
  by_cases c:x+y*e.ln+z*e.sm=0
  .obtain⟨m',h'⟩:=ih (k+1) j M (fc+1+28+2) hd (by simp at hj;omega) g4
   simp(disch:=omega) [c,x66]
   exact⟨m',by simpa using h'⟩
  .simp[c]
theorem l_rk1(d:Nat)(hs:FHs)(ha:Pts a l)(hl:l.length<=1000)(hin:x5s l){f:Mp}(hf:PtIn f):∀(suf:List Mp) (k j:Nat) (m:Mem) (fc:Nat),l.drop k=suf->suf.length<j->m.get (0,13,3)=some (.row [I 1,I f.ln,I f.sm] 0 false)->m.get (0,15,4)=some (.row [I 0,I 0,I 0] 0 false) ->
 ∃m',xf (x59 (d+1)) hs 0 j (.ptr (0,13,3) 0 0) (.ptr (0,15,4) 0 0) (I 1) a (I l.length) (I k) m fc=some (I (rk1 f suf),m'):=by
 intro suf
 induction suf with
 |nil=>
  intro k j m fc hd hj h3 h4
  obtain⟨j,rfl⟩:∃i,j=i+1:=⟨j-1,by simp at hj;omega⟩
  have hk:¬((k:Int)<(l.length:Int)):=by have:=xjo.mp hd;omega
  simp only[xf]
  unfold x18 x2f
  simp[hk,rk1]
 |cons e r ih=>
  intro k j m fc hd hj h3 h4
  obtain⟨j,rfl⟩:∃i,j=i+1:=⟨j-1,by simp at hj;omega⟩
  obtain⟨hk,he,hd⟩:=x97 hd
  have hk':(k:Int)<(l.length:Int):=by omega
  have ix:=ha.ix Mp.len hk
  have ld:=x98 (m:=m) Mp.len (by omega) hk
  rw[he]at ld
  have hp:=hin e (he▸xih hk)
  have cr:=w_cross3 d hf.ln hf.sm hp.ln hp.sm
  obtain⟨M,hM⟩:∃M:Mem,M=((((m.new (0,fc+1+2,7) (.row [I 0,I 0,I 0,I 0,I 0] 0 false)).set (0,fc+1+2,7) (.row [I e.ln,I e.sm,I e.b0,I e.b1,I e.sc] 0 false)).new (0,fc+1+9,8) (.row [I 0,I 0,I 0] 0 false)).set (0,fc+1+9,8) (.row [I 1,I e.ln,I e.sm] 0 false)):=⟨_,rfl⟩
  have g3:M.get (0,13,3)=some (.row [I 1,I f.ln,I f.sm] 0 false):=by rw[hM];simp[h3]
  have g4:M.get (0,15,4)=some (.row [I 0,I 0,I 0] 0 false):=by rw[hM];simp[h4]
  have g8:M.get (0,fc+1+9,8)=some (.row [I 1,I e.ln,I e.sm] 0 false):=by rw[hM];simp
  simp only[xf]
  unfold x18 x2g x1j
  simp only[x5t,x77,hk',xit,x78,ix,ld]
  simp[Mp.c,z_pt,xbg,xbh]
  rw[<-hM]
  rw[rk1]
  simp[h3,g3,g8,ne_row3]
  by_cases c:e.ln=f.ln/\e.sm=f.sm
  .obtain⟨m',h'⟩:=ih (k+1) j M (fc+1+28+2) hd (by simp at hj;omega) g3 g4
   simp(disch:=omega) [c,x66]
   exact⟨m',by simpa using h'⟩
  .have hx:bd (f.ln*e.sm-f.sm*e.ln) 7938:=((hf.ln.mul hp.sm).sub (hf.sm.mul hp.ln)).mono (by omega)
   have l0:=hf.l0;have l1:=hf.l1;have s0:=hf.s0;have s1:=hf.s1
   have l0':=hp.l0;have l1':=hp.l1;have s0':=hp.s0;have s1':=hp.s1
   obtain⟨m',h'⟩:=l_rk2 d hs ha hl hin (x:=f.ln*e.sm-f.sm*e.ln) (y:=f.sm-e.sm) (z:=e.ln-f.ln) hx (by unfold bd;omega) (by unfold bd;omega) (f:=[]) r (k+1) j (M.set (0,15,4) (.row [I (f.ln*e.sm-f.sm*e.ln),I (f.sm-e.sm),I (e.ln-f.ln)] 0 false)) (fc+1+24+2) hd (by simp at hj;omega) (by simp)
   have hc:(!decide (e.ln=f.ln)||!decide (e.sm=f.sm))=true:=by
    by_cases c1:e.ln=f.ln<;>by_cases c2:e.sm=f.sm<;>simp[c1,c2]at c ⊢
   simp(disch:=omega) [c,hc,g3,g4,g8,cr,x66]
   exact⟨m',by simpa using h'⟩
theorem w_rank3(d:Nat)(ha:Pts a l)(hl:l.length<=1000)(hin:x5s l)(m:Mem):x5c (x59 (d+2)) x10 [a] m=some (I (rkM l),m):=by
 refine x5x (by simp[ha.still]) ?_ m
 rw[x4f]
 unfold x34 x2i
 have hlen:sLen Try.prog x19 a=some (I l.length):=ha.len xf4
 cases l with
 |nil=>
  simp[mem0,hlen]
  exact RetF.st rfl rfl
 |cons f r=>
  have ix:=ha.ix Mp.len (k:=0) (by simp)
  rw[x8o (by simp),xj4]at ix
  simp only[List.getElem_cons_zero,Mp.c,xjf]at ix
  have hf:=hin f (xhs ..)
  have hne:¬((r.length:Int)+1=0):=by omega
  rw[show I ((0:Nat):Int)=I 0 from rfl]at ix
  simp[mem0,hlen,hne,ix,xbg,xbh,tR,x7q,disj,cAp]
  unfold x3s
  obtain⟨m',h'⟩:=l_rk1 d [] ha hl hin hf (f::r) 0 NN ((((⟨[],1⟩:Mem).new (0,13,3) (.row [I 0,I 0,I 0] 0 false)).set (0,13,3) (.row [I 1,I f.ln,I f.sm] 0 false)).new (0,15,4) (.row [I 0,I 0,I 0] 0 false)) (17+3) rfl (by rw[x6l];simp at hl ⊢;omega) (by simp) (by simp)
  rw[show I ((0:Nat):Int)=I 0 from rfl]at h'
  simp only[xhz,Int.natCast_add,Int.natCast_one]at h'
  simp[hlen,h']
  exact RetF.st rfl rfl
def mn(x y:Int):Int:=if y<x then y else x
def x6i(u:List Int)(p:Pq):List Int:=u.map λx=>if x=at0 u p.a.toNat\/x=at0 u p.b.toNat then mn (at0 u p.a.toNat) (at0 u p.b.toNat)else x
def joinsM(u:List Int)(l:List Pq):List Int:=l.foldl x6i u
def freshM(n:Nat):List Int:=(List.range n).map λ(i:Nat)=>(i:Int)
def PqIn(n:Nat)(p:Pq):Prop:=0<=p.a/\p.a<p.b/\p.b<n
structure Lab (n:Nat) (u:List Int):Prop where
 len:u.length=n
 ok:∀v,v<n->0<=at0 u v/\at0 u v<=v/\at0 u (at0 u v).toNat=at0 u v
theorem xf5(u:List Int)(p:Pq):(x6i u p).length=u.length:=by unfold x6i;simp
theorem x8t{u:List Int}{p:Pq}{v:Nat}(h:v<u.length):at0 (x6i u p) v=if at0 u v=at0 u p.a.toNat\/at0 u v=at0 u p.b.toNat then mn (at0 u p.a.toNat) (at0 u p.b.toNat)else at0 u v:=by
 rw[x7k (by rw[xf5];exact h),x7k h]
 unfold x6i
 rw[List.getElem_map]
theorem mn_or(a b:Int):mn a b=a/\a<=b\/mn a b=b/\b<a:=by
 unfold mn
 split
 .right;exact⟨rfl,by assumption⟩
 .left;exact⟨rfl,by omega⟩
theorem Lab.fresh(n:Nat):Lab n (freshM n):=by
 refine⟨by simp[freshM],λv hv=>?_⟩
 have:∀w,w<n->at0 (freshM n) w=w:=λw hw=>by
  rw[x7k (by simpa[freshM]using hw)]
  simp[freshM]
 rw[this v hv]
 refine⟨by omega,by omega,?_⟩
 rw[Int.toNat_natCast,this v hv]
theorem Lab.get_fresh{n v:Nat}(h:v<n):at0 (freshM n) v=v:=by
 rw[x7k (by simpa[freshM]using h)]
 simp[freshM]
theorem Lab.lt{n:Nat}{u:List Int}(h:Lab n u){v:Nat}(hv:v<n):(at0 u v).toNat<n:=by
 have:=h.ok v hv
 omega
theorem Lab.join{n:Nat}{u:List Int}(h:Lab n u){p:Pq}(hp:PqIn n p):Lab n (x6i u p):=by
 obtain⟨h0,h1,h2⟩:=hp
 have ea:=h.ok p.a.toNat (by omega)
 have eb:=h.ok p.b.toNat (by omega)
 refine⟨by rw[xf5];exact h.len,λv hv=>?_⟩
 have ev:=h.ok v hv
 rw[x8t (by rw[h.len];exact hv)]
 obtain⟨m,hm⟩:∃m,m=mn (at0 u p.a.toNat) (at0 u p.b.toNat):=⟨_,rfl⟩
 have hmo:=mn_or (at0 u p.a.toNat) (at0 u p.b.toNat)
 rw[<-hm]at hmo ⊢
 by_cases c:at0 u v=at0 u p.a.toNat\/at0 u v=at0 u p.b.toNat
 .rw[xhk c]
  refine⟨by omega,by omega,?_⟩
  rw[x8t (by rw[h.len];omega),<-hm]
  have:at0 u m.toNat=at0 u p.a.toNat\/at0 u m.toNat=at0 u p.b.toNat:=by
   rcases hmo with ⟨e,-⟩|⟨e,-⟩
   .rw[e,ea.2.2];exact Or.inl rfl
   .rw[e,eb.2.2];exact Or.inr rfl
  rw[xhk this]
 .rw[xhl c]
  refine⟨ev.1,ev.2.1,?_⟩
  rw[x8t (by rw[h.len];omega),ev.2.2,xhl c]
theorem Lab.joins{n:Nat}:∀{l:List Pq} {u:List Int},Lab n u->(∀p∈l,PqIn n p)->Lab n (joinsM u l)
 |[],_,h,_=>h
 |p::l,u,h,hp=>Lab.joins (l:=l) (h.join (hp p (xhs ..))) λq hq=>hp q (xhr _ hq)
def Sm(u:List Int)(v w:Nat):Prop:=at0 u v=at0 u w
theorem join_aux(x y a b m:Int)(hmo:m=a/\a<=b\/m=b/\b<a):((if x=a\/x=b then m else x)=(if y=a\/y=b then m else y))↔(x=y\/(x=a/\y=b)\/(x=b/\y=a)):=by
 by_cases c1:x=a\/x=b<;>by_cases c2:y=a\/y=b<;>(first|rw[xhk c1]|rw[xhl c1])<;>(first|rw[xhk c2]|rw[xhl c2])<;>omega
theorem xcz{n:Nat}{u:List Int}{p:Pq}(h:Lab n u){v w:Nat}(hv:v<n)(hw:w<n) :
 Sm (x6i u p) v w↔Sm u v w\/(Sm u v p.a.toNat/\Sm u w p.b.toNat)\/(Sm u v p.b.toNat/\Sm u w p.a.toNat):=by
 unfold Sm
 rw[x8t (by rw[h.len];exact hv),x8t (by rw[h.len];exact hw)]
 exact join_aux _ _ _ _ _ (mn_or _ _)
theorem join_mono{n:Nat}{u:List Int}{p:Pq}(h:Lab n u){v w:Nat}(hv:v<n)(hw:w<n)(e:Sm u v w):Sm (x6i u p) v w:=(xcz h hv hw).mpr (Or.inl e)
theorem xf6{n:Nat}:∀{l:List Pq} {u:List Int},Lab n u->(∀p∈l,PqIn n p)->∀{v w:Nat},v<n->w<n->Sm u v w->Sm (joinsM u l) v w
 |[],_,_,_,_,_,_,_,e=>e
 |p::l,u,h,hp,v,w,hv,hw,e=>xf6 (l:=l) (h.join (hp p (xhs ..))) (λq hq=>hp q (xhr _ hq)) hv hw (join_mono h hv hw e)
theorem join_ends{n:Nat}{u:List Int}{p:Pq}(h:Lab n u)(hp:PqIn n p):Sm (x6i u p) p.a.toNat p.b.toNat:=by
 obtain⟨h0,h1,h2⟩:=hp
 exact(xcz h (by omega) (by omega)).mpr (Or.inr (Or.inl ⟨rfl,rfl⟩))
theorem xa9{n:Nat}:∀{l:List Pq} {u:List Int},Lab n u->(∀p∈l,PqIn n p)->∀p∈l,Sm (joinsM u l) p.a.toNat p.b.toNat
 |[],_,_,_,p,hp=>by cases hp
 |q::l,u,h,hp,p,hm=>by
  have hq:=hp q (xhs ..)
  have hl:∀p∈l,PqIn n p:=λp h=>hp p (xhr _ h)
  rcases xhu.mp hm with rfl|hm
  .have:PqIn n p:=hq
   obtain⟨h0,h1,h2⟩:=hq
   exact xf6 (l:=l) (h.join this) hl (by omega) (by omega) (join_ends h this)
  .exact xa9 (h.join hq) hl p hm
theorem xd0{n:Nat}{R:Nat->Nat->Prop}(hs:∀{a b},R a b->R b a)(ht:∀{a b c},R a b->R b c->R a c):∀{l:List Pq} {u:List Int},Lab n u->(∀p∈l,PqIn n p)->(∀p∈l,R p.a.toNat p.b.toNat)->(∀v w,v<n->w<n->Sm u v w->R v w)->∀v w,v<n->w<n->Sm (joinsM u l) v w->R v w
 |[],_,_,_,_,h=>h
 |p::l,u,h,hp,hR,hu=>by
  have hq:=hp p (xhs ..)
  refine xd0 (R:=R) hs ht (l:=l) (h.join hq) (λq hq=>hp q (xhr _ hq)) (λq hq=>hR q (xhr _ hq)) λv w hv hw e=>?_
  obtain⟨h0,h1,h2⟩:=hq
  have hr:=hR p (xhs ..)
  rcases(xcz h hv hw).mp e with e|⟨e1,e2⟩|⟨e1,e2⟩
  .exact hu v w hv hw e
  .exact ht (hu v _ hv (by omega) e1) (ht hr (hs (hu w _ hw (by omega) e2)))
  .exact ht (hu v _ hv (by omega) e1) (ht (hs hr) (hs (hu w _ hw (by omega) e2)))
theorem Lab.ext{n:Nat}{u t:List Int}(h:Lab n u)(k:Lab n t)(he:∀v w,v<n->w<n->(Sm u v w↔Sm t v w)):u=t:=by
 apply List.ext_getElem
 .rw[h.len,k.len]
 .intro v hv hv'
  rw[h.len]at hv
  rw[<-x7k,<-x7k]
  have a:=h.ok v hv
  have b:=k.ok v hv
  have e1:at0 t (at0 u v).toNat=at0 t v:=(he _ v (by omega) hv).mp (by unfold Sm;exact a.2.2)
  have e2:at0 u (at0 t v).toNat=at0 u v:=(he _ v (by omega) hv).mpr (by unfold Sm;exact b.2.2)
  have a2:=k.ok (at0 u v).toNat (by omega)
  have b2:=h.ok (at0 t v).toNat (by omega)
  omega
def Indep(u:List Int):List Pq->Prop
 |[]=>True
 |p::l=>¬Sm u p.a.toNat p.b.toNat/\Indep (x6i u p) l
theorem Indep.app{u:List Int}:∀{l k:List Pq} ,Indep u (l++k)↔Indep u l/\Indep (joinsM u l) k:=by
 intro l
 induction l generalizing u with
 |nil=>intro k;simp[Indep,joinsM]
 |cons p l ih=>
  intro k
  simp only[xjf,Indep]
  rw[ih]
  simp[joinsM,and_assoc]
def x6z(n:Nat)(u:List Int):Nat:=((List.range n).filter λ(v:Nat)=>decide (at0 u v=(v:Int))).length
theorem count_ne{n:Nat}{p q:Nat->Bool}{w:Nat}(hw:w<n)(h1:p w=true)(h2:q w=false)(h:∀v,v<n->v≠w->p v=q v):((List.range n).filter p).length=((List.range n).filter q).length+1:=by
 induction n with
 |zero=>omega
 |succ n ih=>
  rw[xku,xkq,xkq,xiw,xiw]
  by_cases c:w=n
  .subst c
   have e:(List.range w).filter p=(List.range w).filter q:=by
    apply List.filter_congr
    intro v hv
    have:=xi3.mp hv
    exact h v (by omega) (by omega)
   rw[e]
   simp[h1,h2]
  .have:=ih (by omega) λv hv=>h v (by omega)
   have e:=h n (by omega) (by omega)
   simp only[List.filter_cons,e,List.filter_nil]
   omega
theorem xd1{n:Nat}{u:List Int}{p:Pq}(h:Lab n u)(hp:PqIn n p)(hne:¬Sm u p.a.toNat p.b.toNat):x6z n u=x6z n (x6i u p)+1:=by
 have hp':=hp
 obtain⟨h0,h1,h2⟩:=hp
 have ea:=h.ok p.a.toNat (by omega)
 have eb:=h.ok p.b.toNat (by omega)
 unfold Sm at hne
 have hmo:=mn_or (at0 u p.a.toNat) (at0 u p.b.toNat)
 obtain⟨w,hw⟩:∃w:Int,w=if at0 u p.b.toNat<at0 u p.a.toNat then at0 u p.a.toNat else at0 u p.b.toNat:=⟨_,rfl⟩
 have hwor:w=at0 u p.a.toNat/\at0 u p.b.toNat<at0 u p.a.toNat\/w=at0 u p.b.toNat/\at0 u p.a.toNat<at0 u p.b.toNat:=by
  rw[hw];split<;>omega
 unfold x6z
 refine count_ne (w:=w.toNat) (by omega) ?_ ?_ λv hv hne'=>?_
 .rw[xl0]
  rcases hwor with ⟨e,-⟩|⟨e,-⟩
  .rw[e,ea.2.2];omega
  .rw[e,eb.2.2];omega
 .rw[decide_eq_false_iff_not,x8t (by rw[h.len];omega)]
  have:at0 u w.toNat=w:=by
   rcases hwor with ⟨e,-⟩|⟨e,-⟩
   .rw[e];exact ea.2.2
   .rw[e];exact eb.2.2
  rw[this,xhk (by omega)]
  omega
 .rw[Bool.eq_iff_iff,xl0,xl0,x8t (by rw[h.len];omega)]
  have ev:=h.ok v hv
  by_cases c:at0 u v=at0 u p.a.toNat\/at0 u v=at0 u p.b.toNat
  .rw[xhk c]
   constructor
   .intro e
    omega
   .intro e
    rcases hmo with ⟨q,-⟩|⟨q,-⟩
    .rw[q]at e;rw[e]at ea;have:=ea.2.2;simpa using this
    .rw[q]at e;rw[e]at eb;have:=eb.2.2;simpa using this
  .rw[xhl c]
theorem xbi{n:Nat}:∀{l:List Pq} {u:List Int},Lab n u->(∀p∈l,PqIn n p)->Indep u l->x6z n u=x6z n (joinsM u l)+l.length
 |[],_,_,_,_=>rfl
 |p::l,u,h,hp,hi=>by
  have hq:=hp p (xhs ..)
  have:=xbi (h.join hq) (λq hq=>hp q (xhr _ hq)) hi.2
  have h1:=xd1 h hq hi.1
  have e:joinsM u (p::l)=joinsM (x6i u p) l:=rfl
  rw[e,xhz]
  omega
theorem xf7(n:Nat):x6z n (freshM n)=n:=by
 unfold x6z
 have:(List.range n).filter (λ(v:Nat)=>decide (at0 (freshM n) v=(v:Int)))=List.range n:=by
  rw[xk7]
  intro v hv
  rw[Lab.get_fresh (xi3.mp hv)]
  simp
 rw[this,List.length_range]
variable{P:List Pq}
def prs(P:List Pq)(F:List Int):List Pq:=F.map (prAt P)
structure For (n:Nat) (P:List Pq) (F:List Int):Prop where
 rng:∀i∈F,0<=i/\i<P.length
 nod:F.Nodup
 ind:Indep (freshM n) (prs P F)
theorem xaa{n:Nat}(hP:∀p∈P,PqIn n p){i:Int}(h:0<=i/\i<P.length):PqIn n (prAt P i):=by
 unfold prAt
 have:i.toNat<P.length:=by omega
 rw[xi7,xi1 this]
 exact hP _ (xih this)
theorem x79{n:Nat}(hP:∀p∈P,PqIn n p){F:List Int}(h:∀i∈F,0<=i/\i<P.length):∀p∈prs P F,PqIn n p:=λp hp=>by
 obtain⟨i,hi,rfl⟩:=xid.mp hp
 exact xaa hP (h i hi)
theorem For.take{n:Nat}{F G:List Int}(h:For n P (F++G)):For n P F:=by
 refine⟨λi hi=>h.rng i (xjg _ hi),(xjh.mp h.nod).1,?_⟩
 have:=h.ind
 unfold prs at this
 rw[xka]at this
 exact(Indep.app.mp this).1
theorem For.cut{n:Nat}(hP:∀p∈P,PqIn n p){F:List Int}(h:For n P F):Cut P F:=by
 have main:∀(k:Nat) (F:List Int),F.length=k->For n P F->Cut P F:=by
  intro k
  induction k with
  |zero=>intro F hl _ i hi;rw[xkp.mp hl]at hi;cases hi
  |succ k ih=>
   intro F hl h
   obtain⟨G,q,rfl⟩:∃G q,F=G++[q]:=by
    have hne:F≠[]:=by rintro rfl;simp at hl
    exact⟨F.dropLast,F.getLast hne,(List.dropLast_concat_getLast hne).symm⟩
   have hG:=h.take
   have hc:=ih G (by simpa using hl) hG
   have hq:=xaa hP (h.rng q (by simp))
   obtain⟨u,hu⟩:∃u,u=joinsM (freshM n) (prs P G):=⟨_,rfl⟩
   have hL:Lab n u:=by rw[hu];exact(Lab.fresh n).joins (x79 hP hG.rng)
   have hind:=h.ind
   unfold prs at hind
   rw[xka]at hind
   have hne:¬Sm u (prAt P q).a.toNat (prAt P q).b.toNat:=by
    have:=(Indep.app.mp hind).2
    rw[show List.map (prAt P) [q]=[prAt P q]from rfl]at this
    rw[hu]
    exact this.1
   have hqG:q∉G:=λhm=>(xjh.mp h.nod).2.2 q hm q (by simp) rfl
   have hends:∀j∈G,Sm u (prAt P j).a.toNat (prAt P j).b.toNat:=λj hj=>by
    rw[hu]
    exact xa9 (Lab.fresh n) (x79 hP hG.rng) _ (xid.mpr ⟨j,hj,rfl⟩)
   unfold Sm at hne hends
   intro i hi
   rcases xij.mp hi with hi|hi
   .obtain⟨s,h1,h2⟩:=hc i hi
    by_cases c:s (prAt P q).a=s (prAt P q).b
    .refine⟨s,h1,λj hj hji=>?_⟩
     rcases xij.mp hj with hj|hj
     .exact h2 j hj hji
     .simp at hj;subst hj;exact c
    .refine⟨λv=>if at0 u v.toNat=at0 u (prAt P q).b.toNat then !(s v)else s v,?_,λj hj hji=>?_⟩
     .have:=hends i hi
      simp only
      rw[this]
      split
      .simpa using h1
      .exact h1
     .simp only
      rcases xij.mp hj with hj|hj
      .have:=hends j hj
       rw[this,h2 j hj hji]
      .simp at hj;subst hj
       rw[xhl hne,xhk rfl]
       cases h3:s (prAt P j).a<;>cases h4:s (prAt P j).b<;>simp_all
   .simp at hi;subst hi
    refine⟨λv=>decide (at0 u v.toNat=at0 u (prAt P i).a.toNat),?_,λj hj hji=>?_⟩
    .simp[Ne.symm hne]
    .rcases xij.mp hj with hj|hj
     .simp only;rw[hends j hj]
     .simp at hj;exact absurd hj hji
 exact main _ F rfl h
theorem join_walk{n:Nat}(hP:∀p∈P,PqIn n p){F:List Int}(hr:∀i∈F,0<=i/\i<P.length):∀{v w:Nat},v<n->w<n->Sm (joinsM (freshM n) (prs P F)) v w->∃l,Wk P l v w/\AllF F l:=by
 intro v w hv hw hs
 let R:Nat->Nat->Prop:=λv w=>∃l,Wk P l v w/\AllF F l
 have hsym:∀{a b},R a b->R b a:=λ⟨l,h1,h2⟩=>by
  obtain⟨v,h3,h4⟩:=h1.back h2
  exact⟨v,h3,h4⟩
 have htr:∀{a b c},R a b->R b c->R a c:=λ⟨l,h1,h2⟩ ⟨k,h3,h4⟩=>⟨l++k,h1.app h3,h2.app h4⟩
 refine xd0 (R:=R) hsym htr (Lab.fresh n) (x79 hP hr) (λp hp=>?_) (λv w hv hw e=>?_) v w hv hw hs
 .obtain⟨i,hi,rfl⟩:=xid.mp hp
  have hq:=xaa hP (hr i hi)
  obtain⟨h0,h1,h2⟩:=hq
  refine⟨[⟨i,1⟩],⟨?_,?_⟩,λx hx=>?_⟩
  .unfold frS;simp;omega
  .show toS P ⟨i,1⟩=_
   unfold toS;simp;omega
  .simp at hx;subst hx;exact⟨hi,Or.inl rfl⟩
 .unfold Sm at e
  rw[Lab.get_fresh hv,Lab.get_fresh hw]at e
  exact⟨[],by show(v:Int)=w;exact e,λ_ h=>by cases h⟩
theorem For.len{n:Nat}(hP:∀p∈P,PqIn n p){F:List Int}(h:For n P F):F.length<=n:=by
 have:=xbi (Lab.fresh n) (x79 hP h.rng) h.ind
 rw[xf7]at this
 have e:(prs P F).length=F.length:=by unfold prs;simp
 omega
end Go.Ix
